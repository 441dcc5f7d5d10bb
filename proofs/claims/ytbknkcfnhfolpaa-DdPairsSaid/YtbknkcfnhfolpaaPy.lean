/-
  math.Abs; ref09's Mul of whatever numbers; far: what they return.
-/
import Derived.Test.YtbknkcfnhfolpaaWi
import Derived.Test.YtbknkcfnhfolpaaPx
set_option exponentiation.threshold 9000
namespace Go.Proofs.Ytbknkcfnhfolpaa
open Go.RowKit Rn

theorem abs_bits {b : Nat} (h : b < 2 ^ 64) : bits .andNot .u64 (b : Int) 9223372036854775808 = ((b % 2 ^ 63 : Nat) : Int) := by
  rw [u64_andNot _ _ (by omega) (by omega) (by omega) (by omega)]
  congr 1
  exact Nat.and_two_pow_sub_one_eq_mod _ 63

set_option maxHeartbeats 1000000 in
theorem abs_any {b : Nat} (h : b < 2 ^ 64) (w : World) : Calls Try.prog 19 #[.float .f64 b] w fun e w' => e = .returned (.float .f64 (b % 2 ^ 63)) ∧ w = w' := by
  have h1 := abs_bits h
  generalize b % 2 ^ 63 = c at *
  clear h
  go_enter Try.func19, Try.ntmps19
  go_wp2
  go_ret
  exact ⟨rfl, rfl⟩

theorem nz_exp {ng : Bool} {m : Nat} {e : Int} {X : Int} (h : nv ng m e = X * 2 ^ 4926) (hX : X ≠ 0) (hs : X.natAbs ≤ 2 ^ 2098) : e ≤ 2200 := by
  have h1 := nv_abs ng m e
  rw [h, Int.natAbs_mul, Int.natAbs_pow, show (2 : Int).natAbs = 2 from rfl] at h1
  have hm : m ≠ 0 := by
    rintro rfl
    rw [Nat.zero_mul] at h1
    have := Nat.mul_pos (Int.natAbs_pos.2 hX) (Nat.two_pow_pos 4926)
    omega
  have h2 : 2 ^ (e + 6000).toNat ≤ X.natAbs * 2 ^ 4926 := by rw [h1]; exact Nat.le_mul_of_pos_left _ (by omega)
  have h3 := Nat.le_trans h2 (Nat.mul_le_mul_right _ hs)
  rw [← Nat.pow_add] at h3
  have := (Nat.pow_le_pow_iff_right (a := 2) (by omega)).1 h3
  omega

set_option maxHeartbeats 8000000 in
theorem mul09_nz {u v : Value} {w : World} {X Y : Int} (hu : NZ w u (X * 2 ^ 4926) (-1074)) (hv : NZ w v (Y * 2 ^ 4926) (-1074)) (hX0 : X ≠ 0) (hY0 : Y ≠ 0) (sX : X.natAbs ≤ 2 ^ 2098) (sY : Y.natAbs ≤ 2 ^ 2098) (hX : Bz (X * 2 ^ 4926)) (hY : Bz (Y * 2 ^ 4926)) :
    Calls Try.prog 14 #[u, v] w (RetNZ (X * Y * 2 ^ 3852) (-2148) w) := by
  obtain ⟨na, ma, ea, ⟨sa, rfl, da⟩, a1, a2', a3⟩ := hu
  obtain ⟨nb, mb, eb, ⟨sb, rfl, db⟩, b1, b2', b3⟩ := hv
  have a2 := nz_exp a3 hX0 sX
  have b2 := nz_exp b3 hY0 sY
  clear a2' b2' hX0 hY0 sX sY
  have ST := Lib.hid (AddM.start (na := na) (nb := nb) (ea := ea) (eb := eb) da db)
  have HP := Lib.hid (nv_prod a1 b1 a3 b3)
  have LA := Lib.hid (sm_self (by rw [a3]; exact hX) (by omega : -6000 ≤ ea))
  have LB := Lib.hid (sm_self (by rw [b3]; exact hY) (by omega : -6000 ≤ eb))
  obtain ⟨a, k, c, rfl, -⟩ := da.form
  obtain ⟨a', k', c', rfl, -⟩ := db.form
  have HMUL : Hid (∀ w (h : Dg w (.slice a k c) ma) (h' : Dg w (.slice a' k' c') mb), Calls Try.prog 33 #[.slice a k c, .slice a' k' c'] w fun e w' => ∃ u, e = .returned u ∧ Dg w' u (ma * mb) ∧ Below w.heap.size w w') := fun w h h' => mul_any h h' LA.out LB.out
  clear da db hX hY a3 b3
  generalize X * Y * 2 ^ 3852 = Z at *
  have q1 : IntKind.i64.wrap (ea + eb) = ea + eb := IntWalk.i64_in _ (by omega)
  go_enter Try.func14, Try.ntmps14
  go_upto_region 1 with (fail)
  generalize (World.alloc (World.alloc (World.alloc _ _) _) _) = w1 at ST ⊢
  have F0 := Lib.hid ST.out.cells6
  have HF := Lib.hid ST.out.drew
  have F1 := Lib.hid HF.out.cells6
  obtain ⟨x0, x1, x2, y0, y1, y2⟩ := F0.out
  go_region_held3 (fun w' => w'.cell? ⟨w.heap.size, 0, none⟩ = some (.bool na) ∧ w'.cell? ⟨w.heap.size, 1, none⟩ = some (.slice a k c) ∧ w'.cell? ⟨w.heap.size, 2, none⟩ = some (.int .i64 ea) ∧ w'.cell? ⟨w.heap.size + 1, 0, none⟩ = some (.bool nb) ∧ w'.cell? ⟨w.heap.size + 1, 1, none⟩ = some (.slice a' k' c') ∧ w'.cell? ⟨w.heap.size + 1, 2, none⟩ = some (.int .i64 eb)) (first | exact F0.out | exact F1.out | exact FD.out | exact st3_six (by omega) (by omega) FD.out) (first | (go_at_call 33; (with_reducible refine (HMUL.out _ HF.out.a HF.out.c).mono ?_); rintro r w3 ⟨u, rfl, hd, hb⟩; obtain ⟨ua, uk, uc, rfl, -⟩ := hd.form; have HM := Lib.hid (HF.out.below hb); have HU := Lib.hid hd; have FD := Lib.hid HM.out.cells6; obtain ⟨r0, r1, r2, z0, z1, z2⟩ := HM.out.rcells))
  all_goals go_wp2
  obtain ⟨p1, p2, p3⟩ := HM.out.fin (ng := !(na == nb)) (e := ea + eb) HU.out
  generalize (World.setCell (World.setCell (World.setCell _ _ _) _ _) _ _) = W at p1 p2 p3 ⊢
  obtain ⟨g0, g1, g2⟩ := results_agg3 p1
  exact bodyPost_ret (v := .agg #[.bool (!(na == nb)), .slice ua uk uc, .int .i64 (ea + eb)]) (by simp [results, Try.results14, go_sem, g0, g1, g2]) rfl ⟨_, rfl, ⟨!(na == nb), ma * mb, ea + eb, p3, by omega, by omega, HP.out⟩, p2⟩

/-- far's memory -/
structure FarM (na nb : Bool) (a b : Option Addr) (k l c d : Nat) (ea eb z1 z2 : Int) (w wr : World) : Prop where
  x : Blk wr w.heap.size 32 #[.bool na, .slice a k c, .int .i64 ea]
  y : Blk wr (w.heap.size + 1) 32 #[.bool nb, .slice b l d, .int .i64 eb]
  u : NZ wr (.agg #[.bool na, .slice a k c, .int .i64 ea]) z1 (-1074)
  v : NZ wr (.agg #[.bool nb, .slice b l d, .int .i64 eb]) z2 (-1074)
  b : Below w.heap.size w wr
section
variable {na nb : Bool} {a b : Option Addr} {k l c d : Nat} {ea eb z1 z2 : Int} {w wr : World}
theorem FarM.below {w' : World} (h : FarM na nb a b k l c d ea eb z1 z2 w wr) (hb : Below wr.heap.size wr w') : FarM na nb a b k l c d ea eb z1 z2 w w' := ⟨h.x.below hb, h.y.below hb, h.u.below hb, h.v.below hb, h.b.trans (hb.mono h.b.size)⟩
theorem FarM.drew (h : FarM na nb a b k l c d ea eb z1 z2 w wr) : FarM na nb a b k l c d ea eb z1 z2 w wr.drew := ⟨h.x, h.y, h.u, h.v, below_drewN' h.b 1⟩
theorem FarM.cells (h : FarM na nb a b k l c d ea eb z1 z2 w wr) :
    wr.cell? ⟨w.heap.size, 0, none⟩ = some (.bool na) ∧ wr.cell? ⟨w.heap.size, 1, none⟩ = some (.slice a k c) ∧ wr.cell? ⟨w.heap.size, 2, none⟩ = some (.int .i64 ea) ∧ wr.cell? ⟨w.heap.size + 1, 0, none⟩ = some (.bool nb) ∧ wr.cell? ⟨w.heap.size + 1, 1, none⟩ = some (.slice b l d) ∧ wr.cell? ⟨w.heap.size + 1, 2, none⟩ = some (.int .i64 eb) :=
  ⟨h.x.at 0 (.bool na) rfl, h.x.at 1 (.slice a k c) rfl, h.x.at 2 (.int .i64 ea) rfl, h.y.at 0 (.bool nb) rfl, h.y.at 1 (.slice b l d) rfl, h.y.at 2 (.int .i64 eb) rfl⟩
theorem FarM.start (h1 : NZ w (.agg #[.bool na, .slice a k c, .int .i64 ea]) z1 (-1074)) (h2 : NZ w (.agg #[.bool nb, .slice b l d, .int .i64 eb]) z2 (-1074)) :
    FarM na nb a b k l c d ea eb z1 z2 w ((w.alloc (.cells #[.bool na, .slice a k c, .int .i64 ea] 32)).alloc (.cells #[.bool nb, .slice b l d, .int .i64 eb] 32)) := by
  refine ⟨(Blk.new w 32 _).alloc _, ?_, (h1.alloc _).alloc _, (h2.alloc _).alloc _, ((Below.refl _ _).alloc (Nat.le_refl _) _).alloc (by simp) _⟩
  have := Blk.new (w.alloc (.cells #[.bool na, .slice a k c, .int .i64 ea] 32)) 32 #[.bool nb, .slice b l d, .int .i64 eb]
  rwa [show (w.alloc (.cells #[.bool na, .slice a k c, .int .i64 ea] 32)).heap.size = w.heap.size + 1 by simp] at this
end

def farB (z1 z2 : Int) : Bool := decide (z1 = 0) || decide (z2 = 0) || decide ((bl z1.natAbs : Int) - 6001 + ((bl z2.natAbs : Int) - 6001) < -700) || decide (900 < (bl z1.natAbs : Int) - 6001 + ((bl z2.natAbs : Int) - 6001))

set_option maxRecDepth 100000 in
set_option maxHeartbeats 8000000 in
theorem far_any {u v : Value} {w : World} {z1 z2 : Int} (hu : NZ w u z1 (-1074)) (hv : NZ w v z2 (-1074)) (h1 : Bz z1) (h2 : Bz z2) :
    Calls Try.prog 24 #[u, v] w fun q w' => q = .returned (.bool (farB z1 z2)) ∧ Below w.heap.size w w' := by
  obtain ⟨na, a, k, c, ea, rfl, hk⟩ := hu.len
  obtain ⟨nb, b, l, d, eb, rfl, hl⟩ := hv.len
  have HM := Lib.hid (FarM.start hu hv)
  by_cases e1 : z1 = 0
  · have hR : Hid (farB z1 z2 = true) := by unfold farB; rw [decide_eq_true e1]; rfl
    obtain rfl := hk.1 e1
    clear hu hv hk hl h1 h2 e1
    generalize farB z1 z2 = R at *
    go_enter Try.func24, Try.ntmps24
    go_upto_region 1 with (fail)
    generalize (World.alloc (World.alloc _ _) _) = w1 at HM ⊢
    have F0 := Lib.hid HM.out.cells
    have F1 := Lib.hid HM.out.drew.cells
    obtain ⟨x0, x1, x2, y0, y1, y2⟩ := F0.out
    go_quiet (fail)
    all_goals go_wp2_with fail
    all_goals go_ret
    all_goals exact ⟨ret_eq (congrArg Value.bool hR.out.symm), below_drewN' HM.out.b _⟩
  by_cases e2 : z2 = 0
  · have hR : Hid (farB z1 z2 = true) := by unfold farB; rw [decide_eq_false e1, decide_eq_true e2]; rfl
    obtain rfl := hl.1 e2
    have hk0 : k ≠ 0 := fun h => e1 (hk.2 h)
    have t0 : ((k : Int) == 0) = false := by rw [beq_eq_false_iff_ne]; omega
    clear hu hv hk hl h1 h2 e1 e2
    generalize farB z1 z2 = R at *
    go_enter Try.func24, Try.ntmps24
    go_upto_region 1 with (fail)
    generalize (World.alloc (World.alloc _ _) _) = w1 at HM ⊢
    have F0 := Lib.hid HM.out.cells
    have F1 := Lib.hid HM.out.drew.cells
    obtain ⟨x0, x1, x2, y0, y1, y2⟩ := F0.out
    go_quiet (fail)
    all_goals go_wp2_with fail
    all_goals go_ret
    all_goals exact ⟨ret_eq (congrArg Value.bool hR.out.symm), below_drewN' HM.out.b _⟩
  have hk0 : k ≠ 0 := fun h => e1 (hk.2 h)
  have hl0 : l ≠ 0 := fun h => e2 (hl.2 h)
  have t0 : ((k : Int) == 0) = false := by rw [beq_eq_false_iff_ne]; omega
  have t1 : ((l : Int) == 0) = false := by rw [beq_eq_false_iff_ne]; omega
  have T1 : Hid (∀ w, NZ w (.agg #[.bool na, .slice a k c, .int .i64 ea]) z1 (-1074) → Calls Try.prog 15 #[.agg #[.bool na, .slice a k c, .int .i64 ea]] w fun q w' => q = .returned (.int .i64 ((bl z1.natAbs : Int) - 6001)) ∧ Below w.heap.size w w') := fun w h => topz_any h (by omega) h1 e1
  have T2 : Hid (∀ w, NZ w (.agg #[.bool nb, .slice b l d, .int .i64 eb]) z2 (-1074) → Calls Try.prog 15 #[.agg #[.bool nb, .slice b l d, .int .i64 eb]] w fun q w' => q = .returned (.int .i64 ((bl z2.natAbs : Int) - 6001)) ∧ Below w.heap.size w w') := fun w h => topz_any h (by omega) h2 e2
  have hR : Hid (farB z1 z2 = (decide ((bl z1.natAbs : Int) - 6001 + ((bl z2.natAbs : Int) - 6001) < -700) || decide (900 < (bl z1.natAbs : Int) - 6001 + ((bl z2.natAbs : Int) - 6001)))) := by unfold farB; rw [decide_eq_false e1, decide_eq_false e2]; rfl
  have b1 : (bl z1.natAbs : Int) ≤ 100000 := by unfold Bz at h1; omega
  have b2 : (bl z2.natAbs : Int) ≤ 100000 := by unfold Bz at h2; omega
  obtain ⟨A, hA⟩ : ∃ A : Int, A = (bl z1.natAbs : Int) - 6001 := ⟨_, rfl⟩
  obtain ⟨B, hB⟩ : ∃ B : Int, B = (bl z2.natAbs : Int) - 6001 := ⟨_, rfl⟩
  rw [← hA] at T1 hR; rw [← hB] at T2 hR
  obtain ⟨S, hS⟩ : ∃ S : Int, S = A + B := ⟨_, rfl⟩
  have qq : IntKind.i64.wrap (A + B) = S := (IntWalk.i64_in _ (by omega)).trans hS.symm
  clear hu hv hk hl h1 h2 e1 e2 b1 b2 hA hB hk0 hl0
  generalize farB z1 z2 = R at *
  rw [← hS] at hR
  clear hS
  by_cases c1 : S < -700
  · have d1 : decide (S < -700) = true := decide_eq_true c1
    have hR' : Hid (R = true) := by rw [Hid, hR.out, d1]; rfl
    clear hR c1
    go_enter Try.func24, Try.ntmps24
    go_upto_region 1 with (fail)
    generalize (World.alloc (World.alloc _ _) _) = w1 at HM ⊢
    have F0 := Lib.hid HM.out.cells
    have S0 := Lib.hid HM.out.drew
    have F1 := Lib.hid S0.out.cells
    obtain ⟨x0, x1, x2, y0, y1, y2⟩ := F0.out
    obtain ⟨u0, u1, u2, u3, u4, u5⟩ := F1.out
    go_region_with (first | (have RR := S1.out; go_at_call 15; (with_reducible refine (T2.out _ RR.v).mono ?_); rintro q v2 ⟨rfl, hb⟩; have S2 := Lib.hid (RR.below hb); obtain ⟨b0, b1, b2, b3, b4, b5⟩ := S2.out.cells; clear hb RR) | (have RR := S0.out; go_at_call 15; (with_reducible refine (T1.out _ RR.u).mono ?_); rintro q v1 ⟨rfl, hb⟩; have S1 := Lib.hid (RR.below hb); obtain ⟨a0, a1, a2, a3, a4, a5⟩ := S1.out.cells; clear hb RR))
    all_goals go_wp2_with fail
    all_goals go_ret
    all_goals exact ⟨ret_eq (congrArg Value.bool hR'.out.symm), S2.out.b⟩
  · have d1 : decide (S < -700) = false := decide_eq_false c1
    obtain ⟨D, hD⟩ : ∃ D : Bool, decide (900 < S) = D := ⟨_, rfl⟩
    have hR' : Hid (R = D) := by rw [Hid, hR.out, d1, hD]; rfl
    clear hR c1
    go_enter Try.func24, Try.ntmps24
    go_upto_region 1 with (fail)
    generalize (World.alloc (World.alloc _ _) _) = w1 at HM ⊢
    have F0 := Lib.hid HM.out.cells
    have S0 := Lib.hid HM.out.drew
    have F1 := Lib.hid S0.out.cells
    obtain ⟨x0, x1, x2, y0, y1, y2⟩ := F0.out
    go_region_held3 (fun w' => w'.cell? ⟨w.heap.size, 0, none⟩ = some (.bool na) ∧ w'.cell? ⟨w.heap.size, 1, none⟩ = some (.slice a k c) ∧ w'.cell? ⟨w.heap.size, 2, none⟩ = some (.int .i64 ea) ∧ w'.cell? ⟨w.heap.size + 1, 0, none⟩ = some (.bool nb) ∧ w'.cell? ⟨w.heap.size + 1, 1, none⟩ = some (.slice b l d) ∧ w'.cell? ⟨w.heap.size + 1, 2, none⟩ = some (.int .i64 eb)) (first | exact F0.out | exact F1.out | exact FF1.out | exact FF2.out | exact FF3.out | exact FF4.out) (first | (have RR := S3.out; go_at_call 15; (with_reducible refine (T2.out _ RR.v).mono ?_); rintro q v4 ⟨rfl, hb⟩; have S4 := Lib.hid (RR.below hb); have FF4 := Lib.hid S4.out.cells; clear hb RR) | (have RR := S2.out; go_at_call 15; (with_reducible refine (T1.out _ RR.u).mono ?_); rintro q v3 ⟨rfl, hb⟩; have S3 := Lib.hid (RR.below hb); have FF3 := Lib.hid S3.out.cells; clear hb RR) | (have RR := S1.out; go_at_call 15; (with_reducible refine (T2.out _ RR.v).mono ?_); rintro q v2 ⟨rfl, hb⟩; have S2 := Lib.hid (RR.below hb); have FF2 := Lib.hid S2.out.cells; clear hb RR) | (have RR := S0.out; go_at_call 15; (with_reducible refine (T1.out _ RR.u).mono ?_); rintro q v1 ⟨rfl, hb⟩; have S1 := Lib.hid (RR.below hb); have FF1 := Lib.hid S1.out.cells; clear hb RR))
    all_goals go_wp2_with fail
    all_goals go_ret
    all_goals exact ⟨ret_eq (congrArg Value.bool hR'.out.symm), S4.out.b⟩

end Go.Proofs.Ytbknkcfnhfolpaa
