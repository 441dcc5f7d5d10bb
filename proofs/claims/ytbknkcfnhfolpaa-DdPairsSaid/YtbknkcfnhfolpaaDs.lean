/-
  The law's nearest and whole: what they return.
-/
import Derived.Test.YtbknkcfnhfolpaaDr
set_option exponentiation.threshold 9000
namespace Go.Proofs.Ytbknkcfnhfolpaa
open Go.RowKit Rn

theorem same_word {b c : Nat} (hb : Num b) (hc : Num c) (h : val b = val c) : b = c ∨ (b = 0 ∧ c = 9223372036854775808) ∨ (b = 9223372036854775808 ∧ c = 0) := by
  have h1 := natAbs_val b
  have h2 := natAbs_val c
  rw [h] at h1
  have h3 := magn_inj (h1.symm.trans h2)
  have b1 := hb.1
  have c1 := hc.1
  by_cases h0 : val b = 0
  · rw [← h, h0] at h1 h2
    have h4 : magn (b % 2 ^ 63) = magn 0 := by rw [magn_zero]; simpa using h1.symm
    have h5 := magn_inj h4
    omega
  · have n1 := negW_eq h0
    have n2 := negW_eq (w := c) (by rw [← h]; exact h0)
    rw [← h, ← n1] at n2
    unfold negW at n2
    rw [Bool.eq_iff_iff, beq_iff_eq, beq_iff_eq] at n2
    omega

set_option maxHeartbeats 2000000 in
theorem nearest_any {c : Nat} {v : Value} {w : World} {A lo : Int} (h : NZ w v (A * 2 ^ 4926) lo) (hlo : -6000 ≤ lo) (hlo2 : lo ≤ -1075) (hA : A.natAbs ≤ 2 ^ 2097) (hc : Num c) (hv : val c = rn A) :
    Calls Try.prog 17 #[.float .f64 c, v] w fun q w' => q = .returned (.bool true) ∧ Below w.heap.size w w' := by
  obtain ⟨ng, a, k, cc, e, rfl⟩ := h.form
  have HT : Hid (∀ w, NZ w (.agg #[.bool ng, .slice a k cc, .int .i64 e]) (A * 2 ^ 4926) lo → Calls Try.prog 34 #[.agg #[.bool ng, .slice a k cc, .int .i64 e], .bool false, .int .i64 0] w (RetTo A w)) := fun w h => to_any07 h hlo hlo2 hA
  have HN := Lib.hid h
  have HW : Hid (∀ b, Num b → val b = rn A → b = c ∨ (b = 0 ∧ c = 9223372036854775808) ∨ (b = 9223372036854775808 ∧ c = 0)) := fun b h1 h2 => same_word h1 hc (by rw [h2, hv])
  clear h hlo hlo2 hA hc hv
  go_enter Try.func17, Try.ntmps17
  go_wp2_with fail
  refine (HT.out _ (HN.out.alloc _)).mono ?_
  rintro q w1 ⟨b, f, rfl, hb, h1, h2⟩
  have HB : Hid (Below w.heap.size w w1) := ((Below.refl _ _).alloc (Nat.le_refl _) _).trans (hb.mono (by simp))
  have ho := HW.out b h1 h2
  clear hb h1 h2 HT HN HW
  rcases ho with rfl | ⟨rfl, rfl⟩ | ⟨rfl, rfl⟩
  · go_wp2
    go_ret
    exact ⟨rfl, HB.out⟩
  · go_wp2
    go_ret
    exact ⟨rfl, HB.out⟩
  · go_wp2
    go_ret
    exact ⟨rfl, HB.out⟩

/-- whole's memory -/
structure WhM (x y : Nat) (ng : Bool) (a : Option Addr) (k c : Nat) (e z lo : Int) (w wr : World) : Prop where
  p : Blk wr w.heap.size 28 #[.float .f64 x, .float .f64 y]
  n : Blk wr (w.heap.size + 1) 32 #[.bool ng, .slice a k c, .int .i64 e]
  v : NZ wr (.agg #[.bool ng, .slice a k c, .int .i64 e]) z lo
  b : Below w.heap.size w wr
theorem WhM.below {x y : Nat} {ng : Bool} {a : Option Addr} {k c : Nat} {e z lo : Int} {w wr w' : World} (h : WhM x y ng a k c e z lo w wr) (hb : Below wr.heap.size wr w') : WhM x y ng a k c e z lo w w' :=
  ⟨h.p.below hb, h.n.below hb, h.v.below hb, h.b.trans (hb.mono h.b.size)⟩
theorem WhM.drew {x y : Nat} {ng : Bool} {a : Option Addr} {k c : Nat} {e z lo : Int} {w wr : World} (h : WhM x y ng a k c e z lo w wr) : WhM x y ng a k c e z lo w wr.drew := ⟨h.p, h.n, h.v, below_drewN' h.b 1⟩
theorem WhM.cells {x y : Nat} {ng : Bool} {a : Option Addr} {k c : Nat} {e z lo : Int} {w wr : World} (h : WhM x y ng a k c e z lo w wr) :
    wr.cell? ⟨w.heap.size, 0, none⟩ = some (.float .f64 x) ∧ wr.cell? ⟨w.heap.size, 1, none⟩ = some (.float .f64 y) ∧ wr.cell? ⟨w.heap.size + 1, 0, none⟩ = some (.bool ng) ∧ wr.cell? ⟨w.heap.size + 1, 1, none⟩ = some (.slice a k c) ∧ wr.cell? ⟨w.heap.size + 1, 2, none⟩ = some (.int .i64 e) :=
  ⟨h.p.at 0 (.float .f64 x) rfl, h.p.at 1 (.float .f64 y) rfl, h.n.at 0 (.bool ng) rfl, h.n.at 1 (.slice a k c) rfl, h.n.at 2 (.int .i64 e) rfl⟩
theorem WhM.start {x y : Nat} {ng : Bool} {a : Option Addr} {k c : Nat} {e z lo : Int} {w : World} (h : NZ w (.agg #[.bool ng, .slice a k c, .int .i64 e]) z lo) :
    WhM x y ng a k c e z lo w ((w.alloc (.cells #[.float .f64 x, .float .f64 y] 28)).alloc (.cells #[.bool ng, .slice a k c, .int .i64 e] 32)) := by
  refine ⟨(Blk.new w 28 _).alloc _, ?_, (h.alloc _).alloc _, ((Below.refl _ _).alloc (Nat.le_refl _) _).alloc (by simp) _⟩
  have := Blk.new (w.alloc (.cells #[.float .f64 x, .float .f64 y] 28)) 32 #[.bool ng, .slice a k c, .int .i64 e]
  rwa [show (w.alloc (.cells #[.float .f64 x, .float .f64 y] 28)).heap.size = w.heap.size + 1 by simp] at this

theorem bz_val {x : Nat} (h : Num x) : Bz (val x * 2 ^ 4926) := by
  have h1 : (val x * 2 ^ 4926).natAbs = ((magn (x % 2 ^ 63) : Int) * 2 ^ 4926).natAbs := by
    rw [Int.natAbs_mul, Int.natAbs_mul, natAbs_val]; rfl
  have h2 := bz_magn (Nat.le_of_lt h.2)
  unfold Bz at *
  rw [h1]; exact h2
theorem bz_add {a b : Int} (ha : a.natAbs ≤ 2 ^ 2098) (hb : b.natAbs ≤ 2 ^ 2098) : Bz ((a + b) * 2 ^ 4926) := by
  unfold Bz
  rw [Int.natAbs_mul, Int.natAbs_pow]
  refine Nat.le_trans (bl_le (k := 7026) ?_) (by decide)
  rw [show (7026 : Nat) = 2100 + 4926 by rfl, Nat.pow_add]
  refine Nat.mul_lt_mul_of_pos_right ?_ (Nat.two_pow_pos _)
  rw [show (2100 : Nat) = 2098 + 2 by rfl, Nat.pow_add]
  have := Nat.two_pow_pos 2098
  generalize 2 ^ 2098 = P at *
  omega
theorem val_le {x : Nat} (h : Num x) : (val x).natAbs ≤ 2 ^ 2098 := by
  rw [natAbs_val, ← magn_inf]; exact magn_le (Nat.le_of_lt h.2)
theorem num_kind {x : Nat} (h : Num x) : decide (kindN x ≤ 2) = true := decide_eq_true (kind_le.2 ((num_iff h.1).1 h))

set_option maxRecDepth 100000 in
set_option maxHeartbeats 8000000 in
theorem whole_any {x y : Nat} {v : Value} {w : World} {z lo : Int} (h : NZ w v z lo) (hlo : -6000 ≤ lo) (hlo2 : lo ≤ -1074) (hx : Num x) (hy : Num y) (hz : z = (val x + val y) * 2 ^ 4926) :
    Calls Try.prog 12 #[.agg #[.float .f64 x, .float .f64 y], v] w fun q w' => q = .returned (.bool true) ∧ Below w.heap.size w w' := by
  obtain ⟨ng, a, k, c, e, rfl⟩ := h.form
  have HM := Lib.hid (WhM.start (x := x) (y := y) h)
  have FX : Hid (∀ w, Calls Try.prog 31 #[.float .f64 x] w fun q w' => q = .returned (.bool true) ∧ w = w') := fun w => num_kind hx ▸ finite_any hx.1 w
  have FY : Hid (∀ w, Calls Try.prog 31 #[.float .f64 y] w fun q w' => q = .returned (.bool true) ∧ w = w') := fun w => num_kind hy ▸ finite_any hy.1 w
  have WX : Hid (∀ w, Calls Try.prog 11 #[.float .f64 x] w (RetNO (val x * 2 ^ 4926) (-1074) w)) := fun w => lworth_any hx.1 w
  have WY : Hid (∀ w, Calls Try.prog 11 #[.float .f64 y] w (RetNO (val y * 2 ^ 4926) (-1074) w)) := fun w => lworth_any hy.1 w
  have CA : Hid (∀ w u t, NO w u (val x * 2 ^ 4926) (-1074) → NO w t (val y * 2 ^ 4926) (-1074) → Calls Try.prog 20 #[u, t] w (RetNZ z (-1074) w)) := fun w u t h1 h2 => by
    rw [hz, Int.add_mul]; exact add_any' h1.nz h2.nz (by omega) (bz_val hx) (bz_val hy)
  have hzb : Bz z := by rw [hz]; exact bz_add (val_le hx) (val_le hy)
  have CC : Hid (∀ w u, NZ w u z (-1074) → NZ w (.agg #[.bool ng, .slice a k c, .int .i64 e]) z lo → Calls Try.prog 32 #[u, .agg #[.bool ng, .slice a k c, .int .i64 e]] w fun q w' => q = .returned (.int .i64 0) ∧ Below w.heap.size w w') := fun w u h1 h2 => by
    have h3 := cmp_any' (lo := lo) (by obtain ⟨n', m, e, a1, a2, a3⟩ := h1; exact ⟨n', m, e, a1, by omega, a3⟩) h2 hlo hzb hzb
    rwa [cmpZ_eq rfl] at h3
  clear h hlo hlo2 hx hy hz hzb
  generalize val x * 2 ^ 4926 = ZX at *
  generalize val y * 2 ^ 4926 = ZY at *
  go_enter Try.func12, Try.ntmps12
  go_upto_region 1 with (fail)
  generalize (World.alloc (World.alloc _ _) _) = w1 at HM ⊢
  have F0 := Lib.hid HM.out.cells
  have F1 := Lib.hid HM.out.drew.cells
  obtain ⟨x0, x1, x2, x3, x4⟩ := F0.out
  go_region_held3 (fun w' => w'.cell? ⟨w.heap.size, 0, none⟩ = some (.float .f64 x) ∧ w'.cell? ⟨w.heap.size, 1, none⟩ = some (.float .f64 y) ∧ w'.cell? ⟨w.heap.size + 1, 0, none⟩ = some (.bool ng) ∧ w'.cell? ⟨w.heap.size + 1, 1, none⟩ = some (.slice a k c) ∧ w'.cell? ⟨w.heap.size + 1, 2, none⟩ = some (.int .i64 e)) (first | exact F0.out | exact F1.out | exact FA.out | exact FB.out | exact FC.out | exact FD.out | exact FE.out) (first | (go_at_call 31; (with_reducible refine (FX.out _).mono ?_); rintro q w' ⟨rfl, rfl⟩) | (go_at_call 31; (with_reducible refine (FY.out _).mono ?_); rintro q w' ⟨rfl, rfl⟩) | (go_at_call 11; (with_reducible refine (WY.out _).mono ?_); rintro q w3 ⟨u, rfl, hu, hb⟩; have HXX := Lib.hid (And.intro (SA.out.1.below hb) (And.intro (SA.out.2.below hb) hu)); have FC := Lib.hid HXX.out.1.cells) | (go_at_call 11; (with_reducible refine (WX.out _).mono ?_); rintro q w3 ⟨u, rfl, hu, hb⟩; have HXX := Lib.hid (And.intro (SB.out.1.below hb) (And.intro hu (SB.out.2.below hb))); have FC := Lib.hid HXX.out.1.cells) | (go_at_call 11; (with_reducible refine (WX.out _).mono ?_); rintro q w2 ⟨u, rfl, hu, hb⟩; have SA := Lib.hid (And.intro (HM.out.drew.below hb) hu); have FA := Lib.hid SA.out.1.cells) | (go_at_call 11; (with_reducible refine (WY.out _).mono ?_); rintro q w2 ⟨u, rfl, hu, hb⟩; have SB := Lib.hid (And.intro (HM.out.drew.below hb) hu); have FB := Lib.hid SB.out.1.cells) | (go_at_call 20; (with_reducible refine (CA.out _ _ _ HXX.out.2.1 HXX.out.2.2).mono ?_); rintro q w4 ⟨u, rfl, hu, hb⟩; have HS := Lib.hid (And.intro (HXX.out.1.below hb) hu); have FD := Lib.hid HS.out.1.cells) | (go_at_call 32; (with_reducible refine (CC.out _ _ HS.out.2 HS.out.1.v).mono ?_); rintro q w5 ⟨rfl, hb⟩; have HE := Lib.hid (HS.out.1.below hb); have FE := Lib.hid HE.out.cells))
  all_goals go_wp2_with fail
  all_goals go_ret
  all_goals exact ⟨rfl, HE.out.b⟩

end Go.Proofs.Ytbknkcfnhfolpaa
