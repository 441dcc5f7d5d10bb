/-
  ref09's Mul; Top by worth: what they return.
-/
import Derived.Test.YtbknkcfnhfolpaaDt
set_option exponentiation.threshold 9000
namespace Go.Proofs.Ytbknkcfnhfolpaa
open Go.RowKit Rn

theorem sg_mul_sg (a b : Bool) (m n : Nat) : sg a m * sg b n = sg (a != b) (m * n) := by
  cases a <;> cases b <;> simp [sg, Int.neg_mul, Int.mul_neg]

theorem nv_mul {na nb : Bool} {ma mb : Nat} {ea eb : Int} (ha : -1074 ≤ ea) (hb : -1074 ≤ eb) : nv na ma ea * nv nb mb eb = nv (na != nb) (ma * mb) (ea + eb) * 2 ^ 6000 := by
  unfold nv
  rw [sg_mul_sg, show ma * 2 ^ (ea + 6000).toNat * (mb * 2 ^ (eb + 6000).toNat) = ma * mb * 2 ^ (ea + eb + 6000).toNat * 2 ^ 6000 by
    rw [Nat.mul_mul_mul_comm, ← Nat.pow_add, Nat.mul_assoc (ma * mb), ← Nat.pow_add]
    congr 2; omega]
  rw [sg_mul]
  simp

theorem nv_prod {na nb : Bool} {ma mb : Nat} {ea eb X Y : Int} (ha : -1074 ≤ ea) (hb : -1074 ≤ eb) (h : nv na ma ea = X * 2 ^ 4926) (k : nv nb mb eb = Y * 2 ^ 4926) : nv (na != nb) (ma * mb) (ea + eb) = X * Y * 2 ^ 3852 := by
  have h1 := nv_mul (na := na) (nb := nb) (ma := ma) (mb := mb) ha hb
  rw [h, k, show X * 2 ^ 4926 * (Y * 2 ^ 4926) = X * Y * 2 ^ 3852 * 2 ^ 6000 by
    rw [Int.mul_assoc X, Int.mul_left_comm (2 ^ 4926) Y, ← Int.mul_assoc X, ← Int.pow_add, Int.mul_assoc (X * Y), ← Int.pow_add]] at h1
  exact (Int.eq_of_mul_eq_mul_right (Int.ne_of_gt (Int.pow_pos (by omega))) h1).symm

theorem AddM.cells6 {na nb : Bool} {sa sb : Value} {ea eb : Int} {ma mb : Nat} {w wr : World} (h : AddM na nb sa sb ea eb ma mb w wr) :
    wr.cell? ⟨w.heap.size, 0, none⟩ = some (.bool na) ∧ wr.cell? ⟨w.heap.size, 1, none⟩ = some sa ∧ wr.cell? ⟨w.heap.size, 2, none⟩ = some (.int .i64 ea) ∧ wr.cell? ⟨w.heap.size + 1, 0, none⟩ = some (.bool nb) ∧ wr.cell? ⟨w.heap.size + 1, 1, none⟩ = some sb ∧ wr.cell? ⟨w.heap.size + 1, 2, none⟩ = some (.int .i64 eb) :=
  ⟨h.x.at 0 (.bool na) rfl, h.x.at 1 sa rfl, h.x.at 2 (.int .i64 ea) rfl, h.y.at 0 (.bool nb) rfl, h.y.at 1 sb rfl, h.y.at 2 (.int .i64 eb) rfl⟩

theorem st3_six {w : World} {R g h : Nat} {a b c u0 u1 u2 v0 v1 v2 : Value} (hg : R ≠ g) (hh : R ≠ h)
    (H : w.cell? ⟨g, 0, none⟩ = some u0 ∧ w.cell? ⟨g, 1, none⟩ = some u1 ∧ w.cell? ⟨g, 2, none⟩ = some u2 ∧ w.cell? ⟨h, 0, none⟩ = some v0 ∧ w.cell? ⟨h, 1, none⟩ = some v1 ∧ w.cell? ⟨h, 2, none⟩ = some v2) :
    (((w.setCell ⟨R, 0, none⟩ a).setCell ⟨R, 1, none⟩ b).setCell ⟨R, 2, none⟩ c).cell? ⟨g, 0, none⟩ = some u0 ∧ (((w.setCell ⟨R, 0, none⟩ a).setCell ⟨R, 1, none⟩ b).setCell ⟨R, 2, none⟩ c).cell? ⟨g, 1, none⟩ = some u1 ∧ (((w.setCell ⟨R, 0, none⟩ a).setCell ⟨R, 1, none⟩ b).setCell ⟨R, 2, none⟩ c).cell? ⟨g, 2, none⟩ = some u2 ∧
    (((w.setCell ⟨R, 0, none⟩ a).setCell ⟨R, 1, none⟩ b).setCell ⟨R, 2, none⟩ c).cell? ⟨h, 0, none⟩ = some v0 ∧ (((w.setCell ⟨R, 0, none⟩ a).setCell ⟨R, 1, none⟩ b).setCell ⟨R, 2, none⟩ c).cell? ⟨h, 1, none⟩ = some v1 ∧ (((w.setCell ⟨R, 0, none⟩ a).setCell ⟨R, 1, none⟩ b).setCell ⟨R, 2, none⟩ c).cell? ⟨h, 2, none⟩ = some v2 :=
  ⟨st3_far hg H.1, st3_far hg H.2.1, st3_far hg H.2.2.1, st3_far hh H.2.2.2.1, st3_far hh H.2.2.2.2.1, st3_far hh H.2.2.2.2.2⟩

set_option maxHeartbeats 8000000 in
theorem mul09_any {u v : Value} {w : World} {X Y : Int} (hu : NO w u (X * 2 ^ 4926) (-1074)) (hv : NO w v (Y * 2 ^ 4926) (-1074)) (hX : Bz (X * 2 ^ 4926)) (hY : Bz (Y * 2 ^ 4926)) :
    Calls Try.prog 14 #[u, v] w (RetNZ (X * Y * 2 ^ 3852) (-2148) w) := by
  obtain ⟨na, ma, ea, ⟨sa, rfl, da⟩, a1, a2, a3, -⟩ := hu
  obtain ⟨nb, mb, eb, ⟨sb, rfl, db⟩, b1, b2, b3, -⟩ := hv
  have ST := Lib.hid (AddM.start (na := na) (nb := nb) (ea := ea) (eb := eb) da db)
  have HP := Lib.hid (nv_prod a1 b1 a3 b3)
  have LA := Lib.hid (sm_self (by rw [a3]; exact hX) (by omega : -6000 ≤ ea))
  have LB := Lib.hid (sm_self (by rw [b3]; exact hY) (by omega : -6000 ≤ eb))
  obtain ⟨a, k, c, rfl, -⟩ := da.form
  obtain ⟨a', k', c', rfl, -⟩ := db.form
  have HMUL : Hid (∀ w (h : Dg w (.slice a k c) ma) (h' : Dg w (.slice a' k' c') mb), Calls Try.prog 33 #[.slice a k c, .slice a' k' c'] w fun e w' => ∃ u, e = .returned u ∧ Dg w' u (ma * mb) ∧ Below w.heap.size w w') := fun w h h' => mul_any h h' LA.out LB.out
  clear da db hX hY a3 b3
  generalize X * Y * 2 ^ 3852 = Z at *
  have q1 : IntKind.i64.wrap (ea + eb) = ea + eb := IntWalk.i64_in _ (by omega)
  go_enter Try.func14, Try.ntmps14
  go_upto_region 1 with (fail)
  generalize (World.alloc (World.alloc (World.alloc _ _) _) _) = w1 at ST ⊢
  have F0 := Lib.hid ST.out.cells6
  have HF := Lib.hid ST.out.drew
  have F1 := Lib.hid HF.out.cells6
  obtain ⟨x0, x1, x2, y0, y1, y2⟩ := F0.out
  go_region_held3 (fun w' => w'.cell? ⟨w.heap.size, 0, none⟩ = some (.bool na) ∧ w'.cell? ⟨w.heap.size, 1, none⟩ = some (.slice a k c) ∧ w'.cell? ⟨w.heap.size, 2, none⟩ = some (.int .i64 ea) ∧ w'.cell? ⟨w.heap.size + 1, 0, none⟩ = some (.bool nb) ∧ w'.cell? ⟨w.heap.size + 1, 1, none⟩ = some (.slice a' k' c') ∧ w'.cell? ⟨w.heap.size + 1, 2, none⟩ = some (.int .i64 eb)) (first | exact F0.out | exact F1.out | exact FD.out | exact st3_six (by omega) (by omega) FD.out) (first | (go_at_call 33; (with_reducible refine (HMUL.out _ HF.out.a HF.out.c).mono ?_); rintro r w3 ⟨u, rfl, hd, hb⟩; obtain ⟨ua, uk, uc, rfl, -⟩ := hd.form; have HM := Lib.hid (HF.out.below hb); have HU := Lib.hid hd; have FD := Lib.hid HM.out.cells6; obtain ⟨r0, r1, r2, z0, z1, z2⟩ := HM.out.rcells))
  all_goals go_wp2
  obtain ⟨p1, p2, p3⟩ := HM.out.fin (ng := !(na == nb)) (e := ea + eb) HU.out
  generalize (World.setCell (World.setCell (World.setCell _ _ _) _ _) _ _) = W at p1 p2 p3 ⊢
  obtain ⟨g0, g1, g2⟩ := results_agg3 p1
  exact bodyPost_ret (v := .agg #[.bool (!(na == nb)), .slice ua uk uc, .int .i64 (ea + eb)]) (by simp [results, Try.results14, go_sem, g0, g1, g2]) rfl ⟨_, rfl, ⟨!(na == nb), ma * mb, ea + eb, p3, by omega, by omega, HP.out⟩, p2⟩

/-- Top by worth -/
theorem topz_any {v : Value} {w : World} {z lo : Int} (h : NZ w v z lo) (hlo : -6000 ≤ lo) (hz : Bz z) (h0 : z ≠ 0) :
    Calls Try.prog 15 #[v] w fun q w' => q = .returned (.int .i64 ((bl z.natAbs : Int) - 6001)) ∧ Below w.heap.size w w' := by
  obtain ⟨ng, m, e, hn, h1, h2, rfl⟩ := h
  have hm : m ≠ 0 := fun hm => h0 (by rw [hm, nv_zero])
  have := bl_nv (neg := ng) hm (show -6000 ≤ e by omega)
  rw [show ((bl (nv ng m e).natAbs : Int) - 6001) = (bl m : Int) - 1 + e by omega]
  exact top_any hn (sm_self hz (by omega)) (by omega)

/-- is it 0? -/
theorem NZ.len {w : World} {v : Value} {z lo : Int} (h : NZ w v z lo) : ∃ ng a k c e, v = .agg #[.bool ng, .slice a k c, .int .i64 e] ∧ (z = 0 ↔ k = 0) := by
  obtain ⟨ng, m, e, ⟨s, rfl, hs⟩, _, _, rfl⟩ := h
  obtain ⟨a, k, c, rfl, hk⟩ := hs.form
  exact ⟨ng, a, k, c, e, rfl, nv_ne.trans hk⟩

end Go.Proofs.Ytbknkcfnhfolpaa
