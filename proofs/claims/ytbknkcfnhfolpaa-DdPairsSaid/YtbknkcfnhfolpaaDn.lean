/-
  ref07's Limit, value, Middle and Below; the law's worth and finite: what they return.
-/
import Derived.Test.YtbknkcfnhfolpaaDm
set_option exponentiation.threshold 9000
namespace Go.Proofs.Ytbknkcfnhfolpaa
open Go.RowKit Rn

/-- one block, laid ahead of a call -/
theorem newR {w w' : World} (h : Below (w.alloc (.cells #[.bool false, .slice none 0 0, .int .i64 0] 32)).heap.size (w.alloc (.cells #[.bool false, .slice none 0 0, .int .i64 0] 32)) w') : Res w' w.heap.size ∧ Below w.heap.size w w' := by
  obtain ⟨k1, B1, _, _⟩ := new1 (Below.refl w.heap.size w) (Nat.le_refl _) h
  exact ⟨k1, B1⟩

set_option maxHeartbeats 2000000 in
theorem lworth_any {b : Nat} (h : b < 18446744073709551616) (w : World) : Calls Try.prog 11 #[.float .f64 b] w (RetNO (val b * 2 ^ 4926) (-1074) w) := by
  have HW := Lib.hid (fun w => worth_any h w)
  clear h
  generalize val b * 2 ^ 4926 = Z at *
  go_enter Try.func11, Try.ntmps11
  go_wp2_with fail
  refine (HW.out _).mono ?_
  rintro q w1 ⟨v, rfl, hv, hb⟩
  obtain ⟨k1, B1⟩ := newR hb
  clear hb
  obtain ⟨ng, a, k, c, e', rfl⟩ := hv.form
  obtain ⟨r0, r1, r2, z0, z1, z2⟩ := Res.cells k1
  have K1 := Lib.hid k1
  have BB := Lib.hid B1
  have HV := Lib.hid hv
  clear k1 B1 hv
  go_wp2
  obtain ⟨q1, q2⟩ := fin3 K1.out BB.out (Nat.le_refl _) (.bool ng) (.slice a k c) (.int .i64 e')
  have q3 := HV.out.st3 (Res.parts K1.out) (.bool ng) (.slice a k c) (.int .i64 e')
  generalize (World.setCell (World.setCell (World.setCell _ _ _) _ _) _ _) = W at q1 q2 q3 ⊢
  obtain ⟨g0, g1, g2⟩ := results_agg3 q1
  exact bodyPost_ret (v := .agg #[.bool ng, .slice a k c, .int .i64 e']) (by simp [results, Try.results11, go_sem, g0, g1, g2]) rfl ⟨_, rfl, q3, q2⟩

theorem limit_nv : nv false 1 1024 = (magn infR : Int) * 2 ^ 4926 := by
  rw [magn_inf]
  unfold nv sg
  rw [if_neg (by decide), Nat.one_mul, show ((1024 : Int) + 6000).toNat = 2098 + 4926 by decide, Nat.pow_add, Int.natCast_mul]
  rfl

set_option maxHeartbeats 2000000 in
theorem limit_any (w : World) : Calls Try.prog 52 #[] w (RetNO ((magn infR : Int) * 2 ^ 4926) (-1074) w) := by
  have HL := Lib.hid limit_nv
  generalize (magn infR : Int) * 2 ^ 4926 = Z at *
  go_enter Try.func52, Try.ntmps52
  go_wp2
  have hs : Sl ((w.alloc (.cells #[.bool false, .slice (some ⟨w.heap.size + 1, 0, none⟩) 1 1, .int .i64 1024] 32)).alloc (.cells #[.int .u32 1] 52)) (.slice (some ⟨w.heap.size + 1, 0, none⟩) 1 1) [.int .u32 1] := Sl.lit1' _ _ _ _
  exact bodyPost_ret (v := .agg #[.bool false, .slice (some ⟨w.heap.size + 1, 0, none⟩) 1 1, .int .i64 1024]) (by simp [results, Try.results52, go_sem]) rfl
    ⟨_, rfl, ⟨false, 1, 1024, ⟨_, rfl, [1], hs, ⟨by intro d hd; simp at hd; omega, rfl, fun _ => by simp⟩⟩, by omega, by omega, HL.out, .inr rfl⟩, ((Below.refl _ _).alloc (Nat.le_refl _) _).alloc (by simp) _⟩

theorem val_small {b : Nat} (h : b < 9223372036854775808) : val b = (magn b : Int) := by
  unfold val negW
  rw [show b / 2 ^ 63 = 0 by omega, show b % 2 ^ 63 = b by omega]
  rfl

set_option maxHeartbeats 2000000 in
theorem value_any {b : Nat} (h : b ≤ 9218868437227405312) (w : World) : Calls Try.prog 44 #[.int .u64 b] w (RetNO ((magn b : Int) * 2 ^ 4926) (-1074) w) := by
  by_cases hi : b = 9218868437227405312
  · have HL : Hid (∀ w, Calls Try.prog 52 #[] w (RetNO ((magn b : Int) * 2 ^ 4926) (-1074) w)) := fun w => by rw [hi]; exact limit_any w
    have e1 : ((b : Int) == 9218868437227405312) = true := by rw [beq_iff_eq]; omega
    clear hi h
    generalize (magn b : Int) * 2 ^ 4926 = Z at *
    go_enter Try.func44, Try.ntmps44
    go_wp2_with fail
    refine (HL.out _).mono ?_
    rintro q w1 ⟨v, rfl, hv, hb⟩
    obtain ⟨k1, B1⟩ := newR hb
    clear hb
    obtain ⟨ng, a, k, c, e', rfl⟩ := hv.form
    obtain ⟨r0, r1, r2, z0, z1, z2⟩ := Res.cells k1
    have K1 := Lib.hid k1
    have BB := Lib.hid B1
    have HV := Lib.hid hv
    clear k1 B1 hv
    go_wp2
    obtain ⟨q1, q2⟩ := fin3 K1.out BB.out (Nat.le_refl _) (.bool ng) (.slice a k c) (.int .i64 e')
    have q3 := HV.out.st3 (Res.parts K1.out) (.bool ng) (.slice a k c) (.int .i64 e')
    generalize (World.setCell (World.setCell (World.setCell _ _ _) _ _) _ _) = W at q1 q2 q3 ⊢
    obtain ⟨g0, g1, g2⟩ := results_agg3 q1
    exact bodyPost_ret (v := .agg #[.bool ng, .slice a k c, .int .i64 e']) (by simp [results, Try.results44, go_sem, g0, g1, g2]) rfl ⟨_, rfl, q3, q2⟩
  · have HL : Hid (∀ w, Calls Try.prog 29 #[.int .u64 b] w (RetNO ((magn b : Int) * 2 ^ 4926) (-1074) w)) := fun w => by rw [← val_small (by omega)]; exact worth_any (by omega) w
    have e1 : ((b : Int) == 9218868437227405312) = false := by rw [beq_eq_false_iff_ne]; omega
    clear hi
    generalize (magn b : Int) * 2 ^ 4926 = Z at *
    go_enter Try.func44, Try.ntmps44
    go_wp2_with fail
    refine (HL.out _).mono ?_
    rintro q w1 ⟨v, rfl, hv, hb⟩
    obtain ⟨k1, B1⟩ := newR hb
    clear hb
    obtain ⟨ng, a, k, c, e', rfl⟩ := hv.form
    obtain ⟨r0, r1, r2, z0, z1, z2⟩ := Res.cells k1
    have K1 := Lib.hid k1
    have BB := Lib.hid B1
    have HV := Lib.hid hv
    clear k1 B1 hv
    go_wp2
    obtain ⟨q1, q2⟩ := fin3 K1.out BB.out (Nat.le_refl _) (.bool ng) (.slice a k c) (.int .i64 e')
    have q3 := HV.out.st3 (Res.parts K1.out) (.bool ng) (.slice a k c) (.int .i64 e')
    generalize (World.setCell (World.setCell (World.setCell _ _ _) _ _) _ _) = W at q1 q2 q3 ⊢
    obtain ⟨g0, g1, g2⟩ := results_agg3 q1
    exact bodyPost_ret (v := .agg #[.bool ng, .slice a k c, .int .i64 e']) (by simp [results, Try.results44, go_sem, g0, g1, g2]) rfl ⟨_, rfl, q3, q2⟩

set_option maxHeartbeats 1000000 in
theorem finite_any {b : Nat} (h : b < 18446744073709551616) (w : World) : Calls Try.prog 31 #[.float .f64 b] w fun q w' => q = .returned (.bool (decide (kindN b ≤ 2))) ∧ w = w' := by
  have HW := Lib.hid (fun w => kind06_any h w)
  generalize kindN b = K at *
  have hk : decide ((K : Int) ≤ 2) = decide (K ≤ 2) := by rw [decide_eq_decide]; omega
  have HK := Lib.hid hk
  clear hk h
  go_enter Try.func31, Try.ntmps31
  go_wp2_with fail
  refine (HW.out _).mono ?_
  rintro q w1 ⟨rfl, rfl⟩
  go_wp2
  go_ret
  exact ⟨ret_eq (congrArg Value.bool HK.out), rfl⟩

end Go.Proofs.Ytbknkcfnhfolpaa
