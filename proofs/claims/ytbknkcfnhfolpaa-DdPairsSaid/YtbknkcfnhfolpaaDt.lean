/-
  ref09's Safe and Mul: what they return.
-/
import Derived.Test.YtbknkcfnhfolpaaDs
set_option exponentiation.threshold 9000
namespace Go.Proofs.Ytbknkcfnhfolpaa
open Go.RowKit Rn

/-- the top of a normal number -/
theorem top_of {b : Nat} {ng : Bool} {m : Nat} {e : Int} (h : nv ng m e = val b * 2 ^ 4926) (he : -1074 ≤ e) (hE : expo b ≠ 0) : m ≠ 0 ∧ (bl m : Int) - 1 + e = (expo b : Int) - 1023 := by
  have h1 := magn_expo b
  rw [if_neg hE] at h1
  have hf := frac_lt b
  have h2 : (val b * 2 ^ 4926).natAbs = (2 ^ 52 + frac b) * 2 ^ (expo b - 1 + 4926) := by
    rw [Int.natAbs_mul, Int.natAbs_pow, natAbs_val, h1, Nat.mul_assoc, Nat.pow_add]; rfl
  have hp := Nat.two_pow_pos (expo b - 1 + 4926)
  have hne : (2 ^ 52 + frac b) * 2 ^ (expo b - 1 + 4926) ≠ 0 := Nat.mul_ne_zero (by omega) (by omega)
  have hm : m ≠ 0 := by
    intro h0; rw [h0, nv_zero] at h
    rw [← h] at h2
    simp only [Int.natAbs_zero] at h2
    omega
  refine ⟨hm, ?_⟩
  have h3 := bl_nv (neg := ng) hm (show -6000 ≤ e by omega)
  rw [h, h2, bl_pos hne, log2_mul_pow _ _ (by omega)] at h3
  have h4 : (2 ^ 52 + frac b).log2 = 52 := by rw [Nat.log2_eq_iff (by omega)]; omega
  omega

theorem bz_any {b : Nat} : Bz (val b * 2 ^ 4926) := by
  unfold Bz
  rw [Int.natAbs_mul, Int.natAbs_pow, natAbs_val, magn_expo]
  refine Nat.le_trans (bl_le (k := 53 + 2047 + 4926) ?_) (by decide)
  rw [Nat.pow_add 2 (53 + 2047)]
  refine Nat.mul_lt_mul_of_pos_right ?_ (Nat.two_pow_pos _)
  have hf := frac_lt b
  split
  · exact Nat.lt_of_lt_of_le hf (Nat.pow_le_pow_right (by omega) (by omega))
  · have he := expo_lt b
    rw [Nat.pow_add]
    refine Nat.lt_of_lt_of_le (Nat.mul_lt_mul_of_pos_right (by omega : 2 ^ 52 + frac b < 2 ^ 53) (Nat.two_pow_pos _)) (Nat.mul_le_mul_left _ (Nat.pow_le_pow_right (by omega) (by omega)))

theorem kind0 {b : Nat} (h : kindN b = 0) : safeB b = true := by unfold safeB; rw [h]; rfl
theorem kind2 {b : Nat} (h : kindN b ≠ 2) (h0 : kindN b ≠ 0) : safeB b = false := by
  unfold safeB
  have h1 : (kindN b == 0) = false := by rw [beq_eq_false_iff_ne]; exact h0
  rw [h1, Bool.false_or, ← Bool.not_eq_true, Bool.and_eq_true, decide_eq_true_eq, decide_eq_true_eq]
  intro h2
  apply h
  unfold kindN
  exact kindE2 (by omega) (by omega)
theorem kind2' {b : Nat} (h : kindN b = 2) : expo b ≠ 0 ∧ safeB b = (decide (423 ≤ expo b) && decide (expo b ≤ 1623)) := by
  constructor
  · intro he
    unfold kindN kindE at h
    rw [if_pos he] at h
    split at h <;> omega
  · unfold safeB; rw [h]; rfl

set_option maxHeartbeats 4000000 in
theorem safe09_any {b : Nat} (h : b < 18446744073709551616) (w : World) :
    Calls Try.prog 8 #[.int .u64 b] w fun q w' => q = .returned (.bool (safeB b)) ∧ Below w.heap.size w w' := by
  have HK := Lib.hid (fun w => kind06_any h w)
  have HW := Lib.hid (fun w => worth_any h w)
  by_cases h0 : kindN b = 0
  · have HS := Lib.hid (kind0 h0)
    rw [h0] at HK
    clear h h0 HW
    go_enter Try.func8, Try.ntmps8
    go_wp2_with fail
    refine (HK.out _).mono ?_
    rintro q w1 ⟨rfl, rfl⟩
    go_wp2
    go_ret
    exact ⟨ret_eq (congrArg Value.bool HS.out.symm), Below.refl _ _⟩
  · by_cases h2 : kindN b = 2
    · obtain ⟨hE, hS⟩ := kind2' h2
      have HT : Hid (∀ w u, NO w u (val b * 2 ^ 4926) (-1074) → Calls Try.prog 15 #[u] w fun q w' => q = .returned (.int .i64 ((expo b : Int) - 1023)) ∧ Below w.heap.size w w') := fun w u hu => by
        obtain ⟨ng, m, e, hn, h1, h2, h3, _⟩ := hu
        obtain ⟨hm, ht⟩ := top_of h3 h1 hE
        rw [← ht]
        exact top_any hn (sm_self (by rw [h3]; exact bz_any) (by omega)) (by omega)
      have HS := Lib.hid hS
      have hEl := expo_lt b
      rw [h2] at HK
      clear h h0 h2 hS
      generalize val b * 2 ^ 4926 = Z at *
      generalize expo b = E at *
      generalize safeB b = sb at *
      go_enter Try.func8, Try.ntmps8
      go_wp2_with fail
      refine (HK.out _).mono ?_
      rintro q w1 ⟨rfl, rfl⟩
      go_wp2_with fail
      refine (HW.out _).mono ?_
      rintro q w1 ⟨v, rfl, hv, hb⟩
      obtain ⟨ng, a, k, c, e, rfl⟩ := hv.form
      have HV : Hid (NO (w1.alloc (.cells #[.bool ng, .slice a k c, .int .i64 e] 32)) (.agg #[.bool ng, .slice a k c, .int .i64 e]) Z (-1074)) := by
        obtain ⟨n', m, e', h1, h2⟩ := hv; exact ⟨n', m, e', h1.alloc _, h2⟩
      have HB : Hid (Below w.heap.size w (w1.alloc (.cells #[.bool ng, .slice a k c, .int .i64 e] 32))) := hb.alloc hb.size _
      have HX : Hid (Blk (w1.alloc (.cells #[.bool ng, .slice a k c, .int .i64 e] 32)) w1.heap.size 32 #[.bool ng, .slice a k c, .int .i64 e]) := Blk.new _ _ _
      clear hv hb HW
      go_wp2_with fail
      refine (HK.out _).mono ?_
      rintro q w2 ⟨rfl, rfl⟩
      go_wp2_with fail
      refine (HT.out _ _ HV.out).mono ?_
      rintro q w3 ⟨rfl, hb⟩
      have HV3 := Lib.hid (HV.out.below hb)
      have HB3 := Lib.hid (HB.out.trans (hb.mono HB.out.size))
      have hx := HX.out.below hb
      have x0 := hx.at 0 (.bool ng) rfl
      have x1 := hx.at 1 (.slice a k c) rfl
      have x2 := hx.at 2 (.int .i64 e) rfl
      clear hb hx HV HB HX HK
      by_cases h1 : 423 ≤ E
      · have t1 : decide ((-600 : Int) ≤ (E : Int) - 1023) = true := decide_eq_true (by omega)
        go_wp2_with fail
        refine (HT.out _ _ HV3.out).mono ?_
        rintro q w4 ⟨rfl, hb⟩
        have HB4 := Lib.hid (HB3.out.trans (hb.mono HB3.out.size))
        clear hb x0 x1 x2
        by_cases h2 : E ≤ 1623
        · have t2 : decide ((E : Int) - 1023 ≤ 600) = true := decide_eq_true (by omega)
          have HR : Hid (sb = true) := by rw [Hid, HS.out, decide_eq_true h1, decide_eq_true h2]; rfl
          go_wp2
          go_ret
          exact ⟨ret_eq (congrArg Value.bool (by rw [HR.out])), HB4.out⟩
        · have t2 : decide ((E : Int) - 1023 ≤ 600) = false := decide_eq_false (by omega)
          have HR : Hid (sb = false) := by rw [Hid, HS.out, decide_eq_false h2, Bool.and_false]
          go_wp2
          go_ret
          exact ⟨ret_eq (congrArg Value.bool (by rw [HR.out])), HB4.out⟩
      · have t1 : decide ((-600 : Int) ≤ (E : Int) - 1023) = false := decide_eq_false (by omega)
        have HR : Hid (sb = false) := by rw [Hid, HS.out, decide_eq_false h1, Bool.false_and]
        clear x0 x1 x2
        go_wp2
        go_ret
        exact ⟨ret_eq (congrArg Value.bool (by rw [HR.out])), HB3.out⟩
    · have HS := Lib.hid (kind2 h2 h0)
      have e0 : (((kindN b : Nat) : Int) == 0) = false := by rw [beq_eq_false_iff_ne]; omega
      have e2 : (((kindN b : Nat) : Int) == 2) = false := by rw [beq_eq_false_iff_ne]; omega
      clear h h0 h2
      generalize kindN b = K at *
      generalize val b * 2 ^ 4926 = Z at *
      go_enter Try.func8, Try.ntmps8
      go_wp2_with fail
      refine (HK.out _).mono ?_
      rintro q w1 ⟨rfl, rfl⟩
      go_wp2_with fail
      refine (HW.out _).mono ?_
      rintro q w1 ⟨v, rfl, hv, hb⟩
      obtain ⟨ng, a, k, c, e, rfl⟩ := hv.form
      have HB : Hid (Below w.heap.size w (w1.alloc (.cells #[.bool ng, .slice a k c, .int .i64 e] 32))) := hb.alloc hb.size _
      clear hv hb HW
      go_wp2_with fail
      refine (HK.out _).mono ?_
      rintro q w2 ⟨rfl, rfl⟩
      go_wp2
      go_ret
      exact ⟨ret_eq (congrArg Value.bool HS.out.symm), HB.out⟩

end Go.Proofs.Ytbknkcfnhfolpaa
