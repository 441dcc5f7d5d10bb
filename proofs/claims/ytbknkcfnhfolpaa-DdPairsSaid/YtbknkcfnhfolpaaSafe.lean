/-
  What a safe number is worth; signs turned.
-/
import Derived.Test.YtbknkcfnhfolpaaAlive
set_option exponentiation.threshold 3000
namespace Go.Proofs.Ytbknkcfnhfolpaa
open Go.RowKit Rn

theorem rung_eq (b : Nat) : b % 2 ^ 63 = expo b * 2 ^ 52 + frac b := by unfold expo frac; omega

theorem magn_expo (b : Nat) : magn (b % 2 ^ 63) = if expo b = 0 then frac b else (2 ^ 52 + frac b) * 2 ^ (expo b - 1) := by
  have hf := frac_lt b
  rw [rung_eq]
  unfold magn
  by_cases h : expo b = 0
  · rw [if_pos h, h, if_pos (by omega)]; omega
  · rw [if_neg h, if_neg (by omega), show (expo b * 2 ^ 52 + frac b) % 2 ^ 52 = frac b by omega, show (expo b * 2 ^ 52 + frac b) / 2 ^ 52 = expo b by omega]

theorem num_iff {b : Nat} (h : b < 2 ^ 64) : Num b ↔ expo b < 2047 := by
  have hf := frac_lt b
  have := rung_eq b
  unfold Num infR; omega

theorem kind_le {b : Nat} : kindN b ≤ 2 ↔ expo b < 2047 := by
  unfold kindN kindE
  split
  · split <;> omega
  · split
    · omega
    · split
      · omega
      · split <;> omega

/-- a safe number -/
structure IsSafe (b : Nat) (m : Int) (e : Nat) : Prop where
  num : Num b
  val : val b = m * 2 ^ e
  norm : Norm m
  lo : 422 ≤ e
  hi : e ≤ 1622

theorem IsSafe.within {b : Nat} {m : Int} {e : Nat} (h : IsSafe b m e) : Within 1675 (m * 2 ^ e) := by
  have bm : m.natAbs ≤ 2 ^ 53 := by rcases h.norm with h | h <;> omega
  unfold Within
  rw [Int.natAbs_mul, Int.natAbs_pow]
  exact Nat.le_trans (Nat.mul_le_mul_right _ bm) (by rw [show (2 : Int).natAbs = 2 from rfl, ← Nat.pow_add]; exact Nat.pow_le_pow_right (by omega) (by have := h.hi; omega))

theorem safe_val {b : Nat} (h : b < 2 ^ 64) (hs : safeB b = true) : ∃ m e, IsSafe b m e := by
  have hf := frac_lt b
  have hm := magn_expo b
  unfold safeB at hs
  simp only [Bool.or_eq_true, Bool.and_eq_true, decide_eq_true_eq, beq_iff_eq] at hs
  by_cases he : expo b = 0
  · have hf0 : frac b = 0 := by
      rcases hs with hs | hs
      · unfold kindN kindE at hs; rw [if_pos he] at hs; split at hs
        · assumption
        · omega
      · omega
    rw [if_pos he, hf0] at hm
    refine ⟨0, 422, (num_iff h).2 (by omega), ?_, .inl rfl, by omega, by omega⟩
    unfold val; rw [hm]; unfold sg; split <;> simp
  · have hr : 423 ≤ expo b ∧ expo b ≤ 1623 := by
      rcases hs with hs | hs
      · unfold kindN kindE at hs; rw [if_neg he] at hs
        split at hs
        · omega
        · split at hs
          · omega
          · split at hs <;> omega
      · exact hs
    rw [if_neg he] at hm
    refine ⟨sg (negW b) (2 ^ 52 + frac b), expo b - 1, (num_iff h).2 (by omega), ?_, .inr ?_, by omega, by omega⟩
    · unfold val; rw [hm, sg_mul]; simp
    · rw [sg_natAbs]; omega

theorem norm_neg {m : Int} (h : Norm m) : Norm (-m) := by
  unfold Norm at *; rw [Int.natAbs_neg]; omega

theorem IsSafe.neg {b : Nat} {m : Int} {e : Nat} (h : IsSafe b m e) : IsSafe (Op.negFloat .f64 b) (-m) e :=
  ⟨neg_num h.num, by rw [neg_val h.num.1, h.val, Int.neg_mul], norm_neg h.norm, h.lo, h.hi⟩

theorem one_num : Num 4607182418800017408 := ⟨by decide, by decide⟩
theorem one_val : val 4607182418800017408 = 2 ^ 52 * 2 ^ 1022 := by
  have h1 : negW 4607182418800017408 = false := by decide
  have h2 : magn (4607182418800017408 % 2 ^ 63) = 2 ^ 52 * 2 ^ 1022 := by
    have := magn_build 1022 (2 ^ 52) (.inr ⟨by decide, by decide⟩)
    rw [show 1022 * 2 ^ 52 + 2 ^ 52 = 4607182418800017408 % 2 ^ 63 by decide] at this
    exact this
  unfold val
  rw [h1, h2]
  exact Int.natCast_mul ..
theorem one_safe : IsSafe 4607182418800017408 (2 ^ 52) 1022 := ⟨one_num, one_val, .inr ⟨by decide, by decide⟩, by omega, by omega⟩
theorem zero_num : Num 0 := ⟨by decide, by decide⟩
theorem zero_val : val 0 = 0 := by decide

theorem u64_of_wf {a : Int} (h : (Lit.int .u64 a).wf = true) : 0 ≤ a ∧ a < 18446744073709551616 := by
  simp [Lit.wf, IntKind.min, IntKind.max, IntKind.bits, IntKind.signed] at h
  omega

/-- what Turned asks -/
structure Turned (x y s r t u p q a b c d g h i j k l : Nat) : Prop where
  sum : ∀ w, Calls Try.prog 18 #[.float .f64 x, .float .f64 y] w fun e w' => e = .returned (pr s r) ∧ Below w.heap.size w w'
  nsum : ∀ w, Calls Try.prog 18 #[.float .f64 (Op.negFloat .f64 x), .float .f64 (Op.negFloat .f64 y)] w fun e w' => e = .returned (pr t u) ∧ Below w.heap.size w w'
  rsum : ∀ w, Calls Try.prog 18 #[.float .f64 y, .float .f64 x] w fun e w' => e = .returned (pr p q) ∧ Below w.heap.size w w'
  prod : ∀ w, Calls Try.prog 16 #[.float .f64 x, .float .f64 4607182418800017408] w fun e w' => e = .returned (pr a b) ∧ Below w.heap.size w w'
  zsum : ∀ w, Calls Try.prog 18 #[.float .f64 x, .float .f64 0] w fun e w' => e = .returned (pr c d) ∧ Below w.heap.size w w'
  nsplit : ∀ w, Calls Try.prog 10 #[.float .f64 (Op.negFloat .f64 x)] w fun e w' => e = .returned (pr g h) ∧ Below w.heap.size w w'
  split : ∀ w, Calls Try.prog 10 #[.float .f64 x] w fun e w' => e = .returned (pr i j) ∧ Below w.heap.size w w'
  e1 : (Ieee.double.order s (Op.negFloat .f64 t) == some .eq) = true
  e2 : (Ieee.double.order r (Op.negFloat .f64 u) == some .eq) = true
  e3 : (Ieee.double.order s p == some .eq) = true
  e4 : (Ieee.double.order r q == some .eq) = true
  e5 : (Ieee.double.order a x == some .eq) = true
  e6 : (Ieee.double.order b 0 == some .eq) = true
  e7 : (Ieee.double.order c x == some .eq) = true
  e8 : (Ieee.double.order d 0 == some .eq) = true
  e9 : (Ieee.double.order g (Op.negFloat .f64 i) == some .eq) = true
  e10 : (Ieee.double.order h (Op.negFloat .f64 j) == some .eq) = true

theorem turned {x y : Nat} {m n : Int} {d e : Nat} (hx : IsSafe x m d) (hy : IsSafe y n e) : ∃ s r t u p q a b c d g h i j, Turned x y s r t u p q a b c d g h i j 0 0 := by
  have wx := hx.within.up (j := 2090) (by omega)
  have wy := hy.within.up (j := 2090) (by omega)
  obtain ⟨s, r, c1, n1, n1', v1, v1'⟩ := sum_is hx.num hy.num hx.val hy.val wx wy
  have wx' := hx.neg.within.up (j := 2090) (by omega)
  have wy' := hy.neg.within.up (j := 2090) (by omega)
  obtain ⟨t, u, c2, n2, n2', v2, v2'⟩ := sum_is hx.neg.num hy.neg.num hx.neg.val hy.neg.val wx' wy'
  obtain ⟨p, q, c3, n3, n3', v3, v3'⟩ := sum_is hy.num hx.num hy.val hx.val wy wx
  obtain ⟨f, hf⟩ : ∃ f, d + 1022 = 1074 + f := ⟨d - 52, by have := hx.lo; omega⟩
  obtain ⟨a, b, c4, n4, n4', v4, v4'⟩ := prod_is hx.num one_num hx.val one_val hx.norm one_safe.norm (by have := hx.hi; omega) (by omega) hf (by have := hx.hi; omega)
  obtain ⟨c, k, c5, n5, n5', v5, v5'⟩ := sum_is hx.num zero_num hx.val zero_val wx (show Within 2090 0 from Nat.zero_le _)
  obtain ⟨g, h, s6, n6, n6', v6, v6'⟩ := split_val hx.neg.num hx.neg.val hx.neg.norm (by have := hx.hi; omega)
  obtain ⟨i, j, s7, n7, n7', v7, v7'⟩ := split_val hx.num hx.val hx.norm (by have := hx.hi; omega)
  have rx : rn (m * 2 ^ 52) = m * 2 ^ 52 := rn_rep (rep_iff.2 ⟨m, 52, by rcases hx.norm with h | h <;> omega, rfl⟩)
  have rx' : rn (m * 2 ^ d) = m * 2 ^ d := rn_rep (hx.val ▸ val_rep x)
  have hd : d = 52 + f := by omega
  refine ⟨s, r, t, u, p, q, a, b, c, k, g, h, i, j, c1, c2, c3, c4, c5, fun w => split_is s6 w, fun w => split_is s7 w, ?_, ?_, ?_, ?_, ?_, ?_, ?_, ?_, ?_, ?_⟩
  · refine order_true n1 (neg_num n2) ?_
    rw [neg_val n2.1, v1, v2, show -m * 2 ^ d + -n * 2 ^ e = -(m * 2 ^ d + n * 2 ^ e) by rw [Int.neg_mul, Int.neg_mul, Int.neg_add], rn_neg, Int.neg_neg]
  · refine order_true n1' (neg_num n2') ?_
    rw [neg_val n2'.1, v1', v2', show -m * 2 ^ d + -n * 2 ^ e = -(m * 2 ^ d + n * 2 ^ e) by rw [Int.neg_mul, Int.neg_mul, Int.neg_add], rn_neg]
    omega
  · refine order_true n1 n3 ?_
    rw [v1, v3, Int.add_comm]
  · refine order_true n1' n3' ?_
    rw [v1', v3', Int.add_comm]
  · refine order_true n4 hx.num ?_
    rw [v4, hx.val, rx, Int.mul_assoc, ← Int.pow_add, ← hd]
  · refine order_true n4' zero_num ?_
    rw [v4', rx, Int.sub_self, Int.zero_mul, zero_val]
  · refine order_true n5 hx.num ?_
    rw [v5, Int.add_zero, rx', hx.val]
  · refine order_true n5' zero_num ?_
    rw [v5', Int.add_zero, rx', Int.sub_self, zero_val]
  · refine order_true n6 (neg_num n7) ?_
    rw [neg_val n7.1, v6, v7, up_neg, Int.neg_mul]
  · refine order_true n6' (neg_num n7') ?_
    rw [neg_val n7'.1, v6', v7', up_neg, ← Int.neg_mul]
    congr 1; omega

end Go.Proofs.Ytbknkcfnhfolpaa
