/-
  The nearest rung by comparison: what is below, the middle, the even one. Plain.
-/
import Derived.Test.YtbknkcfnhfolpaaDo
set_option exponentiation.threshold 9000
namespace Go.Proofs.Ytbknkcfnhfolpaa
open Go.RowKit Rn

theorem rung_uniq {n r s : Nat} (h1 : magn r ≤ n) (h2 : n < magn (r + 1)) (k1 : magn s ≤ n) (k2 : n < magn (s + 1)) : r = s := by
  rcases Nat.lt_trichotomy r s with h | h | h
  · have := magn_le (show r + 1 ≤ s by omega); omega
  · exact h
  · have := magn_le (show s + 1 ≤ r by omega); omega

/-- is the upper one the nearest? -/
def upB (n r : Nat) : Bool := decide (magn r + magn (r + 1) < 2 * n) || (decide (magn r + magn (r + 1) = 2 * n) && decide (r % 2 = 1))

theorem near_rung {n r : Nat} (h1 : magn r ≤ n) (h2 : n < magn (r + 1)) : rnN n = magn (if upB n r then r + 1 else r) := by
  have hlt := lt_of_drop n 0
  have hge : 0 < drop n 0 → 2 ^ (52 + drop n 0) ≤ n := fun h => le_of_drop h
  unfold rnN rnk
  generalize drop n 0 = d at *
  have hp := Nat.two_pow_pos d
  have hk1 : n / 2 ^ d < 2 ^ 53 := Nat.div_lt_of_lt_mul (by rw [Nat.mul_comm, ← Nat.pow_add]; exact hlt)
  have hk2 : 0 < d → 2 ^ 52 ≤ n / 2 ^ d := fun h => (Nat.le_div_iff_mul_le hp).2 (by rw [← Nat.pow_add]; exact hge h)
  have hdm : 2 ^ d * (n / 2 ^ d) + n % 2 ^ d = n := Nat.div_add_mod n (2 ^ d)
  have hl : n % 2 ^ d < 2 ^ d := Nat.mod_lt _ hp
  have hcond : ∀ j, j ≤ 1 → (d = 0 ∧ n / 2 ^ d + j ≤ 2 ^ 53 ∨ 2 ^ 52 ≤ n / 2 ^ d + j ∧ n / 2 ^ d + j ≤ 2 ^ 53) := by
    intro j hj
    rcases Nat.eq_zero_or_pos d with h | h
    · left; exact ⟨h, by omega⟩
    · right; have := hk2 h; omega
  have m0 := magn_build d (n / 2 ^ d) (hcond 0 (by omega))
  have m1 := magn_build d (n / 2 ^ d + 1) (hcond 1 (by omega))
  rw [← Nat.add_assoc] at m1
  have hr : r = d * 2 ^ 52 + n / 2 ^ d := by
    refine rung_uniq h1 h2 ?_ ?_
    · rw [m0, Nat.mul_comm]; omega
    · rw [m1, Nat.add_mul, Nat.mul_comm (n / 2 ^ d)]; omega
  subst hr
  unfold upB
  rw [m0, m1, Nat.sub_zero]
  have e1 : n / 2 ^ d * 2 ^ d + (n / 2 ^ d + 1) * 2 ^ d = 2 * (2 ^ d * (n / 2 ^ d)) + 2 ^ d := by rw [Nat.add_mul, Nat.mul_comm (n / 2 ^ d)]; omega
  rw [e1]
  have e2 : (d * 2 ^ 52 + n / 2 ^ d) % 2 = n / 2 ^ d % 2 := by omega
  rw [e2]
  unfold re
  have c1 : decide (2 * (2 ^ d * (n / 2 ^ d)) + 2 ^ d < 2 * n) = decide (2 ^ d < 2 * (n % 2 ^ d)) := by rw [decide_eq_decide]; omega
  have c2 : decide (2 * (2 ^ d * (n / 2 ^ d)) + 2 ^ d = 2 * n) = (2 ^ d == 2 * (n % 2 ^ d)) := by
    rw [Bool.eq_iff_iff, decide_eq_true_iff, beq_iff_eq]; omega
  have c3 : decide (n / 2 ^ d % 2 = 1) = (n / 2 ^ d % 2 == 1) := by rw [Bool.eq_iff_iff, decide_eq_true_iff, beq_iff_eq]
  rw [c1, c2, c3]
  cases (decide (2 ^ d < 2 * (n % 2 ^ d)) || (2 ^ d == 2 * (n % 2 ^ d) && n / 2 ^ d % 2 == 1))
  · simp only [Bool.toNat_false, Nat.add_zero]; exact m0.symm
  · simp only [Bool.toNat_true, if_true]; exact m1.symm

theorem near_exact {n r : Nat} (h : magn r = n) : rnN n = magn r := by
  subst h; exact rnN_rep (magn_rep r)

/-- in units of 2^-6000 -/
theorem scale_le {a b : Nat} : (a : Int) * 2 ^ 4926 ≤ (b : Int) * 2 ^ 4926 ↔ a ≤ b := by
  have hp : (0 : Int) < 2 ^ 4926 := Int.pow_pos (by omega)
  rw [Int.mul_le_mul_right hp]; omega
theorem scale_lt {a b : Nat} : (a : Int) * 2 ^ 4926 < (b : Int) * 2 ^ 4926 ↔ a < b := by
  have hp : (0 : Int) < 2 ^ 4926 := Int.pow_pos (by omega)
  rw [Int.mul_lt_mul_right hp]; omega
theorem scale_eq {a b : Nat} : (a : Int) * 2 ^ 4926 = (b : Int) * 2 ^ 4926 ↔ a = b := by
  have hp : (2 : Int) ^ 4926 ≠ 0 := Int.ne_of_gt (Int.pow_pos (by omega))
  rw [Int.mul_eq_mul_right_iff hp]; omega
theorem half_scale (n : Nat) : (n : Int) * 2 ^ 4926 = (2 * n : Nat) * 2 ^ 4925 := by
  rw [show (4926 : Nat) = 4925 + 1 by rfl, Int.pow_succ, Int.natCast_mul, Int.mul_comm (2 ^ 4925) 2, ← Int.mul_assoc, Int.mul_comm (n : Int) 2]; rfl
theorem scale_cmp {a b : Nat} : cmpZ ((a : Int) * 2 ^ 4925) ((b : Int) * 2 ^ 4925) = cmpN a b := by
  have hp : (0 : Int) < 2 ^ 4925 := Int.pow_pos (by omega)
  rcases Nat.lt_trichotomy a b with h | h | h
  · rw [cmpN_lt h]; exact cmpZ_lt ((Int.mul_lt_mul_right hp).2 (by omega))
  · rw [cmpN_eq h]; exact cmpZ_eq (by rw [h])
  · rw [cmpN_gt h]; exact cmpZ_gt ((Int.mul_lt_mul_right hp).2 (by omega))

/-- the word of a rung with a sign -/
theorem word_of {neg : Bool} {r : Nat} (h : r < infR) : Num (r + (if neg then 2 ^ 63 else 0)) ∧ negW (r + (if neg then 2 ^ 63 else 0)) = neg ∧ val (r + (if neg then 2 ^ 63 else 0)) = sg neg (magn r) := by
  have hi : infR = 9218868437227405312 := by decide
  have h1 : (r + (if neg then 2 ^ 63 else 0)) % 2 ^ 63 = r := by cases neg <;> simp <;> omega
  have h2 : negW (r + (if neg then 2 ^ 63 else 0)) = neg := by
    unfold negW
    cases neg
    · rw [if_neg (by decide), show (r + 0) / 2 ^ 63 = 0 by omega]; rfl
    · rw [if_pos rfl, show (r + 2 ^ 63) / 2 ^ 63 = 1 by omega]; rfl
  refine ⟨⟨by cases neg <;> simp <;> omega, by rw [h1]; exact h⟩, h2, ?_⟩
  unfold val
  rw [h1, h2]

end Go.Proofs.Ytbknkcfnhfolpaa
