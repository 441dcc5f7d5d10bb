/-
  The halves of a number (Veltkamp) and the product's rest (Dekker), on whole numbers.
-/
import Derived.Test.YtbknkcfnhfolpaaRi
namespace Go.Proofs.Ytbknkcfnhfolpaa.Rn

/-- the upper half -/
def up (m : Int) : Int := rn (rn (134217729 * m) - rn (rn (134217729 * m) - m))

theorem up_neg (m : Int) : up (-m) = -up m := by
  unfold up
  rw [show 134217729 * -m = -(134217729 * m) by omega, rn_neg,
    show -rn (134217729 * m) - -m = -(rn (134217729 * m) - m) by omega, rn_neg,
    show -rn (134217729 * m) - -rn (rn (134217729 * m) - m) = -(rn (134217729 * m) - rn (rn (134217729 * m) - m)) by omega, rn_neg]

theorem up_scale (m : Int) (e : Nat) : up (m * 2 ^ e) = up m * 2 ^ e := by
  unfold up
  rw [← Int.mul_assoc, rn_scale, ← Int.sub_mul, rn_scale, ← Int.sub_mul, rn_scale]

theorem up_zero : up 0 = 0 := by simp [up, rn_zero]

/-- a normal size: 53 bits, or nought -/
def Norm (m : Int) : Prop := m = 0 ∨ (2 ^ 52 ≤ m.natAbs ∧ m.natAbs < 2 ^ 53)

theorem up_pos {m : Int} (h1 : 2 ^ 52 ≤ m) (h2 : m < 2 ^ 53) : ∃ k : Int, up m = k * 2 ^ 27 ∧ k.natAbs ≤ 2 ^ 26 ∧ (m - up m).natAbs ≤ 2 ^ 26 := by
  have c1 := rn_half (z := 134217729 * m) (j := 28) (by omega)
  have d1 := rn_dvd (z := 134217729 * m) (j := 27) (by omega)
  have d2 : 2 ^ 80 ≤ 134217729 * m → (2 : Int) ^ 28 ∣ rn (134217729 * m) := fun h => rn_dvd (z := 134217729 * m) (j := 28) (by omega)
  have c2 : 134217729 * m < 2 ^ 80 → 2 * (rn (134217729 * m) - 134217729 * m).natAbs ≤ 2 ^ 27 := fun h => rn_half (z := 134217729 * m) (j := 27) (by omega)
  unfold up
  generalize rn (134217729 * m) = c at *
  -- c - m lies in [2^79, 2^80]
  have lo : 2 ^ 79 ≤ c - m := by
    by_cases h : 134217729 * m < 2 ^ 80
    · have := c2 h
      by_cases hm : m = 2 ^ 52
      · subst hm
        have hd : (2 : Int) ^ 27 ∣ c := d1
        omega
      · omega
    · omega
  have hi : c - m ≤ 2 ^ 80 := by
    by_cases h : 134217729 * m < 2 ^ 80
    · have := c2 h; omega
    · omega
  have t1 := rn_dvd (z := c - m) (j := 27) (by omega)
  have t2 : 2 * (rn (c - m) - (c - m)).natAbs ≤ 2 ^ 27 := by
    by_cases h : c - m = 2 ^ 80
    · have : rn (c - m) = 2 ^ 80 := by rw [h]; exact rn_rep (rep_pow 80)
      omega
    · exact rn_half (z := c - m) (j := 27) (by omega)
  generalize rn (c - m) = t at *
  have dh : (2 : Int) ^ 27 ∣ c - t := Int.dvd_sub d1 t1
  have hr : Rep (c - t) := rep_of_dvd (q := 27) dh (by omega)
  rw [rn_rep hr]
  obtain ⟨k, hk⟩ := dh
  refine ⟨k, by rw [hk, Int.mul_comm], by omega, by omega⟩

theorem up_norm {m : Int} (h : Norm m) : ∃ k : Int, up m = k * 2 ^ 27 ∧ k.natAbs ≤ 2 ^ 26 ∧ (m - up m).natAbs ≤ 2 ^ 26 := by
  rcases h with rfl | ⟨h1, h2⟩
  · exact ⟨0, by rw [up_zero]; rfl, by omega, by rw [up_zero]; omega⟩
  · by_cases h0 : 0 ≤ m
    · exact up_pos (by omega) (by omega)
    · obtain ⟨k, e1, e2, e3⟩ := up_pos (m := -m) (by omega) (by omega)
      rw [up_neg] at e1 e3
      exact ⟨-k, by omega, by omega, by omega⟩

theorem down_rep {m : Int} (h : Norm m) : rn (m - up m) = m - up m := by
  obtain ⟨k, e1, e2, e3⟩ := up_norm h
  exact rn_rep (rep_small (by omega))

theorem mul_abs_le {a b : Int} {A B : Nat} (ha : a.natAbs ≤ A) (hb : b.natAbs ≤ B) : (a * b).natAbs ≤ A * B := by
  rw [Int.natAbs_mul]; exact Nat.mul_le_mul ha hb

/-- THE PRODUCT WITH ITS REST. -/
theorem prod_rest {m n : Int} (hm : Norm m) (hn : Norm n) :
    rn (up m * up n) = up m * up n ∧ rn (up m * (n - up n)) = up m * (n - up n) ∧ rn ((m - up m) * up n) = (m - up m) * up n ∧ rn ((m - up m) * (n - up n)) = (m - up m) * (n - up n) ∧
    rn (up m * up n - rn (m * n)) = up m * up n - rn (m * n) ∧
    rn (up m * up n - rn (m * n) + up m * (n - up n)) = up m * up n - rn (m * n) + up m * (n - up n) ∧
    rn (up m * up n - rn (m * n) + up m * (n - up n) + (m - up m) * up n) = up m * up n - rn (m * n) + up m * (n - up n) + (m - up m) * up n ∧
    rn (up m * up n - rn (m * n) + up m * (n - up n) + (m - up m) * up n + (m - up m) * (n - up n)) = m * n - rn (m * n) := by
  have split : m * n = up m * up n + up m * (n - up n) + (m - up m) * up n + (m - up m) * (n - up n) := by
    have e1 : up m * (n - up n) = up m * n - up m * up n := Int.mul_sub ..
    have e2 : (m - up m) * up n = m * up n - up m * up n := Int.sub_mul ..
    have e3 : (m - up m) * (n - up n) = m * n - m * up n - (up m * n - up m * up n) := by rw [Int.sub_mul, Int.mul_sub, Int.mul_sub]
    omega
  -- the product's own rounding
  have hp : (rn (m * n) - m * n).natAbs ≤ 2 ^ 52 ∧ (2 : Int) ^ 52 ∣ rn (m * n) := by
    rcases hm with rfl | ⟨a1, a2⟩
    · rw [Int.zero_mul, rn_zero]; exact ⟨by omega, Int.dvd_zero _⟩
    rcases hn with rfl | ⟨b1, b2⟩
    · rw [Int.mul_zero, rn_zero]; exact ⟨by omega, Int.dvd_zero _⟩
    have l : 2 ^ (52 + 52) ≤ (m * n).natAbs := by
      rw [Int.natAbs_mul, Nat.pow_add]; exact Nat.mul_le_mul a1 b1
    have u : (m * n).natAbs < 2 ^ (53 + 53) := by
      rw [Int.natAbs_mul, Nat.pow_add]; exact Nat.mul_lt_mul_of_lt_of_le a2 (Nat.le_of_lt b2) (by omega)
    exact ⟨by have := rn_half u; omega, rn_dvd l⟩
  obtain ⟨k, ek, bk, bl⟩ := up_norm hm
  obtain ⟨j, ej, bj, bi⟩ := up_norm hn
  generalize rn (m * n) = p at *
  generalize hmn : m * n = M at *
  generalize m - up m = l at *
  generalize n - up n = i at *
  rw [ek, ej] at split ⊢
  have r1 : k * 2 ^ 27 * (j * 2 ^ 27) = (k * j) * 2 ^ 54 := by
    rw [Int.mul_assoc, Int.mul_left_comm (2 ^ 27), ← Int.mul_assoc]; rfl
  have r2 : k * 2 ^ 27 * i = (k * i) * 2 ^ 27 := by
    rw [Int.mul_assoc, Int.mul_comm (2 ^ 27), ← Int.mul_assoc]
  have r3 : l * (j * 2 ^ 27) = (l * j) * 2 ^ 27 := by rw [Int.mul_assoc]
  rw [r1, r2, r3] at split ⊢
  have b1 := mul_abs_le bk bj
  have b2 := mul_abs_le bk bi
  have b3 := mul_abs_le bl bj
  have b4 := mul_abs_le bl bi
  generalize k * j = A at *
  generalize k * i = B at *
  generalize l * j = C at *
  generalize l * i = D at *
  obtain ⟨hp1, hp2⟩ := hp
  obtain ⟨q, rfl⟩ := hp2
  refine ⟨rn_rep (rep_of_dvd (q := 54) (by omega) (by omega)), rn_rep (rep_of_dvd (q := 27) (by omega) (by omega)), rn_rep (rep_of_dvd (q := 27) (by omega) (by omega)), rn_rep (rep_small (by omega)),
    rn_rep (rep_of_dvd (q := 52) (by omega) (by omega)), rn_rep (rep_of_dvd (q := 27) (by omega) (by omega)), rn_rep (rep_small (by omega)), ?_⟩
  rw [show A * 2 ^ 54 - 2 ^ 52 * q + B * 2 ^ 27 + C * 2 ^ 27 + D = M - 2 ^ 52 * q by omega]
  exact rn_rep (rep_small (by omega))

end Go.Proofs.Ytbknkcfnhfolpaa.Rn
