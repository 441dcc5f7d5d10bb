/-
  Rounding of whole numbers to 53 bits, to nearest, ties to even: on Nat ('rnN'), on Int ('rn'). Plain: no program in sight.
-/
namespace Go.Proofs.Ytbknkcfnhfolpaa.Rn

/-- n / 2^d, rounded to nearest, ties to even. -/
def re (n d : Nat) : Nat := n / 2 ^ d + (decide (2 ^ d < 2 * (n % 2 ^ d)) || (2 ^ d == 2 * (n % 2 ^ d) && n / 2 ^ d % 2 == 1)).toNat

/-- How many low bits go, of n over 2^k. -/
def drop (n k : Nat) : Nat := max (n.log2 - 52) k

/-- n / 2^k rounded. -/
def rnk (n k : Nat) : Nat := re n (drop n k) * 2 ^ (drop n k - k)

def rnN (n : Nat) : Nat := rnk n 0

theorem re_cases (n d : Nat) : (re n d = n / 2 ^ d ∧ 2 * (n % 2 ^ d) ≤ 2 ^ d) ∨ (re n d = n / 2 ^ d + 1 ∧ 2 ^ d ≤ 2 * (n % 2 ^ d)) := by
  unfold re
  by_cases h : 2 ^ d < 2 * (n % 2 ^ d)
  · right; simp [h]; omega
  · by_cases h2 : 2 ^ d = 2 * (n % 2 ^ d)
    · by_cases h3 : n / 2 ^ d % 2 = 1
      · right; simp [h3, ← h2]
      · left; simp [h3]; omega
    · left; simp [h, h2]; omega

/-- within half a unit -/
theorem re_half (n d : Nat) : 2 * (re n d * 2 ^ d) ≤ 2 * n + 2 ^ d ∧ 2 * n ≤ 2 * (re n d * 2 ^ d) + 2 ^ d := by
  have hd : 2 ^ d * (n / 2 ^ d) + n % 2 ^ d = n := Nat.div_add_mod n (2 ^ d)
  have hl : n % 2 ^ d < 2 ^ d := Nat.mod_lt _ (Nat.two_pow_pos d)
  rcases re_cases n d with ⟨h, h2⟩ | ⟨h, h2⟩
  · rw [h, Nat.mul_comm (n / 2 ^ d)]; omega
  · rw [h, Nat.add_mul, Nat.mul_comm (n / 2 ^ d)]; omega

theorem re_exact (m d : Nat) : re (m * 2 ^ d) d = m := by
  unfold re
  have : m * 2 ^ d % 2 ^ d = 0 := Nat.mul_mod_left ..
  rw [this, Nat.mul_div_cancel _ (Nat.two_pow_pos d)]
  have hp := Nat.two_pow_pos d
  have h1 : ¬ (2 ^ d < 2 * 0) := by omega
  have h2 : ¬ (2 ^ d = 2 * 0) := by omega
  simp only [h1, decide_false, Bool.false_or, beq_eq_false_iff_ne.2 h2, Bool.false_and, Bool.toNat_false, Nat.add_zero]

/-- scaling both -/
theorem re_scale (n d e : Nat) : re (n * 2 ^ e) (d + e) = re n d := by
  unfold re
  rw [Nat.pow_add, Nat.mul_div_mul_right _ _ (Nat.two_pow_pos e), Nat.mul_mod_mul_right]
  have hp := Nat.two_pow_pos e
  have e1 : (2 ^ d * 2 ^ e < 2 * (n % 2 ^ d * 2 ^ e)) ↔ (2 ^ d < 2 * (n % 2 ^ d)) := by
    rw [← Nat.mul_assoc]; exact Nat.mul_lt_mul_right hp
  have e2 : (2 ^ d * 2 ^ e = 2 * (n % 2 ^ d * 2 ^ e)) ↔ (2 ^ d = 2 * (n % 2 ^ d)) := by
    rw [← Nat.mul_assoc]; exact Nat.mul_left_inj (Nat.ne_of_gt hp)
  have e3 : (2 ^ d * 2 ^ e == 2 * (n % 2 ^ d * 2 ^ e)) = (2 ^ d == 2 * (n % 2 ^ d)) := by
    rw [Bool.eq_iff_iff, beq_iff_eq, beq_iff_eq]; exact e2
  rw [decide_eq_decide.2 e1, e3]

theorem log2_mul_pow (n e : Nat) (h : n ≠ 0) : (n * 2 ^ e).log2 = n.log2 + e := by
  have h2 : n * 2 ^ e ≠ 0 := Nat.mul_ne_zero h (Nat.ne_of_gt (Nat.two_pow_pos e))
  apply Nat.le_antisymm
  · have : n * 2 ^ e < 2 ^ (n.log2 + e + 1) := by
      rw [show n.log2 + e + 1 = (n.log2 + 1) + e by omega, Nat.pow_add 2 (n.log2 + 1)]
      exact Nat.mul_lt_mul_of_pos_right Nat.lt_log2_self (Nat.two_pow_pos e)
    have := (Nat.log2_lt h2).2 this
    omega
  · rw [Nat.le_log2 h2, Nat.pow_add]
    exact Nat.mul_le_mul_right _ (Nat.log2_self_le h)

theorem log2_le_of_lt {n k : Nat} (h : n < 2 ^ (k + 1)) : n.log2 ≤ k := by
  by_cases h0 : n = 0
  · subst h0; simp [Nat.log2_zero]
  · have := (Nat.log2_lt h0).2 h; omega

/-- drop bounded -/
theorem drop_le {n k j : Nat} (h : n < 2 ^ (53 + j)) (hk : k ≤ j) : drop n k ≤ j := by
  unfold drop
  have : n.log2 ≤ 52 + j := log2_le_of_lt (by rw [show 52 + j + 1 = 53 + j by omega]; exact h)
  omega

theorem le_drop {n k j : Nat} (h : 2 ^ (52 + j) ≤ n) : j ≤ drop n k := by
  unfold drop
  have h0 : n ≠ 0 := by have := Nat.two_pow_pos (52 + j); omega
  have := (Nat.le_log2 h0).2 h
  omega

theorem lt_of_drop (n k : Nat) : n < 2 ^ (53 + drop n k) := by
  refine Nat.lt_of_lt_of_le (Nat.lt_log2_self (n := n)) (Nat.pow_le_pow_right (by omega) ?_)
  unfold drop; omega

theorem le_of_drop {n k : Nat} (h : k < drop n k) : 2 ^ (52 + drop n k) ≤ n := by
  have h1 : n.log2 = 52 + drop n k := by unfold drop at h ⊢; omega
  have h0 : n ≠ 0 := by intro h0; subst h0; rw [Nat.log2_zero] at h1; omega
  rw [← h1]; exact Nat.log2_self_le h0

theorem drop_scale (n k e : Nat) (h : n ≠ 0) (hk : e ≤ k ∨ 2 ^ 52 ≤ n) : drop (n * 2 ^ e) (k + e) = drop n k + e := by
  unfold drop; rw [log2_mul_pow n e h]
  rcases hk with hk | hk
  · omega
  · have := (Nat.le_log2 h).2 hk; omega

/-- n * 2^e over 2^(k+e) is n over 2^k. -/
theorem rnk_scale (n k e : Nat) : rnk (n * 2 ^ e) (k + e) = rnk n k := by
  by_cases h : n = 0
  · subst h
    simp [rnk, re]
  · unfold rnk
    by_cases hc : e ≤ k ∨ 2 ^ 52 ≤ n
    · rw [drop_scale n k e h hc, re_scale]; congr 2; omega
    · have h1 : n < 2 ^ 52 := by omega
      have d1 : drop n k = k := by
        unfold drop
        have := log2_le_of_lt (n := n) (k := 51) h1
        omega
      have d2 : drop (n * 2 ^ e) (k + e) = k + e := by
        unfold drop; rw [log2_mul_pow n e h]
        have := log2_le_of_lt (n := n) (k := 51) h1
        omega
      rw [d1, d2, re_scale]
      congr 2; omega

theorem rnk_small {n k : Nat} (h : n < 2 ^ 53) : rnk (n * 2 ^ k) k = n := by
  have := rnk_scale n 0 k
  rw [Nat.zero_add] at this
  rw [this]
  unfold rnk
  have d0 : drop n 0 = 0 := Nat.le_zero.1 (drop_le (j := 0) h (Nat.le_refl 0))
  rw [d0]
  have := re_exact n 0
  simp at this ⊢; exact this

theorem rnN_small {n : Nat} (h : n < 2 ^ 53) : rnN n = n := by
  have := rnk_small (k := 0) h
  simpa [rnN] using this

/-- scaling of the rounding itself -/
theorem rnN_mul (n e : Nat) : rnN (n * 2 ^ e) = rnN n * 2 ^ e := by
  by_cases h : n < 2 ^ 53
  · rw [rnN_small h]
    by_cases h0 : n = 0
    · subst h0; simp [rnN, rnk, re]
    unfold rnN rnk
    -- all bits kept
    have hl := log2_le_of_lt (n := n) (k := 52) h
    have : drop (n * 2 ^ e) 0 ≤ e := by unfold drop; rw [log2_mul_pow n e h0]; omega
    generalize drop (n * 2 ^ e) 0 = d at this ⊢
    obtain ⟨c, rfl⟩ : ∃ c, e = c + d := ⟨e - d, by omega⟩
    rw [Nat.pow_add, ← Nat.mul_assoc, re_exact]; rfl
  · have h0 : n ≠ 0 := by omega
    have d : drop (n * 2 ^ e) 0 = drop n 0 + e := by
      unfold drop; rw [log2_mul_pow n e h0]
      have := (Nat.le_log2 (k := 53) h0).2 (by omega)
      omega
    unfold rnN rnk
    rw [d, re_scale, Nat.sub_zero, Nat.sub_zero, Nat.pow_add, Nat.mul_assoc]

/-- A number that 53 bits hold. -/
def RepN (s : Nat) : Prop := ∃ m q, m < 2 ^ 53 ∧ s = m * 2 ^ q

theorem rnN_rep {s : Nat} (h : RepN s) : rnN s = s := by
  obtain ⟨m, q, hm, rfl⟩ := h
  rw [rnN_mul, rnN_small hm]

theorem re_le (n k : Nat) : re n (drop n k) ≤ 2 ^ 53 := by
  have h := lt_of_drop n k
  rw [Nat.pow_add] at h
  have := Nat.div_lt_of_lt_mul (by rw [Nat.mul_comm] at h; exact h)
  rcases re_cases n (drop n k) with ⟨h, _⟩ | ⟨h, _⟩ <;> omega

theorem le_re {n k : Nat} (h : k < drop n k) : 2 ^ 52 ≤ re n (drop n k) := by
  have h1 := le_of_drop h
  rw [Nat.pow_add] at h1
  have := (Nat.le_div_iff_mul_le (Nat.two_pow_pos _)).2 h1
  rcases re_cases n (drop n k) with ⟨h, _⟩ | ⟨h, _⟩ <;> omega

theorem repN_of_le {m q : Nat} (h : m ≤ 2 ^ 53) : RepN (m * 2 ^ q) := by
  by_cases h1 : m < 2 ^ 53
  · exact ⟨m, q, h1, rfl⟩
  · have : m = 2 ^ 53 := by omega
    subst this
    exact ⟨2 ^ 52, q + 1, by omega, by rw [Nat.pow_succ 2 q]; omega⟩

theorem rnk_repN (n k : Nat) : RepN (rnk n k) := repN_of_le (re_le n k)

/-- NEAREST among the numbers that 53 bits hold (no denser ones near). -/
theorem rnN_near (n s : Nat) (h : RepN s) : (rnN n : Int) - n ≤ ((s : Int) - n).natAbs ∧ (n : Int) - rnN n ≤ ((s : Int) - n).natAbs := by
  obtain ⟨m, q, hm, rfl⟩ := h
  unfold rnN rnk
  rw [Nat.sub_zero]
  generalize hd : drop n 0 = d
  have hh := re_half n d
  have hp := Nat.two_pow_pos d
  by_cases h0 : d = 0
  · subst h0
    have : re n 0 = n := by have := re_exact n 0; simpa using this
    rw [this]; omega
  have hge : 2 ^ (52 + d) ≤ n := by rw [← hd]; exact le_of_drop (by omega)
  have hdm : 2 ^ d * (n / 2 ^ d) + n % 2 ^ d = n := Nat.div_add_mod n (2 ^ d)
  have hl : n % 2 ^ d < 2 ^ d := Nat.mod_lt _ hp
  have hq0 : 2 ^ 52 ≤ n / 2 ^ d := (Nat.le_div_iff_mul_le hp).2 (by rw [← Nat.pow_add]; exact hge)
  -- no such number strictly between
  have key : m * 2 ^ q ≤ 2 ^ d * (n / 2 ^ d) ∨ 2 ^ d * (n / 2 ^ d) + 2 ^ d ≤ m * 2 ^ q := by
    by_cases hs : m * 2 ^ q ≤ 2 ^ d * (n / 2 ^ d)
    · exact .inl hs
    right
    have hq : d ≤ q := by
      by_cases hq : d ≤ q
      · exact hq
      exfalso
      have h1 : m * 2 ^ q < 2 ^ 53 * 2 ^ q := Nat.mul_lt_mul_of_pos_right hm (Nat.two_pow_pos q)
      have h2 : 2 ^ 53 * 2 ^ q ≤ 2 ^ 52 * 2 ^ d := by
        rw [← Nat.pow_add, ← Nat.pow_add]; exact Nat.pow_le_pow_right (by omega) (by omega)
      have h3 : 2 ^ 52 * 2 ^ d ≤ 2 ^ d * (n / 2 ^ d) := by rw [Nat.mul_comm]; exact Nat.mul_le_mul_left _ hq0
      omega
    obtain ⟨c, rfl⟩ : ∃ c, q = d + c := ⟨q - d, by omega⟩
    rw [Nat.pow_add, show m * (2 ^ d * 2 ^ c) = 2 ^ d * (m * 2 ^ c) by rw [Nat.mul_left_comm]] at hs ⊢
    have h4 : n / 2 ^ d < m * 2 ^ c := by
      apply Nat.lt_of_not_le; intro hle; exact hs (Nat.mul_le_mul_left _ hle)
    have h5 : 2 ^ d * (n / 2 ^ d + 1) ≤ 2 ^ d * (m * 2 ^ c) := Nat.mul_le_mul_left _ h4
    rw [Nat.mul_add, Nat.mul_one] at h5
    exact h5
  generalize m * 2 ^ q = s at key ⊢
  rcases re_cases n d with ⟨hr, h2⟩ | ⟨hr, h2⟩
  · rw [hr, Nat.mul_comm (n / 2 ^ d)]
    generalize 2 ^ d * (n / 2 ^ d) = A at *
    omega
  · rw [hr, Nat.add_mul, Nat.one_mul, Nat.mul_comm (n / 2 ^ d)]
    generalize 2 ^ d * (n / 2 ^ d) = A at *
    omega

/-- within half a unit of the place -/
theorem rnN_half {n j : Nat} (h : n < 2 ^ (53 + j)) : 2 * rnN n ≤ 2 * n + 2 ^ j ∧ 2 * n ≤ 2 * rnN n + 2 ^ j := by
  have hd := drop_le (k := 0) h (Nat.zero_le _)
  have hh := re_half n (drop n 0)
  have := Nat.pow_le_pow_right (n := 2) (by omega) hd
  unfold rnN rnk
  rw [Nat.sub_zero]
  omega

/-- a multiple of 2^q, too long: its rounding is a multiple of 2^(q+1) -/
theorem rnN_mult {n q : Nat} (h : ¬ RepN (n * 2 ^ q)) : 2 ^ (q + 1) ∣ rnN (n * 2 ^ q) := by
  have hn : 2 ^ 53 ≤ n := by
    apply Nat.le_of_not_lt; intro hl; exact h ⟨n, q, hl, rfl⟩
  rw [rnN_mul, Nat.pow_succ, Nat.mul_comm (2 ^ q)]
  refine Nat.mul_dvd_mul ?_ (Nat.dvd_refl _)
  unfold rnN rnk
  have : 1 ≤ drop n 0 := le_drop (j := 1) hn
  rw [Nat.sub_zero, show drop n 0 = (drop n 0 - 1) + 1 by omega, Nat.pow_succ]
  exact Nat.dvd_mul_left_of_dvd (Nat.dvd_mul_left 2 _) _

/-- a great number's rounding is a multiple -/
theorem rnN_dvd {n j : Nat} (h : 2 ^ (52 + j) ≤ n) : 2 ^ j ∣ rnN n := by
  unfold rnN rnk
  rw [Nat.sub_zero]
  exact Nat.dvd_mul_left_of_dvd (Nat.pow_dvd_pow 2 (le_drop h)) _

/-- of any rounding: within half a unit of the place -/
theorem rnk_half {n k j : Nat} (h : n < 2 ^ (53 + j)) (hk : k ≤ j) : 2 * (rnk n k * 2 ^ k) ≤ 2 * n + 2 ^ j ∧ 2 * n ≤ 2 * (rnk n k * 2 ^ k) + 2 ^ j := by
  have hd := drop_le (k := k) h hk
  have hk' : k ≤ drop n k := by unfold drop; omega
  have hh := re_half n (drop n k)
  have := Nat.pow_le_pow_right (n := 2) (by omega) hd
  unfold rnk
  rw [Nat.mul_assoc, ← Nat.pow_add, Nat.sub_add_cancel hk']
  omega

end Go.Proofs.Ytbknkcfnhfolpaa.Rn
