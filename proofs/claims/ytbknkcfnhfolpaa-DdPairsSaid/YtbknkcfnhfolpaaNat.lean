/-
  Digits to the base 65536: the plain law of each loop. No program in sight.
-/
import Derived.Test.YtbknkcfnhfolpaaDig
namespace Go.Proofs.Ytbknkcfnhfolpaa

def dg (xs : List Nat) (i : Nat) : Nat := xs.getD i 0

theorem dg_get {xs : List Nat} {i : Nat} (h : i < xs.length) : xs[i]? = some (dg xs i) := by
  unfold dg; rw [List.getD_eq_getElem?_getD, List.getElem?_eq_getElem h]; rfl
theorem dg_out {xs : List Nat} {i : Nat} (h : xs.length ≤ i) : dg xs i = 0 := by
  unfold dg; rw [List.getD_eq_getElem?_getD, List.getElem?_eq_none h]; rfl
theorem dg_lt {xs : List Nat} (h : Digs xs) (i : Nat) : dg xs i < 65536 := by
  by_cases hi : i < xs.length
  · exact h.get (dg_get hi)
  · rw [dg_out (by omega)]; omega
theorem take_dg (xs : List Nat) (i : Nat) : ofd (xs.take (i + 1)) = ofd (xs.take i) + 65536 ^ i * dg xs i := by
  by_cases hi : i < xs.length
  · exact ofd_take (dg_get hi)
  · rw [dg_out (by omega), List.take_of_length_le (by omega), List.take_of_length_le (by omega)]; omega
theorem take_all {xs : List Nat} {i : Nat} (h : xs.length ≤ i) : ofd (xs.take i) = ofd xs := by rw [List.take_of_length_le h]
theorem ofd_cut (xs : List Nat) (i : Nat) : ofd xs = ofd (xs.take i) + 65536 ^ i * ofd (xs.drop i) := by
  by_cases hi : i ≤ xs.length
  · conv => lhs; rw [← List.take_append_drop i xs, ofd_app, List.length_take, Nat.min_eq_left hi]
  · rw [List.take_of_length_le (by omega), List.drop_of_length_le (by omega)]; simp [ofd]
theorem ofd_take_lt {xs : List Nat} (h : Digs xs) (i : Nat) : ofd (xs.take i) < 65536 ^ i := by
  refine Nat.lt_of_lt_of_le (ofd_lt (h.take i)) (Nat.pow_le_pow_right (by omega) ?_)
  exact List.length_take_le _ _
theorem drop_dg (xs : List Nat) (i : Nat) : ofd (xs.drop i) = dg xs i + 65536 * ofd (xs.drop (i + 1)) := by
  by_cases hi : i < xs.length
  · rw [List.drop_eq_getElem_cons hi, ofd]
    have := dg_get hi
    rw [List.getElem?_eq_getElem hi] at this
    rw [Option.some.inj this]
  · rw [dg_out (by omega), List.drop_of_length_le (by omega), List.drop_of_length_le (by omega)]; rfl
theorem drop_all {xs : List Nat} {i : Nat} (h : xs.length ≤ i) : ofd (xs.drop i) = 0 := by rw [List.drop_of_length_le h]; rfl

/-- the number of bits -/
def bl (n : Nat) : Nat := if n = 0 then 0 else n.log2 + 1
theorem bl_zero : bl 0 = 0 := rfl
theorem bl_pos {n : Nat} (h : n ≠ 0) : bl n = n.log2 + 1 := by unfold bl; rw [if_neg h]
theorem bl_half {n : Nat} (h : 0 < n) : bl n = bl (n / 2) + 1 := by
  rw [bl_pos (by omega)]
  by_cases h1 : n / 2 = 0
  · rw [h1, bl_zero]
    have : n = 1 := by omega
    subst this; decide
  · rw [bl_pos h1]
    rw [Nat.log2_def n, if_pos (by omega)]
theorem bl_le {n k : Nat} (h : n < 2 ^ k) : bl n ≤ k := by
  unfold bl; split
  · omega
  · have := (Nat.log2_lt (by assumption)).2 h; omega
theorem lt_bl (n : Nat) : n < 2 ^ bl n := by
  unfold bl; split
  · subst n; decide
  · exact Nat.lt_log2_self
theorem bl_digits {xs : List Nat} {n : Nat} (h : Can xs n) (hn : n ≠ 0) : bl n = 16 * (xs.length - 1) + bl (dg xs (xs.length - 1)) ∧ 0 < dg xs (xs.length - 1) := by
  have hp := h.pos hn
  have ht := h.top (h.ne hn)
  have hv := h.val
  have h1 := take_dg xs (xs.length - 1)
  rw [take_all (by omega), hv] at h1
  have h2 := ofd_take_lt h.digs (xs.length - 1)
  generalize ofd (xs.take (xs.length - 1)) = A at *
  generalize dg xs (xs.length - 1) = d at *
  have hd : 0 < d := by
    apply Nat.pos_of_ne_zero; intro h0; subst h0; omega
  refine ⟨?_, hd⟩
  rw [bl_pos hn, bl_pos (by omega)]
  rw [pow16] at *
  generalize 16 * (xs.length - 1) = k at *
  have hd1 : 2 ^ d.log2 ≤ d := Nat.log2_self_le (by omega)
  have hd2 : d < 2 ^ (d.log2 + 1) := Nat.lt_log2_self
  have : n.log2 = k + d.log2 := by
    rw [Nat.log2_eq_iff hn]
    constructor
    · rw [Nat.pow_add]
      have := Nat.mul_le_mul_left (2 ^ k) hd1
      omega
    · rw [Nat.add_assoc, Nat.pow_add 2 k]
      have := Nat.mul_le_mul_left (2 ^ k) (Nat.succ_le_of_lt hd2)
      rw [Nat.mul_succ] at this
      omega
  omega

/-- a bit -/
theorem bit_digits {xs : List Nat} {n : Nat} (h : Digs xs) (hv : ofd xs = n) (i : Nat) : n / 2 ^ i % 2 = dg xs (i / 16) / 2 ^ (i % 16) % 2 := by
  have h1 := ofd_cut xs (i / 16)
  have h2 := ofd_take_lt h (i / 16)
  rw [drop_dg, hv] at h1
  rw [pow16] at h1 h2
  generalize ofd (xs.take (i / 16)) = A at *
  generalize dg xs (i / 16) = d at *
  generalize ofd (xs.drop (i / 16 + 1)) = R at *
  have h3 : n / 2 ^ (16 * (i / 16)) = d + 65536 * R := by
    rw [h1, Nat.add_mul_div_left _ _ (Nat.two_pow_pos _), Nat.div_eq_of_lt h2]; omega
  have h4 : n / 2 ^ i = (d + 65536 * R) / 2 ^ (i % 16) := by
    rw [← h3, Nat.div_div_eq_div_mul, ← Nat.pow_add]; congr 2; omega
  rw [h4]
  have hr : i % 16 < 16 := Nat.mod_lt _ (by omega)
  generalize i % 16 = r at *
  have h5 : 65536 * R = 2 ^ r * (2 * (2 ^ (15 - r) * R)) := by
    have : 65536 = 2 ^ r * (2 * 2 ^ (15 - r)) := by
      rw [Nat.mul_left_comm, ← Nat.pow_add, show r + (15 - r) = 15 by omega]
    rw [this, Nat.mul_assoc, Nat.mul_assoc]
  rw [h5, Nat.add_mul_div_left _ _ (Nat.two_pow_pos _)]
  omega

theorem half_pow (n k : Nat) : n / 2 ^ k / 2 = n / 2 ^ (k + 1) := by rw [Nat.div_div_eq_div_mul, Nat.pow_succ]
theorem half_bit (n k : Nat) : n / 2 ^ k = 2 * (n / 2 ^ (k + 1)) + n / 2 ^ k % 2 := by rw [← half_pow]; omega

/-- COMPARED from the top -/
def cmpN (m n : Nat) : Int := if m < n then -1 else if n < m then 1 else 0
theorem cmp_step {xs ys : List Nat} (hx : Digs xs) {i : Nat} (he : ofd (xs.drop (i + 1)) = ofd (ys.drop (i + 1))) (h : dg xs i < dg ys i) : ofd xs < ofd ys := by
  have h1 := ofd_cut xs i
  have h2 := ofd_cut ys i
  have h3 := ofd_take_lt hx i
  rw [drop_dg] at h1 h2
  rw [he] at h1
  generalize ofd (ys.drop (i + 1)) = R at *
  have h4 : 65536 ^ i * (dg xs i + 65536 * R + 1) ≤ 65536 ^ i * (dg ys i + 65536 * R) := Nat.mul_le_mul_left _ (by omega)
  rw [Nat.mul_add, Nat.mul_one] at h4
  omega
theorem cmpN_lt {m n : Nat} (h : m < n) : cmpN m n = -1 := by unfold cmpN; rw [if_pos h]
theorem cmpN_gt {m n : Nat} (h : n < m) : cmpN m n = 1 := by unfold cmpN; rw [if_neg (by omega), if_pos h]
theorem cmpN_eq {m n : Nat} (h : m = n) : cmpN m n = 0 := by unfold cmpN; rw [if_neg (by omega), if_neg (by omega)]

/-- one column of a sum -/
theorem col_add {A B O s P c d : Nat} (h : O + P * c = A + B) (hs : s = c + d) : O + P * (s % 65536) + P * 65536 * (s / 65536) = A + B + P * d := by
  have h1 : P * (s % 65536) + P * 65536 * (s / 65536) = P * s := by
    rw [Nat.mul_assoc, ← Nat.mul_add, Nat.add_comm, Nat.div_add_mod]
  have h2 : P * s = P * c + P * d := by rw [hs, Nat.mul_add]
  omega

/-- canonical by its last digit -/
theorem Can.mk_top {L : List Nat} {n : Nat} (hd : Digs L) (hv : ofd L = n) (ht : 0 < L.length → 65536 ^ (L.length - 1) ≤ n) : Can L n :=
  ⟨hd, hv, fun h => ht (List.length_pos_iff.2 h)⟩
theorem Can.norm {L : List Nat} (hd : Digs L) {k : Nat} (hz : ofd (L.drop k) = 0) (ht : k = 0 ∨ 0 < dg L (k - 1)) (hk : k ≤ L.length) : Can (L.take k) (ofd L) := by
  have h1 := ofd_cut L k
  rw [hz, Nat.mul_zero] at h1
  refine Can.mk_top (hd.take k) (by omega) ?_
  rw [List.length_take, Nat.min_eq_left hk]
  intro h0
  have h2 := take_dg L (k - 1)
  rw [Nat.sub_add_cancel h0] at h2
  have h3 : 65536 ^ (k - 1) * 1 ≤ 65536 ^ (k - 1) * dg L (k - 1) := Nat.mul_le_mul_left _ (by omega)
  omega

end Go.Proofs.Ytbknkcfnhfolpaa
