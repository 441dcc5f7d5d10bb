/-
  The words of 'double': what a finite one is worth in units of 2^-1074, and what +, -, * give: the exact result rounded ('rn', 'rnk').
-/
import Derived.Test.YtbknkcfnhfolpaaRs
import Ieee.Arith
set_option exponentiation.threshold 3000
namespace Go.Proofs.Ytbknkcfnhfolpaa.Rn
open Ieee

/-- of a rung -/
def magn (r : Nat) : Nat := if r < 2 ^ 52 then r else (2 ^ 52 + r % 2 ^ 52) * 2 ^ (r / 2 ^ 52 - 1)

def infR : Nat := 2047 * 2 ^ 52

/-- a finite word -/
def Num (w : Nat) : Prop := w < 2 ^ 64 ∧ w % 2 ^ 63 < infR

def negW (w : Nat) : Bool := w / 2 ^ 63 % 2 == 1

def val (w : Nat) : Int := sg (negW w) (magn (w % 2 ^ 63))

theorem d_binade : double.binade = 2 ^ 52 := rfl
theorem d_inf : double.infRung = infR := by decide
theorem d_sign : double.signWeight = 2 ^ 63 := rfl
theorem d_least : double.leastPlace = -1074 := by decide

theorem magn_build (L k : Nat) (h : L = 0 ∧ k ≤ 2 ^ 53 ∨ 2 ^ 52 ≤ k ∧ k ≤ 2 ^ 53) : magn (L * 2 ^ 52 + k) = k * 2 ^ L := by
  unfold magn
  rcases h with ⟨rfl, h⟩ | ⟨h1, h2⟩
  · split
    · omega
    · by_cases hk : k = 2 ^ 53
      · subst hk
        rw [show (0 * 2 ^ 52 + 2 ^ 53) % 2 ^ 52 = 0 by omega, show (0 * 2 ^ 52 + 2 ^ 53) / 2 ^ 52 - 1 = 1 by omega]
      · rw [show (0 * 2 ^ 52 + k) % 2 ^ 52 = k - 2 ^ 52 by omega, show (0 * 2 ^ 52 + k) / 2 ^ 52 - 1 = 0 by omega]; omega
  · have h0 : ¬ (L * 2 ^ 52 + k < 2 ^ 52) := by omega
    rw [if_neg h0]
    by_cases hk : k = 2 ^ 53
    · subst hk
      rw [show (L * 2 ^ 52 + 2 ^ 53) % 2 ^ 52 = 0 by omega, show (L * 2 ^ 52 + 2 ^ 53) / 2 ^ 52 - 1 = L + 1 by omega, Nat.pow_succ 2 L]; omega
    · rw [show (L * 2 ^ 52 + k) % 2 ^ 52 = k - 2 ^ 52 by omega, show (L * 2 ^ 52 + k) / 2 ^ 52 - 1 = L by omega, show 2 ^ 52 + (k - 2 ^ 52) = k by omega]

/-- a rung's place and digits -/
theorem magn_parts (r : Nat) : ∃ L k, r = L * 2 ^ 52 + k ∧ (L = 0 ∧ k < 2 ^ 53 ∨ 2 ^ 52 ≤ k ∧ k < 2 ^ 53) ∧ magn r = k * 2 ^ L := by
  by_cases h : r < 2 ^ 52
  · exact ⟨0, r, by omega, .inl ⟨rfl, by omega⟩, by simp [magn, h]⟩
  · have := magn_build (r / 2 ^ 52 - 1) (2 ^ 52 + r % 2 ^ 52) (.inr ⟨by omega, by omega⟩)
    rw [show (r / 2 ^ 52 - 1) * 2 ^ 52 + (2 ^ 52 + r % 2 ^ 52) = r by omega] at this
    exact ⟨r / 2 ^ 52 - 1, 2 ^ 52 + r % 2 ^ 52, by omega, .inr ⟨by omega, by omega⟩, this⟩

theorem magn_succ (r : Nat) : magn r < magn (r + 1) := by
  obtain ⟨L, k, hr, hk, hm⟩ := magn_parts r
  have h2 : magn (r + 1) = (k + 1) * 2 ^ L := by
    rw [hr, Nat.add_assoc]; exact magn_build L (k + 1) (by omega)
  rw [hm, h2]
  exact Nat.mul_lt_mul_of_pos_right (by omega) (Nat.two_pow_pos L)

theorem magn_lt {a b : Nat} (h : a < b) : magn a < magn b := by
  induction b with
  | zero => omega
  | succ b ih =>
    rcases Nat.lt_or_eq_of_le (Nat.le_of_lt_succ h) with h1 | h1
    · exact Nat.lt_trans (ih h1) (magn_succ b)
    · subst h1; exact magn_succ a

theorem magn_le {a b : Nat} (h : a ≤ b) : magn a ≤ magn b := by
  rcases Nat.lt_or_eq_of_le h with h1 | h1
  · exact Nat.le_of_lt (magn_lt h1)
  · rw [h1]; exact Nat.le_refl _

theorem magn_inj {a b : Nat} (h : magn a = magn b) : a = b := by
  rcases Nat.lt_trichotomy a b with h1 | h1 | h1
  · have := magn_lt h1; omega
  · exact h1
  · have := magn_lt h1; omega

theorem magn_lt_iff {a b : Nat} : magn a < magn b ↔ a < b :=
  ⟨fun h => Nat.lt_of_not_le fun h2 => by have := magn_le h2; omega, magn_lt⟩

theorem magn_zero : magn 0 = 0 := by simp [magn]

theorem magn_inf : magn infR = 2 ^ 2098 := by
  have := magn_build 2046 (2 ^ 52) (.inr ⟨Nat.le_refl _, by omega⟩)
  rw [show 2046 * 2 ^ 52 + 2 ^ 52 = infR by decide] at this
  rw [this, ← Nat.pow_add]

theorem magn_rep (r : Nat) : RepN (magn r) := by
  obtain ⟨L, k, _, hk, hm⟩ := magn_parts r
  exact ⟨k, L, by omega, hm⟩

theorem val_rep (w : Nat) : Rep (val w) := by
  unfold Rep val sg
  split
  · rw [Int.natAbs_neg]; exact magn_rep _
  · exact magn_rep _

theorem natAbs_val (w : Nat) : (val w).natAbs = magn (w % 2 ^ 63) := by
  unfold val sg; split <;> simp

theorem read_fin {w : Nat} (h : Num w) : ∃ m L, double.read w = .number (negW w) m (-1074 + (L : Nat)) ∧ magn (w % 2 ^ 63) = m * 2 ^ L ∧ (L = 0 ∧ m < 2 ^ 53 ∨ 2 ^ 52 ≤ m ∧ m < 2 ^ 53) := by
  have h2 := h.2
  unfold Format.read
  rw [d_sign, d_binade, d_inf, d_least]
  dsimp only
  unfold magn negW
  by_cases hb : w % 2 ^ 63 < 2 ^ 52
  · rw [if_pos hb, if_pos hb]
    exact ⟨w % 2 ^ 63, 0, by simp, by simp, .inl ⟨rfl, by omega⟩⟩
  · rw [if_neg hb, if_neg hb, if_pos h2]
    exact ⟨_, _, rfl, rfl, .inr ⟨by omega, by omega⟩⟩

theorem word_fin {neg : Bool} {r : Nat} (h : r < infR) : Num (double.word neg r) ∧ negW (double.word neg r) = neg ∧ double.word neg r % 2 ^ 63 = r := by
  have hi : infR < 2 ^ 63 := by decide
  unfold Format.word Num negW
  rw [d_sign]
  cases neg
  · rw [if_neg (by decide)]
    refine ⟨⟨by omega, by omega⟩, ?_, by omega⟩
    rw [show r / 2 ^ 63 = 0 by omega]; rfl
  · rw [if_pos rfl]
    refine ⟨⟨by omega, by omega⟩, ?_, by omega⟩
    rw [show (2 ^ 63 + r) / 2 ^ 63 = 1 by omega]; rfl

theorem val_word {neg : Bool} {r : Nat} (h : r < infR) : val (double.word neg r) = sg neg (magn r) := by
  obtain ⟨_, h2, h3⟩ := word_fin (neg := neg) h
  unfold val; rw [h2, h3]

theorem cut_even (neg : Bool) (n d : Nat) : Toward.even.cut neg n d = re n d := by
  unfold Toward.cut re
  simp only [Nat.shiftLeft_eq, Nat.one_mul]
  by_cases h : d ≤ n.log2 + 2
  · rw [Nat.min_eq_left h]
  · rw [Nat.min_eq_right (by omega)]
    have hn : n < 2 ^ (n.log2 + 1) := Nat.lt_log2_self
    have e1 : 2 ^ (n.log2 + 2) = 2 * 2 ^ (n.log2 + 1) := by rw [Nat.pow_succ 2 (n.log2 + 1)]; omega
    have e2 : 2 ^ (n.log2 + 2) ≤ 2 ^ d := Nat.pow_le_pow_right (by omega) (by omega)
    rw [e1] at e2 ⊢
    generalize 2 ^ (n.log2 + 1) = G at *
    generalize 2 ^ d = D at *
    rw [Nat.div_eq_of_lt (by omega : n < 2 * G), Nat.mod_eq_of_lt (by omega : n < 2 * G), Nat.div_eq_of_lt (by omega : n < D), Nat.mod_eq_of_lt (by omega : n < D)]
    have a1 : decide (2 * G < 2 * n) = false := by simp; omega
    have a2 : decide (D < 2 * n) = false := by simp; omega
    have a3 : (2 * G == 2 * n) = false := by simp; omega
    have a4 : (D == 2 * n) = false := by simp; omega
    simp only [a1, a2, a3, a4, Bool.false_and, Bool.or_self]

/-- THE NEAREST WORD of (neg) n / 2^(1074 + k). -/
theorem nearest_val (neg : Bool) (mag : Nat) (place : Int) (k n : Nat) (hp : -(1074 + k : Int) ≤ place) (hn : n = mag * 2 ^ (place + (1074 + k)).toNat) (hb : rnk n k < 2 ^ 2098) :
    Num (double.nearest neg mag place) ∧ negW (double.nearest neg mag place) = neg ∧ magn (double.nearest neg mag place % 2 ^ 63) = rnk n k := by
  unfold Format.nearest
  by_cases h0 : mag = 0
  · rw [if_pos h0]
    obtain ⟨a, b, c⟩ := word_fin (neg := neg) (r := 0) (by decide)
    refine ⟨a, b, ?_⟩
    rw [c, hn, h0]; simp [magn, rnk, re]
  rw [if_neg h0]
  obtain ⟨s, hs⟩ : ∃ s : Nat, place + (1074 + k) = s := ⟨(place + (1074 + k)).toNat, by omega⟩
  have hpl : place = (s : Int) - (1074 + k) := by omega
  rw [hs, Int.toNat_natCast] at hn
  have hl : n.log2 = mag.log2 + s := by rw [hn, log2_mul_pow _ _ h0]
  -- the place of the last digit
  have hlast : max (place + mag.log2 - (double.fractionBits : Nat)) double.leastPlace = (drop n k : Int) - (1074 + k) := by
    rw [d_least, show double.fractionBits = 52 from rfl, hpl]
    unfold drop; rw [hl]; omega
  dsimp only
  rw [hlast, cut_even, d_least, d_binade, d_inf, Nat.shiftLeft_eq, hpl]
  have hk : k ≤ drop n k := by unfold drop; omega
  have e1 : ((s : Int) - (1074 + k) - ((drop n k : Int) - (1074 + k))).toNat = s - drop n k := by omega
  have e2 : (((drop n k : Int) - (1074 + k)) - ((s : Int) - (1074 + k))).toNat = drop n k - s := by omega
  have e3 : (((drop n k : Int) - (1074 + k)) - -1074).toNat = drop n k - k := by omega
  rw [e1, e2, e3]
  have e4 : re (mag * 2 ^ (s - drop n k)) (drop n k - s) = re n (drop n k) := by
    rcases Nat.le_total (drop n k) s with h | h
    · obtain ⟨c, rfl⟩ : ∃ c, s = c + drop n k := ⟨s - drop n k, by omega⟩
      rw [show c + drop n k - drop n k = c by omega, show drop n k - (c + drop n k) = 0 by omega]
      generalize drop n k = d at *
      rw [hn, Nat.pow_add, ← Nat.mul_assoc, re_exact]
      have := re_exact (mag * 2 ^ c) 0
      simpa using this
    · rw [show s - drop n k = 0 by omega, Nat.pow_zero, Nat.mul_one]
      have := re_scale mag (drop n k - s) s
      rw [Nat.sub_add_cancel h, ← hn] at this
      exact this.symm
  rw [e4]
  have hre : magn ((drop n k - k) * 2 ^ 52 + re n (drop n k)) = rnk n k := by
    refine magn_build _ _ ?_
    by_cases hd : k < drop n k
    · exact .inr ⟨le_re hd, re_le n k⟩
    · exact .inl ⟨by omega, re_le n k⟩
  generalize (drop n k - k) * 2 ^ 52 + re n (drop n k) = r at *
  have hr : r < infR := by
    rw [← magn_lt_iff, magn_inf, hre]; exact hb
  rw [Nat.min_eq_left (Nat.le_of_lt hr)]
  obtain ⟨a, b, c⟩ := word_fin (neg := neg) hr
  exact ⟨a, b, by rw [c, hre]⟩

/-- the value of the nearest -/
theorem signed_eq (neg : Bool) (m u : Nat) : signed neg m u = sg neg (m * 2 ^ u) := by
  unfold signed sg; rw [Nat.shiftLeft_eq]

/-- 'val' in a common place. -/
theorem sg_mul (neg : Bool) (a b : Nat) : sg neg (a * b) = sg neg a * b := by
  unfold sg; split <;> simp [Int.neg_mul]

theorem sg_natAbs (neg : Bool) (n : Nat) : (sg neg n).natAbs = n := by unfold sg; split <;> simp

theorem rn_sg (neg : Bool) (n : Nat) : rn (sg neg n) = sg neg (rnN n) := by
  unfold sg; split
  · exact rn_negnat n
  · exact rn_nat n

theorem rn_lt_of {z : Int} (h : z.natAbs ≤ 2 ^ 2097) : rnN z.natAbs < 2 ^ 2098 := by
  have h1 := rn_abs_le h
  rw [rn_natAbs] at h1
  have : 2 ^ 2098 = 2 ^ 2097 * 2 := Nat.pow_succ ..
  have := Nat.two_pow_pos 2097
  omega

/-- of the sum of two data -/
theorem sum_write {sx sy : Bool} {mx my Lx Ly : Nat} (hb : (sg sx (mx * 2 ^ Lx) + sg sy (my * 2 ^ Ly)).natAbs ≤ 2 ^ 2097) :
    ∃ r, ((Datum.number sx mx (-1074 + (Lx : Nat))).sum (.number sy my (-1074 + (Ly : Nat)))).map double.write = some r ∧ Num r ∧ val r = rn (sg sx (mx * 2 ^ Lx) + sg sy (my * 2 ^ Ly)) := by
  unfold Datum.sum
  dsimp only
  rw [Option.map_some]
  refine ⟨_, rfl, ?_⟩
  unfold Format.write
  dsimp only
  rw [signed_eq, signed_eq]
  -- the base
  obtain ⟨B, hB⟩ : ∃ B : Nat, min (-1074 + (Lx : Int)) (-1074 + (Ly : Int)) = -1074 + (B : Nat) := ⟨min Lx Ly, by omega⟩
  have hBx : B ≤ Lx := by omega
  have hBy : B ≤ Ly := by omega
  rw [hB, show (-1074 + (Lx : Int) - (-1074 + (B : Nat))).toNat = Lx - B by omega, show (-1074 + (Ly : Int) - (-1074 + (B : Nat))).toNat = Ly - B by omega]
  have ex : sg sx (mx * 2 ^ Lx) = sg sx (mx * 2 ^ (Lx - B)) * 2 ^ B := by
    rw [show Lx = (Lx - B) + B by omega, Nat.pow_add, ← Nat.mul_assoc, sg_mul, show Lx - B + B - B = Lx - B by omega]; simp
  have ey : sg sy (my * 2 ^ Ly) = sg sy (my * 2 ^ (Ly - B)) * 2 ^ B := by
    rw [show Ly = (Ly - B) + B by omega, Nat.pow_add, ← Nat.mul_assoc, sg_mul, show Ly - B + B - B = Ly - B by omega]; simp
  rw [ex, ey, ← Int.add_mul] at hb ⊢
  generalize sg sx (mx * 2 ^ (Lx - B)) + sg sy (my * 2 ^ (Ly - B)) = t at *
  have hn : (t * 2 ^ B).natAbs = t.natAbs * 2 ^ B := by rw [Int.natAbs_mul, Int.natAbs_pow]; rfl
  obtain ⟨a, b, c⟩ := nearest_val (if t = 0 then sx && sy else decide (t < 0)) t.natAbs (-1074 + (B : Nat)) 0 (t * 2 ^ B).natAbs (by omega)
    (by rw [hn]; congr 2; omega) (rn_lt_of hb)
  refine ⟨a, ?_⟩
  unfold val
  rw [b, c]
  by_cases h0 : t = 0
  · subst h0
    simp only [Int.zero_mul, rn_zero, Int.natAbs_zero]
    have : rnk 0 0 = 0 := rnN_zero
    rw [this]; unfold sg; split <;> simp
  · rw [if_neg h0]
    unfold rn rnN
    have : decide (t * 2 ^ B < 0) = decide (t < 0) := by
      have hp : (0 : Int) < 2 ^ B := Int.pow_pos (by omega)
      apply decide_eq_decide.2
      constructor
      · intro h; apply Int.lt_of_not_ge; intro hge
        have := Int.mul_nonneg hge (Int.le_of_lt hp)
        omega
      · intro h; exact Int.mul_neg_of_neg_of_pos h hp
    rw [this]

theorem val_eq {w m L : Nat} (h : magn (w % 2 ^ 63) = m * 2 ^ L) : val w = sg (negW w) (m * 2 ^ L) := by
  unfold val; rw [h]

/-- '+' -/
theorem add_val {x y : Nat} (hx : Num x) (hy : Num y) (hb : (val x + val y).natAbs ≤ 2 ^ 2097) : ∃ r, double.add x y = some r ∧ Num r ∧ val r = rn (val x + val y) := by
  obtain ⟨m, L, e1, e2, _⟩ := read_fin hx
  obtain ⟨n, M, f1, f2, _⟩ := read_fin hy
  unfold Format.add
  rw [e1, f1, val_eq e2, val_eq f2]
  rw [val_eq e2, val_eq f2] at hb
  exact sum_write hb

/-- '-' -/
theorem sub_val {x y : Nat} (hx : Num x) (hy : Num y) (hb : (val x - val y).natAbs ≤ 2 ^ 2097) : ∃ r, double.sub x y = some r ∧ Num r ∧ val r = rn (val x - val y) := by
  obtain ⟨m, L, e1, e2, _⟩ := read_fin hx
  obtain ⟨n, M, f1, f2, _⟩ := read_fin hy
  unfold Format.sub
  have e : val x - val y = sg (negW x) (m * 2 ^ L) + sg (!negW y) (n * 2 ^ M) := by
    rw [val_eq e2, val_eq f2, Int.sub_eq_add_neg]
    congr 1
    cases negW y <;> simp [sg]
  rw [e1, f1, e]
  rw [e] at hb
  exact sum_write hb

/-- '*', in units of 2^-2148 -/
theorem mul_valk {x y : Nat} (hx : Num x) (hy : Num y) (hb : rnk ((val x).natAbs * (val y).natAbs) 1074 < 2 ^ 2098) :
    ∃ r, double.mul x y = some r ∧ Num r ∧ val r = sg (negW x ^^ negW y) (rnk ((val x).natAbs * (val y).natAbs) 1074) := by
  obtain ⟨m, L, e1, e2, _⟩ := read_fin hx
  obtain ⟨n, M, f1, f2, _⟩ := read_fin hy
  unfold Format.mul
  rw [e1, f1]
  rw [natAbs_val, natAbs_val, e2, f2] at hb ⊢
  unfold Datum.product
  dsimp only
  rw [Option.map_some]
  refine ⟨_, rfl, ?_⟩
  unfold Format.write
  dsimp only
  obtain ⟨a, b, c⟩ := nearest_val (negW x ^^ negW y) (m * n) (-1074 + (L : Int) + (-1074 + (M : Int))) 1074 (m * 2 ^ L * (n * 2 ^ M)) (by omega)
    (by rw [show (-1074 + (L : Int) + (-1074 + (M : Int)) + (1074 + (1074 : Nat))).toNat = L + M by omega, Nat.pow_add]; simp only [Nat.mul_assoc, Nat.mul_left_comm]) hb
  refine ⟨a, ?_⟩
  unfold val
  rw [b, c]

theorem negW_eq {w : Nat} (h : val w ≠ 0) : negW w = decide (val w < 0) := by
  unfold val sg at h ⊢
  generalize magn (w % 2 ^ 63) = m at *
  generalize negW w = n at *
  cases n
  · rw [if_neg (by decide)]; exact (decide_eq_false (by omega)).symm
  · rw [if_pos rfl] at h ⊢; exact (decide_eq_true (by omega)).symm

/-- '*', where the product is a whole number of units -/
theorem mul_val {x y : Nat} {z : Int} (hx : Num x) (hy : Num y) (hz : val x * val y = z * 2 ^ 1074) (hb : z.natAbs ≤ 2 ^ 2097) : ∃ r, double.mul x y = some r ∧ Num r ∧ val r = rn z := by
  have hn : (val x).natAbs * (val y).natAbs = z.natAbs * 2 ^ 1074 := by
    rw [← Int.natAbs_mul, hz, Int.natAbs_mul, Int.natAbs_pow]; rfl
  have hk : rnk ((val x).natAbs * (val y).natAbs) 1074 = rnN z.natAbs := by
    rw [hn]; have := rnk_scale z.natAbs 0 1074; rw [Nat.zero_add] at this; exact this
  obtain ⟨r, h1, h2, h3⟩ := mul_valk hx hy (by rw [hk]; exact rn_lt_of hb)
  refine ⟨r, h1, h2, ?_⟩
  rw [h3, hk]
  by_cases h0 : z = 0
  · subst h0; rw [Int.natAbs_zero, rnN_zero, rn_zero]; unfold sg; split <;> simp
  · -- the sign
    have hp : (0 : Int) < 2 ^ 1074 := Int.pow_pos (by omega)
    have h4 : val x * val y ≠ 0 := by rw [hz]; exact Int.mul_ne_zero h0 (Int.ne_of_gt hp)
    have hx0 : val x ≠ 0 := by intro h; apply h4; rw [h, Int.zero_mul]
    have hy0 : val y ≠ 0 := by intro h; apply h4; rw [h, Int.mul_zero]
    unfold rn
    suffices hs : (negW x ^^ negW y) = decide (z < 0) by rw [hs]
    have sx := negW_eq hx0
    have sy := negW_eq hy0
    have sz : decide (z < 0) = decide (val x * val y < 0) := by
      rw [hz]; apply decide_eq_decide.2
      constructor
      · intro h; exact Int.mul_neg_of_neg_of_pos h hp
      · intro h; apply Int.lt_of_not_ge; intro hge
        have := Int.mul_nonneg hge (Int.le_of_lt hp)
        omega
    rw [sx, sy, sz]
    rcases Int.lt_or_gt_of_ne hx0 with a | a <;> rcases Int.lt_or_gt_of_ne hy0 with b | b
    · have := Int.mul_pos_of_neg_of_neg a b
      rw [decide_eq_true a, decide_eq_true b, decide_eq_false (by omega)]; rfl
    · have := Int.mul_neg_of_neg_of_pos a b
      rw [decide_eq_true a, decide_eq_false (by omega : ¬ val y < 0), decide_eq_true this]; rfl
    · have := Int.mul_neg_of_pos_of_neg a b
      rw [decide_eq_false (by omega : ¬ val x < 0), decide_eq_true b, decide_eq_true this]; rfl
    · have := Int.mul_pos a b
      rw [decide_eq_false (by omega : ¬ val x < 0), decide_eq_false (by omega : ¬ val y < 0), decide_eq_false (by omega)]; rfl

end Go.Proofs.Ytbknkcfnhfolpaa.Rn
