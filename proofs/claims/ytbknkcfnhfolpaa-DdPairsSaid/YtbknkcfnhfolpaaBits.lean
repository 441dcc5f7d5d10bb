/-
  The bits of a float64: '-', '==', Float64bits and back; float.Kind and dd.Safe.
-/
import Derived.Test.YtbknkcfnhfolpaaDv
import Derived.Laws.BitsAllLaws
import Derived.Laws.Externs
set_option exponentiation.threshold 3000
namespace Go.Proofs.Ytbknkcfnhfolpaa
open Go.RowKit Rn
namespace Rn

theorem negFloat_eq {b : Nat} (h : b < 2 ^ 64) : Op.negFloat .f64 b = if b < 2 ^ 63 then b + 2 ^ 63 else b - 2 ^ 63 := by
  have key : ∀ n, n < 2 ^ 63 → n ^^^ 2 ^ 63 = n + 2 ^ 63 := by
    intro n hn
    apply Nat.eq_of_testBit_eq
    intro i
    rw [Nat.testBit_xor, Nat.testBit_two_pow, Nat.add_comm]
    rcases Nat.lt_trichotomy i 63 with hi | hi | hi
    · rw [Nat.testBit_two_pow_add_gt hi, decide_eq_false (by omega : ¬ 63 = i), Bool.xor_false]
    · subst hi; rw [Nat.testBit_two_pow_add_eq, Nat.testBit_lt_two_pow hn]; rfl
    · rw [Nat.testBit_lt_two_pow (x := n) (Nat.lt_of_lt_of_le hn (Nat.pow_le_pow_right (by omega) (by omega))),
        Nat.testBit_lt_two_pow (x := 2 ^ 63 + n) (Nat.lt_of_lt_of_le (by omega : 2 ^ 63 + n < 2 ^ 64) (Nat.pow_le_pow_right (by omega) hi))]
      rw [decide_eq_false (by omega : ¬ 63 = i)]; rfl
  have hd : Op.negFloat .f64 b = b ^^^ 2 ^ 63 := rfl
  rw [hd]
  split
  · exact key b (by assumption)
  · have e := key (b - 2 ^ 63) (by omega)
    rw [Nat.sub_add_cancel (by omega)] at e
    rw [← e, Nat.xor_assoc, Nat.xor_self, Nat.xor_zero]
    omega

theorem neg_num {b : Nat} (h : Num b) : Num (Op.negFloat .f64 b) := by
  obtain ⟨h1, h2⟩ := h
  unfold Num; rw [negFloat_eq h1]
  split
  · exact ⟨by omega, by rw [Nat.add_mod_right]; exact h2⟩
  · exact ⟨by omega, by rw [show (b - 2 ^ 63) % 2 ^ 63 = b % 2 ^ 63 by omega]; exact h2⟩

theorem neg_val {b : Nat} (h : b < 2 ^ 64) : val (Op.negFloat .f64 b) = -val b := by
  unfold val negW sg
  rw [negFloat_eq h]
  by_cases hb : b < 2 ^ 63
  · rw [if_pos hb, Nat.add_mod_right, show (b + 2 ^ 63) / 2 ^ 63 = 1 by omega, show b / 2 ^ 63 = 0 by omega]; rfl
  · rw [if_neg hb, show (b - 2 ^ 63) % 2 ^ 63 = b % 2 ^ 63 by omega, show (b - 2 ^ 63) / 2 ^ 63 = 0 by omega, show b / 2 ^ 63 = 1 by omega]
    generalize magn (b % 2 ^ 63) = m
    simp

theorem order_eq {x y : Nat} (hx : Num x) (hy : Num y) : (Ieee.double.order x y == some .eq) = decide (val x = val y) := by
  obtain ⟨m, L, e1, e2, _⟩ := read_fin hx
  obtain ⟨n, M, f1, f2, _⟩ := read_fin hy
  unfold Ieee.Format.order
  rw [e1, f1]
  unfold Ieee.Datum.order
  dsimp only
  rw [val_eq e2, val_eq f2]
  obtain ⟨B, hB⟩ : ∃ B : Nat, min (-1074 + (L : Int)) (-1074 + (M : Int)) = -1074 + (B : Nat) := ⟨min L M, by omega⟩
  rw [hB, show (-1074 + (L : Int) - (-1074 + (B : Nat))).toNat = L - B by omega, show (-1074 + (M : Int) - (-1074 + (B : Nat))).toNat = M - B by omega, signed_eq, signed_eq]
  have ex : sg (negW x) (m * 2 ^ L) = sg (negW x) (m * 2 ^ (L - B)) * 2 ^ B := by
    rw [show L = (L - B) + B by omega, Nat.pow_add, ← Nat.mul_assoc, sg_mul, show L - B + B - B = L - B by omega]; simp
  have ey : sg (negW y) (n * 2 ^ M) = sg (negW y) (n * 2 ^ (M - B)) * 2 ^ B := by
    rw [show M = (M - B) + B by omega, Nat.pow_add, ← Nat.mul_assoc, sg_mul, show M - B + B - B = M - B by omega]; simp
  rw [ex, ey]
  generalize sg (negW x) (m * 2 ^ (L - B)) = a
  generalize sg (negW y) (n * 2 ^ (M - B)) = b
  have hp : (2 : Int) ^ B ≠ 0 := Int.ne_of_gt (Int.pow_pos (by omega))
  have h1 : (a * 2 ^ B = b * 2 ^ B) ↔ a = b := Int.mul_eq_mul_right_iff hp
  rw [Bool.eq_iff_iff, decide_eq_true_iff, h1]
  show (some (compare a b) == some .eq) = true ↔ _
  rw [beq_iff_eq, Option.some_inj, Int.compare_eq_eq]

theorem order_true {x y : Nat} (hx : Num x) (hy : Num y) (h : val x = val y) : (Ieee.double.order x y == some .eq) = true := by
  rw [order_eq hx hy]; exact decide_eq_true h

end Rn

@[go_sem] theorem unary_negf (b : Nat) : Op.unary .neg (.float .f64 b) = pure (.float .f64 (Op.negFloat .f64 b)) := rfl

@[go_sem] theorem call9 (b : Nat) (w : World) : (callFunc 9 #[.int .u64 b]).run Try.prog w = .ok (.value (.float .f64 b)) w := by
  rw [run_callFunc_extern (e := Extern.MathFloatBits.float64frombits) Try.func9 (by kernel_rfl) (by kernel_rfl) (by kernel_rfl) (by kernel_rfl)]
  rfl

@[go_sem] theorem call30 (b : Nat) (w : World) : (callFunc 30 #[.float .f64 b]).run Try.prog w = .ok (.value (.int .u64 b)) w := by
  rw [run_callFunc_extern (e := Extern.MathFloatBits.float64bits) Try.func30 (by kernel_rfl) (by kernel_rfl) (by kernel_rfl) (by kernel_rfl)]
  rfl

/-- the two fields -/
def expo (b : Nat) : Nat := b / 2 ^ 52 % 2048
def frac (b : Nat) : Nat := b % 2 ^ 52

theorem bits_expo {b : Nat} (h : b < 2 ^ 64) : bits .and .u64 ((b : Int) / 4503599627370496) 2047 = (expo b : Int) := by
  rw [u64_and _ _ (by omega) (by omega) (by omega) (by omega)]
  congr 1
  rw [show ((b : Int) / 4503599627370496).toNat = b / 2 ^ 52 by omega]
  exact nat_mask11 _

theorem bits_frac {b : Nat} (h : b < 2 ^ 64) : bits .and .u64 (b : Int) 4503599627370495 = (frac b : Int) := by
  rw [u64_and _ _ (by omega) (by omega) (by omega) (by omega)]
  congr 1
  exact Nat.and_two_pow_sub_one_eq_mod _ 52

theorem expo_lt (b : Nat) : expo b < 2048 := Nat.mod_lt _ (by decide)
theorem frac_lt (b : Nat) : frac b < 2 ^ 52 := Nat.mod_lt _ (by decide)

set_option maxHeartbeats 1000000 in
theorem field_is {b : Nat} (h : b < 2 ^ 64) (w : World) :
    Calls Try.prog 47 #[.int .u64 b] w fun e w' => e = .returned (.int .i64 (expo b)) ∧ w = w' := by
  have h1 := bits_expo h
  have h2 := expo_lt b
  generalize expo b = e at *
  go_enter Try.func47, Try.ntmps47
  go_wp2
  go_ret
  exact ⟨rfl, rfl⟩

/-- Kind -/
def kindE (e f : Nat) : Nat := if e = 0 then (if f = 0 then 0 else 1) else if e < 2047 then 2 else if f = 0 then 3 else if 2 ^ 51 ≤ f then 4 else 5
theorem kindE1 {f : Nat} (hf : ¬ f = 0) : kindE 0 f = 1 := by unfold kindE; rw [if_pos rfl, if_neg hf]
theorem kindE2 {e f : Nat} (he : ¬ e = 0) (h2 : e < 2047) : kindE e f = 2 := by unfold kindE; rw [if_neg he, if_pos h2]
theorem kindE3 {e : Nat} (he : ¬ e = 0) (h2 : ¬ e < 2047) : kindE e 0 = 3 := by unfold kindE; rw [if_neg he, if_neg h2, if_pos rfl]
theorem kindE4 {e f : Nat} (he : ¬ e = 0) (h2 : ¬ e < 2047) (hf : ¬ f = 0) (h3 : 2251799813685248 ≤ f) : kindE e f = 4 := by unfold kindE; rw [if_neg he, if_neg h2, if_neg hf, if_pos h3]
theorem kindE5 {e f : Nat} (he : ¬ e = 0) (h2 : ¬ e < 2047) (hf : ¬ f = 0) (h3 : ¬ 2251799813685248 ≤ f) : kindE e f = 5 := by unfold kindE; rw [if_neg he, if_neg h2, if_neg hf, if_neg h3]
def kindN (b : Nat) : Nat := kindE (expo b) (frac b)

set_option maxRecDepth 100000 in
set_option maxHeartbeats 2000000 in
theorem kind_is {b : Nat} (h : b < 2 ^ 64) (w : World) :
    Calls Try.prog 39 #[.int .u64 b] w fun e w' => e = .returned (.int .i64 (kindN b)) ∧ w = w' := by
  have h1 := bits_frac h
  have h3 := fun w => field_is h w
  unfold kindN
  have h4 := expo_lt b
  have h5 : frac b < 4503599627370496 := frac_lt b
  generalize expo b = e at *
  generalize frac b = f at *
  obtain ⟨k, hk⟩ : ∃ k, k = kindE e f := ⟨_, rfl⟩
  rw [← hk]
  have HK := Lib.hid hk
  clear h hk
  go_enter Try.func39, Try.ntmps39
  go_wp2_with fail
  refine (h3 _).mono ?_
  rintro _ w1 ⟨rfl, rfl⟩
  clear h3
  by_cases he : e = 0
  · subst he
    by_cases hf : f = 0
    · subst hf
      obtain rfl : k = 0 := HK.out
      go_wp2
      go_ret
      exact ⟨rfl, rfl⟩
    · obtain rfl : k = 1 := HK.out.trans (kindE1 hf)
      clear HK
      go_wp2
      go_ret
      exact ⟨rfl, rfl⟩
  · by_cases he2 : e < 2047
    · obtain rfl : k = 2 := HK.out.trans (kindE2 he he2)
      clear HK
      go_wp2
      go_ret
      exact ⟨rfl, rfl⟩
    · by_cases hf : f = 0
      · subst hf
        obtain rfl : k = 3 := HK.out.trans (kindE3 he he2)
        clear HK
        go_wp2
        go_ret
        exact ⟨rfl, rfl⟩
      · have hf' : ((f : Int) == 0) = false := by simp; omega
        by_cases hf2 : 2251799813685248 ≤ f
        · obtain rfl : k = 4 := HK.out.trans (kindE4 he he2 hf hf2)
          have hg : (2251799813685248 : Int) ≤ f := by omega
          clear HK hf2 h5 hf
          go_wp2
          go_ret
          exact ⟨rfl, rfl⟩
        · obtain rfl : k = 5 := HK.out.trans (kindE5 he he2 hf hf2)
          have hg : decide ((2251799813685248 : Int) ≤ f) = false := decide_eq_false (by omega)
          have hg' : decide (2251799813685248 ≤ f) = false := decide_eq_false hf2
          clear HK hf2 h5 hf
          go_wp2
          go_ret
          exact ⟨rfl, rfl⟩

/-- dd.Safe -/
def safeB (b : Nat) : Bool := kindN b == 0 || (decide (423 ≤ expo b) && decide (expo b ≤ 1623))

set_option maxHeartbeats 2000000 in
theorem safe_is {b : Nat} (h : b < 2 ^ 64) (w : World) :
    Calls Try.prog 25 #[.int .u64 b] w fun e w' => e = .returned (.bool (safeB b)) ∧ w = w' := by
  have h1 := bits_expo h
  have h3 := fun w => kind_is h w
  unfold safeB
  have h4 := expo_lt b
  generalize expo b = e at *
  generalize kindN b = k at *
  clear h
  go_enter Try.func25, Try.ntmps25
  go_wp2_with fail
  refine (h3 _).mono ?_
  rintro _ w1 ⟨rfl, rfl⟩
  clear h3
  by_cases hk : k = 0
  · subst hk
    go_wp2
    go_ret
    exact ⟨rfl, rfl⟩
  · by_cases he : 423 ≤ e
    · by_cases he2 : e ≤ 1623
      · go_wp2
        go_ret
        exact ⟨ret_eq (congrArg Value.bool (by rw [Bool.eq_iff_iff]; simp; try omega)), rfl⟩
      · go_wp2
        go_ret
        exact ⟨ret_eq (congrArg Value.bool (by rw [Bool.eq_iff_iff]; simp [he, he2]; try omega)), rfl⟩
    · go_wp2
      go_ret
      exact ⟨ret_eq (congrArg Value.bool (by rw [Bool.eq_iff_iff]; simp; try omega)), rfl⟩

end Go.Proofs.Ytbknkcfnhfolpaa
