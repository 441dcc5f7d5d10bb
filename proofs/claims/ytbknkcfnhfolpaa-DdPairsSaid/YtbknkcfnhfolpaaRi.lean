/-
  Rounding of whole numbers with signs; of two numbers the sum's rest is a number (Knuth, Dekker), the halves of one (Veltkamp), the product's rest.
-/
import Derived.Test.YtbknkcfnhfolpaaRn
namespace Go.Proofs.Ytbknkcfnhfolpaa.Rn

/-- a size with a sign -/
def sg (neg : Bool) (n : Nat) : Int := if neg then -(n : Int) else n

def rn (z : Int) : Int := sg (decide (z < 0)) (rnN z.natAbs)

def Rep (z : Int) : Prop := RepN z.natAbs

theorem rn_nat (n : Nat) : rn (n : Int) = (rnN n : Int) := by
  unfold rn sg
  have : ¬ ((n : Int) < 0) := by omega
  simp [this]

theorem rnN_zero : rnN 0 = 0 := rnN_small (by omega)

theorem rn_negnat (n : Nat) : rn (-(n : Int)) = -(rnN n : Int) := by
  unfold rn sg
  by_cases h : n = 0
  · subst h; simp [rnN_zero]
  · have : (-(n : Int) < 0) := by omega
    simp only [this, decide_true, if_true, Int.natAbs_neg, Int.natAbs_natCast]

theorem rn_neg (z : Int) : rn (-z) = -rn z := by
  rcases Int.natAbs_eq z with h | h
  · rw [h, rn_negnat, rn_nat]
  · rw [h, Int.neg_neg, rn_nat, rn_negnat, Int.neg_neg]

theorem rn_zero : rn 0 = 0 := by have := rn_nat 0; simpa [rnN_zero] using this

theorem rn_natAbs (z : Int) : (rn z).natAbs = rnN z.natAbs := by
  rcases Int.natAbs_eq z with h | h
  · rw [h, rn_nat]; simp
  · rw [h, rn_negnat]; simp

theorem rep_iff {z : Int} : Rep z ↔ ∃ (m : Int) (q : Nat), m.natAbs < 2 ^ 53 ∧ z = m * 2 ^ q := by
  constructor
  · rintro ⟨m, q, hm, hz⟩
    rcases Int.natAbs_eq z with h | h
    · exact ⟨m, q, by simpa using hm, by rw [h, hz]; simp⟩
    · exact ⟨-(m : Int), q, by simpa using hm, by rw [h, hz]; simp [Int.neg_mul]⟩
  · rintro ⟨m, q, hm, rfl⟩
    exact ⟨m.natAbs, q, hm, by rw [Int.natAbs_mul, Int.natAbs_pow]; rfl⟩

theorem Rep.neg {z : Int} (h : Rep z) : Rep (-z) := by unfold Rep at h ⊢; rwa [Int.natAbs_neg]

theorem rn_rep {z : Int} (h : Rep z) : rn z = z := by
  unfold rn
  rw [rnN_rep h]
  unfold sg; split <;> simp_all <;> omega

theorem rep_rn (z : Int) : Rep (rn z) := by
  unfold Rep; rw [rn_natAbs]; exact rnk_repN _ _

/-- a multiple of 2^q, at most 2^53 of them -/
theorem rep_of_dvd {z : Int} {q : Nat} (hd : (2 : Int) ^ q ∣ z) (hl : z.natAbs ≤ 2 ^ 53 * 2 ^ q) : Rep z := by
  obtain ⟨m, rfl⟩ := hd
  unfold Rep
  rw [Int.natAbs_mul, Int.natAbs_pow, Nat.mul_comm] at hl ⊢
  exact repN_of_le (Nat.le_of_mul_le_mul_right hl (Nat.two_pow_pos q))

theorem rep_small {z : Int} (hl : z.natAbs ≤ 2 ^ 53) : Rep z := rep_of_dvd (q := 0) (by simp) (by simpa using hl)

theorem rep_zero : Rep 0 := rep_small (by simp)

/-- NEAREST. -/
theorem rn_near {z s : Int} (h : Rep s) : (rn z - z).natAbs ≤ (s - z).natAbs := by
  have key : ∀ (n : Nat) (s : Int), Rep s → ((rnN n : Int) - n).natAbs ≤ (s - n).natAbs := by
    intro n s h
    rcases Int.natAbs_eq s with e | e
    · have := rnN_near n s.natAbs h
      rw [← e] at this; omega
    · -- a number of the other sign is no nearer than nought
      have := rnN_near n 0 ⟨0, 0, by omega, rfl⟩
      omega
  rcases Int.natAbs_eq z with e | e
  · rw [e, rn_nat]; exact key _ s h
  · rw [e, rn_negnat]
    have := key z.natAbs (-s) h.neg
    omega

theorem rn_half {z : Int} {j : Nat} (h : z.natAbs < 2 ^ (53 + j)) : 2 * (rn z - z).natAbs ≤ 2 ^ j := by
  have := rnN_half h
  generalize hp : 2 ^ j = P at *
  rcases Int.natAbs_eq z with e | e
  · have h2 := rn_nat z.natAbs; rw [← e] at h2; rw [h2]; omega
  · have h2 := rn_negnat z.natAbs; rw [← e] at h2; rw [h2]; omega

theorem rn_scale (z : Int) (e : Nat) : rn (z * 2 ^ e) = rn z * 2 ^ e := by
  rcases Int.natAbs_eq z with h | h
  · rw [h, show ((z.natAbs : Int) * 2 ^ e) = ((z.natAbs * 2 ^ e : Nat) : Int) by simp, rn_nat, rn_nat, rnN_mul]; simp
  · rw [h, show (-(z.natAbs : Int) * 2 ^ e) = -((z.natAbs * 2 ^ e : Nat) : Int) by simp [Int.neg_mul], rn_negnat, rn_negnat, rnN_mul]; simp [Int.neg_mul]

theorem rn_mult {z : Int} {q : Nat} (hd : (2 : Int) ^ q ∣ z) (h : ¬ Rep z) : (2 : Int) ^ (q + 1) ∣ rn z := by
  obtain ⟨m, rfl⟩ := hd
  rw [Int.mul_comm] at h ⊢
  have h2 : ¬ RepN (m.natAbs * 2 ^ q) := by
    intro hh; apply h; unfold Rep; rw [Int.natAbs_mul, Int.natAbs_pow]; exact hh
  have := rnN_mult h2
  rw [← Int.natAbs_dvd_natAbs, rn_natAbs, Int.natAbs_mul, Int.natAbs_pow, Int.natAbs_pow]
  exact this

theorem rn_dvd {z : Int} {j : Nat} (h : 2 ^ (52 + j) ≤ z.natAbs) : (2 : Int) ^ j ∣ rn z := by
  rw [← Int.natAbs_dvd_natAbs, rn_natAbs, Int.natAbs_pow]
  exact rnN_dvd h

/-- never further out than a number that holds it -/
theorem rn_le {z s : Int} (h : Rep s) (hz : z ≤ s) : rn z ≤ s := by
  have := rn_near (z := z) h; omega

theorem le_rn {z s : Int} (h : Rep s) (hz : s ≤ z) : s ≤ rn z := by
  have := rn_near (z := z) h; omega

theorem rep_pow (e : Nat) : Rep (2 ^ e) := rep_of_dvd (q := e) (Int.dvd_refl _) (by
  rw [Int.natAbs_pow, show (2 : Int).natAbs = 2 from rfl]
  have := Nat.two_pow_pos e
  omega)

theorem rn_abs_le {z : Int} {e : Nat} (h : z.natAbs ≤ 2 ^ e) : (rn z).natAbs ≤ 2 ^ e := by
  have hp : ((2 ^ e : Nat) : Int) = (2 : Int) ^ e := by simp
  have h1 := rn_le (z := z) (rep_pow e) (by rw [← hp]; omega)
  have h2 := le_rn (z := z) (rep_pow e).neg (by rw [← hp]; omega)
  rw [← hp] at h1 h2
  omega

theorem rn_nonneg {z : Int} (h : 0 ≤ z) : 0 ≤ rn z := le_rn rep_zero h

/-- rounding keeps order -/
theorem rn_mono {a b : Int} (h : a ≤ b) : rn a ≤ rn b := by
  by_cases h1 : a = b
  · subst h1; exact Int.le_refl _
  by_cases h2 : rn a ≤ b
  · exact le_rn (rep_rn a) h2
  · have h3 := rn_near (z := a) (rep_rn b)
    have h4 := rn_near (z := b) (rep_rn a)
    omega

/-! THE SUM's REST -/

theorem canon {z : Int} (h : Rep z) : ∃ (m : Int) (q : Nat), m.natAbs < 2 ^ 53 ∧ z = m * 2 ^ q := rep_iff.1 h

theorem two_pow_dvd {m : Int} {q e : Nat} (h : e ≤ q) : (2 : Int) ^ e ∣ m * 2 ^ q :=
by
  obtain ⟨c, rfl⟩ : ∃ c, q = e + c := ⟨q - e, by omega⟩
  rw [Int.pow_add, Int.mul_left_comm]; exact Int.dvd_mul_right _ _

theorem abs_lt {m : Int} {q : Nat} (h : m.natAbs < 2 ^ 53) : (m * 2 ^ q).natAbs ≤ 2 ^ 53 * 2 ^ q - 2 ^ q ∧ 2 ^ q ≤ 2 ^ 53 * 2 ^ q := by
  rw [Int.natAbs_mul, Int.natAbs_pow, show (2 : Int).natAbs = 2 from rfl]
  have hp := Nat.two_pow_pos q
  have : m.natAbs * 2 ^ q ≤ (2 ^ 53 - 1) * 2 ^ q := Nat.mul_le_mul_right _ (by omega)
  generalize m.natAbs * 2 ^ q = A at *
  generalize 2 ^ q = B at *
  omega

/-- what a sum leaves -/
theorem rest_rep {x y : Int} (hx : Rep x) (hy : Rep y) : Rep (x + y - rn (x + y)) ∧ (x + y - rn (x + y)).natAbs ≤ x.natAbs ∧ (x + y - rn (x + y)).natAbs ≤ y.natAbs := by
  have h1 := rn_near (z := x + y) hx
  have h2 := rn_near (z := x + y) hy
  have b1 : (x + y - rn (x + y)).natAbs ≤ y.natAbs := by omega
  have b2 : (x + y - rn (x + y)).natAbs ≤ x.natAbs := by omega
  refine ⟨?_, b2, b1⟩
  by_cases hs : Rep (x + y)
  · rw [rn_rep hs, Int.sub_self]; exact rep_zero
  obtain ⟨m, p, hm, ex⟩ := canon hx
  obtain ⟨n, q, hn, ey⟩ := canon hy
  have ax := abs_lt (q := p) hm
  have ay := abs_lt (q := q) hn
  rw [← ex] at ax; rw [← ey] at ay
  rcases Nat.le_total p q with hpq | hpq
  · have d : (2 : Int) ^ p ∣ x + y := Int.dvd_add (by rw [ex]; exact two_pow_dvd (Nat.le_refl _)) (by rw [ey]; exact two_pow_dvd hpq)
    have d2 := rn_mult d hs
    refine rep_of_dvd (q := p) (Int.dvd_sub d (Int.dvd_trans (by rw [Int.pow_succ]; exact Int.dvd_mul_right _ _) d2)) ?_
    omega
  · have d : (2 : Int) ^ q ∣ x + y := Int.dvd_add (by rw [ex]; exact two_pow_dvd hpq) (by rw [ey]; exact two_pow_dvd (Nat.le_refl _))
    have d2 := rn_mult d hs
    refine rep_of_dvd (q := q) (Int.dvd_sub d (Int.dvd_trans (by rw [Int.pow_succ]; exact Int.dvd_mul_right _ _) d2)) ?_
    omega

/-- where the first one's place is not below the second's, s - x is a number -/
theorem take_rep {x y m n : Int} {p q : Nat} (hm : m.natAbs < 2 ^ 53) (ex : x = m * 2 ^ p) (hn : n.natAbs < 2 ^ 53) (ey : y = n * 2 ^ q) (hpq : q ≤ p) : Rep (rn (x + y) - x) := by
  have hx : Rep x := rep_iff.2 ⟨m, p, hm, ex⟩
  have hy : Rep y := rep_iff.2 ⟨n, q, hn, ey⟩
  by_cases hs : Rep (x + y)
  · rw [rn_rep hs, show x + y - x = y by omega]; exact hy
  have ax := abs_lt (q := p) hm
  have ay := abs_lt (q := q) hn
  rw [← ex] at ax; rw [← ey] at ay
  have d : (2 : Int) ^ q ∣ x + y := Int.dvd_add (by rw [ex]; exact two_pow_dvd hpq) (by rw [ey]; exact two_pow_dvd (Nat.le_refl _))
  have d2 := rn_mult d hs
  have hr := rest_rep hx hy
  by_cases hlt : q < p
  · have dx : (2 : Int) ^ (q + 1) ∣ x := by rw [ex]; exact two_pow_dvd hlt
    refine rep_of_dvd (q := q + 1) (Int.dvd_sub d2 dx) ?_
    rw [Nat.pow_succ]
    omega
  · have hq : p = q := by omega
    subst hq
    have dx : (2 : Int) ^ p ∣ x := by rw [ex]; exact two_pow_dvd (Nat.le_refl _)
    refine rep_of_dvd (q := p) (Int.dvd_sub (Int.dvd_trans (by rw [Int.pow_succ]; exact Int.dvd_mul_right _ _) d2) dx) ?_
    have hb : (x + y).natAbs < 2 ^ (53 + (p + 1)) := by
      have e0 : (2 : Nat) ^ (53 + (p + 1)) = 2 * (2 ^ 53 * 2 ^ p) := by rw [Nat.pow_add, Nat.pow_succ]; omega
      rw [e0]
      have hp := Nat.two_pow_pos p
      have a1 := ax.1
      have a2 := ay.1
      clear ax ay
      generalize 2 ^ p = B at hp a1 a2 ⊢
      omega
    have h3 := rn_half hb
    rw [Nat.pow_succ] at h3
    omega

/-- THE SUM WITH ITS REST (any order). -/
theorem two_sum {x y : Int} (hx : Rep x) (hy : Rep y) :
    rn (rn (x - rn (rn (x + y) - rn (rn (x + y) - x))) + rn (y - rn (rn (x + y) - x))) = x + y - rn (x + y) := by
  obtain ⟨hr, h1, h2⟩ := rest_rep hx hy
  obtain ⟨m, p, hm, ex⟩ := canon hx
  obtain ⟨n, q, hn, ey⟩ := canon hy
  generalize hs : rn (x + y) = s at *
  by_cases ht : Rep (s - x)
  · rw [rn_rep ht, show s - (s - x) = x by omega, rn_rep hx, Int.sub_self, rn_zero, Int.zero_add, show y - (s - x) = x + y - s by omega, rn_rep hr, rn_rep hr]
  have hlt : p < q := by
    apply Nat.lt_of_not_le; intro hle; apply ht
    have := take_rep hm ex hn ey hle
    rw [hs] at this; exact this
  have ax := abs_lt (q := p) hm
  rw [← ex] at ax
  have hnr : ¬ Rep (x + y) := by
    intro hc; rw [rn_rep hc] at hs; apply ht; rw [← hs, show x + y - x = y by omega]; exact hy
  have dx : (2 : Int) ^ p ∣ x := by rw [ex]; exact two_pow_dvd (Nat.le_refl _)
  have dy : (2 : Int) ^ (p + 1) ∣ y := by rw [ey]; exact two_pow_dvd hlt
  have dp : (2 : Int) ^ p ∣ 2 ^ (p + 1) := by rw [Int.pow_succ]; exact Int.dvd_mul_right _ _
  have dxy : (2 : Int) ^ p ∣ x + y := Int.dvd_add dx (Int.dvd_trans dp dy)
  have ds := rn_mult dxy hnr
  rw [hs] at ds
  have dsx : (2 : Int) ^ p ∣ s - x := Int.dvd_sub (Int.dvd_trans dp ds) dx
  have dt := rn_mult dsx ht
  have ne := rn_near (z := s - x) hy
  generalize rn (s - x) = t at *
  have e1 : (t - (s - x)).natAbs ≤ (x + y - s).natAbs := by omega
  have hp2 : 2 ^ (p + 1) = 2 ^ p * 2 := Nat.pow_succ ..
  have r1 : Rep (s - t) := rep_of_dvd (q := p + 1) (Int.dvd_sub ds dt) (by
    rw [hp2]; generalize 2 ^ p = B at *; omega)
  rw [rn_rep r1]
  have r2 : Rep (x - (s - t)) := rep_of_dvd (q := p) (Int.dvd_sub dx (Int.dvd_trans dp (Int.dvd_sub ds dt))) (by
    generalize 2 ^ p = B at *; omega)
  rw [rn_rep r2]
  have r3 : Rep (y - t) := rep_of_dvd (q := p + 1) (Int.dvd_sub dy dt) (by
    rw [hp2]; generalize 2 ^ p = B at *; omega)
  rw [rn_rep r3, show x - (s - t) + (y - t) = x + y - s by omega, rn_rep hr]

/-- QUICK, where the first one is not less. -/
theorem quick_sum {x y : Int} (hx : Rep x) (hy : Rep y) (h : y.natAbs ≤ x.natAbs) : rn (y - rn (rn (x + y) - x)) = x + y - rn (x + y) := by
  obtain ⟨hr, h1, h2⟩ := rest_rep hx hy
  obtain ⟨m, p, hm, ex⟩ := canon hx
  obtain ⟨n, q, hn, ey⟩ := canon hy
  have ht : Rep (rn (x + y) - x) := by
    rcases Nat.le_total q p with hle | hle
    · exact take_rep hm ex hn ey hle
    · have ey2 : y = (n * 2 ^ (q - p)) * 2 ^ p := by
        rw [ey, Int.mul_assoc, ← Int.pow_add]; congr 2; omega
      refine take_rep hm ex ?_ ey2 (Nat.le_refl _)
      rw [ex, ey2, Int.natAbs_mul, Int.natAbs_mul (a := m), Int.natAbs_pow] at h
      have := Nat.le_of_mul_le_mul_right h (Nat.two_pow_pos p)
      omega
  rw [rn_rep ht, show y - (rn (x + y) - x) = x + y - rn (x + y) by omega, rn_rep hr]

end Go.Proofs.Ytbknkcfnhfolpaa.Rn
