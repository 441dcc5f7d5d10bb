/-
  Sums and products of pairs: how near they are, in plain Lean.
-/
import Derived.Test.YtbknkcfnhfolpaaSafe
set_option exponentiation.threshold 9000
namespace Go.Proofs.Ytbknkcfnhfolpaa
open Go.RowKit Rn
namespace Rn

theorem rnk_rel (n k : Nat) : 2 ^ 53 * (((rnk n k * 2 ^ k : Nat) : Int) - (n : Int)).natAbs ≤ n + 2 ^ (52 + k) ∧ (k = 0 → 2 ^ 53 * (((rnk n k * 2 ^ k : Nat) : Int) - (n : Int)).natAbs ≤ n) := by
  have hk : k ≤ drop n k := by unfold drop; omega
  have e : rnk n k * 2 ^ k = re n (drop n k) * 2 ^ (drop n k) := by unfold rnk; rw [Nat.mul_assoc, ← Nat.pow_add, Nat.sub_add_cancel hk]
  rw [e]
  have hh := re_half n (drop n k)
  have hd : drop n k = k ∨ k < drop n k := by omega
  rcases hd with h | h
  · rw [h] at hh ⊢
    constructor
    · have : 2 ^ (52 + k) = 2 ^ 52 * 2 ^ k := Nat.pow_add ..
      rw [this]
      generalize 2 ^ k = P at *
      generalize re n k * P = R at *
      omega
    · rintro rfl
      have := re_exact n 0
      rw [Nat.pow_zero, Nat.mul_one] at this
      rw [this, Nat.pow_zero, Nat.mul_one]
      omega
  · have h2 := le_of_drop h
    have : 2 ^ (52 + drop n k) = 2 ^ 52 * 2 ^ drop n k := Nat.pow_add ..
    rw [this] at h2
    generalize 2 ^ drop n k = P at *
    generalize re n (drop n k) * P = R at *
    have key : 2 ^ 53 * ((R : Int) - (n : Int)).natAbs ≤ n := by omega
    exact ⟨Nat.le_trans key (Nat.le_add_right _ _), fun _ => key⟩

theorem rn_rel (z : Int) : 2 ^ 53 * (rn z - z).natAbs ≤ z.natAbs := by
  have key : ∀ n : Nat, 2 ^ 53 * ((rnN n : Int) - n).natAbs ≤ n := by
    intro n
    have := (rnk_rel n 0).2 rfl
    rwa [Nat.pow_zero, Nat.mul_one] at this
  rcases Int.natAbs_eq z with h | h
  · rw [h, rn_nat]; simpa using key z.natAbs
  · rw [h, rn_negnat, show -(rnN z.natAbs : Int) - -(z.natAbs : Int) = -((rnN z.natAbs : Int) - z.natAbs) by omega, Int.natAbs_neg, Int.natAbs_neg]; simpa using key z.natAbs

/-- the sum of two pairs -/
theorem add_near {M N a b c d s r t u : Int} (hM : 0 ≤ M) (hN : 0 ≤ N) (ea : a = rn M) (eb : b = M - rn M) (ec : c = rn N) (ed : d = N - rn N)
    (es : s = rn (a + c)) (er : r = a + c - rn (a + c)) (et : t = rn (b + d)) (eu : u = rn (r + t)) :
    u.natAbs ≤ s.natAbs ∧ 2 ^ 100 * (s + u - (M + N)).natAbs ≤ (M + N).natAbs := by
  have h1 := rn_rel M
  have h2 := rn_rel N
  have h3 := rn_rel (a + c)
  have h4 := rn_rel (b + d)
  have h5 := rn_rel (r + t)
  rw [← ea] at h1 eb; rw [← ec] at h2 ed; rw [← es] at h3 er; rw [← et] at h4; rw [← eu] at h5
  clear ea ec es et eu
  subst eb ed er
  constructor <;> omega

theorem m1 {Z H T : Int} {F : Nat} (z0 : 0 ≤ Z) (hF : (F : Int) * 2 ^ 200 ≤ Z) (b : 2 ^ 53 * H.natAbs ≤ 2 * Z.natAbs) (t : 2 ^ 53 * (T - H).natAbs ≤ H.natAbs + F) :
    2 ^ 106 * ((T - H).natAbs : Int) ≤ 3 * Z ∧ 2 ^ 53 * (T.natAbs : Int) ≤ 3 * Z ∧ 2 ^ 53 * (H.natAbs : Int) ≤ 2 * Z := by omega
theorem m2 {Z T1 T2 C : Int} (z0 : 0 ≤ Z) (t1 : 2 ^ 53 * (T1.natAbs : Int) ≤ 3 * Z) (t2 : 2 ^ 53 * (T2.natAbs : Int) ≤ 3 * Z) (c : 2 ^ 53 * (C - (T1 + T2)).natAbs ≤ (T1 + T2).natAbs) :
    2 ^ 106 * ((C - (T1 + T2)).natAbs : Int) ≤ 6 * Z ∧ 2 ^ 53 * (C.natAbs : Int) ≤ 7 * Z := by omega
theorem m3 {Z L C U HH : Int} (z0 : 0 ≤ Z) (b4 : HH.natAbs ≤ 4 * Z.natAbs) (hl : 2 ^ 53 * L.natAbs ≤ HH.natAbs) (hc : 2 ^ 53 * (C.natAbs : Int) ≤ 7 * Z) (u : 2 ^ 53 * (U - (L + C)).natAbs ≤ (L + C).natAbs) :
    2 ^ 106 * ((U - (L + C)).natAbs : Int) ≤ 11 * Z ∧ 2 ^ 53 * (U.natAbs : Int) ≤ 12 * Z ∧ 2 ^ 53 * (L.natAbs : Int) ≤ 4 * Z := by omega
theorem m4 {Z HL LH LL P L U : Int} (z0 : 0 ≤ Z) (h1 : 2 ^ 53 * (HL.natAbs : Int) ≤ 2 * Z) (h2 : 2 ^ 53 * (LH.natAbs : Int) ≤ 2 * Z) (b3 : 2 ^ 106 * LL.natAbs ≤ Z.natAbs) (hu : 2 ^ 53 * (U.natAbs : Int) ≤ 12 * Z) (hl : 2 ^ 53 * (L.natAbs : Int) ≤ 4 * Z)
    (hz : Z = P + L + HL + LH + LL) : U.natAbs ≤ P.natAbs := by omega
theorem m5 {Z a b c d e : Int} (h1 : 2 ^ 106 * (a.natAbs : Int) ≤ 11 * Z) (h2 : 2 ^ 106 * (b.natAbs : Int) ≤ 6 * Z) (h3 : 2 ^ 106 * (c.natAbs : Int) ≤ 3 * Z) (h4 : 2 ^ 106 * (d.natAbs : Int) ≤ 3 * Z) (h5 : 2 ^ 106 * e.natAbs ≤ Z.natAbs) : 2 ^ 98 * (a + b + c + d - e).natAbs ≤ Z.natAbs := by omega
theorem mul_near {Z HL LH LL HH T1 T2 C P L U : Int} {F : Nat} (z0 : 0 ≤ Z) (hF : (F : Int) * 2^200 ≤ Z)
    (b1 : 2 ^ 53 * HL.natAbs ≤ 2 * Z.natAbs) (b2 : 2 ^ 53 * LH.natAbs ≤ 2 * Z.natAbs) (b3 : 2 ^ 106 * LL.natAbs ≤ Z.natAbs) (b4 : HH.natAbs ≤ 4 * Z.natAbs)
    (hz : Z = HH + HL + LH + LL) (hp : P + L = HH) (hl : 2 ^ 53 * L.natAbs ≤ HH.natAbs)
    (t1 : 2 ^ 53 * (T1 - HL).natAbs ≤ HL.natAbs + F) (t2 : 2 ^ 53 * (T2 - LH).natAbs ≤ LH.natAbs + F)
    (c : 2 ^ 53 * (C - (T1 + T2)).natAbs ≤ (T1 + T2).natAbs) (u : 2 ^ 53 * (U - (L + C)).natAbs ≤ (L + C).natAbs) :
    U.natAbs ≤ P.natAbs ∧ 2 ^ 98 * (P + U - Z).natAbs ≤ Z.natAbs := by
  obtain ⟨p1, p2, p3⟩ := m1 z0 hF b1 t1
  obtain ⟨q1, q2, q3⟩ := m1 z0 hF b2 t2
  obtain ⟨r1, r2⟩ := m2 z0 p2 q2 c
  obtain ⟨s1, s2, s3⟩ := m3 z0 b4 hl r2 u
  refine ⟨m4 z0 p3 q3 b3 s2 s3 (by rw [hz, hp]), ?_⟩
  have := m5 s1 r1 p1 q1 b3
  rwa [show U - (L + C) + (C - (T1 + T2)) + (T1 - HL) + (T2 - LH) - LL = P + U - Z by clear p1 p2 p3 q1 q2 q3 r1 r2 s1 s2 s3 this b1 b2 b3 b4 hl t1 t2 c u hF; omega] at this

theorem mul_parts {M N : Int} (hM : 0 ≤ M) (hN : 0 ≤ N) :
    2 ^ 53 * (rn M * (N - rn N)).natAbs ≤ 2 * (M * N).natAbs ∧ 2 ^ 53 * ((M - rn M) * rn N).natAbs ≤ 2 * (M * N).natAbs ∧ 2 ^ 106 * ((M - rn M) * (N - rn N)).natAbs ≤ (M * N).natAbs ∧ (rn M * rn N).natAbs ≤ 4 * (M * N).natAbs ∧
    M * N = rn M * rn N + rn M * (N - rn N) + (M - rn M) * rn N + (M - rn M) * (N - rn N) := by
  have h1 := rn_rel M
  have h2 := rn_rel N
  generalize rn M = H at *
  generalize rn N = K at *
  have a1 : H.natAbs ≤ 2 * M.natAbs := by omega
  have a2 : K.natAbs ≤ 2 * N.natAbs := by omega
  have a3 : 2 ^ 53 * (M - H).natAbs ≤ M.natAbs := by omega
  have a4 : 2 ^ 53 * (N - K).natAbs ≤ N.natAbs := by omega
  refine ⟨?_, ?_, ?_, ?_, ?_⟩
  · rw [Int.natAbs_mul, Int.natAbs_mul]
    have := Nat.mul_le_mul a1 a4
    rwa [Nat.mul_left_comm, Nat.mul_assoc] at this
  · rw [Int.natAbs_mul, Int.natAbs_mul]
    have := Nat.mul_le_mul a3 a2
    rwa [Nat.mul_left_comm M.natAbs, Nat.mul_assoc] at this
  · rw [Int.natAbs_mul, Int.natAbs_mul]
    have := Nat.mul_le_mul a3 a4
    rwa [Nat.mul_mul_mul_comm, ← Nat.pow_add] at this
  · rw [Int.natAbs_mul, Int.natAbs_mul]
    have := Nat.mul_le_mul a1 a2
    rwa [Nat.mul_mul_mul_comm] at this
  · have e1 : M = H + (M - H) := by omega
    have e2 : N = K + (N - K) := by omega
    generalize M - H = L at *
    generalize N - K = J at *
    subst e1 e2
    rw [Int.add_mul, Int.mul_add, Int.mul_add]
    omega

end Rn

/-- a sum of two safe numbers without their signs, and what it leaves -/
structure PairOf (xh xl : Nat) (M : Int) : Prop where
  nh : Num xh
  nl : Num xl
  vh : val xh = rn M
  vl : val xl = M - rn M
  pos : 0 ≤ M
  hi : M.natAbs ≤ 2 ^ 1676
  lo : M = 0 ∨ 2 ^ 474 ≤ M.natAbs

theorem abs_num {b : Nat} (h : Num b) : Num (b % 2 ^ 63) := ⟨by omega, by rw [Nat.mod_mod]; exact h.2⟩
theorem abs_val (b : Nat) : val (b % 2 ^ 63) = ((val b).natAbs : Int) := by
  rw [natAbs_val]
  have h : negW (b % 2 ^ 63) = false := by unfold negW; rw [Nat.div_eq_of_lt (Nat.mod_lt _ (by decide))]; rfl
  unfold val; rw [h, Nat.mod_mod]; rfl

theorem safe_size {b : Nat} {m : Int} {e : Nat} (h : IsSafe b m e) : (val b).natAbs ≤ 2 ^ 1675 ∧ (val b = 0 ∨ 2 ^ 474 ≤ (val b).natAbs) := by
  rw [h.val]
  refine ⟨h.within, ?_⟩
  rcases h.norm with h0 | ⟨h1, _⟩
  · left; rw [h0, Int.zero_mul]
  · right
    rw [Int.natAbs_mul, Int.natAbs_pow, show (2 ^ 474 : Nat) = 2 ^ 52 * 2 ^ 422 by rw [← Nat.pow_add]]
    exact Nat.mul_le_mul h1 (Nat.pow_le_pow_right (by omega) h.lo)

theorem pair_is {a b : Nat} {m n : Int} {d e : Nat} (ha : IsSafe a m d) (hb : IsSafe b n e) :
    ∃ xh xl, (∀ w, Calls Try.prog 18 #[.float .f64 (a % 2 ^ 63), .float .f64 (b % 2 ^ 63)] w fun e w' => e = .returned (pr xh xl) ∧ Below w.heap.size w w') ∧ PairOf xh xl (((val a).natAbs : Int) + (val b).natAbs) := by
  obtain ⟨a1, a2⟩ := safe_size ha
  obtain ⟨b1, b2⟩ := safe_size hb
  have w1 : Within 2090 ((val a).natAbs : Int) := Nat.le_trans (by rw [Int.natAbs_natCast]; exact a1) (Nat.pow_le_pow_right (by omega) (by omega))
  have w2 : Within 2090 ((val b).natAbs : Int) := Nat.le_trans (by rw [Int.natAbs_natCast]; exact b1) (Nat.pow_le_pow_right (by omega) (by omega))
  obtain ⟨s, r, C, ns, nr, vs, vr⟩ := sum_is (abs_num ha.num) (abs_num hb.num) (abs_val a) (abs_val b) w1 w2
  refine ⟨s, r, C, ns, nr, vs, vr, by omega, ?_, ?_⟩
  · rw [show (2 ^ 1676 : Nat) = 2 ^ 1675 + 2 ^ 1675 by rw [show (1676 : Nat) = 1675 + 1 by rfl, Nat.pow_succ]]
    generalize (2 ^ 1675 : Nat) = P at *
    omega
  · generalize (2 ^ 474 : Nat) = P at *
    clear w1 w2
    omega

end Go.Proofs.Ytbknkcfnhfolpaa
