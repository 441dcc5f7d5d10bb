/-
  Sums and products of pairs of one sign: what dd's Add and Mul hand back, and how near it is.
-/
import Derived.Test.YtbknkcfnhfolpaaPv
import Derived.Test.YtbknkcfnhfolpaaPw
import Derived.Test.YtbknkcfnhfolpaaNat
set_option exponentiation.threshold 9000
namespace Go.Proofs.Ytbknkcfnhfolpaa
open Go.RowKit Rn

/-- a bound that a size below another one has -/
theorem within_of {z : Int} {n : Nat} (h : z.natAbs ≤ n * 2 ^ 1676) (hn : n ≤ 2 ^ 400) : Within 2090 z := by
  unfold Within
  refine Nat.le_trans h (Nat.le_trans (Nat.mul_le_mul_right _ hn) ?_)
  rw [← Nat.pow_add]
  exact Nat.pow_le_pow_right (by omega) (by omega)

theorem add_bounds {M N a c s r t P : Int} (hM : 0 ≤ M) (hN : 0 ≤ N) (bM : M ≤ P) (bN : N ≤ P)
    (h1 : 2 ^ 53 * (a - M).natAbs ≤ M.natAbs) (h2 : 2 ^ 53 * (c - N).natAbs ≤ N.natAbs) (h3 : 2 ^ 53 * (s - (a + c)).natAbs ≤ (a + c).natAbs)
    (er : r = a + c - s) (h4 : 2 ^ 53 * (t - (M - a + (N - c))).natAbs ≤ (M - a + (N - c)).natAbs) :
    (a.natAbs : Int) ≤ 16 * P ∧ (c.natAbs : Int) ≤ 16 * P ∧ ((M - a).natAbs : Int) ≤ 16 * P ∧ ((N - c).natAbs : Int) ≤ 16 * P ∧ (s.natAbs : Int) ≤ 16 * P ∧ (r.natAbs : Int) ≤ 16 * P ∧ (t.natAbs : Int) ≤ 16 * P := by
  subst er
  refine ⟨?_, ?_, ?_, ?_, ?_, ?_, ?_⟩ <;> omega

theorem add_is {xh xl yh yl : Nat} {M N : Int} (hx : PairOf xh xl M) (hy : PairOf yh yl N) :
    ∃ s r, (∀ w, Calls Try.prog 21 #[pr xh xl, pr yh yl] w fun e w' => e = .returned (pr s r) ∧ Below w.heap.size w w') ∧ Num s ∧ Num r ∧ 2 ^ 100 * (val s + val r - (M + N)).natAbs ≤ (M + N).natAbs := by
  obtain ⟨hM, hN⟩ := And.intro hx.pos hy.pos
  have bM := hx.hi
  have bN := hy.hi
  have h1 := rn_rel M
  have h2 := rn_rel N
  have h3 := rn_rel (rn M + rn N)
  have h4 := rn_rel (M - rn M + (N - rn N))
  obtain ⟨e1, e2, e3, e4, e5, e6, e7⟩ := add_bounds (P := ((2 ^ 1676 : Nat) : Int)) hM hN (by omega) (by omega) h1 h2 h3 rfl h4
  have wi : ∀ {z : Int}, (z.natAbs : Int) ≤ 16 * ((2 ^ 1676 : Nat) : Int) → Within 2090 z := fun h => within_of (n := 16) (by omega) (by decide)
  obtain ⟨sh, sl, CS, nsh, nsl, vsh, vsl⟩ := sum_is hx.nh hy.nh hx.vh hy.vh (wi e1) (wi e2)
  obtain ⟨t, g1, nt, vt⟩ := addw hx.nl hy.nl hx.vl hy.vl (wi e3) (wi e4) (by omega)
  obtain ⟨u, g2, nu, vu⟩ := addw nsl nt vsl vt (wi e6) (wi e7) (by omega)
  obtain ⟨k1, k2⟩ := add_near hM hN rfl rfl rfl rfl rfl rfl rfl rfl
  have hu : Within 2090 (rn (rn M + rn N - rn (rn M + rn N) + rn (M - rn M + (N - rn N)))) := Nat.le_trans k1 (wi e5)
  obtain ⟨q, v, CQ, nq, nv, vq, vv⟩ := quick_is nsh nu vsh vu (wi e5) hu k1
  refine ⟨q, v, fun w => add_run w CS g1 g2 CQ, nq, nv, ?_⟩
  have hh : ∀ a b : Int, a + (b - a) = b := by intros; omega
  rw [vq, vv, hh]
  exact k2

/-- a number that 53 bits hold, of a normal size -/
theorem norm_of {s : Int} {k : Nat} (h : Rep s) (hlo : 2 ^ 474 ≤ s.natAbs) (h1 : 2 ^ k ≤ s.natAbs) (h2 : s.natAbs ≤ 2 ^ (k + 1)) :
    ∃ (m : Int) (d : Nat), Norm m ∧ m ≠ 0 ∧ s = m * 2 ^ d ∧ k ≤ 52 + d ∧ 52 + d ≤ k + 1 := by
  obtain ⟨m, q, hm, rfl⟩ := rep_iff.1 h
  rw [Int.natAbs_mul, Int.natAbs_pow, show (2 : Int).natAbs = 2 from rfl] at hlo h1 h2
  have hm0 : m.natAbs ≠ 0 := by
    intro h0; rw [h0, Nat.zero_mul] at hlo
    have := Nat.two_pow_pos 474; omega
  have l1 := Nat.log2_self_le hm0
  have l2 := Nat.lt_log2_self (n := m.natAbs)
  have l3 : m.natAbs.log2 ≤ 52 := log2_le_of_lt hm
  generalize m.natAbs.log2 = l at *
  have hq : 474 < l + 1 + q := by
    apply Nat.lt_of_not_le; intro hle
    have a1 := Nat.pow_le_pow_right (n := 2) (by omega) hle
    rw [Nat.pow_add] at a1
    have a2 := Nat.mul_lt_mul_of_pos_right l2 (Nat.two_pow_pos q)
    omega
  have e1 : m * 2 ^ q = m * 2 ^ (52 - l) * 2 ^ (q + l - 52) := by
    rw [Int.mul_assoc, ← Int.pow_add]; congr 2; omega
  have n1 : 2 ^ 52 ≤ m.natAbs * 2 ^ (52 - l) := by
    have := Nat.mul_le_mul_right (2 ^ (52 - l)) l1
    rwa [← Nat.pow_add, show l + (52 - l) = 52 by omega] at this
  have n2 : m.natAbs * 2 ^ (52 - l) < 2 ^ 53 := by
    have := Nat.mul_lt_mul_of_pos_right l2 (Nat.two_pow_pos (52 - l))
    rwa [← Nat.pow_add, show l + 1 + (52 - l) = 53 by omega] at this
  have e2 : m.natAbs * 2 ^ q = m.natAbs * 2 ^ (52 - l) * 2 ^ (q + l - 52) := by
    rw [Nat.mul_assoc, ← Nat.pow_add]; congr 2; omega
  rw [e2] at h1 h2
  refine ⟨m * 2 ^ (52 - l), q + l - 52, .inr ?_, ?_, e1, ?_, ?_⟩
  · rw [Int.natAbs_mul, Int.natAbs_pow, show (2 : Int).natAbs = 2 from rfl]; exact ⟨n1, n2⟩
  · exact Int.mul_ne_zero (by omega) (Int.ne_of_gt (Int.pow_pos (by omega)))
  · have a1 := Nat.mul_lt_mul_of_pos_right n2 (Nat.two_pow_pos (q + l - 52))
    rw [← Nat.pow_add] at a1
    have := (Nat.pow_lt_pow_iff_right (a := 2) (by omega)).1 (Nat.lt_of_le_of_lt h1 a1)
    omega
  · have a1 := Nat.mul_le_mul_right (2 ^ (q + l - 52)) n1
    rw [← Nat.pow_add] at a1
    exact (Nat.pow_le_pow_iff_right (a := 2) (by omega)).1 (Nat.le_trans a1 h2)

theorem mul_aux {R A B Q : Nat} (h1 : 2 ^ 53 * ((R : Int) - (A : Int)).natAbs ≤ A + 2 ^ 52 * B) (hb : A ≤ Q) (e3 : B ≤ Q) : R ≤ 2 * Q := by omega

set_option maxRecDepth 100000 in
/-- '*' of words, whether or not it is normal -/
theorem mul_rel {x y K : Nat} (hx : Num x) (hy : Num y) (hb : (val x * val y).natAbs ≤ 2 ^ (1074 + K)) (hK : K ≤ 2090) :
    ∃ r, Ieee.double.mul x y = some r ∧ Num r ∧ 2 ^ 53 * (val r * 2 ^ 1074 - val x * val y).natAbs ≤ (val x * val y).natAbs + 2 ^ 1126 ∧ Within (K + 1) (val r) := by
  have h1 := (rnk_rel ((val x).natAbs * (val y).natAbs) 1074).1
  rw [show (52 + 1074 : Nat) = 1126 by rfl] at h1
  have hn : (val x * val y).natAbs = (val x).natAbs * (val y).natAbs := Int.natAbs_mul ..
  rw [hn] at hb ⊢
  have hR : rnk ((val x).natAbs * (val y).natAbs) 1074 ≤ 2 ^ (K + 1) := by
    apply Nat.le_of_mul_le_mul_right _ (Nat.two_pow_pos 1074)
    have e1 : (2 : Nat) ^ (K + 1) * 2 ^ 1074 = 2 * (2 ^ K * 2 ^ 1074) := by rw [Nat.pow_succ]; rw [Nat.mul_comm (2 ^ K) 2, Nat.mul_assoc]
    rw [Nat.pow_add, Nat.mul_comm (2 ^ 1074)] at hb
    have e2 : (2 : Nat) ^ 1126 = 2 ^ 52 * 2 ^ 1074 := by rw [← Nat.pow_add]
    have e3 := Nat.le_mul_of_pos_left (2 ^ 1074) (Nat.two_pow_pos K)
    rw [e1]; rw [e2] at h1
    exact mul_aux h1 hb e3
  have hRl : rnk ((val x).natAbs * (val y).natAbs) 1074 < 2 ^ 2098 := Nat.lt_of_le_of_lt hR (Nat.pow_lt_pow_right (by omega) (by omega))
  obtain ⟨r, g1, g2, g3⟩ := mul_valk hx hy hRl
  refine ⟨r, g1, g2, ?_, ?_⟩
  · have hs : val x * val y = sg (negW x ^^ negW y) ((val x).natAbs * (val y).natAbs) := by
      rw [natAbs_val, natAbs_val]
      unfold val
      cases negW x <;> cases negW y <;> simp [sg, Int.neg_mul, Int.mul_neg]
    rw [g3, hs]
    refine Nat.le_trans (Nat.le_of_eq ?_) h1
    congr 1
    generalize rnk ((val x).natAbs * (val y).natAbs) 1074 = R
    generalize (val x).natAbs * (val y).natAbs = A
    generalize (negW x ^^ negW y) = b
    have hp : ((2 ^ 1074 : Nat) : Int) = (2 : Int) ^ 1074 := by simp
    rw [Int.natCast_mul, hp]
    generalize (2 : Int) ^ 1074 = B
    cases b
    · rfl
    · show (-(R : Int) * B - -(A : Int)).natAbs = _
      rw [Int.neg_mul, show -((R : Int) * B) - -(A : Int) = -((R : Int) * B - A) by omega, Int.natAbs_neg]
  · unfold Within; rw [g3, sg_natAbs]; exact hR

theorem scale_abs {a b : Int} {k : Nat} : (a * 2 ^ k).natAbs ≤ (b * 2 ^ k).natAbs ↔ a.natAbs ≤ b.natAbs := by
  rw [Int.natAbs_mul, Int.natAbs_mul, Int.natAbs_pow]
  exact Nat.mul_le_mul_right_iff (Nat.two_pow_pos k)

theorem rn_rel_scale (z : Int) (k : Nat) : 2 ^ 53 * (rn z * 2 ^ k - z * 2 ^ k).natAbs ≤ (z * 2 ^ k).natAbs := by
  rw [← rn_scale]; exact rn_rel _

theorem mul_is {xh xl yh yl : Nat} {M N : Int} (hx : PairOf xh xl M) (hy : PairOf yh yl N) {i j : Nat} (i1 : 2 ^ i ≤ M.natAbs) (i2 : M.natAbs ≤ 2 ^ (i + 1)) (j1 : 2 ^ j ≤ N.natAbs) (j2 : N.natAbs ≤ 2 ^ (j + 1))
    (hlo : 1448 ≤ i + j) (hhi : i + j ≤ 3048) :
    ∃ s r, (∀ w, Calls Try.prog 22 #[pr xh xl, pr yh yl] w fun e w' => e = .returned (pr s r) ∧ Below w.heap.size w w') ∧ Num s ∧ Num r ∧ 2 ^ 98 * ((val s + val r) * 2 ^ 1074 - M * N).natAbs ≤ (M * N).natAbs := by
  obtain ⟨hM, hN⟩ := And.intro hx.pos hy.pos
  have side : ∀ {xh xl : Nat} {M : Int} {i : Nat}, PairOf xh xl M → 2 ^ i ≤ M.natAbs → M.natAbs ≤ 2 ^ (i + 1) → ∃ (m : Int) (d : Nat), Norm m ∧ m ≠ 0 ∧ val xh = m * 2 ^ d ∧ i ≤ 52 + d ∧ 52 + d ≤ i + 1 ∧ 2 ^ 474 ≤ M.natAbs ∧ i ≤ 1676 := by
    intro xh xl M i h a b
    have p := h.pos
    have lo := h.lo.resolve_left (fun h0 => by rw [h0] at a; simp at a)
    have low : ∀ k, 2 ^ k ≤ M.natAbs → 2 ^ k ≤ (rn M).natAbs := by
      intro k hk
      have h3 : ((2 ^ k : Nat) : Int) = (2 : Int) ^ k := by simp
      have h4 : ((2 ^ k : Nat) : Int) ≤ M := by omega
      rw [h3] at h4
      have h2 := le_rn (z := M) (rep_pow k) h4
      rw [← h3] at h2
      omega
    obtain ⟨m, d, n1, n2, n3, n4, n5⟩ := norm_of (rep_rn M) (low _ lo) (low _ a) (rn_abs_le b)
    exact ⟨m, d, n1, n2, by rw [h.vh, n3], n4, n5, lo, (Nat.pow_le_pow_iff_right (a := 2) (by omega)).1 (Nat.le_trans a h.hi)⟩
  obtain ⟨m, d, nm, m0, vm, d1, d2, lM, iM⟩ := side hx i1 i2
  obtain ⟨n, e, nn, n0, vn, e1, e2, lN, iN⟩ := side hy j1 j2
  obtain ⟨f, hf⟩ : ∃ f, d + e = 1074 + f := ⟨d + e - 1074, by omega⟩
  obtain ⟨s, r, CS, ns, nr, vs, vr⟩ := prod_is hx.nh hy.nh vm vn nm nn (by omega) (by omega) hf (by omega)
  obtain ⟨z1, z2, z3, z4, z5⟩ := mul_parts hM hN
  have hZ0 : 0 ≤ M * N := Int.mul_nonneg hM hN
  have hZlo : 2 ^ 1448 ≤ (M * N).natAbs := by
    rw [Int.natAbs_mul]
    refine Nat.le_trans ?_ (Nat.mul_le_mul i1 j1)
    rw [← Nat.pow_add]; exact Nat.pow_le_pow_right (by omega) hlo
  have hZhi : (M * N).natAbs ≤ 2 ^ 3050 := by
    rw [Int.natAbs_mul]
    refine Nat.le_trans (Nat.mul_le_mul i2 j2) ?_
    rw [← Nat.pow_add]; exact Nat.pow_le_pow_right (by omega) (by omega)
  have hE : ((2 ^ 1126 : Nat) : Int) * 2 ^ 200 ≤ M * N := by
    rw [← Int.natAbs_of_nonneg hZ0]
    refine Int.le_trans ?_ (Int.ofNat_le.2 hZlo)
    rw [show ((2 : Int) ^ 200) = ((2 ^ 200 : Nat) : Int) by simp, ← Int.natCast_mul, ← Nat.pow_add]
    exact Int.ofNat_le.2 (Nat.pow_le_pow_right (by omega) (by omega))
  have big : ∀ {A : Nat}, 2 ^ 53 * A ≤ 2 * (M * N).natAbs → A ≤ 2 ^ (1074 + 1977) := by
    intro A hA
    have : (2 : Nat) ^ (1074 + 1977) = 2 * 2 ^ 3050 := by rw [show 1074 + 1977 = 3050 + 1 by rfl, Nat.pow_succ, Nat.mul_comm]
    rw [this]
    generalize (2 : Nat) ^ 3050 = Q at *
    omega
  have v1 : val xh * val yl = rn M * (N - rn N) := by rw [hx.vh, hy.vl]
  have v2 : val xl * val yh = (M - rn M) * rn N := by rw [hx.vl, hy.vh]
  obtain ⟨t1, g1, nt1, r1, w1⟩ := mul_rel (K := 1977) hx.nh hy.nl (by rw [v1]; exact big z1) (by omega)
  obtain ⟨t2, g2, nt2, r2, w2⟩ := mul_rel (K := 1977) hx.nl hy.nh (by rw [v2]; exact big z2) (by omega)
  obtain ⟨c, g3, nc, vc⟩ := addw nt1 nt2 rfl rfl w1 w2 (by omega)
  have wc : Within 1979 (val c) := by rw [vc]; exact (w1.add w2).rn
  have bm : m.natAbs ≤ 2 ^ 53 := by rcases nm with h | h <;> omega
  have bn : n.natAbs ≤ 2 ^ 53 := by rcases nn with h | h <;> omega
  have bmn := mul_abs_le bm bn
  rw [← Nat.pow_add] at bmn
  have hw : ∀ {k : Nat} {z : Int}, z.natAbs ≤ 2 ^ k → Within (k + f) (z * 2 ^ f) := by
    intro k z h
    unfold Within
    rw [Int.natAbs_mul, Int.natAbs_pow, Nat.pow_add]; exact Nat.mul_le_mul_right _ h
  have ws : Within 2090 (val s) := by rw [vs]; exact (hw (rn_abs_le bmn)).up (by omega)
  have wr : Within 2000 (val r) := by
    rw [vr]
    refine (hw (k := 107) ?_).up (by omega)
    have := rn_abs_le bmn
    generalize (m * n) = p at *
    rw [show 107 = 53 + 53 + 1 by rfl, Nat.pow_succ]
    generalize (2 : Nat) ^ (53 + 53) = Q at *
    omega
  obtain ⟨u, g4, nu, vu⟩ := addw nr nc rfl rfl wr (wc.up (by omega)) (by omega)
  have hH : rn M * rn N = m * n * 2 ^ f * 2 ^ 1074 := by
    rw [← hx.vh, ← hy.vh, vm, vn, show m * 2 ^ d * (n * 2 ^ e) = m * n * 2 ^ (d + e) by rw [Int.mul_assoc, Int.mul_left_comm (2 ^ d), ← Int.mul_assoc, ← Int.pow_add], hf, Int.mul_assoc (m * n), ← Int.pow_add]
    congr 2; omega
  have q1 : val s * 2 ^ 1074 + val r * 2 ^ 1074 = rn M * rn N := by
    rw [vs, vr, hH, ← Int.add_mul, ← Int.add_mul]; congr 2; omega
  have q2 : 2 ^ 53 * (val r * 2 ^ 1074).natAbs ≤ (rn M * rn N).natAbs := by
    have h1 := rn_rel_scale (m * n) (f + 1074)
    rw [hH, vr, Int.mul_assoc, Int.mul_assoc, ← Int.pow_add, ← Int.natAbs_neg, ← Int.neg_mul, show -(m * n - rn (m * n)) = rn (m * n) - m * n by omega, Int.sub_mul]
    exact h1
  have q3 : 2 ^ 53 * (val c * 2 ^ 1074 - (val t1 * 2 ^ 1074 + val t2 * 2 ^ 1074)).natAbs ≤ (val t1 * 2 ^ 1074 + val t2 * 2 ^ 1074).natAbs := by
    rw [vc, ← Int.add_mul]; exact rn_rel_scale _ _
  have q4 : 2 ^ 53 * (val u * 2 ^ 1074 - (val r * 2 ^ 1074 + val c * 2 ^ 1074)).natAbs ≤ (val r * 2 ^ 1074 + val c * 2 ^ 1074).natAbs := by
    rw [vu, ← Int.add_mul]; exact rn_rel_scale _ _
  rw [v1] at r1; rw [v2] at r2
  obtain ⟨k1, k2⟩ := mul_near hZ0 hE z1 z2 z3 z4 z5 q1 q2 r1 r2 q3 q4
  have k1' := scale_abs.1 k1
  obtain ⟨q, v, CQ, nq, nv, vq, vv⟩ := quick_is ns nu rfl rfl ws (Nat.le_trans k1' ws) k1'
  refine ⟨q, v, fun w => mul_run w CS g1 g2 g3 g4 CQ, nq, nv, ?_⟩
  rw [vq, vv, show ∀ a b : Int, a + (b - a) = b by intros; omega, Int.add_mul]
  exact k2

end Go.Proofs.Ytbknkcfnhfolpaa
