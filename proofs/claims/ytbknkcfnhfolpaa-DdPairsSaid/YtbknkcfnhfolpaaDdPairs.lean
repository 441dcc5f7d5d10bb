/-
  DdPairs returns true, whatever its four words.
-/
import Derived.Test.YtbknkcfnhfolpaaPz
set_option exponentiation.threshold 9000
namespace Go.Proofs.Ytbknkcfnhfolpaa.ddPairs
open Go.ChangeShapes Go.WideShapes Go.ChangeAt Go.RowKit Rn

theorem bz_of {z : Int} {k : Nat} (h : z.natAbs ≤ 2 ^ k) (hk : k ≤ 90000) : Bz z := by
  unfold Bz
  refine Nat.le_trans (bl_le (k := k + 1) ?_) (by omega)
  rw [Nat.pow_succ]
  have := Nat.two_pow_pos k
  omega

theorem pow_scale {a : Int} {k j : Nat} (h : a.natAbs ≤ 2 ^ k) : (a * 2 ^ j).natAbs ≤ 2 ^ (k + j) := by
  rw [Int.natAbs_mul, Int.natAbs_pow, Nat.pow_add]
  exact Nat.mul_le_mul_right _ h

theorem two_le {a b : Int} {k : Nat} (ha : a.natAbs ≤ 2 ^ k) (hb : b.natAbs ≤ 2 ^ k) : (a + b).natAbs ≤ 2 ^ (k + 1) := by
  rw [Nat.pow_succ]
  generalize 2 ^ k = P at *
  omega

/-- within: in plain units -/
theorem within_of {V Z : Int} {p q j bits : Nat} {v : Value} {w : World} {lo : Int} (hp : Num p) (hq : Num q) (hV : (val p + val q) * 2 ^ 4926 = V * 2 ^ (j + bits)) (hZ0 : 0 ≤ Z) (hZ : Z.natAbs ≤ 2 ^ 5000) (hj : j + bits ≤ 5000)
    (h : 2 ^ bits * (V - Z).natAbs ≤ Z.natAbs) (hlo : -3000 ≤ lo) (hlo2 : lo ≤ -1074) (hb : bits ≤ 200) (hv : NZ w v (Z * 2 ^ (j + bits)) lo) :
    Calls Try.prog 23 #[.agg #[.float .f64 p, .float .f64 q], v, .int .i64 bits] w fun q w' => q = .returned (.bool true) ∧ Below w.heap.size w w' := by
  have hd : (val p + val q) * 2 ^ 4926 - Z * 2 ^ (j + bits) = (V - Z) * 2 ^ (j + bits) := by rw [hV, Int.sub_mul]
  have hp2 : (0 : Int) ≤ 2 ^ j := Int.le_of_lt (Int.pow_pos (by omega))
  have hVZ : (V - Z).natAbs ≤ 2 ^ 5000 := by
    have := Nat.le_mul_of_pos_left (V - Z).natAbs (Nat.two_pow_pos bits)
    omega
  refine within_any (bits := bits) (Y := Z * 2 ^ j) hv hlo hlo2 hb hp hq (bz_of (pow_scale hZ) (by omega)) (by rw [hd]; exact bz_of (pow_scale hVZ) (by omega)) ?_ (Int.mul_nonneg hZ0 hp2) ?_
  · rw [Int.natAbs_mul, Int.natAbs_mul, Int.natAbs_pow, Int.natAbs_pow, show (2 : Int).natAbs = 2 from rfl, Nat.mul_assoc, ← Nat.pow_add]
  · rw [hd]
    have h1 : ((V - Z) * 2 ^ (j + bits)).natAbs ≤ (Z * 2 ^ j).natAbs := by
      rw [Int.natAbs_mul, Int.natAbs_mul, Int.natAbs_pow, Int.natAbs_pow, show (2 : Int).natAbs = 2 from rfl, Nat.add_comm, Nat.pow_add, ← Nat.mul_assoc]
      refine Nat.mul_le_mul_right _ ?_
      rw [Nat.mul_comm]; exact h
    have h2 : 0 ≤ Z * 2 ^ j := Int.mul_nonneg hZ0 hp2
    generalize ((V - Z) * 2 ^ (j + bits)).natAbs = A at *
    generalize Z * 2 ^ j = B at *
    omega

theorem far_no {M N : Int} (hM : 0 ≤ M) (hN : 0 ≤ N) (h : farB (M * 2 ^ 4926) (N * 2 ^ 4926) = false) :
    M ≠ 0 ∧ N ≠ 0 ∧ 1448 ≤ M.natAbs.log2 + N.natAbs.log2 ∧ M.natAbs.log2 + N.natAbs.log2 ≤ 3048 := by
  unfold farB at h
  simp only [Bool.or_eq_false_iff, decide_eq_false_iff_not] at h
  obtain ⟨⟨⟨h1, h2⟩, h3⟩, h4⟩ := h
  have m0 : M ≠ 0 := by rintro rfl; exact h1 (Int.zero_mul _)
  have n0 : N ≠ 0 := by rintro rfl; exact h2 (Int.zero_mul _)
  have key : ∀ {X : Int}, X ≠ 0 → bl (X * 2 ^ 4926).natAbs = X.natAbs.log2 + 4927 := by
    intro X hX
    have hx : X.natAbs ≠ 0 := by omega
    rw [Int.natAbs_mul, Int.natAbs_pow, show (2 : Int).natAbs = 2 from rfl, bl_pos (Nat.mul_ne_zero hx (Nat.ne_of_gt (Nat.two_pow_pos _))), log2_mul_pow _ _ hx]
  rw [key m0, key n0] at h3 h4
  exact ⟨m0, n0, by omega, by omega⟩

theorem walk_safe (x1 x2 x3 x4 : Nat) (l1 : x1 < 2 ^ 64) (l2 : x2 < 2 ^ 64) (l3 : x3 < 2 ^ 64) (l4 : x4 < 2 ^ 64) (w : World) (s1 : safeB x1 = true) (s2 : safeB x2 = true) (s3 : safeB x3 = true) (s4 : safeB x4 = true) :
    Calls Try.prog 4 #[.int .u64 x1, .int .u64 x2, .int .u64 x3, .int .u64 x4] w fun e w' => e = .returned (.bool true) ∧ Below w.heap.size w w' := by
  obtain ⟨_, _, h1⟩ := safe_val l1 s1
  obtain ⟨_, _, h2⟩ := safe_val l2 s2
  obtain ⟨_, _, h3⟩ := safe_val l3 s3
  obtain ⟨_, _, h4⟩ := safe_val l4 s4
  obtain ⟨xh, xl, CS1, PX⟩ := pair_is h1 h2
  obtain ⟨yh, yl, CS2, PY⟩ := pair_is h3 h4
  generalize ((val x1).natAbs : Int) + (val x2).natAbs = M at *
  generalize ((val x3).natAbs : Int) + (val x4).natAbs = N at *
  obtain ⟨s, r, CADD, ns, nr, hadd⟩ := add_is PX PY
  have hM := PX.pos
  have hN := PY.pos
  have bM := PX.hi
  have bN := PY.hi
  have bM' : M.natAbs ≤ 2 ^ 2098 := Nat.le_trans bM (Nat.pow_le_pow_right (by omega) (by omega))
  have bN' : N.natAbs ≤ 2 ^ 2098 := Nat.le_trans bN (Nat.pow_le_pow_right (by omega) (by omega))
  have zM : Bz (M * 2 ^ 4926) := bz_of (pow_scale bM) (by omega)
  have zN : Bz (N * 2 ^ 4926) := bz_of (pow_scale bN) (by omega)
  have eM : val xh * 2 ^ 4926 + val xl * 2 ^ 4926 = M * 2 ^ 4926 := by rw [← Int.add_mul, PX.vh, PX.vl]; congr 1; omega
  have eN : val yh * 2 ^ 4926 + val yl * 2 ^ 4926 = N * 2 ^ 4926 := by rw [← Int.add_mul, PY.vh, PY.vl]; congr 1; omega
  have bMN : (M * N).natAbs ≤ 2 ^ 5000 := by
    rw [Int.natAbs_mul]
    refine Nat.le_trans (Nat.mul_le_mul bM bN) ?_
    rw [← Nat.pow_add]; exact Nat.pow_le_pow_right (by omega) (by omega)
  refine walk_yes x1 x2 x3 x4 (x1 % 2 ^ 63) (x2 % 2 ^ 63) (x3 % 2 ^ 63) (x4 % 2 ^ 63) xh xl yh yl s r (val xh * 2 ^ 4926) (val xl * 2 ^ 4926) (val yh * 2 ^ 4926) (val yl * 2 ^ 4926) (M * 2 ^ 4926) (N * 2 ^ 4926) ((M + N) * 2 ^ 4926) (M * N * 2 ^ 3852) (farB (M * 2 ^ 4926) (N * 2 ^ 4926)) w
    alive_is (fun w => s1 ▸ safe09_any l1 w) (fun w => abs_any l1 w) (fun w => s2 ▸ safe09_any l2 w) (fun w => abs_any l2 w) (fun w => s3 ▸ safe09_any l3 w) (fun w => abs_any l3 w) (fun w => s4 ▸ safe09_any l4 w) (fun w => abs_any l4 w)
    CS1 CS2 (fun w => lworth_any PX.nh.1 w) (fun w => lworth_any PX.nl.1 w) (fun w => lworth_any PY.nh.1 w) (fun w => lworth_any PY.nl.1 w)
    (fun w u t hu ht => eM ▸ add_any' hu.nz ht.nz (by omega) bz_any bz_any) (fun w u t hu ht => eN ▸ add_any' hu.nz ht.nz (by omega) bz_any bz_any)
    CADD ?_ (fun w u t hu ht => by rw [Int.add_mul]; exact add_any' hu ht (by omega) zM zN)
    (fun w u hu => ?_) (fun w u t hu ht => far_any hu ht zM zN) (fun hF w u t hu ht => ?_)
  · intro w
    rcases hF : farB (M * 2 ^ 4926) (N * 2 ^ 4926) with _ | _
    · obtain ⟨m0, n0, i1, i2⟩ := far_no hM hN hF
      obtain ⟨p, q, CM, np, nq, hmul⟩ := mul_is PX PY (Nat.log2_self_le (by omega)) (Nat.le_of_lt Nat.lt_log2_self) (Nat.log2_self_le (by omega)) (Nat.le_of_lt Nat.lt_log2_self) i1 i2
      refine (CM w).mono ?_
      rintro e w' ⟨rfl, hb⟩
      refine ⟨p, q, rfl, fun _ => fun w u hu => ?_, hb⟩
      exact within_of (bits := 98) (j := 3754) (V := (val p + val q) * 2 ^ 1074) np nq (by rw [Int.mul_assoc, ← Int.pow_add]) (Int.mul_nonneg hM hN) bMN (by omega) hmul (by omega) (by omega) (by omega) hu
    · refine (mul_tot xh xl yh yl w).mono ?_
      rintro e w' ⟨p, q, rfl, hb⟩
      exact ⟨p, q, rfl, fun h => (by cases h), hb⟩
  · exact within_of (bits := 100) (j := 4826) (V := val s + val r) ns nr rfl (Int.add_nonneg hM hN) (Nat.le_trans (two_le bM bN) (Nat.pow_le_pow_right (by omega) (by omega))) (by omega) hadd (by omega) (by omega) (by omega) hu
  · obtain ⟨m0, n0, _, _⟩ := far_no hM hN hF
    exact mul09_nz hu ht m0 n0 bM' bN' zM zN

theorem walk (w : World) (a0 : Int) (w0 : (Lit.int .u64 a0).wf = true) (a1 : Int) (w1 : (Lit.int .u64 a1).wf = true) (a2 : Int) (w2 : (Lit.int .u64 a2).wf = true) (a3 : Int) (w3 : (Lit.int .u64 a3).wf = true) :
    Calls Try.prog 4 #[.int .u64 a0, .int .u64 a1, .int .u64 a2, .int .u64 a3] w fun e w' => e = .returned (.bool true) ∧ Below w.heap.size w w' := by
  obtain ⟨p0, q0⟩ := u64_of_wf w0
  obtain ⟨p1, q1⟩ := u64_of_wf w1
  obtain ⟨p2, q2⟩ := u64_of_wf w2
  obtain ⟨p3, q3⟩ := u64_of_wf w3
  obtain ⟨n0, rfl⟩ := Int.eq_ofNat_of_zero_le p0
  obtain ⟨n1, rfl⟩ := Int.eq_ofNat_of_zero_le p1
  obtain ⟨n2, rfl⟩ := Int.eq_ofNat_of_zero_le p2
  obtain ⟨n3, rfl⟩ := Int.eq_ofNat_of_zero_le p3
  by_cases h : safeB n0 = true ∧ safeB n1 = true ∧ safeB n2 = true ∧ safeB n3 = true
  · exact walk_safe n0 n1 n2 n3 (by omega) (by omega) (by omega) (by omega) w h.1 h.2.1 h.2.2.1 h.2.2.2
  · exact walk_no n0 n1 n2 n3 (by omega) (by omega) (by omega) (by omega) w h

/-! ### The statement's frame, as the guide's skeleton writes it -/
theorem own : ownKnob Try.prog.godebug = none := by kernel_rfl
set_option linter.unusedVariables false
set_option maxRecDepth 100000 in
theorem lifted (os : Os) (started : os.Started) (H : Type) (enc : TypeId × Value → H) :
    ReturnsInHanded {} Try.checked os 4 .any (Rows.ddPairsSpec.pre6 enc Try.prog Try.f4 Rows.ddPairsRow.domain false) (Rows.ddPairsSpec.post enc Try.prog Try.f4 false true false false) := by
  refine returnsInHanded_of_change (C := Try.checked) own started (by kernel_rfl) Try.func4
    (ChangeSpec.witness6 (enc := enc) (C := Try.checked) false ⟨#[], #[.int .u64 0, .int .u64 0, .int .u64 0, .int .u64 0], []⟩ 8 (by kernel_rfl) (by kernel_rfl) (by kernel_rfl) (by kernel_rfl)) ?_
  intro W base args ds gs before hval0 hW hcnd _
  have hval : ∀ (j : Nat) t v, Try.f4.params[j]? = some t → args[j]? = some v → Value.okWide Try.prog W .any base t v := hval0
  have hW' := hW
  obtain ⟨p, q, hA0, hV, rfl, hfz, hnd⟩ := hW
  have hA : DataW.TrodAll enc Try.prog W 0 (fun _ => true) true Try.f4.params.toList args.toList ds p := hA0
  rw [Try.params4] at hA hval
  obtain ⟨v0, vs0, d0, ds0, p0, q0, hargs, rfl, rfl, h0, r0⟩ := trodAll_cons hA
  obtain ⟨v1, vs1, d1, ds1, p1, q1, rfl, rfl, rfl, h1, r1⟩ := trodAll_cons r0
  obtain ⟨v2, vs2, d2, ds2, p2, q2, rfl, rfl, rfl, h2, r2⟩ := trodAll_cons r1
  obtain ⟨v3, vs3, d3, ds3, p3, q3, rfl, rfl, rfl, h3, r3⟩ := trodAll_cons r2
  obtain ⟨rfl, rfl, rfl⟩ := trodAll_nil r3
  obtain rfl : args = #[v0, v1, v2, v3] := by cases args; simp_all
  obtain ⟨rfl, rfl⟩ := trodVars_none hV
  obtain ⟨a0, rfl, rfl, rfl, w0⟩ := open_int Try.underlying22 (hval 0 22 v0 rfl rfl) h0
  obtain ⟨a1, rfl, rfl, rfl, w1⟩ := open_int Try.underlying22 (hval 1 22 v1 rfl rfl) h1
  obtain ⟨a2, rfl, rfl, rfl, w2⟩ := open_int Try.underlying22 (hval 2 22 v2 rfl rfl) h2
  obtain ⟨a3, rfl, rfl, rfl, w3⟩ := open_int Try.underlying22 (hval 3 22 v3 rfl rfl) h3
  clear hA0 hval0
  refine (walk W a0 w0 a1 w1 a2 w2 a3 w3).mono fun e W' ⟨he, bel⟩ => ?_
  subst he
  exact ⟨_, rfl, _, _, _, [], _, [], hW', trodAll_mk1 (shut_bool Try.underlying4 _), (trodAll_cons_mk (shut_int Try.underlying22 w0) (trodAll_cons_mk (shut_int Try.underlying22 w1) (trodAll_cons_mk (shut_int Try.underlying22 w2) (trodAll_cons_mk (shut_int Try.underlying22 w3) trodAll_mk0)))), rfl, bel.frame _, fun h => by cases h⟩

theorem over : Rows.ddPairsRow.holds Try.pinned (OpenSpec.ofChange Rows.ddPairsSpec) :=
  OpenClaim.holds_of_wide 4 Try.f4 rfl rfl rfl rfl rfl rfl rfl ⟨rfl, rfl, rfl, rfl, rfl⟩ rfl rfl rfl rfl rfl (by kernel_rfl) Try.func4 (by kernel_rfl)
    (of_decide_eq_true (by kernel_rfl)) (by unfold Func.isWrapper; first | (rw [if_pos (by decide +kernel)]; kernel_rfl) | (rw [if_neg (by decide +kernel)]; exact ⟨rfl, rfl⟩))
    (fun os started H enc _ => lifted os started H enc)

theorem proved : Rows.DdPairsSaid := over
#print axioms proved

end Go.Proofs.Ytbknkcfnhfolpaa.ddPairs
