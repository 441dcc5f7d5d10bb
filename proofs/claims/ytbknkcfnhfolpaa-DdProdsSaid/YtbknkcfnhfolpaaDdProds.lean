/-
  DdProds returns true, whatever its two words.
-/
import Derived.Test.YtbknkcfnhfolpaaProdsW
set_option exponentiation.threshold 9000
namespace Go.Proofs.Ytbknkcfnhfolpaa.ddProds
open Go.ChangeShapes Go.WideShapes Go.ChangeAt Go.RowKit Rn

set_option maxHeartbeats 2000000 in
theorem walk_no (a b : Nat) (ha : a < 2 ^ 64) (hb : b < 2 ^ 64) (w : World) (h : ¬ (safeB a = true ∧ safeB b = true)) :
    Calls Try.prog 3 #[.int .u64 a, .int .u64 b] w fun e w' => e = .returned (.bool true) ∧ Below w.heap.size w w' := by
  have r1 := Lib.hid (fun w => safe09_any ha w)
  have r2 := Lib.hid (fun w => safe09_any hb w)
  clear ha hb
  generalize safeB a = p at *
  generalize safeB b = q at *
  have HH := Lib.hid h
  clear h
  go_enter Try.func3, Try.ntmps3
  go_wp2_with fail
  refine (alive_is _).mono ?_
  rintro e w1 ⟨rfl, hb1⟩
  have B1 := Lib.hid hb1
  clear hb1
  go_wp2_with fail
  refine (r1.out _).mono ?_
  rintro e w2 ⟨rfl, hb2⟩
  have B2 := Lib.hid (B1.out.trans (hb2.mono B1.out.size))
  clear hb2
  cases p with
  | false =>
    clear r1 r2 HH
    go_wp2
    go_ret
    exact ⟨rfl, B2.out⟩
  | true =>
    obtain rfl : q = false := by have := HH.out; cases q <;> simp_all
    go_wp2_with fail
    refine (r2.out _).mono ?_
    rintro e w3 ⟨rfl, hb3⟩
    have B3 := Lib.hid (B2.out.trans (hb3.mono B2.out.size))
    clear r1 r2 hb3 HH
    go_wp2
    go_ret
    exact ⟨rfl, B3.out⟩

/-- an odd size of a short number is short -/
theorem odd_bound {m s K t : Nat} (h : m * 2 ^ s = K * 2 ^ t) (hK : K ≤ 2 ^ 26) (hm : m = 0 ∨ m % 2 = 1) : bl m ≤ 26 := by
  rcases hm with rfl | hm
  · rw [bl_zero]; omega
  · apply bl_le
    rcases Nat.le_total s t with hst | hst
    · obtain ⟨c, rfl⟩ : ∃ c, t = c + s := ⟨t - s, by omega⟩
      rw [Nat.pow_add, ← Nat.mul_assoc] at h
      have h2 := Nat.eq_of_mul_eq_mul_right (Nat.two_pow_pos s) h
      rcases c with _ | c
      · rw [Nat.pow_zero, Nat.mul_one] at h2; omega
      · rw [Nat.pow_succ, ← Nat.mul_assoc] at h2; omega
    · obtain ⟨c, rfl⟩ : ∃ c, s = c + t := ⟨s - t, by omega⟩
      rw [Nat.pow_add, ← Nat.mul_assoc] at h
      have h2 := Nat.eq_of_mul_eq_mul_right (Nat.two_pow_pos t) h
      have h3 : m * 1 ≤ m * 2 ^ c := Nat.mul_le_mul_left _ (Nat.two_pow_pos c)
      omega

theorem half_bound {ng : Bool} {m : Nat} {e : Int} {k : Int} {t : Nat} (h : nv ng m e = k * 2 ^ t * 2 ^ 4926) (hk : k.natAbs ≤ 2 ^ 26) (hm : m = 0 ∨ m % 2 = 1) : bl m ≤ 26 := by
  have h1 := nv_abs ng m e
  rw [h, Int.natAbs_mul, Int.natAbs_mul, Int.natAbs_pow, Int.natAbs_pow, Nat.mul_assoc, ← Nat.pow_add] at h1
  exact odd_bound h1.symm hk hm

/-- what Prod tells is the nearest, and what it leaves -/
def ProdIs (x y : Nat) (zp : Int) : Prop := ∃ s r, (∀ w, Calls Try.prog 16 #[.float .f64 x, .float .f64 y] w fun e w' => e = .returned (pr s r) ∧ Below w.heap.size w w') ∧
      (∀ w u, NZ w u zp (-2148) → Calls Try.prog 17 #[.float .f64 s, u] w fun q w' => q = .returned (.bool true) ∧ Below w.heap.size w w') ∧
      (∀ w u, NZ w u zp (-2148) → Calls Try.prog 12 #[.agg #[.float .f64 s, .float .f64 r], u] w fun q w' => q = .returned (.bool true) ∧ Below w.heap.size w w')

theorem prod_ok {x y : Nat} {m n : Int} {d e f : Nat} (hx : Num x) (hy : Num y) (ex : val x = m * 2 ^ d) (ey : val y = n * 2 ^ e) (hm : Norm m) (hn : Norm n) (hd : d ≤ 2000) (he : e ≤ 2000) (hf : d + e = 1074 + f) (hf' : f ≤ 1980) :
    ProdIs x y (val x * val y * 2 ^ 3852) := by
  obtain ⟨s, r, C, ns, nr, vs, vr⟩ := prod_is hx hy ex ey hm hn hd he hf hf'
  have hz : val x * val y * 2 ^ 3852 = m * n * 2 ^ f * 2 ^ 4926 := by
    rw [ex, ey, show m * 2 ^ d * (n * 2 ^ e) = m * n * 2 ^ (d + e) by rw [Int.mul_assoc, Int.mul_left_comm (2 ^ d), ← Int.mul_assoc, ← Int.pow_add], hf, Int.mul_assoc (m * n), Int.mul_assoc (m * n), ← Int.pow_add, ← Int.pow_add]
    congr 2; omega
  have hA : (m * n * 2 ^ f).natAbs ≤ 2 ^ 2097 := by
    have bm : m.natAbs ≤ 2 ^ 53 := by rcases hm with h | h <;> omega
    have bn : n.natAbs ≤ 2 ^ 53 := by rcases hn with h | h <;> omega
    have h1 := mul_abs_le bm bn
    rw [Int.natAbs_mul, Int.natAbs_pow]
    exact Nat.le_trans (Nat.mul_le_mul_right _ h1) (by rw [show (2 : Int).natAbs = 2 from rfl, ← Nat.pow_add, ← Nat.pow_add]; exact Nat.pow_le_pow_right (by omega) (by omega))
  refine ⟨s, r, C, fun w u h => ?_, fun w u h => ?_⟩
  · rw [hz] at h
    exact nearest_any h (by omega) (by omega) hA ns (by rw [vs, rn_scale])
  · exact whole_any h (by omega) (by omega) ns nr (by rw [hz, vs, vr, ← Int.add_mul]; congr 2; omega)

theorem bz_prod {x y : Nat} : Bz (val x * val y * 2 ^ 3852) := by
  unfold Bz
  have h1 : (val x).natAbs < 2 ^ 2101 := by
    rw [natAbs_val, magn_expo]
    have hf := frac_lt x
    split
    · exact Nat.lt_of_lt_of_le hf (Nat.pow_le_pow_right (by omega) (by omega))
    · have he := expo_lt x
      rw [show (2101 : Nat) = 53 + 2048 by rfl, Nat.pow_add]
      exact Nat.lt_of_lt_of_le (Nat.mul_lt_mul_of_pos_right (by omega : 2 ^ 52 + frac x < 2 ^ 53) (Nat.two_pow_pos _)) (Nat.mul_le_mul_left _ (Nat.pow_le_pow_right (by omega) (by omega)))
  have h2 : (val y).natAbs < 2 ^ 2101 := by
    rw [natAbs_val, magn_expo]
    have hf := frac_lt y
    split
    · exact Nat.lt_of_lt_of_le hf (Nat.pow_le_pow_right (by omega) (by omega))
    · have he := expo_lt y
      rw [show (2101 : Nat) = 53 + 2048 by rfl, Nat.pow_add]
      exact Nat.lt_of_lt_of_le (Nat.mul_lt_mul_of_pos_right (by omega : 2 ^ 52 + frac y < 2 ^ 53) (Nat.two_pow_pos _)) (Nat.mul_le_mul_left _ (Nat.pow_le_pow_right (by omega) (by omega)))
  rw [Int.natAbs_mul, Int.natAbs_mul, Int.natAbs_pow]
  refine Nat.le_trans (bl_le (k := 2101 + 2101 + 3852) ?_) (by decide)
  rw [Nat.pow_add, Nat.pow_add 2 2101 2101]
  exact Nat.mul_lt_mul_of_pos_right (Nat.mul_lt_mul_of_lt_of_le h1 (Nat.le_of_lt h2) (Nat.two_pow_pos _)) (Nat.two_pow_pos _)

theorem prod_any {x y : Nat} {m n : Int} {d e : Nat} (hx : IsSafe x m d) (hy : IsSafe y n e)
    (h : val x * val y * 2 ^ 3852 = 0 ∨ (-900 ≤ (bl (val x * val y * 2 ^ 3852).natAbs : Int) - 6001 ∧ (bl (val x * val y * 2 ^ 3852).natAbs : Int) - 6001 ≤ 1000)) : ProdIs x y (val x * val y * 2 ^ 3852) := by
  have d1 := hx.lo
  have d2 := hx.hi
  have e1 := hy.lo
  have e2 := hy.hi
  by_cases hm : m = 0
  · exact prod_ok (m := 0) (d := 1074) (f := e) hx.num hy.num (by rw [hx.val, hm]; simp) hy.val (.inl rfl) hy.norm (by omega) (by omega) (by omega) (by omega)
  by_cases hn : n = 0
  · exact prod_ok (n := 0) (e := 1074) (f := d) hx.num hy.num hx.val (by rw [hy.val, hn]; simp) hx.norm (.inl rfl) (by omega) (by omega) (by omega) (by omega)
  have nm := hx.norm
  have nn := hy.norm
  have bm : 2 ^ 52 ≤ m.natAbs ∧ m.natAbs < 2 ^ 53 := nm.resolve_left hm
  have bn : 2 ^ 52 ≤ n.natAbs ∧ n.natAbs < 2 ^ 53 := nn.resolve_left hn
  have hz : (val x * val y * 2 ^ 3852).natAbs = m.natAbs * n.natAbs * 2 ^ (d + e + 3852) := by
    rw [hx.val, hy.val]
    simp only [Int.natAbs_mul, Int.natAbs_pow, show (2 : Int).natAbs = 2 from rfl]
    rw [Nat.mul_mul_mul_comm, ← Nat.pow_add, Nat.mul_assoc, ← Nat.pow_add]
  have lo : 2 ^ 104 ≤ m.natAbs * n.natAbs := Nat.le_trans (by decide) (Nat.mul_le_mul bm.1 bn.1)
  have hi : m.natAbs * n.natAbs < 2 ^ 106 := Nat.lt_of_lt_of_le (Nat.mul_lt_mul_of_lt_of_le bm.2 (Nat.le_of_lt bn.2) (by decide)) (by decide)
  have hp0 : m.natAbs * n.natAbs ≠ 0 := by omega
  have hbl : bl (val x * val y * 2 ^ 3852).natAbs = bl (m.natAbs * n.natAbs) + (d + e + 3852) := by
    rw [hz, bl_pos (Nat.mul_ne_zero hp0 (Nat.ne_of_gt (Nat.two_pow_pos _))), log2_mul_pow _ _ hp0, bl_pos hp0]
    omega
  have b1 := bl_le hi
  have b2 : 105 ≤ bl (m.natAbs * n.natAbs) := by
    rw [bl_pos hp0]
    have := (Nat.le_log2 hp0).2 lo
    omega
  have hT : -900 ≤ (bl (val x * val y * 2 ^ 3852).natAbs : Int) - 6001 ∧ (bl (val x * val y * 2 ^ 3852).natAbs : Int) - 6001 ≤ 1000 := by
    rcases h with h | h
    · exfalso
      rw [h] at hz
      have := Nat.mul_pos (Nat.pos_of_ne_zero hp0) (Nat.two_pow_pos (d + e + 3852))
      simp only [Int.natAbs_zero] at hz
      omega
    · exact h
  rw [hbl] at hT
  exact prod_ok (f := d + e - 1074) hx.num hy.num hx.val hy.val nm nn (by omega) (by omega) (by omega) (by omega)

theorem walk_safe (x y : Nat) (ha : x < 2 ^ 64) (hb : y < 2 ^ 64) (w : World) (hp : safeB x = true) (hq : safeB y = true) :
    Calls Try.prog 3 #[.int .u64 x, .int .u64 y] w fun e w' => e = .returned (.bool true) ∧ Below w.heap.size w w' := by
  obtain ⟨m, d, hx⟩ := safe_val ha hp
  obtain ⟨n, e, hy⟩ := safe_val hb hq
  obtain ⟨h, l, sp, nh, nl, vh, vl⟩ := split_val hx.num hx.val hx.norm (by have := hx.hi; omega)
  obtain ⟨k, k1, k2, k3⟩ := up_norm hx.norm
  refine walk_yes x y h l (val h * 2 ^ 4926) (val l * 2 ^ 4926) (val x * 2 ^ 4926) (val y * 2 ^ 4926) (val x * val y * 2 ^ 3852) ((bl (val x * val y * 2 ^ 3852).natAbs : Int) - 6001) w
    alive_is (fun w => hp ▸ safe09_any ha w) (fun w => hq ▸ safe09_any hb w) (fun w => split_is sp w) (fun w => lworth_any nh.1 w) (fun w => lworth_any nl.1 w)
    (fun w => lworth_any ha w) (fun w => lworth_any hb w) (fun w u hu => ?_) (fun ng m' e' _ hn hodd => ?_) (fun ng m' e' _ hn hodd => ?_) (fun w u t hu ht => mul09_any hu ht bz_any bz_any)
    (fun hz w u hu => topz_any hu (by omega) bz_prod hz) (fun hc => prod_any hx hy hc)
  · exact whole_any hu.nz (by omega) (by omega) nh nl (by rw [vh, vl, hx.val, ← Int.add_mul]; congr 2; omega)
  · exact half_bound (ng := ng) (e := e') (k := k) (t := 27 + d) (by rw [hn, vh, k1, Int.pow_add, ← Int.mul_assoc k]) k2 hodd
  · exact half_bound (ng := ng) (e := e') (k := m - up m) (t := d) (by rw [hn, vl]) k3 hodd

theorem walk (w : World) (a0 : Int) (w0 : (Lit.int .u64 a0).wf = true) (a1 : Int) (w1 : (Lit.int .u64 a1).wf = true) :
    Calls Try.prog 3 #[.int .u64 a0, .int .u64 a1] w fun e w' => e = .returned (.bool true) ∧ Below w.heap.size w w' := by
  obtain ⟨p0, q0⟩ := u64_of_wf w0
  obtain ⟨p1, q1⟩ := u64_of_wf w1
  obtain ⟨n0, rfl⟩ := Int.eq_ofNat_of_zero_le p0
  obtain ⟨n1, rfl⟩ := Int.eq_ofNat_of_zero_le p1
  by_cases h : safeB n0 = true ∧ safeB n1 = true
  · exact walk_safe n0 n1 (by omega) (by omega) w h.1 h.2
  · exact walk_no n0 n1 (by omega) (by omega) w h

/-! ### The statement's frame, as the guide's skeleton writes it -/
theorem own : ownKnob Try.prog.godebug = none := by kernel_rfl
set_option linter.unusedVariables false
set_option maxRecDepth 100000 in
theorem lifted (os : Os) (started : os.Started) (H : Type) (enc : TypeId × Value → H) :
    ReturnsInHanded {} Try.checked os 3 .any (Rows.ddProdsSpec.pre6 enc Try.prog Try.f3 Rows.ddProdsRow.domain false) (Rows.ddProdsSpec.post enc Try.prog Try.f3 false true false false) := by
  refine returnsInHanded_of_change (C := Try.checked) own started (by kernel_rfl) Try.func3
    (ChangeSpec.witness6 (enc := enc) (C := Try.checked) false ⟨#[], #[.int .u64 0, .int .u64 0], []⟩ 8 (by kernel_rfl) (by kernel_rfl) (by kernel_rfl) (by kernel_rfl)) ?_
  intro W base args ds gs before hval0 hW hcnd _
  have hval : ∀ (j : Nat) t v, Try.f3.params[j]? = some t → args[j]? = some v → Value.okWide Try.prog W .any base t v := hval0
  have hW' := hW
  obtain ⟨p, q, hA0, hV, rfl, hfz, hnd⟩ := hW
  have hA : DataW.TrodAll enc Try.prog W 0 (fun _ => true) true Try.f3.params.toList args.toList ds p := hA0
  rw [Try.params3] at hA hval
  obtain ⟨v0, vs0, d0, ds0, p0, q0, hargs, rfl, rfl, h0, r0⟩ := trodAll_cons hA
  obtain ⟨v1, vs1, d1, ds1, p1, q1, rfl, rfl, rfl, h1, r1⟩ := trodAll_cons r0
  obtain ⟨rfl, rfl, rfl⟩ := trodAll_nil r1
  obtain rfl : args = #[v0, v1] := by cases args; simp_all
  obtain ⟨rfl, rfl⟩ := trodVars_none hV
  obtain ⟨a0, rfl, rfl, rfl, w0⟩ := open_int Try.underlying22 (hval 0 22 v0 rfl rfl) h0
  obtain ⟨a1, rfl, rfl, rfl, w1⟩ := open_int Try.underlying22 (hval 1 22 v1 rfl rfl) h1
  clear hA0 hval0
  refine (walk W a0 w0 a1 w1).mono fun e W' ⟨he, bel⟩ => ?_
  subst he
  exact ⟨_, rfl, _, _, _, [], _, [], hW', trodAll_mk1 (shut_bool Try.underlying4 _), (trodAll_cons_mk (shut_int Try.underlying22 w0) (trodAll_cons_mk (shut_int Try.underlying22 w1) trodAll_mk0)), rfl, bel.frame _, fun h => by cases h⟩

theorem over : Rows.ddProdsRow.holds Try.pinned (OpenSpec.ofChange Rows.ddProdsSpec) :=
  OpenClaim.holds_of_wide 3 Try.f3 rfl rfl rfl rfl rfl rfl rfl ⟨rfl, rfl, rfl, rfl, rfl⟩ rfl rfl rfl rfl rfl (by kernel_rfl) Try.func3 (by kernel_rfl)
    (of_decide_eq_true (by kernel_rfl)) (by unfold Func.isWrapper; first | (rw [if_pos (by decide +kernel)]; kernel_rfl) | (rw [if_neg (by decide +kernel)]; exact ⟨rfl, rfl⟩))
    (fun os started H enc _ => lifted os started H enc)

theorem proved : Rows.DdProdsSaid := over
#print axioms proved

end Go.Proofs.Ytbknkcfnhfolpaa.ddProds
