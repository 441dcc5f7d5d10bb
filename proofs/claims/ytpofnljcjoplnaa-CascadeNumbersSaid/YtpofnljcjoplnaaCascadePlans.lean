/-
  CascadePlans returns true, whatever its two numbers.
-/
import Derived.Test.YtpofnljcjoplnaaAlive
namespace Go.Proofs.Ytpofnljcjoplnaa.cascadePlans
open Go.ChangeShapes Go.WideShapes Go.ChangeAt Go.RowKit

theorem pre_get (a : Int) (k i : Nat) (h : i < k) : (pre a k)[i]? = some (a * 2 ^ i) := by
  simp [pre, List.getElem?_map, List.getElem?_range h]

/-- What the law asks of the list. -/
theorem plan_facts {a b : Int} {l : List Int} (h : IsPlan a b l) (ha : 32 ≤ a) (hab : a ≤ b) (hb : b ≤ 8192) :
    l[0]? = some a ∧ l[l.length - 1]? = some b ∧ (∀ i, i < l.length → ∃ x, l[i]? = some x ∧ 32 ≤ x ∧ x ≤ 8192) ∧
    ∀ i x y, 0 < i → l[i - 1]? = some x → l[i]? = some y → x < y ∧ y ≤ 2 * x := by
  obtain ⟨k, rfl, h1, h2⟩ := h
  have hl : (pre a k ++ [b]).length = k + 1 := by simp [pre_length]
  have at_lt : ∀ i, i < k → (pre a k ++ [b])[i]? = some (a * 2 ^ i) := fun i hi => by
    rw [List.getElem?_append_left (by rw [pre_length]; exact hi)]; exact pre_get a k i hi
  have at_k : (pre a k ++ [b])[k]? = some b := by
    rw [List.getElem?_append_right (by rw [pre_length]; exact Nat.le_refl _), pre_length]; simp
  refine ⟨?_, ?_, ?_, ?_⟩
  · rcases Nat.eq_zero_or_pos k with rfl | hk
    · rw [at_k]; simp at h1; congr 1; omega
    · rw [at_lt 0 hk]; simp
  · rw [hl]; exact at_k
  · intro i hi
    rcases Nat.lt_or_ge i k with hik | hik
    · exact ⟨_, at_lt i hik, pow_lo a i ha, by have := h2 i hik; omega⟩
    · obtain rfl : i = k := by omega
      exact ⟨_, at_k, by omega, hb⟩
  · intro i x y hi hx hy
    obtain ⟨j, rfl⟩ : ∃ j, i = j + 1 := ⟨i - 1, by omega⟩
    simp only [Nat.add_sub_cancel] at hx
    have hj : j + 1 < (pre a k ++ [b]).length := (List.getElem?_eq_some_iff.1 hy).1
    rw [at_lt j (by omega)] at hx
    simp only [Option.some.injEq] at hx
    subst hx
    have e : a * 2 ^ (j + 1) = 2 * (a * 2 ^ j) := by rw [Int.pow_succ, ← Int.mul_assoc, Int.mul_comm]
    have hp := pow_lo a j ha
    rcases Nat.lt_or_ge (j + 1) k with hjk | hjk
    · rw [at_lt _ hjk, e] at hy
      simp only [Option.some.injEq] at hy
      omega
    · obtain rfl : j + 1 = k := by omega
      rw [at_k] at hy
      simp only [Option.some.injEq] at hy
      subst hy
      have := h2 j (by omega)
      rw [e] at h1
      omega

set_option maxHeartbeats 1000000 in
theorem walk_no (a b : Int) (w : World) (h : right a b = false) :
    Calls Try.prog 3 #[.int .i64 a, .int .i64 b] w fun e w' => e = .returned (.bool true) ∧ Below w.heap.size w w' := by
  go_enter Try.func3, Try.ntmps3
  go_wp2_with fail
  refine (alive10 _).mono ?_
  rintro e w1 ⟨rfl, hb1⟩
  go_wp2_with fail
  refine (plan_no _ _ _ h).mono ?_
  rintro e w' ⟨rfl, rfl⟩
  go_wp2_with fail
  refine (right_any _ _ _).mono ?_
  rw [h]
  rintro e w' ⟨rfl, rfl⟩
  go_wp2
  go_ret
  exact ⟨rfl, hb1⟩

set_option maxHeartbeats 2000000 in
theorem walk_yes (a b : Int) (w : World) (h : right a b = true) :
    Calls Try.prog 3 #[.int .i64 a, .int .i64 b] w fun e w' => e = .returned (.bool true) ∧ Below w.heap.size w w' := by
  have h' := h
  simp only [right, Bool.and_eq_true, decide_eq_true_eq] at h'
  obtain ⟨⟨⟨h1, h2⟩, h3⟩, h4⟩ := h'
  have HR := Lib.hid h
  clear h
  go_enter Try.func3, Try.ntmps3
  go_wp2_with fail
  refine (alive10 _).mono ?_
  rintro e w1 ⟨rfl, hb1⟩
  go_wp2_with fail
  refine (plan_yes _ _ _ HR.out).mono ?_
  rintro e w2 ⟨v, l, rfl, hown, hb2, hpl⟩
  go_wp2_with fail
  refine (right_any _ _ _).mono ?_
  rw [HR.out]
  rintro e w' ⟨rfl, rfl⟩
  go_wp2_with fail
  refine (refPlan_any 16385 _ _ _ h1 (by omega) h4 (by omega)).mono ?_
  rintro e w3 ⟨v', l', rfl, hown', hb3, hpl'⟩
  obtain rfl := hpl.uniq hpl'
  have hlen := hpl.len h1 h4
  have hfacts := plan_facts hpl h1 h2 h4
  have hS := (Sl.of_own hown).below hb3
  have hS' := Sl.of_own hown'
  go_wp2_with fail
  refine (same_any _ _ _ _ _ hS hS' (by omega)).mono ?_
  have hsame : sameB l l = true := by simp [sameB]
  rw [hsame]
  rintro e w4 ⟨rfl, n, rfl⟩
  obtain ⟨g, cap, rfl, hg, hg1⟩ := hown.form hpl.ne
  have hcell0 := hown.cells (g := g) rfl
  have hcell : ∀ i x, l[i]? = some x → w3.cell? ⟨g, i, none⟩ = some (.int .i64 x) := fun i x hx => by
    have := hcell0 i (.int .i64 x) (by simp [hx])
    rw [Addr.add_lit] at this
    exact (hb3.cell (p := ⟨g, i, none⟩) hg1).trans (by simpa using this)
  obtain ⟨f0, fl, fr, fs⟩ := hfacts
  have c0 := hcell 0 _ f0
  have cl := hcell _ _ fl
  have hpos := hpl.ne
  have hl9 : ((l.length : Int)) ≤ 9 := by omega
  have hidx : (l.length - 1 : Int).toNat = l.length - 1 := by omega
  have HC := Lib.hid hcell
  have HF := Lib.hid fr
  have HS := Lib.hid fs
  have hb03 : Below w.heap.size w w3 := below_then (below_then hb1 hb2) (hb3.mono (by have := hb1.size; have := hb2.size; omega))
  have HB := Lib.hid hb03
  clear hcell hcell0 fr fs hown hown' hS hS' hsame hpl hpl' f0 fl hb03 hb1 hb2 hb3
  go_wp2
  go_loopw [7] (fun i wr => ∃ k m : Nat, i = .int .i64 k ∧ 1 ≤ k ∧ k ≤ l.length ∧ wr = w3.drewN m) (fun i _ => l.length - (intOf i).toNat)
  case atStart => exact ⟨1, n, rfl, Nat.le_refl _, hpos, rfl⟩
  case round =>
    obtain ⟨k, m, rfl, hk1, hk, rfl⟩ := hrel
    by_cases hlt : k < l.length
    · obtain ⟨x, hx, hx1, hx2⟩ := HF.out (k - 1) (by omega)
      obtain ⟨y, hy, hy1, hy2⟩ := HF.out k hlt
      obtain ⟨g1, g2⟩ := HS.out k x y (by omega) hx hy
      have cx := HC.out _ _ hx
      have cy := HC.out _ _ hy
      have hi2 : ((k : Int) - 1).toNat = k - 1 := by omega
      have hb1 : (k : Int) < l.length := by omega
      have hb2 : 0 ≤ (k : Int) - 1 := by omega
      have hb3 : (k : Int) - 1 < l.length := by omega
      have d1 : decide (y ≤ x) = false := by simp; omega
      have d2 : decide (2 * x < y) = false := by simp; omega
      clear hx hy c0 cl hidx
      go_wp2
      go_quiet (fail)
      go_wp2
      go_roundw
      case rel => exact ⟨k + 1, m + nq, by go_num, by omega, by omega, by simp⟩
      case measure => simp [intOf]; omega
    · have hge : (l.length : Int) ≤ k := by omega
      go_wp2
      go_ret
      exact ⟨rfl, below_drewN' HB.out _⟩

theorem walk (a0 : Int) (a1 : Int) (w : World) :
    Calls Try.prog 3 #[.int .i64 a0, .int .i64 a1] w fun e w' => e = .returned (.bool true) ∧ Below w.heap.size w w' := by
  cases h : right a0 a1
  · exact walk_no a0 a1 w h
  · exact walk_yes a0 a1 w h

/-! ### The statement's frame, as the guide's template writes it -/
theorem own : ownKnob Try.prog.godebug = none := by kernel_rfl
set_option linter.unusedVariables false
set_option maxRecDepth 100000 in
theorem lifted (os : Os) (started : os.Started) (H : Type) (enc : TypeId × Value → H) :
    ReturnsInHanded {} Try.checked os 3 .any (Rows.cascadePlansSpec.pre6 enc Try.prog Try.f3 Rows.cascadePlansRow.domain false) (Rows.cascadePlansSpec.post enc Try.prog Try.f3 false true false false) := by
  refine returnsInHanded_of_change (C := Try.checked) own started (by kernel_rfl) Try.func3
    (ChangeSpec.witness6 (enc := enc) (C := Try.checked) false ⟨#[], #[.int .i64 0, .int .i64 0], []⟩ 8 (by kernel_rfl) (by kernel_rfl) (by kernel_rfl) (by kernel_rfl)) ?_
  intro W base args ds gs before hval0 hW hcnd _
  have hval : ∀ (j : Nat) t v, Try.f3.params[j]? = some t → args[j]? = some v → Value.okWide Try.prog W .any base t v := hval0
  have hW' := hW
  obtain ⟨p, q, hA0, hV, rfl, hfz, hnd⟩ := hW
  have hA : DataW.TrodAll enc Try.prog W 0 (fun _ => true) true Try.f3.params.toList args.toList ds p := hA0
  rw [Try.params3] at hA hval
  obtain ⟨v0, vs0, d0, ds0, p0, q0, hargs, rfl, rfl, h0, r0⟩ := trodAll_cons hA
  obtain ⟨v1, vs1, d1, ds1, p1, q1, rfl, rfl, rfl, h1, r1⟩ := trodAll_cons r0
  obtain ⟨rfl, rfl, rfl⟩ := trodAll_nil r1
  obtain rfl : args = #[v0, v1] := by cases args; simp_all
  obtain ⟨rfl, rfl⟩ := trodVars_none hV
  obtain ⟨a0, rfl, rfl, rfl, w0⟩ := open_int Try.underlying3 (hval 0 3 v0 rfl rfl) h0
  obtain ⟨a1, rfl, rfl, rfl, w1⟩ := open_int Try.underlying3 (hval 1 3 v1 rfl rfl) h1
  clear hA0 hval0
  refine (walk a0 a1 W).mono fun e W' ⟨he, bel⟩ => ?_
  subst he
  exact ⟨_, rfl, _, _, _, [], _, [], hW', trodAll_mk1 (shut_bool Try.underlying4 _), (trodAll_cons_mk (shut_int Try.underlying3 w0) (trodAll_cons_mk (shut_int Try.underlying3 w1) trodAll_mk0)), rfl, bel.frame _, fun h => by cases h⟩

theorem over : Rows.cascadePlansRow.holds Try.pinned (OpenSpec.ofChange Rows.cascadePlansSpec) :=
  OpenClaim.holds_of_wide 3 Try.f3 rfl rfl rfl rfl rfl rfl rfl ⟨rfl, rfl, rfl, rfl, rfl⟩ rfl rfl rfl rfl rfl (by kernel_rfl) Try.func3 (by kernel_rfl)
    (of_decide_eq_true (by kernel_rfl)) (by unfold Func.isWrapper; first | (rw [if_pos (by decide +kernel)]; kernel_rfl) | (rw [if_neg (by decide +kernel)]; exact ⟨rfl, rfl⟩))
    (fun os started H enc _ => lifted os started H enc)

theorem proved : Rows.CascadePlansSaid := over
#print axioms proved
end Go.Proofs.Ytpofnljcjoplnaa.cascadePlans
