/-
  CascadeNumbers returns true, whatever its three numbers.
-/
import Derived.Test.YtpofnljcjoplnaaNums
import Derived.Test.YtpofnljcjoplnaaCascadePlans
namespace Go.Proofs.Ytpofnljcjoplnaa.cascadeNumbers
open Go.ChangeShapes Go.WideShapes Go.ChangeAt Go.RowKit
open Go.Proofs.Ytpofnljcjoplnaa.cascadePlans (plan_facts)

set_option maxHeartbeats 1000000 in
theorem walk_no (a b c : Int) (ha : 0 ≤ a) (ha2 : a ≤ 65535) (hb : 0 ≤ b) (hb2 : b ≤ 65535) (w : World) (h : right a b = false) :
    Calls Try.prog 4 #[.int .u16 a, .int .u16 b, .int .u8 c] w fun e w' => e = .returned (.bool true) ∧ Below w.heap.size w w' := by
  go_enter Try.func4, Try.ntmps4
  go_wp2_with fail
  refine (alive10 _).mono ?_
  rintro e w1 ⟨rfl, hb1⟩
  go_wp2_with fail
  refine (plan_no _ _ _ h).mono ?_
  rintro e w' ⟨rfl, rfl⟩
  go_wp2
  go_ret
  exact ⟨rfl, hb1.alloc hb1.size _⟩

/-- The rest of a plan is the plan from its second number. -/
theorem plan_rest {a b : Int} {l : List Int} (h : IsPlan a b l) (ha : 32 ≤ a) (_hab : a ≤ b) (hl : 2 ≤ l.length) : ∃ x, l[1]? = some x ∧ IsPlan x b (l.drop 1) ∧ a < x ∧ x ≤ b := by
  obtain ⟨k, rfl, h1, h2⟩ := h
  have hk : 1 ≤ k := by simp [pre_length] at hl; omega
  have e : pre a k = a :: pre (2 * a) (k - 1) := by
    obtain ⟨m, rfl⟩ : ∃ m, k = m + 1 := ⟨k - 1, by omega⟩
    simp only [pre, List.range_succ_eq_map, List.map_cons, List.map_map, Nat.add_sub_cancel]
    simp only [Int.pow_zero, Int.mul_one, List.cons.injEq, true_and]
    refine List.map_congr_left fun j _ => ?_
    simp only [Function.comp, Int.pow_succ]
    rw [Int.mul_comm 2 a, Int.mul_assoc, Int.mul_comm 2]
  rw [e]
  rcases Nat.lt_or_ge 1 k with hk2 | hk2
  · have h21 := h2 1 hk2
    refine ⟨2 * a, ?_, ⟨k - 1, by simp, ?_, ?_⟩, by omega, by omega⟩
    · obtain ⟨m, hm⟩ : ∃ m, k - 1 = m + 1 := ⟨k - 2, by omega⟩
      rw [hm]; simp [pre, List.range_succ_eq_map]
    · obtain ⟨m, rfl⟩ : ∃ m, k = m + 1 := ⟨k - 1, by omega⟩
      rw [Int.pow_succ, Int.mul_comm (2 ^ m), ← Int.mul_assoc, Int.mul_comm a 2] at h1
      exact h1
    · intro j hj
      have := h2 (j + 1) (by omega)
      rw [Int.pow_succ, Int.mul_comm (2 ^ j), ← Int.mul_assoc, Int.mul_comm a 2] at this
      exact this
  · obtain rfl : k = 1 := by omega
    have := h2 0 (by omega)
    simp at this
    exact ⟨b, by simp [pre], ⟨0, by simp [pre], by simp, by omega⟩, this, by omega⟩

theorem rising_of {l : List Int} (fr : ∀ i, i < l.length → ∃ x, l[i]? = some x ∧ 32 ≤ x ∧ x ≤ 8192) (fs : ∀ (i : Nat) (x y : Int), 0 < i → l[i - 1]? = some x → l[i]? = some y → x < y ∧ y ≤ 2 * x) : Rising l := by
  have hin : ∀ (i : Nat) (x : Int), l[i]? = some x → i < l.length := fun i x h => (List.getElem?_eq_some_iff.1 h).1
  refine ⟨fun i x h => ?_, fun i j x y hij hx hy => ?_⟩
  · obtain ⟨z, hz, h1, h2⟩ := fr i (hin i x h)
    rw [h] at hz
    simp only [Option.some.injEq] at hz
    omega
  · induction j generalizing y with
    | zero => omega
    | succ j ih =>
      obtain ⟨z, hz, _, _⟩ := fr j (by have := hin _ _ hy; omega)
      have h1 := (fs (j + 1) z y (by omega) hz hy).1
      rcases Nat.lt_or_ge i j with h | h
      · have := ih z h hz; omega
      · obtain rfl : i = j := by omega
        rw [hx] at hz
        simp only [Option.some.injEq] at hz
        omega

set_option maxHeartbeats 4000000 in
theorem walk_yes (a b : Int) (c : Nat) (hc : c ≤ 255) (w : World) (h : right a b = true) :
    Calls Try.prog 4 #[.int .u16 a, .int .u16 b, .int .u8 c] w fun e w' => e = .returned (.bool true) ∧ Below w.heap.size w w' := by
  have h' := h
  simp only [right, Bool.and_eq_true, decide_eq_true_eq] at h'
  obtain ⟨⟨⟨h1, h2⟩, h3⟩, h4⟩ := h'
  have hci : (c : Int) ≤ 255 := by omega
  have HR := Lib.hid h
  clear h
  go_enter Try.func4, Try.ntmps4
  go_wp2_with fail
  refine (alive10 _).mono ?_
  rintro e w1 ⟨rfl, hb1⟩
  go_wp2_with fail
  refine (plan_yes _ _ _ HR.out).mono ?_
  rintro e w2 ⟨v, l, rfl, hown, hb2, hpl⟩
  have hlen := hpl.len h1 h4
  have hfacts := plan_facts hpl h1 h2 h4
  have hpos := hpl.ne
  obtain ⟨g, cap, rfl, hg, hg1⟩ := hown.form hpos
  have hcap : l.length ≤ cap := by
    rcases hown.2 with ⟨_, h⟩ | ⟨_, _, _, he, _, _, h, _⟩
    · omega
    · injection he with _ _ he; omega
  have hB2 := below_then hb1 hb2
  have hz := hB2.size
  have hcell0 := hown.cells (g := g) rfl
  have hcell : ∀ i x, l[i]? = some x → w2.cell? ⟨g, i, none⟩ = some (.int .i64 x) := fun i x hx => by
    have := hcell0 i (.int .i64 x) (by simp [hx])
    rw [Addr.add_lit] at this
    simpa using this
  have HC := Lib.hid hcell
  have HF := Lib.hid hfacts
  have HP := Lib.hid hpl
  have HB := Lib.hid hB2
  have hli : (l.length : Int) ≤ 9 := by omega
  clear hcell hcell0 hfacts hpl hB2 hb1 hb2 hown hg
  by_cases hl2 : l.length < 2
  · have hl2i : (l.length : Int) < 2 := by omega
    go_wp2
    go_ret
    exact ⟨rfl, HB.out.alloc hz _⟩
  · have hl2i : ¬ (l.length : Int) < 2 := by omega
    obtain ⟨x1, hx1, hpl1, hx1a, hx1b⟩ := plan_rest HP.out h1 h2 (by omega)
    have c1 := HC.out 1 x1 hx1
    have hlt1 : 1 < l.length := by omega
    have HP1 := Lib.hid hpl1
    have HX1 := Lib.hid hx1
    clear hpl1 hx1
    go_wp2_with fail
    refine (plan_yes x1 b _ (by simp [right]; omega)).mono ?_
    rintro e w3 ⟨v3, l3, rfl, hown3, hb3, hpl3⟩
    obtain rfl := HP1.out.uniq hpl3
    have hz3 := hb3.size
    simp only [World.size_alloc] at hz3
    have hL3 : w3.cell? ⟨w2.heap.size, 0, none⟩ = some (.slice (some ⟨g, 0, none⟩) l.length cap) := (hb3.cell (p := ⟨w2.heap.size, 0, none⟩) (by simp)).trans (World.cell?_alloc_at _ _ _ _ rfl)
    have hcell3 : ∀ i x, l[i]? = some x → w3.cell? ⟨g, i, none⟩ = some (.int .i64 x) := fun i x hx =>
      (hb3.cell (p := ⟨g, i, none⟩) (by simp; omega)).trans ((World.cell?_alloc_past _ _ _ hg1).trans (HC.out i x hx))
    have hB3 : Below w.heap.size w w3 := (HB.out.alloc hz _).trans (hb3.mono (by simp; omega))
    have hS3 : Sl w3 v3 ((l.drop 1).map (.int .i64)) := Sl.of_own hown3
    have hS4 : Sl w3 (.slice (some ⟨g, 1, none⟩) (l.length - 1) (cap - 1)) ((l.drop 1).map (.int .i64)) :=
      ⟨some ⟨g, 1, none⟩, cap - 1, by simp, fun _ => ⟨g, 1, rfl, fun i u hu => by
        rw [List.getElem?_map, List.getElem?_drop] at hu
        obtain ⟨z, hz', rfl⟩ := Option.map_eq_some_iff.1 hu
        exact hcell3 _ _ hz'⟩⟩
    have hsame := same_any v3 (.slice (some ⟨g, 1, none⟩) (l.length - 1) (cap - 1)) (l.drop 1) (l.drop 1) w3 hS3 hS4 (by simp; omega)
    rw [show sameB (l.drop 1) (l.drop 1) = true by simp [sameB]] at hsame
    have HS := Lib.hid hsame
    have HC3 := Lib.hid hcell3
    have HB3 := Lib.hid hB3
    have hc1' : ¬ cap = 1 := by omega
    have hc2' : 1 ≤ l.length := by omega
    clear hsame hcell3 hB3 hS3 hS4 hown3 hb3 hpl3 HC HB c1
    go_wp2_with fail
    refine (HS.out).mono ?_
    rintro e w4 ⟨rfl, n4, hw4⟩
    have hL4 : w4.cell? ⟨w2.heap.size, 0, none⟩ = some (.slice (some ⟨g, 0, none⟩) l.length cap) := by rw [hw4]; exact hL3
    have hcell4 : ∀ i x, l[i]? = some x → w4.cell? ⟨g, i, none⟩ = some (.int .i64 x) := by rw [hw4]; exact HC3.out
    have hB4 : Below w.heap.size w w4 := by rw [hw4]; exact below_drewN' HB3.out _
    have hz4 : w2.heap.size + 1 ≤ w4.heap.size := by rw [hw4]; exact hz3
    have HC4 := Lib.hid hcell4
    have HB4 := Lib.hid hB4
    clear hw4 hcell4 hB4 HC3 HB3 HS hL3 hz3 hc1' hc2'
    obtain ⟨k, hk⟩ : ∃ k : Nat, k = c % (l.length + 1) := ⟨_, rfl⟩
    have hkl : k ≤ l.length := by have := Nat.mod_lt c (show 0 < l.length + 1 by omega); omega
    have hkm : (c : Int) % ((l.length : Int) + 1) = (k : Int) := by rw [hk, Int.natCast_emod, Int.natCast_add]; rfl
    have hki : (k : Int) ≤ l.length := by omega
    clear hk
    have hlw : w2.heap.size < w4.heap.size := by omega
    have hgw : g < w4.heap.size := by omega
    have hmf : ∀ (fn : Fn) (first cap : Array Value) (w : World), (Instr.makeFunc fn first cap).run Try.prog w = .ok (.func fn first cap) w := fun _ _ _ _ => rfl
    go_wp2_with fail
    obtain ⟨f0, fl, fr, fs⟩ := HF.out
    have hrise : Rising l := rising_of fr fs
    refine (go15 w4.heap.size w2.heap.size g cap k l _ hlen hpos hkl hrise (fun i x hx => (World.cell?_alloc_past _ _ _ hgw).trans (HC4.out i x hx)) (World.cell?_alloc_at _ _ _ _ rfl) ((World.cell?_alloc_past _ _ _ hlw).trans hL4)).mono ?_
    rintro e w5 ⟨v5, bits, tries, end_, rfl, hb5, ⟨gv, rfl, hgv⟩, hcase⟩
    have hz5 := hb5.size
    simp only [World.size_alloc] at hz5
    have hK5 : w5.cell? ⟨w4.heap.size, 0, none⟩ = some (.int .i64 k) := (hb5.cell (p := ⟨w4.heap.size, 0, none⟩) (by simp)).trans (World.cell?_alloc_at _ _ _ _ rfl)
    have hL5 : w5.cell? ⟨w2.heap.size, 0, none⟩ = some (.slice (some ⟨g, 0, none⟩) l.length cap) := (hb5.cell (p := ⟨w2.heap.size, 0, none⟩) (by simp; omega)).trans ((World.cell?_alloc_past _ _ _ hlw).trans hL4)
    have hcell5 : ∀ i x, l[i]? = some x → w5.cell? ⟨g, i, none⟩ = some (.int .i64 x) := fun i x hx =>
      (hb5.cell (p := ⟨g, i, none⟩) (by simp; omega)).trans ((World.cell?_alloc_past _ _ _ hgw).trans (HC4.out i x hx))
    have hv0 : w5.cell? ⟨gv, 0, none⟩ = some (.int .i64 bits) := hgv.at 0 _ rfl
    have hv1 : w5.cell? ⟨gv, 1, none⟩ = some (.int .i64 (-bits)) := hgv.at 1 _ rfl
    have hgvl := hgv.lt
    have hB5 : Below w.heap.size w w5 := (HB4.out.alloc (by omega) _).trans (hb5.mono (by simp; omega))
    have HB5 := Lib.hid hB5
    have hk5 : w4.heap.size < w5.heap.size := by omega
    have hl5 : w2.heap.size < w5.heap.size := by omega
    have hg5 : g < w5.heap.size := by omega
    clear hB5 hb5 hgv hL4 HC4 HB4 fr fs HF HP HP1 HX1 f0 hz4 hlw hgw
    rcases hcase with ⟨hkl2, hbits, rfl, rfl⟩ | ⟨rfl, hbits, rfl, rfl⟩
    · have ck := hcell5 k bits hbits
      obtain ⟨b0, b1⟩ := hrise.1 k bits hbits
      have hki2 : (k : Int) < l.length := by omega
      have hkne : ((k : Int) == l.length) = false := by simp; omega
      clear hcell5 fl hbits hrise
      go_wp2_with fail
      go_quiet (fail)
      go_wp2_with fail
      go_quiet (fail)
      go_wp2
      go_ret
      exact ⟨rfl, below_drewN' (below_drewN' (HB5.out.alloc HB5.out.size _) _) _⟩
    · obtain ⟨b0, b1⟩ := hrise.1 _ bits hbits
      rw [fl] at hbits
      simp only [Option.some.injEq] at hbits
      subst hbits
      have hkne : ((l.length : Int) == l.length) = true := by simp
      have hlt : decide ((l.length : Int) < l.length) = false := by simp
      clear hcell5 fl hrise
      go_wp2_with fail
      go_quiet (fail)
      go_wp2_with fail
      go_quiet (fail)
      go_wp2
      go_ret
      exact ⟨rfl, below_drewN' (below_drewN' (HB5.out.alloc HB5.out.size _) _) _⟩

theorem walk (w : World) (a0 : Int) (w0 : (Lit.int .u16 a0).wf = true) (a1 : Int) (w1 : (Lit.int .u16 a1).wf = true) (a2 : Int) (w2 : (Lit.int .u8 a2).wf = true) :
    Calls Try.prog 4 #[.int .u16 a0, .int .u16 a1, .int .u8 a2] w fun e w' => e = .returned (.bool true) ∧ Below w.heap.size w w' := by
  obtain ⟨l0, h0⟩ := bounds_u16 w0
  obtain ⟨l1, h1⟩ := bounds_u16 w1
  obtain ⟨l2, h2⟩ := bounds_u8 w2
  obtain ⟨c, rfl⟩ := Int.eq_ofNat_of_zero_le l2
  cases h : right a0 a1
  · exact walk_no a0 a1 c l0 (by omega) l1 (by omega) w h
  · exact walk_yes a0 a1 c (by omega) w h

/-! ### The statement's frame, as the guide's skeleton writes it -/
theorem own : ownKnob Try.prog.godebug = none := by kernel_rfl
set_option linter.unusedVariables false
set_option maxRecDepth 100000 in
theorem lifted (os : Os) (started : os.Started) (H : Type) (enc : TypeId × Value → H) :
    ReturnsInHanded {} Try.checked os 4 .any (Rows.cascadeNumbersSpec.pre6 enc Try.prog Try.f4 Rows.cascadeNumbersRow.domain false) (Rows.cascadeNumbersSpec.post enc Try.prog Try.f4 false true false false) := by
  refine returnsInHanded_of_change (C := Try.checked) own started (by kernel_rfl) Try.func4
    (ChangeSpec.witness6 (enc := enc) (C := Try.checked) false ⟨#[], #[.int .u16 0, .int .u16 0, .int .u8 0], []⟩ 8 (by kernel_rfl) (by kernel_rfl) (by kernel_rfl) (by kernel_rfl)) ?_
  intro W base args ds gs before hval0 hW hcnd _
  have hval : ∀ (j : Nat) t v, Try.f4.params[j]? = some t → args[j]? = some v → Value.okWide Try.prog W .any base t v := hval0
  have hW' := hW
  obtain ⟨p, q, hA0, hV, rfl, hfz, hnd⟩ := hW
  have hA : DataW.TrodAll enc Try.prog W 0 (fun _ => true) true Try.f4.params.toList args.toList ds p := hA0
  rw [Try.params4] at hA hval
  obtain ⟨v0, vs0, d0, ds0, p0, q0, hargs, rfl, rfl, h0, r0⟩ := trodAll_cons hA
  obtain ⟨v1, vs1, d1, ds1, p1, q1, rfl, rfl, rfl, h1, r1⟩ := trodAll_cons r0
  obtain ⟨v2, vs2, d2, ds2, p2, q2, rfl, rfl, rfl, h2, r2⟩ := trodAll_cons r1
  obtain ⟨rfl, rfl, rfl⟩ := trodAll_nil r2
  obtain rfl : args = #[v0, v1, v2] := by cases args; simp_all
  obtain ⟨rfl, rfl⟩ := trodVars_none hV
  obtain ⟨a0, rfl, rfl, rfl, w0⟩ := open_int Try.underlying30 (hval 0 30 v0 rfl rfl) h0
  obtain ⟨a1, rfl, rfl, rfl, w1⟩ := open_int Try.underlying30 (hval 1 30 v1 rfl rfl) h1
  obtain ⟨a2, rfl, rfl, rfl, w2⟩ := open_int Try.underlying5 (hval 2 5 v2 rfl rfl) h2
  clear hA0 hval0
  refine (walk W a0 w0 a1 w1 a2 w2).mono fun e W' ⟨he, bel⟩ => ?_
  subst he
  exact ⟨_, rfl, _, _, _, [], _, [], hW', trodAll_mk1 (shut_bool Try.underlying4 _), (trodAll_cons_mk (shut_int Try.underlying30 w0) (trodAll_cons_mk (shut_int Try.underlying30 w1) (trodAll_cons_mk (shut_int Try.underlying5 w2) trodAll_mk0))), rfl, bel.frame _, fun h => by cases h⟩

theorem over : Rows.cascadeNumbersRow.holds Try.pinned (OpenSpec.ofChange Rows.cascadeNumbersSpec) :=
  OpenClaim.holds_of_wide 4 Try.f4 rfl rfl rfl rfl rfl rfl rfl ⟨rfl, rfl, rfl, rfl, rfl⟩ rfl rfl rfl rfl rfl (by kernel_rfl) Try.func4 (by kernel_rfl)
    (of_decide_eq_true (by kernel_rfl)) (by unfold Func.isWrapper; first | (rw [if_pos (by decide +kernel)]; kernel_rfl) | (rw [if_neg (by decide +kernel)]; exact ⟨rfl, rfl⟩))
    (fun os started H enc _ => lifted os started H enc)

theorem proved : Rows.CascadeNumbersSaid := over
#print axioms proved
end Go.Proofs.Ytpofnljcjoplnaa.cascadeNumbers
