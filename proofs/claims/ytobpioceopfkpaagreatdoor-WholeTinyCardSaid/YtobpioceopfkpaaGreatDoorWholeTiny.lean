/-
  WholeTiny returns true, whatever its arguments; the listed table is tied to the program's text.
-/
import Derived.Test.YtobpioceopfkpaaGreatDoorM26
import Derived.Test.YtobpioceopfkpaaGreatDoorM31
import Derived.Test.YtobpioceopfkpaaGreatDoorTie
import Derived.Test.YtobpioceopfkpaaGreatDoorCards
import Derived.SevenTiedAt
namespace Go.Proofs.YtobpioceopfkpaaGreatDoor.wholeTiny
open Go.ChangeShapes Go.WideShapes Go.ChangeAt Go.RowKit

theorem walk (w : World) (t : Tab w) (a0 : Int) (w0 : (Lit.int .u64 a0).wf = true) (a1 : Int) (w1 : (Lit.int .u16 a1).wf = true) (a2 : Int) (w2 : (Lit.int .u64 a2).wf = true) (a3 : Bool) (a4 : Int) (w4 : (Lit.int .u8 a4).wf = true) :
    Calls Tryz.prog 6 #[.int .u64 a0, .int .u16 a1, .int .u64 a2, .bool a3, .int .u8 a4] w fun e w' => e = .returned (.bool true) ∧ Below w.heap.size w w' := by
  simp only [Lit.wf, IntKind.min, IntKind.max, IntKind.signed, IntKind.bits, Bool.and_eq_true] at w0 w1 w2 w4
  obtain ⟨x, rfl⟩ : ∃ x : Nat, a0 = (x : Int) := ⟨a0.toNat, by simp at w0; omega⟩
  obtain ⟨e, rfl⟩ : ∃ x : Nat, a1 = (x : Int) := ⟨a1.toNat, by simp at w1; omega⟩
  obtain ⟨fr, rfl⟩ : ∃ x : Nat, a2 = (x : Int) := ⟨a2.toNat, by simp at w2; omega⟩
  obtain ⟨d, rfl⟩ : ∃ x : Nat, a4 = (x : Int) := ⟨a4.toNat, by simp at w4; omega⟩
  have hx : x < 18446744073709551616 := by simp at w0; omega
  have he : e < 65536 := by simp at w1; omega
  have hf : fr < 18446744073709551616 := by simp at w2; omega
  by_cases h : fld x < 2047 ∧ sgn x = false ∧ x ≠ 0 ∧ x ≠ 4607182418800017408
  · exact Tiny_go t hx he hf a3 (fun _ t => alive_r t) h.1 h.2.1 h.2.2.1 h.2.2.2
  · refine Tiny_skip t hx a3 (fun _ t => alive_r t) ?_
    by_cases h1 : fld x < 2047
    · by_cases h2 : sgn x = false
      · by_cases h3 : x = 0
        · exact .inr (.inr (.inl h3))
        · by_cases h4 : x = 4607182418800017408
          · exact .inr (.inr (.inr h4))
          · exact absurd ⟨h1, h2, h3, h4⟩ h
      · exact .inr (.inl (by cases hh : sgn x; exact absurd hh h2; rfl))
    · exact .inl h1

set_option linter.unusedVariables false
set_option maxRecDepth 100000 in
theorem lifted (os : Os) (started : os.Started) (H : Type) (enc : TypeId × Value → H) :
    ReturnsInHanded {} Tryz.checked os 6 .any (fun w args => (Rows.wholeTinySpec.pre enc Tryz.prog Tryz.f6 [] false w args ∧ laidMetH Tryz.prog laidT w) ∧ sizedMet enc Tryz.prog Tryz.f6 (OpenSpec.ofChange Rows.wholeTinySpec) false w args)
      (Rows.wholeTinySpec.post enc Tryz.prog Tryz.f6 false true false false) := by
  refine returnsInHanded_of_change_and (C := Tryz.checked) (X := fun w _ => laidMetH Tryz.prog laidT w) (fun _ _ _ hh h => h.of_heap hh) ownT started (by kernel_rfl) Tryz.func6
    (ChangeSpec.witness_shaped (enc := enc) (C := Tryz.checked) (os := os) (X := fun w _ => laidMetH Tryz.prog laidT w) false (World.doorLaid Tryz.prog 400 os) #[.int .u64 0, .int .u16 0, .int .u64 0, .bool false, .int .u8 0] 8 rfl (World.shaped_of_RefB (by kernel_rfl) (by kernel_rfl)) (by kernel_rfl) (by kernel_rfl) (by kernel_rfl) (door_met os _)) ?_
  intro W base args ds gs before hval0 hW _ _ hL _
  have hval : ∀ (j : Nat) t v, Tryz.f6.params[j]? = some t → args[j]? = some v → Value.okWide Tryz.prog W .any base t v := hval0
  have hW' := hW
  obtain ⟨p, q, hA0, hV, rfl, hfz, hnd⟩ := hW
  have hA : DataW.TrodAll enc Tryz.prog W 0 (fun _ => true) true Tryz.f6.params.toList args.toList ds p := hA0
  rw [Tryz.params6] at hA hval
  obtain ⟨v0, vs0, d0, ds0, p0, q0, hargs, rfl, rfl, h0, r0⟩ := trodAll_cons hA
  obtain ⟨v1, vs1, d1, ds1, p1, q1, rfl, rfl, rfl, h1, r1⟩ := trodAll_cons r0
  obtain ⟨v2, vs2, d2, ds2, p2, q2, rfl, rfl, rfl, h2, r2⟩ := trodAll_cons r1
  obtain ⟨v3, vs3, d3, ds3, p3, q3, rfl, rfl, rfl, h3, r3⟩ := trodAll_cons r2
  obtain ⟨v4, vs4, d4, ds4, p4, q4, rfl, rfl, rfl, h4, r4⟩ := trodAll_cons r3
  obtain ⟨rfl, rfl, rfl⟩ := trodAll_nil r4
  obtain rfl : args = #[v0, v1, v2, v3, v4] := by cases args; simp_all
  obtain ⟨rfl, rfl⟩ := trodVars_none hV
  obtain ⟨a0, rfl, rfl, rfl, w0⟩ := open_int Tryz.underlying22 (hval 0 22 v0 rfl rfl) h0
  obtain ⟨a1, rfl, rfl, rfl, w1⟩ := open_int Tryz.underlying50 (hval 1 50 v1 rfl rfl) h1
  obtain ⟨a2, rfl, rfl, rfl, w2⟩ := open_int Tryz.underlying22 (hval 2 22 v2 rfl rfl) h2
  obtain ⟨a3, rfl, rfl, rfl⟩ := open_bool Tryz.underlying4 (hval 3 4 v3 rfl rfl) h3
  obtain ⟨a4, rfl, rfl, rfl, w4⟩ := open_int Tryz.underlying5 (hval 4 5 v4 rfl rfl) h4
  clear hA0 hval0
  simp only [List.append_nil] at hW'
  refine (walk W (tab_of_laid hL) a0 w0 a1 w1 a2 w2 a3 a4 w4).mono fun e W' ⟨he, bel⟩ => ?_
  subst he
  exact ⟨_, rfl, _, _, _, [], _, [], hW', trodAll_mk1 (shut_bool Tryz.underlying4 _), (trodAll_cons_mk (shut_int Tryz.underlying22 w0) (trodAll_cons_mk (shut_int Tryz.underlying50 w1) (trodAll_cons_mk (shut_int Tryz.underlying22 w2) (trodAll_cons_mk (shut_bool Tryz.underlying4 a3) (trodAll_cons_mk (shut_int Tryz.underlying5 w4) trodAll_mk0))))), rfl, bel.frame _, fun h => by cases h⟩

theorem over : Rows.wholeTinyRow.holds Tryz.pinned (OpenSpec.ofChange Rows.wholeTinySpec) :=
  OpenClaim.holds_of_wide 6 Tryz.f6 rfl rfl rfl rfl rfl rfl rfl ⟨rfl, rfl, rfl, rfl, rfl⟩ rfl rfl rfl rfl rfl (by kernel_rfl) Tryz.func6 (by kernel_rfl)
    (of_decide_eq_true (by kernel_rfl)) (by unfold Func.isWrapper; first | (rw [if_pos (by decide +kernel)]; kernel_rfl) | (rw [if_neg (by decide +kernel)]; exact ⟨rfl, rfl⟩))
    (fun os started H enc _ => lifted os started H enc)

theorem proved : Rows.WholeTinyCardSaid :=
  Claim7.holds_tied_plain_at .later [] [.data] true (true, "ae838f335373304e1185b5c1dc01eb00db6236a9c5023a181eaeb815c0483d22") false
    over (fun _ h => by cases h) (by kernel_rfl) (fun _ h => by cases h) wholeTiny_row_tie rfl ⟨rfl, rfl⟩ (by kernel_rfl) rfl
    (fun f fn hf hfn => by
      obtain rfl : f = 6 := Option.some.inj ((show Tryz.prog.funcNamed "planimeter/planimetertop.WholeTiny" = some 6 by kernel_rfl).symm.trans hf) |>.symm
      obtain rfl : fn = Tryz.f6 := (Option.some.inj (Tryz.func6.symm.trans hfn)).symm
      exact ⟨by kernel_rfl, fun j t ht => by
        rw [Tryz.params6] at ht
        have h3 : t = 4 ∨ t = 5 ∨ t = 22 ∨ t = 50 := by
          rcases j with _ | j
          · simp at ht; subst ht; decide
          rcases j with _ | j
          · simp at ht; subst ht; decide
          rcases j with _ | j
          · simp at ht; subst ht; decide
          rcases j with _ | j
          · simp at ht; subst ht; decide
          rcases j with _ | j
          · simp at ht; subst ht; decide
          simp at ht
        rcases h3 with rfl | rfl | rfl | rfl
        · exact (show Tryz.prog.wantsStandIn 4 = false by kernel_rfl)
        · exact (show Tryz.prog.wantsStandIn 5 = false by kernel_rfl)
        · exact (show Tryz.prog.wantsStandIn 22 = false by kernel_rfl)
        · exact (show Tryz.prog.wantsStandIn 50 = false by kernel_rfl)
      ⟩)
    (by kernel_rfl)

end Go.Proofs.YtobpioceopfkpaaGreatDoor.wholeTiny
