/-
  DdTurned returns true, whatever its two words.
-/
import Derived.Test.YtbknkcfnhfolpaaSafe
namespace Go.Proofs.Ytbknkcfnhfolpaa.ddTurned
open Go.ChangeShapes Go.WideShapes Go.ChangeAt Go.RowKit Rn

set_option maxHeartbeats 1000000 in
theorem walk_no (a b : Nat) (ha : a < 2 ^ 64) (hb : b < 2 ^ 64) (w : World) (h : ¬ (safeB a = true ∧ safeB b = true)) :
    Calls Try.prog 5 #[.int .u64 a, .int .u64 b] w fun e w' => e = .returned (.bool true) ∧ Below w.heap.size w w' := by
  have s1 := fun w => safe_is ha w
  have s2 := fun w => safe_is hb w
  clear ha hb
  generalize safeB a = p at *
  generalize safeB b = q at *
  go_enter Try.func5, Try.ntmps5
  go_wp2_with fail
  refine (alive_is _).mono ?_
  rintro e w1 ⟨rfl, hb1⟩
  go_wp2_with fail
  refine (s1 _).mono ?_
  rintro e w2 ⟨rfl, rfl⟩
  cases p with
  | false =>
    clear s1 s2 h
    go_wp2
    go_ret
    exact ⟨rfl, hb1⟩
  | true =>
    obtain rfl : q = false := by cases q <;> simp_all
    go_wp2_with fail
    refine (s2 _).mono ?_
    rintro e w2 ⟨rfl, rfl⟩
    clear s1 s2 h
    go_wp2
    go_ret
    exact ⟨rfl, hb1⟩

set_option maxHeartbeats 4000000 in
theorem walk_yes (x y : Nat) (ha : x < 2 ^ 64) (hb : y < 2 ^ 64) (w : World) (hp : safeB x = true) (hq : safeB y = true) :
    Calls Try.prog 5 #[.int .u64 x, .int .u64 y] w fun e w' => e = .returned (.bool true) ∧ Below w.heap.size w w' := by
  obtain ⟨m, d, hx⟩ := safe_val ha hp
  obtain ⟨n, e, hy⟩ := safe_val hb hq
  obtain ⟨s, r, t, u, p, q, a, b, c, k, g, h, i, j, T⟩ := turned hx hy
  have s1 := fun w => safe_is ha w
  have s2 := fun w => safe_is hb w
  rw [hp] at s1; rw [hq] at s2
  have e1 : (FloatKind.f64.format.order s (Op.negFloat .f64 t) == some .eq) = true := T.e1
  have e2 : (FloatKind.f64.format.order r (Op.negFloat .f64 u) == some .eq) = true := T.e2
  have e3 : (FloatKind.f64.format.order s p == some .eq) = true := T.e3
  have e4 : (FloatKind.f64.format.order r q == some .eq) = true := T.e4
  have e5 : (FloatKind.f64.format.order a x == some .eq) = true := T.e5
  have e6 : (FloatKind.f64.format.order b 0 == some .eq) = true := T.e6
  have e7 : (FloatKind.f64.format.order c x == some .eq) = true := T.e7
  have e8 : (FloatKind.f64.format.order k 0 == some .eq) = true := T.e8
  have e9 : (FloatKind.f64.format.order g (Op.negFloat .f64 i) == some .eq) = true := T.e9
  have e10 : (FloatKind.f64.format.order h (Op.negFloat .f64 j) == some .eq) = true := T.e10
  clear ha hb hp hq hx hy
  go_enter Try.func5, Try.ntmps5
  go_wp2_with fail
  refine (alive_is _).mono ?_
  rintro e w1 ⟨rfl, hb1⟩
  go_wp2_with fail
  refine (s1 _).mono ?_
  rintro e w2 ⟨rfl, rfl⟩
  go_wp2_with fail
  refine (s2 _).mono ?_
  rintro e w2 ⟨rfl, rfl⟩
  clear s1 s2
  go_wp2_with fail
  refine (T.sum _).mono ?_
  rintro e w2 ⟨rfl, hb2⟩
  unfold pr
  go_wp2_with fail
  refine (T.nsum _).mono ?_
  rintro e w3 ⟨rfl, hb3⟩
  unfold pr
  go_wp2_with fail
  have B3 := hb1.trans (hb2.mono hb1.size)
  have B3 := B3.trans (hb3.mono B3.size)
  refine (T.rsum _).mono ?_
  rintro e w4 ⟨rfl, hb4⟩
  unfold pr
  clear hb1 hb2 hb3
  obtain ⟨k1, k2, B4, z4, -⟩ := new2 B3 B3.size hb4
  clear hb4 B3
  go_wp2_with fail
  refine (T.prod _).mono ?_
  rintro e w5 ⟨rfl, hb5⟩
  unfold pr
  have k1 := k1.below hb5
  have k2 := k2.below hb5
  have B5 := B4.trans (hb5.mono B4.size)
  have z5 := Nat.lt_of_lt_of_le z4 hb5.size
  clear hb5 B4 z4
  go_wp2_with fail
  refine (T.zsum _).mono ?_
  rintro e w6 ⟨rfl, hb6⟩
  unfold pr
  obtain ⟨k3, k4, B6, z6, hb⟩ := new2 B5 B5.size hb6
  have k1 := k1.below hb
  have k2 := k2.below hb
  clear hb6 hb B5
  go_wp2_with fail
  refine (T.nsplit _).mono ?_
  rintro e w7 ⟨rfl, hb7⟩
  unfold pr
  have k1 := k1.below hb7
  have k2 := k2.below hb7
  have k3 := k3.below hb7
  have k4 := k4.below hb7
  have B7 := B6.trans (hb7.mono B6.size)
  clear hb7 B6
  go_wp2_with fail
  refine (T.split _).mono ?_
  rintro e w8 ⟨rfl, hb8⟩
  unfold pr
  obtain ⟨k5, k6, B8, z8, hb⟩ := new2 B7 B7.size hb8
  have k1 := k1.below hb
  have k2 := k2.below hb
  have k3 := k3.below hb
  have k4 := k4.below hb
  clear hb8 hb B7 T z5 z6
  have y1 := k1.lt
  have y2 := k2.lt
  have y3 := k3.lt
  have y4 := k4.lt
  have y5 := k5.lt
  have y6 := k6.lt
  have c1 := k1.at 0 (.float .f64 s) rfl
  have c2 := k1.at 1 (.float .f64 r) rfl
  have c3 := k2.at 0 (.float .f64 t) rfl
  have c4 := k2.at 1 (.float .f64 u) rfl
  have c5 := k3.at 0 (.float .f64 p) rfl
  have c6 := k3.at 1 (.float .f64 q) rfl
  have c7 := k4.at 0 (.float .f64 a) rfl
  have c8 := k4.at 1 (.float .f64 b) rfl
  have c9 := k5.at 0 (.float .f64 c) rfl
  have c10 := k5.at 1 (.float .f64 k) rfl
  have c11 := k6.at 0 (.float .f64 g) rfl
  have c12 := k6.at 1 (.float .f64 h) rfl
  have HB := Lib.hid B8
  clear k1 k2 k3 k4 k5 k6 B8 z8
  go_wp2
  go_ret
  exact ⟨rfl, HB.out.alloc HB.out.size _⟩

theorem walk (a0 : Int) (w0 : (Lit.int .u64 a0).wf = true) (a1 : Int) (w1 : (Lit.int .u64 a1).wf = true) (w : World) :
    Calls Try.prog 5 #[.int .u64 a0, .int .u64 a1] w fun e w' => e = .returned (.bool true) ∧ Below w.heap.size w w' := by
  obtain ⟨p0, q0⟩ := u64_of_wf w0
  obtain ⟨p1, q1⟩ := u64_of_wf w1
  obtain ⟨n0, rfl⟩ := Int.eq_ofNat_of_zero_le p0
  obtain ⟨n1, rfl⟩ := Int.eq_ofNat_of_zero_le p1
  by_cases h : safeB n0 = true ∧ safeB n1 = true
  · exact walk_yes n0 n1 (by omega) (by omega) w h.1 h.2
  · exact walk_no n0 n1 (by omega) (by omega) w h

/-! ### The statement's frame, as the guide's skeleton writes it -/
theorem own : ownKnob Try.prog.godebug = none := by kernel_rfl
set_option linter.unusedVariables false
set_option maxRecDepth 100000 in
theorem lifted (os : Os) (started : os.Started) (H : Type) (enc : TypeId × Value → H) :
    ReturnsInHanded {} Try.checked os 5 .any (Rows.ddTurnedSpec.pre6 enc Try.prog Try.f5 Rows.ddTurnedRow.domain false) (Rows.ddTurnedSpec.post enc Try.prog Try.f5 false true false false) := by
  refine returnsInHanded_of_change (C := Try.checked) own started (by kernel_rfl) Try.func5
    (ChangeSpec.witness6 (enc := enc) (C := Try.checked) false ⟨#[], #[.int .u64 0, .int .u64 0], []⟩ 8 (by kernel_rfl) (by kernel_rfl) (by kernel_rfl) (by kernel_rfl)) ?_
  intro W base args ds gs before hval0 hW hcnd _
  have hval : ∀ (j : Nat) t v, Try.f5.params[j]? = some t → args[j]? = some v → Value.okWide Try.prog W .any base t v := hval0
  have hW' := hW
  obtain ⟨p, q, hA0, hV, rfl, hfz, hnd⟩ := hW
  have hA : DataW.TrodAll enc Try.prog W 0 (fun _ => true) true Try.f5.params.toList args.toList ds p := hA0
  rw [Try.params5] at hA hval
  obtain ⟨v0, vs0, d0, ds0, p0, q0, hargs, rfl, rfl, h0, r0⟩ := trodAll_cons hA
  obtain ⟨v1, vs1, d1, ds1, p1, q1, rfl, rfl, rfl, h1, r1⟩ := trodAll_cons r0
  obtain ⟨rfl, rfl, rfl⟩ := trodAll_nil r1
  obtain rfl : args = #[v0, v1] := by cases args; simp_all
  obtain ⟨rfl, rfl⟩ := trodVars_none hV
  obtain ⟨a0, rfl, rfl, rfl, w0⟩ := open_int Try.underlying22 (hval 0 22 v0 rfl rfl) h0
  obtain ⟨a1, rfl, rfl, rfl, w1⟩ := open_int Try.underlying22 (hval 1 22 v1 rfl rfl) h1
  clear hA0 hval0
  refine (walk a0 w0 a1 w1 W).mono fun e W' ⟨he, bel⟩ => ?_
  subst he
  exact ⟨_, rfl, _, _, _, [], _, [], hW', trodAll_mk1 (shut_bool Try.underlying4 _), (trodAll_cons_mk (shut_int Try.underlying22 w0) (trodAll_cons_mk (shut_int Try.underlying22 w1) trodAll_mk0)), rfl, bel.frame _, fun h => by cases h⟩

theorem over : Rows.ddTurnedRow.holds Try.pinned (OpenSpec.ofChange Rows.ddTurnedSpec) :=
  OpenClaim.holds_of_wide 5 Try.f5 rfl rfl rfl rfl rfl rfl rfl ⟨rfl, rfl, rfl, rfl, rfl⟩ rfl rfl rfl rfl rfl (by kernel_rfl) Try.func5 (by kernel_rfl)
    (of_decide_eq_true (by kernel_rfl)) (by unfold Func.isWrapper; first | (rw [if_pos (by decide +kernel)]; kernel_rfl) | (rw [if_neg (by decide +kernel)]; exact ⟨rfl, rfl⟩))
    (fun os started H enc _ => lifted os started H enc)

theorem proved : Rows.DdTurnedSaid := over
#print axioms proved
end Go.Proofs.Ytbknkcfnhfolpaa.ddTurned
