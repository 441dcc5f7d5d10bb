/-
  DdSums returns true, whatever its two words.
-/
import Derived.Test.YtbknkcfnhfolpaaDt
set_option exponentiation.threshold 9000
namespace Go.Proofs.Ytbknkcfnhfolpaa.ddSums
open Go.ChangeShapes Go.WideShapes Go.ChangeAt Go.RowKit Rn

theorem size_any {b : Nat} (w : World) : Calls Try.prog 26 #[.int .u64 b] w fun q w' => q = .returned (.int .u64 ((b % 9223372036854775808 : Nat) : Int)) ∧ w = w' := by
  have h : ((b : Int) % 9223372036854775808) = ((b % 9223372036854775808 : Nat) : Int) := by omega
  have H := Lib.hid h
  clear h
  go_enter Try.func26, Try.ntmps26
  go_wp2
  go_ret
  exact ⟨ret_eq (by rw [← H.out]; rfl), rfl⟩

set_option maxHeartbeats 2000000 in
theorem walk_no (a b : Nat) (ha : a < 2 ^ 64) (hb : b < 2 ^ 64) (w : World) (h : ¬ (safeB a = true ∧ safeB b = true)) :
    Calls Try.prog 6 #[.int .u64 a, .int .u64 b] w fun e w' => e = .returned (.bool true) ∧ Below w.heap.size w w' := by
  have s1 := Lib.hid (fun w => safe_is ha w)
  have s2 := Lib.hid (fun w => safe_is hb w)
  have r1 := Lib.hid (fun w => safe09_any ha w)
  have r2 := Lib.hid (fun w => safe09_any hb w)
  clear ha hb
  generalize safeB a = p at *
  generalize safeB b = q at *
  have hpp : (p != p) = false := by simp
  have hqq : (q != q) = false := by simp
  have HH := Lib.hid h
  clear h
  go_enter Try.func6, Try.ntmps6
  go_wp2_with fail
  refine (alive_is _).mono ?_
  rintro e w1 ⟨rfl, hb1⟩
  have B1 := Lib.hid hb1
  clear hb1
  go_wp2_with fail
  refine (s1.out _).mono ?_
  rintro e w2 ⟨rfl, rfl⟩
  go_wp2_with fail
  refine (r1.out _).mono ?_
  rintro e w2 ⟨rfl, hb2⟩
  have B2 := Lib.hid (B1.out.trans (hb2.mono B1.out.size))
  clear hb2
  go_wp2_with fail
  refine (s2.out _).mono ?_
  rintro e w3 ⟨rfl, rfl⟩
  go_wp2_with fail
  refine (r2.out _).mono ?_
  rintro e w3 ⟨rfl, hb3⟩
  have B3 := Lib.hid (B2.out.trans (hb3.mono B2.out.size))
  clear hb3
  go_wp2_with fail
  refine (r1.out _).mono ?_
  rintro e w4 ⟨rfl, hb4⟩
  have B4 := Lib.hid (B3.out.trans (hb4.mono B3.out.size))
  clear hb4
  cases p with
  | false =>
    clear s1 s2 r1 r2 HH
    go_wp2
    go_ret
    exact ⟨rfl, B4.out⟩
  | true =>
    obtain rfl : q = false := by have := HH.out; cases q <;> simp_all
    go_wp2_with fail
    refine (r2.out _).mono ?_
    rintro e w5 ⟨rfl, hb5⟩
    have B5 := Lib.hid (B4.out.trans (hb5.mono B4.out.size))
    clear s1 s2 r1 r2 hb5 HH
    go_wp2
    go_ret
    exact ⟨rfl, B5.out⟩

set_option maxRecDepth 100000 in
set_option maxHeartbeats 8000000 in
theorem walk_yes (x y : Nat) (ha : x < 2 ^ 64) (hb : y < 2 ^ 64) (w : World) (hp : safeB x = true) (hq : safeB y = true) :
    Calls Try.prog 6 #[.int .u64 x, .int .u64 y] w fun e w' => e = .returned (.bool true) ∧ Below w.heap.size w w' := by
  obtain ⟨m, d, hx⟩ := safe_val ha hp
  obtain ⟨n, e, hy⟩ := safe_val hb hq
  have hwx := hx.within.up (j := 2090) (by omega)
  have hwy := hy.within.up (j := 2090) (by omega)
  rw [← hx.val] at hwx
  rw [← hy.val] at hwy
  have hA : (val x + val y).natAbs ≤ 2 ^ 2097 := (hwx.add hwy).up (by omega)
  have s1 : Hid (∀ w, Calls Try.prog 25 #[.int .u64 x] w fun e w' => e = .returned (.bool true) ∧ w = w') := fun w => hp ▸ safe_is ha w
  have s2 : Hid (∀ w, Calls Try.prog 25 #[.int .u64 y] w fun e w' => e = .returned (.bool true) ∧ w = w') := fun w => hq ▸ safe_is hb w
  have r1 : Hid (∀ w, Calls Try.prog 8 #[.int .u64 x] w fun e w' => e = .returned (.bool true) ∧ Below w.heap.size w w') := fun w => hp ▸ safe09_any ha w
  have r2 : Hid (∀ w, Calls Try.prog 8 #[.int .u64 y] w fun e w' => e = .returned (.bool true) ∧ Below w.heap.size w w') := fun w => hq ▸ safe09_any hb w
  have W1 : Hid (∀ w, Calls Try.prog 11 #[.float .f64 x] w (RetNO (val x * 2 ^ 4926) (-1074) w)) := fun w => lworth_any ha w
  have W2 : Hid (∀ w, Calls Try.prog 11 #[.float .f64 y] w (RetNO (val y * 2 ^ 4926) (-1074) w)) := fun w => lworth_any hb w
  have CA : Hid (∀ w u t, NO w u (val x * 2 ^ 4926) (-1074) → NO w t (val y * 2 ^ 4926) (-1074) → Calls Try.prog 20 #[u, t] w (RetNZ ((val x + val y) * 2 ^ 4926) (-1074) w)) := fun w u t h1 h2 => by
    rw [Int.add_mul]; exact add_any' h1.nz h2.nz (by omega) (bz_val hx.num) (bz_val hy.num)
  have CN : Hid (∀ c w u, Num c → val c = rn (val x + val y) → NZ w u ((val x + val y) * 2 ^ 4926) (-1074) → Calls Try.prog 17 #[.float .f64 c, u] w fun q w' => q = .returned (.bool true) ∧ Below w.heap.size w w') := fun c w u h1 h2 h3 => by
    obtain ⟨n', m', e', a1, a2, a3⟩ := h3
    exact nearest_any (lo := -1075) ⟨n', m', e', a1, by omega, a3⟩ (by omega) (by omega) hA h1 h2
  have CW : Hid (∀ s r w u, Num s → Num r → val s + val r = val x + val y → NZ w u ((val x + val y) * 2 ^ 4926) (-1074) → Calls Try.prog 12 #[.agg #[.float .f64 s, .float .f64 r], u] w fun q w' => q = .returned (.bool true) ∧ Below w.heap.size w w') := fun s r w u h1 h2 h3 h4 =>
    whole_any h4 (by omega) (by omega) h1 h2 (by rw [h3])
  obtain ⟨s, r, CS, ns, nr, vs, vr⟩ := sum_is hx.num hy.num rfl rfl hwx hwy
  have CN1 : Hid (∀ w u, NZ w u ((val x + val y) * 2 ^ 4926) (-1074) → Calls Try.prog 17 #[.float .f64 s, u] w fun q w' => q = .returned (.bool true) ∧ Below w.heap.size w w') := fun w u h => CN.out s w u ns vs h
  have CW1 : Hid (∀ w u, NZ w u ((val x + val y) * 2 ^ 4926) (-1074) → Calls Try.prog 12 #[.agg #[.float .f64 s, .float .f64 r], u] w fun q w' => q = .returned (.bool true) ∧ Below w.heap.size w w') := fun w u h => CW.out s r w u ns nr (by rw [vs, vr]; omega) h
  have hQ : y % 9223372036854775808 ≤ x % 9223372036854775808 → Hid (∃ s r, (∀ w, Calls Try.prog 27 #[.float .f64 x, .float .f64 y] w fun e w' => e = .returned (pr s r) ∧ Below w.heap.size w w') ∧
      (∀ w u, NZ w u ((val x + val y) * 2 ^ 4926) (-1074) → Calls Try.prog 17 #[.float .f64 s, u] w fun q w' => q = .returned (.bool true) ∧ Below w.heap.size w w') ∧
      (∀ w u, NZ w u ((val x + val y) * 2 ^ 4926) (-1074) → Calls Try.prog 12 #[.agg #[.float .f64 s, .float .f64 r], u] w fun q w' => q = .returned (.bool true) ∧ Below w.heap.size w w')) := fun h => by
    obtain ⟨s, r, CS, ns, nr, vs, vr⟩ := quick_is hx.num hy.num rfl rfl hwx hwy (by rw [natAbs_val, natAbs_val]; exact magn_le h)
    exact ⟨s, r, CS, fun w u h => CN.out s w u ns vs h, fun w u h => CW.out s r w u ns nr (by rw [vs, vr]; omega) h⟩
  have Z1 := Lib.hid (fun w => size_any (b := x) w)
  have Z2 := Lib.hid (fun w => size_any (b := y) w)
  generalize x % 9223372036854775808 = sx at hQ Z1 Z2
  generalize y % 9223372036854775808 = sy at hQ Z1 Z2
  have HQ := Lib.hid hQ
  have HS := Lib.hid CS
  clear ha hb hp hq hx hy hwx hwy hA CN CW ns nr vs vr hQ CS
  generalize (val x + val y) * 2 ^ 4926 = Z at *
  generalize val x * 2 ^ 4926 = ZX at *
  generalize val y * 2 ^ 4926 = ZY at *
  go_enter Try.func6, Try.ntmps6
  go_wp2_with fail
  refine (alive_is _).mono ?_
  rintro e w1 ⟨rfl, hb⟩
  have B := Lib.hid hb
  clear hb
  go_wp2_with fail
  refine (s1.out _).mono ?_
  rintro e w2 ⟨rfl, rfl⟩
  go_wp2_with fail
  refine (r1.out _).mono ?_
  rintro e w2 ⟨rfl, hb⟩
  have B' := Lib.hid (B.out.trans (hb.mono B.out.size))
  clear hb B
  have B := B'
  clear B'
  go_wp2_with fail
  refine (s2.out _).mono ?_
  rintro e w2 ⟨rfl, rfl⟩
  go_wp2_with fail
  refine (r2.out _).mono ?_
  rintro e w2 ⟨rfl, hb⟩
  have B' := Lib.hid (B.out.trans (hb.mono B.out.size))
  clear hb B
  have B := B'
  clear B'
  go_wp2_with fail
  refine (r1.out _).mono ?_
  rintro e w2 ⟨rfl, hb⟩
  have B' := Lib.hid (B.out.trans (hb.mono B.out.size))
  clear hb B
  have B := B'
  clear B'
  go_wp2_with fail
  refine (r2.out _).mono ?_
  rintro e w2 ⟨rfl, hb⟩
  have B' := Lib.hid (B.out.trans (hb.mono B.out.size))
  clear hb B
  have B := B'
  clear B'
  clear s1 s2 r1 r2
  go_wp2_with fail
  refine (W1.out _).mono ?_
  rintro e w2 ⟨u1, rfl, hu1, hb⟩
  have B' := Lib.hid (B.out.trans (hb.mono B.out.size))
  clear hb B
  have B := B'
  clear B'
  go_wp2_with fail
  refine (W2.out _).mono ?_
  rintro e w3 ⟨u2, rfl, hu2, hb⟩
  have hu1' := hu1.below hb
  have B' := Lib.hid (B.out.trans (hb.mono B.out.size))
  clear hb B
  have B := B'
  clear B'
  go_wp2_with fail
  refine (CA.out _ _ _ hu1' hu2).mono ?_
  rintro e w4 ⟨u, rfl, hu, hb⟩
  have B' := Lib.hid (B.out.trans (hb.mono B.out.size))
  clear hb B
  have B := B'
  clear B'
  clear hu1 hu1' hu2 W1 W2 CA
  obtain ⟨ng, a, k, c, ee, rfl⟩ := hu.form
  have HU := Lib.hid (hu.alloc (.cells #[.bool ng, .slice a k c, .int .i64 ee] 32))
  have BB := Lib.hid (B.out.alloc B.out.size (.cells #[.bool ng, .slice a k c, .int .i64 ee] 32))
  have hN := Blk.new w4 32 #[.bool ng, .slice a k c, .int .i64 ee]
  have HN := Lib.hid hN
  clear hN hu B
  go_wp2_with fail
  refine (HS.out _).mono ?_
  rintro e w5 ⟨rfl, hb⟩
  unfold pr
  have HU5 := Lib.hid ((HU.out.below hb).alloc (.cells #[.float .f64 s, .float .f64 r] 28))
  have B5 := Lib.hid ((BB.out.trans (hb.mono BB.out.size)).alloc (BB.out.trans (hb.mono BB.out.size)).size (.cells #[.float .f64 s, .float .f64 r] 28))
  have HN5 := Lib.hid (Blk.alloc (HN.out.below hb) (.cells #[.float .f64 s, .float .f64 r] 28))
  have HP5 := Lib.hid (Blk.new w5 28 #[.float .f64 s, .float .f64 r])
  clear hb HU BB HN HS
  have n0 := (HN5.out).at 0 (.bool ng) rfl
  have n1 := (HN5.out).at 1 (.slice a k c) rfl
  have n2 := (HN5.out).at 2 (.int .i64 ee) rfl
  go_wp2_with fail
  refine (CN1.out _ _ HU5.out).mono ?_
  rintro e w6 ⟨rfl, hb⟩
  have HU6 := Lib.hid (HU5.out.below hb)
  have B6 := Lib.hid (B5.out.trans (hb.mono B5.out.size))
  have HN6 := Lib.hid (HN5.out.below hb)
  have HP6 := Lib.hid (HP5.out.below hb)
  clear hb HU5 B5 HN5 HP5 n0 n1 n2
  have n0 := (HN6.out).at 0 (.bool ng) rfl
  have n1 := (HN6.out).at 1 (.slice a k c) rfl
  have n2 := (HN6.out).at 2 (.int .i64 ee) rfl
  have p0 := (HP6.out).at 0 (.float .f64 s) rfl
  have p1 := (HP6.out).at 1 (.float .f64 r) rfl
  go_wp2_with fail
  refine (CW1.out _ _ HU6.out).mono ?_
  rintro e w7 ⟨rfl, hb⟩
  have HU7 := Lib.hid (HU6.out.below hb)
  have B7 := Lib.hid (B6.out.trans (hb.mono B6.out.size))
  have HN7 := Lib.hid (HN6.out.below hb)
  clear hb HU6 B6 HN6 HP6 n0 n1 n2 p0 p1 CN1 CW1
  go_wp2_with fail
  refine (Z1.out _).mono ?_
  rintro e w8 ⟨rfl, rfl⟩
  go_wp2_with fail
  refine (Z2.out _).mono ?_
  rintro e w8 ⟨rfl, rfl⟩
  clear Z1 Z2
  by_cases hle : sy ≤ sx
  · obtain ⟨s', r', CS, CN, CW⟩ := (HQ.out hle).out
    have HS := Lib.hid CS
    have HCN := Lib.hid CN
    have HCW := Lib.hid CW
    clear CS CN CW HQ
    go_wp2_with fail
    refine (HS.out _).mono ?_
    rintro e w8 ⟨rfl, hb⟩
    unfold pr
    have HU5 := Lib.hid ((HU7.out.below hb).alloc (.cells #[.float .f64 s', .float .f64 r'] 28))
    have B5 := Lib.hid ((B7.out.trans (hb.mono B7.out.size)).alloc (B7.out.trans (hb.mono B7.out.size)).size (.cells #[.float .f64 s', .float .f64 r'] 28))
    have HN5 := Lib.hid (Blk.alloc (HN7.out.below hb) (.cells #[.float .f64 s', .float .f64 r'] 28))
    have HP5 := Lib.hid (Blk.new w8 28 #[.float .f64 s', .float .f64 r'])
    clear hb HU7 B7 HN7 HS
    have n0 := (HN5.out).at 0 (.bool ng) rfl
    have n1 := (HN5.out).at 1 (.slice a k c) rfl
    have n2 := (HN5.out).at 2 (.int .i64 ee) rfl
    go_wp2_with fail
    refine (HCN.out _ _ HU5.out).mono ?_
    rintro e w6 ⟨rfl, hb⟩
    have HU6 := Lib.hid (HU5.out.below hb)
    have B6 := Lib.hid (B5.out.trans (hb.mono B5.out.size))
    have HN6 := Lib.hid (HN5.out.below hb)
    have HP6 := Lib.hid (HP5.out.below hb)
    clear hb HU5 B5 HN5 HP5 n0 n1 n2
    have n0 := (HN6.out).at 0 (.bool ng) rfl
    have n1 := (HN6.out).at 1 (.slice a k c) rfl
    have n2 := (HN6.out).at 2 (.int .i64 ee) rfl
    have p0 := (HP6.out).at 0 (.float .f64 s') rfl
    have p1 := (HP6.out).at 1 (.float .f64 r') rfl
    go_wp2_with fail
    refine (HCW.out _ _ HU6.out).mono ?_
    rintro e w7 ⟨rfl, hb⟩
    have B7 := Lib.hid (B6.out.trans (hb.mono B6.out.size))
    clear hb HU6 B6 HN6 HP6 n0 n1 n2 p0 p1 HCN HCW
    go_wp2
    go_ret
    exact ⟨rfl, B7.out⟩
  · have hd : decide (sy ≤ sx) = false := decide_eq_false hle
    clear HQ
    go_wp2
    go_ret
    exact ⟨rfl, B7.out⟩

theorem walk (w : World) (a0 : Int) (w0 : (Lit.int .u64 a0).wf = true) (a1 : Int) (w1 : (Lit.int .u64 a1).wf = true) :
    Calls Try.prog 6 #[.int .u64 a0, .int .u64 a1] w fun e w' => e = .returned (.bool true) ∧ Below w.heap.size w w' := by
  obtain ⟨p0, q0⟩ := u64_of_wf w0
  obtain ⟨p1, q1⟩ := u64_of_wf w1
  obtain ⟨n0, rfl⟩ := Int.eq_ofNat_of_zero_le p0
  obtain ⟨n1, rfl⟩ := Int.eq_ofNat_of_zero_le p1
  by_cases h : safeB n0 = true ∧ safeB n1 = true
  · exact walk_yes n0 n1 (by omega) (by omega) w h.1 h.2
  · exact walk_no n0 n1 (by omega) (by omega) w h

/-! ### The statement's frame, as the guide's skeleton writes it -/
theorem own : ownKnob Try.prog.godebug = none := by kernel_rfl
set_option linter.unusedVariables false
set_option maxRecDepth 100000 in
theorem lifted (os : Os) (started : os.Started) (H : Type) (enc : TypeId × Value → H) :
    ReturnsInHanded {} Try.checked os 6 .any (Rows.ddSumsSpec.pre6 enc Try.prog Try.f6 Rows.ddSumsRow.domain false) (Rows.ddSumsSpec.post enc Try.prog Try.f6 false true false false) := by
  refine returnsInHanded_of_change (C := Try.checked) own started (by kernel_rfl) Try.func6
    (ChangeSpec.witness6 (enc := enc) (C := Try.checked) false ⟨#[], #[.int .u64 0, .int .u64 0], []⟩ 8 (by kernel_rfl) (by kernel_rfl) (by kernel_rfl) (by kernel_rfl)) ?_
  intro W base args ds gs before hval0 hW hcnd _
  have hval : ∀ (j : Nat) t v, Try.f6.params[j]? = some t → args[j]? = some v → Value.okWide Try.prog W .any base t v := hval0
  have hW' := hW
  obtain ⟨p, q, hA0, hV, rfl, hfz, hnd⟩ := hW
  have hA : DataW.TrodAll enc Try.prog W 0 (fun _ => true) true Try.f6.params.toList args.toList ds p := hA0
  rw [Try.params6] at hA hval
  obtain ⟨v0, vs0, d0, ds0, p0, q0, hargs, rfl, rfl, h0, r0⟩ := trodAll_cons hA
  obtain ⟨v1, vs1, d1, ds1, p1, q1, rfl, rfl, rfl, h1, r1⟩ := trodAll_cons r0
  obtain ⟨rfl, rfl, rfl⟩ := trodAll_nil r1
  obtain rfl : args = #[v0, v1] := by cases args; simp_all
  obtain ⟨rfl, rfl⟩ := trodVars_none hV
  obtain ⟨a0, rfl, rfl, rfl, w0⟩ := open_int Try.underlying22 (hval 0 22 v0 rfl rfl) h0
  obtain ⟨a1, rfl, rfl, rfl, w1⟩ := open_int Try.underlying22 (hval 1 22 v1 rfl rfl) h1
  clear hA0 hval0
  refine (walk W a0 w0 a1 w1).mono fun e W' ⟨he, bel⟩ => ?_
  subst he
  exact ⟨_, rfl, _, _, _, [], _, [], hW', trodAll_mk1 (shut_bool Try.underlying4 _), (trodAll_cons_mk (shut_int Try.underlying22 w0) (trodAll_cons_mk (shut_int Try.underlying22 w1) trodAll_mk0)), rfl, bel.frame _, fun h => by cases h⟩

theorem over : Rows.ddSumsRow.holds Try.pinned (OpenSpec.ofChange Rows.ddSumsSpec) :=
  OpenClaim.holds_of_wide 6 Try.f6 rfl rfl rfl rfl rfl rfl rfl ⟨rfl, rfl, rfl, rfl, rfl⟩ rfl rfl rfl rfl rfl (by kernel_rfl) Try.func6 (by kernel_rfl)
    (of_decide_eq_true (by kernel_rfl)) (by unfold Func.isWrapper; first | (rw [if_pos (by decide +kernel)]; kernel_rfl) | (rw [if_neg (by decide +kernel)]; exact ⟨rfl, rfl⟩))
    (fun os started H enc _ => lifted os started H enc)

theorem proved : Rows.DdSumsSaid := over
#print axioms proved

end Go.Proofs.Ytbknkcfnhfolpaa.ddSums
