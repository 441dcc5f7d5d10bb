/-
  BudgetSums returns true, whatever its number and its list.
-/
import Derived.Test.YtpofnljcjoplnaaBudgetTwo
import Derived.Test.YtpofnljcjoplnaaArgs
namespace Go.Proofs.Ytpofnljcjoplnaa.budgetSums
open Go.ChangeShapes Go.WideShapes Go.ChangeAt Go.RowKit

theorem walk_long (m : Int) (a : Option Addr) (len cap : Nat) (h : 300 < len) (w : World) :
    Calls Try.prog 6 #[.int .u8 m, .slice a len cap] w fun e w' => e = .returned (.bool true) ∧ Below w.heap.size w w' := by
  go_enter Try.func6, Try.ntmps6
  go_wp2_with fail
  refine (alive17 _).mono ?_
  rintro e w1 ⟨rfl, hw1⟩
  go_wp2
  go_ret
  exact ⟨rfl, hw1⟩

set_option maxHeartbeats 2000000 in
theorem walk_short (m : Nat) (hm : m ≤ 255) (a : Option Addr) (cap : Nat) (xs : List Int) (w : World) (h : xs.length ≤ 300) (hx : ∀ n ∈ xs, 0 ≤ n ∧ n ≤ 255) (hsl : Sl w (.slice a xs.length cap) (xs.map (.int .u8))) :
    Calls Try.prog 6 #[.int .u8 m, .slice a xs.length cap] w fun e w' => e = .returned (.bool true) ∧ Below w.heap.size w w' := by
  have hmi : (m : Int) ≤ 255 := by omega
  have hli : (xs.length : Int) ≤ 300 := by omega
  have HX := Lib.hid hx
  have HS := Lib.hid hsl
  clear hx hsl
  go_enter Try.func6, Try.ntmps6
  go_wp2_with fail
  refine (alive17 _).mono ?_
  rintro e w1 ⟨rfl, hw1⟩
  go_wp2_with fail
  refine (new_yes m _ (by omega)).mono ?_
  rintro e w2 ⟨B, C, D, rfl, hb, g1, g2, g3, hw2⟩
  have HB := Lib.hid hb
  have HW := Lib.hid (below_then hw1 hw2)
  have hz1 := hw1.size
  have hz2 := hw2.size
  have hlB := hb.ltB
  have hlC := hb.ltC
  have hlD := hb.ltD
  clear hb hw1 hw2
  go_wp2_with fail
  go_loopw [7, 8, 9] (fun t g i wr => ∃ k L G T : Nat, i = .int .i64 k ∧ t = .int .i64 T ∧ g = .int .i64 G ∧ k ≤ xs.length ∧ G + m = T + L ∧ G ≤ k ∧ L ≤ m ∧ Hid (Bud wr B C D m L true ∧ Below w.heap.size w wr)) (fun _ _ i _ => xs.length - (intOf i).toNat)
  case atStart => exact ⟨0, m, 0, 0, rfl, rfl, rfl, Nat.zero_le _, by omega, by omega, Nat.le_refl _, HB.out, HW.out⟩
  case round =>
    obtain ⟨k, L, G, T, rfl, rfl, rfl, hk, hsum, hG, hL, hh⟩ := hrel
    have hTi : (T : Int) ≤ 600 := by omega
    have hGi : (G : Int) ≤ 300 := by omega
    by_cases hlt : k < xs.length
    · obtain ⟨_, _, he, hcell⟩ := HS.out.below hh.out.2
      simp only [List.length_map, Value.slice.injEq] at he hcell
      obtain ⟨rfl, _, rfl⟩ := he
      obtain ⟨b, off, rfl, hc2⟩ := hcell (by omega)
      have hc : wr.cell? ⟨b, off + k, none⟩ = some (.int .u8 xs[k]) := hc2 k _ (by simp [hlt])
      obtain ⟨x0, x1⟩ := HX.out xs[k] (List.getElem_mem _)
      clear hc2 hcell
      generalize xs[k] = x at hc x0 x1
      have hki : (k : Int) < xs.length := by omega
      by_cases h3 : x % 3 = 0
      · have t3 : (x % 3 == 0) = true := by simp [h3]
        clear h3
        by_cases hLm : L < m
        · go_wp2_with fail
          refine (give_room hh.out.1 hLm).mono ?_
          rintro e w3 ⟨rfl, hb3, hc3⟩
          have HH : Hid (Bud w3 B C D m (L + 1) true ∧ Below w.heap.size w w3) := ⟨hb3, Chg.below hh.out.2 hh.out.2.size hc3 (fun i hi => by omega)⟩
          clear hb3 hc3
          have f1 : decide ((m : Int) + ((G : Int) + 1) < T) = false := by simp; omega
          have f2 : (((L + 1 : Nat) : Int) != (m : Int) + ((G : Int) + 1) - T) = false := by simp; omega
          go_wp2_with fail
          refine (left_bud HH.out.1).mono ?_
          rintro e w' ⟨rfl, rfl⟩
          go_wp2
          go_roundw
          case rel => exact ⟨k + 1, L + 1, G + 1, T, by go_num, rfl, by go_num, by omega, by omega, by omega, by omega, HH⟩
          case measure => simp [intOf]; omega
        · go_wp2_with fail
          refine (give_full hh.out.1 hLm).mono ?_
          rintro e w' ⟨rfl, rfl⟩
          have f1 : decide ((m : Int) + (G : Int) < T) = false := by simp; omega
          have f2 : ((L : Int) != (m : Int) + (G : Int) - T) = false := by simp; omega
          go_wp2_with fail
          refine (left_bud hh.out.1).mono ?_
          rintro e w' ⟨rfl, rfl⟩
          go_wp2
          go_roundw
          case rel => exact ⟨k + 1, L, G, T, by go_num, rfl, rfl, by omega, by omega, by omega, by omega, hh⟩
          case measure => simp [intOf]; omega
      · have t3 : (x % 3 == 0) = false := by simp [h3]
        clear h3
        go_wp2_with fail
        have hq0 : 0 ≤ x % 5 := by omega
        have hq1 : x % 5 < 5 := by omega
        obtain ⟨q, hq⟩ := Int.eq_ofNat_of_zero_le hq0
        refine (takeAll_open _ hh.out.1 (by omega)).mono ?_
        have htk : taken (x % 5) L ≤ L ∧ taken (x % 5) L ≤ 4 := by unfold taken; omega
        generalize taken (x % 5) L = t at htk ⊢
        obtain ⟨ht1, ht2⟩ := htk
        rintro e w3 ⟨rfl, hb3, hc3⟩
        have HH : Hid (Bud w3 B C D m (L - t) true ∧ Below w.heap.size w w3) := ⟨hb3, Chg.below hh.out.2 hh.out.2.size hc3 (fun i hi => by omega)⟩
        clear hb3 hc3 hq hq0 hq1 q
        have hti : (t : Int) ≤ 4 := by omega
        have f1 : decide ((m : Int) + (G : Int) < (T : Int) + (t : Int)) = false := by simp; omega
        have f2 : (((L - t : Nat) : Int) != (m : Int) + (G : Int) - ((T : Int) + (t : Int))) = false := by simp; omega
        go_wp2_with fail
        refine (left_bud HH.out.1).mono ?_
        rintro e w' ⟨rfl, rfl⟩
        go_wp2
        go_roundw
        case rel => exact ⟨k + 1, L - t, G, T + t, by go_num, by go_num, rfl, by omega, by omega, by omega, by omega, HH⟩
        case measure => simp [intOf]; omega
    · have hge : (xs.length : Int) ≤ k := by omega
      go_wp2_with fail
      refine (shut_bud hh.out.1).mono ?_
      rintro e w3 ⟨rfl, hb3, hc3⟩
      have HH : Hid (Bud w3 B C D m L false ∧ Below w.heap.size w w3) := ⟨hb3, Chg.below hh.out.2 hh.out.2.size hc3 (fun i hi => by omega)⟩
      clear hb3 hc3
      go_wp2_with fail
      refine (shut_bud HH.out.1).mono ?_
      rintro e w4 ⟨rfl, hb4, hc4⟩
      have HH4 : Hid (Bud w4 B C D m L false ∧ Below w.heap.size w w4) := ⟨hb4, Chg.below HH.out.2 HH.out.2.size hc4 (fun i hi => by omega)⟩
      clear hb4 hc4
      go_wp2_with fail
      refine (take_shut HH4.out.1).mono ?_
      rintro e w' ⟨rfl, rfl⟩
      go_wp2_with fail
      refine (takeAll_shut 9 HH4.out.1).mono ?_
      rintro e w' ⟨rfl, rfl⟩
      go_wp2_with fail
      refine (take_nil _).mono ?_
      rintro e w' ⟨rfl, rfl⟩
      go_wp2_with fail
      refine (give_nil _).mono ?_
      rintro e w' ⟨rfl, rfl⟩
      go_wp2_with fail
      refine (shut_nil _).mono ?_
      rintro e w' ⟨rfl, rfl⟩
      go_wp2_with fail
      refine (open_nil _).mono ?_
      rintro e w' ⟨rfl, rfl⟩
      go_wp2_with fail
      refine (left_nil _).mono ?_
      rintro e w' ⟨rfl, rfl⟩
      go_wp2_with fail
      refine (takeAll_nil 3 _).mono ?_
      rintro e w' ⟨rfl, rfl⟩
      go_wp2
      go_ret
      exact ⟨rfl, HH4.out.2⟩

theorem walk (w : World) (a0 : Int) (w0 : (Lit.int .u8 a0).wf = true) (a1 : Option Addr) (len1 cap1 : Nat) (z1 : List Int) (w1 : IsRow .u8 w a1 len1 cap1 z1) :
    Calls Try.prog 6 #[.int .u8 a0, .slice a1 len1 cap1] w fun e w' => e = .returned (.bool true) ∧ Below w.heap.size w w' := by
  obtain ⟨l0, h0⟩ := bounds_u8 w0
  obtain ⟨m, rfl⟩ := Int.eq_ofNat_of_zero_le l0
  obtain ⟨xs, rfl, hs, hx⟩ := w1.sl
  by_cases h : 300 < xs.length
  · exact walk_long m a1 _ cap1 h w
  · exact walk_short m (by omega) a1 cap1 xs w (by omega) (fun n hn => bounds_u8 (hx n hn)) hs

/-! ### The statement's frame, as the guide's skeleton writes it -/
theorem own : ownKnob Try.prog.godebug = none := by kernel_rfl
theorem laidOut : laidOutB Try.prog = true := by kernel_rfl
set_option linter.unusedVariables false
set_option maxRecDepth 100000 in
theorem lifted (os : Os) (started : os.Started) (H : Type) (enc : TypeId × Value → H) :
    ReturnsInHanded {} Try.checked os 6 .any (Rows.budgetSumsSpec.pre6 enc Try.prog Try.f6 Rows.budgetSumsRow.domain false) (Rows.budgetSumsSpec.post enc Try.prog Try.f6 false true false false) := by
  refine returnsInHanded_of_change (C := Try.checked) own started (by kernel_rfl) Try.func6
    (ChangeSpec.witness6 (enc := enc) (C := Try.checked) false ⟨#[], #[.int .u8 0, .slice none 0 0], []⟩ 8 (by kernel_rfl) (by kernel_rfl) (by kernel_rfl) (by kernel_rfl)) ?_
  intro W base args ds gs before hval0 hW hcnd _
  have hval : ∀ (j : Nat) t v, Try.f6.params[j]? = some t → args[j]? = some v → Value.okWide Try.prog W .any base t v := hval0
  have hW' := hW
  obtain ⟨p, q, hA0, hV, rfl, hfz, hnd⟩ := hW
  have hA : DataW.TrodAll enc Try.prog W 0 (fun _ => true) true Try.f6.params.toList args.toList ds p := hA0
  rw [Try.params6] at hA hval
  obtain ⟨v0, vs0, d0, ds0, p0, q0, hargs, rfl, rfl, h0, r0⟩ := trodAll_cons hA
  obtain ⟨v1, vs1, d1, ds1, p1, q1, rfl, rfl, rfl, h1, r1⟩ := trodAll_cons r0
  obtain ⟨rfl, rfl, rfl⟩ := trodAll_nil r1
  obtain rfl : args = #[v0, v1] := by cases args; simp_all
  obtain ⟨rfl, rfl⟩ := trodVars_none hV
  obtain ⟨a0, rfl, rfl, rfl, w0⟩ := open_int Try.underlying5 (hval 0 5 v0 rfl rfl) h0
  obtain ⟨a1, len1, cap1, rfl⟩ := okWide_slice Try.underlying51 (hval 1 51 v1 rfl rfl)
  have k1 := h1
  have lt1 : ∀ x ∈ p1, x.block < W.heap.size := by obtain ⟨m, hm⟩ := k1; exact DataW.trod_lt m _ _ _ hm
  obtain ⟨z1, w1⟩ : ∃ zs, IsRow .u8 W a1 len1 cap1 zs := by
    obtain ⟨fuel, hf⟩ := h1
    rcases open_ints Try.underlying51 Try.underlying5 (by kernel_rfl) hf with ⟨hcs, _⟩ | ⟨x, l, c, zs, hcs, _, hl, hm, hz, _, hcell, hwz⟩
    · simp [Value.cells] at hcs
      obtain ⟨rfl, rfl, rfl⟩ := hcs
      exact ⟨[], .inl ⟨rfl, rfl, rfl, rfl⟩⟩
    · simp [Value.cells] at hcs
      obtain ⟨rfl, rfl, rfl⟩ := hcs
      exact ⟨zs, .inr ⟨_, rfl, hl, hm, by simpa using hz, hcell, hwz⟩⟩
  clear hA0 hval0
  refine (walk W a0 w0 a1 len1 cap1 z1 w1).mono fun e W' ⟨he, bel⟩ => ?_
  subst he
  exact ⟨_, rfl, _, _, _, [], _, [], hW', trodAll_mk1 (shut_bool Try.underlying4 _), (trodAll_cons_mk (shut_int Try.underlying5 w0) (trodAll_cons_mk (Below.trod laidOut (by kernel_rfl) (of_decide_eq_true (by kernel_rfl)) k1 bel lt1) trodAll_mk0)), rfl, bel.frame _, fun h => by cases h⟩

theorem over : Rows.budgetSumsRow.holds Try.pinned (OpenSpec.ofChange Rows.budgetSumsSpec) :=
  OpenClaim.holds_of_wide 6 Try.f6 rfl rfl rfl rfl rfl rfl rfl ⟨rfl, rfl, rfl, rfl, rfl⟩ rfl rfl rfl rfl rfl (by kernel_rfl) Try.func6 (by kernel_rfl)
    (of_decide_eq_true (by kernel_rfl)) (by unfold Func.isWrapper; first | (rw [if_pos (by decide +kernel)]; kernel_rfl) | (rw [if_neg (by decide +kernel)]; exact ⟨rfl, rfl⟩))
    (fun os started H enc _ => lifted os started H enc)

theorem proved : Rows.BudgetSumsSaid := over
#print axioms proved
end Go.Proofs.Ytpofnljcjoplnaa.budgetSums
