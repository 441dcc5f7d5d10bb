/-
  BudgetTwo returns true, whatever its two numbers and its bool; alive() of layer 17 returns true.
-/
import Derived.Test.YtpofnljcjoplnaaBudgetNew
namespace Go.Proofs.Ytpofnljcjoplnaa
open Go.ChangeShapes Go.WideShapes Go.ChangeAt Go.RowKit

theorem Bud.below {w w' : World} {B C D most left : Nat} {opn : Bool} (h : Bud w B C D most left opn) (hb : Below w.heap.size w w') : Bud w' B C D most left opn :=
  h.keep (Chg.of_below (S := fun _ => False) hb) id id id

set_option maxHeartbeats 1000000 in
theorem alive17 (w : World) : Calls Try.prog 17 #[] w fun e w' => e = .returned (.bool true) ∧ Below w.heap.size w w' := by
  go_enter Try.func17, Try.ntmps17
  go_wp2_with fail
  refine (new_yes 1 _ (by decide)).mono ?_
  rintro e w1 ⟨B, C, D, rfl, hb, g1, g2, g3, hw⟩
  have HB := Lib.hid hb
  clear hb
  go_wp2_with fail
  refine (take_bud HB.out).mono ?_
  rintro e w2 ⟨rfl, hb2, hc2, _⟩
  have HB2 := Lib.hid hb2
  clear hb2
  go_wp2_with fail
  refine (take_bud HB2.out).mono ?_
  rintro e w3 ⟨rfl, hb3, hc3, _⟩
  have HB3 := Lib.hid hb3
  clear hb3
  go_wp2_with fail
  refine (give_bud HB3.out).mono ?_
  rintro e w4 ⟨rfl, hb4, hc4⟩
  have HB4 := Lib.hid hb4
  clear hb4
  go_wp2_with fail
  refine (take_bud HB4.out).mono ?_
  rintro e w5 ⟨rfl, hb5, hc5, _⟩
  go_wp2_with fail
  refine (new_no (-1) _ (by decide)).mono ?_
  rintro e w' ⟨rfl, rfl⟩
  have hbel : Below w.heap.size w w5 :=
    Chg.below hw hw.size ((hc2.trans (hc3.trans (hc4.trans hc5))).mono (fun _ _ h => h)) (fun i hi => by subst hi; exact g2)
  clear hb5 hc2 hc3 hc4 hc5
  go_wp2
  go_ret
  exact ⟨rfl, hbel⟩
end Go.Proofs.Ytpofnljcjoplnaa
namespace Go.Proofs.Ytpofnljcjoplnaa.budgetTwo
open Go.ChangeShapes Go.WideShapes Go.ChangeAt Go.RowKit

set_option maxHeartbeats 2000000 in
theorem walkLtOpen (m n t : Nat) (hm : m ≤ 255) (hn : n ≤ 255) (ht : taken n m = t) (hmn : m < n) (w : World) :
    Calls Try.prog 7 #[.int .u8 m, .int .u8 n, .bool false] w fun e w' => e = .returned (.bool true) ∧ Below w.heap.size w w' := by
  have htm : t ≤ m := by unfold taken at ht; omega
  have hmi : (m : Int) ≤ 255 := by omega
  have hni : (n : Int) ≤ 255 := by omega
  have hti : (t : Int) ≤ 255 := by omega
  have hmin : ((t : Int) != (m : Int)) = false := by unfold taken at ht; simp; omega
  have HT := Lib.hid ht
  clear ht
  go_enter Try.func7, Try.ntmps7
  go_wp2_with fail
  refine (alive17 _).mono ?_
  rintro e w1 ⟨rfl, hw1⟩
  go_wp2_with fail
  refine (new_yes m _ (by omega)).mono ?_
  rintro e w2 ⟨B, C, D, rfl, hb, g1, g2, g3, hw2⟩
  have HB := Lib.hid hb
  clear hb
  go_wp2_with fail
  refine (new_yes m _ (by omega)).mono ?_
  rintro e w3 ⟨B', C', D', rfl, hb', g1', g2', g3', hw3⟩
  have HB' := Lib.hid hb'
  clear hb'
  have ha3 := HB.out.below hw3
  have l1 := HB.out.ltB
  have l2 := HB.out.ltC
  have l3 := HB.out.ltD
  have HA3 := Lib.hid ha3
  have hBel3 := Lib.hid (below_then (below_then hw1 hw2) (hw3.mono (by have := hw1.size; have := hw2.size; omega)))
  have hsz : w.heap.size ≤ w1.heap.size := hw1.size
  have hsz2 : w1.heap.size ≤ w2.heap.size := hw2.size
  have hsz3 : w2.heap.size ≤ w3.heap.size := hw3.size
  clear ha3 HB hw1 hw2 hw3
  go_wp2_with fail
  refine (takeAll_open n HA3.out (by omega)).mono ?_
  rw [HT.out]
  rintro e w4 ⟨rfl, ha4, hc4⟩
  have hb4 := HB'.out.keep hc4 (by omega) (by omega) (by omega)
  have HA4 := Lib.hid ha4
  have HB4 := Lib.hid hb4
  have HC4 := Lib.hid hc4
  clear ha4 hb4 hc4
  go_wp2_with fail
  refine (left_bud HB4.out).mono ?_
  rintro e w' ⟨rfl, rfl⟩
  have HA5 := HA4
  have HB5 := HB4
  have HC5 := HC4
  obtain ⟨w5, hw5⟩ : ∃ w5, w5 = w4 := ⟨_, rfl⟩
  subst hw5
  have HS5 : Hid (Below w.heap.size w w5) := Chg.below hBel3.out (by omega) HC5.out (fun i hi => by omega)
  go_wp2_with fail
  go_loopw [12] (fun i wr => ∃ k : Nat, i = .int .i64 k ∧ k ≤ t ∧ Hid (Bud wr B C D m (m - t + k) true ∧ Bud wr B' C' D' m m true ∧ Below w.heap.size w wr)) (fun i _ => t - (intOf i).toNat)
  case atStart => exact ⟨0, rfl, Nat.zero_le _, HA5.out, HB5.out, HS5.out⟩
  case round =>
    obtain ⟨k, rfl, hk, hh⟩ := hrel
    by_cases hlt : k < t
    · go_wp2_with (go_at_call 22; refine (give_room hh.out.1 (by omega)).mono ?_; rintro e w6 ⟨rfl, h6, hc6⟩)
      have HH : Hid (Bud w6 B C D m (m - t + (k + 1)) true ∧ Bud w6 B' C' D' m m true ∧ Below w.heap.size w w6) :=
        ⟨h6, hh.out.2.1.keep hc6 (by omega) (by omega) (by omega), Chg.below hh.out.2.2 (by have := hh.out.2.2.size; omega) hc6 (fun i hi => by omega)⟩
      clear h6 hc6
      go_wp2
      go_roundw
      case rel => exact ⟨k + 1, by go_num, by omega, HH⟩
      case measure => simp [intOf]; omega
    · obtain rfl : k = t := by omega
      have hA : Bud wr B C D m m true := by have := hh.out.1; rwa [show m - k + k = m by omega] at this
      have HA := Lib.hid hA
      clear hA
      go_wp2_with (go_at_call 22; refine (give_full HA.out (by omega)).mono ?_; rintro e w' ⟨rfl, rfl⟩)
      go_wp2_with fail
      refine (left_bud HA.out).mono ?_
      rintro e w' ⟨rfl, rfl⟩
      go_wp2_with fail
      refine (open_bud HA.out).mono ?_
      rintro e w' ⟨rfl, rfl⟩
      go_wp2_with fail
      refine (open_bud hh.out.2.1).mono ?_
      rintro e w' ⟨rfl, rfl⟩
      have hd : (decide (0 < m) == decide (0 < (m : Int))) = true := by simp
      go_wp2_with fail
      refine (take_bud HA.out).mono ?_
      rintro e w7 ⟨rfl, _, hc7, _⟩
      have hend : Hid (Below w.heap.size w w7) := Chg.below hh.out.2.2 (by have := hh.out.2.2.size; omega) hc7 (fun i hi => by omega)
      clear hc7
      go_wp2
      go_ret
      exact ⟨rfl, hend.out⟩

set_option maxHeartbeats 2000000 in
theorem walkLtShut (m n t : Nat) (hm : m ≤ 255) (hn : n ≤ 255) (ht : taken n m = t) (hmn : m < n) (w : World) :
    Calls Try.prog 7 #[.int .u8 m, .int .u8 n, .bool true] w fun e w' => e = .returned (.bool true) ∧ Below w.heap.size w w' := by
  have htm : t ≤ m := by unfold taken at ht; omega
  have hmi : (m : Int) ≤ 255 := by omega
  have hni : (n : Int) ≤ 255 := by omega
  have hti : (t : Int) ≤ 255 := by omega
  have hmin : ((t : Int) != (m : Int)) = false := by unfold taken at ht; simp; omega
  have HT := Lib.hid ht
  clear ht
  go_enter Try.func7, Try.ntmps7
  go_wp2_with fail
  refine (alive17 _).mono ?_
  rintro e w1 ⟨rfl, hw1⟩
  go_wp2_with fail
  refine (new_yes m _ (by omega)).mono ?_
  rintro e w2 ⟨B, C, D, rfl, hb, g1, g2, g3, hw2⟩
  have HB := Lib.hid hb
  clear hb
  go_wp2_with fail
  refine (new_yes m _ (by omega)).mono ?_
  rintro e w3 ⟨B', C', D', rfl, hb', g1', g2', g3', hw3⟩
  have HB' := Lib.hid hb'
  clear hb'
  have ha3 := HB.out.below hw3
  have l1 := HB.out.ltB
  have l2 := HB.out.ltC
  have l3 := HB.out.ltD
  have HA3 := Lib.hid ha3
  have hBel3 := Lib.hid (below_then (below_then hw1 hw2) (hw3.mono (by have := hw1.size; have := hw2.size; omega)))
  have hsz : w.heap.size ≤ w1.heap.size := hw1.size
  have hsz2 : w1.heap.size ≤ w2.heap.size := hw2.size
  have hsz3 : w2.heap.size ≤ w3.heap.size := hw3.size
  clear ha3 HB hw1 hw2 hw3
  go_wp2_with fail
  refine (takeAll_open n HA3.out (by omega)).mono ?_
  rw [HT.out]
  rintro e w4 ⟨rfl, ha4, hc4⟩
  have hb4 := HB'.out.keep hc4 (by omega) (by omega) (by omega)
  have HA4 := Lib.hid ha4
  have HB4 := Lib.hid hb4
  have HC4 := Lib.hid hc4
  clear ha4 hb4 hc4
  go_wp2_with fail
  refine (left_bud HB4.out).mono ?_
  rintro e w' ⟨rfl, rfl⟩
  go_wp2_with fail
  refine (shut_bud HA4.out).mono ?_
  rintro e w5 ⟨rfl, ha5, hc5⟩
  have hb5 := HB4.out.keep hc5 (by omega) (by omega) (by omega)
  have HA5 := Lib.hid ha5
  have HB5 := Lib.hid hb5
  have hc5' : Chg (fun x => x = C ∨ x = D) w3 w5 := (HC4.out.mono (fun _ _ h => .inl h)).trans (hc5.mono (fun _ _ h => .inr h))
  have HC5 := Lib.hid hc5'
  clear ha5 hb5 hc5 hc5'
  have HS5 : Hid (Below w.heap.size w w5) := Chg.below hBel3.out (by omega) HC5.out (fun i hi => by omega)
  go_wp2_with fail
  go_loopw [12] (fun i wr => ∃ k : Nat, i = .int .i64 k ∧ k ≤ t ∧ Hid (Bud wr B C D m (m - t + k) false ∧ Bud wr B' C' D' m m true ∧ Below w.heap.size w wr)) (fun i _ => t - (intOf i).toNat)
  case atStart => exact ⟨0, rfl, Nat.zero_le _, HA5.out, HB5.out, HS5.out⟩
  case round =>
    obtain ⟨k, rfl, hk, hh⟩ := hrel
    by_cases hlt : k < t
    · go_wp2_with (go_at_call 22; refine (give_room hh.out.1 (by omega)).mono ?_; rintro e w6 ⟨rfl, h6, hc6⟩)
      have HH : Hid (Bud w6 B C D m (m - t + (k + 1)) false ∧ Bud w6 B' C' D' m m true ∧ Below w.heap.size w w6) :=
        ⟨h6, hh.out.2.1.keep hc6 (by omega) (by omega) (by omega), Chg.below hh.out.2.2 (by have := hh.out.2.2.size; omega) hc6 (fun i hi => by omega)⟩
      clear h6 hc6
      go_wp2
      go_roundw
      case rel => exact ⟨k + 1, by go_num, by omega, HH⟩
      case measure => simp [intOf]; omega
    · obtain rfl : k = t := by omega
      have hA : Bud wr B C D m m false := by have := hh.out.1; rwa [show m - k + k = m by omega] at this
      have HA := Lib.hid hA
      clear hA
      go_wp2_with (go_at_call 22; refine (give_full HA.out (by omega)).mono ?_; rintro e w' ⟨rfl, rfl⟩)
      go_wp2_with fail
      refine (left_bud HA.out).mono ?_
      rintro e w' ⟨rfl, rfl⟩
      go_wp2_with fail
      refine (open_bud HA.out).mono ?_
      rintro e w' ⟨rfl, rfl⟩
      go_wp2_with fail
      refine (open_bud hh.out.2.1).mono ?_
      rintro e w' ⟨rfl, rfl⟩
      go_wp2_with fail
      refine (take_shut HA.out).mono ?_
      rintro e w' ⟨rfl, rfl⟩
      go_wp2
      go_ret
      exact ⟨rfl, hh.out.2.2⟩

set_option maxHeartbeats 2000000 in
theorem walkGeOpen (m n t : Nat) (hm : m ≤ 255) (hn : n ≤ 255) (ht : taken n m = t) (hmn : ¬ m < n) (w : World) :
    Calls Try.prog 7 #[.int .u8 m, .int .u8 n, .bool false] w fun e w' => e = .returned (.bool true) ∧ Below w.heap.size w w' := by
  have htm : t ≤ m := by unfold taken at ht; omega
  have hmi : (m : Int) ≤ 255 := by omega
  have hni : (n : Int) ≤ 255 := by omega
  have hti : (t : Int) ≤ 255 := by omega
  have hmin : ((t : Int) != (n : Int)) = false := by unfold taken at ht; simp; omega
  have HT := Lib.hid ht
  clear ht
  go_enter Try.func7, Try.ntmps7
  go_wp2_with fail
  refine (alive17 _).mono ?_
  rintro e w1 ⟨rfl, hw1⟩
  go_wp2_with fail
  refine (new_yes m _ (by omega)).mono ?_
  rintro e w2 ⟨B, C, D, rfl, hb, g1, g2, g3, hw2⟩
  have HB := Lib.hid hb
  clear hb
  go_wp2_with fail
  refine (new_yes m _ (by omega)).mono ?_
  rintro e w3 ⟨B', C', D', rfl, hb', g1', g2', g3', hw3⟩
  have HB' := Lib.hid hb'
  clear hb'
  have ha3 := HB.out.below hw3
  have l1 := HB.out.ltB
  have l2 := HB.out.ltC
  have l3 := HB.out.ltD
  have HA3 := Lib.hid ha3
  have hBel3 := Lib.hid (below_then (below_then hw1 hw2) (hw3.mono (by have := hw1.size; have := hw2.size; omega)))
  have hsz : w.heap.size ≤ w1.heap.size := hw1.size
  have hsz2 : w1.heap.size ≤ w2.heap.size := hw2.size
  have hsz3 : w2.heap.size ≤ w3.heap.size := hw3.size
  clear ha3 HB hw1 hw2 hw3
  go_wp2_with fail
  refine (takeAll_open n HA3.out (by omega)).mono ?_
  rw [HT.out]
  rintro e w4 ⟨rfl, ha4, hc4⟩
  have hb4 := HB'.out.keep hc4 (by omega) (by omega) (by omega)
  have HA4 := Lib.hid ha4
  have HB4 := Lib.hid hb4
  have HC4 := Lib.hid hc4
  clear ha4 hb4 hc4
  go_wp2_with fail
  refine (left_bud HB4.out).mono ?_
  rintro e w' ⟨rfl, rfl⟩
  have HA5 := HA4
  have HB5 := HB4
  have HC5 := HC4
  obtain ⟨w5, hw5⟩ : ∃ w5, w5 = w4 := ⟨_, rfl⟩
  subst hw5
  have HS5 : Hid (Below w.heap.size w w5) := Chg.below hBel3.out (by omega) HC5.out (fun i hi => by omega)
  go_wp2_with fail
  go_loopw [12] (fun i wr => ∃ k : Nat, i = .int .i64 k ∧ k ≤ t ∧ Hid (Bud wr B C D m (m - t + k) true ∧ Bud wr B' C' D' m m true ∧ Below w.heap.size w wr)) (fun i _ => t - (intOf i).toNat)
  case atStart => exact ⟨0, rfl, Nat.zero_le _, HA5.out, HB5.out, HS5.out⟩
  case round =>
    obtain ⟨k, rfl, hk, hh⟩ := hrel
    by_cases hlt : k < t
    · go_wp2_with (go_at_call 22; refine (give_room hh.out.1 (by omega)).mono ?_; rintro e w6 ⟨rfl, h6, hc6⟩)
      have HH : Hid (Bud w6 B C D m (m - t + (k + 1)) true ∧ Bud w6 B' C' D' m m true ∧ Below w.heap.size w w6) :=
        ⟨h6, hh.out.2.1.keep hc6 (by omega) (by omega) (by omega), Chg.below hh.out.2.2 (by have := hh.out.2.2.size; omega) hc6 (fun i hi => by omega)⟩
      clear h6 hc6
      go_wp2
      go_roundw
      case rel => exact ⟨k + 1, by go_num, by omega, HH⟩
      case measure => simp [intOf]; omega
    · obtain rfl : k = t := by omega
      have hA : Bud wr B C D m m true := by have := hh.out.1; rwa [show m - k + k = m by omega] at this
      have HA := Lib.hid hA
      clear hA
      go_wp2_with (go_at_call 22; refine (give_full HA.out (by omega)).mono ?_; rintro e w' ⟨rfl, rfl⟩)
      go_wp2_with fail
      refine (left_bud HA.out).mono ?_
      rintro e w' ⟨rfl, rfl⟩
      go_wp2_with fail
      refine (open_bud HA.out).mono ?_
      rintro e w' ⟨rfl, rfl⟩
      go_wp2_with fail
      refine (open_bud hh.out.2.1).mono ?_
      rintro e w' ⟨rfl, rfl⟩
      have hd : (decide (0 < m) == decide (0 < (m : Int))) = true := by simp
      go_wp2_with fail
      refine (take_bud HA.out).mono ?_
      rintro e w7 ⟨rfl, _, hc7, _⟩
      have hend : Hid (Below w.heap.size w w7) := Chg.below hh.out.2.2 (by have := hh.out.2.2.size; omega) hc7 (fun i hi => by omega)
      clear hc7
      go_wp2
      go_ret
      exact ⟨rfl, hend.out⟩

set_option maxHeartbeats 2000000 in
theorem walkGeShut (m n t : Nat) (hm : m ≤ 255) (hn : n ≤ 255) (ht : taken n m = t) (hmn : ¬ m < n) (w : World) :
    Calls Try.prog 7 #[.int .u8 m, .int .u8 n, .bool true] w fun e w' => e = .returned (.bool true) ∧ Below w.heap.size w w' := by
  have htm : t ≤ m := by unfold taken at ht; omega
  have hmi : (m : Int) ≤ 255 := by omega
  have hni : (n : Int) ≤ 255 := by omega
  have hti : (t : Int) ≤ 255 := by omega
  have hmin : ((t : Int) != (n : Int)) = false := by unfold taken at ht; simp; omega
  have HT := Lib.hid ht
  clear ht
  go_enter Try.func7, Try.ntmps7
  go_wp2_with fail
  refine (alive17 _).mono ?_
  rintro e w1 ⟨rfl, hw1⟩
  go_wp2_with fail
  refine (new_yes m _ (by omega)).mono ?_
  rintro e w2 ⟨B, C, D, rfl, hb, g1, g2, g3, hw2⟩
  have HB := Lib.hid hb
  clear hb
  go_wp2_with fail
  refine (new_yes m _ (by omega)).mono ?_
  rintro e w3 ⟨B', C', D', rfl, hb', g1', g2', g3', hw3⟩
  have HB' := Lib.hid hb'
  clear hb'
  have ha3 := HB.out.below hw3
  have l1 := HB.out.ltB
  have l2 := HB.out.ltC
  have l3 := HB.out.ltD
  have HA3 := Lib.hid ha3
  have hBel3 := Lib.hid (below_then (below_then hw1 hw2) (hw3.mono (by have := hw1.size; have := hw2.size; omega)))
  have hsz : w.heap.size ≤ w1.heap.size := hw1.size
  have hsz2 : w1.heap.size ≤ w2.heap.size := hw2.size
  have hsz3 : w2.heap.size ≤ w3.heap.size := hw3.size
  clear ha3 HB hw1 hw2 hw3
  go_wp2_with fail
  refine (takeAll_open n HA3.out (by omega)).mono ?_
  rw [HT.out]
  rintro e w4 ⟨rfl, ha4, hc4⟩
  have hb4 := HB'.out.keep hc4 (by omega) (by omega) (by omega)
  have HA4 := Lib.hid ha4
  have HB4 := Lib.hid hb4
  have HC4 := Lib.hid hc4
  clear ha4 hb4 hc4
  go_wp2_with fail
  refine (left_bud HB4.out).mono ?_
  rintro e w' ⟨rfl, rfl⟩
  go_wp2_with fail
  refine (shut_bud HA4.out).mono ?_
  rintro e w5 ⟨rfl, ha5, hc5⟩
  have hb5 := HB4.out.keep hc5 (by omega) (by omega) (by omega)
  have HA5 := Lib.hid ha5
  have HB5 := Lib.hid hb5
  have hc5' : Chg (fun x => x = C ∨ x = D) w3 w5 := (HC4.out.mono (fun _ _ h => .inl h)).trans (hc5.mono (fun _ _ h => .inr h))
  have HC5 := Lib.hid hc5'
  clear ha5 hb5 hc5 hc5'
  have HS5 : Hid (Below w.heap.size w w5) := Chg.below hBel3.out (by omega) HC5.out (fun i hi => by omega)
  go_wp2_with fail
  go_loopw [12] (fun i wr => ∃ k : Nat, i = .int .i64 k ∧ k ≤ t ∧ Hid (Bud wr B C D m (m - t + k) false ∧ Bud wr B' C' D' m m true ∧ Below w.heap.size w wr)) (fun i _ => t - (intOf i).toNat)
  case atStart => exact ⟨0, rfl, Nat.zero_le _, HA5.out, HB5.out, HS5.out⟩
  case round =>
    obtain ⟨k, rfl, hk, hh⟩ := hrel
    by_cases hlt : k < t
    · go_wp2_with (go_at_call 22; refine (give_room hh.out.1 (by omega)).mono ?_; rintro e w6 ⟨rfl, h6, hc6⟩)
      have HH : Hid (Bud w6 B C D m (m - t + (k + 1)) false ∧ Bud w6 B' C' D' m m true ∧ Below w.heap.size w w6) :=
        ⟨h6, hh.out.2.1.keep hc6 (by omega) (by omega) (by omega), Chg.below hh.out.2.2 (by have := hh.out.2.2.size; omega) hc6 (fun i hi => by omega)⟩
      clear h6 hc6
      go_wp2
      go_roundw
      case rel => exact ⟨k + 1, by go_num, by omega, HH⟩
      case measure => simp [intOf]; omega
    · obtain rfl : k = t := by omega
      have hA : Bud wr B C D m m false := by have := hh.out.1; rwa [show m - k + k = m by omega] at this
      have HA := Lib.hid hA
      clear hA
      go_wp2_with (go_at_call 22; refine (give_full HA.out (by omega)).mono ?_; rintro e w' ⟨rfl, rfl⟩)
      go_wp2_with fail
      refine (left_bud HA.out).mono ?_
      rintro e w' ⟨rfl, rfl⟩
      go_wp2_with fail
      refine (open_bud HA.out).mono ?_
      rintro e w' ⟨rfl, rfl⟩
      go_wp2_with fail
      refine (open_bud hh.out.2.1).mono ?_
      rintro e w' ⟨rfl, rfl⟩
      go_wp2_with fail
      refine (take_shut HA.out).mono ?_
      rintro e w' ⟨rfl, rfl⟩
      go_wp2
      go_ret
      exact ⟨rfl, hh.out.2.2⟩

theorem walk (a0 : Int) (w0 : (Lit.int .u8 a0).wf = true) (a1 : Int) (w1 : (Lit.int .u8 a1).wf = true) (a2 : Bool) (w : World) :
    Calls Try.prog 7 #[.int .u8 a0, .int .u8 a1, .bool a2] w fun e w' => e = .returned (.bool true) ∧ Below w.heap.size w w' := by
  obtain ⟨l0, h0⟩ := bounds_u8 w0
  obtain ⟨l1, h1⟩ := bounds_u8 w1
  obtain ⟨m, rfl⟩ := Int.eq_ofNat_of_zero_le l0
  obtain ⟨n, rfl⟩ := Int.eq_ofNat_of_zero_le l1
  by_cases h : m < n
  · cases a2
    · exact walkLtOpen m n _ (by omega) (by omega) rfl h w
    · exact walkLtShut m n _ (by omega) (by omega) rfl h w
  · cases a2
    · exact walkGeOpen m n _ (by omega) (by omega) rfl h w
    · exact walkGeShut m n _ (by omega) (by omega) rfl h w

/-! ### The statement's frame, as the guide's skeleton writes it -/
theorem own : ownKnob Try.prog.godebug = none := by kernel_rfl
set_option linter.unusedVariables false
set_option maxRecDepth 100000 in
theorem lifted (os : Os) (started : os.Started) (H : Type) (enc : TypeId × Value → H) :
    ReturnsInHanded {} Try.checked os 7 .any (Rows.budgetTwoSpec.pre6 enc Try.prog Try.f7 Rows.budgetTwoRow.domain false) (Rows.budgetTwoSpec.post enc Try.prog Try.f7 false true false false) := by
  refine returnsInHanded_of_change (C := Try.checked) own started (by kernel_rfl) Try.func7
    (ChangeSpec.witness6 (enc := enc) (C := Try.checked) false ⟨#[], #[.int .u8 0, .int .u8 0, .bool false], []⟩ 8 (by kernel_rfl) (by kernel_rfl) (by kernel_rfl) (by kernel_rfl)) ?_
  intro W base args ds gs before hval0 hW hcnd _
  have hval : ∀ (j : Nat) t v, Try.f7.params[j]? = some t → args[j]? = some v → Value.okWide Try.prog W .any base t v := hval0
  have hW' := hW
  obtain ⟨p, q, hA0, hV, rfl, hfz, hnd⟩ := hW
  have hA : DataW.TrodAll enc Try.prog W 0 (fun _ => true) true Try.f7.params.toList args.toList ds p := hA0
  rw [Try.params7] at hA hval
  obtain ⟨v0, vs0, d0, ds0, p0, q0, hargs, rfl, rfl, h0, r0⟩ := trodAll_cons hA
  obtain ⟨v1, vs1, d1, ds1, p1, q1, rfl, rfl, rfl, h1, r1⟩ := trodAll_cons r0
  obtain ⟨v2, vs2, d2, ds2, p2, q2, rfl, rfl, rfl, h2, r2⟩ := trodAll_cons r1
  obtain ⟨rfl, rfl, rfl⟩ := trodAll_nil r2
  obtain rfl : args = #[v0, v1, v2] := by cases args; simp_all
  obtain ⟨rfl, rfl⟩ := trodVars_none hV
  obtain ⟨a0, rfl, rfl, rfl, w0⟩ := open_int Try.underlying5 (hval 0 5 v0 rfl rfl) h0
  obtain ⟨a1, rfl, rfl, rfl, w1⟩ := open_int Try.underlying5 (hval 1 5 v1 rfl rfl) h1
  obtain ⟨a2, rfl, rfl, rfl⟩ := open_bool Try.underlying4 (hval 2 4 v2 rfl rfl) h2
  clear hA0 hval0
  refine (walk a0 w0 a1 w1 a2 W).mono fun e W' ⟨he, bel⟩ => ?_
  subst he
  exact ⟨_, rfl, _, _, _, [], _, [], hW', trodAll_mk1 (shut_bool Try.underlying4 _), (trodAll_cons_mk (shut_int Try.underlying5 w0) (trodAll_cons_mk (shut_int Try.underlying5 w1) (trodAll_cons_mk (shut_bool Try.underlying4 a2) trodAll_mk0))), rfl, bel.frame _, fun h => by cases h⟩

theorem over : Rows.budgetTwoRow.holds Try.pinned (OpenSpec.ofChange Rows.budgetTwoSpec) :=
  OpenClaim.holds_of_wide 7 Try.f7 rfl rfl rfl rfl rfl rfl rfl ⟨rfl, rfl, rfl, rfl, rfl⟩ rfl rfl rfl rfl rfl (by kernel_rfl) Try.func7 (by kernel_rfl)
    (of_decide_eq_true (by kernel_rfl)) (by unfold Func.isWrapper; first | (rw [if_pos (by decide +kernel)]; kernel_rfl) | (rw [if_neg (by decide +kernel)]; exact ⟨rfl, rfl⟩))
    (fun os started H enc _ => lifted os started H enc)

theorem proved : Rows.BudgetTwoSaid := over
#print axioms proved
end Go.Proofs.Ytpofnljcjoplnaa.budgetTwo
