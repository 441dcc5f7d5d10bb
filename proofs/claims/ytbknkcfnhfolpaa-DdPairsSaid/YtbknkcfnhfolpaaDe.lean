/-
  ref01's Shr: what it returns.
-/
import Derived.Test.YtbknkcfnhfolpaaDc
namespace Go.Proofs.Ytbknkcfnhfolpaa
open Go.RowKit

def RetShr (n : Nat) (w : World) (e : Ending) (w' : World) : Prop := ∃ u r, e = .returned (.tuple #[u, .bool r]) ∧ Dg w' u n ∧ Below w.heap.size w w'

set_option maxHeartbeats 2000000 in
theorem shr_any {m : Nat} {v : Value} {w : World} (h : Dg w v m) (n : Nat) (hs : Sm m) (hn : n ≤ 1000000) :
    Calls Try.prog 50 #[v, .int .i64 n] w (RetShr (m / 2 ^ n) w) := by
  have hall : bl m ≤ 1000000 := hs
  have HS := Lib.hid hs
  have HV := Lib.hid h
  have hB := fun w (h : Dg w v m) => bits_any h hs
  have HB := Lib.hid hB
  obtain ⟨all, hA⟩ : ∃ all, bl m = all := ⟨_, rfl⟩
  have HA := Lib.hid hA
  rw [hA] at hall
  clear hs h hA hB
  go_enter Try.func50, Try.ntmps50
  go_wp2_with fail
  refine (HB.out _ HV.out).mono ?_
  rintro e w1 ⟨rfl, rfl⟩
  rw [HA.out]
  go_wp2
  go_loopw [7, 8] (fun out i wr => ∃ (k : Nat) (z : Int), i = .int .i64 z ∧ Hid (z = (k : Int) - 1) ∧ k ≤ all ∧ Hid (n ≤ k ∨ k = all) ∧ Hid (Dg wr out (m / 2 ^ k) ∧ Below w.heap.size w wr)) (fun _ i _ => (intOf i + 1).toNat)
  case atStart => exact ⟨all, _, rfl, rfl, Nat.le_refl _, .inr rfl, by
    refine ⟨?_, Below.refl _ _⟩
    rw [Nat.div_eq_of_lt (by rw [← HA.out]; exact lt_bl m)]
    exact Dg.nil w⟩
  case round =>
    obtain ⟨k, z, rfl, hz, hk, hnk, hh⟩ := hrel
    by_cases hlt : n < k
    · obtain ⟨j, rfl⟩ : ∃ j, k = j + 1 := ⟨k - 1, by omega⟩
      obtain rfl : z = (j : Int) := by have := hz.out; omega
      clear hz
      have hnj : n ≤ j := by omega
      have HBit := Lib.hid (fun w (h : Dg w v m) => bit_any h HS.out j (by omega))
      go_wp2_with fail
      refine (HBit.out _ (HV.out.below hh.out.2)).mono ?_
      rintro e w2 ⟨rfl, rfl⟩
      have hb2 := bitN_lt m j
      have hsm : Sm (m / 2 ^ (j + 1)) := HS.out.mono (Nat.div_le_self _ _)
      have HM := Lib.hid hsm
      clear hsm
      go_wp2_with fail
      refine (double_any hh.out.1 HM.out (by omega)).mono ?_
      rintro e w3 ⟨u, rfl, hd3, hb3⟩
      have HH : Hid (Dg w3 u (m / 2 ^ j) ∧ Below w.heap.size w w3) := by
        refine ⟨?_, hh.out.2.trans (hb3.mono hh.out.2.size)⟩
        rw [half_bit m j]; exact hd3
      clear hd3 hb3
      go_wp2
      go_roundw
      case rel => exact ⟨j, (j : Int) - 1, rfl, rfl, by omega, .inl hnj, HH⟩
      case measure => simp [intOf]
    · have HE : Hid (m / 2 ^ k = m / 2 ^ n) := by
        unfold Hid
        rcases hnk.out with h | h
        · rw [show k = n by omega]
        · have h1 : m < 2 ^ k := by rw [h, ← HA.out]; exact lt_bl m
          rw [Nat.div_eq_of_lt h1, Nat.div_eq_of_lt (Nat.lt_of_lt_of_le h1 (Nat.pow_le_pow_right (by omega) (by omega)))]
      have hzn : z < n := by have := hz.out; omega
      clear hz hnk
      go_wp2
      go_loop [9, 10] (fun r i => ∃ (b : Bool) (j : Nat), r = .bool b ∧ i = .int .i64 j ∧ j ≤ n) (fun _ i => n - (intOf i).toNat)
      case atStart => exact ⟨false, 0, rfl, rfl, Nat.zero_le _⟩
      case round =>
        obtain ⟨b, j, rfl, rfl, hj⟩ := hrel
        by_cases h1 : j < n
        · by_cases h2 : j < all
          · cases b
            · have HBit := Lib.hid (fun w (h : Dg w v m) => bit_any h HS.out j (by omega))
              go_wp2_with fail
              refine (HBit.out _ (HV.out.below hh.out.2)).mono ?_
              rintro e w2 ⟨rfl, rfl⟩
              go_wp2
              go_round
              case rel => exact ⟨_, j + 1, rfl, by go_num, by omega⟩
              case measure => simp [intOf]; omega
            · go_wp2
              go_round
              case rel => exact ⟨_, j + 1, rfl, by go_num, by omega⟩
              case measure => simp [intOf]; omega
          · have h3 : all ≤ j := by omega
            have HH : Hid (Dg wr u7 (m / 2 ^ n)) := by rw [← HE.out]; exact hh.out.1
            go_wp2
            go_ret2
            exact ⟨_, _, rfl, HH.out, hh.out.2⟩
        · have h3 : n ≤ j := by omega
          have HH : Hid (Dg wr u7 (m / 2 ^ n)) := by rw [← HE.out]; exact hh.out.1
          go_wp2
          go_ret2
          exact ⟨_, _, rfl, HH.out, hh.out.2⟩

end Go.Proofs.Ytbknkcfnhfolpaa
