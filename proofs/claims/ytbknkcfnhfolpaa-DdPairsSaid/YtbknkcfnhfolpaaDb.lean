/-
  ref01's Bits, Bit, Cmp: what they return.
-/
import Derived.Test.YtbknkcfnhfolpaaDa
namespace Go.Proofs.Ytbknkcfnhfolpaa
open Go.RowKit

theorem ret_i64 {a b : Int} (h : a = b) : Ending.returned (.int .i64 a) = .returned (.int .i64 b) := by rw [h]
theorem ret_u32 {a b : Int} (h : a = b) : Ending.returned (.int .u32 a) = .returned (.int .u32 b) := by rw [h]

set_option maxHeartbeats 1000000 in
theorem bits_any {n : Nat} {v : Value} {w : World} (h : Dg w v n) (hs : Sm n) :
    Calls Try.prog 13 #[v] w fun e w' => e = .returned (.int .i64 (bl n : Nat)) ∧ w = w' := by
  obtain ⟨L, hL, hc⟩ := h
  have hlen := hs.len hc
  obtain ⟨a, c, rfl, hcell⟩ := hL.form
  by_cases hn : n = 0
  · subst hn
    obtain rfl := hc.zero
    clear hcell hL hc hs hlen
    go_enter Try.func13, Try.ntmps13
    go_wp2
    go_ret
    exact ⟨rfl, rfl⟩
  · have hp := hc.pos hn
    obtain ⟨hb, hd⟩ := bl_digits hc hn
    have hd2 := dg_lt hc.digs (L.length - 1)
    obtain ⟨b, off, rfl, hc2⟩ := hcell (by omega)
    have hc3 := hc2 (L.length - 1) _ (dg_get (by omega))
    clear hc2 hcell hL hc hs hn
    generalize dg L (L.length - 1) = d at *
    obtain ⟨m, hm⟩ : ∃ m, L.length = m + 1 := ⟨L.length - 1, by omega⟩
    have hm1 : L.length - 1 = m := by omega
    have hm2 : m ≤ 62500 := by omega
    have hbd := bl_le (n := d) (k := 16) (by omega)
    rw [hm1] at hb hc3
    rw [hm]
    have HB := Lib.hid hb
    clear hm hlen hp hb hm1
    have e1 : (((m + 1 : Nat) : Int) == 0) = false := by simp; omega
    have e2 : (((m + 1 : Nat) : Int) - 1) = m := by omega
    go_enter Try.func13, Try.ntmps13
    go_wp2
    go_loop [3, 4] (fun r x => ∃ (k y : Nat), r = .int .i64 k ∧ x = .int .u32 y ∧ y < 65536 ∧ k ≤ 16 * m + 16 ∧ Hid (k + bl y = bl n)) (fun _ x => (intOf x).toNat)
    case atStart => exact ⟨16 * m, d, by go_num, rfl, hd2, by omega, by rw [Hid, HB.out]⟩
    case round =>
      obtain ⟨k, y, rfl, rfl, hy, hk, hh⟩ := hrel
      by_cases h0 : 0 < y
      · have h2 := bl_half h0
        have HH : Hid (k + 1 + bl (y / 2) = bl n) := by have := hh.out; unfold Hid; omega
        have hk2 : k + 1 ≤ 16 * m + 16 := by have := HH.out; have := HB.out; omega
        clear h2
        go_wp2
        go_round
        case rel => exact ⟨k + 1, y / 2, by go_num, by go_num, by omega, hk2, HH⟩
        case measure => simp [intOf]; omega
      · obtain rfl : y = 0 := by omega
        have HE : Hid (k = bl n) := by have := hh.out; rw [bl_zero] at this; exact this
        go_wp2
        go_ret
        exact ⟨ret_i64 (by rw [HE.out]), rfl⟩

def bitN (n i : Nat) : Nat := n / 2 ^ i % 2
theorem bitN_lt (n i : Nat) : bitN n i < 2 := Nat.mod_lt _ (by decide)

set_option maxHeartbeats 1000000 in
theorem bit_any {n : Nat} {v : Value} {w : World} (h : Dg w v n) (hs : Sm n) (i : Nat) (hi : i ≤ 2000000) :
    Calls Try.prog 49 #[v, .int .i64 i] w fun e w' => e = .returned (.int .u32 (bitN n i : Nat)) ∧ w = w' := by
  obtain ⟨L, hL, hc⟩ := h
  have hlen := hs.len hc
  obtain ⟨a, c, rfl, hcell⟩ := hL.form
  have hbit : bitN n i = dg L (i / 16) / 2 ^ (i % 16) % 2 := bit_digits hc.digs hc.val i
  by_cases hn : L.length ≤ i / 16
  · rw [dg_out hn] at hbit
    have HE : Hid (0 = bitN n i) := by rw [Hid, hbit]; simp
    have hge : (L.length : Int) ≤ (i : Int) / 16 := by omega
    clear hcell hL hc hs hbit
    go_enter Try.func49, Try.ntmps49
    go_wp2
    go_ret
    exact ⟨ret_u32 (by rw [← HE.out]; rfl), rfl⟩
  · have hd2 := dg_lt hc.digs (i / 16)
    obtain ⟨b, off, rfl, hc2⟩ := hcell (by omega)
    have hc3 := hc2 (i / 16) _ (dg_get (by omega))
    have HB := Lib.hid hbit
    clear hc2 hcell hL hc hs hbit
    generalize dg L (i / 16) = d at *
    obtain ⟨q, hq⟩ : ∃ q, q = i / 16 := ⟨_, rfl⟩
    obtain ⟨r, hr⟩ : ∃ r, r = i % 16 := ⟨_, rfl⟩
    have hi16 : i = 16 * q + r := by omega
    rw [← hq] at hc3 hn
    rw [← hr] at HB
    have hr16 : r < 16 := by omega
    have hq2 : q < L.length := by omega
    clear hq hr hn
    have e1 : ((i : Int) / 16) = q := by omega
    have e2 : ((i : Int) % 16) = r := by omega
    have HI := Lib.hid hi16
    clear hi16
    go_enter Try.func49, Try.ntmps49
    go_wp2
    go_loop [5, 6] (fun x k => ∃ (j y : Nat), k = .int .i64 j ∧ x = .int .u32 y ∧ y < 65536 ∧ j ≤ r ∧ Hid (y = d / 2 ^ j)) (fun _ k => r - (intOf k).toNat)
    case atStart => exact ⟨0, d, rfl, rfl, hd2, by omega, by simp [Hid]⟩
    case round =>
      obtain ⟨j, y, rfl, rfl, hy, hj, hh⟩ := hrel
      by_cases h0 : j < r
      · have HH : Hid (y / 2 = d / 2 ^ (j + 1)) := by rw [Hid, hh.out, half_pow]
        go_wp2
        go_round
        case rel => exact ⟨j + 1, y / 2, by go_num, by go_num, by omega, by omega, HH⟩
        case measure => simp [intOf]; omega
      · have HE : Hid (y % 2 = bitN n i) := by
          have h1 := hh.out
          have h2 := HB.out
          have h3 : j = r := by omega
          rw [Hid, h1, h2, h3]
        have hge : r ≤ j := by omega
        go_wp2
        go_ret
        exact ⟨ret_u32 (by rw [← HE.out]; rfl), rfl⟩

set_option maxHeartbeats 1000000 in
theorem cmp_any {m n : Nat} {u v : Value} {w : World} (h : Dg w u m) (k : Dg w v n) (hs : Sm m) :
    Calls Try.prog 37 #[u, v] w fun e w' => e = .returned (.int .i64 (cmpN m n)) ∧ Below w.heap.size w w' := by
  obtain ⟨L, hL, hc⟩ := h
  obtain ⟨K, hK, kc⟩ := k
  have hlen := hs.len hc
  obtain ⟨a, c, rfl, hcell⟩ := hL.form
  obtain ⟨a', c', rfl, kcell⟩ := hK.form
  by_cases hn : L.length = K.length
  · have e1 : ((L.length : Int) != (K.length : Int)) = false := by simp [hn]
    have HC := Lib.hid hcell
    have HK := Lib.hid kcell
    have HL := Lib.hid hc
    have HM := Lib.hid kc
    have HN := Lib.hid hn
    clear hcell kcell hL hK hc kc hs hn
    go_enter Try.func37, Try.ntmps37
    go_wp2
    go_loopw [5] (fun i wr => ∃ (k : Nat) (z : Int), i = .int .i64 z ∧ Hid (z = (k : Int) - 1) ∧ k ≤ L.length ∧ Hid (Below w.heap.size w wr) ∧ Hid (ofd (L.drop k) = ofd (K.drop k))) (fun i _ => (intOf i + 1).toNat)
    case atStart => exact ⟨L.length, _, rfl, rfl, Nat.le_refl _, Below.refl _ _, by rw [Hid, drop_all (Nat.le_refl _), drop_all (by rw [HN.out]; exact Nat.le_refl _)]⟩
    case round =>
      obtain ⟨k, z, rfl, hz, hk, hb, hh⟩ := hrel
      rcases k with _ | j
      · obtain rfl : z = -1 := hz.out
        have HE : Hid (cmpN m n = 0) := cmpN_eq (by rw [← HL.out.val, ← HM.out.val]; exact hh.out)
        clear hz
        go_wp2
        go_ret
        exact ⟨ret_i64 (by rw [HE.out]), hb.out⟩
      · obtain rfl : z = (j : Int) := by have := hz.out; omega
        clear hz
        have hlt : j < L.length := by omega
        have hlt2 : j < K.length := by have := HN.out; omega
        obtain ⟨b1, o1, rfl, hc1⟩ := HC.out (by omega)
        obtain ⟨b2, o2, rfl, hc2⟩ := HK.out (by omega)
        have c1 := cell_below hb.out (Nat.le_refl _) (hc1 j _ (dg_get hlt))
        have c2 := cell_below hb.out (Nat.le_refl _) (hc2 j _ (dg_get hlt2))
        have d1 := dg_lt HL.out.digs j
        have d2 := dg_lt HM.out.digs j
        have s1 := fun h => cmp_step HL.out.digs (ys := K) (i := j) hh.out h
        have s2 := fun h => cmp_step HM.out.digs (ys := L) (i := j) hh.out.symm h
        rw [HL.out.val, HM.out.val] at s1 s2
        have HE := Lib.hid (drop_dg L j)
        have HF := Lib.hid (drop_dg K j)
        generalize dg L j = x at *
        generalize dg K j = y at *
        have S1 := Lib.hid s1
        have S2 := Lib.hid s2
        clear hc1 hc2 s1 s2 HC HK
        rcases Nat.lt_trichotomy x y with hxy | hxy | hxy
        · have HR : Hid (cmpN m n = -1) := cmpN_lt (S1.out hxy)
          go_wp2
          go_quiet (fail)
          go_wp2
          go_ret
          exact ⟨ret_i64 (by rw [HR.out]), below_drewN' hb.out _⟩
        · subst hxy
          have HR : Hid (ofd (L.drop j) = ofd (K.drop j)) := by rw [Hid, HE.out, HF.out, hh.out]
          have hxx : decide (x < x) = false := by simp
          go_wp2
          go_quiet (fail)
          go_wp2
          go_quiet (fail)
          go_wp2
          go_roundw
          case rel => exact ⟨j, (j : Int) - 1, rfl, rfl, by omega, below_drewN' hb.out _, HR⟩
          case measure => simp [intOf]
        · have HR : Hid (cmpN m n = 1) := cmpN_gt (S2.out hxy)
          have hxy' : decide (x < y) = false := by simp; omega
          go_wp2
          go_quiet (fail)
          go_wp2
          go_quiet (fail)
          go_wp2
          go_ret
          exact ⟨ret_i64 (by rw [HR.out]), below_drewN' (below_drewN' hb.out _) _⟩
  · have e1 : ((L.length : Int) != (K.length : Int)) = true := by simp; omega
    have HR : Hid (L.length < K.length ∧ cmpN m n = -1 ∨ K.length < L.length ∧ cmpN m n = 1) := by
      rcases Nat.lt_or_ge L.length K.length with h | h
      · exact .inl ⟨h, cmpN_lt (hc.len_lt kc h)⟩
      · exact .inr ⟨by omega, cmpN_gt (kc.len_lt hc (by omega))⟩
    clear hcell kcell hL hK hc kc hs hn
    rcases HR.out with ⟨h1, h2⟩ | ⟨h1, h2⟩
    · have H2 := Lib.hid h2
      clear h2 HR
      go_enter Try.func37, Try.ntmps37
      go_wp2
      go_ret
      exact ⟨ret_i64 (by rw [H2.out]), Below.refl _ _⟩
    · have H2 := Lib.hid h2
      clear h2 HR
      have h3 : decide (L.length < K.length) = false := by simp; omega
      go_enter Try.func37, Try.ntmps37
      go_wp2
      go_ret
      exact ⟨ret_i64 (by rw [H2.out]), Below.refl _ _⟩

end Go.Proofs.Ytbknkcfnhfolpaa
