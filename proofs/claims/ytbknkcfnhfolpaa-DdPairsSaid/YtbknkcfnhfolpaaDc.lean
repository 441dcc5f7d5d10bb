/-
  ref01's Norm, Shl, Shr: what they return.
-/
import Derived.Test.YtbknkcfnhfolpaaDb
import Derived.Test.YtbknkcfnhfolpaaOwn
namespace Go.Proofs.Ytbknkcfnhfolpaa
open Go.RowKit

theorem Sm.mono {m n : Nat} (h : Sm n) (hm : m ≤ n) : Sm m := by
  unfold Sm at *
  have := lt_bl n
  exact Nat.le_trans (bl_le (n := m) (k := bl n) (by omega)) h

theorem dvl_one (xs : List Nat) : ∀ u ∈ dvl xs, u.oneCell' = true := by
  intro u hu
  obtain ⟨x, _, rfl⟩ := List.mem_map.1 hu
  rfl

/-- cells of digits, as 'wpList_apps' asks them -/
theorem form_cells {w : World} {a : Option Addr} {xs : List Nat} (hc : 0 < xs.length → ∃ b off, a = some ⟨b, off, none⟩ ∧ ∀ (i x : Nat), xs[i]? = some x → w.cell? ⟨b, off + i, none⟩ = some (.int .u32 (x : Int))) (k : Nat) (hk : k ≤ xs.length) {w' : World} (hw : ∀ p u, w.cell? p = some u → w'.cell? p = some u) :
    Hid (0 < k → ∃ b off, a = some ⟨b, off, none⟩ ∧ ∀ j u, (dvl (xs.take k))[j]? = some u → w'.cell? ⟨b, off + j, none⟩ = some u) := by
  intro h0
  obtain ⟨b, off, rfl, h⟩ := hc (by omega)
  refine ⟨b, off, rfl, fun j u hu => ?_⟩
  rw [dvl, List.getElem?_map] at hu
  obtain ⟨x, hx, rfl⟩ := Option.map_eq_some_iff.1 hu
  rw [List.getElem?_take] at hx
  split at hx
  · exact hw _ _ (h j x hx)
  · cases hx

theorem keep_alloc {w : World} (o : Obj) : ∀ p u, w.cell? p = some u → (w.alloc o).cell? p = some u := fun p _ hp => (World.cell?_alloc_lt w o p (cell_lt hp)).trans hp

/-- the length is within the capacity -/
def Capd (v : Value) : Prop := ∃ a n c, v = .slice a n c ∧ n ≤ c
theorem Capd.of_own {w : World} {B : Nat} {e : TypeId} {v : Value} {n : Nat} {xs : List Value} (h : w.ownsRow B e 1 v n xs) : Capd v := by
  rcases h.2 with ⟨rfl, _⟩ | ⟨g, cap, cur, rfl, _, _, h, _⟩
  · exact ⟨_, _, _, rfl, Nat.le_refl _⟩
  · exact ⟨_, _, _, rfl, h⟩

set_option maxHeartbeats 1000000 in
theorem norm_any {L : List Nat} {v : Value} {w : World} (hL : Sl w v (dvl L)) (hd : Digs L) (hlen : L.length ≤ 1000000) (hcap : Capd v) :
    Calls Try.prog 42 #[v] w fun e w' => ∃ u, e = .returned u ∧ Dg w' u (ofd L) ∧ Below w.heap.size w w' := by
  obtain ⟨a, c, rfl, hcell⟩ := hL.form
  obtain ⟨_, _, _, he, hcap⟩ := hcap
  injection he with e0 e1 e2
  subst e0 e1 e2
  have HC := Lib.hid hcell
  have HD := Lib.hid hd
  clear hcell hL hd
  go_enter Try.func42, Try.ntmps42
  go_wp2
  go_loop [3] (fun i => ∃ (k : Nat), i = .int .i64 k ∧ k ≤ L.length ∧ Hid (ofd (L.drop k) = 0)) (fun i => (intOf i).toNat)
  case atStart => exact ⟨L.length, rfl, Nat.le_refl _, drop_all (Nat.le_refl _)⟩
  case round =>
    obtain ⟨k, rfl, hk, hh⟩ := hrel
    have fin : ∀ (k : Nat), k ≤ L.length → Hid (ofd (L.drop k) = 0) → (k = 0 ∨ 0 < dg L (k - 1)) → Hid (∀ (w1 : World) v1, w1.ownsRow w.heap.size 52 1 v1 k (dvl (L.take k)) → Dg w1 v1 (ofd L)) := by
      intro k hk hz ht w1 v1 ho
      exact ⟨L.take k, Sl.of_own ho, Can.norm HD.out hz.out ht hk⟩
    rcases k with _ | j
    · have HF := fin 0 hk hh (.inl rfl)
      have hb0 := (Below.refl w.heap.size w).alloc (Nat.le_refl _) (.cells #[] 52)
      have ho := own_lit0 w 52
      clear fin
      rcases a with _ | a
      all_goals
        go_wp2_with (at_builtin; refine wpList_apps rfl (.tmp 18) (.tmp 21) 30 rfl w.heap.size 52 (.int .u32 0) 4 Try.underlying30 Try.info52 rfl (by decide) _ 0 [] rfl _ 0 _ (dvl (L.take 0)) rfl rfl (fun h => absurd h (by decide)) (dvl_one _) ho hb0 hb0.size (by omega) ?_)
        intro v1 w1 ho1 hb1 _
        have HG := Lib.hid (HF.out w1 v1 (by have := ho1.out; simpa using this))
        clear ho1 ho
        go_wp2
        go_ret
        exact ⟨_, rfl, HG.out, hb1⟩
    · obtain ⟨b, off, rfl, hc2⟩ := HC.out (by omega)
      have hc3 := hc2 j _ (dg_get (by omega))
      clear hc2
      have hd2 := dg_lt HD.out j
      have e1 : ((↑(j + 1) : Int) - 1) = j := by omega
      by_cases hz : dg L j = 0
      · have HH : Hid (ofd (L.drop j) = 0) := by rw [Hid, drop_dg, hz, hh.out]
        rw [hz] at hc3
        have hc4 : w.cell? ⟨b, off + j, none⟩ = some (.int .u32 0) := hc3
        have hjl : j < L.length := by omega
        clear fin hz hd2 hc3
        go_wp2
        go_round
        case rel => exact ⟨j, rfl, by omega, HH⟩
        case measure => simp [intOf]
      · have HF := fin (j + 1) hk hh (.inr (by rw [Nat.add_sub_cancel]; omega))
        have hc0 := form_cells HC.out (j + 1) hk (w' := w.alloc (.cells #[] 52)) (keep_alloc _)
        have hb0 := (Below.refl w.heap.size w).alloc (Nat.le_refl _) (.cells #[] 52)
        have ho := own_lit0 w 52
        have hlt : (dvl (L.take (j + 1))).length = j + 1 := by rw [dvl_length, List.length_take, Nat.min_eq_left hk]
        generalize dg L j = d at *
        have e2 : ((d : Int) == 0) = false := by simp; omega
        have hjl : j < L.length := by omega
        have hjc : (j : Int) + 1 ≤ c := by omega
        have hj0 : 0 ≤ (j : Int) + 1 := by omega
        clear fin
        go_wp2_with (at_builtin; refine wpList_apps rfl (.tmp 18) (.tmp 21) 30 rfl w.heap.size 52 (.int .u32 0) 4 Try.underlying30 Try.info52 rfl (by decide) _ 0 [] rfl _ (j + 1) _ (dvl (L.take (j + 1))) rfl hlt hc0 (dvl_one _) ho hb0 hb0.size (by omega) ?_)
        intro v1 w1 ho1 hb1 _
        have HG := Lib.hid (HF.out w1 v1 (by have := ho1.out; simpa using this))
        clear ho1 ho
        go_wp2
        go_ret
        exact ⟨_, rfl, HG.out, hb1⟩


set_option maxHeartbeats 1000000 in
theorem shl_any {m : Nat} {v : Value} {w : World} (h : Dg w v m) (n : Nat) (hs : Sm (m * 2 ^ n)) (hn : n ≤ 1000000) :
    Calls Try.prog 35 #[v, .int .i64 n] w fun e w' => ∃ u, e = .returned u ∧ Dg w' u (m * 2 ^ n) ∧ Below w.heap.size w w' := by
  obtain ⟨L, hL, hc⟩ := h
  by_cases hm : m = 0
  · subst hm
    obtain rfl := hc.zero
    obtain ⟨a, c, rfl, hcell⟩ := hL.form
    have HZ : Hid (∀ w, Dg w (.slice none 0 0) (0 * 2 ^ n)) := fun w => by rw [Nat.zero_mul]; exact Dg.nil w
    clear hcell hL hc hs
    go_enter Try.func35, Try.ntmps35
    go_wp2
    go_ret
    exact ⟨_, rfl, HZ.out _, Below.refl _ _⟩
  · have hp := hc.pos hm
    have hlen := (hs.mono (Nat.le_mul_of_pos_right m (Nat.two_pow_pos n))).len hc
    obtain ⟨a, c, rfl, hcell⟩ := hL.form
    have HC := Lib.hid hcell
    have HD := Lib.hid hc
    have HS := Lib.hid hs
    obtain ⟨q, hq⟩ : ∃ q, q = n / 16 := ⟨_, rfl⟩
    obtain ⟨r, hr⟩ : ∃ r, r = n % 16 := ⟨_, rfl⟩
    have hn16 : n = 16 * q + r := by omega
    have hr16 : r < 16 := by omega
    have hq2 : q ≤ 62500 := by omega
    clear hq hr hcell hL hc hs
    have e1 : ((n : Int) / 16) = q := by omega
    have e2 : ((n : Int) % 16) = r := by omega
    have e3 : ((L.length : Int) == 0) = false := by rw [beq_eq_false_iff_ne]; omega
    have HN := Lib.hid hn16
    clear hn16
    have HZ : Hid (∀ (w1 : World) v1, w1.ownsRow w.heap.size 52 1 v1 (q + L.length) (List.replicate q (.int .u32 0) ++ dvl (L.take L.length)) → Dg w1 v1 (m * 2 ^ (16 * q))) := by
      intro w1 v1 ho
      have h1 := Sl.of_own ho
      have e : List.replicate q (Value.int .u32 0) = dvl (List.replicate q 0) := by simp [dvl]
      rw [e, ← dvl_app, List.take_length] at h1
      refine ⟨_, h1, Can.mk_top ?_ ?_ ?_⟩
      · intro d hd
        rw [List.mem_append] at hd
        rcases hd with hd | hd
        · obtain ⟨_, rfl⟩ := List.mem_replicate.1 hd; decide
        · exact HD.out.digs d hd
      · rw [ofd_app, ofd_zeros, List.length_replicate, HD.out.val, pow16]
        rw [Nat.zero_add, Nat.mul_comm]
      · intro _
        rw [List.length_append, List.length_replicate, show q + L.length - 1 = (L.length - 1) + q by omega, Nat.pow_add, pow16 q]
        exact Nat.mul_le_mul_right _ (HD.out.top (List.length_pos_iff.1 hp))
    go_enter Try.func35, Try.ntmps35
    go_wp2_with (refine wpList_mk (w0 := w) rfl (.tmp 11) 30 rfl w.heap.size 52 (.int .u32 0) 4 Try.underlying30 Try.info52 rfl (by decide) _ _ q rfl rfl (by omega) (Below.refl _ _) (Nat.le_refl _) ?_)
    intro w1 ho1 hb1 hB1
    have hc1 := form_cells HC.out L.length (Nat.le_refl _) (w' := w1) (fun p u hp => cell_below hb1 (Nat.le_refl _) hp)
    have hlt : (dvl (L.take L.length)).length = L.length := by rw [dvl_length, List.take_length]
    have hO := ho1.out
    clear ho1
    go_wp2_with (at_builtin; refine wpList_apps rfl (.tmp 12) (.tmp 13) 30 rfl w.heap.size 52 (.int .u32 0) 4 Try.underlying30 Try.info52 rfl (by decide) _ _ _ rfl _ L.length _ (dvl (L.take L.length)) rfl hlt hc1 (dvl_one _) hO hb1 hB1 (by omega) ?_)
    intro v2 w2 ho2 hb2 hB2
    have HG := Lib.hid (HZ.out w2 v2 (by have := ho2.out; simpa using this))
    clear ho2 hO hc1 hlt HC hb1 hB1
    go_wp2
    go_loopw [5, 6] (fun out i wr => ∃ (j : Nat), i = .int .i64 j ∧ j ≤ r ∧ Hid (Dg wr out (m * 2 ^ (16 * q + j)) ∧ Below w.heap.size w wr)) (fun _ i _ => r - (intOf i).toNat)
    case atStart => exact ⟨0, rfl, Nat.zero_le _, HG.out, hb2⟩
    case round =>
      obtain ⟨j, rfl, hj, hh⟩ := hrel
      by_cases hlt : j < r
      · have hsm : Sm (m * 2 ^ (16 * q + j)) := HS.out.mono (Nat.mul_le_mul_left _ (Nat.pow_le_pow_right (by omega) (by have := HN.out; omega)))
        have HM := Lib.hid hsm
        clear hsm
        go_wp2_with fail
        refine (double_any (more := 0) hh.out.1 HM.out (by omega)).mono ?_
        rintro e w3 ⟨u, rfl, hd3, hb3⟩
        have HH : Hid (Dg w3 u (m * 2 ^ (16 * q + (j + 1))) ∧ Below w.heap.size w w3) := by
          refine ⟨?_, hh.out.2.trans (hb3.mono hh.out.2.size)⟩
          rw [show m * 2 ^ (16 * q + (j + 1)) = 2 * (m * 2 ^ (16 * q + j)) + 0 by rw [← Nat.add_assoc, Nat.pow_succ, ← Nat.mul_assoc]; omega]
          exact hd3
        clear hd3 hb3
        go_wp2
        go_roundw
        case rel => exact ⟨j + 1, by go_num, by omega, HH⟩
        case measure => simp [intOf]; omega
      · have HH : Hid (Dg wr u5 (m * 2 ^ n) ∧ Below w.heap.size w wr) := by
          have h1 := HN.out
          have h2 : j = r := by omega
          rw [h1, ← h2]; exact hh
        have hge : r ≤ j := by omega
        go_wp2
        go_ret
        exact ⟨_, rfl, HH.out.1, HH.out.2⟩

end Go.Proofs.Ytbknkcfnhfolpaa
