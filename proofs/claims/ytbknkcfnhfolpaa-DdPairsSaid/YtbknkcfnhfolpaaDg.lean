/-
  ref01's Sub: what it returns.
-/
import Derived.Test.YtbknkcfnhfolpaaDc
namespace Go.Proofs.Ytbknkcfnhfolpaa
open Go.RowKit

theorem ofd_set (xs : List Nat) (k y : Nat) (hk : k < xs.length) : ofd (xs.set k y) + 65536 ^ k * dg xs k = ofd xs + 65536 ^ k * y := by
  induction xs generalizing k with
  | nil => simp at hk
  | cons x xs ih =>
    rcases k with _ | k
    · simp [ofd, dg]; omega
    · have h := ih k (by simpa using hk)
      rw [List.set_cons_succ, ofd, ofd, Nat.pow_succ]
      have e : dg (x :: xs) (k + 1) = dg xs k := by simp [dg]
      rw [e, Nat.mul_comm (65536 ^ k) 65536, Nat.mul_assoc, Nat.mul_assoc]
      omega
theorem dvl_set (xs : List Nat) (k y : Nat) : (dvl xs).set k (.int .u32 (y : Int)) = dvl (xs.set k y) := by
  unfold dvl; rw [List.map_set]
theorem Digs.set {xs : List Nat} (h : Digs xs) {k y : Nat} (hy : y < 65536) : Digs (xs.set k y) := by
  intro d hd
  rcases List.mem_or_eq_of_mem_set hd with hd | hd
  · exact h d hd
  · omega
theorem own_form {w : World} {B : Nat} {e : TypeId} {v : Value} {n : Nat} {xs : List Value} (h : w.ownsRow B e 1 v n xs) : ∃ a c, v = .slice a n c := by
  rcases h.2 with ⟨rfl, h0⟩ | ⟨g, cap, cur, rfl, _⟩
  · subst h0
    exact ⟨_, _, rfl⟩
  · exact ⟨_, _, rfl⟩

/-- one column of a difference -/
theorem col_sub {O O' P x y T d c b m : Nat} (hs : O' + P * x = O + P * y) (h : O + T = m + P * c) (hy : y + (c + d) = x + 65536 * b) : O' + (T + P * d) = m + P * 65536 * b := by
  have h1 : P * (y + (c + d)) = P * (x + 65536 * b) := by rw [hy]
  rw [Nat.mul_add, Nat.mul_add, Nat.mul_add, ← Nat.mul_assoc] at h1
  omega

/-- Sub's invariant -/
structure Subs (K : List Nat) (m la : Nat) (w wr : World) (out : Value) (O : List Nat) (k c : Nat) : Prop where
  own : wr.ownsRow w.heap.size 52 1 out la (dvl O)
  digs : Digs O
  sum : ofd O + ofd (K.take k) = m + 65536 ^ k * c
  b : Below w.heap.size w wr

theorem Subs.step {K : List Nat} {m la g cap : Nat} {w wr : World} {O : List Nat} {k c : Nat} (h : Subs K m la w wr (.slice (some ⟨g, 0, none⟩) la cap) O k c) (hk : k < la) (hg : w.heap.size ≤ g) (y b : Nat) (u : Value)
    (hy : y + (c + dg K k) = dg O k + 65536 * b) (hy2 : y < 65536) (hu : u = .int .u32 (y : Int)) : Subs K m la w (wr.setCell ⟨g, k, none⟩ u) (.slice (some ⟨g, 0, none⟩) la cap) (O.set k y) (k + 1) b := by
  subst hu
  refine ⟨?_, h.digs.set hy2, ?_, h.b.setCell hg _⟩
  · rw [← dvl_set]; exact (h.own.stored k _).1
  · rw [take_dg, Nat.pow_succ]
    exact col_sub (ofd_set O k y (by rw [own_len h.own]; exact hk)) h.sum hy

/-- a store ahead changes nothing of it -/
theorem Subs.step2 {K : List Nat} {m la g cap : Nat} {w wr : World} {O : List Nat} {k c : Nat} (h : Subs K m la w wr (.slice (some ⟨g, 0, none⟩) la cap) O k c) (hk : k < la) (hg : w.heap.size ≤ g) (y b : Nat) (u' u : Value)
    (hy : y + (c + dg K k) = dg O k + 65536 * b) (hy2 : y < 65536) (hu : u = .int .u32 (y : Int)) : Subs K m la w ((wr.setCell ⟨g, k, none⟩ u').setCell ⟨g, k, none⟩ u) (.slice (some ⟨g, 0, none⟩) la cap) (O.set k y) (k + 1) b := by
  subst hu
  refine ⟨?_, h.digs.set hy2, ?_, (h.b.setCell hg _).setCell hg _⟩
  · have := ((h.own.stored k u').1.stored k (.int .u32 (y : Int))).1
    rw [List.set_set, dvl_set] at this
    exact this
  · rw [take_dg, Nat.pow_succ]
    exact col_sub (ofd_set O k y (by rw [own_len h.own]; exact hk)) h.sum hy

theorem Subs.fin {L K : List Nat} {m n la : Nat} {w wr : World} {out : Value} {O : List Nat} {c : Nat} (hc : Can L m) (kc : Can K n) (hla : la = L.length) (hmn : n ≤ m) (h : Subs K m la w wr out O la c) (hc1 : c ≤ 1) : ofd O = m - n := by
  have hlen : K.length ≤ la := by
    apply Nat.le_of_not_lt; intro hlt
    have := hc.len_lt kc (by omega)
    omega
  have h1 := h.sum
  rw [take_all hlen, kc.val] at h1
  have h2 := ofd_lt h.digs
  rw [own_len h.own] at h2
  rcases Nat.eq_zero_or_pos c with h0 | h0
  · subst h0; omega
  · obtain rfl : c = 1 := by omega
    omega

set_option maxHeartbeats 4000000 in
theorem sub_any {m n : Nat} {u v : Value} {w : World} (h : Dg w u m) (k : Dg w v n) (hs : Sm m) (hmn : n ≤ m) :
    Calls Try.prog 38 #[u, v] w fun e w' => ∃ u, e = .returned u ∧ Dg w' u (m - n) ∧ Below w.heap.size w w' := by
  obtain ⟨L, hL, hc⟩ := h
  obtain ⟨K, hK, kc⟩ := k
  have hlen := hs.len hc
  have klen := (hs.mono hmn).len kc
  obtain ⟨a, c, rfl, hcell⟩ := hL.form
  obtain ⟨a', c', rfl, kcell⟩ := hK.form
  have HL := Lib.hid hc
  have HM := Lib.hid kc
  have HK := Lib.hid kcell
  have hc0 := form_cells hcell L.length (Nat.le_refl _) (w' := w.alloc (.cells #[] 52)) (keep_alloc _)
  rw [List.take_length] at hc0
  have hlt : (dvl L).length = L.length := dvl_length L
  have hb0 := (Below.refl w.heap.size w).alloc (Nat.le_refl _) (.cells #[] 52)
  have ho := own_lit0 w 52
  clear hcell kcell hL hK hc kc hs
  go_enter Try.func38, Try.ntmps38
  go_wp2_with (at_builtin; refine wpList_apps rfl (.tmp 9) (.tmp 10) 30 rfl w.heap.size 52 (.int .u32 0) 4 Try.underlying30 Try.info52 rfl (by decide) _ 0 [] rfl _ L.length _ (dvl L) rfl hlt hc0 (dvl_one _) ho hb0 hb0.size (by omega) ?_)
  intro v1 w1 ho1 hb1 _
  have hS : Hid (Subs K m L.length w w1 v1 L 0 0) := ⟨by have := ho1.out; simpa using this, HL.out.digs, by simp [ofd, HL.out.val], hb1⟩
  obtain ⟨ad, cap, rfl⟩ := own_form hS.out.own
  clear ho1 hb1 ho hb0 hc0 hlt
  go_wp2
  go_loopw [6, 7] (fun cc i wr => ∃ (k c : Nat) (O : List Nat), i = .int .i64 k ∧ cc = .int .u32 c ∧ k ≤ L.length ∧ c ≤ 1 ∧ Hid (Subs K m L.length w wr (.slice ad L.length cap) O k c)) (fun _ i _ => L.length - (intOf i).toNat)
  case atStart => exact ⟨0, 0, L, rfl, rfl, by omega, by omega, hS⟩
  case round =>
    obtain ⟨k, cc, O, rfl, rfl, hk, hcc, hh⟩ := hrel
    by_cases hkl : k < L.length
    · obtain ⟨g, cap', he, hg, _⟩ := hh.out.own.form (by omega)
      injection he with e0 e1 e2
      subst e0 e2
      clear e1
      have hx : wr.cell? ⟨g, k, none⟩ = some (.int .u32 (dg O k : Nat)) := by
        rw [hh.out.own.cellAt k (by omega)]
        exact dvl_get (dg_get (by rw [own_len hh.out.own]; exact hkl))
      have hfz := hh.out.own.frozenAt k
      have hdx := dg_lt hh.out.digs k
      have HST := Lib.hid (fun y b u h1 h2 h3 => hh.out.step hkl hg y b u h1 h2 h3)
      have HST2 := Lib.hid (fun y b u' u h1 h2 h3 => hh.out.step2 hkl hg y b u' u h1 h2 h3)
      generalize hD : dg O k = x at hx hdx HST HST2
      clear hD
      by_cases h2 : k < K.length
      · have d2 := dg_lt HM.out.digs k
        obtain ⟨b2, o2, rfl, hc2⟩ := HK.out (by omega)
        have x2 : wr.cell? ⟨b2, o2 + k, none⟩ = some (.int .u32 (dg K k : Nat)) := cell_below hh.out.b (Nat.le_refl _) (hc2 k _ (dg_get h2))
        clear hc2
        generalize dg K k = y at d2 x2 HST HST2
        by_cases hbr : x < cc + y
        · go_wp2
          have HH := Lib.hid (HST2.out (x + 65536 - (cc + y)) 1 (.int .u32 ((x : Int) + 65536)) (.int .u32 ((x : Int) + 65536 - ((cc : Int) + y))) (by omega) (by omega) (by congr 1; omega))
          go_roundw
          case rel => exact ⟨k + 1, 1, _, by go_num, rfl, by omega, by omega, HH⟩
          case measure => simp [intOf]; omega
        · have hge : cc + y ≤ x := by omega
          go_wp2
          have HH := Lib.hid (HST.out (x - (cc + y)) 0 (.int .u32 ((x : Int) - ((cc : Int) + y))) (by omega) (by omega) (by congr 1; omega))
          go_roundw
          case rel => exact ⟨k + 1, 0, _, by go_num, rfl, by omega, by omega, HH⟩
          case measure => simp [intOf]; omega
      · have z2 : dg K k = 0 := dg_out (by omega)
        rw [z2] at HST HST2
        have g2 : decide (k < K.length) = false := decide_eq_false h2
        clear z2
        by_cases hbr : x < cc
        · go_wp2
          have HH := Lib.hid (HST2.out (x + 65536 - (cc)) 1 (.int .u32 ((x : Int) + 65536)) (.int .u32 ((x : Int) + 65536 - (cc : Int))) (by omega) (by omega) (by congr 1; omega))
          go_roundw
          case rel => exact ⟨k + 1, 1, _, by go_num, rfl, by omega, by omega, HH⟩
          case measure => simp [intOf]; omega
        · have hge : cc ≤ x := by omega
          go_wp2
          have HH := Lib.hid (HST.out (x - (cc)) 0 (.int .u32 ((x : Int) - (cc : Int))) (by omega) (by omega) (by congr 1; omega))
          go_roundw
          case rel => exact ⟨k + 1, 0, _, by go_num, rfl, by omega, by omega, HH⟩
          case measure => simp [intOf]; omega
    · obtain rfl : k = L.length := by omega
      have HF := Lib.hid (Subs.fin HL.out HM.out rfl hmn hh.out hcc)
      have hge : L.length ≤ L.length := Nat.le_refl _
      go_wp2_with fail
      refine (norm_any (Sl.of_own hh.out.own) hh.out.digs (by rw [own_len hh.out.own]; omega) (Capd.of_own hh.out.own)).mono ?_
      rintro e w2 ⟨u, rfl, hd2, hb2⟩
      have HG : Hid (Dg w2 u (m - n) ∧ Below w.heap.size w w2) := ⟨by rw [← HF.out]; exact hd2, hh.out.b.trans (hb2.mono hh.out.b.size)⟩
      clear hd2 hb2
      go_wp2
      go_ret
      exact ⟨_, rfl, HG.out.1, HG.out.2⟩

end Go.Proofs.Ytbknkcfnhfolpaa
