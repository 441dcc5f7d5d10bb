/-
  What New and TakeAll of a budget return, and what they leave.
-/
import Derived.Test.YtpofnljcjoplnaaBudget
import Derived.RegionTactic
import Derived.BigRegion
namespace Go.Proofs.Ytpofnljcjoplnaa
open Go.RowKit Go.Conc

theorem new_no (n : Int) (w : World) (h : n < 0 ∨ 4096 < n) : Calls Try.prog 18 #[.int .i64 n] w fun e w' => e = .returned (.tuple #[.pointer none, .int .i64 1]) ∧ w = w' := by
  rcases h with h | h
  · go_enter Try.func18, Try.ntmps18
    go_wp2
    go_ret2
    exact ⟨rfl, rfl⟩
  · have h2 : ¬ n < 0 := by omega
    go_enter Try.func18, Try.ntmps18
    go_wp2
    go_ret2
    exact ⟨rfl, rfl⟩

theorem Try.info75 : (Try.prog.info? 75).map (fun i => (i.zero, i.size, i.bytes)) = some (some (.agg #[]), 0, 0) := by kernel_rfl

theorem bud_new {w W : World} {B C D n : Nat} (h1 : W.heap[B]? = some (.cells #[.chan (some C), .chan (some D)] 74 (0, 0))) (h2 : W.heap[C]? = some (.chan n #[] false 0 0 false)) (h3 : W.heap[D]? = some (.chan 0 #[] false 0 0 false)) (hne : C ≠ D)
    (hb : Below w.heap.size w W) (g1 : w.heap.size ≤ B) (g2 : w.heap.size ≤ C) (g3 : w.heap.size ≤ D) :
    Hid (Bud W B C D n 0 true ∧ Below w.heap.size w W ∧ w.heap.size ≤ B ∧ w.heap.size ≤ C ∧ w.heap.size ≤ D) :=
  ⟨⟨h1, ⟨#[], 0, 0, h2, rfl⟩, ⟨0, 0, h3⟩, hne, Nat.zero_le _⟩, hb, g1, g2, g3⟩

theorem heap_new3 (w : World) (o1 o2 o3 : Obj) : (((w.alloc o1).alloc o2).alloc o3).drew.heap[w.heap.size]? = some o1 ∧ (((w.alloc o1).alloc o2).alloc o3).drew.heap[w.heap.size + 1]? = some o2 ∧
    (((w.alloc o1).alloc o2).alloc o3).drew.heap[w.heap.size + 1 + 1]? = some o3 ∧ Below w.heap.size w (((w.alloc o1).alloc o2).alloc o3).drew := by
  have e1 := heap_alloc_new w o1
  have e2 := heap_alloc_new (w.alloc o1) o2
  have e3 := heap_alloc_new ((w.alloc o1).alloc o2) o3
  simp only [World.size_alloc] at e2 e3
  refine ⟨?_, ?_, e3, ((((Below.refl _ _).alloc (Nat.le_refl _) _).alloc (by simp) _).alloc (by simp; omega) _).drew⟩
  · show ((w.alloc o1).alloc o2).alloc o3 |>.heap[w.heap.size]? = _
    rw [Below.heap_alloc _ _ _ (by simp; omega), Below.heap_alloc _ _ _ (by simp)]; exact e1
  · show ((w.alloc o1).alloc o2).alloc o3 |>.heap[w.heap.size + 1]? = _
    rw [Below.heap_alloc _ _ _ (by simp)]; exact e2

def budMeas (n : Nat) (a : Act) : Nat := n - (intOf (a.tmps.getD 17 undef)).toNat
def NewPost (w : World) (n : Nat) (e : Ending) (w' : World) : Prop := ∃ B C D, e = .returned (.tuple #[.pointer (some ⟨B, 0, none⟩), .int .i64 0]) ∧
    Bud w' B C D n n true ∧ w.heap.size ≤ B ∧ w.heap.size ≤ C ∧ w.heap.size ≤ D ∧ Below w.heap.size w w'

set_option maxHeartbeats 1000000 in
theorem new_yes (n : Nat) (w : World) (h : n ≤ 4096) : Calls Try.prog 18 #[.int .i64 n] w (NewPost w n) := by
  obtain ⟨i0, hi, hz0, hz1, hz2⟩ := info_parts Try.info75
  have hmk := fun W => run_makeChan (P := Try.prog) (w := W) Try.underlying72 hi .i64 n (by omega) (by rw [hz2]; omega)
  have hmk0 := fun W => run_makeChan (P := Try.prog) (w := W) Try.underlying72 hi .i64 0 (by omega) (by rw [hz2]; omega)
  clear hi hz0 hz1 hz2
  simp only [Int.natCast_zero] at hmk0
  have h0 : decide ((n : Int) < 0) = false := by simp
  have h1 : decide (4096 < (n : Int)) = false := by simp; omega
  refine calls_of_wpN Try.func18 rfl ?_
  simp only [Try.ntmps18, List.size_toArray, List.length_cons, List.length_nil, Nat.reduceAdd, Nat.reduceSub, Array.replicate_succ, Array.replicate_zero, List.push_toArray, List.append_toArray, List.nil_append, List.cons_append]
  refine wpN_seq_wp fun K hK => ?_
  go_wp2
  refine wpN_seq_wp fun K hK => ?_
  go_wp2
  refine wpN_seq_wp fun K hK => ?_
  go_wp2
  go_region
  · obtain ⟨g1, g2, g3, gb⟩ := heap_new3 w (.chan n #[] false 0 0 false) (.chan 0 #[] false 0 0 false) (.cells #[.chan (some w.heap.size), .chan (some (w.heap.size + 1))] 74)
    have hbud := bud_new g3 g1 g2 (by omega) gb (by omega) (by omega) (by omega)
    clear g1 g2 g3 gb hmk hmk0
    refine hK _ _ ?_
    clear hK K
    generalize (((w.alloc (.chan n #[] false 0 0 false)).alloc (.chan 0 #[] false 0 0 false)).alloc (.cells #[.chan (some w.heap.size), .chan (some (w.heap.size + 1))] 74)).drew = W at hbud ⊢
    generalize w.heap.size + 1 + 1 = B at hbud ⊢
    generalize w.heap.size + 1 = X at hbud ⊢
    refine wpN_seq fun K hK => ?_
    refine wpN_seq_wp fun K1 hK1 => ?_
    go_wp2
    refine wpN_block ?_
    refine wpN_loop (fun a wr => ∃ (k : Nat) (u18 u19 u20 u21 u22 u23 u24 : Value), k ≤ n ∧ Hid (Bud wr B w.heap.size X n k true ∧ Below w.heap.size w wr) ∧ a = { tmps := #[.int .i64 n, undef, .pointer none, .int .i64 0, .pointer (some ⟨B, 0, none⟩), .int .i64 n, .bool false, .bool false, .int .i64 n, .bool false, .bool false, .int .i64 n, .chan (some w.heap.size), .chan (some X), .agg #[.chan (some w.heap.size), .chan (some X)], .pointer (some ⟨B, 0, none⟩), .int .i64 n, .int .i64 k, u18, u19, u20, u21, u22, u23, u24, undef], defers := [] }) (fun a _ => budMeas n a) ?_ ?_
    · exact ⟨0, _, _, _, _, _, _, _, Nat.zero_le _, ⟨hbud.out.1, hbud.out.2.1⟩, rfl⟩
    · rintro a wr ⟨k, u18, u19, u20, u21, u22, u23, u24, hk, hb, rfl⟩ K2 hK2
      have c0 := hb.out.1.cell0
      refine wpN_seq_wp fun K3 hK3 => ?_
      go_wp2
      refine wpN_seq_wp fun K3 hK3 => ?_
      by_cases hlt : (k : Int) < n
      · go_wp2
        refine wpN_seq fun K3 hK3 => ?_
        refine wpN_block ?_
        refine wpN_region ?_
        refine opsN_val rfl rfl fun V hV => ?_
        go_simp
        refine hV _ _ ?_
        clear hV V
        refine opsN_val rfl rfl fun V hV => ?_
        go_simp
        refine hV _ _ ?_
        clear hV V
        refine opsN_val rfl rfl fun V hV => ?_
        go_simp
        refine hV _ _ ?_
        clear hV V
        refine opsN_val rfl rfl fun V hV => ?_
        go_simp
        refine hV _ _ ?_
        clear hV V
        refine opsN_val rfl rfl fun V hV => ?_
        go_simp
        refine hV _ _ ?_
        clear hV V
        obtain ⟨buf, s', r', hc, hl⟩ := hb.out.1.hC
        refine opsN_send (c := w.heap.size) (v := .agg #[]) (z' := .tuple #[]) rfl rfl ?hr hc (by omega) ?_
        case hr =>
          go_simp
          rfl
        refine opsN_nil ?_
        have hb2 : Hid (Bud (wr.setChan w.heap.size n (buf.push (.agg #[])) false (s' + 1) r' false) B w.heap.size X n (k + 1) true ∧ Below w.heap.size w (wr.setChan w.heap.size n (buf.push (.agg #[])) false (s' + 1) r' false)) := by
          have g := hb.out.1.setC (buf.push (.agg #[])) (s' + 1) r' (by simp; omega)
          rw [show (buf.push (Value.agg #[])).size = k + 1 by simp; omega] at g
          exact ⟨g, Chg.below hb.out.2 (by have := hb.out.2.size; omega) (Chg.setChan _ _ _ _ _ _ _ _) (fun i hi => by have := hbud.out.2.2.2.1; omega)⟩
        generalize wr.setChan w.heap.size n (buf.push (.agg #[])) false (s' + 1) r' false = w2 at hb2 ⊢
        go_simp
        refine hK3 _ _ (wpN_of_wp ?_)
        go_wp2
        refine ⟨⟨k + 1, _, _, _, _, _, _, _, by omega, hb2, rfl⟩, ?_⟩
        simp [budMeas, intOf]; omega
      · have hge : (n : Int) ≤ k := by omega
        have hkn : k = n := by omega
        have hb2 : Hid (Bud wr B w.heap.size X n n true ∧ Below w.heap.size w wr) := by rw [hkn] at hb; exact hb
        clear hb hkn
        go_wp2
        refine wpN_of_wp ?_
        go_wp2
        go_ret2
        exact ⟨B, w.heap.size, X, rfl, hb2.out.1, hbud.out.2.2.1, hbud.out.2.2.2.1, hbud.out.2.2.2.2, hb2.out.2⟩
  · obtain ⟨g1, g2, g3, gb⟩ := heap_new3 w (.chan 0 #[] false 0 0 false) (.chan n #[] false 0 0 false) (.cells #[.chan (some (w.heap.size + 1)), .chan (some w.heap.size)] 74)
    have hbud := bud_new g3 g2 g1 (by omega) gb (by omega) (by omega) (by omega)
    clear g1 g2 g3 gb hmk hmk0
    refine hK _ _ ?_
    clear hK K
    generalize (((w.alloc (.chan 0 #[] false 0 0 false)).alloc (.chan n #[] false 0 0 false)).alloc (.cells #[.chan (some (w.heap.size + 1)), .chan (some w.heap.size)] 74)).drew = W at hbud ⊢
    generalize w.heap.size + 1 + 1 = B at hbud ⊢
    generalize w.heap.size + 1 = X at hbud ⊢
    refine wpN_seq fun K hK => ?_
    refine wpN_seq_wp fun K1 hK1 => ?_
    go_wp2
    refine wpN_block ?_
    refine wpN_loop (fun a wr => ∃ (k : Nat) (u18 u19 u20 u21 u22 u23 u24 : Value), k ≤ n ∧ Hid (Bud wr B X w.heap.size n k true ∧ Below w.heap.size w wr) ∧ a = { tmps := #[.int .i64 n, undef, .pointer none, .int .i64 0, .pointer (some ⟨B, 0, none⟩), .int .i64 n, .bool false, .bool false, .int .i64 n, .bool false, .bool false, .int .i64 n, .chan (some X), .chan (some w.heap.size), .agg #[.chan (some X), .chan (some w.heap.size)], .pointer (some ⟨B, 0, none⟩), .int .i64 n, .int .i64 k, u18, u19, u20, u21, u22, u23, u24, undef], defers := [] }) (fun a _ => budMeas n a) ?_ ?_
    · exact ⟨0, _, _, _, _, _, _, _, Nat.zero_le _, ⟨hbud.out.1, hbud.out.2.1⟩, rfl⟩
    · rintro a wr ⟨k, u18, u19, u20, u21, u22, u23, u24, hk, hb, rfl⟩ K2 hK2
      have c0 := hb.out.1.cell0
      refine wpN_seq_wp fun K3 hK3 => ?_
      go_wp2
      refine wpN_seq_wp fun K3 hK3 => ?_
      by_cases hlt : (k : Int) < n
      · go_wp2
        refine wpN_seq fun K3 hK3 => ?_
        refine wpN_block ?_
        refine wpN_region ?_
        refine opsN_val rfl rfl fun V hV => ?_
        go_simp
        refine hV _ _ ?_
        clear hV V
        refine opsN_val rfl rfl fun V hV => ?_
        go_simp
        refine hV _ _ ?_
        clear hV V
        refine opsN_val rfl rfl fun V hV => ?_
        go_simp
        refine hV _ _ ?_
        clear hV V
        refine opsN_val rfl rfl fun V hV => ?_
        go_simp
        refine hV _ _ ?_
        clear hV V
        refine opsN_val rfl rfl fun V hV => ?_
        go_simp
        refine hV _ _ ?_
        clear hV V
        obtain ⟨buf, s', r', hc, hl⟩ := hb.out.1.hC
        refine opsN_send (c := X) (v := .agg #[]) (z' := .tuple #[]) rfl rfl ?hr hc (by omega) ?_
        case hr =>
          go_simp
          rfl
        refine opsN_nil ?_
        have hb2 : Hid (Bud (wr.setChan X n (buf.push (.agg #[])) false (s' + 1) r' false) B X w.heap.size n (k + 1) true ∧ Below w.heap.size w (wr.setChan X n (buf.push (.agg #[])) false (s' + 1) r' false)) := by
          have g := hb.out.1.setC (buf.push (.agg #[])) (s' + 1) r' (by simp; omega)
          rw [show (buf.push (Value.agg #[])).size = k + 1 by simp; omega] at g
          exact ⟨g, Chg.below hb.out.2 (by have := hb.out.2.size; omega) (Chg.setChan _ _ _ _ _ _ _ _) (fun i hi => by have := hbud.out.2.2.2.1; omega)⟩
        generalize wr.setChan X n (buf.push (.agg #[])) false (s' + 1) r' false = w2 at hb2 ⊢
        go_simp
        refine hK3 _ _ (wpN_of_wp ?_)
        go_wp2
        refine ⟨⟨k + 1, _, _, _, _, _, _, _, by omega, hb2, rfl⟩, ?_⟩
        simp [budMeas, intOf]; omega
      · have hge : (n : Int) ≤ k := by omega
        have hkn : k = n := by omega
        have hb2 : Hid (Bud wr B X w.heap.size n n true ∧ Below w.heap.size w wr) := by rw [hkn] at hb; exact hb
        clear hb hkn
        go_wp2
        refine wpN_of_wp ?_
        go_wp2
        go_ret2
        exact ⟨B, X, w.heap.size, rfl, hb2.out.1, hbud.out.2.2.1, hbud.out.2.2.2.1, hbud.out.2.2.2.2, hb2.out.2⟩

/-! TakeAll -/
theorem takeAll_nil (n : Int) (w : World) : Calls Try.prog 21 #[.pointer none, .int .i64 n] w fun e w' => e = .returned (.int .i64 0) ∧ w = w' := by
  by_cases h : 0 < n
  · go_enter Try.func21, Try.ntmps21
    go_wp2
    refine wp_loop_rounds 1 ?_
    rw [rounds_succ]
    go_wp2_with (go_at_call 20; refine (take_nil _).mono ?_; rintro e w' ⟨rfl, rfl⟩)
    go_ret
    exact ⟨rfl, rfl⟩
  · go_enter Try.func21, Try.ntmps21
    go_wp2
    refine wp_loop_rounds 1 ?_
    rw [rounds_succ]
    go_wp2
    go_ret
    exact ⟨rfl, rfl⟩

section
variable {w : World} {B C D most left : Nat}
theorem takeAll_shut (n : Int) (h : Bud w B C D most left false) : Calls Try.prog 21 #[.pointer (some ⟨B, 0, none⟩), .int .i64 n] w fun e w' => e = .returned (.int .i64 0) ∧ w = w' := by
  have H := Lib.hid h
  clear h
  by_cases h : 0 < n
  · go_enter Try.func21, Try.ntmps21
    go_wp2
    refine wp_loop_rounds 1 ?_
    rw [rounds_succ]
    go_wp2_with (go_at_call 20; refine (take_shut H.out).mono ?_; rintro e w' ⟨rfl, rfl⟩)
    go_ret
    exact ⟨rfl, rfl⟩
  · go_enter Try.func21, Try.ntmps21
    go_wp2
    refine wp_loop_rounds 1 ?_
    rw [rounds_succ]
    go_wp2
    go_ret
    exact ⟨rfl, rfl⟩

/-- How many TakeAll takes. -/
def taken (n : Int) (left : Nat) : Nat := min n.toNat left

set_option maxHeartbeats 400000 in
theorem takeAll_open (n : Int) (h : Bud w B C D most left true) (hm : most ≤ 4096) : Calls Try.prog 21 #[.pointer (some ⟨B, 0, none⟩), .int .i64 n] w fun e w' => e = .returned (.int .i64 (taken n left)) ∧ Bud w' B C D most (left - taken n left) true ∧ Chg (· = C) w w' := by
  have hle := h.le
  have H := Lib.hid h
  clear h
  go_enter Try.func21, Try.ntmps21
  go_wp2
  go_loopw [5] (fun i wr => ∃ k : Nat, i = .int .i64 k ∧ k ≤ left ∧ k ≤ n.toNat ∧ Hid (Bud wr B C D most (left - k) true ∧ Chg (· = C) w wr)) (fun i _ => left - (intOf i).toNat)
  case atStart => exact ⟨0, rfl, Nat.zero_le _, Nat.zero_le _, H.out, Chg.refl _ _⟩
  case round =>
    obtain ⟨k, rfl, hk, hkn, hb⟩ := hrel
    by_cases hlt : (k : Int) < n
    · by_cases hl : k < left
      · have hd : Hid (decide (0 < left - k) = true) := by simp [Hid]; omega
        go_wp2_with (go_at_call 20; refine (take_bud hb.out.1).mono ?_; rw [hd.out]; rintro e w1 ⟨rfl, hb1, hc1, _⟩)
        have hb2 : Hid (Bud w1 B C D most (left - (k + 1)) true ∧ Chg (· = C) w w1) := ⟨hb1, hb.out.2.trans (hc1.mono (fun _ _ h => h))⟩
        clear hb1 hc1
        go_wp2
        go_roundw
        case rel => exact ⟨k + 1, by go_num, by omega, by omega, hb2⟩
        case measure => simp [intOf]; omega
      · have hd : Hid (decide (0 < left - k) = false) := by simp [Hid]; omega
        go_wp2_with (go_at_call 20; refine (take_bud hb.out.1).mono ?_; rw [hd.out]; rintro e w1 ⟨rfl, hb1, hc1, _⟩)
        have e1 : k = taken n left := by unfold taken; omega
        have hb2 : Hid (Bud w1 B C D most (left - taken n left) true ∧ Chg (· = C) w w1) := ⟨by rw [← e1, show left - k = left - k - 1 by omega]; exact hb1, hb.out.2.trans (hc1.mono (fun _ _ h => h))⟩
        have HE := Lib.hid e1
        clear e1 hb1 hc1
        go_ret
        exact ⟨by rw [← HE.out]; rfl, hb2.out.1, hb2.out.2⟩
    · have e1 : k = taken n left := by unfold taken; omega
      have hb2 : Hid (Bud _ B C D most (left - taken n left) true ∧ Chg (· = C) w _) := ⟨by rw [← e1]; exact hb.out.1, hb.out.2⟩
      have HE := Lib.hid e1
      clear e1
      go_wp2
      go_ret
      exact ⟨by rw [← HE.out]; rfl, hb2.out.1, hb2.out.2⟩
end
end Go.Proofs.Ytpofnljcjoplnaa
