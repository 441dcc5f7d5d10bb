/-
  What the methods of a budget do to it: Open, Take, Give, Shut, Left, of any budget and of nil.
-/
import Derived.Test.YtpofnljcjoplnaaChan
import Derived.Test.YtpofnljcjoplnaaRows
import Derived.Conc.LoneSelectN
namespace Go.Proofs.Ytpofnljcjoplnaa
open Go.RowKit Go.Conc

/-- Of the blocks that were there only those of S may have turned. -/
structure Chg (S : Nat → Prop) (w w' : World) : Prop where
  os : w'.os = w.os
  tape : w'.tape = w.tape
  output : w'.output = w.output
  size : w.heap.size ≤ w'.heap.size
  block : ∀ k, k < w.heap.size → ¬ S k → w'.heap[k]? = w.heap[k]?
theorem Chg.refl (S : Nat → Prop) (w : World) : Chg S w w := ⟨rfl, rfl, rfl, Nat.le_refl _, fun _ _ _ => rfl⟩
theorem Chg.trans {S : Nat → Prop} {a b c : World} (h : Chg S a b) (k : Chg S b c) : Chg S a c :=
  ⟨k.os.trans h.os, k.tape.trans h.tape, k.output.trans h.output, Nat.le_trans h.size k.size, fun i hi hn => (k.block i (Nat.lt_of_lt_of_le hi h.size) hn).trans (h.block i hi hn)⟩
theorem Chg.mono {S T : Nat → Prop} {a b : World} (h : Chg S a b) (hs : ∀ k, k < a.heap.size → S k → T k) : Chg T a b :=
  ⟨h.os, h.tape, h.output, h.size, fun i hi hn => h.block i hi (fun x => hn (hs i hi x))⟩
theorem Chg.of_below {S : Nat → Prop} {a b : World} (h : Below a.heap.size a b) : Chg S a b := ⟨h.os, h.tape, h.output, h.size, fun i hi _ => h.block i hi⟩
theorem Chg.below {S : Nat → Prop} {B : Nat} {a w w' : World} (h : Below B a w) (hB : B ≤ w.heap.size) (k : Chg S w w') (hs : ∀ i, S i → B ≤ i) : Below B a w' :=
  h.trans ⟨k.os, k.tape, k.output, k.size, fun i hi => k.block i (by omega) (fun x => by have := hs i x; omega)⟩
theorem Chg.setChan (w : World) (c cap : Nat) (buf : Array Value) (cl : Bool) (s r : Nat) (tm : Bool) : Chg (· = c) w (w.setChan c cap buf cl s r tm) :=
  ⟨rfl, rfl, rfl, by simp [World.setChan], fun k _ hn => by simp only [World.setChan]; rw [Array.getElem?_setIfInBounds_ne (fun e => hn e.symm)]⟩

/-- What a budget is in memory. -/
structure Bud (w : World) (B C D most left : Nat) (opn : Bool) : Prop where
  hB : w.heap[B]? = some (.cells #[.chan (some C), .chan (some D)] 74 (0, 0))
  hC : ∃ (buf : Array Value) (s r : Nat), w.heap[C]? = some (.chan most buf false s r false) ∧ buf.size = left
  hD : ∃ s r : Nat, w.heap[D]? = some (.chan 0 #[] (!opn) s r false)
  ne : C ≠ D
  le : left ≤ most

section
variable {w : World} {B C D most left : Nat} {opn : Bool}
theorem heap_lt {w : World} {k : Nat} {o : Obj} (h : w.heap[k]? = some o) : k < w.heap.size := (Array.getElem?_eq_some_iff.1 h).1
theorem Bud.cell0 (h : Bud w B C D most left opn) : w.cell? ⟨B, 0, none⟩ = some (.chan (some C)) := by
  rw [cell_of_row w B 0 _ _ _ h.hB]; rfl
theorem Bud.cell1 (h : Bud w B C D most left opn) : w.cell? ⟨B, 1, none⟩ = some (.chan (some D)) := by
  rw [cell_of_row w B 1 _ _ _ h.hB]; rfl
theorem Bud.ltB (h : Bud w B C D most left opn) : B < w.heap.size := heap_lt h.hB
theorem Bud.ltC (h : Bud w B C D most left opn) : C < w.heap.size := by obtain ⟨_, _, _, h, _⟩ := h.hC; exact heap_lt h
theorem Bud.ltD (h : Bud w B C D most left opn) : D < w.heap.size := by obtain ⟨_, _, h⟩ := h.hD; exact heap_lt h
theorem Bud.neBC (h : Bud w B C D most left opn) : B ≠ C := by
  obtain ⟨_, _, _, h', _⟩ := h.hC
  rintro rfl; have := h.hB; rw [h'] at this; cases this
theorem Bud.neBD (h : Bud w B C D most left opn) : B ≠ D := by
  obtain ⟨_, _, h'⟩ := h.hD
  rintro rfl; have := h.hB; rw [h'] at this; cases this
theorem Bud.keep (h : Bud w B C D most left opn) {w' : World} {S : Nat → Prop} (k : Chg S w w') (h1 : ¬ S B) (h2 : ¬ S C) (h3 : ¬ S D) : Bud w' B C D most left opn := by
  obtain ⟨buf, s, r, hc, hl⟩ := h.hC
  obtain ⟨s', r', hd⟩ := h.hD
  exact ⟨(k.block B h.ltB h1).trans h.hB, ⟨buf, s, r, (k.block C h.ltC h2).trans hc, hl⟩, ⟨s', r', (k.block D h.ltD h3).trans hd⟩, h.ne, h.le⟩
theorem Bud.setC (h : Bud w B C D most left opn) (buf : Array Value) (s r : Nat) (hl : buf.size ≤ most) : Bud (w.setChan C most buf false s r false) B C D most buf.size opn := by
  have k := Chg.setChan w C most buf false s r false
  obtain ⟨s', r', hd⟩ := h.hD
  exact ⟨(k.block B h.ltB h.neBC).trans h.hB, ⟨buf, s, r, heap_setChan w C most buf false s r false h.ltC, rfl⟩, ⟨s', r', (k.block D h.ltD h.ne.symm).trans hd⟩, h.ne, hl⟩
theorem Bud.setD (h : Bud w B C D most left opn) (s r : Nat) : Bud (w.setChan D 0 #[] true s r false) B C D most left false := by
  have k := Chg.setChan w D 0 #[] true s r false
  obtain ⟨buf, s', r', hc, hl⟩ := h.hC
  exact ⟨(k.block B h.ltB h.neBD).trans h.hB, ⟨buf, s', r', (k.block C h.ltC h.ne).trans hc, hl⟩, ⟨s, r, heap_setChan w D 0 #[] true s r false h.ltD⟩, h.ne, h.le⟩

theorem open_nil (w : World) : Calls Try.prog 25 #[.pointer none] w fun e w' => e = .returned (.bool false) ∧ w = w' := by
  go_enter Try.func25, Try.ntmps25
  go_wp2
  go_ret
  exact ⟨rfl, rfl⟩

theorem open_bud (h : Bud w B C D most left opn) :
    Calls Try.prog 25 #[.pointer (some ⟨B, 0, none⟩)] w fun e w' => e = .returned (.bool opn) ∧ w = w' := by
  have c1 := h.cell1
  obtain ⟨s, r, hD⟩ := h.hD
  clear h
  refine calls_of_wpN Try.func25 rfl ?_
  rw [Try.ntmps25]
  change wpN _ _ _ { tmps := #[.pointer (some ⟨B, 0, none⟩), undef, undef, undef, undef, undef, undef, undef, undef, undef, undef, undef], defers := [] } _
  refine wpN_seq_wp fun K hK => ?_
  go_wp2
  refine wpN_seq_wp fun K hK => ?_
  go_wp2
  refine wpN_seq_wp fun K hK => ?_
  go_wp2
  refine wpN_seq fun K hK => ?_
  refine wpN_region ?_
  cases opn with
  | true =>
    refine opsN_sel_none (c := D) (z := .agg #[]) rfl rfl ?hr hD ?_
    case hr => simp [go_sem, execOp, rcase, Act.eval]
    refine opsN_rest 1 rfl ?_
    simp only [List.drop_succ_cons, List.drop_zero]
    go_wp2
    refine wpN_of_wp ?_
    go_wp2
    go_ret
    exact ⟨rfl, rfl⟩
  | false =>
    refine opsN_sel_shut (c := D) (z := .agg #[]) rfl rfl ?hr hD ?_
    case hr => simp [go_sem, execOp, rcase, Act.eval]
    refine opsN_rest 1 rfl ?_
    simp only [List.drop_succ_cons, List.drop_zero]
    go_wp2
    refine wpN_of_wp ?_
    go_wp2
    go_ret
    exact ⟨rfl, rfl⟩

theorem take_nil (w : World) : Calls Try.prog 20 #[.pointer none] w fun e w' => e = .returned (.bool false) ∧ w = w' := by
  go_enter Try.func20, Try.ntmps20
  go_wp2_with (go_at_call 25; refine (open_nil _).mono ?_; rintro e w' ⟨rfl, rfl⟩)
  go_ret
  exact ⟨rfl, rfl⟩

theorem take_shut (h : Bud w B C D most left false) :
    Calls Try.prog 20 #[.pointer (some ⟨B, 0, none⟩)] w fun e w' => e = .returned (.bool false) ∧ w = w' := by
  have H := Lib.hid h
  clear h
  go_enter Try.func20, Try.ntmps20
  go_wp2_with (go_at_call 25; refine (open_bud H.out).mono ?_; rintro e w' ⟨rfl, rfl⟩)
  go_ret
  exact ⟨rfl, rfl⟩

theorem take_bud (h : Bud w B C D most left true) :
    Calls Try.prog 20 #[.pointer (some ⟨B, 0, none⟩)] w fun e w' => e = .returned (.bool (decide (0 < left))) ∧ Bud w' B C D most (left - 1) true ∧ Chg (· = C) w w' ∧ (left = 0 → w = w') := by
  have c0 := h.cell0
  obtain ⟨buf, s, r, hC, hl⟩ := h.hC
  have H := Lib.hid h
  clear h
  refine calls_of_wpN Try.func20 rfl ?_
  rw [Try.ntmps20]
  change wpN _ _ _ { tmps := #[.pointer (some ⟨B, 0, none⟩), undef, undef, undef, undef, undef, undef, undef, undef, undef, undef, undef, undef], defers := [] } _
  have HL := Lib.hid hl
  clear hl
  refine wpN_seq_wp fun K hK => ?_
  go_wp2
  refine wpN_seq_wp fun K hK => ?_
  go_wp2_with (go_at_call 25; refine (open_bud H.out).mono ?_; rintro e w' ⟨rfl, rfl⟩)
  refine wpN_seq_wp fun K hK => ?_
  go_wp2
  refine wpN_seq fun K hK => ?_
  refine wpN_region ?_
  by_cases h0 : left = 0
  · have hb0 : buf = #[] := by apply Array.eq_empty_of_size_eq_zero; rw [HL.out, h0]
    subst hb0
    refine opsN_sel_none (c := C) (z := .agg #[]) rfl rfl ?hr hC ?_
    case hr => simp [go_sem, execOp, rcase, Act.eval]
    refine opsN_rest 1 rfl ?_
    simp only [List.drop_succ_cons, List.drop_zero]
    go_wp2
    refine wpN_of_wp ?_
    go_wp2
    go_ret
    subst h0
    exact ⟨by simp, H.out, Chg.refl _ _, fun _ => rfl⟩
  · refine opsN_sel_recv (c := C) (z := .agg #[]) rfl rfl ?hr hC (by have := HL.out; omega) ?_
    case hr => simp [go_sem, execOp, rcase, Act.eval]
    have h1 := H.out.setC (buf.extract 1 buf.size) s (r + 1) (by have := H.out.le; have := HL.out; simp; omega)
    have hsz : (buf.extract 1 buf.size).size = left - 1 := by have := HL.out; simp; omega
    rw [hsz] at h1
    have k1 := Chg.setChan w C most (buf.extract 1 buf.size) false s (r + 1) false
    generalize w.setChan C most (buf.extract 1 buf.size) false s (r + 1) false = w1 at h1 k1
    generalize buf.getD 0 undef = x
    have H1 := Lib.hid h1
    clear h1 hsz
    refine opsN_rest 1 rfl ?_
    simp only [List.drop_succ_cons, List.drop_zero]
    go_wp2
    refine wpN_of_wp ?_
    go_wp2
    go_ret
    exact ⟨by simp; omega, H1.out, k1, fun h => absurd h h0⟩

theorem give_nil (w : World) : Calls Try.prog 22 #[.pointer none] w fun e w' => e = .returned (.bool false) ∧ w = w' := by
  go_enter Try.func22, Try.ntmps22
  go_wp2
  go_ret
  exact ⟨rfl, rfl⟩

theorem give_room (h : Bud w B C D most left opn) (h0 : left < most) :
    Calls Try.prog 22 #[.pointer (some ⟨B, 0, none⟩)] w fun e w' => e = .returned (.bool true) ∧ Bud w' B C D most (left + 1) opn ∧ Chg (· = C) w w' := by
  have c0 := h.cell0
  obtain ⟨buf, s, r, hC, hl⟩ := h.hC
  have H := Lib.hid h
  clear h
  have HL := Lib.hid hl
  clear hl
  have H0 := Lib.hid h0
  clear h0
  refine calls_of_wpN Try.func22 rfl ?_
  rw [Try.ntmps22]
  change wpN _ _ _ { tmps := #[.pointer (some ⟨B, 0, none⟩), undef, undef, undef, undef, undef, undef, undef, undef, undef, undef, undef, undef], defers := [] } _
  refine wpN_seq_wp fun K hK => ?_
  go_wp2
  refine wpN_seq_wp fun K hK => ?_
  go_wp2
  refine wpN_seq_wp fun K hK => ?_
  go_wp2
  refine wpN_seq fun K hK => ?_
  refine wpN_region ?_
  refine opsN_sel_room (c := C) (v := .agg #[]) (z' := .agg #[]) rfl rfl ?hr hC (by have := HL.out; have := H0.out; omega) ?_
  case hr => simp [go_sem, execOp, scase, Act.eval]
  have h1 := H.out.setC (buf.push (.agg #[])) (s + 1) r (by have := HL.out; have := H0.out; simp; omega)
  have hsz : (buf.push (Value.agg #[])).size = left + 1 := by have := HL.out; simp; omega
  rw [hsz] at h1
  have k1 := Chg.setChan w C most (buf.push (.agg #[])) false (s + 1) r false
  generalize w.setChan C most (buf.push (.agg #[])) false (s + 1) r false = w1 at h1 k1 ⊢
  have H1 := Lib.hid h1
  clear h1 hsz
  refine opsN_rest 1 rfl ?_
  simp only [List.drop_succ_cons, List.drop_zero]
  go_wp2
  refine wpN_of_wp ?_
  go_wp2
  go_ret
  exact ⟨rfl, H1.out, k1⟩

theorem give_full (h : Bud w B C D most left opn) (h0 : ¬ left < most) :
    Calls Try.prog 22 #[.pointer (some ⟨B, 0, none⟩)] w fun e w' => e = .returned (.bool false) ∧ w = w' := by
  have c0 := h.cell0
  obtain ⟨buf, s, r, hC, hl⟩ := h.hC
  have H := Lib.hid h
  clear h
  have HL := Lib.hid hl
  clear hl
  have H0 := Lib.hid h0
  clear h0
  refine calls_of_wpN Try.func22 rfl ?_
  rw [Try.ntmps22]
  change wpN _ _ _ { tmps := #[.pointer (some ⟨B, 0, none⟩), undef, undef, undef, undef, undef, undef, undef, undef, undef, undef, undef, undef], defers := [] } _
  refine wpN_seq_wp fun K hK => ?_
  go_wp2
  refine wpN_seq_wp fun K hK => ?_
  go_wp2
  refine wpN_seq_wp fun K hK => ?_
  go_wp2
  refine wpN_seq fun K hK => ?_
  refine wpN_region ?_
  refine opsN_sel_full (c := C) (v := .agg #[]) (z' := .agg #[]) rfl rfl ?hr hC (by have := HL.out; have := H0.out; omega) ?_
  case hr => simp [go_sem, execOp, scase, Act.eval]
  refine opsN_rest 1 rfl ?_
  simp only [List.drop_succ_cons, List.drop_zero]
  go_wp2
  refine wpN_of_wp ?_
  go_wp2
  go_ret
  exact ⟨rfl, rfl⟩

theorem give_bud (h : Bud w B C D most left opn) :
    Calls Try.prog 22 #[.pointer (some ⟨B, 0, none⟩)] w fun e w' => e = .returned (.bool (decide (left < most))) ∧ Bud w' B C D most (if left < most then left + 1 else left) opn ∧ Chg (· = C) w w' := by
  by_cases h0 : left < most
  · refine (give_room h h0).mono ?_
    rintro e w' ⟨rfl, h1, h2⟩
    exact ⟨by simp [h0], by rw [if_pos h0]; exact h1, h2⟩
  · refine (give_full h h0).mono ?_
    rintro e w' ⟨rfl, rfl⟩
    exact ⟨by simp [h0], by rw [if_neg h0]; exact h, Chg.refl _ _⟩

theorem left_nil (w : World) : Calls Try.prog 24 #[.pointer none] w fun e w' => e = .returned (.int .i64 0) ∧ w = w' := by
  go_enter Try.func24, Try.ntmps24
  go_wp2
  go_ret
  exact ⟨rfl, rfl⟩

theorem left_bud (h : Bud w B C D most left opn) :
    Calls Try.prog 24 #[.pointer (some ⟨B, 0, none⟩)] w fun e w' => e = .returned (.int .i64 left) ∧ w = w' := by
  have c0 := h.cell0
  obtain ⟨buf, s, r, hC, rfl⟩ := h.hC
  have hlen := fun ty => run_len_chan (P := Try.prog) 72 ty Try.underlying72 hC
  clear h
  go_enter Try.func24, Try.ntmps24
  go_wp2
  go_ret
  exact ⟨rfl, rfl⟩

theorem shut_nil (w : World) : Calls Try.prog 23 #[.pointer none] w fun e w' => e = .returned (.bool false) ∧ w = w' := by
  go_enter Try.func23, Try.ntmps23
  go_wp2_with (go_at_call 25; refine (open_nil _).mono ?_; rintro e w' ⟨rfl, rfl⟩)
  go_ret
  exact ⟨rfl, rfl⟩

theorem shut_bud (h : Bud w B C D most left opn) :
    Calls Try.prog 23 #[.pointer (some ⟨B, 0, none⟩)] w fun e w' => e = .returned (.bool opn) ∧ Bud w' B C D most left false ∧ Chg (· = D) w w' := by
  have c1 := h.cell1
  obtain ⟨s, r, hD⟩ := h.hD
  have H := Lib.hid h
  clear h
  cases opn with
  | false =>
    go_enter Try.func23, Try.ntmps23
    go_wp2_with (go_at_call 25; refine (open_bud H.out).mono ?_; rintro e w' ⟨rfl, rfl⟩)
    go_ret
    exact ⟨rfl, H.out, Chg.refl _ _⟩
  | true =>
    have hcl := fun ats ty => run_close_open (P := Try.prog) (w := w) ats ty hD
    have h1 := H.out.setD s r
    have k1 := Chg.setChan w D 0 #[] true s r false
    simp only [World.setChan] at h1 k1
    generalize ({ w with heap := w.heap.setIfInBounds D (.chan 0 #[] true s r false) } : World) = w1 at hcl h1 k1
    have H1 := Lib.hid h1
    clear h1
    go_enter Try.func23, Try.ntmps23
    go_wp2_with (go_at_call 25; refine (open_bud H.out).mono ?_; rintro e w' ⟨rfl, rfl⟩)
    go_ret
    exact ⟨rfl, H1.out, k1⟩
end
end Go.Proofs.Ytpofnljcjoplnaa
