/-
  cascade.Go at numbers, asked with the closure of CascadeGoes, with a budget and without; and the document's Ends.
-/
import Derived.Test.YtpofnljcjoplnaaAlive
import Derived.Test.YtpofnljcjoplnaaBudgetNew
namespace Go.Proofs.Ytpofnljcjoplnaa
open Go.ChangeShapes Go.WideShapes Go.ChangeAt Go.RowKit

/-- How many tries there are, and how they end. -/
def endsOut (len : Nat) (tok at_ : Int) : Nat × Nat :=
  let n := if 0 ≤ tok ∧ tok < len then tok.toNat else len
  let e := if 0 ≤ tok ∧ tok < len then 1 else 2
  if 0 ≤ at_ ∧ at_ < n then (at_.toNat + 1, 0) else (n, e)

theorem ends29 (len : Nat) (tok at_ : Int) (w : World) (hl : len ≤ 60) : Calls Try.prog 29 #[.int .i64 len, .int .i64 tok, .int .i64 at_] w fun e w' =>
    e = .returned (.tuple #[.int .i64 (endsOut len tok at_).1, .int .i64 (endsOut len tok at_).2]) ∧ w = w' := by
  have hli : (len : Int) ≤ 60 := by omega
  by_cases h1 : 0 ≤ tok ∧ tok < len
  · have h1' := h1
    obtain ⟨g1, g2⟩ := h1'
    obtain ⟨t, rfl⟩ := Int.eq_ofNat_of_zero_le g1
    have ht : t < len := by omega
    by_cases h2 : 0 ≤ at_ ∧ at_ < t
    · obtain ⟨q1, q2⟩ := h2
      obtain ⟨a, rfl⟩ := Int.eq_ofNat_of_zero_le q1
      have hE : Hid (endsOut len t a = (a + 1, 0)) := by simp [Hid, endsOut, ht]; omega
      clear h1
      rw [hE.out]
      go_enter Try.func29, Try.ntmps29
      go_wp2
      go_ret2
      exact ⟨rfl, rfl⟩
    · have hE : Hid (endsOut len t at_ = (t, 1)) := by
        unfold Hid endsOut
        rw [if_pos h1, if_pos h1, if_neg]; rfl
        intro h; exact h2 ⟨h.1, by have := h.2; simp at this; exact this⟩
      rw [hE.out]
      clear h1
      by_cases h3 : 0 ≤ at_
      · have h4 : ¬ at_ < t := fun h => h2 ⟨h3, h⟩
        clear h2
        go_enter Try.func29, Try.ntmps29
        go_wp2
        go_ret2
        exact ⟨rfl, rfl⟩
      · clear h2
        go_enter Try.func29, Try.ntmps29
        go_wp2
        go_ret2
        exact ⟨rfl, rfl⟩
  · by_cases h2 : 0 ≤ at_ ∧ at_ < len
    · have hE : Hid (endsOut len tok at_ = (at_.toNat + 1, 0)) := by
        unfold Hid endsOut
        rw [if_neg h1, if_neg h1, if_pos h2]
      rw [hE.out]
      obtain ⟨q1, q2⟩ := h2
      obtain ⟨a, rfl⟩ := Int.eq_ofNat_of_zero_le q1
      by_cases h3 : 0 ≤ tok
      · have h4 : ¬ tok < len := fun h => h1 ⟨h3, h⟩
        clear h1
        go_enter Try.func29, Try.ntmps29
        go_wp2
        go_ret2
        exact ⟨rfl, rfl⟩
      · clear h1
        go_enter Try.func29, Try.ntmps29
        go_wp2
        go_ret2
        exact ⟨rfl, rfl⟩
    · have hE : Hid (endsOut len tok at_ = (len, 2)) := by
        unfold Hid endsOut
        rw [if_neg h1, if_neg h1, if_neg h2]
      rw [hE.out]
      by_cases h3 : 0 ≤ tok
      · have h4 : ¬ tok < len := fun h => h1 ⟨h3, h⟩
        clear h1
        by_cases h5 : 0 ≤ at_
        · have h6 : ¬ at_ < len := fun h => h2 ⟨h5, h⟩
          clear h2
          go_enter Try.func29, Try.ntmps29
          go_wp2
          go_ret2
          exact ⟨rfl, rfl⟩
        · clear h2
          go_enter Try.func29, Try.ntmps29
          go_wp2
          go_ret2
          exact ⟨rfl, rfl⟩
      · clear h1
        by_cases h5 : 0 ≤ at_
        · have h6 : ¬ at_ < len := fun h => h2 ⟨h5, h⟩
          clear h2
          go_enter Try.func29, Try.ntmps29
          go_wp2
          go_ret2
          exact ⟨rfl, rfl⟩
        · clear h2
          go_enter Try.func29, Try.ntmps29
          go_wp2
          go_ret2
          exact ⟨rfl, rfl⟩

/-- A block known whole. -/
def Blk (w : World) (g : Nat) (t : TypeId) (cs : Array Value) : Prop := w.heap[g]? = some (.cells cs t (0, 0))
theorem Blk.cell {w : World} {g : Nat} {t : TypeId} {cs : Array Value} (h : Blk w g t cs) (i : Nat) : w.cell? ⟨g, i, none⟩ = cs[i]? := cell_of_row w g i cs t (0, 0) h
theorem Blk.frozen {w : World} {g : Nat} {t : TypeId} {cs : Array Value} (h : Blk w g t cs) (i : Nat) : w.frozen? ⟨g, i, none⟩ = false := by
  simp only [Blk] at h; simp [World.frozen?, h]
theorem Blk.set {w : World} {g : Nat} {t : TypeId} {cs : Array Value} (h : Blk w g t cs) (i : Nat) (u : Value) : Blk (w.setCell ⟨g, i, none⟩ u) g t (cs.setIfInBounds i u) := by
  simp only [Blk] at h ⊢; simp [World.setCell, Array.getElem?_modify, h]
theorem Blk.lt {w : World} {g : Nat} {t : TypeId} {cs : Array Value} (h : Blk w g t cs) : g < w.heap.size := heap_lt h
theorem Chg.setCell {w w' : World} {S : Nat → Prop} (h : Chg S w w') {p : Addr} (hp : S p.block ∨ w.heap.size ≤ p.block) (u : Value) : Chg S w (w'.setCell p u) :=
  ⟨h.os, h.tape, h.output, by simpa [World.setCell] using h.size, fun k hk hn => (Below.heap_setCell w' p u k (fun e => by subst e; rcases hp with hp | hp; exact hn hp; omega)).trans (h.block k hk hn)⟩

set_option maxHeartbeats 1000000 in
theorem try28 (A T S k : Nat) (n at_ : Int) (v : Value) (xs : List Int) (w : World) (hk : xs.length = k) (hk60 : k ≤ 60) (hA : Blk w A 23 #[v]) (hT : w.cell? ⟨T, 0, none⟩ = some (.int .i64 at_)) (hAT : A ≠ T) (hAS : A < S) (hTS : T < S) (hS : S ≤ w.heap.size)
    (hown : w.ownsRow S 3 1 v k (xs.map (.int .i64))) :
    Calls Try.prog 28 #[.int .i64 n, .pointer (some ⟨A, 0, none⟩), .pointer (some ⟨T, 0, none⟩)] w fun e w' => ∃ v', e = .returned (.tuple #[.int .i64 (k + 1 : Nat), .bool ((k : Int) == at_)]) ∧
      Blk w' A 23 #[v'] ∧ w'.ownsRow S 3 1 v' (k + 1) ((xs ++ [n]).map (.int .i64)) ∧ Chg (fun i => i = A ∨ some i = v.ownBlock) w w' := by
  have hA0 : w.cell? ⟨A, 0, none⟩ = some v := hA.cell 0
  obtain ⟨i0, hi, hz0, hz1, hz2⟩ := info_parts Try.info3
  have HZ := Lib.hid hz0
  have HZ1 := Lib.hid hz1
  have HZ2 := Lib.hid hz2
  have HI := Lib.hid hi
  clear hi hz0 hz1 hz2
  have hAw : A < w.heap.size := by omega
  have hTw : T < w.heap.size := by omega
  go_enter Try.func28, Try.ntmps28
  go_wp2_with (at_builtin; refine wpList_append_own _ rfl (.tmp 6) (.tmp 8) 23 rfl S 3 i0 (.int .i64 0) 1 8 Try.underlying23 HI.out HZ.out HZ1.out HZ2.out rfl (by decide) v k _ rfl (hown.alloc _) ⟨w.heap.size, 0, none⟩ 1 1 [.int .i64 n] rfl rfl (cell_one_new _ _ _) ?h1 ?h2 ?h3 ?h4 ?_)
  case h1 => simp [Value.oneCell']
  case h2 => simp only [maxLen]; omega
  case h3 => omega
  case h4 => simp; omega
  intro v1 w1 hown1 hg1 _
  have hne : some A ≠ v.ownBlock := fun e => by have := (hown.lt A e.symm).1; omega
  have hneT : some T ≠ v.ownBlock := fun e => by have := (hown.lt T e.symm).1; omega
  have hA1 : Blk w1 A 23 #[v] := (hg1.block A (by simp; omega) hne).trans ((Below.heap_alloc w _ A hAw).trans hA)
  have hT1 : w1.cell? ⟨T, 0, none⟩ = some (.int .i64 at_) :=
    (World.cell?_of_block (hg1.block T (by simp; omega) hneT)).trans ((World.cell?_alloc_past _ _ _ hTw).trans hT)
  have hA10 : w1.cell? ⟨A, 0, none⟩ = some v := hA1.cell 0
  have hAf := hA1.frozen 0
  have hc1 : Chg (fun i => i = A ∨ some i = v.ownBlock) w w1 :=
    ⟨hg1.os, hg1.tape, hg1.output, by have := hg1.size; simp at this; omega, fun i hi hn => (hg1.block i (by simp; omega) (fun e => hn (.inr e))).trans (Below.heap_alloc w _ i hi)⟩
  have hA2 : Blk (w1.setCell ⟨A, 0, none⟩ v1) A 23 #[v1] := hA1.set 0 v1
  have hc2 : Chg (fun i => i = A ∨ some i = v.ownBlock) w (w1.setCell ⟨A, 0, none⟩ v1) := hc1.setCell (.inl (.inl rfl)) _
  have hown2 : (w1.setCell ⟨A, 0, none⟩ v1).ownsRow S 3 1 v1 (k + 1) ((xs ++ [n]).map (.int .i64)) := by
    have := ownsRow_setCell_below hown1 (a := ⟨A, 0, none⟩) hAS v1
    simpa using this
  obtain ⟨g, cap, rfl, hgS, hgl⟩ := hown2.form (by omega)
  have hA20 : (w1.setCell ⟨A, 0, none⟩ (.slice (some ⟨g, 0, none⟩) (k + 1) cap)).cell? ⟨A, 0, none⟩ = some (.slice (some ⟨g, 0, none⟩) (k + 1) cap) := hA2.cell 0
  have hT2 : (w1.setCell ⟨A, 0, none⟩ (.slice (some ⟨g, 0, none⟩) (k + 1) cap)).cell? ⟨T, 0, none⟩ = some (.int .i64 at_) := (World.cell?_setCell_other _ _ _ _ (by intro e; injection e; omega)).trans hT1
  have H := Lib.hid (And.intro hA2 (And.intro hown2 hc2))
  clear hA2 hown2 hc2 hc1 hown1 hg1 hA1 hown hA hne hneT hA0 hT hgl
  go_wp2
  clear hA10 hAf hT1
  generalize w1.setCell ⟨A, 0, none⟩ (.slice (some ⟨g, 0, none⟩) (k + 1) cap) = w2 at hA20 hT2 H ⊢
  have hki : (k : Int) ≤ 60 := by omega
  go_quiet (fail)
  go_wp2
  go_ret2
  exact ⟨_, by rw [Int.natCast_add]; rfl, H.out.1, H.out.2.1, ⟨H.out.2.2.os, H.out.2.2.tape, H.out.2.2.output, H.out.2.2.size, H.out.2.2.block⟩⟩

theorem func64 (fn : Fn) (a b : Value) (w : World) : (binOp .eql 64 (.func fn #[] #[a, b]) .nilFunc).run Try.prog w = .ok (.bool false) w := by kernel_rfl

/-- How the loop stands behind k rounds. -/
def GoAt (xs : List Int) (at_ : Int) (k : Nat) (bits : Int) : Prop := (∀ j : Nat, j < k → (j : Int) ≠ at_) ∧ (k = 0 → bits = 0) ∧ (0 < k → xs[k - 1]? = some bits)

/-- What Go leaves. -/
def GoEnd (A T S : Nat) (C : Nat → Prop) (xs : List Int) (tok at_ : Int) (w : World) (e : Ending) (w' : World) : Prop :=
  ∃ (n end_ : Nat) (bits : Int) (v : Value), endsOut xs.length tok at_ = (n, end_) ∧ e = .returned (.tuple #[.agg #[.int .i64 n, .int .i64 bits, .int .i64 n, .int .i64 end_], .int .i64 0]) ∧
    n ≤ xs.length ∧ (n = 0 → bits = 0) ∧ (0 < n → xs[n - 1]? = some bits) ∧ Blk w' A 23 #[v] ∧ w'.ownsRow S 3 1 v n ((xs.take n).map (.int .i64)) ∧ Chg (fun i => i = A ∨ C i) w w' ∧ w'.cell? ⟨T, 0, none⟩ = some (.int .i64 at_)

theorem Chg.cell {w w' : World} {S : Nat → Prop} (h : Chg S w w') {p : Addr} {u : Value} (hp : w.cell? p = some u) (hn : ¬ S p.block) : w'.cell? p = some u :=
  (World.cell?_of_block (h.block p.block (cell_lt hp) hn)).trans hp
theorem Chg.blk {w w' : World} {S : Nat → Prop} (h : Chg S w w') {g : Nat} {t : TypeId} {cs : Array Value} (hp : Blk w g t cs) (hn : ¬ S g) : Blk w' g t cs := (h.block g hp.lt hn).trans hp
theorem own_ne {w : World} {g S n : Nat} {t e : TypeId} {v : Value} {xs : List Value} {cs : Array Value} (h : w.ownsRow S e 1 v n xs) (hg : Blk w g t cs) (hne : e ≠ t) : some g ≠ v.ownBlock := by
  rcases h.2 with ⟨rfl, _⟩ | ⟨g', cap, cur, rfl, _, hh, _⟩
  · simp [Value.ownBlock]
  · intro he
    simp only [Value.ownBlock, Option.some.injEq] at he
    subst he
    simp only [Blk] at hg
    rw [hh] at hg
    simp only [Option.some.injEq, Obj.cells.injEq] at hg
    exact hne hg.2.1
/-- A block that holds a slice holds no number. -/
theorem blk_ne {w : World} {A b off : Nat} {t : TypeId} {v : Value} {n : Int} {k : IntKind} (hA : Blk w A t #[v]) (hv : v ≠ .int k n) (hc : w.cell? ⟨b, off, none⟩ = some (.int k n)) : b ≠ A := by
  rintro rfl
  rw [hA.cell off] at hc
  rcases off with _ | off
  · simp at hc; exact hv hc
  · simp at hc

theorem Chg.then {S T : Nat → Prop} {a b c : World} (h : Chg S a b) (k : Chg T b c) (ht : ∀ i, i < a.heap.size → T i → S i) : Chg S a c :=
  ⟨k.os.trans h.os, k.tape.trans h.tape, k.output.trans h.output, Nat.le_trans h.size k.size, fun i hi hn => (k.block i (Nat.lt_of_lt_of_le hi h.size) (fun x => hn (ht i hi x))).trans (h.block i hi hn)⟩
theorem own_chg {w w' : World} {S : Nat → Prop} {B : Nat} {e : TypeId} {size : Nat} {v : Value} {n : Nat} {xs : List Value} (h : w.ownsRow B e size v n xs) (k : Chg S w w') (hs : ∀ g, v.ownBlock = some g → ¬ S g) : w'.ownsRow B e size v n xs := by
  refine ⟨h.1, ?_⟩
  rcases h.2 with hn | ⟨g, cap, cur, rfl, hb, hg, rest⟩
  · exact .inl hn
  · exact .inr ⟨g, cap, cur, rfl, hb, (k.block g (heap_lt hg) (hs g rfl)).trans hg, rest⟩

theorem Blk.far {w : World} {g : Nat} {t : TypeId} {cs : Array Value} (h : Blk w g t cs) {p : Addr} (hp : g ≠ p.block) (u : Value) : Blk (w.setCell p u) g t cs := (Below.heap_setCell w p u g hp).trans h
/-- Four stores into a block of four. -/
theorem fin4 {w : World} {S : Nat} {t : TypeId} {x0 x1 x2 x3 : Value} (h : Blk w S t #[x0, x1, x2, x3]) (a b c d : Value) :
    Blk ((((w.setCell ⟨S, 0, none⟩ a).setCell ⟨S, 1, none⟩ b).setCell ⟨S, 2, none⟩ c).setCell ⟨S, 3, none⟩ d) S t #[a, b, c, d] ∧ Chg (· = S) w ((((w.setCell ⟨S, 0, none⟩ a).setCell ⟨S, 1, none⟩ b).setCell ⟨S, 2, none⟩ c).setCell ⟨S, 3, none⟩ d) :=
  ⟨(((h.set 0 a).set 1 b).set 2 c).set 3 d, by
    have h0 : Chg (· = S) w w := Chg.refl _ _
    exact (((h0.setCell (p := ⟨S, 0, none⟩) (.inl rfl) a).setCell (p := ⟨S, 1, none⟩) (.inl rfl) b).setCell (p := ⟨S, 2, none⟩) (.inl rfl) c).setCell (p := ⟨S, 3, none⟩) (.inl rfl) d⟩
theorem fin3 {w : World} {S : Nat} {t : TypeId} {x0 x1 x2 x3 : Value} (h : Blk w S t #[x0, x1, x2, x3]) (a b c : Value) :
    Blk (((w.setCell ⟨S, 0, none⟩ a).setCell ⟨S, 1, none⟩ b).setCell ⟨S, 2, none⟩ c) S t #[a, b, c, x3] ∧ Chg (· = S) w (((w.setCell ⟨S, 0, none⟩ a).setCell ⟨S, 1, none⟩ b).setCell ⟨S, 2, none⟩ c) :=
  ⟨((h.set 0 a).set 1 b).set 2 c, by
    have h0 : Chg (· = S) w w := Chg.refl _ _
    exact ((h0.setCell (p := ⟨S, 0, none⟩) (.inl rfl) a).setCell (p := ⟨S, 1, none⟩) (.inl rfl) b).setCell (p := ⟨S, 2, none⟩) (.inl rfl) c⟩
theorem Blk.at {w : World} {g : Nat} {t : TypeId} {cs : Array Value} (h : Blk w g t cs) (i : Nat) (u : Value) (hu : cs[i]? = some u) : w.cell? ⟨g, i, none⟩ = some u := (h.cell i).trans hu

/-- What holds at the head of each round. -/
structure GoInv (A T : Nat) (C : Nat → Prop) (xs : List Int) (at_ : Int) (w wr : World) (k : Nat) : Prop where
  le : k ≤ xs.length
  no : ∀ j : Nat, j < k → (j : Int) ≠ at_
  r0 : Blk wr w.heap.size 61 #[.int .i64 0, .int .i64 0, .int .i64 0, .int .i64 0]
  r : ∃ bits, Blk wr (w.heap.size + 1) 61 #[.int .i64 k, .int .i64 bits, .int .i64 k, .int .i64 2] ∧ (k = 0 → bits = 0) ∧ (0 < k → xs[k - 1]? = some bits)
  a : ∃ v, Blk wr A 23 #[v] ∧ wr.ownsRow w.heap.size 3 1 v k ((xs.take k).map (.int .i64))
  chg : Chg (fun i => i = A ∨ C i) w wr
  t : wr.cell? ⟨T, 0, none⟩ = some (.int .i64 at_)

theorem endsOut_hit {len k : Nat} {tok : Int} (h : k < len) (ht : tok < 0 ∨ k < tok) : endsOut len tok k = (k + 1, 0) := by
  unfold endsOut
  by_cases h1 : 0 ≤ tok ∧ tok < len
  · rw [if_pos h1, if_pos h1, if_pos (by omega)]; simp
  · rw [if_neg h1, if_neg h1, if_pos (by omega)]; simp
theorem endsOut_done {len : Nat} {tok at_ : Int} (h : ∀ j : Nat, j < len → (j : Int) ≠ at_) (ht : tok < 0 ∨ (len : Int) ≤ tok) : endsOut len tok at_ = (len, 2) := by
  have h1 : ¬ (0 ≤ tok ∧ tok < len) := by omega
  have h2 : ¬ (0 ≤ at_ ∧ at_ < (len : Int)) := by
    rintro ⟨g1, g2⟩
    exact h at_.toNat (by omega) (by omega)
  simp only [endsOut, if_neg h1, if_neg h2]
theorem endsOut_spent {len k : Nat} {at_ : Int} (h : ∀ j : Nat, j < k → (j : Int) ≠ at_) (ht : k < len) : endsOut len k at_ = (k, 1) := by
  have h1 : 0 ≤ (k : Int) ∧ (k : Int) < len := by omega
  have h2 : ¬ (0 ≤ at_ ∧ at_ < ((k : Int).toNat : Int)) := by
    rintro ⟨g1, g2⟩
    exact h at_.toNat (by omega) (by omega)
  simp only [Int.toNat_natCast] at h2
  simp only [endsOut, if_pos h1, Int.toNat_natCast, if_neg h2]

theorem goEnd_of {A T S : Nat} {C : Nat → Prop} {xs : List Int} {tok at_ : Int} {w w1 W : World} {n end_ : Nat} {bits : Int} {v : Value} {e : Ending} (hS : S = w.heap.size) (he : endsOut xs.length tok at_ = (n, end_)) (hr : e = .returned (.tuple #[.agg #[.int .i64 n, .int .i64 bits, .int .i64 n, .int .i64 end_], .int .i64 0]))
    (hn : n ≤ xs.length) (h0 : n = 0 → bits = 0) (h1 : 0 < n → xs[n - 1]? = some bits) (hA : Blk w1 A 23 #[v]) (hown : w1.ownsRow S 3 1 v n ((xs.take n).map (.int .i64))) (hcw : Chg (fun i => i = A ∨ C i) w w1) (hT : w1.cell? ⟨T, 0, none⟩ = some (.int .i64 at_))
    (hAw : A < w.heap.size) (hTw : T < w.heap.size) (hnR : some (S + 1) ≠ v.ownBlock) (hn0 : some S ≠ v.ownBlock) (hW : Chg (fun i => i = S ∨ i = S + 1) w1 W) : GoEnd A T S C xs tok at_ w e W :=
  ⟨n, end_, bits, v, he, hr, hn, h0, h1, hW.blk hA (by omega), own_chg hown hW (by rintro g hg (rfl | rfl); exact hn0 hg.symm; exact hnR hg.symm), hcw.then hW (fun i hi h => by omega), hW.cell hT (by simp only; omega)⟩

theorem goInv_next {A T : Nat} {C : Nat → Prop} {xs : List Int} {at_ : Int} {w w1 W : World} {k : Nat} {x : Int} {v : Value} (hk : k < xs.length) (hno : ∀ j : Nat, j < k → (j : Int) ≠ at_) (hat : (k : Int) ≠ at_) (hx : xs[k + 1 - 1]? = some x)
    (hA : Blk w1 A 23 #[v]) (hown : w1.ownsRow w.heap.size 3 1 v (k + 1) ((xs.take (k + 1)).map (.int .i64))) (hcw : Chg (fun i => i = A ∨ C i) w w1) (hT : w1.cell? ⟨T, 0, none⟩ = some (.int .i64 at_)) (h01 : Blk w1 w.heap.size 61 #[.int .i64 0, .int .i64 0, .int .i64 0, .int .i64 0])
    (hAw : A < w.heap.size) (hTw : T < w.heap.size) (hnR : some (w.heap.size + 1) ≠ v.ownBlock) (hW : Blk W (w.heap.size + 1) 61 #[.int .i64 (k + 1 : Nat), .int .i64 x, .int .i64 (k + 1 : Nat), .int .i64 2] ∧ Chg (· = w.heap.size + 1) w1 W) :
    GoInv A T C xs at_ w W (k + 1) :=
  ⟨hk, fun j hj => by rcases Nat.lt_or_ge j k with h | h; exact hno j h; (obtain rfl : j = k := by omega); exact hat, hW.2.blk h01 (by omega), ⟨x, hW.1, by omega, fun _ => hx⟩,
    ⟨v, hW.2.blk hA (by omega), own_chg hown hW.2 (by rintro g hg rfl; exact hnR hg.symm)⟩, hcw.then hW.2 (fun i hi h => by omega), hW.2.cell hT (by simp only; omega)⟩

set_option maxHeartbeats 4000000 in
theorem go27_nil (A T : Nat) (at_ : Int) (va : Value) (xs : List Int) (w : World) (hl : xs.length ≤ 60) (hva : Sl w va (xs.map (.int .i64))) (hA : Blk w A 23 #[.slice none 0 0]) (hT : w.cell? ⟨T, 0, none⟩ = some (.int .i64 at_)) (hAT : A ≠ T) :
    Calls Try.prog 27 #[va, .pointer none, .func (.func 28) #[] #[.pointer (some ⟨A, 0, none⟩), .pointer (some ⟨T, 0, none⟩)]] w (GoEnd A T w.heap.size (fun _ => False) xs (-1) at_ w) := by
  obtain ⟨a, c, rfl, hva⟩ := hva
  simp only [List.length_map] at hva ⊢
  have hli : (xs.length : Int) ≤ 60 := by omega
  have hAw := hA.lt
  have hTw := cell_lt hT
  have HV := Lib.hid hva
  have HA := Lib.hid hA
  have HT := Lib.hid hT
  have hfn := fun W => func64 (.func 28) (.pointer (some ⟨A, 0, none⟩)) (.pointer (some ⟨T, 0, none⟩)) W
  have hinv : Hid (GoInv A T (fun _ => False) xs at_ w ((w.alloc (.cells #[.int .i64 0, .int .i64 0, .int .i64 0, .int .i64 0] 61)).alloc (.cells #[.int .i64 0, .int .i64 0, .int .i64 0, .int .i64 2] 61)) 0) := by
    have e2 := heap_alloc_new (w.alloc (.cells #[.int .i64 0, .int .i64 0, .int .i64 0, .int .i64 0] 61)) (.cells #[.int .i64 0, .int .i64 0, .int .i64 0, .int .i64 2] 61)
    simp only [World.size_alloc] at e2
    have hb : Below w.heap.size w ((w.alloc (.cells #[.int .i64 0, .int .i64 0, .int .i64 0, .int .i64 0] 61)).alloc (.cells #[.int .i64 0, .int .i64 0, .int .i64 0, .int .i64 2] 61)) := ((Below.refl _ _).alloc (Nat.le_refl _) _).alloc (by simp) _
    exact ⟨Nat.zero_le _, by omega, (Below.heap_alloc _ _ _ (by simp)).trans (heap_alloc_new w _), ⟨0, e2, fun _ => rfl, by omega⟩, ⟨_, (Chg.of_below (S := fun _ => False) hb).blk hA id, World.ownsRow_nil _ _ _ _⟩, Chg.of_below hb, cell_below hb (Nat.le_refl _) hT⟩
  clear hva hA hT
  go_enter Try.func27, Try.ntmps27
  go_wp2
  generalize (w.alloc (.cells #[.int .i64 0, .int .i64 0, .int .i64 0, .int .i64 0] 61)).alloc (.cells #[.int .i64 0, .int .i64 0, .int .i64 0, .int .i64 2] 61) = w0 at hinv ⊢
  go_loopw [19] (fun i wr => ∃ k : Nat, i = .int .i64 k ∧ Hid (GoInv A T (fun _ => False) xs at_ w wr k)) (fun i _ => xs.length - (intOf i).toNat)
  case atStart => exact ⟨0, rfl, hinv⟩
  case round =>
    obtain ⟨k, rfl, hi⟩ := hrel
    have hk := hi.out.le
    by_cases hlt : k < xs.length
    · have hki : (k : Int) < xs.length := by omega
      obtain ⟨b, off, rfl, hc⟩ := HV.out (by omega)
      have hx : Hid (xs[k]? = some xs[k]) := by simp [Hid, hlt]
      have cw : w.cell? ⟨b, off + k, none⟩ = some (.int .i64 xs[k]) := hc k _ (by simp [hlt])
      have cx : _ := hi.out.chg.cell cw (by have := blk_ne HA.out (by simp) cw; simp [this])
      clear cw hc HV
      generalize xs[k] = x at cx hx
      obtain ⟨bits, hR, hb0, hb1⟩ := hi.out.r
      obtain ⟨v, hA1, hown⟩ := hi.out.a
      have hT1 := hi.out.t
      have hsz := hi.out.chg.size
      have hRlt := hR.lt
      have c0 := hR.cell 0
      have c1 := hR.cell 1
      have c2 := hR.cell 2
      have c3 := hR.cell 3
      simp only [List.getElem?_toArray, List.getElem?_cons_zero, List.getElem?_cons_succ] at c0 c1 c2 c3
      go_wp2_with fail
      refine (try28 A T w.heap.size k x at_ v (xs.take k) wr (by simp; omega) (by omega) hA1 hT1 hAT hAw hTw hsz hown).mono ?_
      rintro e w1 ⟨v1, rfl, hA2, hown2, hc2⟩
      have hRn := own_ne hown hR (by decide)
      have hR1 := hc2.blk hR (by rintro (h | h); omega; exact hRn h)
      have h01 := hc2.blk hi.out.r0 (by rintro (h | h); omega; exact own_ne hown hi.out.r0 (by decide) h)
      have hT2 := hc2.cell hT1 (by rintro (h | h); exact hAT h.symm; (have := (hown.lt T h.symm).1; omega))
      have hcw : Chg (fun i => i = A ∨ (fun _ => False) i) w w1 := hi.out.chg.then hc2 (fun i hi' h => by rcases h with h | h; exact .inl h; (have := (hown.lt i h.symm).1; omega))
      have c0 := hR1.cell 0
      have c1 := hR1.cell 1
      have c2 := hR1.cell 2
      have c3 := hR1.cell 3
      have f0 := hR1.frozen 0
      have f1 := hR1.frozen 1
      have f2 := hR1.frozen 2
      have f3 := hR1.frozen 3
      have d0 := h01.cell 0
      have d1 := h01.cell 1
      have d2 := h01.cell 2
      have d3 := h01.cell 3
      have g0 := h01.frozen 0
      have g1 := h01.frozen 1
      have g2 := h01.frozen 2
      have g3 := h01.frozen 3
      simp only [List.getElem?_toArray, List.getElem?_cons_zero, List.getElem?_cons_succ] at c0 c1 c2 c3 d0 d1 d2 d3
      have hx1 : (xs.take k ++ [x]) = xs.take (k + 1) := by rw [List.take_add_one, hx.out]; rfl
      rw [hx1] at hown2
      have hx2 : xs[k + 1 - 1]? = some x := hx.out
      have hnR := own_ne hown2 hR1 (by decide)
      have hn0 := own_ne hown2 h01 (by decide)
      have hT2 : w1.cell? ⟨T, 0, none⟩ = some (.int .i64 at_) := hT2
      have H := Lib.hid (And.intro hA2 (And.intro hown2 (And.intro hcw (And.intro hT2 (And.intro hR1 (And.intro h01 (And.intro hx2 (And.intro hnR hn0))))))))
      have hno := Lib.hid hi.out.no
      clear hA2 hown2 hcw hT2 hR1 h01 hx1 hx2 hnR hn0 hc2 hRn hT1 hA1 hown hR hb0 hb1 hi
      by_cases hat : (k : Int) = at_
      · have t0 : ((k : Int) == at_) = true := by simp [hat]
        have HAT := Lib.hid hat
        clear hat
        rw [t0]
        go_wp2
        obtain ⟨hA2, hown2, hcw, hT2, hR1, h01, hx2, hnR, hn0⟩ := H.out
        have q1 := fin4 hR1 (.int .i64 (k + 1)) (.int .i64 x) (.int .i64 (k + 1)) (.int .i64 0)
        have q2 := fin4 (q1.2.blk h01 (by omega)) (.int .i64 (k + 1)) (.int .i64 x) (.int .i64 (k + 1)) (.int .i64 0)
        have r0 := q2.1.at 0 _ rfl
        have r1 := q2.1.at 1 _ rfl
        have r2 := q2.1.at 2 _ rfl
        have r3 := q2.1.at 3 _ rfl
        have hW := (q1.2.mono (T := fun i => i = w.heap.size ∨ i = w.heap.size + 1) (fun _ _ h => .inr h)).trans (q2.2.mono (fun _ _ h => .inl h))
        clear q1 q2 f0 f1 f2 f3 g0 g1 g2 g3 c0 c1 c2 c3 d0 d1 d2 d3
        generalize ((((((((w1.setCell ⟨w.heap.size + 1, 0, none⟩ (.int .i64 (k + 1))).setCell ⟨w.heap.size + 1, 1, none⟩ (.int .i64 x)).setCell ⟨w.heap.size + 1, 2, none⟩ (.int .i64 (k + 1))).setCell ⟨w.heap.size + 1, 3, none⟩ (.int .i64 0)).setCell ⟨w.heap.size, 0, none⟩ (.int .i64 (k + 1))).setCell ⟨w.heap.size, 1, none⟩ (.int .i64 x)).setCell ⟨w.heap.size, 2, none⟩ (.int .i64 (k + 1))).setCell ⟨w.heap.size, 3, none⟩ (.int .i64 0)) = W at r0 r1 r2 r3 hW ⊢
        refine bodyPost_ret (v := .tuple #[.agg #[.int .i64 (k + 1), .int .i64 x, .int .i64 (k + 1), .int .i64 0], .int .i64 0]) (by simp [results, Try.results27, go_sem, r0, r1, r2, r3]) rfl ?_
        exact goEnd_of rfl (by rw [← HAT.out]; exact endsOut_hit hlt (.inl (by decide))) (by simp) hlt (by omega) (fun _ => hx2) hA2 hown2 hcw hT2 hAw hTw hnR hn0 hW
      · have t0 : ((k : Int) == at_) = false := by simp [hat]
        rw [t0]
        obtain ⟨hA2, hown2, hcw, hT2, hR1, h01, hx2, hnR, hn0⟩ := H.out
        have hI := Lib.hid (goInv_next hlt hno.out hat hx2 hA2 hown2 hcw hT2 h01 hAw hTw hnR (fin3 hR1 (.int .i64 (k + 1 : Nat)) (.int .i64 x) (.int .i64 (k + 1 : Nat))))
        rw [show ((k + 1 : Nat) : Int) = (k : Int) + 1 from by omega] at hI
        clear hA2 hown2 hcw hT2 hR1 h01 hx2 hnR hn0 hat
        go_wp2
        go_roundw
        case rel => exact ⟨k + 1, by go_num, hI⟩
        case measure => simp [intOf]; omega
    · obtain rfl : k = xs.length := by omega
      have hge : (xs.length : Int) ≤ xs.length := by omega
      obtain ⟨bits, hR1, hb0, hb1⟩ := hi.out.r
      obtain ⟨v, hA1, hown⟩ := hi.out.a
      have hT1 := hi.out.t
      have h01 := hi.out.r0
      have c0 := hR1.at 0 _ rfl
      have c1 := hR1.at 1 _ rfl
      have c2 := hR1.at 2 _ rfl
      have c3 := hR1.at 3 _ rfl
      have d0 := h01.at 0 _ rfl
      have d1 := h01.at 1 _ rfl
      have d2 := h01.at 2 _ rfl
      have d3 := h01.at 3 _ rfl
      have g0 := h01.frozen 0
      have g1 := h01.frozen 1
      have g2 := h01.frozen 2
      have g3 := h01.frozen 3
      have hn0 := own_ne hown h01 (by decide)
      have hnR := own_ne hown hR1 (by decide)
      have H := Lib.hid (And.intro hA1 (And.intro hown (And.intro hi.out.chg (And.intro hT1 (And.intro h01 (And.intro hb0 (And.intro hb1 (And.intro hnR (And.intro hn0 hi.out.no)))))))))
      clear hA1 hown hT1 h01 hb0 hb1 hnR hn0 hi hR1
      go_wp2
      obtain ⟨hA2, hown2, hcw, hT2, h01, hb0, hb1, hnR, hn0, hno⟩ := H.out
      have q2 := fin4 h01 (.int .i64 xs.length) (.int .i64 bits) (.int .i64 xs.length) (.int .i64 2)
      have r0 := q2.1.at 0 _ rfl
      have r1 := q2.1.at 1 _ rfl
      have r2 := q2.1.at 2 _ rfl
      have r3 := q2.1.at 3 _ rfl
      have hW := q2.2.mono (T := fun i => i = w.heap.size ∨ i = w.heap.size + 1) (fun _ _ h => .inl h)
      clear q2 g0 g1 g2 g3 c0 c1 c2 c3 d0 d1 d2 d3
      generalize ((((wr.setCell ⟨w.heap.size, 0, none⟩ (.int .i64 xs.length)).setCell ⟨w.heap.size, 1, none⟩ (.int .i64 bits)).setCell ⟨w.heap.size, 2, none⟩ (.int .i64 xs.length)).setCell ⟨w.heap.size, 3, none⟩ (.int .i64 2)) = W at r0 r1 r2 r3 hW ⊢
      refine bodyPost_ret (v := .tuple #[.agg #[.int .i64 xs.length, .int .i64 bits, .int .i64 xs.length, .int .i64 2], .int .i64 0]) (by simp [results, Try.results27, go_sem, r0, r1, r2, r3]) rfl ?_
      exact goEnd_of rfl (endsOut_done hno (.inl (by decide))) rfl (Nat.le_refl _) hb0 hb1 hA2 hown2 hcw hT2 hAw hTw hnR hn0 hW
end Go.Proofs.Ytpofnljcjoplnaa
