/-
  cascade.Go at lists of numbers, asked with the closure of CascadeNumbers.
-/
import Derived.Test.YtpofnljcjoplnaaGoes
import Derived.RegionTactic
import Derived.BigRegion
namespace Go.Proofs.Ytpofnljcjoplnaa
open Go.ChangeShapes Go.WideShapes Go.ChangeAt Go.RowKit

/-- The slice [n, -n] that the closure makes. -/
def Pair (w : World) (v : Value) (n : Int) : Prop := ∃ g, v = .slice (some ⟨g, 0, none⟩) 2 2 ∧ Blk w g 3 #[.int .i64 n, .int .i64 (-n)]

set_option maxHeartbeats 1000000 in
theorem try16_hit (K L g cap k len : Nat) (n : Int) (w : World) (hn0 : 0 ≤ n) (hn1 : n ≤ 65536) (hl : len ≤ 9) (hk : k < len) (hK : w.cell? ⟨K, 0, none⟩ = some (.int .i64 k)) (hL : w.cell? ⟨L, 0, none⟩ = some (.slice (some ⟨g, 0, none⟩) len cap))
    (hx : w.cell? ⟨g, k, none⟩ = some (.int .i64 n)) :
    Calls Try.prog 16 #[.int .i64 n, .pointer (some ⟨K, 0, none⟩), .pointer (some ⟨L, 0, none⟩)] w fun e w' => ∃ v, e = .returned (.tuple #[v, .bool true]) ∧ Pair w' v n ∧ Below w.heap.size w w' := by
  have hKw := cell_lt hK
  have hLw := cell_lt hL
  have hgw := cell_lt hx
  simp only at hKw hLw hgw
  have hki : (k : Int) < len := by omega
  have hli : (len : Int) ≤ 9 := by omega
  go_enter Try.func16, Try.ntmps16
  go_wp2
  go_region
  go_wp2
  go_ret2
  exact ⟨_, rfl, ⟨_, rfl, heap_alloc_new w _⟩, ((Below.refl _ _).alloc (Nat.le_refl _) _).drew⟩

set_option maxHeartbeats 1000000 in
theorem try16_miss (K L g cap k len : Nat) (n x : Int) (w : World) (hn0 : 0 ≤ n) (hn1 : n ≤ 65536) (hl : len ≤ 9) (hk : k < len) (hK : w.cell? ⟨K, 0, none⟩ = some (.int .i64 k)) (hL : w.cell? ⟨L, 0, none⟩ = some (.slice (some ⟨g, 0, none⟩) len cap))
    (hx : w.cell? ⟨g, k, none⟩ = some (.int .i64 x)) (hne : (n == x) = false) :
    Calls Try.prog 16 #[.int .i64 n, .pointer (some ⟨K, 0, none⟩), .pointer (some ⟨L, 0, none⟩)] w fun e w' => ∃ v, e = .returned (.tuple #[v, .bool false]) ∧ Pair w' v n ∧ Below w.heap.size w w' := by
  have hKw := cell_lt hK
  have hLw := cell_lt hL
  have hgw := cell_lt hx
  simp only at hKw hLw hgw
  have hki : (k : Int) < len := by omega
  have hli : (len : Int) ≤ 9 := by omega
  go_enter Try.func16, Try.ntmps16
  go_wp2
  go_region
  go_wp2
  go_ret2
  exact ⟨_, rfl, ⟨_, rfl, heap_alloc_new w _⟩, ((Below.refl _ _).alloc (Nat.le_refl _) _).drew⟩

set_option maxHeartbeats 1000000 in
theorem try16_end (K L g cap len : Nat) (n : Int) (w : World) (hn0 : 0 ≤ n) (hn1 : n ≤ 65536) (hl : len ≤ 9) (hK : w.cell? ⟨K, 0, none⟩ = some (.int .i64 len)) (hL : w.cell? ⟨L, 0, none⟩ = some (.slice (some ⟨g, 0, none⟩) len cap)) :
    Calls Try.prog 16 #[.int .i64 n, .pointer (some ⟨K, 0, none⟩), .pointer (some ⟨L, 0, none⟩)] w fun e w' => ∃ v, e = .returned (.tuple #[v, .bool false]) ∧ Pair w' v n ∧ Below w.heap.size w w' := by
  have hKw := cell_lt hK
  have hLw := cell_lt hL
  simp only at hKw hLw
  have hli : (len : Int) ≤ 9 := by omega
  go_enter Try.func16, Try.ntmps16
  go_wp2
  go_region
  go_wp2
  go_ret2
  exact ⟨_, rfl, ⟨_, rfl, heap_alloc_new w _⟩, ((Below.refl _ _).alloc (Nat.le_refl _) _).drew⟩

theorem func36 (fn : Fn) (a b : Value) (w : World) : (binOp .eql 36 (.func fn #[] #[a, b]) .nilFunc).run Try.prog w = .ok (.bool false) w := by kernel_rfl

/-- The list rises, and its numbers are small. -/
def Rising (xs : List Int) : Prop := (∀ (i : Nat) (x : Int), xs[i]? = some x → 0 ≤ x ∧ x ≤ 65536) ∧ ∀ (i j : Nat) (x y : Int), i < j → xs[i]? = some x → xs[j]? = some y → x < y

/-- What the value is behind j rounds. -/
def Told (w : World) (xs : List Int) (j : Nat) (v : Value) (bits : Int) : Prop := (j = 0 ∧ v = .slice none 0 0 ∧ bits = 0) ∨ (0 < j ∧ xs[j - 1]? = some bits ∧ Pair w v bits)
theorem Told.below {w w' : World} {xs : List Int} {j : Nat} {v : Value} {bits : Int} (h : Told w xs j v bits) (hs : ∀ g cs, Blk w g 3 cs → Blk w' g 3 cs) : Told w' xs j v bits := by
  rcases h with h | ⟨h0, h1, g, rfl, hg⟩
  · exact .inl h
  · exact .inr ⟨h0, h1, g, rfl, hs _ _ hg⟩

structure NumInv (xs : List Int) (w wr : World) (j : Nat) : Prop where
  r0 : Blk wr w.heap.size 33 #[.slice none 0 0, .int .i64 0, .int .i64 0, .int .i64 0]
  r : ∃ v bits, Blk wr (w.heap.size + 1) 33 #[v, .int .i64 bits, .int .i64 j, .int .i64 2] ∧ Told wr xs j v bits
  b : Below w.heap.size w wr

/-- What Go leaves. -/
def NumEnd (xs : List Int) (k : Nat) (w : World) (e : Ending) (w' : World) : Prop :=
  ∃ (v : Value) (bits : Int) (tries end_ : Nat), e = .returned (.tuple #[.agg #[v, .int .i64 bits, .int .i64 tries, .int .i64 end_], .int .i64 0]) ∧ Below w.heap.size w w' ∧ Pair w' v bits ∧
    ((k < xs.length ∧ xs[k]? = some bits ∧ tries = k + 1 ∧ end_ = 0) ∨ (k = xs.length ∧ xs[xs.length - 1]? = some bits ∧ tries = xs.length ∧ end_ = 2))

theorem blk33 {w : World} {g S : Nat} {cs cs' : Array Value} (h : Blk w g 3 cs) (h' : Blk w S 33 cs') : g ≠ S := by
  rintro rfl
  simp only [Blk] at h h'
  rw [h] at h'
  simp only [Option.some.injEq, Obj.cells.injEq] at h'
  exact absurd h'.2.1 (by decide)

theorem Pair.chg {w1 W : World} {S : Nat} {v : Value} {x : Int} {cs cs' : Array Value} (h : Pair w1 v x) (h0 : Blk w1 S 33 cs) (h1 : Blk w1 (S + 1) 33 cs') (hW : Chg (fun i => i = S ∨ i = S + 1) w1 W) : Pair W v x := by
  obtain ⟨g, rfl, hg⟩ := h
  exact ⟨g, rfl, hW.blk hg (by rintro (h | h); exact blk33 hg h0 h; exact blk33 hg h1 h)⟩

set_option maxHeartbeats 4000000 in
theorem go15 (K L g cap k : Nat) (xs : List Int) (w : World) (hl : xs.length ≤ 9) (h0 : 0 < xs.length) (hk : k ≤ xs.length) (hr : Rising xs) (hcell : ∀ i x, xs[i]? = some x → w.cell? ⟨g, i, none⟩ = some (.int .i64 x))
    (hK : w.cell? ⟨K, 0, none⟩ = some (.int .i64 k)) (hL : w.cell? ⟨L, 0, none⟩ = some (.slice (some ⟨g, 0, none⟩) xs.length cap)) :
    Calls Try.prog 15 #[.slice (some ⟨g, 0, none⟩) xs.length cap, .pointer none, .func (.func 16) #[] #[.pointer (some ⟨K, 0, none⟩), .pointer (some ⟨L, 0, none⟩)]] w (NumEnd xs k w) := by
  have hli : (xs.length : Int) ≤ 9 := by omega
  have HC := Lib.hid hcell
  have HK := Lib.hid hK
  have HL := Lib.hid hL
  have HR := Lib.hid hr
  have hfn := fun W => func36 (.func 16) (.pointer (some ⟨K, 0, none⟩)) (.pointer (some ⟨L, 0, none⟩)) W
  have hinv : Hid (NumInv xs w ((w.alloc (.cells #[.slice none 0 0, .int .i64 0, .int .i64 0, .int .i64 0] 33)).alloc (.cells #[.slice none 0 0, .int .i64 0, .int .i64 0, .int .i64 2] 33)) 0) := by
    have e2 := heap_alloc_new (w.alloc (.cells #[.slice none 0 0, .int .i64 0, .int .i64 0, .int .i64 0] 33)) (.cells #[.slice none 0 0, .int .i64 0, .int .i64 0, .int .i64 2] 33)
    simp only [World.size_alloc] at e2
    exact ⟨(Below.heap_alloc _ _ _ (by simp)).trans (heap_alloc_new w _), ⟨_, 0, e2, .inl ⟨rfl, rfl, rfl⟩⟩, ((Below.refl _ _).alloc (Nat.le_refl _) _).alloc (by simp) _⟩
  clear hcell hK hL hr
  go_enter Try.func15, Try.ntmps15
  go_wp2
  generalize (w.alloc (.cells #[.slice none 0 0, .int .i64 0, .int .i64 0, .int .i64 0] 33)).alloc (.cells #[.slice none 0 0, .int .i64 0, .int .i64 0, .int .i64 2] 33) = w0 at hinv ⊢
  go_loopw [19] (fun i wr => ∃ j : Nat, i = .int .i64 j ∧ j ≤ k ∧ j ≤ xs.length ∧ Hid (NumInv xs w wr j)) (fun i _ => xs.length - (intOf i).toNat)
  case atStart => exact ⟨0, rfl, Nat.zero_le _, Nat.zero_le _, hinv⟩
  case round =>
    obtain ⟨j, rfl, hjk, hj, hi⟩ := hrel
    by_cases hlt : j < xs.length
    · have hji : (j : Int) < xs.length := by omega
      have hx : Hid (xs[j]? = some xs[j]) := by simp [Hid, hlt]
      have cx := cell_below hi.out.b (Nat.le_refl _) (HC.out j xs[j] (by simp [hlt]))
      obtain ⟨x0, x1⟩ := HR.out.1 j xs[j] (by simp [hlt])
      generalize xs[j] = x at cx hx x0 x1
      obtain ⟨v0, bits, hR, htold⟩ := hi.out.r
      have h00 := hi.out.r0
      have hK1 := cell_below hi.out.b (Nat.le_refl _) HK.out
      have hL1 := cell_below hi.out.b (Nat.le_refl _) HL.out
      have hHB := Lib.hid hi.out.b
      clear hi
      by_cases hjk2 : j = k
      · subst hjk2
        go_wp2_with fail
        refine (try16_hit K L g cap j xs.length x wr x0 x1 hl hlt hK1 hL1 cx).mono ?_
        rintro e w1 ⟨_, rfl, ⟨gv, rfl, hgv⟩, hb1⟩
        have hP : Pair w1 (.slice (some ⟨gv, 0, none⟩) 2 2) x := ⟨gv, rfl, hgv⟩
        have hR1 : Blk w1 (w.heap.size + 1) 33 _ := (hb1.block _ hR.lt).trans hR
        have h01 : Blk w1 w.heap.size 33 _ := (hb1.block _ h00.lt).trans h00
        have hbw : Below w.heap.size w w1 := hHB.out.trans (hb1.mono hHB.out.size)
        have c0 := hR1.at 0 _ rfl
        have c1 := hR1.at 1 _ rfl
        have c2 := hR1.at 2 _ rfl
        have c3 := hR1.at 3 _ rfl
        have f0 := hR1.frozen 0
        have f1 := hR1.frozen 1
        have f2 := hR1.frozen 2
        have f3 := hR1.frozen 3
        have d0 := h01.at 0 _ rfl
        have d1 := h01.at 1 _ rfl
        have d2 := h01.at 2 _ rfl
        have d3 := h01.at 3 _ rfl
        have g0 := h01.frozen 0
        have g1 := h01.frozen 1
        have g2 := h01.frozen 2
        have g3 := h01.frozen 3
        have H := Lib.hid (And.intro hR1 (And.intro h01 (And.intro hbw hP)))
        clear hR1 h01 hbw hP hgv htold hb1 hR h00 hK1 hL1 cx
        go_wp2
        obtain ⟨hR1, h01, hbw, hP⟩ := H.out
        have q1 := fin4 hR1 (.slice (some ⟨gv, 0, none⟩) 2 2) (.int .i64 x) (.int .i64 (j + 1)) (.int .i64 0)
        have q2 := fin4 (q1.2.blk h01 (by omega)) (.slice (some ⟨gv, 0, none⟩) 2 2) (.int .i64 x) (.int .i64 (j + 1)) (.int .i64 0)
        have r0 := q2.1.at 0 _ rfl
        have r1 := q2.1.at 1 _ rfl
        have r2 := q2.1.at 2 _ rfl
        have r3 := q2.1.at 3 _ rfl
        have hW := (q1.2.mono (T := fun i => i = w.heap.size ∨ i = w.heap.size + 1) (fun _ _ h => .inr h)).trans (q2.2.mono (fun _ _ h => .inl h))
        clear q1 q2 f0 f1 f2 f3 g0 g1 g2 g3 c0 c1 c2 c3 d0 d1 d2 d3
        generalize ((((((((w1.setCell ⟨w.heap.size + 1, 0, none⟩ (.slice (some ⟨gv, 0, none⟩) 2 2)).setCell ⟨w.heap.size + 1, 1, none⟩ (.int .i64 x)).setCell ⟨w.heap.size + 1, 2, none⟩ (.int .i64 (j + 1))).setCell ⟨w.heap.size + 1, 3, none⟩ (.int .i64 0)).setCell ⟨w.heap.size, 0, none⟩ (.slice (some ⟨gv, 0, none⟩) 2 2)).setCell ⟨w.heap.size, 1, none⟩ (.int .i64 x)).setCell ⟨w.heap.size, 2, none⟩ (.int .i64 (j + 1))).setCell ⟨w.heap.size, 3, none⟩ (.int .i64 0)) = W at r0 r1 r2 r3 hW ⊢
        refine bodyPost_ret (v := .tuple #[.agg #[(.slice (some ⟨gv, 0, none⟩) 2 2), .int .i64 x, .int .i64 (j + 1), .int .i64 0], .int .i64 0]) (by simp [results, Try.results15, go_sem, r0, r1, r2, r3]) rfl ?_
        exact ⟨(.slice (some ⟨gv, 0, none⟩) 2 2), x, j + 1, 0, rfl, Chg.below hbw hbw.size hW (fun i hi => by omega), hP.chg h01 hR1 hW, .inl ⟨hlt, hx.out, rfl, rfl⟩⟩
      · have hjk3 : j < k := by omega
        clear hjk2
        have hcall : Hid (Calls Try.prog 16 #[.int .i64 x, .pointer (some ⟨K, 0, none⟩), .pointer (some ⟨L, 0, none⟩)] wr fun e w' => ∃ v, e = .returned (.tuple #[v, .bool false]) ∧ Pair w' v x ∧ Below wr.heap.size wr w') := by
          by_cases hkl : k < xs.length
          · have ck := cell_below hHB.out (Nat.le_refl _) (HC.out k xs[k] (by simp [hkl]))
            exact try16_miss K L g cap k xs.length x xs[k] wr x0 x1 hl hkl hK1 hL1 ck (by
              have := HR.out.2 j k x xs[k] hjk3 hx.out (by simp [hkl])
              simp; omega)
          · obtain rfl : k = xs.length := by omega
            exact try16_end K L g cap xs.length x wr x0 x1 hl hK1 hL1
        go_wp2_with fail
        refine (hcall.out).mono ?_
        rintro e w1 ⟨_, rfl, ⟨gv, rfl, hgv⟩, hb1⟩
        have hP : Pair w1 (.slice (some ⟨gv, 0, none⟩) 2 2) x := ⟨gv, rfl, hgv⟩
        have hR1 : Blk w1 (w.heap.size + 1) 33 _ := (hb1.block _ hR.lt).trans hR
        have h01 : Blk w1 w.heap.size 33 _ := (hb1.block _ h00.lt).trans h00
        have hbw : Below w.heap.size w w1 := hHB.out.trans (hb1.mono hHB.out.size)
        have q := fin3 hR1 (.slice (some ⟨gv, 0, none⟩) 2 2) (.int .i64 x) (.int .i64 (j + 1 : Nat))
        have hI : Hid (NumInv xs w (((w1.setCell ⟨w.heap.size + 1, 0, none⟩ (.slice (some ⟨gv, 0, none⟩) 2 2)).setCell ⟨w.heap.size + 1, 1, none⟩ (.int .i64 x)).setCell ⟨w.heap.size + 1, 2, none⟩ (.int .i64 (j + 1 : Nat))) (j + 1)) :=
          ⟨q.2.blk h01 (by omega), ⟨(.slice (some ⟨gv, 0, none⟩) 2 2), x, q.1, .inr ⟨by omega, hx.out, hP.chg h01 hR1 (q.2.mono (fun _ _ h => .inr h))⟩⟩, Chg.below hbw hbw.size q.2 (fun i hi => by omega)⟩
        rw [show ((j + 1 : Nat) : Int) = (j : Int) + 1 from by omega] at hI
        clear q hcall
        have c0 := hR1.at 0 _ rfl
        have c1 := hR1.at 1 _ rfl
        have c2 := hR1.at 2 _ rfl
        have c3 := hR1.at 3 _ rfl
        have f0 := hR1.frozen 0
        have f1 := hR1.frozen 1
        have f2 := hR1.frozen 2
        have f3 := hR1.frozen 3
        have d0 := h01.at 0 _ rfl
        have d1 := h01.at 1 _ rfl
        have d2 := h01.at 2 _ rfl
        have d3 := h01.at 3 _ rfl
        have g0 := h01.frozen 0
        have g1 := h01.frozen 1
        have g2 := h01.frozen 2
        have g3 := h01.frozen 3
        clear hR1 h01 hbw hP hgv htold hb1 hR h00 hK1 hL1 cx
        go_wp2
        go_roundw
        case rel => exact ⟨j + 1, by go_num, by omega, by omega, hI⟩
        case measure => simp [intOf]; omega
    · obtain rfl : j = xs.length := by omega
      obtain rfl : k = xs.length := by omega
      have hge : (xs.length : Int) ≤ xs.length := by omega
      obtain ⟨v, bits, hR1, htold⟩ := hi.out.r
      have h01 := hi.out.r0
      have hbw := hi.out.b
      obtain ⟨h0', _⟩ | ⟨_, hx, ⟨gv, rfl, hgv⟩⟩ := htold
      · omega
      have hP : Pair wr (.slice (some ⟨gv, 0, none⟩) 2 2) bits := ⟨gv, rfl, hgv⟩
      have c0 := hR1.at 0 _ rfl
      have c1 := hR1.at 1 _ rfl
      have c2 := hR1.at 2 _ rfl
      have c3 := hR1.at 3 _ rfl
      have d0 := h01.at 0 _ rfl
      have d1 := h01.at 1 _ rfl
      have d2 := h01.at 2 _ rfl
      have d3 := h01.at 3 _ rfl
      have g0 := h01.frozen 0
      have g1 := h01.frozen 1
      have g2 := h01.frozen 2
      have g3 := h01.frozen 3
      have H := Lib.hid (And.intro hR1 (And.intro h01 (And.intro hbw (And.intro hx hP))))
      clear hR1 h01 hbw hx hP hgv hi
      go_wp2
      obtain ⟨hR1, h01, hbw, hx, hP⟩ := H.out
      have q2 := fin4 h01 (.slice (some ⟨gv, 0, none⟩) 2 2) (.int .i64 bits) (.int .i64 xs.length) (.int .i64 2)
      have r0 := q2.1.at 0 _ rfl
      have r1 := q2.1.at 1 _ rfl
      have r2 := q2.1.at 2 _ rfl
      have r3 := q2.1.at 3 _ rfl
      have hW := q2.2.mono (T := fun i => i = w.heap.size ∨ i = w.heap.size + 1) (fun _ _ h => .inl h)
      clear q2 g0 g1 g2 g3 c0 c1 c2 c3 d0 d1 d2 d3
      generalize ((((wr.setCell ⟨w.heap.size, 0, none⟩ (.slice (some ⟨gv, 0, none⟩) 2 2)).setCell ⟨w.heap.size, 1, none⟩ (.int .i64 bits)).setCell ⟨w.heap.size, 2, none⟩ (.int .i64 xs.length)).setCell ⟨w.heap.size, 3, none⟩ (.int .i64 2)) = W at r0 r1 r2 r3 hW ⊢
      refine bodyPost_ret (v := .tuple #[.agg #[(.slice (some ⟨gv, 0, none⟩) 2 2), .int .i64 bits, .int .i64 xs.length, .int .i64 2], .int .i64 0]) (by simp [results, Try.results15, go_sem, r0, r1, r2, r3]) rfl ?_
      exact ⟨(.slice (some ⟨gv, 0, none⟩) 2 2), bits, xs.length, 2, rfl, Chg.below hbw hbw.size hW (fun i hi => by omega), hP.chg h01 hR1 hW, .inr ⟨rfl, hx, rfl, rfl⟩⟩
end Go.Proofs.Ytpofnljcjoplnaa
