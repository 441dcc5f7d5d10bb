/-
  cascade.First at runs of texts: the place of the first one that found something.
-/
import Derived.Test.YtpofnljcjoplnaaAlive
namespace Go.Proofs.Ytpofnljcjoplnaa
open Go.ChangeShapes Go.WideShapes Go.ChangeAt Go.RowKit

theorem Try.info56 : (Try.prog.info? 56).map (fun i => (i.zero, i.size, i.bytes)) = some (some (.agg #[.string ⟨#[]⟩, .int .i64 0, .int .i64 0, .int .i64 0]), 4, 40) := by kernel_rfl

/-- The cells of runs of which only the end is known. -/
def rowsOf (es : List Int) : List Value := es.flatMap fun e => [.string ⟨#[]⟩, .int .i64 0, .int .i64 0, .int .i64 e]
theorem rowsOf_length (es : List Int) : (rowsOf es).length = es.length * 4 := by
  induction es with
  | nil => rfl
  | cons e r ih => simp only [rowsOf, List.flatMap_cons, List.length_append, List.length_cons, List.length_nil] at *; omega
theorem rowsOf_snoc (es : List Int) (e : Int) : rowsOf (es ++ [e]) = rowsOf es ++ [.string ⟨#[]⟩, .int .i64 0, .int .i64 0, .int .i64 e] := by simp [rowsOf]
theorem rowsOf_at (es : List Int) (k : Nat) (e : Int) (h : es[k]? = some e) : (rowsOf es)[k * 4]? = some (.string ⟨#[]⟩) ∧ (rowsOf es)[k * 4 + 1]? = some (.int .i64 0) ∧ (rowsOf es)[k * 4 + 2]? = some (.int .i64 0) ∧ (rowsOf es)[k * 4 + 3]? = some (.int .i64 e) := by
  induction es generalizing k with
  | nil => simp at h
  | cons x r ih =>
    have e0 : rowsOf (x :: r) = [.string ⟨#[]⟩, .int .i64 0, .int .i64 0, .int .i64 x] ++ rowsOf r := by simp [rowsOf]
    rw [e0]
    cases k with
    | zero => simp at h; subst h; simp
    | succ k =>
      have h2 := ih k (by simpa using h)
      have sh : ∀ i, ([.string ⟨#[]⟩, .int .i64 0, .int .i64 0, .int .i64 x] ++ rowsOf r)[(k + 1) * 4 + i]? = (rowsOf r)[k * 4 + i]? := fun i => by
        rw [List.getElem?_append_right (by simp; omega)]
        congr 1
        simp; omega
      have := sh 0
      simp only [Nat.add_zero] at this
      rw [this, sh 1, sh 2, sh 3]
      exact h2

/-- x is the first place below k at which a 0 stands; -1: there is none. -/
def IsFirst (es : List Int) (k : Nat) (x : Int) : Prop :=
  (x = -1 ∧ ∀ j, j < k → es[j]? ≠ some 0) ∨ ∃ j : Nat, j < k ∧ x = j ∧ es[j]? = some 0 ∧ ∀ i, i < j → es[i]? ≠ some 0

theorem found33 (a b c : Value) (n : Int) (w : World) : Calls Try.prog 33 #[.agg #[a, b, c, .int .i64 n]] w fun e w' => e = .returned (.bool (n == 0)) ∧ Below w.heap.size w w' := by
  go_enter Try.func33, Try.ntmps33
  go_wp2
  go_ret
  exact ⟨rfl, (Below.refl _ _).alloc (Nat.le_refl _) _⟩

set_option maxHeartbeats 1000000 in
theorem index32 (g cap : Nat) (es : List Int) (w : World) (hl : es.length ≤ 60) (hc : ∀ i u, (rowsOf es)[i]? = some u → w.cell? ⟨g, i, none⟩ = some u) :
    Calls Try.prog 32 #[.slice (some ⟨g, 0, none⟩) es.length cap, .func (.func 33) #[] #[]] w fun e w' => ∃ x, e = .returned (.int .i64 x) ∧ IsFirst es es.length x ∧ Below w.heap.size w w' := by
  have HC := Lib.hid hc
  clear hc
  have hli : (es.length : Int) ≤ 60 := by omega
  go_enter Try.func32, Try.ntmps32
  go_wp2
  go_loopw [8] (fun i wr => ∃ k : Nat, i = .int .i64 k ∧ k ≤ es.length ∧ Hid (∀ j, j < k → es[j]? ≠ some 0) ∧ Below w.heap.size w wr) (fun i _ => es.length - (intOf i).toNat)
  case atStart => exact ⟨0, rfl, Nat.zero_le _, by simp [Hid], Below.refl _ _⟩
  case round =>
    obtain ⟨k, rfl, hk, hn, hb⟩ := hrel
    by_cases hlt : k < es.length
    · have hki : (k : Int) < es.length := by omega
      obtain ⟨q0, q1, q2, q3⟩ := rowsOf_at es k es[k] (by simp [hlt])
      have c0 := cell_below hb (Nat.le_refl _) (HC.out _ _ q0)
      have c1 := cell_below hb (Nat.le_refl _) (HC.out _ _ q1)
      have c2 := cell_below hb (Nat.le_refl _) (HC.out _ _ q2)
      have c3 := cell_below hb (Nat.le_refl _) (HC.out _ _ q3)
      have hek : Hid (es[k]? = some es[k]) := by simp [Hid, hlt]
      clear q0 q1 q2 q3
      generalize es[k] = e at c3 hek
      clear HC
      by_cases h0 : e = 0
      · have t0 : Hid ((e == 0) = true) := by simp [Hid, h0]
        have hE : Hid (es[k]? = some 0) := by rw [Hid, ← h0]; exact hek
        clear h0 hek
        go_wp2_with fail
        refine (found33 _ _ _ _ _).mono ?_
        rw [t0.out]
        rintro e' w1 ⟨rfl, hb1⟩
        go_wp2
        go_ret
        exact ⟨_, rfl, .inr ⟨k, hlt, rfl, hE.out, hn.out⟩, below_then hb hb1⟩
      · have t0 : Hid ((e == 0) = false) := by simp [Hid, h0]
        have hN : Hid (∀ j, j < k + 1 → es[j]? ≠ some 0) := fun j hj => by
          rcases Nat.lt_or_ge j k with h | h
          · exact hn.out j h
          · obtain rfl : j = k := by omega
            rw [hek.out]; simpa using h0
        clear h0 hek
        go_wp2_with fail
        refine (found33 _ _ _ _ _).mono ?_
        rw [t0.out]
        rintro e' w1 ⟨rfl, hb1⟩
        go_wp2
        go_roundw
        case rel => exact ⟨k + 1, by go_num, by omega, hN, below_then hb hb1⟩
        case measure => simp [intOf]; omega
    · have hge : (es.length : Int) ≤ k := by omega
      have hN : Hid (∀ j, j < es.length → es[j]? ≠ some 0) := fun j hj => hn.out j (by omega)
      clear HC
      go_wp2
      go_ret
      exact ⟨_, rfl, .inl ⟨rfl, hN.out⟩, hb⟩

set_option maxHeartbeats 400000 in
theorem first26 (g cap : Nat) (es : List Int) (w : World) (hl : es.length ≤ 60) (hc : ∀ i u, (rowsOf es)[i]? = some u → w.cell? ⟨g, i, none⟩ = some u) :
    Calls Try.prog 26 #[.slice (some ⟨g, 0, none⟩) es.length cap] w fun e w' => Below w.heap.size w w' ∧
      ((e = .returned (.tuple #[.int .i64 0, .bool false]) ∧ IsFirst es es.length (-1)) ∨ ∃ j : Nat, e = .returned (.tuple #[.int .i64 j, .bool true]) ∧ IsFirst es es.length j) := by
  have HC := Lib.hid hc
  clear hc
  go_enter Try.func26, Try.ntmps26
  go_wp2_with fail
  refine (index32 g cap es _ hl HC.out).mono ?_
  rintro e w1 ⟨x, rfl, hx, hb⟩
  by_cases h : x = -1
  · subst h
    go_wp2
    go_ret2
    exact ⟨hb, .inl ⟨rfl, hx⟩⟩
  · obtain ⟨j, rfl⟩ : ∃ j : Nat, x = j := by
      rcases hx with ⟨h', _⟩ | ⟨j, _, h', _⟩
      · exact absurd h' h
      · exact ⟨j, h'⟩
    clear h
    have hj : (0 : Int) ≤ j := by omega
    go_wp2
    go_ret2
    exact ⟨hb, .inr ⟨j, rfl, hx⟩⟩

theorem first26_nil (w : World) : Calls Try.prog 26 #[.slice none 0 0] w fun e w' => e = .returned (.tuple #[.int .i64 0, .bool false]) ∧ w = w' := by
  have h32 : Calls Try.prog 32 #[.slice none 0 0, .func (.func 33) #[] #[]] w fun e w' => e = .returned (.int .i64 (-1)) ∧ w = w' := by
    go_enter Try.func32, Try.ntmps32
    go_wp2
    refine wp_loop_rounds 1 ?_
    rw [rounds_succ]
    go_wp2
    go_ret
    exact ⟨rfl, rfl⟩
  have H := Lib.hid h32
  clear h32
  go_enter Try.func26, Try.ntmps26
  go_wp2_with fail
  refine (H.out).mono ?_
  rintro e w1 ⟨rfl, rfl⟩
  go_wp2
  go_ret2
  exact ⟨rfl, rfl⟩
end Go.Proofs.Ytpofnljcjoplnaa
