/-
  Digits to the base 65536: what a list of them is worth; a number in memory.
-/
import Derived.Test.YtbknkcfnhfolpaaMem
namespace Go.Proofs.Ytbknkcfnhfolpaa
open Go.RowKit

def ofd : List Nat → Nat
  | [] => 0
  | x :: xs => x + 65536 * ofd xs

theorem ofd_app (xs ys : List Nat) : ofd (xs ++ ys) = ofd xs + 65536 ^ xs.length * ofd ys := by
  induction xs with
  | nil => simp [ofd]
  | cons x xs ih =>
    rw [List.cons_append, ofd, ih, ofd, List.length_cons, Nat.pow_succ, Nat.mul_add, Nat.add_assoc, Nat.mul_comm (65536 ^ xs.length) 65536, Nat.mul_assoc]

theorem ofd_snoc (xs : List Nat) (d : Nat) : ofd (xs ++ [d]) = ofd xs + 65536 ^ xs.length * d := by
  rw [ofd_app]; simp [ofd]

/-- digits -/
def Digs (xs : List Nat) : Prop := ∀ d ∈ xs, d < 65536

theorem ofd_lt {xs : List Nat} (h : Digs xs) : ofd xs < 65536 ^ xs.length := by
  induction xs with
  | nil => simp [ofd]
  | cons x xs ih =>
    have h1 : x < 65536 := h x (by simp)
    have h2 := ih (fun d hd => h d (by simp [hd]))
    rw [ofd, List.length_cons, Nat.pow_succ]
    omega

theorem Digs.get {xs : List Nat} (h : Digs xs) {i x : Nat} (hx : xs[i]? = some x) : x < 65536 := h x (List.mem_of_getElem? hx)

theorem Digs.snoc {xs : List Nat} (h : Digs xs) {d : Nat} (hd : d < 65536) : Digs (xs ++ [d]) := by
  intro x hx
  rw [List.mem_append] at hx
  rcases hx with hx | hx
  · exact h x hx
  · simp at hx; omega

theorem Digs.take {xs : List Nat} (h : Digs xs) (i : Nat) : Digs (xs.take i) := fun d hd => h d (List.mem_of_mem_take hd)

theorem ofd_take {xs : List Nat} {i x : Nat} (h : xs[i]? = some x) : ofd (xs.take (i + 1)) = ofd (xs.take i) + 65536 ^ i * x := by
  have hi : i < xs.length := (List.getElem?_eq_some_iff.1 h).1
  have : xs.take (i + 1) = xs.take i ++ [x] := by
    rw [List.take_add_one, h]; rfl
  rw [this, ofd_snoc, List.length_take, Nat.min_eq_left (by omega)]

theorem ofd_zeros (k : Nat) : ofd (List.replicate k 0) = 0 := by
  induction k with
  | zero => rfl
  | succ k ih => rw [List.replicate_succ, ofd, ih]

/-- A number's digits, without leading noughts. -/
structure Can (L : List Nat) (n : Nat) : Prop where
  digs : Digs L
  val : ofd L = n
  top : L ≠ [] → 65536 ^ (L.length - 1) ≤ n

theorem Can.nil : Can [] 0 := ⟨fun _ h => by simp at h, rfl, fun h => absurd rfl h⟩
theorem Can.zero {L : List Nat} (h : Can L 0) : L = [] := by
  by_cases hl : L = []
  · exact hl
  · have := h.top hl
    have := Nat.two_pow_pos 0
    have : 0 < 65536 ^ (L.length - 1) := Nat.pow_pos (by omega)
    omega
theorem Can.ne {L : List Nat} {n : Nat} (h : Can L n) (hn : n ≠ 0) : L ≠ [] := by
  intro hl; subst hl; exact hn (by rw [← h.val]; rfl)
theorem Can.pos {L : List Nat} {n : Nat} (h : Can L n) (hn : n ≠ 0) : 0 < L.length := List.length_pos_iff.2 (h.ne hn)
theorem Can.lt {L : List Nat} {n : Nat} (h : Can L n) : n < 65536 ^ L.length := h.val ▸ ofd_lt h.digs

theorem pow16 (k : Nat) : 65536 ^ k = 2 ^ (16 * k) := by rw [Nat.pow_mul]

/-- how long the list is at most -/
theorem Can.len {L : List Nat} {n B : Nat} (h : Can L n) (hB : n.log2 ≤ B) : L.length ≤ B / 16 + 1 := by
  by_cases hl : L = []
  · subst hl; simp
  · have ht := h.top hl
    rw [pow16] at ht
    have h0 : n ≠ 0 := by have := Nat.two_pow_pos (16 * (L.length - 1)); omega
    have := (Nat.le_log2 h0).2 ht
    omega

/-- the length tells the number's size -/
theorem Can.len_lt {L K : List Nat} {m n : Nat} (h : Can L m) (k : Can K n) (hl : L.length < K.length) : m < n := by
  have h1 := h.lt
  have h2 := k.top (by intro he; subst he; simp at hl)
  have h3 : 65536 ^ L.length ≤ 65536 ^ (K.length - 1) := Nat.pow_le_pow_right (by omega) (by omega)
  omega

def dvl (xs : List Nat) : List Value := xs.map fun (d : Nat) => Value.int .u32 (d : Int)
theorem dvl_length (xs : List Nat) : (dvl xs).length = xs.length := by simp [dvl]
theorem dvl_get {xs : List Nat} {i x : Nat} (h : xs[i]? = some x) : (dvl xs)[i]? = some (.int .u32 (x : Int)) := by simp [dvl, h]
theorem dvl_app (xs ys : List Nat) : dvl (xs ++ ys) = dvl xs ++ dvl ys := by simp [dvl]

/-- A number in memory. -/
def Dg (w : World) (v : Value) (n : Nat) : Prop := ∃ L, Sl w v (dvl L) ∧ Can L n
theorem Dg.below {w w' : World} {v : Value} {n : Nat} (h : Dg w v n) (hb : Below w.heap.size w w') : Dg w' v n := by
  obtain ⟨L, h1, h2⟩ := h; exact ⟨L, h1.below hb, h2⟩
theorem Dg.alloc {w : World} {v : Value} {n : Nat} (h : Dg w v n) (o : Obj) : Dg (w.alloc o) v n := by
  obtain ⟨L, h1, h2⟩ := h; exact ⟨L, h1.alloc o, h2⟩
theorem Dg.nil (w : World) : Dg w (.slice none 0 0) 0 := ⟨[], Sl.nil w, Can.nil⟩

/-- what a slice of digits is: the form, its cells -/
theorem Sl.form {w : World} {v : Value} {xs : List Nat} (h : Sl w v (dvl xs)) :
    ∃ a c, v = .slice a xs.length c ∧ (0 < xs.length → ∃ b off, a = some ⟨b, off, none⟩ ∧ ∀ (i x : Nat), xs[i]? = some x → w.cell? ⟨b, off + i, none⟩ = some (.int .u32 (x : Int))) := by
  obtain ⟨a, c, rfl, h⟩ := h
  rw [dvl_length] at h
  refine ⟨a, c, by rw [dvl_length], fun hl => ?_⟩
  obtain ⟨b, off, rfl, hc⟩ := h hl
  exact ⟨b, off, rfl, fun i x hx => hc i _ (dvl_get hx)⟩

end Go.Proofs.Ytbknkcfnhfolpaa
