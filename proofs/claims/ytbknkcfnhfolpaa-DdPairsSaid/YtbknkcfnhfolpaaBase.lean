/-
  Words of this claim for memory: a slice that reads as a list, a row of the call's own, append onto it. Over any program.
-/
import Derived.WalkKit
import Derived.ProofKit
import Derived.OpenShut
import Derived.LoopTactic
import Derived.Outline
import Derived.WalkSpells
import Derived.WalkLawsBesides
import Derived.WalkSmall
import Derived.Deep.QuietTactic
import Derived.BigQuiet
import Derived.Deep.DeepFit
import Derived.Deep.AppendLies
import Derived.Deep.Draws
import Derived.Lib.Hide
namespace Go.Proofs.Ytbknkcfnhfolpaa
open Go.RowKit

/-- A slice value that reads as a list of one-cell values. -/
def Sl (w : World) (v : Value) (xs : List Value) : Prop :=
  ∃ a c, v = .slice a xs.length c ∧ (0 < xs.length → ∃ b off, a = some ⟨b, off, none⟩ ∧ ∀ i u, xs[i]? = some u → w.cell? ⟨b, off + i, none⟩ = some u)

theorem cell_lt {w : World} {a : Addr} {u : Value} (h : w.cell? a = some u) : a.block < w.heap.size := World.block_lt_of_cell? w a h

theorem Sl.nil (w : World) : Sl w (.slice none 0 0) [] := ⟨none, 0, rfl, fun h => absurd h (by simp)⟩
theorem Sl.zero (w : World) (a : Option Addr) (c : Nat) : Sl w (.slice a 0 c) [] := ⟨a, c, rfl, fun h => absurd h (by simp)⟩

theorem Sl.keep {w w' : World} {v : Value} {xs : List Value} (h : Sl w v xs) (hk : ∀ p u, w.cell? p = some u → w'.cell? p = some u) : Sl w' v xs := by
  obtain ⟨a, c, rfl, h⟩ := h
  refine ⟨a, c, rfl, fun hl => ?_⟩
  obtain ⟨b, off, rfl, hc⟩ := h hl
  exact ⟨b, off, rfl, fun i u hu => hk _ _ (hc i u hu)⟩
theorem cell_below {w w' : World} {B : Nat} (hb : Below B w w') (hB : w.heap.size ≤ B) {p : Addr} {u : Value} (h : w.cell? p = some u) : w'.cell? p = some u :=
  (hb.cell (Nat.lt_of_lt_of_le (cell_lt h) hB)).trans h
theorem Sl.below {w w' : World} {v : Value} {xs : List Value} (h : Sl w v xs) (hb : Below w.heap.size w w') : Sl w' v xs := h.keep fun _ _ hp => cell_below hb (Nat.le_refl _) hp
theorem Sl.alloc {w : World} {v : Value} {xs : List Value} (h : Sl w v xs) (o : Obj) : Sl (w.alloc o) v xs := h.keep fun p _ hp => (World.cell?_alloc_lt w o p (cell_lt hp)).trans hp
theorem Sl.drew {w : World} {v : Value} {xs : List Value} (h : Sl w v xs) : Sl w.drew v xs := h
theorem Sl.drewN {w : World} {v : Value} {xs : List Value} (h : Sl w v xs) (n : Nat) : Sl (w.drewN n) v xs := h

/-- A row of the call's own reads as a list. -/
theorem Sl.of_own {w : World} {B : Nat} {e : TypeId} {v : Value} {n : Nat} {xs : List Value} (h : w.ownsRow B e 1 v n xs) : Sl w v xs := by
  have hl : xs.length = n := by have := h.1; omega
  rcases h.2 with ⟨rfl, rfl⟩ | ⟨g, cap, cur, rfl, _, hg, _, _, _, ht⟩
  · exact ⟨none, 0, by rw [hl], fun h0 => by omega⟩
  · refine ⟨_, cap, by rw [hl], fun _ => ⟨g, 0, rfl, fun i u hu => ?_⟩⟩
    rw [Nat.zero_add, cell_of_row w g i cur e (0, 0) hg]
    rw [← ht, List.getElem?_take] at hu
    split at hu
    · simpa using hu
    · cases hu

theorem grownBy_below {w w' : World} (hb : Below w.heap.size w w') (row : Option Nat) : w.grownBy w' row := ⟨hb.os, hb.tape, hb.output, hb.size, fun k hk _ => hb.block k hk⟩
theorem own_below {w w' : World} {B : Nat} {e : TypeId} {size : Nat} {v : Value} {n : Nat} {xs : List Value} (h : w.ownsRow B e size v n xs) (hb : Below w.heap.size w w') : w'.ownsRow B e size v n xs :=
  h.kept (row := none) (grownBy_below hb _) (by cases hv : v.ownBlock <;> simp)
theorem own_base {w : World} {B B' : Nat} {e : TypeId} {size : Nat} {v : Value} {n : Nat} {xs : List Value} (h : w.ownsRow B e size v n xs) (hB : B' ≤ B) : w.ownsRow B' e size v n xs := by
  refine ⟨h.1, ?_⟩
  rcases h.2 with h | ⟨g, cap, cur, hv, hg, r⟩
  · exact .inl h
  · exact .inr ⟨g, cap, cur, hv, Nat.le_trans hB hg, r⟩

theorem below_drewN' {B : Nat} {a w : World} (h : Below B a w) (n : Nat) : Below B a (w.drewN n) := ⟨h.os, h.tape, h.output, h.size, h.block⟩
/-- Two steps, the second from a world that has grown. -/
theorem below_then {a b c : World} (h : Below a.heap.size a b) (k : Below b.heap.size b c) : Below a.heap.size a c := h.trans (k.mono h.size)

/-- append(s, x...), s a row of the call's own, x somewhere in memory. -/
theorem wpList_app {P : Program} {w w0 : World} {ops : Array Oper} {rest : List Oper} {o : Oper} {a : Act} {Q : Exit → Act → World → Prop} (hgd : o.guard = none) (s x : Operand) (t : TypeId)
    (ho : o.op = .call { callee := .builtin .append, args := #[s, x], argTypes := #[t, t] })
    (B : Nat) (e : TypeId) (z : Value) (size bytes : Nat) (ht : P.underlying t = some (.slice e))
    (hi : (P.info? e).map (fun i => (i.zero, i.size, i.bytes)) = some (some z, size, bytes)) (hzs : z.cells.size = size) (hsz : 0 < size) (hbytes : bytes ≤ 64)
    (v : Value) (n : Nat) (xs : List Value) (hs : a.eval s = v) (ad : Addr) (m c : Nat) (news : List Value) (hx : a.eval x = .slice (some ad) m c)
    (hl : news.length = m * size) (hnews : ∀ j u, news[j]? = some u → w.cell? (ad.add j) = some u) (h1 : ∀ u ∈ news, u.oneCell' = true)
    (hown : w.ownsRow B e size v n xs) (hb : Below B w0 w) (hB : B ≤ w.heap.size)
    (hn : n + m ≤ 1099511627776)
    (h : ∀ v' w', Hid (w'.ownsRow B e size v' (n + m) (xs ++ news)) → Below B w0 w' → B ≤ w'.heap.size → wpList P ops Q rest (a.put o.dst v') w') :
    wpList P ops Q (o :: rest) a w := by
  obtain ⟨i0, hi, hz0, hz1, hz2⟩ := info_parts hi
  refine wpList_append_own _ hgd s x t ho B e i0 z size bytes ht hi hz0 hz1 hz2 hzs hsz v n xs hs hown ad m c news hx hl hnews h1 ?_ ?_ ?_ ?_
  · simp only [maxLen]; omega
  · have := Nat.mul_le_mul hn hbytes; omega
  · exact hB
  · intro v' w' hown' hg _
    exact h v' w' hown' (hb.grown hg hB (fun j hj => (hown.lt j hj).1)) (by have := hg.size; omega)

/-- append(s, u): the one new element lies in the block that was laid for it. -/
theorem wpList_app1 {P : Program} {w w0 : World} {ops : Array Oper} {rest : List Oper} {o : Oper} {a : Act} {Q : Exit → Act → World → Prop} (hgd : o.guard = none) (s x : Operand) (t : TypeId)
    (ho : o.op = .call { callee := .builtin .append, args := #[s, x], argTypes := #[t, t] })
    (B : Nat) (e : TypeId) (z : Value) (bytes : Nat) (ht : P.underlying t = some (.slice e))
    (hi : (P.info? e).map (fun i => (i.zero, i.size, i.bytes)) = some (some z, 1, bytes)) (hzs : z.cells.size = 1) (hbytes : bytes ≤ 64)
    (v : Value) (n : Nat) (xs : List Value) (hs : a.eval s = v) (u : Value) (c : Nat) (hx : a.eval x = .slice (some ⟨w.heap.size, 0, none⟩) 1 c) (h1 : u.oneCell' = true)
    (hown : w.ownsRow B e 1 v n xs) (hb : Below B w0 w) (hB : B ≤ w.heap.size)
    (hn : n < 1099511627776)
    (h : ∀ v' w', Hid (w'.ownsRow B e 1 v' (n + 1) (xs ++ [u])) → Below B w0 w' → B ≤ w'.heap.size → wpList P ops Q rest (a.put o.dst v') w') :
    wpList P ops Q (o :: rest) a (w.alloc (.cells #[u] e)) := by
  refine wpList_app hgd s x t ho B e z 1 bytes ht hi hzs (by decide) hbytes v n xs hs ⟨w.heap.size, 0, none⟩ 1 c [u] hx rfl (cell_one_new _ _ _) ?_ (hown.alloc _) (hb.alloc hB _) (by simp; omega) (by omega) h
  intro u' hu'
  simp only [List.mem_cons, List.not_mem_nil, or_false] at hu'
  exact hu' ▸ h1

theorem ret_eq {a b : Value} (h : a = b) : Ending.returned a = Ending.returned b := by rw [h]

end Go.Proofs.Ytbknkcfnhfolpaa
