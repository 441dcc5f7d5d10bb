/-
  Blocks by their cells; what a call that writes only its own blocks leaves. Over any program.
-/
import Derived.Test.YtbknkcfnhfolpaaBase
namespace Go.Proofs.Ytbknkcfnhfolpaa
open Go.RowKit

theorem heap_lt {w : World} {k : Nat} {o : Obj} (h : w.heap[k]? = some o) : k < w.heap.size := (Array.getElem?_eq_some_iff.1 h).1

def Blk (w : World) (g : Nat) (t : TypeId) (cs : Array Value) : Prop := w.heap[g]? = some (.cells cs t (0, 0))
theorem Blk.cell {w : World} {g : Nat} {t : TypeId} {cs : Array Value} (h : Blk w g t cs) (i : Nat) : w.cell? ⟨g, i, none⟩ = cs[i]? := cell_of_row w g i cs t (0, 0) h
theorem Blk.at {w : World} {g : Nat} {t : TypeId} {cs : Array Value} (h : Blk w g t cs) (i : Nat) (u : Value) (hu : cs[i]? = some u) : w.cell? ⟨g, i, none⟩ = some u := (h.cell i).trans hu
theorem Blk.frozen {w : World} {g : Nat} {t : TypeId} {cs : Array Value} (h : Blk w g t cs) (i : Nat) : w.frozen? ⟨g, i, none⟩ = false := by
  simp only [Blk] at h; simp [World.frozen?, h]
theorem Blk.set {w : World} {g : Nat} {t : TypeId} {cs : Array Value} (h : Blk w g t cs) (i : Nat) (u : Value) : Blk (w.setCell ⟨g, i, none⟩ u) g t (cs.setIfInBounds i u) := by
  simp only [Blk] at h ⊢; simp [World.setCell, Array.getElem?_modify, h]
theorem Blk.lt {w : World} {g : Nat} {t : TypeId} {cs : Array Value} (h : Blk w g t cs) : g < w.heap.size := heap_lt h
theorem Blk.new (w : World) (t : TypeId) (cs : Array Value) : Blk (w.alloc (.cells cs t)) w.heap.size t cs := heap_alloc_new w _
theorem Blk.alloc {w : World} {g : Nat} {t : TypeId} {cs : Array Value} (h : Blk w g t cs) (o : Obj) : Blk (w.alloc o) g t cs := (Below.heap_alloc w o g h.lt).trans h
theorem Blk.below {w w' : World} {g : Nat} {t : TypeId} {cs : Array Value} (h : Blk w g t cs) (hb : Below w.heap.size w w') : Blk w' g t cs := (hb.block g h.lt).trans h
theorem Blk.below' {w w' : World} {B g : Nat} {t : TypeId} {cs : Array Value} (h : Blk w g t cs) (hb : Below B w w') (hB : w.heap.size ≤ B) : Blk w' g t cs := (hb.block g (Nat.lt_of_lt_of_le h.lt hB)).trans h
theorem Blk.far {w : World} {g : Nat} {t : TypeId} {cs : Array Value} (h : Blk w g t cs) {p : Addr} (hp : g ≠ p.block) (u : Value) : Blk (w.setCell p u) g t cs := (Below.heap_setCell w p u g hp).trans h

theorem fin2 {w w0 : World} {B S : Nat} {t : TypeId} {x0 x1 : Value} (h : Blk w S t #[x0, x1]) (hb : Below B w0 w) (hS : B ≤ S) (a b : Value) :
    Blk ((w.setCell ⟨S, 0, none⟩ a).setCell ⟨S, 1, none⟩ b) S t #[a, b] ∧ Below B w0 ((w.setCell ⟨S, 0, none⟩ a).setCell ⟨S, 1, none⟩ b) :=
  ⟨(h.set 0 a).set 1 b, (hb.setCell hS a).setCell hS b⟩

theorem fin3 {w w0 : World} {B S : Nat} {t : TypeId} {x0 x1 x2 : Value} (h : Blk w S t #[x0, x1, x2]) (hb : Below B w0 w) (hS : B ≤ S) (a b c : Value) :
    Blk (((w.setCell ⟨S, 0, none⟩ a).setCell ⟨S, 1, none⟩ b).setCell ⟨S, 2, none⟩ c) S t #[a, b, c] ∧ Below B w0 (((w.setCell ⟨S, 0, none⟩ a).setCell ⟨S, 1, none⟩ b).setCell ⟨S, 2, none⟩ c) :=
  ⟨((h.set 0 a).set 1 b).set 2 c, ((hb.setCell hS a).setCell hS b).setCell hS c⟩

/-- one block, two blocks, laid ahead of a call -/
theorem new1 {w w0 w' : World} {B : Nat} {t : TypeId} {cs : Array Value} (hb : Below B w0 w) (hB : B ≤ w.heap.size) (h : Below (w.alloc (.cells cs t)).heap.size (w.alloc (.cells cs t)) w') :
    Blk w' w.heap.size t cs ∧ Below B w0 w' ∧ w.heap.size < w'.heap.size ∧ Below w.heap.size w w' := by
  have k := (Blk.new w t cs).below h
  refine ⟨k, (hb.alloc hB _).trans (h.mono (by simp; omega)), k.lt, ((Below.refl _ _).alloc (Nat.le_refl _) _).trans (h.mono (by simp))⟩

theorem new2 {w w0 w' : World} {B : Nat} {t t' : TypeId} {cs cs' : Array Value} (hb : Below B w0 w) (hB : B ≤ w.heap.size)
    (h : Below ((w.alloc (.cells cs t)).alloc (.cells cs' t')).heap.size ((w.alloc (.cells cs t)).alloc (.cells cs' t')) w') :
    Blk w' w.heap.size t cs ∧ Blk w' (w.heap.size + 1) t' cs' ∧ Below B w0 w' ∧ w.heap.size + 1 < w'.heap.size ∧ Below w.heap.size w w' := by
  have k := ((Blk.new w t cs).alloc (.cells cs' t')).below h
  have k' : Blk ((w.alloc (.cells cs t)).alloc (.cells cs' t')) (w.heap.size + 1) t' cs' := by
    have := Blk.new (w.alloc (.cells cs t)) t' cs'
    rwa [show (w.alloc (.cells cs t)).heap.size = w.heap.size + 1 by simp] at this
  have k2 := k'.below h
  refine ⟨k, k2, ((hb.alloc hB _).alloc (by simp; omega) _).trans (h.mono (by simp; omega)), k2.lt, (((Below.refl _ _).alloc (Nat.le_refl _) _).alloc (by simp) _).trans (h.mono (by simp; omega))⟩

end Go.Proofs.Ytbknkcfnhfolpaa
