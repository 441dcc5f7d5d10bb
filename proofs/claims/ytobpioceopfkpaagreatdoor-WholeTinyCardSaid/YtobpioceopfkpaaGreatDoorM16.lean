/-
  A frame's boxes that may hold words of 64 bits. Printed by gen_mz.py.
-/
import Derived.Test.YtobpioceopfkpaaGreatDoorM08
import Derived.Test.YtobpioceopfkpaaGreatDoorM02
import Derived.LoopN
namespace Go.Proofs.YtobpioceopfkpaaGreatDoor
open Go.RowKit

/-- a frame's boxes, of whatever cells -/
structure Fz (w0 w : World) (bs : List (Nat × TypeId × Array Value)) : Prop where
  b : Below w0.heap.size w0 w
  box : ∀ (i g : Nat) t cs, bs[i]? = some (g, t, cs) → Blk w g t cs
  low : ∀ (i g : Nat) t cs, bs[i]? = some (g, t, cs) → w0.heap.size ≤ g
  asc : ∀ (i j g : Nat) t cs (g' : Nat) t' cs', i < j → bs[i]? = some (g, t, cs) → bs[j]? = some (g', t', cs') → g < g'
theorem Fx.fz {w0 w : World} {bs : List (Nat × TypeId × Array Value)} (h : Fx w0 w bs) : Fz w0 w bs := ⟨h.b, h.box, h.low, h.asc⟩
theorem Fz.nil (w : World) : Fz w w [] := (Fx.nil w).fz
theorem Fz.new {w0 w : World} {bs : List (Nat × TypeId × Array Value)} (h : Fz w0 w bs) (t : TypeId) (cs : Array Value) :
    Fz w0 (w.alloc (.cells cs t)) (bs ++ [(w.heap.size, t, cs)]) := by
  refine ⟨h.b.alloc h.b.size _, ?_, ?_, ?_⟩
  · intro i g t' cs' hi
    rcases get_snoc hi with hi | ⟨rfl, hi⟩
    · exact (h.box i g t' cs' hi).alloc _
    · simp at hi; obtain ⟨rfl, rfl, rfl⟩ := hi; exact Blk.new w _ _
  · intro i g t' cs' hi
    rcases get_snoc hi with hi | ⟨rfl, hi⟩
    · exact h.low i g t' cs' hi
    · simp at hi; obtain ⟨rfl, rfl, rfl⟩ := hi; exact h.b.size
  · intro i j g t1 cs1 g' t' cs' hij hi hj
    rcases get_snoc hj with hj | ⟨rfl, hj⟩
    · rcases get_snoc hi with hi | ⟨rfl, hi⟩
      · exact h.asc i j g t1 cs1 g' t' cs' hij hi hj
      · have := (List.getElem?_eq_some_iff.1 hj).1; omega
    · simp at hj; obtain ⟨rfl, rfl, rfl⟩ := hj
      rcases get_snoc hi with hi | ⟨rfl, hi⟩
      · exact (h.box i g t1 cs1 hi).lt
      · omega
theorem Fz.call {w0 w w' : World} {bs : List (Nat × TypeId × Array Value)} (h : Fz w0 w bs) (hb : Below w.heap.size w w') : Fz w0 w' bs :=
  ⟨h.b.trans (hb.mono h.b.size), fun i g t cs hi => (h.box i g t cs hi).below hb, h.low, h.asc⟩
theorem Fz.alloc {w0 w : World} {bs : List (Nat × TypeId × Array Value)} (h : Fz w0 w bs) (o : Obj) : Fz w0 (w.alloc o) bs :=
  ⟨h.b.alloc h.b.size _, fun i g t cs hi => (h.box i g t cs hi).alloc _, h.low, h.asc⟩
theorem Fz.drewN {w0 w : World} {bs : List (Nat × TypeId × Array Value)} (h : Fz w0 w bs) (n : Nat) : Fz w0 (w.drewN n) bs := ⟨below_drewN' h.b n, h.box, h.low, h.asc⟩
theorem Fz.drew {w0 w : World} {bs : List (Nat × TypeId × Array Value)} (h : Fz w0 w bs) : Fz w0 w.drew bs := h.drewN 1
theorem Fz.one (w : World) (t : TypeId) (cs : Array Value) : Fz w (w.alloc (.cells cs t)) [(w.heap.size, t, cs)] := (Fz.nil w).new t cs
theorem Fz.two (w : World) (t : TypeId) (cs : Array Value) (t' : TypeId) (cs' : Array Value) : Fz w ((w.alloc (.cells cs t)).alloc (.cells cs' t')) [(w.heap.size, t, cs), (w.heap.size + 1, t', cs')] := by
  have := ((Fz.nil w).new t cs).new t' cs'
  simpa using this
theorem Fz.three (w : World) (t : TypeId) (cs : Array Value) (t' : TypeId) (cs' : Array Value) (t'' : TypeId) (cs'' : Array Value) :
    Fz w (((w.alloc (.cells cs t)).alloc (.cells cs' t')).alloc (.cells cs'' t'')) [(w.heap.size, t, cs), (w.heap.size + 1, t', cs'), (w.heap.size + 1 + 1, t'', cs'')] := by
  have := (((Fz.nil w).new t cs).new t' cs').new t'' cs''
  simpa using this
theorem Fz.four (w : World) (t : TypeId) (cs : Array Value) (t' : TypeId) (cs' : Array Value) (t'' : TypeId) (cs'' : Array Value) (t3 : TypeId) (cs3 : Array Value) :
    Fz w ((((w.alloc (.cells cs t)).alloc (.cells cs' t')).alloc (.cells cs'' t'')).alloc (.cells cs3 t3)) [(w.heap.size, t, cs), (w.heap.size + 1, t', cs'), (w.heap.size + 1 + 1, t'', cs''), (w.heap.size + 1 + 1 + 1, t3, cs3)] := by
  have := ((((Fz.nil w).new t cs).new t' cs').new t'' cs'').new t3 cs3
  simpa using this
theorem Fz.set {w0 w : World} {bs : List (Nat × TypeId × Array Value)} (h : Fz w0 w bs) (i j : Nat) {g : Nat} {t : TypeId} {cs : Array Value} (hi : bs[i]? = some (g, t, cs)) (u : Value) :
    Fz w0 (w.setCell ⟨g, j, none⟩ u) (bs.set i (g, t, cs.setIfInBounds j u)) := by
  have hl := (List.getElem?_eq_some_iff.1 hi).1
  have key : ∀ (k g' : Nat) t' cs', (bs.set i (g, t, cs.setIfInBounds j u))[k]? = some (g', t', cs') → k = i ∧ g' = g ∧ t' = t ∧ cs' = cs.setIfInBounds j u ∨ k ≠ i ∧ bs[k]? = some (g', t', cs') := by
    intro k g' t' cs' hk
    by_cases hki : k = i
    · subst hki; rw [List.getElem?_set_self hl] at hk; simp at hk
      obtain ⟨rfl, rfl, rfl⟩ := hk; exact .inl ⟨rfl, rfl, rfl, rfl⟩
    · rw [List.getElem?_set_ne (Ne.symm hki)] at hk; exact .inr ⟨hki, hk⟩
  refine ⟨h.b.setCell (h.low i g t cs hi) _, ?_, ?_, ?_⟩
  · intro k g' t' cs' hk
    rcases key k g' t' cs' hk with ⟨rfl, rfl, rfl, rfl⟩ | ⟨hki, hk⟩
    · exact (h.box k _ _ cs hi).set j u
    · refine (h.box k g' t' cs' hk).far ?_ u
      rcases Nat.lt_or_gt_of_ne hki with hlt | hgt
      · have := h.asc k i g' t' cs' g t cs hlt hk hi; simp; omega
      · have := h.asc i k g t cs g' t' cs' hgt hi hk; simp; omega
  · intro k g' t' cs' hk
    rcases key k g' t' cs' hk with ⟨rfl, rfl, rfl, rfl⟩ | ⟨hki, hk⟩
    · exact h.low k _ _ cs hi
    · exact h.low k g' t' cs' hk
  · intro a c g1 t1 cs1 g2 t2 cs2 hac ha hc
    have e1 : ∃ t3 cs3, bs[a]? = some (g1, t3, cs3) := by
      rcases key a g1 t1 cs1 ha with ⟨rfl, rfl, rfl, rfl⟩ | ⟨_, hk⟩
      · exact ⟨_, _, hi⟩
      · exact ⟨_, _, hk⟩
    have e2 : ∃ t3 cs3, bs[c]? = some (g2, t3, cs3) := by
      rcases key c g2 t2 cs2 hc with ⟨rfl, rfl, rfl, rfl⟩ | ⟨_, hk⟩
      · exact ⟨_, _, hi⟩
      · exact ⟨_, _, hk⟩
    obtain ⟨_, _, e1⟩ := e1
    obtain ⟨_, _, e2⟩ := e2
    exact h.asc a c _ _ _ _ _ _ hac e1 e2

theorem Fz.s2 {w0 w : World} {bs : List (Nat × TypeId × Array Value)} (h : Fz w0 w bs) (i : Nat) {g : Nat} {t : TypeId} {x0 x1 : Value} (hi : bs[i]? = some (g, t, #[x0, x1])) (y0 y1 : Value) :
    Fz w0 ((w.setCell ⟨g, 0, none⟩ y0).setCell ⟨g, 1, none⟩ y1) (bs.set i (g, t, #[y0, y1])) := by
  have hl := (List.getElem?_eq_some_iff.1 hi).1
  have q0 := h.set i 0 hi y0
  have hi0 : (bs.set i (g, t, #[y0, x1]))[i]? = some (g, t, #[y0, x1]) := List.getElem?_set_self hl
  have r0 : Fz w0 _ (bs.set i (g, t, #[y0, x1])) := q0
  have q1 := r0.set i 1 hi0 y1
  rw [List.set_set] at q1
  exact q1
theorem Fz.s3 {w0 w : World} {bs : List (Nat × TypeId × Array Value)} (h : Fz w0 w bs) (i : Nat) {g : Nat} {t : TypeId} {x0 x1 x2 : Value} (hi : bs[i]? = some (g, t, #[x0, x1, x2])) (y0 y1 y2 : Value) :
    Fz w0 (((w.setCell ⟨g, 0, none⟩ y0).setCell ⟨g, 1, none⟩ y1).setCell ⟨g, 2, none⟩ y2) (bs.set i (g, t, #[y0, y1, y2])) := by
  have hl := (List.getElem?_eq_some_iff.1 hi).1
  have q0 := h.set i 0 hi y0
  have hi0 : (bs.set i (g, t, #[y0, x1, x2]))[i]? = some (g, t, #[y0, x1, x2]) := List.getElem?_set_self hl
  have r0 : Fz w0 _ (bs.set i (g, t, #[y0, x1, x2])) := q0
  have q1 := r0.set i 1 hi0 y1
  rw [List.set_set] at q1
  have hi1 : (bs.set i (g, t, #[y0, y1, x2]))[i]? = some (g, t, #[y0, y1, x2]) := List.getElem?_set_self hl
  have r1 : Fz w0 _ (bs.set i (g, t, #[y0, y1, x2])) := q1
  have q2 := r1.set i 2 hi1 y2
  rw [List.set_set] at q2
  exact q2
theorem Fz.s4 {w0 w : World} {bs : List (Nat × TypeId × Array Value)} (h : Fz w0 w bs) (i : Nat) {g : Nat} {t : TypeId} {x0 x1 x2 x3 : Value} (hi : bs[i]? = some (g, t, #[x0, x1, x2, x3])) (y0 y1 y2 y3 : Value) :
    Fz w0 ((((w.setCell ⟨g, 0, none⟩ y0).setCell ⟨g, 1, none⟩ y1).setCell ⟨g, 2, none⟩ y2).setCell ⟨g, 3, none⟩ y3) (bs.set i (g, t, #[y0, y1, y2, y3])) := by
  have hl := (List.getElem?_eq_some_iff.1 hi).1
  have q0 := h.set i 0 hi y0
  have hi0 : (bs.set i (g, t, #[y0, x1, x2, x3]))[i]? = some (g, t, #[y0, x1, x2, x3]) := List.getElem?_set_self hl
  have r0 : Fz w0 _ (bs.set i (g, t, #[y0, x1, x2, x3])) := q0
  have q1 := r0.set i 1 hi0 y1
  rw [List.set_set] at q1
  have hi1 : (bs.set i (g, t, #[y0, y1, x2, x3]))[i]? = some (g, t, #[y0, y1, x2, x3]) := List.getElem?_set_self hl
  have r1 : Fz w0 _ (bs.set i (g, t, #[y0, y1, x2, x3])) := q1
  have q2 := r1.set i 2 hi1 y2
  rw [List.set_set] at q2
  have hi2 : (bs.set i (g, t, #[y0, y1, y2, x3]))[i]? = some (g, t, #[y0, y1, y2, x3]) := List.getElem?_set_self hl
  have r2 : Fz w0 _ (bs.set i (g, t, #[y0, y1, y2, x3])) := q2
  have q3 := r2.set i 3 hi2 y3
  rw [List.set_set] at q3
  exact q3
theorem Fz.s11 {w0 w : World} {bs : List (Nat × TypeId × Array Value)} (h : Fz w0 w bs) (i : Nat) {g : Nat} {t : TypeId} {x0 x1 x2 x3 x4 x5 x6 x7 x8 x9 x10 : Value} (hi : bs[i]? = some (g, t, #[x0, x1, x2, x3, x4, x5, x6, x7, x8, x9, x10])) (y0 y1 y2 y3 y4 y5 y6 y7 y8 y9 y10 : Value) :
    Fz w0 (((((((((((w.setCell ⟨g, 0, none⟩ y0).setCell ⟨g, 1, none⟩ y1).setCell ⟨g, 2, none⟩ y2).setCell ⟨g, 3, none⟩ y3).setCell ⟨g, 4, none⟩ y4).setCell ⟨g, 5, none⟩ y5).setCell ⟨g, 6, none⟩ y6).setCell ⟨g, 7, none⟩ y7).setCell ⟨g, 8, none⟩ y8).setCell ⟨g, 9, none⟩ y9).setCell ⟨g, 10, none⟩ y10) (bs.set i (g, t, #[y0, y1, y2, y3, y4, y5, y6, y7, y8, y9, y10])) := by
  have hl := (List.getElem?_eq_some_iff.1 hi).1
  have q0 := h.set i 0 hi y0
  have hi0 : (bs.set i (g, t, #[y0, x1, x2, x3, x4, x5, x6, x7, x8, x9, x10]))[i]? = some (g, t, #[y0, x1, x2, x3, x4, x5, x6, x7, x8, x9, x10]) := List.getElem?_set_self hl
  have r0 : Fz w0 _ (bs.set i (g, t, #[y0, x1, x2, x3, x4, x5, x6, x7, x8, x9, x10])) := q0
  have q1 := r0.set i 1 hi0 y1
  rw [List.set_set] at q1
  have hi1 : (bs.set i (g, t, #[y0, y1, x2, x3, x4, x5, x6, x7, x8, x9, x10]))[i]? = some (g, t, #[y0, y1, x2, x3, x4, x5, x6, x7, x8, x9, x10]) := List.getElem?_set_self hl
  have r1 : Fz w0 _ (bs.set i (g, t, #[y0, y1, x2, x3, x4, x5, x6, x7, x8, x9, x10])) := q1
  have q2 := r1.set i 2 hi1 y2
  rw [List.set_set] at q2
  have hi2 : (bs.set i (g, t, #[y0, y1, y2, x3, x4, x5, x6, x7, x8, x9, x10]))[i]? = some (g, t, #[y0, y1, y2, x3, x4, x5, x6, x7, x8, x9, x10]) := List.getElem?_set_self hl
  have r2 : Fz w0 _ (bs.set i (g, t, #[y0, y1, y2, x3, x4, x5, x6, x7, x8, x9, x10])) := q2
  have q3 := r2.set i 3 hi2 y3
  rw [List.set_set] at q3
  have hi3 : (bs.set i (g, t, #[y0, y1, y2, y3, x4, x5, x6, x7, x8, x9, x10]))[i]? = some (g, t, #[y0, y1, y2, y3, x4, x5, x6, x7, x8, x9, x10]) := List.getElem?_set_self hl
  have r3 : Fz w0 _ (bs.set i (g, t, #[y0, y1, y2, y3, x4, x5, x6, x7, x8, x9, x10])) := q3
  have q4 := r3.set i 4 hi3 y4
  rw [List.set_set] at q4
  have hi4 : (bs.set i (g, t, #[y0, y1, y2, y3, y4, x5, x6, x7, x8, x9, x10]))[i]? = some (g, t, #[y0, y1, y2, y3, y4, x5, x6, x7, x8, x9, x10]) := List.getElem?_set_self hl
  have r4 : Fz w0 _ (bs.set i (g, t, #[y0, y1, y2, y3, y4, x5, x6, x7, x8, x9, x10])) := q4
  have q5 := r4.set i 5 hi4 y5
  rw [List.set_set] at q5
  have hi5 : (bs.set i (g, t, #[y0, y1, y2, y3, y4, y5, x6, x7, x8, x9, x10]))[i]? = some (g, t, #[y0, y1, y2, y3, y4, y5, x6, x7, x8, x9, x10]) := List.getElem?_set_self hl
  have r5 : Fz w0 _ (bs.set i (g, t, #[y0, y1, y2, y3, y4, y5, x6, x7, x8, x9, x10])) := q5
  have q6 := r5.set i 6 hi5 y6
  rw [List.set_set] at q6
  have hi6 : (bs.set i (g, t, #[y0, y1, y2, y3, y4, y5, y6, x7, x8, x9, x10]))[i]? = some (g, t, #[y0, y1, y2, y3, y4, y5, y6, x7, x8, x9, x10]) := List.getElem?_set_self hl
  have r6 : Fz w0 _ (bs.set i (g, t, #[y0, y1, y2, y3, y4, y5, y6, x7, x8, x9, x10])) := q6
  have q7 := r6.set i 7 hi6 y7
  rw [List.set_set] at q7
  have hi7 : (bs.set i (g, t, #[y0, y1, y2, y3, y4, y5, y6, y7, x8, x9, x10]))[i]? = some (g, t, #[y0, y1, y2, y3, y4, y5, y6, y7, x8, x9, x10]) := List.getElem?_set_self hl
  have r7 : Fz w0 _ (bs.set i (g, t, #[y0, y1, y2, y3, y4, y5, y6, y7, x8, x9, x10])) := q7
  have q8 := r7.set i 8 hi7 y8
  rw [List.set_set] at q8
  have hi8 : (bs.set i (g, t, #[y0, y1, y2, y3, y4, y5, y6, y7, y8, x9, x10]))[i]? = some (g, t, #[y0, y1, y2, y3, y4, y5, y6, y7, y8, x9, x10]) := List.getElem?_set_self hl
  have r8 : Fz w0 _ (bs.set i (g, t, #[y0, y1, y2, y3, y4, y5, y6, y7, y8, x9, x10])) := q8
  have q9 := r8.set i 9 hi8 y9
  rw [List.set_set] at q9
  have hi9 : (bs.set i (g, t, #[y0, y1, y2, y3, y4, y5, y6, y7, y8, y9, x10]))[i]? = some (g, t, #[y0, y1, y2, y3, y4, y5, y6, y7, y8, y9, x10]) := List.getElem?_set_self hl
  have r9 : Fz w0 _ (bs.set i (g, t, #[y0, y1, y2, y3, y4, y5, y6, y7, y8, y9, x10])) := q9
  have q10 := r9.set i 10 hi9 y10
  rw [List.set_set] at q10
  exact q10
theorem Fz.s6 {w0 w : World} {bs : List (Nat × TypeId × Array Value)} (h : Fz w0 w bs) (i : Nat) {g : Nat} {t : TypeId} {x0 x1 x2 x3 x4 x5 : Value} (hi : bs[i]? = some (g, t, #[x0, x1, x2, x3, x4, x5])) (y0 y1 y2 y3 y4 y5 : Value) :
    Fz w0 ((((((w.setCell ⟨g, 0, none⟩ y0).setCell ⟨g, 1, none⟩ y1).setCell ⟨g, 2, none⟩ y2).setCell ⟨g, 3, none⟩ y3).setCell ⟨g, 4, none⟩ y4).setCell ⟨g, 5, none⟩ y5) (bs.set i (g, t, #[y0, y1, y2, y3, y4, y5])) := by
  have hl := (List.getElem?_eq_some_iff.1 hi).1
  have q0 := h.set i 0 hi y0
  have hi0 : (bs.set i (g, t, #[y0, x1, x2, x3, x4, x5]))[i]? = some (g, t, #[y0, x1, x2, x3, x4, x5]) := List.getElem?_set_self hl
  have r0 : Fz w0 _ (bs.set i (g, t, #[y0, x1, x2, x3, x4, x5])) := q0
  have q1 := r0.set i 1 hi0 y1
  rw [List.set_set] at q1
  have hi1 : (bs.set i (g, t, #[y0, y1, x2, x3, x4, x5]))[i]? = some (g, t, #[y0, y1, x2, x3, x4, x5]) := List.getElem?_set_self hl
  have r1 : Fz w0 _ (bs.set i (g, t, #[y0, y1, x2, x3, x4, x5])) := q1
  have q2 := r1.set i 2 hi1 y2
  rw [List.set_set] at q2
  have hi2 : (bs.set i (g, t, #[y0, y1, y2, x3, x4, x5]))[i]? = some (g, t, #[y0, y1, y2, x3, x4, x5]) := List.getElem?_set_self hl
  have r2 : Fz w0 _ (bs.set i (g, t, #[y0, y1, y2, x3, x4, x5])) := q2
  have q3 := r2.set i 3 hi2 y3
  rw [List.set_set] at q3
  have hi3 : (bs.set i (g, t, #[y0, y1, y2, y3, x4, x5]))[i]? = some (g, t, #[y0, y1, y2, y3, x4, x5]) := List.getElem?_set_self hl
  have r3 : Fz w0 _ (bs.set i (g, t, #[y0, y1, y2, y3, x4, x5])) := q3
  have q4 := r3.set i 4 hi3 y4
  rw [List.set_set] at q4
  have hi4 : (bs.set i (g, t, #[y0, y1, y2, y3, y4, x5]))[i]? = some (g, t, #[y0, y1, y2, y3, y4, x5]) := List.getElem?_set_self hl
  have r4 : Fz w0 _ (bs.set i (g, t, #[y0, y1, y2, y3, y4, x5])) := q4
  have q5 := r4.set i 5 hi4 y5
  rw [List.set_set] at q5
  exact q5
theorem Fz.s6_0 {w0 w : World} {bs : List (Nat × TypeId × Array Value)} (h : Fz w0 w bs) (i : Nat) {g : Nat} {t : TypeId} {x0 x1 x2 x3 x4 x5 : Value} (hi : bs[i]? = some (g, t, #[x0, x1, x2, x3, x4, x5])) (y0 y1 y2 : Value) :
    Fz w0 (((w.setCell ⟨g, 0, none⟩ y0).setCell ⟨g, 1, none⟩ y1).setCell ⟨g, 2, none⟩ y2) (bs.set i (g, t, #[y0, y1, y2, x3, x4, x5])) := by
  have hl := (List.getElem?_eq_some_iff.1 hi).1
  have q0 := h.set i 0 hi y0
  have hi0 : (bs.set i (g, t, #[y0, x1, x2, x3, x4, x5]))[i]? = some (g, t, #[y0, x1, x2, x3, x4, x5]) := List.getElem?_set_self hl
  have r0 : Fz w0 _ (bs.set i (g, t, #[y0, x1, x2, x3, x4, x5])) := q0
  have q1 := r0.set i 1 hi0 y1
  rw [List.set_set] at q1
  have hi1 : (bs.set i (g, t, #[y0, y1, x2, x3, x4, x5]))[i]? = some (g, t, #[y0, y1, x2, x3, x4, x5]) := List.getElem?_set_self hl
  have r1 : Fz w0 _ (bs.set i (g, t, #[y0, y1, x2, x3, x4, x5])) := q1
  have q2 := r1.set i 2 hi1 y2
  rw [List.set_set] at q2
  exact q2
theorem Fz.s6_3 {w0 w : World} {bs : List (Nat × TypeId × Array Value)} (h : Fz w0 w bs) (i : Nat) {g : Nat} {t : TypeId} {x0 x1 x2 x3 x4 x5 : Value} (hi : bs[i]? = some (g, t, #[x0, x1, x2, x3, x4, x5])) (y0 y1 y2 : Value) :
    Fz w0 (((w.setCell ⟨g, 3, none⟩ y0).setCell ⟨g, 4, none⟩ y1).setCell ⟨g, 5, none⟩ y2) (bs.set i (g, t, #[x0, x1, x2, y0, y1, y2])) := by
  have hl := (List.getElem?_eq_some_iff.1 hi).1
  have q0 := h.set i 3 hi y0
  have hi0 : (bs.set i (g, t, #[x0, x1, x2, y0, x4, x5]))[i]? = some (g, t, #[x0, x1, x2, y0, x4, x5]) := List.getElem?_set_self hl
  have r0 : Fz w0 _ (bs.set i (g, t, #[x0, x1, x2, y0, x4, x5])) := q0
  have q1 := r0.set i 4 hi0 y1
  rw [List.set_set] at q1
  have hi1 : (bs.set i (g, t, #[x0, x1, x2, y0, y1, x5]))[i]? = some (g, t, #[x0, x1, x2, y0, y1, x5]) := List.getElem?_set_self hl
  have r1 : Fz w0 _ (bs.set i (g, t, #[x0, x1, x2, y0, y1, x5])) := q1
  have q2 := r1.set i 5 hi1 y2
  rw [List.set_set] at q2
  exact q2
theorem Fz.s9 {w0 w : World} {bs : List (Nat × TypeId × Array Value)} (h : Fz w0 w bs) (i : Nat) {g : Nat} {t : TypeId} {x0 x1 x2 x3 x4 x5 x6 x7 x8 : Value} (hi : bs[i]? = some (g, t, #[x0, x1, x2, x3, x4, x5, x6, x7, x8])) (y0 y1 y2 y3 y4 y5 y6 y7 y8 : Value) :
    Fz w0 (((((((((w.setCell ⟨g, 0, none⟩ y0).setCell ⟨g, 1, none⟩ y1).setCell ⟨g, 2, none⟩ y2).setCell ⟨g, 3, none⟩ y3).setCell ⟨g, 4, none⟩ y4).setCell ⟨g, 5, none⟩ y5).setCell ⟨g, 6, none⟩ y6).setCell ⟨g, 7, none⟩ y7).setCell ⟨g, 8, none⟩ y8) (bs.set i (g, t, #[y0, y1, y2, y3, y4, y5, y6, y7, y8])) := by
  have hl := (List.getElem?_eq_some_iff.1 hi).1
  have q0 := h.set i 0 hi y0
  have hi0 : (bs.set i (g, t, #[y0, x1, x2, x3, x4, x5, x6, x7, x8]))[i]? = some (g, t, #[y0, x1, x2, x3, x4, x5, x6, x7, x8]) := List.getElem?_set_self hl
  have r0 : Fz w0 _ (bs.set i (g, t, #[y0, x1, x2, x3, x4, x5, x6, x7, x8])) := q0
  have q1 := r0.set i 1 hi0 y1
  rw [List.set_set] at q1
  have hi1 : (bs.set i (g, t, #[y0, y1, x2, x3, x4, x5, x6, x7, x8]))[i]? = some (g, t, #[y0, y1, x2, x3, x4, x5, x6, x7, x8]) := List.getElem?_set_self hl
  have r1 : Fz w0 _ (bs.set i (g, t, #[y0, y1, x2, x3, x4, x5, x6, x7, x8])) := q1
  have q2 := r1.set i 2 hi1 y2
  rw [List.set_set] at q2
  have hi2 : (bs.set i (g, t, #[y0, y1, y2, x3, x4, x5, x6, x7, x8]))[i]? = some (g, t, #[y0, y1, y2, x3, x4, x5, x6, x7, x8]) := List.getElem?_set_self hl
  have r2 : Fz w0 _ (bs.set i (g, t, #[y0, y1, y2, x3, x4, x5, x6, x7, x8])) := q2
  have q3 := r2.set i 3 hi2 y3
  rw [List.set_set] at q3
  have hi3 : (bs.set i (g, t, #[y0, y1, y2, y3, x4, x5, x6, x7, x8]))[i]? = some (g, t, #[y0, y1, y2, y3, x4, x5, x6, x7, x8]) := List.getElem?_set_self hl
  have r3 : Fz w0 _ (bs.set i (g, t, #[y0, y1, y2, y3, x4, x5, x6, x7, x8])) := q3
  have q4 := r3.set i 4 hi3 y4
  rw [List.set_set] at q4
  have hi4 : (bs.set i (g, t, #[y0, y1, y2, y3, y4, x5, x6, x7, x8]))[i]? = some (g, t, #[y0, y1, y2, y3, y4, x5, x6, x7, x8]) := List.getElem?_set_self hl
  have r4 : Fz w0 _ (bs.set i (g, t, #[y0, y1, y2, y3, y4, x5, x6, x7, x8])) := q4
  have q5 := r4.set i 5 hi4 y5
  rw [List.set_set] at q5
  have hi5 : (bs.set i (g, t, #[y0, y1, y2, y3, y4, y5, x6, x7, x8]))[i]? = some (g, t, #[y0, y1, y2, y3, y4, y5, x6, x7, x8]) := List.getElem?_set_self hl
  have r5 : Fz w0 _ (bs.set i (g, t, #[y0, y1, y2, y3, y4, y5, x6, x7, x8])) := q5
  have q6 := r5.set i 6 hi5 y6
  rw [List.set_set] at q6
  have hi6 : (bs.set i (g, t, #[y0, y1, y2, y3, y4, y5, y6, x7, x8]))[i]? = some (g, t, #[y0, y1, y2, y3, y4, y5, y6, x7, x8]) := List.getElem?_set_self hl
  have r6 : Fz w0 _ (bs.set i (g, t, #[y0, y1, y2, y3, y4, y5, y6, x7, x8])) := q6
  have q7 := r6.set i 7 hi6 y7
  rw [List.set_set] at q7
  have hi7 : (bs.set i (g, t, #[y0, y1, y2, y3, y4, y5, y6, y7, x8]))[i]? = some (g, t, #[y0, y1, y2, y3, y4, y5, y6, y7, x8]) := List.getElem?_set_self hl
  have r7 : Fz w0 _ (bs.set i (g, t, #[y0, y1, y2, y3, y4, y5, y6, y7, x8])) := q7
  have q8 := r7.set i 8 hi7 y8
  rw [List.set_set] at q8
  exact q8
theorem Fz.s9_0 {w0 w : World} {bs : List (Nat × TypeId × Array Value)} (h : Fz w0 w bs) (i : Nat) {g : Nat} {t : TypeId} {x0 x1 x2 x3 x4 x5 x6 x7 x8 : Value} (hi : bs[i]? = some (g, t, #[x0, x1, x2, x3, x4, x5, x6, x7, x8])) (y0 y1 y2 : Value) :
    Fz w0 (((w.setCell ⟨g, 0, none⟩ y0).setCell ⟨g, 1, none⟩ y1).setCell ⟨g, 2, none⟩ y2) (bs.set i (g, t, #[y0, y1, y2, x3, x4, x5, x6, x7, x8])) := by
  have hl := (List.getElem?_eq_some_iff.1 hi).1
  have q0 := h.set i 0 hi y0
  have hi0 : (bs.set i (g, t, #[y0, x1, x2, x3, x4, x5, x6, x7, x8]))[i]? = some (g, t, #[y0, x1, x2, x3, x4, x5, x6, x7, x8]) := List.getElem?_set_self hl
  have r0 : Fz w0 _ (bs.set i (g, t, #[y0, x1, x2, x3, x4, x5, x6, x7, x8])) := q0
  have q1 := r0.set i 1 hi0 y1
  rw [List.set_set] at q1
  have hi1 : (bs.set i (g, t, #[y0, y1, x2, x3, x4, x5, x6, x7, x8]))[i]? = some (g, t, #[y0, y1, x2, x3, x4, x5, x6, x7, x8]) := List.getElem?_set_self hl
  have r1 : Fz w0 _ (bs.set i (g, t, #[y0, y1, x2, x3, x4, x5, x6, x7, x8])) := q1
  have q2 := r1.set i 2 hi1 y2
  rw [List.set_set] at q2
  exact q2
theorem Fz.c1 {w0 w : World} {bs : List (Nat × TypeId × Array Value)} (h : Fz w0 w bs) (i : Nat) {g : Nat} {t : TypeId} {x0 : Value} (hi : bs[i]? = some (g, t, #[x0])) :
    (w.cell? ⟨g, 0, none⟩ = some x0) ∧ w.frozen? ⟨g, 0, none⟩ = false := by
  have k := h.box i _ _ _ hi
  exact ⟨k.at 0 x0 rfl, k.frozen 0⟩
theorem Fz.c2 {w0 w : World} {bs : List (Nat × TypeId × Array Value)} (h : Fz w0 w bs) (i : Nat) {g : Nat} {t : TypeId} {x0 x1 : Value} (hi : bs[i]? = some (g, t, #[x0, x1])) :
    (w.cell? ⟨g, 0, none⟩ = some x0 ∧ w.cell? ⟨g, 1, none⟩ = some x1) ∧ w.frozen? ⟨g, 0, none⟩ = false ∧ w.frozen? ⟨g, 1, none⟩ = false := by
  have k := h.box i _ _ _ hi
  exact ⟨⟨k.at 0 x0 rfl, k.at 1 x1 rfl⟩, k.frozen 0, k.frozen 1⟩
theorem Fz.c3 {w0 w : World} {bs : List (Nat × TypeId × Array Value)} (h : Fz w0 w bs) (i : Nat) {g : Nat} {t : TypeId} {x0 x1 x2 : Value} (hi : bs[i]? = some (g, t, #[x0, x1, x2])) :
    (w.cell? ⟨g, 0, none⟩ = some x0 ∧ w.cell? ⟨g, 1, none⟩ = some x1 ∧ w.cell? ⟨g, 2, none⟩ = some x2) ∧ w.frozen? ⟨g, 0, none⟩ = false ∧ w.frozen? ⟨g, 1, none⟩ = false ∧ w.frozen? ⟨g, 2, none⟩ = false := by
  have k := h.box i _ _ _ hi
  exact ⟨⟨k.at 0 x0 rfl, k.at 1 x1 rfl, k.at 2 x2 rfl⟩, k.frozen 0, k.frozen 1, k.frozen 2⟩
theorem Fz.c4 {w0 w : World} {bs : List (Nat × TypeId × Array Value)} (h : Fz w0 w bs) (i : Nat) {g : Nat} {t : TypeId} {x0 x1 x2 x3 : Value} (hi : bs[i]? = some (g, t, #[x0, x1, x2, x3])) :
    (w.cell? ⟨g, 0, none⟩ = some x0 ∧ w.cell? ⟨g, 1, none⟩ = some x1 ∧ w.cell? ⟨g, 2, none⟩ = some x2 ∧ w.cell? ⟨g, 3, none⟩ = some x3) ∧ w.frozen? ⟨g, 0, none⟩ = false ∧ w.frozen? ⟨g, 1, none⟩ = false ∧ w.frozen? ⟨g, 2, none⟩ = false ∧ w.frozen? ⟨g, 3, none⟩ = false := by
  have k := h.box i _ _ _ hi
  exact ⟨⟨k.at 0 x0 rfl, k.at 1 x1 rfl, k.at 2 x2 rfl, k.at 3 x3 rfl⟩, k.frozen 0, k.frozen 1, k.frozen 2, k.frozen 3⟩
theorem Fz.c6 {w0 w : World} {bs : List (Nat × TypeId × Array Value)} (h : Fz w0 w bs) (i : Nat) {g : Nat} {t : TypeId} {x0 x1 x2 x3 x4 x5 : Value} (hi : bs[i]? = some (g, t, #[x0, x1, x2, x3, x4, x5])) :
    (w.cell? ⟨g, 0, none⟩ = some x0 ∧ w.cell? ⟨g, 1, none⟩ = some x1 ∧ w.cell? ⟨g, 2, none⟩ = some x2 ∧ w.cell? ⟨g, 3, none⟩ = some x3 ∧ w.cell? ⟨g, 4, none⟩ = some x4 ∧ w.cell? ⟨g, 5, none⟩ = some x5) ∧ w.frozen? ⟨g, 0, none⟩ = false ∧ w.frozen? ⟨g, 1, none⟩ = false ∧ w.frozen? ⟨g, 2, none⟩ = false ∧ w.frozen? ⟨g, 3, none⟩ = false ∧ w.frozen? ⟨g, 4, none⟩ = false ∧ w.frozen? ⟨g, 5, none⟩ = false := by
  have k := h.box i _ _ _ hi
  exact ⟨⟨k.at 0 x0 rfl, k.at 1 x1 rfl, k.at 2 x2 rfl, k.at 3 x3 rfl, k.at 4 x4 rfl, k.at 5 x5 rfl⟩, k.frozen 0, k.frozen 1, k.frozen 2, k.frozen 3, k.frozen 4, k.frozen 5⟩
theorem Fz.c9 {w0 w : World} {bs : List (Nat × TypeId × Array Value)} (h : Fz w0 w bs) (i : Nat) {g : Nat} {t : TypeId} {x0 x1 x2 x3 x4 x5 x6 x7 x8 : Value} (hi : bs[i]? = some (g, t, #[x0, x1, x2, x3, x4, x5, x6, x7, x8])) :
    (w.cell? ⟨g, 0, none⟩ = some x0 ∧ w.cell? ⟨g, 1, none⟩ = some x1 ∧ w.cell? ⟨g, 2, none⟩ = some x2 ∧ w.cell? ⟨g, 3, none⟩ = some x3 ∧ w.cell? ⟨g, 4, none⟩ = some x4 ∧ w.cell? ⟨g, 5, none⟩ = some x5 ∧ w.cell? ⟨g, 6, none⟩ = some x6 ∧ w.cell? ⟨g, 7, none⟩ = some x7 ∧ w.cell? ⟨g, 8, none⟩ = some x8) ∧ w.frozen? ⟨g, 0, none⟩ = false ∧ w.frozen? ⟨g, 1, none⟩ = false ∧ w.frozen? ⟨g, 2, none⟩ = false ∧ w.frozen? ⟨g, 3, none⟩ = false ∧ w.frozen? ⟨g, 4, none⟩ = false ∧ w.frozen? ⟨g, 5, none⟩ = false ∧ w.frozen? ⟨g, 6, none⟩ = false ∧ w.frozen? ⟨g, 7, none⟩ = false ∧ w.frozen? ⟨g, 8, none⟩ = false := by
  have k := h.box i _ _ _ hi
  exact ⟨⟨k.at 0 x0 rfl, k.at 1 x1 rfl, k.at 2 x2 rfl, k.at 3 x3 rfl, k.at 4 x4 rfl, k.at 5 x5 rfl, k.at 6 x6 rfl, k.at 7 x7 rfl, k.at 8 x8 rfl⟩, k.frozen 0, k.frozen 1, k.frozen 2, k.frozen 3, k.frozen 4, k.frozen 5, k.frozen 6, k.frozen 7, k.frozen 8⟩
theorem Fz.c11 {w0 w : World} {bs : List (Nat × TypeId × Array Value)} (h : Fz w0 w bs) (i : Nat) {g : Nat} {t : TypeId} {x0 x1 x2 x3 x4 x5 x6 x7 x8 x9 x10 : Value} (hi : bs[i]? = some (g, t, #[x0, x1, x2, x3, x4, x5, x6, x7, x8, x9, x10])) :
    (w.cell? ⟨g, 0, none⟩ = some x0 ∧ w.cell? ⟨g, 1, none⟩ = some x1 ∧ w.cell? ⟨g, 2, none⟩ = some x2 ∧ w.cell? ⟨g, 3, none⟩ = some x3 ∧ w.cell? ⟨g, 4, none⟩ = some x4 ∧ w.cell? ⟨g, 5, none⟩ = some x5 ∧ w.cell? ⟨g, 6, none⟩ = some x6 ∧ w.cell? ⟨g, 7, none⟩ = some x7 ∧ w.cell? ⟨g, 8, none⟩ = some x8 ∧ w.cell? ⟨g, 9, none⟩ = some x9 ∧ w.cell? ⟨g, 10, none⟩ = some x10) ∧ w.frozen? ⟨g, 0, none⟩ = false ∧ w.frozen? ⟨g, 1, none⟩ = false ∧ w.frozen? ⟨g, 2, none⟩ = false ∧ w.frozen? ⟨g, 3, none⟩ = false ∧ w.frozen? ⟨g, 4, none⟩ = false ∧ w.frozen? ⟨g, 5, none⟩ = false ∧ w.frozen? ⟨g, 6, none⟩ = false ∧ w.frozen? ⟨g, 7, none⟩ = false ∧ w.frozen? ⟨g, 8, none⟩ = false ∧ w.frozen? ⟨g, 9, none⟩ = false ∧ w.frozen? ⟨g, 10, none⟩ = false := by
  have k := h.box i _ _ _ hi
  exact ⟨⟨k.at 0 x0 rfl, k.at 1 x1 rfl, k.at 2 x2 rfl, k.at 3 x3 rfl, k.at 4 x4 rfl, k.at 5 x5 rfl, k.at 6 x6 rfl, k.at 7 x7 rfl, k.at 8 x8 rfl, k.at 9 x9 rfl, k.at 10 x10 rfl⟩, k.frozen 0, k.frozen 1, k.frozen 2, k.frozen 3, k.frozen 4, k.frozen 5, k.frozen 6, k.frozen 7, k.frozen 8, k.frozen 9, k.frozen 10⟩

/-- limbs of a box are nought -/
def zlB : Value → Bool
  | .int .u8 z => z == 0
  | .int .u64 z => z == 0
  | _ => true
theorem zl_at {cs : Array Value} (h : cs.toList.all zlB = true) {k : Nat} {x : Value} (hx : cs[k]? = some x) : zlB x = true := by
  rw [List.all_eq_true] at h
  apply h
  rw [← Array.getElem?_toList] at hx
  exact List.mem_of_getElem? hx
/-- what a number's limbs are stays where a box whose limbs are nought is written -/
theorem Dg.setz {w0 w w' : World} {v : Value} {n : Nat} (h : Dg w v n) {g : Nat} {t : TypeId} {cs : Array Value} (t0 : Tab w0) (hb : Below w0.heap.size w0 w') (hg : Blk w g t cs) (hz : cs.toList.all zlB = true)
    (hk : ∀ k, k < w.heap.size → k ≠ g → w'.heap[k]? = w.heap[k]?) : Dg w' v n := by
  obtain ⟨L, hr, hc⟩ := h
  refine ⟨L, ⟨t0.below hb, ?_, hr.digs, hr.cap⟩, hc⟩
  obtain ⟨a, c, rfl, hcell⟩ := hr.sl
  refine ⟨a, c, rfl, fun hl => ?_⟩
  obtain ⟨b, off, rfl, hc2⟩ := hcell hl
  refine ⟨b, off, rfl, fun i y hy => ?_⟩
  have h1 := hc2 i y hy
  by_cases hbg : b = g
  · subst hbg
    exfalso
    rw [dvl_length] at hl
    have hn0 : n ≠ 0 := by
      rintro rfl
      rw [hc.zero] at hl; simp at hl
    have h2 := (bl_digits hc hn0).2
    have hlt : L.length - 1 < L.length := by omega
    have h3 := hc2 (L.length - 1) (.int .u64 (dg L (L.length - 1) : Nat)) (dvl_get (dg_get hlt))
    rw [hg.cell] at h3
    have h4 := zl_at hz h3
    simp only [zlB, beq_iff_eq] at h4
    omega
  · exact (World.cell?_of_block (hk b (cell_lt h1) hbg)).trans h1
theorem Cy.setz {w0 w w' : World} {v : Value} {d : Dn} (h : Cy w v d) {g : Nat} {t : TypeId} {cs : Array Value} (t0 : Tab w0) (hb : Below w0.heap.size w0 w') (hg : Blk w g t cs) (hz : cs.toList.all zlB = true)
    (hk : ∀ k, k < w.heap.size → k ≠ g → w'.heap[k]? = w.heap[k]?) : Cy w' v d := by
  obtain ⟨s, h1, h2, h3⟩ := h
  exact ⟨s, h1, h2.setz t0 hb hg hz hk, h3⟩

end Go.Proofs.YtobpioceopfkpaaGreatDoor

/-
  cascade.Plan, from 64. Printed by gen_pl.py.
-/
namespace Go.Proofs.YtobpioceopfkpaaGreatDoor
open Go.RowKit

set_option maxRecDepth 100000 in
set_option maxHeartbeats 4000000 in
theorem Plan_64 (w : World) : Calls Tryz.prog 41 #[.int .i64 64, .int .i64 64] w fun e w' => ∃ v, e = .returned (.tuple #[v, .int .i64 0]) ∧ w'.ownsRow w.heap.size 3 1 v 1 [.int .i64 64] ∧ Below w.heap.size w w' := by
  have i3 : (Tryz.prog.info? 3).map (fun i => (i.zero, i.size, i.bytes)) = some (some (.int .i64 0), 1, 8) := by kernel_rfl
  go_enter Tryz.func41, Tryz.ntmps41
  go_wp2
  refine wp_loop_rounds 1 ?_
  have ho0 : Hid (w.ownsRow w.heap.size 3 1 (.slice none 0 0) 0 []) := World.ownsRow_nil _ _ _ _
  have hb0 : Hid (Below w.heap.size w w) := Below.refl _ _
  rw [rounds_succ]
  go_wp2_with (at_builtin; refine wpList_app1 rfl (.tmp 33) (.tmp 35) 87 rfl w.heap.size 3 (.int .i64 0) 8 Tryz.underlying87 i3 rfl (by decide) _ 0 _ rfl _ 1 rfl rfl ho0.out hb0.out hb0.out.size (by decide) ?_)
  intro v1 w1 h1 h2 h3
  have ho1 : Hid (w1.ownsRow w.heap.size 3 1 v1 1 [.int .i64 64]) := h1
  have hb1 := Lib.hid h2
  clear h1 h2 h3 ho0 hb0
  go_wp2
  refine bodyPost_ret (v := .tuple #[v1, .int .i64 0]) (by simp [results, Tryz.results41, go_sem]) rfl ?_
  exact ⟨_, rfl, ho1.out, hb1.out⟩

set_option maxRecDepth 100000 in
set_option maxHeartbeats 4000000 in
theorem Plan_1024 (w : World) : Calls Tryz.prog 41 #[.int .i64 64, .int .i64 1024] w fun e w' => ∃ v, e = .returned (.tuple #[v, .int .i64 0]) ∧ w'.ownsRow w.heap.size 3 1 v 5 [.int .i64 64, .int .i64 128, .int .i64 256, .int .i64 512, .int .i64 1024] ∧ Below w.heap.size w w' := by
  have i3 : (Tryz.prog.info? 3).map (fun i => (i.zero, i.size, i.bytes)) = some (some (.int .i64 0), 1, 8) := by kernel_rfl
  go_enter Tryz.func41, Tryz.ntmps41
  go_wp2
  refine wp_loop_rounds 5 ?_
  have ho0 : Hid (w.ownsRow w.heap.size 3 1 (.slice none 0 0) 0 []) := World.ownsRow_nil _ _ _ _
  have hb0 : Hid (Below w.heap.size w w) := Below.refl _ _
  rw [rounds_succ]
  go_wp2_with (at_builtin; refine wpList_app1 rfl (.tmp 29) (.tmp 31) 87 rfl w.heap.size 3 (.int .i64 0) 8 Tryz.underlying87 i3 rfl (by decide) _ 0 _ rfl _ 1 rfl rfl ho0.out hb0.out hb0.out.size (by decide) ?_)
  intro v1 w1 h1 h2 h3
  have ho1 : Hid (w1.ownsRow w.heap.size 3 1 v1 1 [.int .i64 64]) := h1
  have hb1 := Lib.hid h2
  clear h1 h2 h3 ho0 hb0
  go_wp2
  rw [rounds_succ]
  go_wp2_with (at_builtin; refine wpList_app1 rfl (.tmp 29) (.tmp 31) 87 rfl w.heap.size 3 (.int .i64 0) 8 Tryz.underlying87 i3 rfl (by decide) _ 1 _ rfl _ 1 rfl rfl ho1.out hb1.out hb1.out.size (by decide) ?_)
  intro v2 w2 h1 h2 h3
  have ho2 : Hid (w2.ownsRow w.heap.size 3 1 v2 2 [.int .i64 64, .int .i64 128]) := h1
  have hb2 := Lib.hid h2
  clear h1 h2 h3 ho1 hb1
  go_wp2
  rw [rounds_succ]
  go_wp2_with (at_builtin; refine wpList_app1 rfl (.tmp 29) (.tmp 31) 87 rfl w.heap.size 3 (.int .i64 0) 8 Tryz.underlying87 i3 rfl (by decide) _ 2 _ rfl _ 1 rfl rfl ho2.out hb2.out hb2.out.size (by decide) ?_)
  intro v3 w3 h1 h2 h3
  have ho3 : Hid (w3.ownsRow w.heap.size 3 1 v3 3 [.int .i64 64, .int .i64 128, .int .i64 256]) := h1
  have hb3 := Lib.hid h2
  clear h1 h2 h3 ho2 hb2
  go_wp2
  rw [rounds_succ]
  go_wp2_with (at_builtin; refine wpList_app1 rfl (.tmp 29) (.tmp 31) 87 rfl w.heap.size 3 (.int .i64 0) 8 Tryz.underlying87 i3 rfl (by decide) _ 3 _ rfl _ 1 rfl rfl ho3.out hb3.out hb3.out.size (by decide) ?_)
  intro v4 w4 h1 h2 h3
  have ho4 : Hid (w4.ownsRow w.heap.size 3 1 v4 4 [.int .i64 64, .int .i64 128, .int .i64 256, .int .i64 512]) := h1
  have hb4 := Lib.hid h2
  clear h1 h2 h3 ho3 hb3
  go_wp2
  rw [rounds_succ]
  go_wp2_with (at_builtin; refine wpList_app1 rfl (.tmp 33) (.tmp 35) 87 rfl w.heap.size 3 (.int .i64 0) 8 Tryz.underlying87 i3 rfl (by decide) _ 4 _ rfl _ 1 rfl rfl ho4.out hb4.out hb4.out.size (by decide) ?_)
  intro v5 w5 h1 h2 h3
  have ho5 : Hid (w5.ownsRow w.heap.size 3 1 v5 5 [.int .i64 64, .int .i64 128, .int .i64 256, .int .i64 512, .int .i64 1024]) := h1
  have hb5 := Lib.hid h2
  clear h1 h2 h3 ho4 hb4
  go_wp2
  refine bodyPost_ret (v := .tuple #[v5, .int .i64 0]) (by simp [results, Tryz.results41, go_sem]) rfl ?_
  exact ⟨_, rfl, ho5.out, hb5.out⟩


end Go.Proofs.YtobpioceopfkpaaGreatDoor
