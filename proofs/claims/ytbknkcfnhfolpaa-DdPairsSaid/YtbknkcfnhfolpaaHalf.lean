/-
  The halves' worths, as DdProds lays them: two variables filled by one statement.
-/
import Derived.Test.YtbknkcfnhfolpaaDu
set_option exponentiation.threshold 9000
namespace Go.Proofs.Ytbknkcfnhfolpaa
open Go.ChangeShapes Go.WideShapes Go.ChangeAt Go.RowKit Rn

/-- the pair's block, and two numbers' blocks -/
structure Halves (P : Nat) (h l : Nat) (zh zl : Int) (w wr : World) (g k : Nat) : Prop where
  p : Blk wr P 28 #[.float .f64 h, .float .f64 l]
  hi : ∃ ng s e, Blk wr g 32 #[.bool ng, s, .int .i64 e] ∧ NO wr (.agg #[.bool ng, s, .int .i64 e]) zh (-1074)
  lo : ∃ ng s e, Blk wr k 32 #[.bool ng, s, .int .i64 e] ∧ NO wr (.agg #[.bool ng, s, .int .i64 e]) zl (-1074)
  b : Below w.heap.size w wr


structure Inv (P h l : Nat) (w V : World) : Prop where
  p : Blk V P 28 #[.float .f64 h, .float .f64 l]
  b : Below w.heap.size w V
theorem Inv.alloc {P h l : Nat} {w V : World} (i : Inv P h l w V) (o : Obj) : Inv P h l w (V.alloc o) := ⟨i.p.alloc o, i.b.alloc i.b.size o⟩
theorem Inv.below {P h l : Nat} {w V V' : World} (i : Inv P h l w V) (hb : Below V.heap.size V V') : Inv P h l w V' := ⟨i.p.below hb, i.b.trans (hb.mono i.b.size)⟩
theorem Inv.drew {P h l : Nat} {w V : World} (i : Inv P h l w V) : Inv P h l w V.drew := ⟨i.p, below_drewN' i.b 1⟩
theorem Inv.cells {P h l : Nat} {w V : World} (i : Inv P h l w V) : V.cell? ⟨P, 0, none⟩ = some (.float .f64 h) ∧ V.cell? ⟨P, 1, none⟩ = some (.float .f64 l) := ⟨i.p.at 0 (.float .f64 h) rfl, i.p.at 1 (.float .f64 l) rfl⟩

/-- a block laid ahead of a call -/
theorem res1 {V V' : World} (h : Below (V.alloc (.cells #[.bool false, .slice none 0 0, .int .i64 0] 32)).heap.size (V.alloc (.cells #[.bool false, .slice none 0 0, .int .i64 0] 32)) V') : Res V' V.heap.size := (newR h).1
theorem res2 {V V' : World} (h : Below ((V.alloc (.cells #[.bool false, .slice none 0 0, .int .i64 0] 32)).alloc (.cells #[.bool false, .slice none 0 0, .int .i64 0] 32)).heap.size ((V.alloc (.cells #[.bool false, .slice none 0 0, .int .i64 0] 32)).alloc (.cells #[.bool false, .slice none 0 0, .int .i64 0] 32)) V') : Res V' V.heap.size ∧ Res V' (V.heap.size + 1) := by
  obtain ⟨a, b, _⟩ := new2 (Below.refl V.heap.size V) (Nat.le_refl _) h
  exact ⟨a, b⟩
theorem Res.below {V V' : World} {g : Nat} (h : Res V g) (hb : Below V.heap.size V V') : Res V' g := Blk.below h hb
theorem Res.alloc {V : World} {g : Nat} (h : Res V g) (o : Obj) : Res (V.alloc o) g := Blk.alloc h o

theorem NO.alloc {w : World} {v : Value} {z lo : Int} (h : NO w v z lo) (o : Obj) : NO (w.alloc o) v z lo := by
  obtain ⟨ng, m, e, h1, h2⟩ := h; exact ⟨ng, m, e, h1.alloc o, h2⟩

section
variable {P h l : Nat} {zh zl : Int} {w V : World} {n1 n2 : Bool} {a1 a2 : Option Addr} {k1 k2 c1 c2 : Nat} {e1 e2 : Int}
variable (i : Inv P h l w V) (u : NO V (.agg #[.bool n1, .slice a1 k1 c1, .int .i64 e1]) zh (-1074)) (t : NO V (.agg #[.bool n2, .slice a2 k2 c2, .int .i64 e2]) zl (-1074))
include i u t

theorem half0 {g k : Nat} (hg : Res V g) (hk : Res V k) (hgk : g ≠ k) (hgP : g ≠ P) (hkP : k ≠ P) (h1 : w.heap.size ≤ g) (h2 : w.heap.size ≤ k) :
    Halves P h l zh zl w ((((((V.setCell ⟨g, 0, none⟩ (.bool n1)).setCell ⟨g, 1, none⟩ (.slice a1 k1 c1)).setCell ⟨g, 2, none⟩ (.int .i64 e1)).setCell ⟨k, 0, none⟩ (.bool n2)).setCell ⟨k, 1, none⟩ (.slice a2 k2 c2)).setCell ⟨k, 2, none⟩ (.int .i64 e2)) g k := by
  obtain ⟨p1, p2⟩ := fin3 hg i.b h1 (.bool n1) (.slice a1 k1 c1) (.int .i64 e1)
  have u1 := u.st3 hg.parts (.bool n1) (.slice a1 k1 c1) (.int .i64 e1)
  have t1 := t.st3 hg.parts (.bool n1) (.slice a1 k1 c1) (.int .i64 e1)
  have q : Blk (((V.setCell ⟨g, 0, none⟩ (.bool n1)).setCell ⟨g, 1, none⟩ (.slice a1 k1 c1)).setCell ⟨g, 2, none⟩ (.int .i64 e1)) P 28 #[.float .f64 h, .float .f64 l] := ((i.p.far (Ne.symm hgP) _).far (Ne.symm hgP) _).far (Ne.symm hgP) _
  have rk : Res (((V.setCell ⟨g, 0, none⟩ (.bool n1)).setCell ⟨g, 1, none⟩ (.slice a1 k1 c1)).setCell ⟨g, 2, none⟩ (.int .i64 e1)) k := Blk.far (Blk.far (Blk.far hk (Ne.symm hgk) _) (Ne.symm hgk) _) (Ne.symm hgk) _
  generalize (World.setCell (World.setCell (World.setCell V _ _) _ _) _ _) = W at *
  obtain ⟨r1, r2⟩ := fin3 rk p2 h2 (.bool n2) (.slice a2 k2 c2) (.int .i64 e2)
  exact ⟨((q.far (Ne.symm hkP) _).far (Ne.symm hkP) _).far (Ne.symm hkP) _, ⟨_, _, _, ((p1.far hgk _).far hgk _).far hgk _, u1.st3 rk.parts _ _ _⟩, ⟨_, _, _, r1, t1.st3 rk.parts _ _ _⟩, r2⟩

theorem half1 {g : Nat} (hg : Res V g) (hgP : g ≠ P) (h1 : w.heap.size ≤ g) :
    Halves P h l zh zl w ((((V.setCell ⟨g, 0, none⟩ (.bool n1)).setCell ⟨g, 1, none⟩ (.slice a1 k1 c1)).setCell ⟨g, 2, none⟩ (.int .i64 e1)).alloc (.cells #[.bool n2, .slice a2 k2 c2, .int .i64 e2] 32)) g V.heap.size := by
  obtain ⟨p1, p2⟩ := fin3 hg i.b h1 (.bool n1) (.slice a1 k1 c1) (.int .i64 e1)
  have u1 := u.st3 hg.parts (.bool n1) (.slice a1 k1 c1) (.int .i64 e1)
  have t1 := t.st3 hg.parts (.bool n1) (.slice a1 k1 c1) (.int .i64 e1)
  have q : Blk (((V.setCell ⟨g, 0, none⟩ (.bool n1)).setCell ⟨g, 1, none⟩ (.slice a1 k1 c1)).setCell ⟨g, 2, none⟩ (.int .i64 e1)) P 28 #[.float .f64 h, .float .f64 l] := ((i.p.far (Ne.symm hgP) _).far (Ne.symm hgP) _).far (Ne.symm hgP) _
  have hs : (((V.setCell ⟨g, 0, none⟩ (.bool n1)).setCell ⟨g, 1, none⟩ (.slice a1 k1 c1)).setCell ⟨g, 2, none⟩ (.int .i64 e1)).heap.size = V.heap.size := by simp
  rw [← hs]
  generalize (World.setCell (World.setCell (World.setCell V _ _) _ _) _ _) = W at *
  exact ⟨q.alloc _, ⟨_, _, _, p1.alloc _, u1.alloc _⟩, ⟨_, _, _, Blk.new _ _ _, t1.alloc _⟩, p2.alloc p2.size _⟩

theorem half1b {k : Nat} (hk : Res V k) (hkP : k ≠ P) (h1 : w.heap.size ≤ k) :
    Halves P h l zh zl w ((((V.setCell ⟨k, 0, none⟩ (.bool n2)).setCell ⟨k, 1, none⟩ (.slice a2 k2 c2)).setCell ⟨k, 2, none⟩ (.int .i64 e2)).alloc (.cells #[.bool n1, .slice a1 k1 c1, .int .i64 e1] 32)) V.heap.size k := by
  obtain ⟨p1, p2⟩ := fin3 hk i.b h1 (.bool n2) (.slice a2 k2 c2) (.int .i64 e2)
  have u1 := u.st3 hk.parts (.bool n2) (.slice a2 k2 c2) (.int .i64 e2)
  have t1 := t.st3 hk.parts (.bool n2) (.slice a2 k2 c2) (.int .i64 e2)
  have q : Blk (((V.setCell ⟨k, 0, none⟩ (.bool n2)).setCell ⟨k, 1, none⟩ (.slice a2 k2 c2)).setCell ⟨k, 2, none⟩ (.int .i64 e2)) P 28 #[.float .f64 h, .float .f64 l] := ((i.p.far (Ne.symm hkP) _).far (Ne.symm hkP) _).far (Ne.symm hkP) _
  have hs : (((V.setCell ⟨k, 0, none⟩ (.bool n2)).setCell ⟨k, 1, none⟩ (.slice a2 k2 c2)).setCell ⟨k, 2, none⟩ (.int .i64 e2)).heap.size = V.heap.size := by simp
  rw [← hs]
  generalize (World.setCell (World.setCell (World.setCell V _ _) _ _) _ _) = W at *
  exact ⟨q.alloc _, ⟨_, _, _, Blk.new _ _ _, u1.alloc _⟩, ⟨_, _, _, p1.alloc _, t1.alloc _⟩, p2.alloc p2.size _⟩

theorem half2 : Halves P h l zh zl w ((V.alloc (.cells #[.bool n1, .slice a1 k1 c1, .int .i64 e1] 32)).alloc (.cells #[.bool n2, .slice a2 k2 c2, .int .i64 e2] 32)) V.heap.size (V.heap.size + 1) := by
  refine ⟨(i.p.alloc _).alloc _, ⟨_, _, _, (Blk.new _ _ _).alloc _, (u.alloc _).alloc _⟩, ⟨_, _, _, ?_, (t.alloc _).alloc _⟩, (i.b.alloc i.b.size _).alloc (i.b.alloc i.b.size _).size _⟩
  have := Blk.new (V.alloc (.cells #[.bool n1, .slice a1 k1 c1, .int .i64 e1] 32)) 32 #[.bool n2, .slice a2 k2 c2, .int .i64 e2]
  rwa [show (V.alloc (.cells #[.bool n1, .slice a1 k1 c1, .int .i64 e1] 32)).heap.size = V.heap.size + 1 by simp] at this
theorem half2b : Halves P h l zh zl w ((V.alloc (.cells #[.bool n2, .slice a2 k2 c2, .int .i64 e2] 32)).alloc (.cells #[.bool n1, .slice a1 k1 c1, .int .i64 e1] 32)) (V.heap.size + 1) V.heap.size := by
  refine ⟨(i.p.alloc _).alloc _, ⟨_, _, _, ?_, (u.alloc _).alloc _⟩, ⟨_, _, _, (Blk.new _ _ _).alloc _, (t.alloc _).alloc _⟩, (i.b.alloc i.b.size _).alloc (i.b.alloc i.b.size _).size _⟩
  have := Blk.new (V.alloc (.cells #[.bool n2, .slice a2 k2 c2, .int .i64 e2] 32)) 32 #[.bool n1, .slice a1 k1 c1, .int .i64 e1]
  rwa [show (V.alloc (.cells #[.bool n2, .slice a2 k2 c2, .int .i64 e2] 32)).heap.size = V.heap.size + 1 by simp] at this
end

end Go.Proofs.Ytbknkcfnhfolpaa
