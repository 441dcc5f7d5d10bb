/-
  core: the closure; cascade.Go: found at the first try. Printed by gen_rf.py.
-/
import Derived.Test.YtobpioceopfkpaaGreatDoorM22
import Derived.LoopN
import Derived.BigRegion
import Derived.Test.YtobpioceopfkpaaGreatDoorM23
namespace Go.Proofs.YtobpioceopfkpaaGreatDoor
open Go.RowKit

theorem Fz.s12 {w0 w : World} {bs : List (Nat × TypeId × Array Value)} (h : Fz w0 w bs) (i : Nat) {g : Nat} {t : TypeId} {x0 x1 x2 x3 x4 x5 x6 x7 x8 x9 x10 x11 : Value} (hi : bs[i]? = some (g, t, #[x0, x1, x2, x3, x4, x5, x6, x7, x8, x9, x10, x11])) (y0 y1 y2 y3 y4 y5 y6 y7 y8 y9 y10 y11 : Value) :
    Fz w0 ((((((((((((w.setCell ⟨g, 0, none⟩ y0).setCell ⟨g, 1, none⟩ y1).setCell ⟨g, 2, none⟩ y2).setCell ⟨g, 3, none⟩ y3).setCell ⟨g, 4, none⟩ y4).setCell ⟨g, 5, none⟩ y5).setCell ⟨g, 6, none⟩ y6).setCell ⟨g, 7, none⟩ y7).setCell ⟨g, 8, none⟩ y8).setCell ⟨g, 9, none⟩ y9).setCell ⟨g, 10, none⟩ y10).setCell ⟨g, 11, none⟩ y11) (bs.set i (g, t, #[y0, y1, y2, y3, y4, y5, y6, y7, y8, y9, y10, y11])) := by
  have hl := (List.getElem?_eq_some_iff.1 hi).1
  have q0 := h.set i 0 hi y0
  have hi0 : (bs.set i (g, t, #[y0, x1, x2, x3, x4, x5, x6, x7, x8, x9, x10, x11]))[i]? = some (g, t, #[y0, x1, x2, x3, x4, x5, x6, x7, x8, x9, x10, x11]) := List.getElem?_set_self hl
  have r0 : Fz w0 _ (bs.set i (g, t, #[y0, x1, x2, x3, x4, x5, x6, x7, x8, x9, x10, x11])) := q0
  have q1 := r0.set i 1 hi0 y1
  rw [List.set_set] at q1
  have hi1 : (bs.set i (g, t, #[y0, y1, x2, x3, x4, x5, x6, x7, x8, x9, x10, x11]))[i]? = some (g, t, #[y0, y1, x2, x3, x4, x5, x6, x7, x8, x9, x10, x11]) := List.getElem?_set_self hl
  have r1 : Fz w0 _ (bs.set i (g, t, #[y0, y1, x2, x3, x4, x5, x6, x7, x8, x9, x10, x11])) := q1
  have q2 := r1.set i 2 hi1 y2
  rw [List.set_set] at q2
  have hi2 : (bs.set i (g, t, #[y0, y1, y2, x3, x4, x5, x6, x7, x8, x9, x10, x11]))[i]? = some (g, t, #[y0, y1, y2, x3, x4, x5, x6, x7, x8, x9, x10, x11]) := List.getElem?_set_self hl
  have r2 : Fz w0 _ (bs.set i (g, t, #[y0, y1, y2, x3, x4, x5, x6, x7, x8, x9, x10, x11])) := q2
  have q3 := r2.set i 3 hi2 y3
  rw [List.set_set] at q3
  have hi3 : (bs.set i (g, t, #[y0, y1, y2, y3, x4, x5, x6, x7, x8, x9, x10, x11]))[i]? = some (g, t, #[y0, y1, y2, y3, x4, x5, x6, x7, x8, x9, x10, x11]) := List.getElem?_set_self hl
  have r3 : Fz w0 _ (bs.set i (g, t, #[y0, y1, y2, y3, x4, x5, x6, x7, x8, x9, x10, x11])) := q3
  have q4 := r3.set i 4 hi3 y4
  rw [List.set_set] at q4
  have hi4 : (bs.set i (g, t, #[y0, y1, y2, y3, y4, x5, x6, x7, x8, x9, x10, x11]))[i]? = some (g, t, #[y0, y1, y2, y3, y4, x5, x6, x7, x8, x9, x10, x11]) := List.getElem?_set_self hl
  have r4 : Fz w0 _ (bs.set i (g, t, #[y0, y1, y2, y3, y4, x5, x6, x7, x8, x9, x10, x11])) := q4
  have q5 := r4.set i 5 hi4 y5
  rw [List.set_set] at q5
  have hi5 : (bs.set i (g, t, #[y0, y1, y2, y3, y4, y5, x6, x7, x8, x9, x10, x11]))[i]? = some (g, t, #[y0, y1, y2, y3, y4, y5, x6, x7, x8, x9, x10, x11]) := List.getElem?_set_self hl
  have r5 : Fz w0 _ (bs.set i (g, t, #[y0, y1, y2, y3, y4, y5, x6, x7, x8, x9, x10, x11])) := q5
  have q6 := r5.set i 6 hi5 y6
  rw [List.set_set] at q6
  have hi6 : (bs.set i (g, t, #[y0, y1, y2, y3, y4, y5, y6, x7, x8, x9, x10, x11]))[i]? = some (g, t, #[y0, y1, y2, y3, y4, y5, y6, x7, x8, x9, x10, x11]) := List.getElem?_set_self hl
  have r6 : Fz w0 _ (bs.set i (g, t, #[y0, y1, y2, y3, y4, y5, y6, x7, x8, x9, x10, x11])) := q6
  have q7 := r6.set i 7 hi6 y7
  rw [List.set_set] at q7
  have hi7 : (bs.set i (g, t, #[y0, y1, y2, y3, y4, y5, y6, y7, x8, x9, x10, x11]))[i]? = some (g, t, #[y0, y1, y2, y3, y4, y5, y6, y7, x8, x9, x10, x11]) := List.getElem?_set_self hl
  have r7 : Fz w0 _ (bs.set i (g, t, #[y0, y1, y2, y3, y4, y5, y6, y7, x8, x9, x10, x11])) := q7
  have q8 := r7.set i 8 hi7 y8
  rw [List.set_set] at q8
  have hi8 : (bs.set i (g, t, #[y0, y1, y2, y3, y4, y5, y6, y7, y8, x9, x10, x11]))[i]? = some (g, t, #[y0, y1, y2, y3, y4, y5, y6, y7, y8, x9, x10, x11]) := List.getElem?_set_self hl
  have r8 : Fz w0 _ (bs.set i (g, t, #[y0, y1, y2, y3, y4, y5, y6, y7, y8, x9, x10, x11])) := q8
  have q9 := r8.set i 9 hi8 y9
  rw [List.set_set] at q9
  have hi9 : (bs.set i (g, t, #[y0, y1, y2, y3, y4, y5, y6, y7, y8, y9, x10, x11]))[i]? = some (g, t, #[y0, y1, y2, y3, y4, y5, y6, y7, y8, y9, x10, x11]) := List.getElem?_set_self hl
  have r9 : Fz w0 _ (bs.set i (g, t, #[y0, y1, y2, y3, y4, y5, y6, y7, y8, y9, x10, x11])) := q9
  have q10 := r9.set i 10 hi9 y10
  rw [List.set_set] at q10
  have hi10 : (bs.set i (g, t, #[y0, y1, y2, y3, y4, y5, y6, y7, y8, y9, y10, x11]))[i]? = some (g, t, #[y0, y1, y2, y3, y4, y5, y6, y7, y8, y9, y10, x11]) := List.getElem?_set_self hl
  have r10 : Fz w0 _ (bs.set i (g, t, #[y0, y1, y2, y3, y4, y5, y6, y7, y8, y9, y10, x11])) := q10
  have q11 := r10.set i 11 hi10 y11
  rw [List.set_set] at q11
  exact q11
theorem Fz.s12_0 {w0 w : World} {bs : List (Nat × TypeId × Array Value)} (h : Fz w0 w bs) (i : Nat) {g : Nat} {t : TypeId} {x0 x1 x2 x3 x4 x5 x6 x7 x8 x9 x10 x11 : Value} (hi : bs[i]? = some (g, t, #[x0, x1, x2, x3, x4, x5, x6, x7, x8, x9, x10, x11])) (y0 y1 y2 y3 y4 y5 y6 y7 y8 y9 : Value) :
    Fz w0 ((((((((((w.setCell ⟨g, 0, none⟩ y0).setCell ⟨g, 1, none⟩ y1).setCell ⟨g, 2, none⟩ y2).setCell ⟨g, 3, none⟩ y3).setCell ⟨g, 4, none⟩ y4).setCell ⟨g, 5, none⟩ y5).setCell ⟨g, 6, none⟩ y6).setCell ⟨g, 7, none⟩ y7).setCell ⟨g, 8, none⟩ y8).setCell ⟨g, 9, none⟩ y9) (bs.set i (g, t, #[y0, y1, y2, y3, y4, y5, y6, y7, y8, y9, x10, x11])) := by
  have hl := (List.getElem?_eq_some_iff.1 hi).1
  have q0 := h.set i 0 hi y0
  have hi0 : (bs.set i (g, t, #[y0, x1, x2, x3, x4, x5, x6, x7, x8, x9, x10, x11]))[i]? = some (g, t, #[y0, x1, x2, x3, x4, x5, x6, x7, x8, x9, x10, x11]) := List.getElem?_set_self hl
  have r0 : Fz w0 _ (bs.set i (g, t, #[y0, x1, x2, x3, x4, x5, x6, x7, x8, x9, x10, x11])) := q0
  have q1 := r0.set i 1 hi0 y1
  rw [List.set_set] at q1
  have hi1 : (bs.set i (g, t, #[y0, y1, x2, x3, x4, x5, x6, x7, x8, x9, x10, x11]))[i]? = some (g, t, #[y0, y1, x2, x3, x4, x5, x6, x7, x8, x9, x10, x11]) := List.getElem?_set_self hl
  have r1 : Fz w0 _ (bs.set i (g, t, #[y0, y1, x2, x3, x4, x5, x6, x7, x8, x9, x10, x11])) := q1
  have q2 := r1.set i 2 hi1 y2
  rw [List.set_set] at q2
  have hi2 : (bs.set i (g, t, #[y0, y1, y2, x3, x4, x5, x6, x7, x8, x9, x10, x11]))[i]? = some (g, t, #[y0, y1, y2, x3, x4, x5, x6, x7, x8, x9, x10, x11]) := List.getElem?_set_self hl
  have r2 : Fz w0 _ (bs.set i (g, t, #[y0, y1, y2, x3, x4, x5, x6, x7, x8, x9, x10, x11])) := q2
  have q3 := r2.set i 3 hi2 y3
  rw [List.set_set] at q3
  have hi3 : (bs.set i (g, t, #[y0, y1, y2, y3, x4, x5, x6, x7, x8, x9, x10, x11]))[i]? = some (g, t, #[y0, y1, y2, y3, x4, x5, x6, x7, x8, x9, x10, x11]) := List.getElem?_set_self hl
  have r3 : Fz w0 _ (bs.set i (g, t, #[y0, y1, y2, y3, x4, x5, x6, x7, x8, x9, x10, x11])) := q3
  have q4 := r3.set i 4 hi3 y4
  rw [List.set_set] at q4
  have hi4 : (bs.set i (g, t, #[y0, y1, y2, y3, y4, x5, x6, x7, x8, x9, x10, x11]))[i]? = some (g, t, #[y0, y1, y2, y3, y4, x5, x6, x7, x8, x9, x10, x11]) := List.getElem?_set_self hl
  have r4 : Fz w0 _ (bs.set i (g, t, #[y0, y1, y2, y3, y4, x5, x6, x7, x8, x9, x10, x11])) := q4
  have q5 := r4.set i 5 hi4 y5
  rw [List.set_set] at q5
  have hi5 : (bs.set i (g, t, #[y0, y1, y2, y3, y4, y5, x6, x7, x8, x9, x10, x11]))[i]? = some (g, t, #[y0, y1, y2, y3, y4, y5, x6, x7, x8, x9, x10, x11]) := List.getElem?_set_self hl
  have r5 : Fz w0 _ (bs.set i (g, t, #[y0, y1, y2, y3, y4, y5, x6, x7, x8, x9, x10, x11])) := q5
  have q6 := r5.set i 6 hi5 y6
  rw [List.set_set] at q6
  have hi6 : (bs.set i (g, t, #[y0, y1, y2, y3, y4, y5, y6, x7, x8, x9, x10, x11]))[i]? = some (g, t, #[y0, y1, y2, y3, y4, y5, y6, x7, x8, x9, x10, x11]) := List.getElem?_set_self hl
  have r6 : Fz w0 _ (bs.set i (g, t, #[y0, y1, y2, y3, y4, y5, y6, x7, x8, x9, x10, x11])) := q6
  have q7 := r6.set i 7 hi6 y7
  rw [List.set_set] at q7
  have hi7 : (bs.set i (g, t, #[y0, y1, y2, y3, y4, y5, y6, y7, x8, x9, x10, x11]))[i]? = some (g, t, #[y0, y1, y2, y3, y4, y5, y6, y7, x8, x9, x10, x11]) := List.getElem?_set_self hl
  have r7 : Fz w0 _ (bs.set i (g, t, #[y0, y1, y2, y3, y4, y5, y6, y7, x8, x9, x10, x11])) := q7
  have q8 := r7.set i 8 hi7 y8
  rw [List.set_set] at q8
  have hi8 : (bs.set i (g, t, #[y0, y1, y2, y3, y4, y5, y6, y7, y8, x9, x10, x11]))[i]? = some (g, t, #[y0, y1, y2, y3, y4, y5, y6, y7, y8, x9, x10, x11]) := List.getElem?_set_self hl
  have r8 : Fz w0 _ (bs.set i (g, t, #[y0, y1, y2, y3, y4, y5, y6, y7, y8, x9, x10, x11])) := q8
  have q9 := r8.set i 9 hi8 y9
  rw [List.set_set] at q9
  exact q9
theorem Fz.s12_10 {w0 w : World} {bs : List (Nat × TypeId × Array Value)} (h : Fz w0 w bs) (i : Nat) {g : Nat} {t : TypeId} {x0 x1 x2 x3 x4 x5 x6 x7 x8 x9 x10 x11 : Value} (hi : bs[i]? = some (g, t, #[x0, x1, x2, x3, x4, x5, x6, x7, x8, x9, x10, x11])) (y0 : Value) :
    Fz w0 (w.setCell ⟨g, 10, none⟩ y0) (bs.set i (g, t, #[x0, x1, x2, x3, x4, x5, x6, x7, x8, x9, y0, x11])) := by
  have hl := (List.getElem?_eq_some_iff.1 hi).1
  have q0 := h.set i 10 hi y0
  exact q0
theorem Fz.s12_11 {w0 w : World} {bs : List (Nat × TypeId × Array Value)} (h : Fz w0 w bs) (i : Nat) {g : Nat} {t : TypeId} {x0 x1 x2 x3 x4 x5 x6 x7 x8 x9 x10 x11 : Value} (hi : bs[i]? = some (g, t, #[x0, x1, x2, x3, x4, x5, x6, x7, x8, x9, x10, x11])) (y0 : Value) :
    Fz w0 (w.setCell ⟨g, 11, none⟩ y0) (bs.set i (g, t, #[x0, x1, x2, x3, x4, x5, x6, x7, x8, x9, x10, y0])) := by
  have hl := (List.getElem?_eq_some_iff.1 hi).1
  have q0 := h.set i 11 hi y0
  exact q0

set_option maxRecDepth 100000 in
set_option maxHeartbeats 4000000 in
theorem Do1_tiny {w : World} {g1 g2 : Nat} {u : Array Value} {x y : Dn} {z tt sg : Int} (hb1 : Blk w g1 58 u) (hb2 : Blk w g2 3 #[.int .i64 sg]) (hu : Ak w (.agg u) x y z tt) (h : TinyOk x y z tt sg) :
    Calls Tryz.prog 44 #[.int .i64 64, .pointer (some ⟨g1, 0, none⟩), .pointer (some ⟨g2, 0, none⟩)] w fun e w' => e = .returned (.tuple #[ansV (tinyB z sg), .bool true]) ∧ Below w.heap.size w w' := by
  have CT := Lib.hid (fun w (hu : Ak w (.agg u) x y z tt) => try_tiny hu h)
  have HU := Lib.hid hu
  obtain ⟨a1, k1, c1, a2, k2, c2, he, hx, hy⟩ := hu
  generalize tinyB z sg = B at *
  obtain ⟨xn, xm, xe⟩ := x
  obtain ⟨yn, ym, ye⟩ := y
  simp only [Value.agg.injEq] at he
  subst he
  have H1 := Lib.hid hb1
  have H2 := Lib.hid hb2
  have F0 := Lib.hid (Fz.one w 94 #[.int .u64 0, .int .u8 0, .int .i64 0, .bool false, .slice none 0 0, .int .i64 0, .bool false, .slice none 0 0, .int .i64 0])
  have B1 := Lib.hid (hb1.alloc (.cells #[.int .u64 0, .int .u8 0, .int .i64 0, .bool false, .slice none 0 0, .int .i64 0, .bool false, .slice none 0 0, .int .i64 0] 94))
  have B2 := Lib.hid (hb2.alloc (.cells #[.int .u64 0, .int .u8 0, .int .i64 0, .bool false, .slice none 0 0, .int .i64 0, .bool false, .slice none 0 0, .int .i64 0] 94))
  have U0 := Lib.hid (HU.out.alloc (.cells #[.int .u64 0, .int .u8 0, .int .i64 0, .bool false, .slice none 0 0, .int .i64 0, .bool false, .slice none 0 0, .int .i64 0] 94))
  clear hb1 hb2 hx hy h HU H1 H2
  unfold ansV at *
  go_enter Tryz.func44, Tryz.ntmps44
  go_upto_region 1 with (fail)
  generalize World.alloc _ _ = w0 at F0 B1 B2 U0 ⊢
  have d0 : w0.cell? ⟨g1, 0, none⟩ = some (.bool xn) := B1.out.at 0 _ rfl
  have d1 : w0.cell? ⟨g1, 1, none⟩ = some (.slice a1 k1 c1) := B1.out.at 1 _ rfl
  have d2 : w0.cell? ⟨g1, 2, none⟩ = some (.int .i64 xe) := B1.out.at 2 _ rfl
  have d3 : w0.cell? ⟨g1, 3, none⟩ = some (.bool yn) := B1.out.at 3 _ rfl
  have d4 : w0.cell? ⟨g1, 4, none⟩ = some (.slice a2 k2 c2) := B1.out.at 4 _ rfl
  have d5 : w0.cell? ⟨g1, 5, none⟩ = some (.int .i64 ye) := B1.out.at 5 _ rfl
  have d6 : w0.cell? ⟨g1, 6, none⟩ = some (.int .u64 1) := B1.out.at 6 _ rfl
  have d7 : w0.cell? ⟨g1, 7, none⟩ = some (.bool false) := B1.out.at 7 _ rfl
  have d8 : w0.cell? ⟨g1, 8, none⟩ = some (.int .i64 z) := B1.out.at 8 _ rfl
  have d9 : w0.cell? ⟨g1, 9, none⟩ = some (.int .i64 64) := B1.out.at 9 _ rfl
  have d10 : w0.cell? ⟨g1, 10, none⟩ = some (.int .i64 tt) := B1.out.at 10 _ rfl
  have d11 : w0.cell? ⟨g2, 0, none⟩ = some (.int .i64 sg) := B2.out.at 0 _ rfl
  go_wp2_with fail
  refine (CT.out _ U0.out).mono ?_
  rintro q w1 ⟨rfl, hb⟩
  have F1 := Lib.hid (F0.out.call hb)
  clear hb
  have c0 := F1.out.c9 0 rfl
  go_wp2
  have f := F1.out.s9 0 rfl (.int .u64 B) (.int .u8 1) (.int .i64 0) (.bool false) (.slice none 0 0) (.int .i64 0) (.bool false) (.slice none 0 0) (.int .i64 0)
  simp only [List.set_cons_zero] at f
  generalize (World.setCell (World.setCell (World.setCell (World.setCell (World.setCell (World.setCell (World.setCell (World.setCell (World.setCell _ _ _) _ _) _ _) _ _) _ _) _ _) _ _) _ _) _ _) = W at f ⊢
  have g1' := f.c9 0 rfl
  refine bodyPost_ret (v := .tuple #[.agg #[.int .u64 B, .int .u8 1, .int .i64 0, .bool false, .slice none 0 0, .int .i64 0, .bool false, .slice none 0 0, .int .i64 0], .bool true]) (by simp [results, Tryz.results44, go_sem, g1']) rfl ?_
  exact ⟨rfl, f.b⟩

theorem func102 (fn : Fn) (a b : Value) (w : World) : (binOp .eql 102 (.func fn #[] #[a, b]) .nilFunc).run Tryz.prog w = .ok (.bool false) w := by kernel_rfl
def runV (b : Int) : Value := .agg #[.int .u64 b, .int .u8 1, .int .i64 0, .bool false, .slice none 0 0, .int .i64 0, .bool false, .slice none 0 0, .int .i64 0, .int .i64 64, .int .i64 1, .int .i64 0]

set_option maxRecDepth 100000 in
set_option maxHeartbeats 4000000 in
theorem Go_first {w : World} {g cap n : Nat} {B : Int} (hn : 0 < n) (hc : w.cell? ⟨g, 0, none⟩ = some (.int .i64 64)) (p1 p2 : Addr)
    (hcl : ∀ w' : World, Below w.heap.size w w' → Calls Tryz.prog 44 #[.int .i64 64, .pointer (some p1), .pointer (some p2)] w' fun e w'' => e = .returned (.tuple #[ansV B, .bool true]) ∧ Below w'.heap.size w' w'') :
    Calls Tryz.prog 43 #[.slice (some ⟨g, 0, none⟩) n cap, .pointer none, .func (.func 44) #[] #[.pointer (some p1), .pointer (some p2)]] w fun e w' => e = .returned (.tuple #[runV B, .int .i64 0]) ∧ Below w.heap.size w w' := by
  have HC := Lib.hid hc
  have CL := Lib.hid hcl
  have z1 : decide ((0 : Int) < (n : Int)) = true := decide_eq_true (by omega)
  have z2 : (0 : Int) < (n : Int) := by omega
  have hfn := fun W => func102 (.func 44) (.pointer (some p1)) (.pointer (some p2)) W
  clear hc hcl
  unfold ansV at CL
  unfold runV
  go_enter Tryz.func43, Tryz.ntmps43
  have F0 := Lib.hid (Fz.two w 97 #[.int .u64 0, .int .u8 0, .int .i64 0, .bool false, .slice none 0 0, .int .i64 0, .bool false, .slice none 0 0, .int .i64 0, .int .i64 0, .int .i64 0, .int .i64 0] 97 #[.int .u64 0, .int .u8 0, .int .i64 0, .bool false, .slice none 0 0, .int .i64 0, .bool false, .slice none 0 0, .int .i64 0, .int .i64 0, .int .i64 0, .int .i64 0])
  go_upto_region 2 with (fail)
  generalize World.alloc (World.alloc _ _) _ = w0 at F0 ⊢
  have c11 : w0.cell? ⟨w.heap.size + 1, 11, none⟩ = some (.int .i64 0) := (F0.out.box 1 _ _ _ rfl).at 11 _ rfl
  have f11 : w0.frozen? ⟨w.heap.size + 1, 11, none⟩ = false := (F0.out.box 1 _ _ _ rfl).frozen 11
  go_upto_region 5 with (fail)
  clear c11 f11
  have f := F0.out.s12_11 1 rfl (.int .i64 2)
  simp only [List.set_cons_zero, List.set_cons_succ] at f
  generalize World.setCell _ _ _ = w1 at f ⊢
  have F1 := Lib.hid f
  clear f F0
  have x0 := cell_below F1.out.b (Nat.le_refl _) HC.out
  go_wp2
  refine wp_loop_rounds 1 ?_
  rw [rounds_succ]
  go_wp2_with fail
  clear x0
  refine (CL.out _ F1.out.b).mono ?_
  rintro q w2 ⟨rfl, hb⟩
  have F2 := Lib.hid (F1.out.call hb)
  clear hb F1
  go_upto_region 11 with (fail)
  have F3 := Lib.hid (F2.out.new 94 #[.int .u64 B, .int .u8 1, .int .i64 0, .bool false, .slice none 0 0, .int .i64 0, .bool false, .slice none 0 0, .int .i64 0])
  obtain ⟨g1, hg1⟩ : ∃ g, g = (World.heap w2).size := ⟨_, rfl⟩
  rw [← hg1] at F3 ⊢
  clear hg1 F2
  simp only [List.nil_append, List.cons_append] at F3
  generalize World.alloc w2 _ = w3 at F3 ⊢
  have e0 : World.cell? w3 ⟨g1, 0, none⟩ = some (.int .u64 B) := (F3.out.box 2 _ _ _ rfl).at 0 _ rfl
  have e1 : World.cell? w3 ⟨g1, 1, none⟩ = some (.int .u8 1) := (F3.out.box 2 _ _ _ rfl).at 1 _ rfl
  have e2 : World.cell? w3 ⟨g1, 2, none⟩ = some (.int .i64 0) := (F3.out.box 2 _ _ _ rfl).at 2 _ rfl
  have e3 : World.cell? w3 ⟨g1, 3, none⟩ = some (.bool false) := (F3.out.box 2 _ _ _ rfl).at 3 _ rfl
  have e4 : World.cell? w3 ⟨g1, 4, none⟩ = some (.slice none 0 0) := (F3.out.box 2 _ _ _ rfl).at 4 _ rfl
  have e5 : World.cell? w3 ⟨g1, 5, none⟩ = some (.int .i64 0) := (F3.out.box 2 _ _ _ rfl).at 5 _ rfl
  have e6 : World.cell? w3 ⟨g1, 6, none⟩ = some (.bool false) := (F3.out.box 2 _ _ _ rfl).at 6 _ rfl
  have e7 : World.cell? w3 ⟨g1, 7, none⟩ = some (.slice none 0 0) := (F3.out.box 2 _ _ _ rfl).at 7 _ rfl
  have e8 : World.cell? w3 ⟨g1, 8, none⟩ = some (.int .i64 0) := (F3.out.box 2 _ _ _ rfl).at 8 _ rfl
  have c0 : World.cell? w3 ⟨w.heap.size + 1, 0, none⟩ = some (.int .u64 0) := (F3.out.box 1 _ _ _ rfl).at 0 _ rfl
  have cf0 : World.frozen? w3 ⟨w.heap.size + 1, 0, none⟩ = false := (F3.out.box 1 _ _ _ rfl).frozen 0
  have c1 : World.cell? w3 ⟨w.heap.size + 1, 1, none⟩ = some (.int .u8 0) := (F3.out.box 1 _ _ _ rfl).at 1 _ rfl
  have cf1 : World.frozen? w3 ⟨w.heap.size + 1, 1, none⟩ = false := (F3.out.box 1 _ _ _ rfl).frozen 1
  have c2 : World.cell? w3 ⟨w.heap.size + 1, 2, none⟩ = some (.int .i64 0) := (F3.out.box 1 _ _ _ rfl).at 2 _ rfl
  have cf2 : World.frozen? w3 ⟨w.heap.size + 1, 2, none⟩ = false := (F3.out.box 1 _ _ _ rfl).frozen 2
  have c3 : World.cell? w3 ⟨w.heap.size + 1, 3, none⟩ = some (.bool false) := (F3.out.box 1 _ _ _ rfl).at 3 _ rfl
  have cf3 : World.frozen? w3 ⟨w.heap.size + 1, 3, none⟩ = false := (F3.out.box 1 _ _ _ rfl).frozen 3
  have c4 : World.cell? w3 ⟨w.heap.size + 1, 4, none⟩ = some (.slice none 0 0) := (F3.out.box 1 _ _ _ rfl).at 4 _ rfl
  have cf4 : World.frozen? w3 ⟨w.heap.size + 1, 4, none⟩ = false := (F3.out.box 1 _ _ _ rfl).frozen 4
  have c5 : World.cell? w3 ⟨w.heap.size + 1, 5, none⟩ = some (.int .i64 0) := (F3.out.box 1 _ _ _ rfl).at 5 _ rfl
  have cf5 : World.frozen? w3 ⟨w.heap.size + 1, 5, none⟩ = false := (F3.out.box 1 _ _ _ rfl).frozen 5
  have c6 : World.cell? w3 ⟨w.heap.size + 1, 6, none⟩ = some (.bool false) := (F3.out.box 1 _ _ _ rfl).at 6 _ rfl
  have cf6 : World.frozen? w3 ⟨w.heap.size + 1, 6, none⟩ = false := (F3.out.box 1 _ _ _ rfl).frozen 6
  have c7 : World.cell? w3 ⟨w.heap.size + 1, 7, none⟩ = some (.slice none 0 0) := (F3.out.box 1 _ _ _ rfl).at 7 _ rfl
  have cf7 : World.frozen? w3 ⟨w.heap.size + 1, 7, none⟩ = false := (F3.out.box 1 _ _ _ rfl).frozen 7
  have c8 : World.cell? w3 ⟨w.heap.size + 1, 8, none⟩ = some (.int .i64 0) := (F3.out.box 1 _ _ _ rfl).at 8 _ rfl
  have cf8 : World.frozen? w3 ⟨w.heap.size + 1, 8, none⟩ = false := (F3.out.box 1 _ _ _ rfl).frozen 8
  have c9 : World.cell? w3 ⟨w.heap.size + 1, 9, none⟩ = some (.int .i64 0) := (F3.out.box 1 _ _ _ rfl).at 9 _ rfl
  have cf9 : World.frozen? w3 ⟨w.heap.size + 1, 9, none⟩ = false := (F3.out.box 1 _ _ _ rfl).frozen 9
  have c10 : World.cell? w3 ⟨w.heap.size + 1, 10, none⟩ = some (.int .i64 0) := (F3.out.box 1 _ _ _ rfl).at 10 _ rfl
  have cf10 : World.frozen? w3 ⟨w.heap.size + 1, 10, none⟩ = false := (F3.out.box 1 _ _ _ rfl).frozen 10
  have c11 : World.cell? w3 ⟨w.heap.size + 1, 11, none⟩ = some (.int .i64 2) := (F3.out.box 1 _ _ _ rfl).at 11 _ rfl
  have cf11 : World.frozen? w3 ⟨w.heap.size + 1, 11, none⟩ = false := (F3.out.box 1 _ _ _ rfl).frozen 11
  go_upto_region 12 with (fail)
  clear e0 e1 e2 e3 e4 e5 e6 e7 e8
  clear c0 cf0 c1 cf1 c2 cf2 c3 cf3 c4 cf4 c5 cf5 c6 cf6 c7 cf7 c8 cf8 c9 cf9 c10 cf10 c11 cf11
  have f := F3.out.s12_0 1 rfl (.int .u64 B) (.int .u8 1) (.int .i64 0) (.bool false) (.slice none 0 0) (.int .i64 0) (.bool false) (.slice none 0 0) (.int .i64 0) (.int .i64 64)
  simp only [List.set_cons_zero, List.set_cons_succ] at f
  generalize (World.setCell (World.setCell (World.setCell (World.setCell (World.setCell (World.setCell (World.setCell (World.setCell (World.setCell (World.setCell _ _ _) _ _) _ _) _ _) _ _) _ _) _ _) _ _) _ _) _ _) = w4 at f ⊢
  have F4 := Lib.hid f
  clear f F3
  have c10 : w4.cell? ⟨w.heap.size + 1, 10, none⟩ = some (.int .i64 0) := (F4.out.box 1 _ _ _ rfl).at 10 _ rfl
  have f10 : w4.frozen? ⟨w.heap.size + 1, 10, none⟩ = false := (F4.out.box 1 _ _ _ rfl).frozen 10
  go_upto_region 13 with (fail)
  clear c10 f10
  have f := F4.out.s12_10 1 rfl (.int .i64 1)
  simp only [List.set_cons_zero, List.set_cons_succ] at f
  generalize World.setCell _ _ _ = w5 at f ⊢
  have F5 := Lib.hid f
  clear f F4
  have c11 : w5.cell? ⟨w.heap.size + 1, 11, none⟩ = some (.int .i64 2) := (F5.out.box 1 _ _ _ rfl).at 11 _ rfl
  have f11 : w5.frozen? ⟨w.heap.size + 1, 11, none⟩ = false := (F5.out.box 1 _ _ _ rfl).frozen 11
  go_upto_region 16 with (fail)
  clear c11 f11
  have f := F5.out.s12_11 1 rfl (.int .i64 0)
  simp only [List.set_cons_zero, List.set_cons_succ] at f
  generalize World.setCell _ _ _ = w6 at f ⊢
  have F6 := Lib.hid f
  clear f F5
  have c0 : World.cell? w6 ⟨w.heap.size + 1, 0, none⟩ = some (.int .u64 B) := (F6.out.box 1 _ _ _ rfl).at 0 _ rfl
  have c1 : World.cell? w6 ⟨w.heap.size + 1, 1, none⟩ = some (.int .u8 1) := (F6.out.box 1 _ _ _ rfl).at 1 _ rfl
  have c2 : World.cell? w6 ⟨w.heap.size + 1, 2, none⟩ = some (.int .i64 0) := (F6.out.box 1 _ _ _ rfl).at 2 _ rfl
  have c3 : World.cell? w6 ⟨w.heap.size + 1, 3, none⟩ = some (.bool false) := (F6.out.box 1 _ _ _ rfl).at 3 _ rfl
  have c4 : World.cell? w6 ⟨w.heap.size + 1, 4, none⟩ = some (.slice none 0 0) := (F6.out.box 1 _ _ _ rfl).at 4 _ rfl
  have c5 : World.cell? w6 ⟨w.heap.size + 1, 5, none⟩ = some (.int .i64 0) := (F6.out.box 1 _ _ _ rfl).at 5 _ rfl
  have c6 : World.cell? w6 ⟨w.heap.size + 1, 6, none⟩ = some (.bool false) := (F6.out.box 1 _ _ _ rfl).at 6 _ rfl
  have c7 : World.cell? w6 ⟨w.heap.size + 1, 7, none⟩ = some (.slice none 0 0) := (F6.out.box 1 _ _ _ rfl).at 7 _ rfl
  have c8 : World.cell? w6 ⟨w.heap.size + 1, 8, none⟩ = some (.int .i64 0) := (F6.out.box 1 _ _ _ rfl).at 8 _ rfl
  have c9 : World.cell? w6 ⟨w.heap.size + 1, 9, none⟩ = some (.int .i64 64) := (F6.out.box 1 _ _ _ rfl).at 9 _ rfl
  have c10 : World.cell? w6 ⟨w.heap.size + 1, 10, none⟩ = some (.int .i64 1) := (F6.out.box 1 _ _ _ rfl).at 10 _ rfl
  have c11 : World.cell? w6 ⟨w.heap.size + 1, 11, none⟩ = some (.int .i64 0) := (F6.out.box 1 _ _ _ rfl).at 11 _ rfl
  have e0 : World.cell? w6 ⟨w.heap.size, 0, none⟩ = some (.int .u64 0) := (F6.out.box 0 _ _ _ rfl).at 0 _ rfl
  have ef0 : World.frozen? w6 ⟨w.heap.size, 0, none⟩ = false := (F6.out.box 0 _ _ _ rfl).frozen 0
  have e1 : World.cell? w6 ⟨w.heap.size, 1, none⟩ = some (.int .u8 0) := (F6.out.box 0 _ _ _ rfl).at 1 _ rfl
  have ef1 : World.frozen? w6 ⟨w.heap.size, 1, none⟩ = false := (F6.out.box 0 _ _ _ rfl).frozen 1
  have e2 : World.cell? w6 ⟨w.heap.size, 2, none⟩ = some (.int .i64 0) := (F6.out.box 0 _ _ _ rfl).at 2 _ rfl
  have ef2 : World.frozen? w6 ⟨w.heap.size, 2, none⟩ = false := (F6.out.box 0 _ _ _ rfl).frozen 2
  have e3 : World.cell? w6 ⟨w.heap.size, 3, none⟩ = some (.bool false) := (F6.out.box 0 _ _ _ rfl).at 3 _ rfl
  have ef3 : World.frozen? w6 ⟨w.heap.size, 3, none⟩ = false := (F6.out.box 0 _ _ _ rfl).frozen 3
  have e4 : World.cell? w6 ⟨w.heap.size, 4, none⟩ = some (.slice none 0 0) := (F6.out.box 0 _ _ _ rfl).at 4 _ rfl
  have ef4 : World.frozen? w6 ⟨w.heap.size, 4, none⟩ = false := (F6.out.box 0 _ _ _ rfl).frozen 4
  have e5 : World.cell? w6 ⟨w.heap.size, 5, none⟩ = some (.int .i64 0) := (F6.out.box 0 _ _ _ rfl).at 5 _ rfl
  have ef5 : World.frozen? w6 ⟨w.heap.size, 5, none⟩ = false := (F6.out.box 0 _ _ _ rfl).frozen 5
  have e6 : World.cell? w6 ⟨w.heap.size, 6, none⟩ = some (.bool false) := (F6.out.box 0 _ _ _ rfl).at 6 _ rfl
  have ef6 : World.frozen? w6 ⟨w.heap.size, 6, none⟩ = false := (F6.out.box 0 _ _ _ rfl).frozen 6
  have e7 : World.cell? w6 ⟨w.heap.size, 7, none⟩ = some (.slice none 0 0) := (F6.out.box 0 _ _ _ rfl).at 7 _ rfl
  have ef7 : World.frozen? w6 ⟨w.heap.size, 7, none⟩ = false := (F6.out.box 0 _ _ _ rfl).frozen 7
  have e8 : World.cell? w6 ⟨w.heap.size, 8, none⟩ = some (.int .i64 0) := (F6.out.box 0 _ _ _ rfl).at 8 _ rfl
  have ef8 : World.frozen? w6 ⟨w.heap.size, 8, none⟩ = false := (F6.out.box 0 _ _ _ rfl).frozen 8
  have e9 : World.cell? w6 ⟨w.heap.size, 9, none⟩ = some (.int .i64 0) := (F6.out.box 0 _ _ _ rfl).at 9 _ rfl
  have ef9 : World.frozen? w6 ⟨w.heap.size, 9, none⟩ = false := (F6.out.box 0 _ _ _ rfl).frozen 9
  have e10 : World.cell? w6 ⟨w.heap.size, 10, none⟩ = some (.int .i64 0) := (F6.out.box 0 _ _ _ rfl).at 10 _ rfl
  have ef10 : World.frozen? w6 ⟨w.heap.size, 10, none⟩ = false := (F6.out.box 0 _ _ _ rfl).frozen 10
  have e11 : World.cell? w6 ⟨w.heap.size, 11, none⟩ = some (.int .i64 0) := (F6.out.box 0 _ _ _ rfl).at 11 _ rfl
  have ef11 : World.frozen? w6 ⟨w.heap.size, 11, none⟩ = false := (F6.out.box 0 _ _ _ rfl).frozen 11
  go_wp2
  clear c0 c1 c2 c3 c4 c5 c6 c7 c8 c9 c10 c11
  clear e0 ef0 e1 ef1 e2 ef2 e3 ef3 e4 ef4 e5 ef5 e6 ef6 e7 ef7 e8 ef8 e9 ef9 e10 ef10 e11 ef11
  have f := F6.out.s12 0 rfl (.int .u64 B) (.int .u8 1) (.int .i64 0) (.bool false) (.slice none 0 0) (.int .i64 0) (.bool false) (.slice none 0 0) (.int .i64 0) (.int .i64 64) (.int .i64 1) (.int .i64 0)
  simp only [List.set_cons_zero] at f
  generalize (World.setCell (World.setCell (World.setCell (World.setCell (World.setCell (World.setCell (World.setCell (World.setCell (World.setCell (World.setCell (World.setCell (World.setCell _ _ _) _ _) _ _) _ _) _ _) _ _) _ _) _ _) _ _) _ _) _ _) _ _) = W at f ⊢
  have c0 : World.cell? W ⟨w.heap.size, 0, none⟩ = some (.int .u64 B) := (f.box 0 _ _ _ rfl).at 0 _ rfl
  have c1 : World.cell? W ⟨w.heap.size, 1, none⟩ = some (.int .u8 1) := (f.box 0 _ _ _ rfl).at 1 _ rfl
  have c2 : World.cell? W ⟨w.heap.size, 2, none⟩ = some (.int .i64 0) := (f.box 0 _ _ _ rfl).at 2 _ rfl
  have c3 : World.cell? W ⟨w.heap.size, 3, none⟩ = some (.bool false) := (f.box 0 _ _ _ rfl).at 3 _ rfl
  have c4 : World.cell? W ⟨w.heap.size, 4, none⟩ = some (.slice none 0 0) := (f.box 0 _ _ _ rfl).at 4 _ rfl
  have c5 : World.cell? W ⟨w.heap.size, 5, none⟩ = some (.int .i64 0) := (f.box 0 _ _ _ rfl).at 5 _ rfl
  have c6 : World.cell? W ⟨w.heap.size, 6, none⟩ = some (.bool false) := (f.box 0 _ _ _ rfl).at 6 _ rfl
  have c7 : World.cell? W ⟨w.heap.size, 7, none⟩ = some (.slice none 0 0) := (f.box 0 _ _ _ rfl).at 7 _ rfl
  have c8 : World.cell? W ⟨w.heap.size, 8, none⟩ = some (.int .i64 0) := (f.box 0 _ _ _ rfl).at 8 _ rfl
  have c9 : World.cell? W ⟨w.heap.size, 9, none⟩ = some (.int .i64 64) := (f.box 0 _ _ _ rfl).at 9 _ rfl
  have c10 : World.cell? W ⟨w.heap.size, 10, none⟩ = some (.int .i64 1) := (f.box 0 _ _ _ rfl).at 10 _ rfl
  have c11 : World.cell? W ⟨w.heap.size, 11, none⟩ = some (.int .i64 0) := (f.box 0 _ _ _ rfl).at 11 _ rfl
  refine bodyPost_ret (v := .tuple #[.agg #[.int .u64 B, .int .u8 1, .int .i64 0, .bool false, .slice none 0 0, .int .i64 0, .bool false, .slice none 0 0, .int .i64 0, .int .i64 64, .int .i64 1, .int .i64 0], .int .i64 0]) (by simp [results, Tryz.results43, go_sem, c0, c1, c2, c3, c4, c5, c6, c7, c8, c9, c10, c11]) rfl ?_
  exact ⟨rfl, f.b⟩

end Go.Proofs.YtobpioceopfkpaaGreatDoor

/-
  core: Do, where it is almost one. Printed by gen_rg.py.
-/
namespace Go.Proofs.YtobpioceopfkpaaGreatDoor
open Go.RowKit

theorem Fz.c12 {w0 w : World} {bs : List (Nat × TypeId × Array Value)} (h : Fz w0 w bs) (i : Nat) {g : Nat} {t : TypeId} {x0 x1 x2 x3 x4 x5 x6 x7 x8 x9 x10 x11 : Value} (hi : bs[i]? = some (g, t, #[x0, x1, x2, x3, x4, x5, x6, x7, x8, x9, x10, x11])) :
    (w.cell? ⟨g, 0, none⟩ = some x0 ∧ w.cell? ⟨g, 1, none⟩ = some x1 ∧ w.cell? ⟨g, 2, none⟩ = some x2 ∧ w.cell? ⟨g, 10, none⟩ = some x10 ∧ w.cell? ⟨g, 11, none⟩ = some x11) ∧ w.frozen? ⟨g, 0, none⟩ = false := by
  have k := h.box i _ _ _ hi
  exact ⟨⟨k.at 0 x0 rfl, k.at 1 x1 rfl, k.at 2 x2 rfl, k.at 10 x10 rfl, k.at 11 x11 rfl⟩, k.frozen 0⟩
theorem Plan_first (w : World) (tt : Int) (h : tt = 64 ∨ tt = 1024) : Calls Tryz.prog 41 #[.int .i64 64, .int .i64 tt] w fun e w' => ∃ g cap n, e = .returned (.tuple #[.slice (some ⟨g, 0, none⟩) n cap, .int .i64 0]) ∧ 0 < n ∧ w'.cell? ⟨g, 0, none⟩ = some (.int .i64 64) ∧ Below w.heap.size w w' := by
  rcases h with rfl | rfl
  · refine (Plan_64 w).mono ?_
    rintro e w' ⟨v, h1, h2, h3⟩
    have hh := h2
    rcases h2.2 with ⟨_, h0⟩ | ⟨g, cap, cur, rfl, _⟩
    · cases h0
    · exact ⟨g, cap, 1, h1, by decide, by rw [hh.cellAt 0 (by decide)]; rfl, h3⟩
  · refine (Plan_1024 w).mono ?_
    rintro e w' ⟨v, h1, h2, h3⟩
    have hh := h2
    rcases h2.2 with ⟨_, h0⟩ | ⟨g, cap, cur, rfl, _⟩
    · cases h0
    · exact ⟨g, cap, 5, h1, by decide, by rw [hh.cellAt 0 (by decide)]; rfl, h3⟩

set_option maxRecDepth 100000 in
set_option maxHeartbeats 4000000 in
theorem Do_tiny {w : World} {u : Value} {x y : Dn} {z tt : Int} (hu : Ak w u x y z tt) (h : TinyOk x y z tt (signA x y)) (hs : signA x y ≠ 0) (sd2 : Sd (bareN y)) (he : (bareN (bareN y)).e < -62) :
    Calls Tryz.prog 20 #[u, .pointer none] w fun e w' => e = .returned (.tuple #[.agg #[.int .u64 (tinyB z (signA x y)), .int .u8 1, .int .i64 0], .int .i64 1, .int .i64 0]) ∧ Below w.heap.size w w' := by
  have ok := h.ok
  have CR := Lib.hid (fun w u (h : Ak w u x y z tt) => Right_a h ok)
  have CE := Lib.hid (fun w u (hh : Ak w u x y z tt) => Exact_no hh ok hs h.y0 sd2 he)
  have CP := Lib.hid (fun w => Plan_first w tt ok.htt)
  have CS := Lib.hid (fun w u (h : Ak w u x y z tt) => Sign_a h ok)
  have CD := Lib.hid (fun w g1 g2 uu (b1 : Blk w g1 58 uu) (b2 : Blk w g2 3 #[.int .i64 (signA x y)]) (hu : Ak w (.agg uu) x y z tt) => Do1_tiny b1 b2 hu h)
  generalize signA x y = sg at *
  generalize tinyB z sg = B at *
  have HU := Lib.hid hu
  obtain ⟨a1, k1, c1, a2, k2, c2, rfl, hx, hy⟩ := hu
  obtain ⟨xn, xm, xe⟩ := x
  obtain ⟨yn, ym, ye⟩ := y
  clear hx hy ok h hs sd2 he
  go_enter Tryz.func20, Tryz.ntmps20
  have F0 := Lib.hid (Fz.two w 58 #[.bool xn, .slice a1 k1 c1, .int .i64 xe, .bool yn, .slice a2 k2 c2, .int .i64 ye, .int .u64 1, .bool false, .int .i64 z, .int .i64 64, .int .i64 tt] 32 #[.int .u64 0, .int .u8 0, .int .i64 0])
  have U0 := Lib.hid ((HU.out.alloc (.cells #[.bool xn, .slice a1 k1 c1, .int .i64 xe, .bool yn, .slice a2 k2 c2, .int .i64 ye, .int .u64 1, .bool false, .int .i64 z, .int .i64 64, .int .i64 tt] 58)).alloc (.cells #[.int .u64 0, .int .u8 0, .int .i64 0] 32))
  clear HU
  go_upto_region 1 with (fail)
  generalize World.alloc (World.alloc _ _) _ = w0 at F0 U0 ⊢
  have c0_0 := F0.out.c11 0 rfl
  have c1_0 := F0.out.c3 1 rfl
  go_wp2_with fail
  clear c0_0 c1_0
  refine (CR.out _ _ U0.out).mono ?_
  rintro q w1 ⟨rfl, hb⟩
  have F1 := Lib.hid (F0.out.call hb)
  have U1 := Lib.hid (U0.out.below hb)
  clear F0 U0
  clear hb
  have c0_1 := F1.out.c11 0 rfl
  have c1_1 := F1.out.c3 1 rfl
  go_wp2_with fail
  clear c0_1 c1_1
  refine (CE.out _ _ U1.out).mono ?_
  rintro q w2 ⟨rfl, hb⟩
  have F2 := Lib.hid (F1.out.call hb)
  have U2 := Lib.hid (U1.out.below hb)
  clear F1 U1
  clear hb
  have c0_2 := F2.out.c11 0 rfl
  have c1_2 := F2.out.c3 1 rfl
  go_upto_region 4 with (fail)
  clear c0_2 c1_2
  have F3 := Lib.hid (F2.out.new 42 #[.bool false, .slice none 0 0, .int .i64 0])
  have U3 := Lib.hid (U2.out.alloc (.cells #[.bool false, .slice none 0 0, .int .i64 0] 42))
  clear F2 U2
  obtain ⟨g1, hg1⟩ : ∃ g, g = (World.heap w2).size := ⟨_, rfl⟩
  rw [← hg1] at F3 ⊢
  clear hg1
  simp only [List.nil_append, List.cons_append] at F3
  generalize World.alloc w2 _ = W3 at F3 U3 ⊢
  have c0_3 := F3.out.c11 0 rfl
  have c1_3 := F3.out.c3 1 rfl
  have c2_3 := F3.out.c3 2 rfl
  go_wp2_with fail
  clear c0_3 c1_3 c2_3
  refine (CP.out _).mono ?_
  rintro q w4 ⟨g, cap, n, rfl, hn, hc, hb⟩
  have F4 := Lib.hid (F3.out.call hb)
  have U4 := Lib.hid (U3.out.below hb)
  clear F3 U3
  have L4 := Lib.hid (show World.cell? _ ⟨g, 0, none⟩ = some (.int .i64 64) from hc)
  clear hb
  have c0_4 := F4.out.c11 0 rfl
  have c1_4 := F4.out.c3 1 rfl
  have c2_4 := F4.out.c3 2 rfl
  have HN := Lib.hid hn
  clear hn hc
  go_wp2_with fail
  clear c0_4 c1_4 c2_4
  refine (CS.out _ _ U4.out).mono ?_
  rintro q w5 ⟨rfl, hb⟩
  have F5 := Lib.hid (F4.out.call hb)
  have U5 := Lib.hid (U4.out.below hb)
  have L5 := Lib.hid (show World.cell? _ ⟨g, 0, none⟩ = some (.int .i64 64) from cell_below hb (Nat.le_refl _) L4.out)
  clear F4 U4 L4
  clear hb
  have c0_5 := F5.out.c11 0 rfl
  have c1_5 := F5.out.c3 1 rfl
  have c2_5 := F5.out.c3 2 rfl
  go_upto_region 11 with (fail)
  clear c0_5 c1_5 c2_5
  have F6 := Lib.hid (F5.out.new 3 #[.int .i64 sg])
  have U6 := Lib.hid (U5.out.alloc (.cells #[.int .i64 sg] 3))
  have L6 := Lib.hid (show World.cell? _ ⟨g, 0, none⟩ = some (.int .i64 64) from (World.cell?_alloc_lt _ (.cells #[.int .i64 sg] 3) _ (cell_lt L5.out)).trans L5.out)
  clear F5 U5 L5
  obtain ⟨g2, hg2⟩ : ∃ g, g = (World.heap w5).size := ⟨_, rfl⟩
  rw [← hg2] at F6 ⊢
  clear hg2
  simp only [List.nil_append, List.cons_append] at F6
  generalize World.alloc w5 _ = W6 at F6 U6 L6 ⊢
  have c0_6 := F6.out.c11 0 rfl
  have c1_6 := F6.out.c3 1 rfl
  have c2_6 := F6.out.c3 2 rfl
  have c3_6 := F6.out.c1 3 rfl
  go_wp2_with fail
  have CG := Lib.hid (Go_first (g := g) (cap := cap) (n := n) (B := B) HN.out L6.out ⟨w.heap.size, 0, none⟩ ⟨g2, 0, none⟩ (fun w' hb => CD.out w' w.heap.size g2 _ ((F6.out.box 0 _ _ _ rfl).below hb) ((F6.out.box 3 _ _ _ rfl).below hb) (U6.out.below hb)))
  clear c0_6 c1_6 c2_6 c3_6
  refine (CG.out).mono ?_
  rintro q w7 ⟨rfl, hb⟩
  have F7 := Lib.hid (F6.out.call hb)
  have U7 := Lib.hid (U6.out.below hb)
  have L7 := Lib.hid (show World.cell? _ ⟨g, 0, none⟩ = some (.int .i64 64) from cell_below hb (Nat.le_refl _) L6.out)
  clear F6 U6 L6
  clear hb
  have c0_7 := F7.out.c11 0 rfl
  have c1_7 := F7.out.c3 1 rfl
  have c2_7 := F7.out.c3 2 rfl
  have c3_7 := F7.out.c1 3 rfl
  clear U7 L7
  unfold runV
  go_upto_region 12 with (fail)
  clear c0_7 c1_7 c2_7 c3_7
  have F8 := Lib.hid (F7.out.new 97 #[.int .u64 B, .int .u8 1, .int .i64 0, .bool false, .slice none 0 0, .int .i64 0, .bool false, .slice none 0 0, .int .i64 0, .int .i64 64, .int .i64 1, .int .i64 0])
  clear F7
  obtain ⟨g3, hg3⟩ : ∃ g, g = (World.heap w7).size := ⟨_, rfl⟩
  rw [← hg3] at F8 ⊢
  clear hg3
  simp only [List.nil_append, List.cons_append] at F8
  generalize World.alloc w7 _ = W8 at F8 ⊢
  have c0_8 := F8.out.c11 0 rfl
  have c1_8 := F8.out.c3 1 rfl
  have c2_8 := F8.out.c3 2 rfl
  have c3_8 := F8.out.c1 3 rfl
  have c4_8 := F8.out.c12 4 rfl
  go_upto_region 13 with (fail)
  clear c0_8 c1_8 c2_8 c3_8 c4_8
  have e0 := (F8.out.c12 4 rfl).1
  have e1 := F8.out.c3 1 rfl
  have d0 := (F8.out.drew.c12 4 rfl).1
  have d1 := F8.out.drew.c3 1 rfl
  have hne : ¬ g3 = w.heap.size + 1 ∧ ¬ w.heap.size + 1 = g3 := by have := F8.out.asc 1 4 _ _ _ _ _ _ (by decide) rfl rfl; omega
  go_region
  all_goals
    go_wp2
    have f := (F8.out.s3 1 rfl (.int .u64 B) (.int .u8 1) (.int .i64 0)).drew
    generalize World.drew (World.setCell (World.setCell (World.setCell _ _ _) _ _) _ _) = W at f ⊢
    have g1' := f.c3 1 rfl
    refine bodyPost_ret (v := .tuple #[.agg #[.int .u64 B, .int .u8 1, .int .i64 0], .int .i64 1, .int .i64 0]) (by simp [results, Tryz.results20, go_sem, g1']) rfl ?_
    exact ⟨rfl, f.b⟩

end Go.Proofs.YtobpioceopfkpaaGreatDoor

/-
  ops: right, ask. Printed by gen_oa.py.
-/
namespace Go.Proofs.YtobpioceopfkpaaGreatDoor
open Go.RowKit

def howV (z tt : Int) : Value := .agg #[.int .i64 z, .int .i64 64, .int .i64 tt, .pointer none]

set_option maxRecDepth 100000 in
set_option maxHeartbeats 4000000 in
theorem hright_r (w : World) (z tt : Int) (hz : 0 ≤ z ∧ z ≤ 3) (ht : tt = 64 ∨ tt = 1024) : Calls Tryz.prog 67 #[howV z tt] w fun e w' => e = .returned (.bool true) ∧ Below w.heap.size w w' := by
  have CP := Lib.hid (fun w => Plan_any w tt ht)
  have z1 : decide ((0 : Int) ≤ z) = true := decide_eq_true hz.1
  have z2 : decide (z ≤ (3 : Int)) = true := decide_eq_true hz.2
  clear hz ht
  unfold howV
  go_enter Tryz.func67, Tryz.ntmps67
  have F0 := Lib.hid (Fz.one w 28 #[.int .i64 z, .int .i64 64, .int .i64 tt, .pointer none])
  go_upto_region 1 with (fail)
  generalize World.alloc _ _ = w0 at F0 ⊢
  have c0_0 := F0.out.c4 0 rfl
  go_wp2_with fail
  clear c0_0
  refine (CP.out _).mono ?_
  rintro q w1 ⟨u, rfl, hb⟩
  have F1 := Lib.hid (F0.out.call hb)
  clear F0
  clear hb
  have c0_1 := F1.out.c4 0 rfl
  go_wp2
  go_ret
  exact ⟨rfl, F1.out.b⟩

def RetA (x y : Dn) (z tt : Int) (w : World) (e : Ending) (w' : World) : Prop := ∃ r, e = .returned r ∧ Ak w' r x y z tt ∧ Below w.heap.size w w'

set_option maxRecDepth 100000 in
set_option maxHeartbeats 4000000 in
theorem ask_r {w : World} {u v : Value} {x y : Dn} (hu : Cy w u x) (hv : Cy w v y) (z tt : Int) : Calls Tryz.prog 69 #[u, v, .int .u64 1, .bool false, howV z tt] w (RetA x y z tt w) := by
  obtain ⟨xn, xm, xe⟩ := x
  obtain ⟨yn, ym, ye⟩ := y
  obtain ⟨a1, k1, c1, rfl⟩ := hu.fm
  obtain ⟨a2, k2, c2, rfl⟩ := hv.fm
  have HU := Lib.hid hu
  have HV := Lib.hid hv
  clear hu hv
  unfold howV
  go_enter Tryz.func69, Tryz.ntmps69
  have F0 := Lib.hid (Fz.four w 42 #[.bool xn, .slice a1 k1 c1, .int .i64 xe] 42 #[.bool yn, .slice a2 k2 c2, .int .i64 ye] 28 #[.int .i64 z, .int .i64 64, .int .i64 tt, .pointer none] 58 #[.bool false, .slice none 0 0, .int .i64 0, .bool false, .slice none 0 0, .int .i64 0, .int .u64 0, .bool false, .int .i64 0, .int .i64 0, .int .i64 0])
  go_upto_region 1 with (fail)
  generalize World.alloc (World.alloc (World.alloc (World.alloc _ _) _) _) _ = w0 at F0 ⊢
  have c0_0 := F0.out.c3 0 rfl
  have c1_0 := F0.out.c3 1 rfl
  have c2_0 := F0.out.c4 2 rfl
  have c3_0 := F0.out.c11 3 rfl
  go_wp2
  have hw1 : IntKind.u64.wrap 1 = 1 := rfl
  try rw [hw1]
  have f := F0.out.s11 3 rfl (.bool xn) (.slice a1 k1 c1) (.int .i64 xe) (.bool yn) (.slice a2 k2 c2) (.int .i64 ye) (.int .u64 1) (.bool false) (.int .i64 z) (.int .i64 64) (.int .i64 tt)
  generalize (World.setCell (World.setCell (World.setCell (World.setCell (World.setCell (World.setCell (World.setCell (World.setCell (World.setCell (World.setCell (World.setCell _ _ _) _ _) _ _) _ _) _ _) _ _) _ _) _ _) _ _) _ _) _ _) = W at f ⊢
  have g1 := f.c11 3 rfl
  refine bodyPost_ret (v := .agg #[.bool xn, .slice a1 k1 c1, .int .i64 xe, .bool yn, .slice a2 k2 c2, .int .i64 ye, .int .u64 1, .bool false, .int .i64 z, .int .i64 64, .int .i64 tt]) (by simp [results, Tryz.results69, go_sem, g1]) rfl ?_
  exact ⟨_, rfl, ⟨_, _, _, _, _, _, rfl, Cy.below HU.out f.b, Cy.below HV.out f.b⟩, f.b⟩

end Go.Proofs.YtobpioceopfkpaaGreatDoor
