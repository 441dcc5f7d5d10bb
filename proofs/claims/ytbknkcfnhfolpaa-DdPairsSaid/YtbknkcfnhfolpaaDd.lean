/-
  dd's Sum, Quick, Split, Prod, walked: what they hand back, as bits.
-/
import Derived.Test.YtbknkcfnhfolpaaMem
import Derived.Test.YtbknkcfnhfolpaaRows
import Derived.Test.YtbknkcfnhfolpaaWord
namespace Go.Proofs.Ytbknkcfnhfolpaa
open Go.RowKit
@[go_sem] theorem run_store_float (P : Program) (w : World) (a : Addr) (m : Mode) (k : FloatKind) (b : Nat) : (store a (.float k b) m).run P w = stored P w a (.float k b) m := run_store P w a _ m rfl

theorem fl_add {x y r : Nat} (h : Ieee.double.add x y = some r) (P : Program) (t : TypeId) (w : World) : (binOp .add t (.float .f64 x) (.float .f64 y)).run P w = .ok (.float .f64 r) w := run_float_arith w .add t .f64 x y r h
theorem fl_sub {x y r : Nat} (h : Ieee.double.sub x y = some r) (P : Program) (t : TypeId) (w : World) : (binOp .sub t (.float .f64 x) (.float .f64 y)).run P w = .ok (.float .f64 r) w := run_float_arith w .sub t .f64 x y r h
theorem fl_mul {x y r : Nat} (h : Ieee.double.mul x y = some r) (P : Program) (t : TypeId) (w : World) : (binOp .mul t (.float .f64 x) (.float .f64 y)).run P w = .ok (.float .f64 r) w := run_float_arith w .mul t .f64 x y r h

/-- a pair -/
def pr (s r : Nat) : Value := .agg #[.float .f64 s, .float .f64 r]

set_option maxHeartbeats 1000000 in
theorem sum_run {x y s t u d e r : Nat} (w : World) (h1 : Ieee.double.add x y = some s) (h2 : Ieee.double.sub s x = some t) (h3 : Ieee.double.sub s t = some u) (h4 : Ieee.double.sub x u = some d)
    (h5 : Ieee.double.sub y t = some e) (h6 : Ieee.double.add d e = some r) :
    Calls Try.prog 18 #[.float .f64 x, .float .f64 y] w fun e w' => e = .returned (pr s r) ∧ Below w.heap.size w w' := by
  have f1 := fl_add h1 Try.prog 25
  have f2 := fl_sub h2 Try.prog 25
  have f3 := fl_sub h3 Try.prog 25
  have f4 := fl_sub h4 Try.prog 25
  have f5 := fl_sub h5 Try.prog 25
  have f6 := fl_add h6 Try.prog 25
  clear h1 h2 h3 h4 h5 h6
  go_enter Try.func18, Try.ntmps18
  go_wp2
  refine bodyPost_ret (v := pr s r) (by simp [results, Try.results18, go_sem, pr]) rfl ⟨rfl, ?_⟩
  exact (Below.refl _ _).alloc (Nat.le_refl _) _

set_option maxHeartbeats 1000000 in
theorem quick_run {x y s t r : Nat} (w : World) (h1 : Ieee.double.add x y = some s) (h2 : Ieee.double.sub s x = some t) (h3 : Ieee.double.sub y t = some r) :
    Calls Try.prog 27 #[.float .f64 x, .float .f64 y] w fun e w' => e = .returned (pr s r) ∧ Below w.heap.size w w' := by
  have f1 := fl_add h1 Try.prog 25
  have f2 := fl_sub h2 Try.prog 25
  have f3 := fl_sub h3 Try.prog 25
  clear h1 h2 h3
  go_enter Try.func27, Try.ntmps27
  go_wp2
  refine bodyPost_ret (v := pr s r) (by simp [results, Try.results27, go_sem, pr]) rfl ⟨rfl, ?_⟩
  exact (Below.refl _ _).alloc (Nat.le_refl _) _

/-- 2^27 + 1, as bits -/
def splitter : Nat := 4728779608772575232

set_option maxHeartbeats 1000000 in
theorem split_run {x c t h l : Nat} (w : World) (h1 : Ieee.double.mul splitter x = some c) (h2 : Ieee.double.sub c x = some t) (h3 : Ieee.double.sub c t = some h) (h4 : Ieee.double.sub x h = some l) :
    Calls Try.prog 10 #[.float .f64 x] w fun e w' => e = .returned (pr h l) ∧ Below w.heap.size w w' := by
  have f1 := fl_mul h1 Try.prog 25
  have f2 := fl_sub h2 Try.prog 25
  have f3 := fl_sub h3 Try.prog 25
  have f4 := fl_sub h4 Try.prog 25
  unfold splitter at f1
  clear h1 h2 h3 h4
  go_enter Try.func10, Try.ntmps10
  go_wp2
  refine bodyPost_ret (v := pr h l) (by simp [results, Try.results10, go_sem, pr]) rfl ⟨rfl, ?_⟩
  exact (Below.refl _ _).alloc (Nat.le_refl _) _

/-- x's halves are h, l -/
def IsSplit (x h l : Nat) : Prop := ∃ c t, Ieee.double.mul splitter x = some c ∧ Ieee.double.sub c x = some t ∧ Ieee.double.sub c t = some h ∧ Ieee.double.sub x h = some l

theorem split_is {x h l : Nat} (H : IsSplit x h l) (w : World) : Calls Try.prog 10 #[.float .f64 x] w fun e w' => e = .returned (pr h l) ∧ Below w.heap.size w w' := by
  obtain ⟨c, t, h1, h2, h3, h4⟩ := H
  exact split_run w h1 h2 h3 h4

set_option maxHeartbeats 4000000 in
theorem prod_run {x y p xh xl yh yl a b c d r1 r2 r3 r4 : Nat} (w : World) (h0 : Ieee.double.mul x y = some p) (hx : IsSplit x xh xl) (hy : IsSplit y yh yl)
    (h1 : Ieee.double.mul xh yh = some a) (h2 : Ieee.double.sub a p = some r1) (h3 : Ieee.double.mul xh yl = some b) (h4 : Ieee.double.add r1 b = some r2)
    (h5 : Ieee.double.mul xl yh = some c) (h6 : Ieee.double.add r2 c = some r3) (h7 : Ieee.double.mul xl yl = some d) (h8 : Ieee.double.add r3 d = some r4) :
    Calls Try.prog 16 #[.float .f64 x, .float .f64 y] w fun e w' => e = .returned (pr p r4) ∧ Below w.heap.size w w' := by
  have f0 := fl_mul h0 Try.prog 25
  have f1 := fl_mul h1 Try.prog 25
  have f2 := fl_sub h2 Try.prog 25
  have f3 := fl_mul h3 Try.prog 25
  have f4 := fl_add h4 Try.prog 25
  have f5 := fl_mul h5 Try.prog 25
  have f6 := fl_add h6 Try.prog 25
  have f7 := fl_mul h7 Try.prog 25
  have f8 := fl_add h8 Try.prog 25
  have sx := fun w => split_is hx w
  have sy := fun w => split_is hy w
  clear h0 h1 h2 h3 h4 h5 h6 h7 h8 hx hy
  go_enter Try.func16, Try.ntmps16
  go_wp2_with fail
  refine (sx _).mono ?_
  rintro e w1 ⟨rfl, hb1⟩
  unfold pr
  have k1 := (Blk.new w 28 #[.float .f64 0, .float .f64 0]).below hb1
  have hz1 : w.heap.size < w1.heap.size := k1.lt
  have b1 := ((Below.refl w.heap.size w).alloc (Nat.le_refl _) (.cells #[.float .f64 0, .float .f64 0] 28)).trans (hb1.mono (by simp))
  go_wp2_with fail
  refine (sy _).mono ?_
  rintro e w2 ⟨rfl, hb2⟩
  unfold pr
  have k2 := k1.below hb2
  have b2 := b1.trans (hb2.mono (Nat.le_of_lt hz1))
  have hz2 : w.heap.size < w2.heap.size := k2.lt
  clear sx sy hb1 hb2 k1 b1
  have c0 := k2.at 0 (.float .f64 0) rfl
  have c1 := k2.at 1 (.float .f64 0) rfl
  have z0 := k2.frozen 0
  have z1 := k2.frozen 1
  have K2 := Lib.hid k2
  have B2 := Lib.hid b2
  clear k2 b2
  go_wp2_with fail
  obtain ⟨q1, q2⟩ := fin2 K2.out B2.out (Nat.le_refl _) (.float .f64 p) (.float .f64 r4)
  generalize (World.setCell (World.setCell _ _ _) _ _) = W at q1 q2 ⊢
  have q3 := (q1.alloc (.cells #[.float .f64 xh, .float .f64 xl] 28)).alloc (.cells #[.float .f64 yh, .float .f64 yl] 28)
  have q4 := (q2.alloc (Nat.le_of_lt q1.lt) (.cells #[.float .f64 xh, .float .f64 xl] 28)).alloc (by have := q1.lt; simp; omega) (.cells #[.float .f64 yh, .float .f64 yl] 28)
  generalize (World.alloc (World.alloc _ _) _) = V at q3 q4 ⊢
  have g0 := q3.at 0 (.float .f64 p) rfl
  have g1 := q3.at 1 (.float .f64 r4) rfl
  exact bodyPost_ret (v := pr p r4) (by simp [results, Try.results16, go_sem, pr, g0, g1]) rfl ⟨rfl, q4⟩

end Go.Proofs.Ytbknkcfnhfolpaa
