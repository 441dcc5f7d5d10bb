/-
  dd's Add and Mul, walked: what they hand back, as bits.
-/
import Derived.Test.YtbknkcfnhfolpaaTot
namespace Go.Proofs.Ytbknkcfnhfolpaa
open Go.RowKit

/-- a copy, then a store into it, of a pair that a call hands over -/
theorem MulT.pair {a b c d : Nat} {w wr : World} (h : MulT a b c d w wr) (o : Obj) : MulT a b c d w (wr.alloc o) :=
  ⟨h.x.alloc o, h.y.alloc o, (by obtain ⟨u, v, h⟩ := h.r; exact ⟨u, v, h.alloc o⟩), h.b.alloc h.b.size o⟩

set_option maxHeartbeats 8000000 in
theorem add_run {a b c d s r t u q v : Nat} (w : World) (hs : ∀ w, Calls Try.prog 18 #[.float .f64 a, .float .f64 c] w fun e w' => e = .returned (pr s r) ∧ Below w.heap.size w w')
    (h1 : Ieee.double.add b d = some t) (h2 : Ieee.double.add r t = some u) (hq : ∀ w, Calls Try.prog 27 #[.float .f64 s, .float .f64 u] w fun e w' => e = .returned (pr q v) ∧ Below w.heap.size w w') :
    Calls Try.prog 21 #[.agg #[.float .f64 a, .float .f64 b], .agg #[.float .f64 c, .float .f64 d]] w fun e w' => e = .returned (pr q v) ∧ Below w.heap.size w w' := by
  have M := Lib.hid (MulT.start a b c d w)
  have HS := Lib.hid hs
  have HQ := Lib.hid hq
  have f1 := fl_add h1 Try.prog 25
  have f2 := fl_add h2 Try.prog 25
  clear hs hq h1 h2
  go_enter Try.func21, Try.ntmps21
  go_upto_region 1 with (fail)
  generalize (World.alloc (World.alloc (World.alloc _ _) _) _) = w1 at M ⊢
  have x0 := M.out.x.at 0 (.float .f64 a) rfl
  have x1 := M.out.x.at 1 (.float .f64 b) rfl
  have y0 := M.out.y.at 0 (.float .f64 c) rfl
  have y1 := M.out.y.at 1 (.float .f64 d) rfl
  go_wp2_with fail
  refine (HS.out _).mono ?_
  rintro e w2 ⟨rfl, hb⟩
  unfold pr
  have M2 := Lib.hid (M.out.below hb)
  clear hb M x0 x1 y0 y1 HS
  have x0 := M2.out.x.at 0 (.float .f64 a) rfl
  have x1 := M2.out.x.at 1 (.float .f64 b) rfl
  have y0 := M2.out.y.at 0 (.float .f64 c) rfl
  have y1 := M2.out.y.at 1 (.float .f64 d) rfl
  have l0 := M2.out.x.lt
  have l1 := M2.out.y.lt
  go_wp2_with fail
  refine (HQ.out _).mono ?_
  rintro e w3 ⟨rfl, hb⟩
  unfold pr
  have R3 : ResP w3 (w.heap.size + 2) := (resP_on (n := 0) M2.out.r hb)
  have B3 := below_on (n := 0) M2.out.b hb
  clear hb M2 x0 x1 y0 y1 f1 f2 HQ
  obtain ⟨u', v', c0, c1, z0, z1⟩ := R3.cells
  have RQ := Lib.hid R3
  have BQ := Lib.hid B3
  clear R3 B3
  go_wp2
  obtain ⟨q1, q2⟩ := finP RQ.out BQ.out (by omega) q v
  generalize (World.setCell (World.setCell _ _ _) _ _) = W at q1 q2 ⊢
  have g0 := q1.at 0 (.float .f64 q) rfl
  have g1 := q1.at 1 (.float .f64 v) rfl
  exact bodyPost_ret (v := pr q v) (by simp [results, Try.results21, go_sem, pr, g0, g1]) rfl ⟨rfl, q2⟩

set_option maxHeartbeats 8000000 in
theorem mul_run {a b c d s r t1 t2 t u q v : Nat} (w : World) (hs : ∀ w, Calls Try.prog 16 #[.float .f64 a, .float .f64 c] w fun e w' => e = .returned (pr s r) ∧ Below w.heap.size w w')
    (h1 : Ieee.double.mul a d = some t1) (h2 : Ieee.double.mul b c = some t2) (h3 : Ieee.double.add t1 t2 = some t) (h4 : Ieee.double.add r t = some u)
    (hq : ∀ w, Calls Try.prog 27 #[.float .f64 s, .float .f64 u] w fun e w' => e = .returned (pr q v) ∧ Below w.heap.size w w') :
    Calls Try.prog 22 #[.agg #[.float .f64 a, .float .f64 b], .agg #[.float .f64 c, .float .f64 d]] w fun e w' => e = .returned (pr q v) ∧ Below w.heap.size w w' := by
  have M := Lib.hid (MulT.start a b c d w)
  have HS := Lib.hid hs
  have HQ := Lib.hid hq
  have f1 := fl_mul h1 Try.prog 25
  have f2 := fl_mul h2 Try.prog 25
  have f3 := fl_add h3 Try.prog 25
  have f4 := fl_add h4 Try.prog 25
  clear hs hq h1 h2 h3 h4
  go_enter Try.func22, Try.ntmps22
  go_upto_region 1 with (fail)
  generalize (World.alloc (World.alloc (World.alloc _ _) _) _) = w1 at M ⊢
  have x0 := M.out.x.at 0 (.float .f64 a) rfl
  have x1 := M.out.x.at 1 (.float .f64 b) rfl
  have y0 := M.out.y.at 0 (.float .f64 c) rfl
  have y1 := M.out.y.at 1 (.float .f64 d) rfl
  go_wp2_with fail
  refine (HS.out _).mono ?_
  rintro e w2 ⟨rfl, hb⟩
  unfold pr
  have M2 := Lib.hid (M.out.below hb)
  clear hb M x0 x1 y0 y1 HS
  have x0 := M2.out.x.at 0 (.float .f64 a) rfl
  have x1 := M2.out.x.at 1 (.float .f64 b) rfl
  have y0 := M2.out.y.at 0 (.float .f64 c) rfl
  have y1 := M2.out.y.at 1 (.float .f64 d) rfl
  have l0 := M2.out.x.lt
  have l1 := M2.out.y.lt
  go_wp2_with fail
  refine (HQ.out _).mono ?_
  rintro e w3 ⟨rfl, hb⟩
  unfold pr
  have R3 : ResP w3 (w.heap.size + 2) := (resP_on (n := 0) M2.out.r hb)
  have B3 := below_on (n := 0) M2.out.b hb
  clear hb M2 x0 x1 y0 y1 f1 f2 f3 f4 HQ
  obtain ⟨u', v', c0, c1, z0, z1⟩ := R3.cells
  have RQ := Lib.hid R3
  have BQ := Lib.hid B3
  clear R3 B3
  go_wp2
  obtain ⟨q1, q2⟩ := finP RQ.out BQ.out (by omega) q v
  generalize (World.setCell (World.setCell _ _ _) _ _) = W at q1 q2 ⊢
  have g0 := q1.at 0 (.float .f64 q) rfl
  have g1 := q1.at 1 (.float .f64 v) rfl
  exact bodyPost_ret (v := pr q v) (by simp [results, Try.results22, go_sem, pr, g0, g1]) rfl ⟨rfl, q2⟩

end Go.Proofs.Ytbknkcfnhfolpaa
