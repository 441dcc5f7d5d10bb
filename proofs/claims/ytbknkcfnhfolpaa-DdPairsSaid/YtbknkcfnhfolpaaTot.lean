/-
  dd's Split, Quick, Prod, Mul over whatever floats: they return a pair.
-/
import Derived.Test.YtbknkcfnhfolpaaDd
import Derived.Deep.DeepCutAuto
namespace Go.Proofs.Ytbknkcfnhfolpaa
open Go.RowKit

theorem run_flop {P : Program} (op : BinOp) (hop : op = .add ∨ op = .sub ∨ op = .mul) (t : TypeId) (x y : Nat) (w : World) : ∃ r n, (binOp op t (.float .f64 x) (.float .f64 y)).run P w = .ok (.float .f64 r) (w.drewN n) := by
  rcases hop with rfl | rfl | rfl
  · cases h : Ieee.double.add x y with
    | some r => exact ⟨r, 0, fl_add h P t w⟩
    | none =>
      have h' : FloatKind.f64.format.add x y = none := h
      simp only [binOp, Op.floatArith, h', go_sem]
      by_cases hf : (Question.nanBits .f64 x y).forced = true
      · exact ⟨_, 0, by simp [hf]; exact ⟨rfl, rfl⟩⟩
      · exact ⟨_, 1, by simp [hf]; exact ⟨rfl, rfl⟩⟩
  · cases h : Ieee.double.sub x y with
    | some r => exact ⟨r, 0, fl_sub h P t w⟩
    | none =>
      have h' : FloatKind.f64.format.sub x y = none := h
      simp only [binOp, Op.floatArith, h', go_sem]
      by_cases hf : (Question.nanBits .f64 x y).forced = true
      · exact ⟨_, 0, by simp [hf]; exact ⟨rfl, rfl⟩⟩
      · exact ⟨_, 1, by simp [hf]; exact ⟨rfl, rfl⟩⟩
  · cases h : Ieee.double.mul x y with
    | some r => exact ⟨r, 0, fl_mul h P t w⟩
    | none =>
      have h' : FloatKind.f64.format.mul x y = none := h
      simp only [binOp, Op.floatArith, h', go_sem]
      by_cases hf : (Question.nanBits .f64 x y).forced = true
      · exact ⟨_, 0, by simp [hf]; exact ⟨rfl, rfl⟩⟩
      · exact ⟨_, 1, by simp [hf]; exact ⟨rfl, rfl⟩⟩

/-- a float's operation, whatever it gives -/
theorem wpList_flop {P : Program} {w : World} {ops : Array Oper} {rest : List Oper} {o : Oper} {a : Act} {Q : Exit → Act → World → Prop} (hgd : o.guard = none) (op : BinOp) (hop : op = .add ∨ op = .sub ∨ op = .mul) (t t' : TypeId) (l r : Operand)
    (ho : o.op = .binOp op t l r t') (x y : Nat) (hx : a.eval l = .float .f64 x) (hy : a.eval r = .float .f64 y)
    (h : ∀ z n, wpList P ops Q rest (a.put o.dst (.float .f64 z)) (w.drewN n)) : wpList P ops Q (o :: rest) a w := by
  obtain ⟨z, n, hr⟩ := run_flop (P := P) op hop t x y w
  refine wpList_plain hgd fun K hK => ?_
  unfold Oper.wp
  rcases hop with rfl | rfl | rfl
  all_goals
    simp [execOp, ho, hx, hy, eqGuard, hr, Result.andThen, Oper.upon]
    exact hK _ _ (h z n)

def RetPair (w : World) (e : Ending) (w' : World) : Prop := ∃ s r, e = .returned (pr s r) ∧ Below w.heap.size w w'

set_option maxHeartbeats 4000000 in
theorem quick_tot (x y : Nat) (w : World) : Calls Try.prog 27 #[.float .f64 x, .float .f64 y] w (RetPair w) := by
  go_enter Try.func27, Try.ntmps27
  go_wp2_with (first | (refine wpList_flop rfl .add (by simp) 25 25 _ _ rfl _ _ rfl rfl ?_; intro z n) | (refine wpList_flop rfl .sub (by simp) 25 25 _ _ rfl _ _ rfl rfl ?_; intro z n) | (refine wpList_flop rfl .mul (by simp) 25 25 _ _ rfl _ _ rfl rfl ?_; intro z n))
  refine bodyPost_ret (v := pr _ _) (by simp [results, Try.results27, go_sem, pr]; exact ⟨rfl, rfl⟩) rfl ⟨_, _, rfl, ?_⟩
  exact ((below_drewN' ((Below.refl _ _).alloc (Nat.le_refl _) _) _).setCell (Nat.le_refl _) _).setCell (Nat.le_refl _) _

set_option maxHeartbeats 4000000 in
theorem split_tot (x : Nat) (w : World) : Calls Try.prog 10 #[.float .f64 x] w (RetPair w) := by
  go_enter Try.func10, Try.ntmps10
  go_wp2_with (first | (refine wpList_flop rfl .add (by simp) 25 25 _ _ rfl _ _ rfl rfl ?_; intro z n) | (refine wpList_flop rfl .sub (by simp) 25 25 _ _ rfl _ _ rfl rfl ?_; intro z n) | (refine wpList_flop rfl .mul (by simp) 25 25 _ _ rfl _ _ rfl rfl ?_; intro z n))
  refine bodyPost_ret (v := pr _ _) (by simp [results, Try.results10, go_sem, pr]; exact ⟨rfl, rfl⟩) rfl ⟨_, _, rfl, ?_⟩
  exact ((below_drewN' ((Below.refl _ _).alloc (Nat.le_refl _) _) _).setCell (Nat.le_refl _) _).setCell (Nat.le_refl _) _

/-- a pair's block of the call's own -/
def ResP (w : World) (R : Nat) : Prop := ∃ u v, Blk w R 28 #[.float .f64 u, .float .f64 v]
theorem ResP.cells {w : World} {R : Nat} (h : ResP w R) : ∃ u v, w.cell? ⟨R, 0, none⟩ = some (.float .f64 u) ∧ w.cell? ⟨R, 1, none⟩ = some (.float .f64 v) ∧ w.frozen? ⟨R, 0, none⟩ = false ∧ w.frozen? ⟨R, 1, none⟩ = false := by
  obtain ⟨u, v, h⟩ := h
  exact ⟨u, v, h.at 0 (.float .f64 u) rfl, h.at 1 (.float .f64 v) rfl, h.frozen 0, h.frozen 1⟩
theorem ResP.below {w w' : World} {R : Nat} (h : ResP w R) (hb : Below w.heap.size w w') : ResP w' R := by
  obtain ⟨u, v, h⟩ := h; exact ⟨u, v, h.below hb⟩
theorem ResP.drewN {w : World} {R : Nat} (h : ResP w R) (n : Nat) : ResP (w.drewN n) R := h
theorem newP {w w' : World} {n : Nat} (hb : Below ((w.alloc (.cells #[.float .f64 0, .float .f64 0] 28)).drewN n).heap.size ((w.alloc (.cells #[.float .f64 0, .float .f64 0] 28)).drewN n) w') : ResP w' w.heap.size ∧ Below w.heap.size w w' ∧ w.heap.size < w'.heap.size := by
  have h1 : ResP ((w.alloc (.cells #[.float .f64 0, .float .f64 0] 28)).drewN n) w.heap.size := ⟨_, _, Blk.new w 28 #[.float .f64 0, .float .f64 0]⟩
  have h2 : Below w.heap.size w ((w.alloc (.cells #[.float .f64 0, .float .f64 0] 28)).drewN n) := below_drewN' ((Below.refl _ _).alloc (Nat.le_refl _) _) n
  have h3 := h1.below hb
  exact ⟨h3, h2.trans (hb.mono h2.size), by obtain ⟨u, v, h⟩ := h3; exact h.lt⟩
theorem finP {w w0 : World} {R : Nat} (h : ResP w R) (hb : Below w0.heap.size w0 w) (hR : w0.heap.size ≤ R) (a b : Nat) :
    Blk ((w.setCell ⟨R, 0, none⟩ (.float .f64 a)).setCell ⟨R, 1, none⟩ (.float .f64 b)) R 28 #[.float .f64 a, .float .f64 b] ∧ Below w0.heap.size w0 ((w.setCell ⟨R, 0, none⟩ (.float .f64 a)).setCell ⟨R, 1, none⟩ (.float .f64 b)) := by
  obtain ⟨u, v, h⟩ := h
  exact fin2 h hb hR _ _

theorem finPA {w w0 : World} {R : Nat} (h : ResP w R) (hb : Below w0.heap.size w0 w) (hR : w0.heap.size ≤ R) (A B : Obj) (n a b : Nat) :
    Blk (((((w.alloc A).alloc B).drewN n).setCell ⟨R, 0, none⟩ (.float .f64 a)).setCell ⟨R, 1, none⟩ (.float .f64 b)) R 28 #[.float .f64 a, .float .f64 b] ∧ Below w0.heap.size w0 (((((w.alloc A).alloc B).drewN n).setCell ⟨R, 0, none⟩ (.float .f64 a)).setCell ⟨R, 1, none⟩ (.float .f64 b)) := by
  refine finP (w := ((w.alloc A).alloc B).drewN n) ?_ (below_drewN' ((hb.alloc hb.size A).alloc (hb.alloc hb.size A).size B) n) hR a b
  obtain ⟨u, v, h⟩ := h
  exact ⟨u, v, ((h.alloc A).alloc B : Blk ((w.alloc A).alloc B) R 28 _)⟩

set_option maxHeartbeats 8000000 in
theorem prod_tot (x y : Nat) (w : World) : Calls Try.prog 16 #[.float .f64 x, .float .f64 y] w (RetPair w) := by
  go_enter Try.func16, Try.ntmps16
  go_wp2_with (first | (refine wpList_flop rfl .add (by simp) 25 25 _ _ rfl _ _ rfl rfl ?_; intro z n) | (refine wpList_flop rfl .sub (by simp) 25 25 _ _ rfl _ _ rfl rfl ?_; intro z n) | (refine wpList_flop rfl .mul (by simp) 25 25 _ _ rfl _ _ rfl rfl ?_; intro z n))
  refine (split_tot _ _).mono ?_
  rintro e w1 ⟨h1, l1, rfl, hb⟩
  unfold pr
  obtain ⟨RP, B, hz⟩ := newP hb
  clear hb
  go_wp2_with (first | (refine wpList_flop rfl .add (by simp) 25 25 _ _ rfl _ _ rfl rfl ?_; intro z n) | (refine wpList_flop rfl .sub (by simp) 25 25 _ _ rfl _ _ rfl rfl ?_; intro z n) | (refine wpList_flop rfl .mul (by simp) 25 25 _ _ rfl _ _ rfl rfl ?_; intro z n))
  refine (split_tot _ _).mono ?_
  rintro e w2 ⟨h2, l2, rfl, hb⟩
  unfold pr
  have RP2 := RP.below hb
  have B2 := Lib.hid (B.trans (hb.mono B.size))
  have hz2 : w.heap.size < w2.heap.size := Nat.lt_of_lt_of_le hz hb.size
  clear hb RP B hz
  obtain ⟨u, v, c0, c1, z0, z1⟩ := RP2.cells
  have RQ := Lib.hid RP2
  clear RP2
  go_wp2_with (first | (refine wpList_flop rfl .add (by simp) 25 25 _ _ rfl _ _ rfl rfl ?_; intro z n) | (refine wpList_flop rfl .sub (by simp) 25 25 _ _ rfl _ _ rfl rfl ?_; intro z n) | (refine wpList_flop rfl .mul (by simp) 25 25 _ _ rfl _ _ rfl rfl ?_; intro z n))
  rename_i zp np za na zb nb zc nc zd nd ze ne zf nf zg ng
  obtain ⟨q1, q2⟩ := finPA RQ.out B2.out (Nat.le_refl _) (.cells #[.float .f64 h1, .float .f64 l1] 28) (.cells #[.float .f64 h2, .float .f64 l2] 28) (na + nb + nc + nd + ne + nf + ng + n) zp z
  generalize (World.setCell (World.setCell _ _ _) _ _) = W at q1 q2 ⊢
  have g0 := q1.at 0 (.float .f64 zp) rfl
  have g1 := q1.at 1 (.float .f64 z) rfl
  exact bodyPost_ret (v := pr zp z) (by simp [results, Try.results16, go_sem, pr, g0, g1]) rfl ⟨_, _, rfl, q2⟩

theorem below_on {w w0 w' : World} {o : Obj} {n : Nat} (h : Below w0.heap.size w0 w) (hb : Below ((w.alloc o).drewN n).heap.size ((w.alloc o).drewN n) w') : Below w0.heap.size w0 w' := by
  have h1 : Below w0.heap.size w0 ((w.alloc o).drewN n) := below_drewN' (h.alloc h.size o) n
  exact h1.trans (hb.mono h1.size)
theorem resP_on {w w' : World} {o : Obj} {n R : Nat} (h : ResP w R) (hb : Below ((w.alloc o).drewN n).heap.size ((w.alloc o).drewN n) w') : ResP w' R := by
  have h1 : ResP ((w.alloc o).drewN n) R := by obtain ⟨u, v, h⟩ := h; exact ⟨u, v, (h.alloc o : Blk (w.alloc o) R 28 _)⟩
  exact h1.below hb

/-- Mul's memory -/
structure MulT (a b c d : Nat) (w wr : World) : Prop where
  x : Blk wr w.heap.size 28 #[.float .f64 a, .float .f64 b]
  y : Blk wr (w.heap.size + 1) 28 #[.float .f64 c, .float .f64 d]
  r : ResP wr (w.heap.size + 2)
  b : Below w.heap.size w wr
theorem MulT.below {a b c d : Nat} {w wr w' : World} (h : MulT a b c d w wr) (hb : Below wr.heap.size wr w') : MulT a b c d w w' := ⟨h.x.below hb, h.y.below hb, h.r.below hb, h.b.trans (hb.mono h.b.size)⟩
theorem MulT.start (a b c d : Nat) (w : World) : MulT a b c d w (((w.alloc (.cells #[.float .f64 a, .float .f64 b] 28)).alloc (.cells #[.float .f64 c, .float .f64 d] 28)).alloc (.cells #[.float .f64 0, .float .f64 0] 28)) := by
  refine ⟨((Blk.new w 28 _).alloc _).alloc _, ?_, ⟨0, 0, ?_⟩, (((Below.refl _ _).alloc (Nat.le_refl _) _).alloc (by simp) _).alloc (by simp; omega) _⟩
  · have := Blk.new (w.alloc (.cells #[.float .f64 a, .float .f64 b] 28)) 28 #[.float .f64 c, .float .f64 d]
    rw [show (w.alloc (.cells #[.float .f64 a, .float .f64 b] 28)).heap.size = w.heap.size + 1 by simp] at this
    exact this.alloc _
  · have := Blk.new ((w.alloc (.cells #[.float .f64 a, .float .f64 b] 28)).alloc (.cells #[.float .f64 c, .float .f64 d] 28)) 28 #[.float .f64 0, .float .f64 0]
    rwa [show ((w.alloc (.cells #[.float .f64 a, .float .f64 b] 28)).alloc (.cells #[.float .f64 c, .float .f64 d] 28)).heap.size = w.heap.size + 2 by simp] at this

set_option maxHeartbeats 8000000 in
theorem mul_tot (a b c d : Nat) (w : World) : Calls Try.prog 22 #[.agg #[.float .f64 a, .float .f64 b], .agg #[.float .f64 c, .float .f64 d]] w (RetPair w) := by
  have M := Lib.hid (MulT.start a b c d w)
  go_enter Try.func22, Try.ntmps22
  go_upto_region 1 with (fail)
  generalize (World.alloc (World.alloc (World.alloc _ _) _) _) = w1 at M ⊢
  have x0 := M.out.x.at 0 (.float .f64 a) rfl
  have x1 := M.out.x.at 1 (.float .f64 b) rfl
  have y0 := M.out.y.at 0 (.float .f64 c) rfl
  have y1 := M.out.y.at 1 (.float .f64 d) rfl
  go_wp2_with (first | (refine wpList_flop rfl .add (by simp) 25 25 _ _ rfl _ _ rfl rfl ?_; intro z n) | (refine wpList_flop rfl .sub (by simp) 25 25 _ _ rfl _ _ rfl rfl ?_; intro z n) | (refine wpList_flop rfl .mul (by simp) 25 25 _ _ rfl _ _ rfl rfl ?_; intro z n))
  refine (prod_tot _ _ _).mono ?_
  rintro e w2 ⟨s, r, rfl, hb⟩
  unfold pr
  have M2 := Lib.hid (M.out.below hb)
  clear hb M x0 x1 y0 y1
  have x0 := M2.out.x.at 0 (.float .f64 a) rfl
  have x1 := M2.out.x.at 1 (.float .f64 b) rfl
  have y0 := M2.out.y.at 0 (.float .f64 c) rfl
  have y1 := M2.out.y.at 1 (.float .f64 d) rfl
  have l0 := M2.out.x.lt
  have l1 := M2.out.y.lt
  go_wp2_with (first | (refine wpList_flop rfl .add (by simp) 25 25 _ _ rfl _ _ rfl rfl ?_; intro z n) | (refine wpList_flop rfl .sub (by simp) 25 25 _ _ rfl _ _ rfl rfl ?_; intro z n) | (refine wpList_flop rfl .mul (by simp) 25 25 _ _ rfl _ _ rfl rfl ?_; intro z n))
  refine (quick_tot _ _ _).mono ?_
  rintro e w3 ⟨s', r', rfl, hb⟩
  unfold pr
  have R3 : ResP w3 (w.heap.size + 2) := (resP_on M2.out.r hb)
  have B3 := below_on M2.out.b hb
  clear hb M2 x0 x1 y0 y1
  obtain ⟨u, v, c0, c1, z0, z1⟩ := R3.cells
  have RQ := Lib.hid R3
  have BQ := Lib.hid B3
  clear R3 B3
  go_wp2
  obtain ⟨q1, q2⟩ := finP RQ.out BQ.out (by omega) s' r'
  generalize (World.setCell (World.setCell _ _ _) _ _) = W at q1 q2 ⊢
  have g0 := q1.at 0 (.float .f64 s') rfl
  have g1 := q1.at 1 (.float .f64 r') rfl
  exact bodyPost_ret (v := pr s' r') (by simp [results, Try.results22, go_sem, pr, g0, g1]) rfl ⟨_, _, rfl, q2⟩

end Go.Proofs.Ytbknkcfnhfolpaa
