/-
  DdPairs, walked: two pairs, two numbers, a sum, a product.
-/
import Derived.Test.YtbknkcfnhfolpaaPy
set_option exponentiation.threshold 9000
namespace Go.Proofs.Ytbknkcfnhfolpaa.ddPairs
open Go.ChangeShapes Go.WideShapes Go.ChangeAt Go.RowKit Rn
open ddProds (res1d st3_two drew_two alloc_two)

/-- the law's memory: two pairs, and numbers -/
structure LSt (P Q xh xl yh yl : Nat) (L : List (Nat × Value × Int)) (w wr : World) : Prop where
  p : Blk wr P 28 #[.float .f64 xh, .float .f64 xl]
  q : Blk wr Q 28 #[.float .f64 yh, .float .f64 yl]
  n : ∀ x ∈ L, ∃ n1 a k c e, x.2.1 = .agg #[.bool n1, .slice a k c, .int .i64 e] ∧ Blk wr x.1 32 #[.bool n1, .slice a k c, .int .i64 e] ∧ NZ wr x.2.1 x.2.2 (-1074)
  b : Below w.heap.size w wr

def Fresh (P Q : Nat) (L : List (Nat × Value × Int)) (w : World) (g : Nat) (V : World) : Prop := Res V g ∧ g ≠ P ∧ g ≠ Q ∧ (∀ x ∈ L, x.1 ≠ g) ∧ w.heap.size ≤ g

section
variable {P Q xh xl yh yl : Nat} {L : List (Nat × Value × Int)} {w V : World}
theorem LSt.alloc (h : LSt P Q xh xl yh yl L w V) (o : Obj) : LSt P Q xh xl yh yl L w (V.alloc o) :=
  ⟨h.p.alloc o, h.q.alloc o, fun x hx => by obtain ⟨n1, a, k, c, e, h1, h2, h3⟩ := h.n x hx; exact ⟨n1, a, k, c, e, h1, h2.alloc o, h3.alloc o⟩, h.b.alloc h.b.size o⟩
theorem LSt.drew (h : LSt P Q xh xl yh yl L w V) : LSt P Q xh xl yh yl L w V.drew := ⟨h.p, h.q, h.n, below_drewN' h.b 1⟩
theorem LSt.below {V' : World} (h : LSt P Q xh xl yh yl L w V) (hb : Below V.heap.size V V') : LSt P Q xh xl yh yl L w V' :=
  ⟨h.p.below hb, h.q.below hb, fun x hx => by obtain ⟨n1, a, k, c, e, h1, h2, h3⟩ := h.n x hx; exact ⟨n1, a, k, c, e, h1, h2.below hb, h3.below hb⟩, h.b.trans (hb.mono h.b.size)⟩
theorem LSt.cp (h : LSt P Q xh xl yh yl L w V) : V.cell? ⟨P, 0, none⟩ = some (.float .f64 xh) ∧ V.cell? ⟨P, 1, none⟩ = some (.float .f64 xl) := ⟨h.p.at 0 (.float .f64 xh) rfl, h.p.at 1 (.float .f64 xl) rfl⟩
theorem LSt.cq (h : LSt P Q xh xl yh yl L w V) : V.cell? ⟨Q, 0, none⟩ = some (.float .f64 yh) ∧ V.cell? ⟨Q, 1, none⟩ = some (.float .f64 yl) := ⟨h.q.at 0 (.float .f64 yh) rfl, h.q.at 1 (.float .f64 yl) rfl⟩
theorem Fresh.below {g : Nat} {V' : World} (h : Fresh P Q L w g V) (hb : Below V.heap.size V V') : Fresh P Q L w g V' := ⟨Res.below h.1 hb, h.2⟩
theorem LSt.new (h : LSt P Q xh xl yh yl L w V) {V' : World} (hr : Res V' V.heap.size) : Fresh P Q L w V.heap.size V' := by
  have h1 := h.p.lt
  have h2 := h.q.lt
  refine ⟨hr, by omega, by omega, fun x hx => ?_, h.b.size⟩
  obtain ⟨n1, a, k, c, e, _, h4, _⟩ := h.n x hx
  have := h4.lt
  omega

/-- a number more, wherever it lies -/
def NewAt (P Q xh xl yh yl : Nat) (L : List (Nat × Value × Int)) (z : Int) (w : World) (s : Value) (wx : World) : Prop :=
  ∃ g v, s = .pointer (some ⟨g, 0, none⟩) ∧ LSt P Q xh xl yh yl ((g, v, z) :: L) w wx

variable {n1 : Bool} {a : Option Addr} {k c : Nat} {e z : Int}
theorem lst0 (h : LSt P Q xh xl yh yl L w V) (u : NZ V (.agg #[.bool n1, .slice a k c, .int .i64 e]) z (-1074)) {g : Nat} (f : Fresh P Q L w g V) :
    Hid (NewAt P Q xh xl yh yl L z w (.pointer (some ⟨g, 0, none⟩)) (((V.setCell ⟨g, 0, none⟩ (.bool n1)).setCell ⟨g, 1, none⟩ (.slice a k c)).setCell ⟨g, 2, none⟩ (.int .i64 e))) := by
  obtain ⟨hg, f1, f2, f3, f4⟩ := f
  obtain ⟨p1, p2⟩ := fin3 hg h.b f4 (.bool n1) (.slice a k c) (.int .i64 e)
  show NewAt P Q xh xl yh yl L z w _ _
  refine ⟨g, .agg #[.bool n1, .slice a k c, .int .i64 e], rfl, ⟨((h.p.far (Ne.symm f1) _).far (Ne.symm f1) _).far (Ne.symm f1) _, ((h.q.far (Ne.symm f2) _).far (Ne.symm f2) _).far (Ne.symm f2) _, fun x hx => ?_, p2⟩⟩
  rcases List.mem_cons.1 hx with rfl | hx
  · exact ⟨n1, a, k, c, e, rfl, p1, u.st3 hg.parts _ _ _⟩
  · obtain ⟨n1, a, k, c, e, h1, h2, h3⟩ := h.n x hx
    have hne := f3 x hx
    exact ⟨n1, a, k, c, e, h1, ((h2.far hne _).far hne _).far hne _, h3.st3 hg.parts _ _ _⟩
theorem lst1 (h : LSt P Q xh xl yh yl L w V) (u : NZ V (.agg #[.bool n1, .slice a k c, .int .i64 e]) z (-1074)) :
    Hid (NewAt P Q xh xl yh yl L z w (.pointer (some ⟨V.heap.size, 0, none⟩)) (V.alloc (.cells #[.bool n1, .slice a k c, .int .i64 e] 32))) := by
  have h' := h.alloc (.cells #[.bool n1, .slice a k c, .int .i64 e] 32)
  show NewAt P Q xh xl yh yl L z w _ _
  refine ⟨V.heap.size, .agg #[.bool n1, .slice a k c, .int .i64 e], rfl, ⟨h'.p, h'.q, fun x hx => ?_, h'.b⟩⟩
  rcases List.mem_cons.1 hx with rfl | hx
  · exact ⟨n1, a, k, c, e, rfl, Blk.new _ _ _, u.alloc _⟩
  · exact h'.n x hx
end

/-- what lies ahead of the law's last line -/
structure EndM (S T g h s r p q : Nat) (n1 n2 : Bool) (a1 a2 : Option Addr) (k1 k2 c1 c2 : Nat) (e1 e2 z1 z2 : Int) (w V : World) : Prop where
  s : Blk V S 28 #[.float .f64 s, .float .f64 r]
  t : Blk V T 28 #[.float .f64 p, .float .f64 q]
  x : Blk V g 32 #[.bool n1, .slice a1 k1 c1, .int .i64 e1]
  y : Blk V h 32 #[.bool n2, .slice a2 k2 c2, .int .i64 e2]
  u : NZ V (.agg #[.bool n1, .slice a1 k1 c1, .int .i64 e1]) z1 (-1074)
  v : NZ V (.agg #[.bool n2, .slice a2 k2 c2, .int .i64 e2]) z2 (-1074)
  b : Below w.heap.size w V
section
variable {S T g h s r p q : Nat} {n1 n2 : Bool} {a1 a2 : Option Addr} {k1 k2 c1 c2 : Nat} {e1 e2 z1 z2 : Int} {w V : World}
theorem EndM.below {V' : World} (m : EndM S T g h s r p q n1 n2 a1 a2 k1 k2 c1 c2 e1 e2 z1 z2 w V) (hb : Below V.heap.size V V') : EndM S T g h s r p q n1 n2 a1 a2 k1 k2 c1 c2 e1 e2 z1 z2 w V' :=
  ⟨m.s.below hb, m.t.below hb, m.x.below hb, m.y.below hb, m.u.below hb, m.v.below hb, m.b.trans (hb.mono m.b.size)⟩
theorem EndM.drew (m : EndM S T g h s r p q n1 n2 a1 a2 k1 k2 c1 c2 e1 e2 z1 z2 w V) : EndM S T g h s r p q n1 n2 a1 a2 k1 k2 c1 c2 e1 e2 z1 z2 w V.drew := ⟨m.s, m.t, m.x, m.y, m.u, m.v, below_drewN' m.b 1⟩
theorem EndM.cells (m : EndM S T g h s r p q n1 n2 a1 a2 k1 k2 c1 c2 e1 e2 z1 z2 w V) :
    V.cell? ⟨S, 0, none⟩ = some (.float .f64 s) ∧ V.cell? ⟨S, 1, none⟩ = some (.float .f64 r) ∧ V.cell? ⟨T, 0, none⟩ = some (.float .f64 p) ∧ V.cell? ⟨T, 1, none⟩ = some (.float .f64 q) ∧
    V.cell? ⟨g, 0, none⟩ = some (.bool n1) ∧ V.cell? ⟨g, 1, none⟩ = some (.slice a1 k1 c1) ∧ V.cell? ⟨g, 2, none⟩ = some (.int .i64 e1) ∧
    V.cell? ⟨h, 0, none⟩ = some (.bool n2) ∧ V.cell? ⟨h, 1, none⟩ = some (.slice a2 k2 c2) ∧ V.cell? ⟨h, 2, none⟩ = some (.int .i64 e2) :=
  ⟨m.s.at 0 (.float .f64 s) rfl, m.s.at 1 (.float .f64 r) rfl, m.t.at 0 (.float .f64 p) rfl, m.t.at 1 (.float .f64 q) rfl, m.x.at 0 (.bool n1) rfl, m.x.at 1 (.slice a1 k1 c1) rfl, m.x.at 2 (.int .i64 e1) rfl,
    m.y.at 0 (.bool n2) rfl, m.y.at 1 (.slice a2 k2 c2) rfl, m.y.at 2 (.int .i64 e2) rfl⟩
end


set_option maxHeartbeats 4000000 in
theorem walk_no (x1 x2 x3 x4 : Nat) (h1 : x1 < 2 ^ 64) (h2 : x2 < 2 ^ 64) (h3 : x3 < 2 ^ 64) (h4 : x4 < 2 ^ 64) (w : World) (h : ¬ (safeB x1 = true ∧ safeB x2 = true ∧ safeB x3 = true ∧ safeB x4 = true)) :
    Calls Try.prog 4 #[.int .u64 x1, .int .u64 x2, .int .u64 x3, .int .u64 x4] w fun e w' => e = .returned (.bool true) ∧ Below w.heap.size w w' := by
  have r1 := Lib.hid (fun w => safe09_any h1 w)
  have r2 := Lib.hid (fun w => safe09_any h2 w)
  have r3 := Lib.hid (fun w => safe09_any h3 w)
  have r4 := Lib.hid (fun w => safe09_any h4 w)
  clear h1 h2 h3 h4
  generalize safeB x1 = p1 at *
  generalize safeB x2 = p2 at *
  generalize safeB x3 = p3 at *
  generalize safeB x4 = p4 at *
  have HH := Lib.hid h
  clear h
  go_enter Try.func4, Try.ntmps4
  go_wp2_with fail
  refine (alive_is _).mono ?_
  rintro e w1 ⟨rfl, hb1⟩
  have B := Lib.hid hb1
  clear hb1
  go_wp2_with fail
  refine (r1.out _).mono ?_
  rintro e w2 ⟨rfl, hb⟩
  have B' := Lib.hid (B.out.trans (hb.mono B.out.size))
  clear hb B
  have B := B'
  clear B'
  rcases p1 with _ | _
  · clear r1 r2 r3 r4 HH
    go_wp2
    go_ret
    exact ⟨rfl, B.out⟩
  go_wp2_with fail
  refine (r2.out _).mono ?_
  rintro e w2 ⟨rfl, hb⟩
  have B' := Lib.hid (B.out.trans (hb.mono B.out.size))
  clear hb B
  have B := B'
  clear B'
  rcases p2 with _ | _
  · clear r1 r2 r3 r4 HH
    go_wp2
    go_ret
    exact ⟨rfl, B.out⟩
  go_wp2_with fail
  refine (r3.out _).mono ?_
  rintro e w2 ⟨rfl, hb⟩
  have B' := Lib.hid (B.out.trans (hb.mono B.out.size))
  clear hb B
  have B := B'
  clear B'
  rcases p3 with _ | _
  · clear r1 r2 r3 r4 HH
    go_wp2
    go_ret
    exact ⟨rfl, B.out⟩
  go_wp2_with fail
  refine (r4.out _).mono ?_
  rintro e w2 ⟨rfl, hb⟩
  have B' := Lib.hid (B.out.trans (hb.mono B.out.size))
  clear hb B
  have B := B'
  clear B'
  obtain rfl : p4 = false := by have := HH.out; cases p4 <;> simp_all
  clear r1 r2 r3 r4 HH
  go_wp2
  go_ret
  exact ⟨rfl, B.out⟩

set_option maxRecDepth 100000 in
set_option maxHeartbeats 32000000 in
theorem walk_yes (x1 x2 x3 x4 y1 y2 y3 y4 xh xl yh yl s r : Nat) (zA zB zC zD z1 z2 z3 z4 : Int) (F : Bool) (w : World)
    (HA : Hid (∀ w, Calls Try.prog 7 #[] w fun e w' => e = .returned (.bool true) ∧ Below w.heap.size w w'))
    (r1 : Hid (∀ w, Calls Try.prog 8 #[.int .u64 x1] w fun e w' => e = .returned (.bool true) ∧ Below w.heap.size w w'))
    (b1 : Hid (∀ w, Calls Try.prog 19 #[.float .f64 x1] w fun e w' => e = .returned (.float .f64 y1) ∧ w = w'))
    (r2 : Hid (∀ w, Calls Try.prog 8 #[.int .u64 x2] w fun e w' => e = .returned (.bool true) ∧ Below w.heap.size w w'))
    (b2 : Hid (∀ w, Calls Try.prog 19 #[.float .f64 x2] w fun e w' => e = .returned (.float .f64 y2) ∧ w = w'))
    (r3 : Hid (∀ w, Calls Try.prog 8 #[.int .u64 x3] w fun e w' => e = .returned (.bool true) ∧ Below w.heap.size w w'))
    (b3 : Hid (∀ w, Calls Try.prog 19 #[.float .f64 x3] w fun e w' => e = .returned (.float .f64 y3) ∧ w = w'))
    (r4 : Hid (∀ w, Calls Try.prog 8 #[.int .u64 x4] w fun e w' => e = .returned (.bool true) ∧ Below w.heap.size w w'))
    (b4 : Hid (∀ w, Calls Try.prog 19 #[.float .f64 x4] w fun e w' => e = .returned (.float .f64 y4) ∧ w = w'))
    (CS1 : Hid (∀ w, Calls Try.prog 18 #[.float .f64 y1, .float .f64 y2] w fun e w' => e = .returned (pr xh xl) ∧ Below w.heap.size w w'))
    (CS2 : Hid (∀ w, Calls Try.prog 18 #[.float .f64 y3, .float .f64 y4] w fun e w' => e = .returned (pr yh yl) ∧ Below w.heap.size w w'))
    (WA : Hid (∀ w, Calls Try.prog 11 #[.float .f64 xh] w (RetNO zA (-1074) w)))
    (WB : Hid (∀ w, Calls Try.prog 11 #[.float .f64 xl] w (RetNO zB (-1074) w)))
    (WC : Hid (∀ w, Calls Try.prog 11 #[.float .f64 yh] w (RetNO zC (-1074) w)))
    (WD : Hid (∀ w, Calls Try.prog 11 #[.float .f64 yl] w (RetNO zD (-1074) w)))
    (CA1 : Hid (∀ w u t, NO w u zA (-1074) → NO w t zB (-1074) → Calls Try.prog 20 #[u, t] w (RetNZ z1 (-1074) w)))
    (CA2 : Hid (∀ w u t, NO w u zC (-1074) → NO w t zD (-1074) → Calls Try.prog 20 #[u, t] w (RetNZ z2 (-1074) w)))
    (CADD : Hid (∀ w, Calls Try.prog 21 #[.agg #[.float .f64 xh, .float .f64 xl], .agg #[.float .f64 yh, .float .f64 yl]] w fun e w' => e = .returned (pr s r) ∧ Below w.heap.size w w'))
    (CMUL : Hid (∀ w, Calls Try.prog 22 #[.agg #[.float .f64 xh, .float .f64 xl], .agg #[.float .f64 yh, .float .f64 yl]] w fun e w' => ∃ p q, e = .returned (pr p q) ∧
      (F = false → Hid (∀ w u, NZ w u z4 (-2148) → Calls Try.prog 23 #[.agg #[.float .f64 p, .float .f64 q], u, .int .i64 98] w fun q w' => q = .returned (.bool true) ∧ Below w.heap.size w w')) ∧ Below w.heap.size w w'))
    (CSUM : Hid (∀ w u t, NZ w u z1 (-1074) → NZ w t z2 (-1074) → Calls Try.prog 20 #[u, t] w (RetNZ z3 (-1074) w)))
    (CWI : Hid (∀ w u, NZ w u z3 (-1074) → Calls Try.prog 23 #[.agg #[.float .f64 s, .float .f64 r], u, .int .i64 100] w fun q w' => q = .returned (.bool true) ∧ Below w.heap.size w w'))
    (CFAR : Hid (∀ w u t, NZ w u z1 (-1074) → NZ w t z2 (-1074) → Calls Try.prog 24 #[u, t] w fun q w' => q = .returned (.bool F) ∧ Below w.heap.size w w'))
    (CPR : F = false → Hid (∀ w u t, NZ w u z1 (-1074) → NZ w t z2 (-1074) → Calls Try.prog 14 #[u, t] w (RetNZ z4 (-2148) w))) :
    Calls Try.prog 4 #[.int .u64 x1, .int .u64 x2, .int .u64 x3, .int .u64 x4] w fun e w' => e = .returned (.bool true) ∧ Below w.heap.size w w' := by
  have CPR' := Lib.hid CPR
  clear CPR
  go_enter Try.func4, Try.ntmps4
  go_wp2_with fail
  refine (HA.out _).mono ?_
  rintro e w1 ⟨rfl, hb⟩
  have B := Lib.hid hb
  clear hb
  go_wp2_with fail
  refine (r1.out _).mono ?_
  rintro e w2 ⟨rfl, hb⟩
  have B' := Lib.hid (B.out.trans (hb.mono B.out.size))
  clear hb B
  have B := B'
  clear B'
  go_wp2_with fail
  refine (r2.out _).mono ?_
  rintro e w2 ⟨rfl, hb⟩
  have B' := Lib.hid (B.out.trans (hb.mono B.out.size))
  clear hb B
  have B := B'
  clear B'
  go_wp2_with fail
  refine (r3.out _).mono ?_
  rintro e w2 ⟨rfl, hb⟩
  have B' := Lib.hid (B.out.trans (hb.mono B.out.size))
  clear hb B
  have B := B'
  clear B'
  go_wp2_with fail
  refine (r4.out _).mono ?_
  rintro e w2 ⟨rfl, hb⟩
  have B' := Lib.hid (B.out.trans (hb.mono B.out.size))
  clear hb B
  have B := B'
  clear B'
  clear r1 r2 r3 r4
  go_wp2_with fail
  refine (b1.out _).mono ?_
  rintro e w3 ⟨rfl, rfl⟩
  go_wp2_with fail
  refine (b2.out _).mono ?_
  rintro e w3 ⟨rfl, rfl⟩
  go_wp2_with fail
  refine (CS1.out _).mono ?_
  rintro e w3 ⟨rfl, hb⟩
  unfold pr
  have B' := Lib.hid (B.out.trans (hb.mono B.out.size))
  clear hb B CS1 b1 b2
  have B := B'
  clear B'
  have P0 : Hid (Blk (w3.alloc (.cells #[.float .f64 xh, .float .f64 xl] 28)) w3.heap.size 28 #[.float .f64 xh, .float .f64 xl]) := Blk.new w3 28 #[.float .f64 xh, .float .f64 xl]
  have BP : Hid (Below w.heap.size w (w3.alloc (.cells #[.float .f64 xh, .float .f64 xl] 28))) := B.out.alloc B.out.size (.cells #[.float .f64 xh, .float .f64 xl] 28)
  clear B
  go_wp2_with fail
  refine (b3.out _).mono ?_
  rintro e w4 ⟨rfl, rfl⟩
  go_wp2_with fail
  refine (b4.out _).mono ?_
  rintro e w4 ⟨rfl, rfl⟩
  go_wp2_with fail
  refine (CS2.out _).mono ?_
  rintro e w4 ⟨rfl, hb⟩
  unfold pr
  have P1 := Lib.hid (P0.out.below hb)
  have B := Lib.hid (BP.out.trans (hb.mono BP.out.size))
  clear hb P0 BP CS2 b3 b4
  go_upto_region 7 with (fail)
  have HM : Hid (LSt w3.heap.size w4.heap.size xh xl yh yl [] w (w4.alloc (.cells #[.float .f64 yh, .float .f64 yl] 28))) := ⟨P1.out.alloc (.cells #[.float .f64 yh, .float .f64 yl] 28), Blk.new w4 28 #[.float .f64 yh, .float .f64 yl], fun x hx => (by cases hx), B.out.alloc B.out.size (.cells #[.float .f64 yh, .float .f64 yl] 28)⟩
  clear P1 B
  generalize w4.alloc (.cells #[.float .f64 yh, .float .f64 yl] 28) = w1 at HM ⊢
  generalize w4.heap.size = Q at *
  generalize w3.heap.size = P at *
  go_cut [11] (fun s wx => Hid (NewAt P Q xh xl yh yl [] z1 w s wx))
  case first =>
    have F0 := Lib.hid HM.out.cp
    have F1 := Lib.hid HM.out.drew.cp
    obtain ⟨x0, x1⟩ := F0.out
    go_region_held3 (fun w' => w'.cell? ⟨P, 0, none⟩ = some (.float .f64 xh) ∧ w'.cell? ⟨P, 1, none⟩ = some (.float .f64 xl)) (first | with_reducible exact F0.out | with_reducible exact alloc_two F0.out | with_reducible exact F1.out | with_reducible exact alloc_two F1.out | with_reducible exact FF1.out | with_reducible exact alloc_two FF1.out | with_reducible exact FF2.out | with_reducible exact alloc_two FF2.out | with_reducible exact FF3.out | with_reducible exact alloc_two FF3.out | with_reducible exact drew_two (alloc_two F0.out) | with_reducible exact st3_two gne FF3.out | with_reducible exact st3_two gne2 FF3.out) (first | (have R := SY2.out; go_at_call 20; (with_reducible refine (CA1.out _ _ _ HU2.out HT2.out).mono ?_); rintro qq v3 ⟨u3, rfl, hu3, hb0⟩; (with_reducible have hb : Below (v2).heap.size (v2) v3 := hb0); have SY3 := Lib.hid (And.intro (LSt.below R.1 hb) (Fresh.below R.2 hb)); have FF3 := Lib.hid SY3.out.1.cp; obtain ⟨n1, a1, k1, c1, e1, rfl⟩ := hu3.form; have HD3 := Lib.hid hu3; obtain ⟨r0, r1, r2, z0, z1, z2⟩ := Res.cells SY3.out.2.1; have gne := SY3.out.2.2.1; have gne2 := SY3.out.2.2.2.1; clear hb hb0 R) | (have R := SN2.out; go_at_call 20; (with_reducible refine (CA1.out _ _ _ (NO.alloc HU2.out _) (NO.alloc HT2.out _)).mono ?_); rintro qq v3 ⟨u3, rfl, hu3, hb0⟩; (with_reducible have hb : Below ((v2.alloc (.cells #[.bool false, .slice none 0 0, .int .i64 0] 32))).heap.size ((v2.alloc (.cells #[.bool false, .slice none 0 0, .int .i64 0] 32))) v3 := hb0); have SY3 := Lib.hid (And.intro (LSt.below (LSt.alloc R _) hb) (LSt.new R (res1 hb))); have FF3 := Lib.hid SY3.out.1.cp; obtain ⟨n1, a1, k1, c1, e1, rfl⟩ := hu3.form; have HD3 := Lib.hid hu3; obtain ⟨r0, r1, r2, z0, z1, z2⟩ := Res.cells SY3.out.2.1; have gne := SY3.out.2.2.1; have gne2 := SY3.out.2.2.2.1; clear hb hb0 R) | (have R := SN2.out; go_at_call 20; (with_reducible refine (CA1.out _ _ _ HU2.out HT2.out).mono ?_); rintro qq v3 ⟨u3, rfl, hu3, hb0⟩; (with_reducible have hb : Below (v2).heap.size (v2) v3 := hb0); have SN3 := Lib.hid (LSt.below R hb); have FF3 := Lib.hid SN3.out.cp; obtain ⟨n1, a1, k1, c1, e1, rfl⟩ := hu3.form; have HD3 := Lib.hid hu3; clear hb hb0 R) | (have R := SY1.out; go_at_call 11; (with_reducible refine (WB.out _).mono ?_); rintro qq v2 ⟨u2, rfl, hu2, hb0⟩; (with_reducible have hb : Below (v1).heap.size (v1) v2 := hb0); have SY2 := Lib.hid (And.intro (LSt.below R.1 hb) (Fresh.below R.2 hb)); have FF2 := Lib.hid SY2.out.1.cp; have HU2 := Lib.hid (NO.below HU1.out hb); have HT2 := Lib.hid hu2; clear hb hb0 R) | (have R := SN1.out; go_at_call 11; (with_reducible refine (WB.out _).mono ?_); rintro qq v2 ⟨u2, rfl, hu2, hb0⟩; (with_reducible have hb : Below ((v1.alloc (.cells #[.bool false, .slice none 0 0, .int .i64 0] 32))).heap.size ((v1.alloc (.cells #[.bool false, .slice none 0 0, .int .i64 0] 32))) v2 := hb0); have SY2 := Lib.hid (And.intro (LSt.below (LSt.alloc R _) hb) (LSt.new R (res1 hb))); have FF2 := Lib.hid SY2.out.1.cp; have HU2 := Lib.hid (NO.below (NO.alloc HU1.out _) hb); have HT2 := Lib.hid hu2; clear hb hb0 R) | (have R := SN1.out; go_at_call 11; (with_reducible refine (WB.out _).mono ?_); rintro qq v2 ⟨u2, rfl, hu2, hb0⟩; (with_reducible have hb : Below (v1).heap.size (v1) v2 := hb0); have SN2 := Lib.hid (LSt.below R hb); have FF2 := Lib.hid SN2.out.cp; have HU2 := Lib.hid (NO.below HU1.out hb); have HT2 := Lib.hid hu2; clear hb hb0 R) | (have R := HM.out; go_at_call 11; (with_reducible refine (WA.out _).mono ?_); rintro qq v1 ⟨u1, rfl, hu1, hb0⟩; (with_reducible have hb : Below (((w1.alloc (.cells #[.bool false, .slice none 0 0, .int .i64 0] 32))).drew).heap.size (((w1.alloc (.cells #[.bool false, .slice none 0 0, .int .i64 0] 32))).drew) v1 := hb0); have SY1 := Lib.hid (And.intro (LSt.below (LSt.drew (LSt.alloc R _)) hb) (LSt.new R (res1d hb))); have FF1 := Lib.hid SY1.out.1.cp; have HU1 := Lib.hid hu1; clear hb hb0 R) | (have R := HM.out; go_at_call 11; (with_reducible refine (WA.out _).mono ?_); rintro qq v1 ⟨u1, rfl, hu1, hb0⟩; (with_reducible have hb : Below ((w1).drew).heap.size ((w1).drew) v1 := hb0); have SN1 := Lib.hid (LSt.below (LSt.drew R) hb); have FF1 := Lib.hid SN1.out.cp; have HU1 := Lib.hid hu1; clear hb hb0 R))
    all_goals go_wp2_with fail
    all_goals go_meet
    all_goals (first | (have K := SY3.out; with_reducible exact lst0 K.1 HD3.out K.2) | (have K := SN3.out; with_reducible exact lst1 K HD3.out))
  case rest =>
    obtain ⟨g, v, rfl, hh⟩ := hcut.out
    have HM' := Lib.hid hh
    clear hcut hh HM WA WB CA1
    have HM := HM'
    clear HM'
    rename_i wc
    go_upto_region 8 with (fail)
    go_cut [12] (fun s wx => Hid (NewAt P Q xh xl yh yl [(g, v, z1)] z2 w s wx))
    case first =>
      have F0 := Lib.hid HM.out.cq
      have F1 := Lib.hid HM.out.drew.cq
      obtain ⟨x0, x1⟩ := F0.out
      go_region_held3 (fun w' => w'.cell? ⟨Q, 0, none⟩ = some (.float .f64 yh) ∧ w'.cell? ⟨Q, 1, none⟩ = some (.float .f64 yl)) (first | with_reducible exact F0.out | with_reducible exact alloc_two F0.out | with_reducible exact F1.out | with_reducible exact alloc_two F1.out | with_reducible exact FF1.out | with_reducible exact alloc_two FF1.out | with_reducible exact FF2.out | with_reducible exact alloc_two FF2.out | with_reducible exact FF3.out | with_reducible exact alloc_two FF3.out | with_reducible exact drew_two (alloc_two F0.out) | with_reducible exact st3_two gne FF3.out | with_reducible exact st3_two gne2 FF3.out) (first | (have R := SY2.out; go_at_call 20; (with_reducible refine (CA2.out _ _ _ HU2.out HT2.out).mono ?_); rintro qq v3 ⟨u3, rfl, hu3, hb0⟩; (with_reducible have hb : Below (v2).heap.size (v2) v3 := hb0); have SY3 := Lib.hid (And.intro (LSt.below R.1 hb) (Fresh.below R.2 hb)); have FF3 := Lib.hid SY3.out.1.cq; obtain ⟨n1, a1, k1, c1, e1, rfl⟩ := hu3.form; have HD3 := Lib.hid hu3; obtain ⟨r0, r1, r2, z0, z1, z2⟩ := Res.cells SY3.out.2.1; have gne := SY3.out.2.2.1; have gne2 := SY3.out.2.2.2.1; clear hb hb0 R) | (have R := SN2.out; go_at_call 20; (with_reducible refine (CA2.out _ _ _ (NO.alloc HU2.out _) (NO.alloc HT2.out _)).mono ?_); rintro qq v3 ⟨u3, rfl, hu3, hb0⟩; (with_reducible have hb : Below ((v2.alloc (.cells #[.bool false, .slice none 0 0, .int .i64 0] 32))).heap.size ((v2.alloc (.cells #[.bool false, .slice none 0 0, .int .i64 0] 32))) v3 := hb0); have SY3 := Lib.hid (And.intro (LSt.below (LSt.alloc R _) hb) (LSt.new R (res1 hb))); have FF3 := Lib.hid SY3.out.1.cq; obtain ⟨n1, a1, k1, c1, e1, rfl⟩ := hu3.form; have HD3 := Lib.hid hu3; obtain ⟨r0, r1, r2, z0, z1, z2⟩ := Res.cells SY3.out.2.1; have gne := SY3.out.2.2.1; have gne2 := SY3.out.2.2.2.1; clear hb hb0 R) | (have R := SN2.out; go_at_call 20; (with_reducible refine (CA2.out _ _ _ HU2.out HT2.out).mono ?_); rintro qq v3 ⟨u3, rfl, hu3, hb0⟩; (with_reducible have hb : Below (v2).heap.size (v2) v3 := hb0); have SN3 := Lib.hid (LSt.below R hb); have FF3 := Lib.hid SN3.out.cq; obtain ⟨n1, a1, k1, c1, e1, rfl⟩ := hu3.form; have HD3 := Lib.hid hu3; clear hb hb0 R) | (have R := SY1.out; go_at_call 11; (with_reducible refine (WD.out _).mono ?_); rintro qq v2 ⟨u2, rfl, hu2, hb0⟩; (with_reducible have hb : Below (v1).heap.size (v1) v2 := hb0); have SY2 := Lib.hid (And.intro (LSt.below R.1 hb) (Fresh.below R.2 hb)); have FF2 := Lib.hid SY2.out.1.cq; have HU2 := Lib.hid (NO.below HU1.out hb); have HT2 := Lib.hid hu2; clear hb hb0 R) | (have R := SN1.out; go_at_call 11; (with_reducible refine (WD.out _).mono ?_); rintro qq v2 ⟨u2, rfl, hu2, hb0⟩; (with_reducible have hb : Below ((v1.alloc (.cells #[.bool false, .slice none 0 0, .int .i64 0] 32))).heap.size ((v1.alloc (.cells #[.bool false, .slice none 0 0, .int .i64 0] 32))) v2 := hb0); have SY2 := Lib.hid (And.intro (LSt.below (LSt.alloc R _) hb) (LSt.new R (res1 hb))); have FF2 := Lib.hid SY2.out.1.cq; have HU2 := Lib.hid (NO.below (NO.alloc HU1.out _) hb); have HT2 := Lib.hid hu2; clear hb hb0 R) | (have R := SN1.out; go_at_call 11; (with_reducible refine (WD.out _).mono ?_); rintro qq v2 ⟨u2, rfl, hu2, hb0⟩; (with_reducible have hb : Below (v1).heap.size (v1) v2 := hb0); have SN2 := Lib.hid (LSt.below R hb); have FF2 := Lib.hid SN2.out.cq; have HU2 := Lib.hid (NO.below HU1.out hb); have HT2 := Lib.hid hu2; clear hb hb0 R) | (have R := HM.out; go_at_call 11; (with_reducible refine (WC.out _).mono ?_); rintro qq v1 ⟨u1, rfl, hu1, hb0⟩; (with_reducible have hb : Below (((wc.alloc (.cells #[.bool false, .slice none 0 0, .int .i64 0] 32))).drew).heap.size (((wc.alloc (.cells #[.bool false, .slice none 0 0, .int .i64 0] 32))).drew) v1 := hb0); have SY1 := Lib.hid (And.intro (LSt.below (LSt.drew (LSt.alloc R _)) hb) (LSt.new R (res1d hb))); have FF1 := Lib.hid SY1.out.1.cq; have HU1 := Lib.hid hu1; clear hb hb0 R) | (have R := HM.out; go_at_call 11; (with_reducible refine (WC.out _).mono ?_); rintro qq v1 ⟨u1, rfl, hu1, hb0⟩; (with_reducible have hb : Below ((wc).drew).heap.size ((wc).drew) v1 := hb0); have SN1 := Lib.hid (LSt.below (LSt.drew R) hb); have FF1 := Lib.hid SN1.out.cq; have HU1 := Lib.hid hu1; clear hb hb0 R))
      all_goals go_wp2_with fail
      all_goals go_meet
      all_goals (first | (have K := SY3.out; with_reducible exact lst0 K.1 HD3.out K.2) | (have K := SN3.out; with_reducible exact lst1 K HD3.out))
    case rest =>
      obtain ⟨h, t, rfl, hh⟩ := hcut.out
      have HM' := Lib.hid hh
      clear hcut hh HM WC WD CA2
      have HM := HM'
      clear HM'
      rename_i wd
      have p0 := HM.out.p.at 0 (.float .f64 xh) rfl
      have p1 := HM.out.p.at 1 (.float .f64 xl) rfl
      have q0 := HM.out.q.at 0 (.float .f64 yh) rfl
      have q1 := HM.out.q.at 1 (.float .f64 yl) rfl
      go_wp2_with fail
      refine (CADD.out _).mono ?_
      rintro e w5 ⟨rfl, hb⟩
      unfold pr
      have H5 := Lib.hid ((HM.out.below hb).alloc (.cells #[.float .f64 s, .float .f64 r] 28))
      have S5 := Lib.hid (Blk.new w5 28 #[.float .f64 s, .float .f64 r])
      clear hb HM p0 p1 q0 q1 CADD
      have p0 := H5.out.p.at 0 (.float .f64 xh) rfl
      have p1 := H5.out.p.at 1 (.float .f64 xl) rfl
      have q0 := H5.out.q.at 0 (.float .f64 yh) rfl
      have q1 := H5.out.q.at 1 (.float .f64 yl) rfl
      go_wp2_with fail
      refine (CMUL.out _).mono ?_
      rintro e w6 ⟨p, q, rfl, HOK, hb⟩
      unfold pr
      have HK := Lib.hid HOK
      have H6 := Lib.hid ((H5.out.below hb).alloc (.cells #[.float .f64 p, .float .f64 q] 28))
      have S6 := Lib.hid ((S5.out.below hb).alloc (.cells #[.float .f64 p, .float .f64 q] 28))
      have T6 := Lib.hid (Blk.new w6 28 #[.float .f64 p, .float .f64 q])
      clear hb H5 S5 p0 p1 q0 q1 CMUL HOK
      go_upto_region 11 with (fail)
      generalize w6.alloc (.cells #[.float .f64 p, .float .f64 q] 28) = w7 at H6 S6 T6 ⊢
      generalize w6.heap.size = T at *
      generalize w5.heap.size = S at *
      obtain ⟨n1, a1, k1, c1, e1, he1, bx1, nx1⟩ := H6.out.n (g, v, z1) (List.mem_cons_of_mem _ (List.mem_singleton.2 rfl))
      obtain ⟨n2, a2, k2, c2, e2, he2, bx2, nx2⟩ := H6.out.n (h, t, z2) (List.mem_cons_self ..)
      dsimp only at he1 he2 bx1 bx2 nx1 nx2
      subst he1 he2
      have E0 : Hid (EndM S T g h s r p q n1 n2 a1 a2 k1 k2 c1 c2 e1 e2 z1 z2 w w7) := ⟨S6.out, T6.out, bx1, bx2, nx1, nx2, H6.out.b⟩
      clear H6 S6 T6 bx1 bx2 nx1 nx2
      have F0 := Lib.hid E0.out.cells
      have EE0 := Lib.hid E0.out.drew
      have F1 := Lib.hid EE0.out.cells
      obtain ⟨x0, x1, x2, x3, x4, x5, x6, x7, x8, x9⟩ := F0.out
      rcases F with _ | _
      · have CP := CPR'.out rfl
        have CW := HK.out rfl
        clear CPR' HK
        go_region_held3 (fun w' => w'.cell? ⟨S, 0, none⟩ = some (.float .f64 s) ∧ w'.cell? ⟨S, 1, none⟩ = some (.float .f64 r) ∧ w'.cell? ⟨T, 0, none⟩ = some (.float .f64 p) ∧ w'.cell? ⟨T, 1, none⟩ = some (.float .f64 q) ∧ w'.cell? ⟨g, 0, none⟩ = some (.bool n1) ∧ w'.cell? ⟨g, 1, none⟩ = some (.slice a1 k1 c1) ∧ w'.cell? ⟨g, 2, none⟩ = some (.int .i64 e1) ∧ w'.cell? ⟨h, 0, none⟩ = some (.bool n2) ∧ w'.cell? ⟨h, 1, none⟩ = some (.slice a2 k2 c2) ∧ w'.cell? ⟨h, 2, none⟩ = some (.int .i64 e2)) (first | with_reducible exact F0.out | with_reducible exact F1.out | with_reducible exact FF1.out | with_reducible exact FF2.out | with_reducible exact FF3.out | with_reducible exact FF4.out | with_reducible exact FF5.out) (first | (have RR := EE4.out; go_at_call 23; (with_reducible refine (CW.out _ _ HU4.out).mono ?_); rintro qq v5 ⟨rfl, hb⟩; have EE5 := Lib.hid (RR.below hb); have FF5 := Lib.hid EE5.out.cells; clear hb RR) | (have RR := EE3.out; go_at_call 14; (with_reducible refine (CP.out _ _ _ RR.u RR.v).mono ?_); rintro qq v4 ⟨u4, rfl, hu4, hb⟩; obtain ⟨m4, d4, l4, f4, j4, rfl⟩ := hu4.form; have EE4 := Lib.hid (RR.below hb); have FF4 := Lib.hid EE4.out.cells; have HU4 := Lib.hid hu4; clear hb RR hu4) | (have RR := EE2.out; go_at_call 24; (with_reducible refine (CFAR.out _ _ _ RR.u RR.v).mono ?_); rintro qq v3 ⟨rfl, hb⟩; have EE3 := Lib.hid (RR.below hb); have FF3 := Lib.hid EE3.out.cells; clear hb RR) | (have RR := EE1.out; go_at_call 23; (with_reducible refine (CWI.out _ _ HU1.out).mono ?_); rintro qq v2 ⟨rfl, hb⟩; have EE2 := Lib.hid (RR.below hb); have FF2 := Lib.hid EE2.out.cells; clear hb RR) | (have RR := EE0.out; go_at_call 20; (with_reducible refine (CSUM.out _ _ _ RR.u RR.v).mono ?_); rintro qq v1 ⟨u1, rfl, hu1, hb⟩; obtain ⟨m1, d1, l1, f1, j1, rfl⟩ := hu1.form; have EE1 := Lib.hid (RR.below hb); have FF1 := Lib.hid EE1.out.cells; have HU1 := Lib.hid hu1; clear hb RR hu1))
        all_goals go_wp2_with fail
        all_goals go_ret
        all_goals exact ⟨rfl, EE5.out.b⟩
      · clear CPR' HK
        refine wp_region_held_drew (S := fun w' => w'.cell? ⟨S, 0, none⟩ = some (.float .f64 s) ∧ w'.cell? ⟨S, 1, none⟩ = some (.float .f64 r) ∧ w'.cell? ⟨T, 0, none⟩ = some (.float .f64 p) ∧ w'.cell? ⟨T, 1, none⟩ = some (.float .f64 q) ∧ w'.cell? ⟨g, 0, none⟩ = some (.bool n1) ∧ w'.cell? ⟨g, 1, none⟩ = some (.slice a1 k1 c1) ∧ w'.cell? ⟨g, 2, none⟩ = some (.int .i64 e1) ∧ w'.cell? ⟨h, 0, none⟩ = some (.bool n2) ∧ w'.cell? ⟨h, 1, none⟩ = some (.slice a2 k2 c2) ∧ w'.cell? ⟨h, 2, none⟩ = some (.int .i64 e2)) (by kernel_rfl) F1.out (fun hHeld => ?_)
        refine wpAnyH_take (i := 0) (oi := ⟨some 69, _, _, _, _, _⟩) (v := ?_) rfl (by kernel_rfl) (by kernel_rfl) (by kernel_rfl) (fun _ _ _ h => h) (Or.inl ⟨by rfl, ?_⟩) (by assumption) ?_
        rotate_left
        · (intro w hSw; (try dsimp only at hSw); go_simp); try with_reducible rfl
        try simp only [Act.put, List.setIfInBounds_toArray, List.set_cons_zero, List.set_cons_succ]
        refine wpAnyH_take (i := 1) (oi := ⟨some 70, _, _, _, _, _⟩) (v := ?_) rfl (by kernel_rfl) (by kernel_rfl) (by kernel_rfl) (fun _ _ _ h => h) (Or.inl ⟨by rfl, ?_⟩) (by assumption) ?_
        rotate_left
        · (intro w hSw; (try dsimp only at hSw); go_simp); try with_reducible rfl
        try simp only [Act.put, List.setIfInBounds_toArray, List.set_cons_zero, List.set_cons_succ]
        refine wpAnyH_take (i := 2) (oi := ⟨some 71, _, _, _, _, _⟩) (v := ?_) rfl (by kernel_rfl) (by kernel_rfl) (by kernel_rfl) (fun _ _ _ h => h) (Or.inl ⟨by rfl, ?_⟩) (by assumption) ?_
        rotate_left
        · (intro w hSw; (try dsimp only at hSw); go_simp); try with_reducible rfl
        try simp only [Act.put, List.setIfInBounds_toArray, List.set_cons_zero, List.set_cons_succ]
        refine wpAnyH_ready (rs := [3]) (by kernel_rfl) (by simp) ?_
        refine AllReadyH.cons (o := _) rfl (fun K hK => ?_) AllReadyH.nil
        go_simp
        (have RR := EE0.out; go_at_call 20; (with_reducible refine (CSUM.out _ _ _ RR.u RR.v).mono ?_); rintro qq v1 ⟨u1, rfl, hu1, hb⟩; obtain ⟨m1, d1, l1, f1, j1, rfl⟩ := hu1.form; have EE1 := Lib.hid (RR.below hb); have FF1 := Lib.hid EE1.out.cells; have HU1 := Lib.hid hu1; clear hb RR hu1)
        go_wp2_with fail
        refine hK.out _ _ FF1.out (fun hHeld' => ?_)
        clear hK K hHeld
        have hHeld := hHeld'
        clear hHeld'
        try simp only [Act.put, List.setIfInBounds_toArray, List.set_cons_zero, List.set_cons_succ]
        refine wpAnyH_ready (rs := [4]) (by kernel_rfl) (by simp) ?_
        refine AllReadyH.cons (o := _) rfl (fun K hK => ?_) AllReadyH.nil
        go_simp
        (have RR := EE1.out; go_at_call 23; (with_reducible refine (CWI.out _ _ HU1.out).mono ?_); rintro qq v2 ⟨rfl, hb⟩; have EE2 := Lib.hid (RR.below hb); have FF2 := Lib.hid EE2.out.cells; clear hb RR)
        go_wp2_with fail
        refine hK.out _ _ FF2.out (fun hHeld' => ?_)
        clear hK K hHeld
        have hHeld := hHeld'
        clear hHeld'
        try simp only [Act.put, List.setIfInBounds_toArray, List.set_cons_zero, List.set_cons_succ]
        refine wpAnyH_take (i := 5) (oi := ⟨some 74, _, _, _, _, _⟩) (v := ?_) rfl (by kernel_rfl) (by kernel_rfl) (by kernel_rfl) (fun _ _ _ h => h) (Or.inl ⟨by rfl, ?_⟩) (by assumption) ?_
        rotate_left
        · (intro w hSw; (try dsimp only at hSw); go_simp); try with_reducible rfl
        try simp only [Act.put, List.setIfInBounds_toArray, List.set_cons_zero, List.set_cons_succ]
        refine wpAnyH_take (i := 6) (oi := ⟨some 75, _, _, _, _, _⟩) (v := ?_) rfl (by kernel_rfl) (by kernel_rfl) (by kernel_rfl) (fun _ _ _ h => h) (Or.inl ⟨by rfl, ?_⟩) (by assumption) ?_
        rotate_left
        · (intro w hSw; (try dsimp only at hSw); go_simp); try with_reducible rfl
        try simp only [Act.put, List.setIfInBounds_toArray, List.set_cons_zero, List.set_cons_succ]
        refine wpAnyH_take (i := 7) (oi := ⟨some 76, _, _, _, _, _⟩) (v := ?_) rfl (by kernel_rfl) (by kernel_rfl) (by kernel_rfl) (fun _ _ _ h => h) (Or.inl ⟨by rfl, ?_⟩) (by assumption) ?_
        rotate_left
        · (intro w hSw; (try dsimp only at hSw); go_simp); try with_reducible rfl
        try simp only [Act.put, List.setIfInBounds_toArray, List.set_cons_zero, List.set_cons_succ]
        refine wpAnyH_ready (rs := [8]) (by kernel_rfl) (by simp) ?_
        refine AllReadyH.cons (o := _) rfl (fun K hK => ?_) AllReadyH.nil
        go_simp
        (have RR := EE2.out; go_at_call 24; (with_reducible refine (CFAR.out _ _ _ RR.u RR.v).mono ?_); rintro qq v3 ⟨rfl, hb⟩; have EE3 := Lib.hid (RR.below hb); have FF3 := Lib.hid EE3.out.cells; clear hb RR)
        go_wp2_with fail
        refine hK.out _ _ FF3.out (fun hHeld' => ?_)
        clear hK K hHeld
        have hHeld := hHeld'
        clear hHeld'
        try simp only [Act.put, List.setIfInBounds_toArray, List.set_cons_zero, List.set_cons_succ]
        refine wpAnyH_take (i := 9) (oi := ⟨some 78, _, _, _, _, _⟩) (v := ?_) rfl (by kernel_rfl) (by kernel_rfl) (by kernel_rfl) (fun _ _ _ h => h) (Or.inl ⟨by rfl, ?_⟩) (by assumption) ?_
        rotate_left
        · (intro w hSw; (try dsimp only at hSw); go_simp); try with_reducible rfl
        try simp only [Act.put, List.setIfInBounds_toArray, List.set_cons_zero, List.set_cons_succ]
        refine wpAnyH_take (i := 10) (oi := ⟨some 79, _, _, _, _, _⟩) (v := undef) rfl (by kernel_rfl) (by kernel_rfl) (by kernel_rfl) (fun _ _ _ h => h) (Or.inr ⟨by rfl, rfl⟩) (by assumption) ?_
        try simp only [Act.put, List.setIfInBounds_toArray, List.set_cons_zero, List.set_cons_succ]
        refine wpAnyH_take (i := 11) (oi := ⟨some 80, _, _, _, _, _⟩) (v := undef) rfl (by kernel_rfl) (by kernel_rfl) (by kernel_rfl) (fun _ _ _ h => h) (Or.inr ⟨by rfl, rfl⟩) (by assumption) ?_
        try simp only [Act.put, List.setIfInBounds_toArray, List.set_cons_zero, List.set_cons_succ]
        refine wpAnyH_take (i := 12) (oi := ⟨some 81, _, _, _, _, _⟩) (v := undef) rfl (by kernel_rfl) (by kernel_rfl) (by kernel_rfl) (fun _ _ _ h => h) (Or.inr ⟨by rfl, rfl⟩) (by assumption) ?_
        try simp only [Act.put, List.setIfInBounds_toArray, List.set_cons_zero, List.set_cons_succ]
        refine wpAnyH_take (i := 13) (oi := ⟨some 82, _, _, _, _, _⟩) (v := undef) rfl (by kernel_rfl) (by kernel_rfl) (by kernel_rfl) (fun _ _ _ h => h) (Or.inr ⟨by rfl, rfl⟩) (by assumption) ?_
        try simp only [Act.put, List.setIfInBounds_toArray, List.set_cons_zero, List.set_cons_succ]
        refine wpAnyH_take (i := 14) (oi := ⟨some 83, _, _, _, _, _⟩) (v := undef) rfl (by kernel_rfl) (by kernel_rfl) (by kernel_rfl) (fun _ _ _ h => h) (Or.inr ⟨by rfl, rfl⟩) (by assumption) ?_
        try simp only [Act.put, List.setIfInBounds_toArray, List.set_cons_zero, List.set_cons_succ]
        refine wpAnyH_take (i := 15) (oi := ⟨some 84, _, _, _, _, _⟩) (v := ?_) rfl (by kernel_rfl) (by kernel_rfl) (by kernel_rfl) (fun _ _ _ h => h) (Or.inl ⟨by rfl, ?_⟩) (by assumption) ?_
        rotate_left
        · (intro w hSw; (try dsimp only at hSw); go_simp); try with_reducible rfl
        try simp only [Act.put, List.setIfInBounds_toArray, List.set_cons_zero, List.set_cons_succ]
        refine wpAnyH_take (i := 16) (oi := ⟨some 85, _, _, _, _, _⟩) (v := ?_) rfl (by kernel_rfl) (by kernel_rfl) (by kernel_rfl) (fun _ _ _ h => h) (Or.inl ⟨by rfl, ?_⟩) (by assumption) ?_
        rotate_left
        · (intro w hSw; (try dsimp only at hSw); go_simp); try with_reducible rfl
        try simp only [Act.put, List.setIfInBounds_toArray, List.set_cons_zero, List.set_cons_succ]
        refine wpAnyH_take (i := 17) (oi := ⟨some 8, _, _, _, _, _⟩) (v := ?_) rfl (by kernel_rfl) (by kernel_rfl) (by kernel_rfl) (fun _ _ _ h => h) (Or.inl ⟨by rfl, ?_⟩) (by assumption) ?_
        rotate_left
        · (intro w hSw; (try dsimp only at hSw); go_simp); try with_reducible rfl
        try simp only [Act.put, List.setIfInBounds_toArray, List.set_cons_zero, List.set_cons_succ]
        refine wpAnyH_done (by kernel_rfl) ?_ _
        all_goals go_wp2_with fail
        all_goals go_ret
        all_goals exact ⟨rfl, EE3.out.b⟩

end Go.Proofs.Ytbknkcfnhfolpaa.ddPairs
