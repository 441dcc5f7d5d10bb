/-
  DdProds, walked where both numbers are safe.
-/
import Derived.Test.YtbknkcfnhfolpaaHalf
set_option exponentiation.threshold 9000
namespace Go.Proofs.Ytbknkcfnhfolpaa.ddProds
open Go.ChangeShapes Go.WideShapes Go.ChangeAt Go.RowKit Rn

def HalvesAt (P h l : Nat) (zh zl : Int) (w : World) (s t : Value) (wx : World) : Prop := ∃ g k, s = .pointer (some ⟨g, 0, none⟩) ∧ t = .pointer (some ⟨k, 0, none⟩) ∧ Halves P h l zh zl w wx g k

theorem mkHalves {P h l : Nat} {zh zl : Int} {w wx : World} {g k : Nat} (H : Halves P h l zh zl w wx g k) : Hid (HalvesAt P h l zh zl w (.pointer (some ⟨g, 0, none⟩)) (.pointer (some ⟨k, 0, none⟩)) wx) := ⟨g, k, rfl, rfl, H⟩
theorem NO.dg {w : World} {ng : Bool} {s : Value} {e z lo : Int} (h : NO w (.agg #[.bool ng, s, .int .i64 e]) z lo) : ∃ m, Dg w s m ∧ lo ≤ e ∧ e ≤ 2200 ∧ nv ng m e = z ∧ (m = 0 ∨ m % 2 = 1) := by
  obtain ⟨n', m, e', ⟨s', he, hd⟩, h1, h2, h3, h4⟩ := h
  injection he with he
  simp at he
  obtain ⟨rfl, rfl, rfl⟩ := he
  exact ⟨m, hd, h1, h2, h3, h4⟩

/-- the halves' memory, opened -/
structure HalfM (P g k h l : Nat) (n1 n2 : Bool) (s1 s2 : Value) (e1 e2 : Int) (m1 m2 : Nat) (w wr : World) : Prop where
  p : Blk wr P 28 #[.float .f64 h, .float .f64 l]
  b1 : Blk wr g 32 #[.bool n1, s1, .int .i64 e1]
  b2 : Blk wr k 32 #[.bool n2, s2, .int .i64 e2]
  d1 : Dg wr s1 m1
  d2 : Dg wr s2 m2
  b : Below w.heap.size w wr
theorem HalfM.below {P g k h l : Nat} {n1 n2 : Bool} {s1 s2 : Value} {e1 e2 : Int} {m1 m2 : Nat} {w wr w' : World} (H : HalfM P g k h l n1 n2 s1 s2 e1 e2 m1 m2 w wr) (hb : Below wr.heap.size wr w') : HalfM P g k h l n1 n2 s1 s2 e1 e2 m1 m2 w w' :=
  ⟨H.p.below hb, H.b1.below hb, H.b2.below hb, H.d1.below hb, H.d2.below hb, H.b.trans (hb.mono H.b.size)⟩
theorem HalfM.drew {P g k h l : Nat} {n1 n2 : Bool} {s1 s2 : Value} {e1 e2 : Int} {m1 m2 : Nat} {w wr : World} (H : HalfM P g k h l n1 n2 s1 s2 e1 e2 m1 m2 w wr) : HalfM P g k h l n1 n2 s1 s2 e1 e2 m1 m2 w wr.drew :=
  ⟨H.p, H.b1, H.b2, H.d1, H.d2, below_drewN' H.b 1⟩
theorem HalfM.cells {P g k h l : Nat} {n1 n2 : Bool} {s1 s2 : Value} {e1 e2 : Int} {m1 m2 : Nat} {w wr : World} (H : HalfM P g k h l n1 n2 s1 s2 e1 e2 m1 m2 w wr) :
    wr.cell? ⟨P, 0, none⟩ = some (.float .f64 h) ∧ wr.cell? ⟨P, 1, none⟩ = some (.float .f64 l) ∧ wr.cell? ⟨g, 1, none⟩ = some s1 ∧ wr.cell? ⟨k, 1, none⟩ = some s2 :=
  ⟨H.p.at 0 (.float .f64 h) rfl, H.p.at 1 (.float .f64 l) rfl, H.b1.at 1 s1 rfl, H.b2.at 1 s2 rfl⟩

theorem res1d {V V' : World} (h : Below ((V.alloc (.cells #[.bool false, .slice none 0 0, .int .i64 0] 32)).drew).heap.size ((V.alloc (.cells #[.bool false, .slice none 0 0, .int .i64 0] 32)).drew) V') : Res V' V.heap.size :=
  Res.below (V := (V.alloc (.cells #[.bool false, .slice none 0 0, .int .i64 0] 32)).drew) (Blk.new V 32 _) h
theorem res2d {V V' : World} (h : Below (((V.alloc (.cells #[.bool false, .slice none 0 0, .int .i64 0] 32)).alloc (.cells #[.bool false, .slice none 0 0, .int .i64 0] 32)).drew).heap.size (((V.alloc (.cells #[.bool false, .slice none 0 0, .int .i64 0] 32)).alloc (.cells #[.bool false, .slice none 0 0, .int .i64 0] 32)).drew) V') : Res V' V.heap.size ∧ Res V' (V.heap.size + 1) := by
  refine ⟨Res.below (V := ((V.alloc (.cells #[.bool false, .slice none 0 0, .int .i64 0] 32)).alloc (.cells #[.bool false, .slice none 0 0, .int .i64 0] 32)).drew) ((Blk.new V 32 _).alloc _) h, Res.below (V := ((V.alloc (.cells #[.bool false, .slice none 0 0, .int .i64 0] 32)).alloc (.cells #[.bool false, .slice none 0 0, .int .i64 0] 32)).drew) ?_ h⟩
  have := Blk.new (V.alloc (.cells #[.bool false, .slice none 0 0, .int .i64 0] 32)) 32 #[.bool false, .slice none 0 0, .int .i64 0]
  rwa [show (V.alloc (.cells #[.bool false, .slice none 0 0, .int .i64 0] 32)).heap.size = V.heap.size + 1 by simp] at this
theorem st3_two {V : World} {P R : Nat} {u v a b c : Value} (h : R ≠ P) (H : V.cell? ⟨P, 0, none⟩ = some u ∧ V.cell? ⟨P, 1, none⟩ = some v) :
    (((V.setCell ⟨R, 0, none⟩ a).setCell ⟨R, 1, none⟩ b).setCell ⟨R, 2, none⟩ c).cell? ⟨P, 0, none⟩ = some u ∧ (((V.setCell ⟨R, 0, none⟩ a).setCell ⟨R, 1, none⟩ b).setCell ⟨R, 2, none⟩ c).cell? ⟨P, 1, none⟩ = some v :=
  ⟨st3_far h H.1, st3_far h H.2⟩
theorem drew_two {V : World} {P : Nat} {u v : Value} (H : V.cell? ⟨P, 0, none⟩ = some u ∧ V.cell? ⟨P, 1, none⟩ = some v) : V.drew.cell? ⟨P, 0, none⟩ = some u ∧ V.drew.cell? ⟨P, 1, none⟩ = some v := H
theorem alloc_two {V : World} {P : Nat} {u v : Value} {o : Obj} (H : V.cell? ⟨P, 0, none⟩ = some u ∧ V.cell? ⟨P, 1, none⟩ = some v) :
    (V.alloc o).cell? ⟨P, 0, none⟩ = some u ∧ (V.alloc o).cell? ⟨P, 1, none⟩ = some v :=
  ⟨(World.cell?_alloc_lt _ _ _ (cell_lt H.1)).trans H.1, (World.cell?_alloc_lt _ _ _ (cell_lt H.2)).trans H.2⟩

set_option maxRecDepth 100000 in
set_option maxHeartbeats 16000000 in
theorem walk_yes (x y : Nat) (h l : Nat) (zh zl zx zy zp T : Int) (w : World)
    (HA : Hid (∀ w, Calls Try.prog 7 #[] w fun e w' => e = .returned (.bool true) ∧ Below w.heap.size w w'))
    (r1 : Hid (∀ w, Calls Try.prog 8 #[.int .u64 x] w fun e w' => e = .returned (.bool true) ∧ Below w.heap.size w w'))
    (r2 : Hid (∀ w, Calls Try.prog 8 #[.int .u64 y] w fun e w' => e = .returned (.bool true) ∧ Below w.heap.size w w'))
    (CS : Hid (∀ w, Calls Try.prog 10 #[.float .f64 x] w fun e w' => e = .returned (pr h l) ∧ Below w.heap.size w w'))
    (WH : Hid (∀ w, Calls Try.prog 11 #[.float .f64 h] w (RetNO zh (-1074) w)))
    (WL : Hid (∀ w, Calls Try.prog 11 #[.float .f64 l] w (RetNO zl (-1074) w)))
    (WX : Hid (∀ w, Calls Try.prog 11 #[.float .f64 x] w (RetNO zx (-1074) w)))
    (WY : Hid (∀ w, Calls Try.prog 11 #[.float .f64 y] w (RetNO zy (-1074) w)))
    (CWH : Hid (∀ w u, NO w u zx (-1074) → Calls Try.prog 12 #[.agg #[.float .f64 h, .float .f64 l], u] w fun q w' => q = .returned (.bool true) ∧ Below w.heap.size w w'))
    (HB1 : Hid (∀ ng m e, -1074 ≤ e → nv ng m e = zh → (m = 0 ∨ m % 2 = 1) → bl m ≤ 26))
    (HB2 : Hid (∀ ng m e, -1074 ≤ e → nv ng m e = zl → (m = 0 ∨ m % 2 = 1) → bl m ≤ 26))
    (CM : Hid (∀ w u t, NO w u zx (-1074) → NO w t zy (-1074) → Calls Try.prog 14 #[u, t] w (RetNZ zp (-2148) w)))
    (HT : zp ≠ 0 → Hid (∀ w u, NZ w u zp (-2148) → Calls Try.prog 15 #[u] w fun q w' => q = .returned (.int .i64 T) ∧ Below w.heap.size w w'))
    (HPR : (zp = 0 ∨ (-900 ≤ T ∧ T ≤ 1000)) → Hid (∃ s r, (∀ w, Calls Try.prog 16 #[.float .f64 x, .float .f64 y] w fun e w' => e = .returned (pr s r) ∧ Below w.heap.size w w') ∧
      (∀ w u, NZ w u zp (-2148) → Calls Try.prog 17 #[.float .f64 s, u] w fun q w' => q = .returned (.bool true) ∧ Below w.heap.size w w') ∧
      (∀ w u, NZ w u zp (-2148) → Calls Try.prog 12 #[.agg #[.float .f64 s, .float .f64 r], u] w fun q w' => q = .returned (.bool true) ∧ Below w.heap.size w w'))) :
    Calls Try.prog 3 #[.int .u64 x, .int .u64 y] w fun e w' => e = .returned (.bool true) ∧ Below w.heap.size w w' := by
  have HT' := Lib.hid HT
  have HPR' := Lib.hid HPR
  clear HT HPR
  go_enter Try.func3, Try.ntmps3
  go_wp2_with fail
  refine (HA.out _).mono ?_
  rintro e w1 ⟨rfl, hb⟩
  have B := Lib.hid hb
  clear hb
  go_wp2_with fail
  refine (r1.out _).mono ?_
  rintro e w2 ⟨rfl, hb⟩
  have B' := Lib.hid (B.out.trans (hb.mono B.out.size))
  clear hb B
  have B := B'
  clear B'
  go_wp2_with fail
  refine (r2.out _).mono ?_
  rintro e w2 ⟨rfl, hb⟩
  have B' := Lib.hid (B.out.trans (hb.mono B.out.size))
  clear hb B
  have B := B'
  clear B'
  go_wp2_with fail
  refine (CS.out _).mono ?_
  rintro e w2 ⟨rfl, hb⟩
  unfold pr
  have B' := Lib.hid (B.out.trans (hb.mono B.out.size))
  clear hb B
  have B := B'
  clear B'
  go_upto_region 7 with (fail)
  have I0 : Hid (Inv w2.heap.size h l w (w2.alloc (.cells #[.float .f64 h, .float .f64 l] 28))) := ⟨Blk.new w2 28 #[.float .f64 h, .float .f64 l], B.out.alloc B.out.size (.cells #[.float .f64 h, .float .f64 l] 28)⟩
  have hP : w.heap.size ≤ w2.heap.size := B.out.size
  generalize w2.alloc (.cells #[.float .f64 h, .float .f64 l] 28) = w3 at I0 ⊢
  have hlt : w2.heap.size < w3.heap.size := I0.out.p.lt
  clear B
  generalize w2.heap.size = P at *
  go_cut [8, 9] (fun s t wx => Hid (HalvesAt P h l zh zl w s t wx))
  case first =>
    have F0 := Lib.hid I0.out.cells
    have F1 := Lib.hid I0.out.drew.cells
    obtain ⟨x0, x1⟩ := F0.out
    go_region_held3 (fun w' => w'.cell? ⟨P, 0, none⟩ = some (.float .f64 h) ∧ w'.cell? ⟨P, 1, none⟩ = some (.float .f64 l)) (first | with_reducible exact F0.out | with_reducible exact drew_two (alloc_two F0.out) | with_reducible exact drew_two (alloc_two (alloc_two F0.out)) | with_reducible exact alloc_two F0.out | with_reducible exact alloc_two (alloc_two F0.out) | with_reducible exact F1.out | with_reducible exact alloc_two F1.out | with_reducible exact alloc_two (alloc_two F1.out) | with_reducible exact FA.out | with_reducible exact alloc_two FA.out | with_reducible exact alloc_two (alloc_two FA.out) | with_reducible exact FB.out | with_reducible exact alloc_two FB.out | with_reducible exact alloc_two (alloc_two FB.out) | with_reducible exact st3_two (by omega) FB.out | with_reducible exact st3_two (by omega) (st3_two (by omega) FB.out) | with_reducible exact alloc_two (st3_two (by omega) FB.out)) (first | (go_at_call 11; (with_reducible refine (WL.out _).mono ?_); rintro q w5 ⟨t, rfl, ht, hb0⟩; obtain ⟨n2, a2, k2, c2, e2, rfl⟩ := ht.form; have HT := Lib.hid ht; have R := R2A.out; (with_reducible have hb : Below (w4).heap.size (w4) w5 := hb0); have IB := Lib.hid (Inv.below IA.out hb); have FB := Lib.hid IB.out.cells; have HU5 := Lib.hid (NO.below HU.out hb); have hz5 : w4.heap.size + 0 ≤ w5.heap.size := (by have h5 := hb.size; (try simp at h5); omega); have RB1 := Lib.hid (Res.below R.1 hb); have RB2 := Lib.hid (Res.below R.2 hb); clear R; have KK0 := Lib.hid True.intro; obtain ⟨r0, r1, r2, z0, z1, z2⟩ := Res.cells RB1.out; obtain ⟨s0, s1, s2, y0, y1, y2⟩ := Res.cells RB2.out; have l1 := Blk.lt RB1.out; have l2 := Blk.lt RB2.out; clear hb hb0) | (go_at_call 11; (with_reducible refine (WL.out _).mono ?_); rintro q w5 ⟨t, rfl, ht, hb0⟩; obtain ⟨n2, a2, k2, c2, e2, rfl⟩ := ht.form; have HT := Lib.hid ht; have R := R1A.out; (with_reducible have hb : Below ((w4.alloc (.cells #[.bool false, .slice none 0 0, .int .i64 0] 32))).heap.size ((w4.alloc (.cells #[.bool false, .slice none 0 0, .int .i64 0] 32))) w5 := hb0); have IB := Lib.hid (Inv.below (Inv.alloc IA.out _) hb); have FB := Lib.hid IB.out.cells; have HU5 := Lib.hid (NO.below (NO.alloc HU.out _) hb); have hz5 : w4.heap.size + 1 ≤ w5.heap.size := (by have h5 := hb.size; (try simp at h5); omega); have RB1 := Lib.hid (Res.below (Res.alloc R _) hb); have RB2 := Lib.hid (res1 hb); clear R; have n1 : w3.heap.size ≠ w4.heap.size := (by omega); have n2 := n1.symm; have KK0 := Lib.hid True.intro; obtain ⟨r0, r1, r2, z0, z1, z2⟩ := Res.cells RB1.out; obtain ⟨s0, s1, s2, y0, y1, y2⟩ := Res.cells RB2.out; have l1 := Blk.lt RB1.out; have l2 := Blk.lt RB2.out; clear hb hb0) | (go_at_call 11; (with_reducible refine (WL.out _).mono ?_); rintro q w5 ⟨t, rfl, ht, hb0⟩; obtain ⟨n2, a2, k2, c2, e2, rfl⟩ := ht.form; have HT := Lib.hid ht; have R := R1A.out; (with_reducible have hb : Below (w4).heap.size (w4) w5 := hb0); have IB := Lib.hid (Inv.below IA.out hb); have FB := Lib.hid IB.out.cells; have HU5 := Lib.hid (NO.below HU.out hb); have hz5 : w4.heap.size + 0 ≤ w5.heap.size := (by have h5 := hb.size; (try simp at h5); omega); have RB1 := Lib.hid (Res.below R hb); clear R; have KK1 := Lib.hid True.intro; obtain ⟨r0, r1, r2, z0, z1, z2⟩ := Res.cells RB1.out; have l1 := Blk.lt RB1.out; have l3 := Nat.ne_of_lt l1; have l4 := l3.symm; clear hb hb0) | (go_at_call 11; (with_reducible refine (WL.out _).mono ?_); rintro q w5 ⟨t, rfl, ht, hb0⟩; obtain ⟨n2, a2, k2, c2, e2, rfl⟩ := ht.form; have HT := Lib.hid ht; have R := R0A.out; clear R; (with_reducible have hb : Below (((w4.alloc (.cells #[.bool false, .slice none 0 0, .int .i64 0] 32)).alloc (.cells #[.bool false, .slice none 0 0, .int .i64 0] 32))).heap.size (((w4.alloc (.cells #[.bool false, .slice none 0 0, .int .i64 0] 32)).alloc (.cells #[.bool false, .slice none 0 0, .int .i64 0] 32))) w5 := hb0); have IB := Lib.hid (Inv.below (Inv.alloc (Inv.alloc IA.out _) _) hb); have FB := Lib.hid IB.out.cells; have HU5 := Lib.hid (NO.below (NO.alloc (NO.alloc HU.out _) _) hb); have hz5 : w4.heap.size + 2 ≤ w5.heap.size := (by have h5 := hb.size; (try simp at h5); omega); have RB := res2 hb; have RB1 := Lib.hid RB.1; have RB2 := Lib.hid RB.2; clear RB; have KK0 := Lib.hid True.intro; obtain ⟨r0, r1, r2, z0, z1, z2⟩ := Res.cells RB1.out; obtain ⟨s0, s1, s2, y0, y1, y2⟩ := Res.cells RB2.out; have l1 := Blk.lt RB1.out; have l2 := Blk.lt RB2.out; clear hb hb0) | (go_at_call 11; (with_reducible refine (WL.out _).mono ?_); rintro q w5 ⟨t, rfl, ht, hb0⟩; obtain ⟨n2, a2, k2, c2, e2, rfl⟩ := ht.form; have HT := Lib.hid ht; have R := R0A.out; clear R; (with_reducible have hb : Below ((w4.alloc (.cells #[.bool false, .slice none 0 0, .int .i64 0] 32))).heap.size ((w4.alloc (.cells #[.bool false, .slice none 0 0, .int .i64 0] 32))) w5 := hb0); have IB := Lib.hid (Inv.below (Inv.alloc IA.out _) hb); have FB := Lib.hid IB.out.cells; have HU5 := Lib.hid (NO.below (NO.alloc HU.out _) hb); have hz5 : w4.heap.size + 1 ≤ w5.heap.size := (by have h5 := hb.size; (try simp at h5); omega); have RB1 := Lib.hid (res1 hb); have KK1 := Lib.hid True.intro; obtain ⟨r0, r1, r2, z0, z1, z2⟩ := Res.cells RB1.out; have l1 := Blk.lt RB1.out; have l3 := Nat.ne_of_lt l1; have l4 := l3.symm; clear hb hb0) | (go_at_call 11; (with_reducible refine (WL.out _).mono ?_); rintro q w5 ⟨t, rfl, ht, hb0⟩; obtain ⟨n2, a2, k2, c2, e2, rfl⟩ := ht.form; have HT := Lib.hid ht; have R := R0A.out; clear R; (with_reducible have hb : Below (w4).heap.size (w4) w5 := hb0); have IB := Lib.hid (Inv.below IA.out hb); have FB := Lib.hid IB.out.cells; have HU5 := Lib.hid (NO.below HU.out hb); have hz5 : w4.heap.size + 0 ≤ w5.heap.size := (by have h5 := hb.size; (try simp at h5); omega); have KK2 := Lib.hid True.intro; clear hb hb0) | (go_at_call 11; (with_reducible refine (WH.out _).mono ?_); rintro q w4 ⟨u, rfl, hu, hb0⟩; obtain ⟨n1, a1, k1, c1, e1, rfl⟩ := hu.form; have HU := Lib.hid hu; (with_reducible have hb : Below ((((w3.alloc (.cells #[.bool false, .slice none 0 0, .int .i64 0] 32)).alloc (.cells #[.bool false, .slice none 0 0, .int .i64 0] 32))).drew).heap.size ((((w3.alloc (.cells #[.bool false, .slice none 0 0, .int .i64 0] 32)).alloc (.cells #[.bool false, .slice none 0 0, .int .i64 0] 32))).drew) w4 := hb0); have IA := Lib.hid (Inv.below (Inv.drew (Inv.alloc (Inv.alloc I0.out _) _)) hb); have FA := Lib.hid IA.out.cells; have hz4 : w3.heap.size + 2 ≤ w4.heap.size := (by have h5 := hb.size; (try simp at h5); omega); have R2A := Lib.hid (res2d hb); clear hb hb0) | (go_at_call 11; (with_reducible refine (WH.out _).mono ?_); rintro q w4 ⟨u, rfl, hu, hb0⟩; obtain ⟨n1, a1, k1, c1, e1, rfl⟩ := hu.form; have HU := Lib.hid hu; (with_reducible have hb : Below (((w3.alloc (.cells #[.bool false, .slice none 0 0, .int .i64 0] 32))).drew).heap.size (((w3.alloc (.cells #[.bool false, .slice none 0 0, .int .i64 0] 32))).drew) w4 := hb0); have IA := Lib.hid (Inv.below (Inv.drew (Inv.alloc I0.out _)) hb); have FA := Lib.hid IA.out.cells; have hz4 : w3.heap.size + 1 ≤ w4.heap.size := (by have h5 := hb.size; (try simp at h5); omega); have R1A := Lib.hid (res1d hb); clear hb hb0) | (go_at_call 11; (with_reducible refine (WH.out _).mono ?_); rintro q w4 ⟨u, rfl, hu, hb0⟩; obtain ⟨n1, a1, k1, c1, e1, rfl⟩ := hu.form; have HU := Lib.hid hu; (with_reducible have hb : Below ((w3).drew).heap.size ((w3).drew) w4 := hb0); have IA := Lib.hid (Inv.below (Inv.drew I0.out) hb); have FA := Lib.hid IA.out.cells; have hz4 : w3.heap.size + 0 ≤ w4.heap.size := (by have h5 := hb.size; (try simp at h5); omega); have R0A := Lib.hid True.intro; clear hb hb0))
    all_goals go_wp2_with fail
    all_goals go_meet
    all_goals (first | (have K := KK0.out; clear K; first | with_reducible exact mkHalves (half0 IB.out HU5.out HT.out RB1.out RB2.out (by omega) (by omega) (by omega) (by omega) (by omega)) | with_reducible exact mkHalves (half0 IB.out HU5.out HT.out RB2.out RB1.out (by omega) (by omega) (by omega) (by omega) (by omega))) | (have K := KK1.out; clear K; first | with_reducible exact mkHalves (half1 IB.out HU5.out HT.out RB1.out (by omega) (by omega)) | with_reducible exact mkHalves (half1b IB.out HU5.out HT.out RB1.out (by omega) (by omega))) | (have K := KK2.out; clear K; first | with_reducible exact mkHalves (half2 IB.out HU5.out HT.out) | with_reducible exact mkHalves (half2b IB.out HU5.out HT.out)))
  case rest =>
    obtain ⟨g, k, rfl, rfl, hh⟩ := hcut.out
    obtain ⟨n1, s1, e1, b1, o1⟩ := hh.hi
    obtain ⟨n2, s2, e2, b2, o2⟩ := hh.lo
    obtain ⟨m1, d1, q1, -, q2, q3⟩ := NO.dg o1
    obtain ⟨m2, d2, p1, -, p2, p3⟩ := NO.dg o2
    have hb1 := HB1.out _ _ _ q1 q2 q3
    have hb2 := HB2.out _ _ _ p1 p2 p3
    have hs1 : Sm m1 := Nat.le_trans hb1 (by decide)
    have hs2 : Sm m2 := Nat.le_trans hb2 (by decide)
    obtain ⟨a1, k1, c1, rfl, -⟩ := d1.form
    obtain ⟨a2, k2, c2, rfl, -⟩ := d2.form
    have ST : Hid (HalfM P g k h l n1 n2 (.slice a1 k1 c1) (.slice a2 k2 c2) e1 e2 m1 m2 w wc) := ⟨hh.p, b1, b2, d1, d2, hh.b⟩
    have BT1 : Hid (∀ w, Dg w (.slice a1 k1 c1) m1 → Calls Try.prog 13 #[.slice a1 k1 c1] w fun q w' => q = .returned (.int .i64 (bl m1 : Nat)) ∧ w = w') := fun w h => bits_any h hs1
    have BT2 : Hid (∀ w, Dg w (.slice a2 k2 c2) m2 → Calls Try.prog 13 #[.slice a2 k2 c2] w fun q w' => q = .returned (.int .i64 (bl m2 : Nat)) ∧ w = w') := fun w h => bits_any h hs2
    generalize bl m1 = t1 at *
    generalize bl m2 = t2 at *
    clear hcut hh b1 b2 o1 o2 d1 d2 q1 q2 q3 p1 p2 p3 hs1 hs2 HB1 HB2 WH WL I0
    have F0 := Lib.hid ST.out.cells
    have F1 := Lib.hid ST.out.drew.cells
    obtain ⟨x0, x1, x2, x3⟩ := F0.out
    have tt1 : decide ((26 : Int) < (t1 : Int)) = false := decide_eq_false (by omega)
    have tt2 : decide ((26 : Int) < (t2 : Int)) = false := decide_eq_false (by omega)
    have tt3 : decide (26 < t1) = false := decide_eq_false (by omega)
    have tt4 : decide (26 < t2) = false := decide_eq_false (by omega)
    go_upto_region 8 with (fail)
    go_cut [50] (fun s wx => s = .bool false ∧ Hid (Below w.heap.size w wx))
    case first =>
      go_region_held3 (fun w' => w'.cell? ⟨P, 0, none⟩ = some (.float .f64 h) ∧ w'.cell? ⟨P, 1, none⟩ = some (.float .f64 l) ∧ w'.cell? ⟨g, 1, none⟩ = some (.slice a1 k1 c1) ∧ w'.cell? ⟨k, 1, none⟩ = some (.slice a2 k2 c2)) (first | with_reducible exact F0.out | with_reducible exact F1.out | with_reducible exact FA.out | with_reducible exact FB.out) (first | (go_at_call 11; (with_reducible refine (WX.out _).mono ?_); rintro q w4 ⟨u, rfl, hu, hb⟩; have SA := Lib.hid (ST.out.drew.below hb); have FA := Lib.hid SA.out.cells; have HU := Lib.hid hu) | (go_at_call 12; (with_reducible refine (CWH.out _ _ HU.out).mono ?_); rintro q w5 ⟨rfl, hb⟩; have SB := Lib.hid (SA.out.below hb); have FB := Lib.hid SB.out.cells) | (go_at_call 13; (with_reducible refine (BT1.out _ SB.out.d1).mono ?_); rintro q w6 ⟨rfl, rfl⟩) | (go_at_call 13; (with_reducible refine (BT2.out _ SB.out.d2).mono ?_); rintro q w6 ⟨rfl, rfl⟩))
      all_goals go_wp2_with fail
      all_goals go_meet
      all_goals exact ⟨rfl, SB.out.b⟩
    case rest =>
      obtain ⟨rfl, B⟩ := hcut
      clear ST F0 F1 x0 x1 x2 x3 BT1 BT2 CWH tt1 tt2 tt3 tt4
      go_wp2_with fail
      refine (WX.out _).mono ?_
      rintro e w2 ⟨u1, rfl, hu1, hb⟩
      have B' := Lib.hid (B.out.trans (hb.mono B.out.size))
      clear hb B
      have B := B'
      clear B'
      go_wp2_with fail
      refine (WY.out _).mono ?_
      rintro e w3 ⟨u2, rfl, hu2, hb⟩
      have hu1' := hu1.below hb
      have B' := Lib.hid (B.out.trans (hb.mono B.out.size))
      clear hb B
      have B := B'
      clear B'
      go_wp2_with fail
      refine (CM.out _ _ _ hu1' hu2).mono ?_
      rintro e w4 ⟨u, rfl, hu, hb⟩
      have B' := Lib.hid (B.out.trans (hb.mono B.out.size))
      clear hb B
      have B := B'
      clear B'
      clear hu1 hu1' hu2 WX WY CM
      obtain ⟨ng, a, kk, c, ee, rfl, hk⟩ := hu.len
      have HU := Lib.hid (hu.alloc (.cells #[.bool ng, .slice a kk c, .int .i64 ee] 32))
      have BB := Lib.hid (B.out.alloc B.out.size (.cells #[.bool ng, .slice a kk c, .int .i64 ee] 32))
      have HN := Lib.hid (Blk.new w4 32 #[.bool ng, .slice a kk c, .int .i64 ee])
      clear hu B
      by_cases hz : zp = 0
      · obtain rfl : kk = 0 := hk.1 hz
        obtain ⟨s, r, CP, CN1, CW1⟩ := (HPR'.out (.inl hz)).out
        have HS := Lib.hid CP
        have CN := Lib.hid CN1
        have CW := Lib.hid CW1
        clear hz hk CP CN1 CW1 HT' HPR'
        go_wp2_with fail
        refine (HS.out _).mono ?_
        rintro e w7 ⟨rfl, hb⟩
        unfold pr
        have HU5 := Lib.hid ((HU.out.below hb).alloc (.cells #[.float .f64 s, .float .f64 r] 28))
        have B5 := Lib.hid ((BB.out.trans (hb.mono BB.out.size)).alloc (BB.out.trans (hb.mono BB.out.size)).size (.cells #[.float .f64 s, .float .f64 r] 28))
        have HN5 := Lib.hid (Blk.alloc (HN.out.below hb) (.cells #[.float .f64 s, .float .f64 r] 28))
        have HP5 := Lib.hid (Blk.new w7 28 #[.float .f64 s, .float .f64 r])
        clear hb HU BB HN HS
        have n0 := (HN5.out).at 0 (.bool ng) rfl
        have n1 := (HN5.out).at 1 (.slice a 0 c) rfl
        have n2 := (HN5.out).at 2 (.int .i64 ee) rfl
        go_wp2_with fail
        refine (CN.out _ _ HU5.out).mono ?_
        rintro e w8 ⟨rfl, hb⟩
        have HU6 := Lib.hid (HU5.out.below hb)
        have B6 := Lib.hid (B5.out.trans (hb.mono B5.out.size))
        have HN6 := Lib.hid (HN5.out.below hb)
        have HP6 := Lib.hid (HP5.out.below hb)
        clear hb HU5 B5 HN5 HP5 n0 n1 n2
        have n0 := (HN6.out).at 0 (.bool ng) rfl
        have n1 := (HN6.out).at 1 (.slice a 0 c) rfl
        have n2 := (HN6.out).at 2 (.int .i64 ee) rfl
        have p0 := (HP6.out).at 0 (.float .f64 s) rfl
        have p1 := (HP6.out).at 1 (.float .f64 r) rfl
        go_wp2_with fail
        refine (CW.out _ _ HU6.out).mono ?_
        rintro e w9 ⟨rfl, hb⟩
        have B7 := Lib.hid (B6.out.trans (hb.mono B6.out.size))
        clear hb HU6 B6 HN6 HP6 n0 n1 n2 p0 p1 CN CW
        go_wp2
        go_ret
        exact ⟨rfl, B7.out⟩
      · have hk0 : kk ≠ 0 := fun h => hz (hk.2 h)
        have e1' : decide ((0 : Int) < (kk : Int)) = true := decide_eq_true (by omega)
        have e2' : decide (0 < kk) = true := decide_eq_true (by omega)
        have hkp : 0 < kk := by omega
        have CT := HT'.out hz
        clear hk hk0 hz HT'
        go_wp2_with fail
        refine (CT.out _ _ HU.out).mono ?_
        rintro e w5 ⟨rfl, hb⟩
        have HU' := Lib.hid (HU.out.below hb)
        have BB' := Lib.hid (BB.out.trans (hb.mono BB.out.size))
        have HN' := Lib.hid (HN.out.below hb)
        clear hb HU BB HN
        have n0 := (HN'.out).at 0 (.bool ng) rfl
        have n1 := (HN'.out).at 1 (.slice a kk c) rfl
        have n2 := (HN'.out).at 2 (.int .i64 ee) rfl
        by_cases ht1 : T < -900
        · have HBB := Lib.hid BB'.out
          go_wp2
          go_ret
          exact ⟨rfl, HBB.out⟩
        · have ht1' : decide (T < -900) = false := decide_eq_false ht1
          go_wp2_with fail
          refine (CT.out _ _ HU'.out).mono ?_
          rintro e w6 ⟨rfl, hb⟩
          have HU := Lib.hid (HU'.out.below hb)
          have BB := Lib.hid (BB'.out.trans (hb.mono BB'.out.size))
          have HN := Lib.hid (HN'.out.below hb)
          clear hb HU' BB' HN' n0 n1 n2 CT
          by_cases ht2 : 1000 < T
          · go_wp2
            go_ret
            exact ⟨rfl, BB.out⟩
          · have ht2' : decide (1000 < T) = false := decide_eq_false ht2
            obtain ⟨s, r, CP, CN1, CW1⟩ := (HPR'.out (.inr ⟨by omega, by omega⟩)).out
            have HS := Lib.hid CP
            have CN := Lib.hid CN1
            have CW := Lib.hid CW1
            clear CP CN1 CW1 HPR'
            go_wp2_with fail
            refine (HS.out _).mono ?_
            rintro e w7 ⟨rfl, hb⟩
            unfold pr
            have HU5 := Lib.hid ((HU.out.below hb).alloc (.cells #[.float .f64 s, .float .f64 r] 28))
            have B5 := Lib.hid ((BB.out.trans (hb.mono BB.out.size)).alloc (BB.out.trans (hb.mono BB.out.size)).size (.cells #[.float .f64 s, .float .f64 r] 28))
            have HN5 := Lib.hid (Blk.alloc (HN.out.below hb) (.cells #[.float .f64 s, .float .f64 r] 28))
            have HP5 := Lib.hid (Blk.new w7 28 #[.float .f64 s, .float .f64 r])
            clear hb HU BB HN HS
            have n0 := (HN5.out).at 0 (.bool ng) rfl
            have n1 := (HN5.out).at 1 (.slice a kk c) rfl
            have n2 := (HN5.out).at 2 (.int .i64 ee) rfl
            go_wp2_with fail
            refine (CN.out _ _ HU5.out).mono ?_
            rintro e w8 ⟨rfl, hb⟩
            have HU6 := Lib.hid (HU5.out.below hb)
            have B6 := Lib.hid (B5.out.trans (hb.mono B5.out.size))
            have HN6 := Lib.hid (HN5.out.below hb)
            have HP6 := Lib.hid (HP5.out.below hb)
            clear hb HU5 B5 HN5 HP5 n0 n1 n2
            have n0 := (HN6.out).at 0 (.bool ng) rfl
            have n1 := (HN6.out).at 1 (.slice a kk c) rfl
            have n2 := (HN6.out).at 2 (.int .i64 ee) rfl
            have p0 := (HP6.out).at 0 (.float .f64 s) rfl
            have p1 := (HP6.out).at 1 (.float .f64 r) rfl
            go_wp2_with fail
            refine (CW.out _ _ HU6.out).mono ?_
            rintro e w9 ⟨rfl, hb⟩
            have B7 := Lib.hid (B6.out.trans (hb.mono B6.out.size))
            clear hb HU6 B6 HN6 HP6 n0 n1 n2 p0 p1 CN CW
            go_wp2
            go_ret
            exact ⟨rfl, B7.out⟩

end Go.Proofs.Ytbknkcfnhfolpaa.ddProds
