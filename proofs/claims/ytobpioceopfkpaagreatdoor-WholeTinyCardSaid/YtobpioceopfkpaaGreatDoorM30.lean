/-
  next: Break; decide: right, signed, Round. Printed by gen_ec.py.
-/
import Derived.Test.YtobpioceopfkpaaGreatDoorM11
import Derived.Test.YtobpioceopfkpaaGreatDoorM08
import Derived.Test.YtobpioceopfkpaaGreatDoorM18
import Derived.Test.YtobpioceopfkpaaGreatDoorM22
import Derived.Test.YtobpioceopfkpaaGreatDoorM24
namespace Go.Proofs.YtobpioceopfkpaaGreatDoor
open Go.RowKit

set_option maxRecDepth 100000 in
set_option maxHeartbeats 4000000 in
theorem Break_r {w : World} {u : Value} {d : Dn} (hu : Ry w u d) (sd : Sd d) (h0 : (bareN d).m ≠ 0) (ht : -100000 ≤ topN (bareN d) ∧ topN (bareN d) ≤ 1023) (hE : (bareN d).e < max (topN (bareN d) - 52) (-1074) - 1) :
    Calls Tryz.prog 119 #[u] w fun e w' => e = .returned (.bool false) ∧ Below w.heap.size w w' := by
  have CA := Lib.hid (fun w (h : Ry w u d) => Bare_s h sd)
  obtain ⟨a1, k1, c1, rfl⟩ := hu.form
  generalize bareN d = D at *
  have CT := Lib.hid (fun w u (h : Cy w u D) => Top_d h.ry)
  generalize topN D = t at *
  obtain ⟨n, m, e⟩ := D
  simp only at h0 hE CT
  have eg : decide (m ≠ 0) = true := decide_eq_true h0
  rw [eg] at CT
  obtain ⟨un, hun⟩ : ∃ un, un = t - 52 := ⟨_, rfl⟩
  obtain ⟨q, hq⟩ : ∃ q, q = max un (-1074) := ⟨_, rfl⟩
  obtain ⟨q1, hq1⟩ : ∃ q1, q1 = q - 1 := ⟨_, rfl⟩
  have z1 : decide ((1023 : Int) < t) = false := decide_eq_false (by omega)
  have r1 : IntKind.i64.wrap (t - 52) = un := by rw [hun]; exact IntWalk.i64_in _ (by omega)
  have r2 : max un (-1074) = q := hq.symm
  have r3 : IntKind.i64.wrap (q - 1) = q1 := by rw [hq1]; exact IntWalk.i64_in _ (by omega)
  have z2 : decide (q1 ≤ e) = false := decide_eq_false (by rw [hq1, hq, hun]; omega)
  have HUU := Lib.hid hu
  clear hu sd ht hE h0 eg hun hq hq1
  go_enter Tryz.func119, Tryz.ntmps119
  have F0 := Lib.hid (Fx.one w 42 #[.bool d.neg, .slice a1 k1 c1, .int .i64 d.e] rfl)
  have X0 := Lib.hid (HUU.out.alloc (.cells #[.bool d.neg, .slice a1 k1 c1, .int .i64 d.e] 42))
  clear HUU
  go_upto_region 1 with (fail)
  generalize World.alloc _ _ = w0 at F0 X0 ⊢
  have c0_0 := F0.out.c3 0 rfl
  go_wp2_with fail
  clear c0_0
  refine (CA.out _ X0.out).mono ?_
  rintro q w1 ⟨u, rfl, hu, hb⟩
  have F1 := Lib.hid (F0.out.call hb)
  have X1 := Lib.hid (X0.out.below hb)
  clear F0 X0
  have U1 := Lib.hid (hu)
  clear hb
  have c0_1 := F1.out.c3 0 rfl
  clear X1
  obtain ⟨a3, k3, c3, rfl⟩ := U1.out.fm
  go_upto_region 2 with (fail)
  clear c0_1
  obtain ⟨f, p⟩ := F1.out.s3 0 rfl (.bool n) (.slice a3 k3 c3) (.int .i64 e) rfl rfl rfl
  generalize (World.setCell (World.setCell (World.setCell _ _ _) _ _) _ _) = W at f p ⊢
  have F2 := Lib.hid (f)
  have U2 := Lib.hid (U1.out.kp p)
  clear F1 U1
  clear f p
  simp only [List.set_cons_zero] at F2
  have c0_2 := F2.out.c3 0 rfl
  go_wp2_with fail
  clear c0_2
  refine (CT.out _ _ U2.out).mono ?_
  rintro q w3 ⟨rfl, hb⟩
  have F3 := Lib.hid (F2.out.call hb)
  have U3 := Lib.hid (U2.out.below hb)
  clear F2 U2
  clear hb
  have c0_3 := F3.out.c3 0 rfl
  go_wp2
  go_ret
  exact ⟨rfl, F3.out.b⟩

set_option maxRecDepth 100000 in
set_option maxHeartbeats 4000000 in
theorem Dright_r {w : World} {u : Value} {i : In} (hu : Iv w u i) (s1 : Sd i.lo) (s2 : Sd i.hi) (hc : CmpD i.lo i.hi ≤ 0) (hs : 0 < signN i.lo) (z : Int) (hz : 0 ≤ z ∧ z ≤ 3) : Calls Tryz.prog 95 #[u, .int .i64 z] w fun e w' => e = .returned (.bool true) ∧ Below w.heap.size w w' := by
  have CR := Lib.hid (fun w u (h : Iv w u i) => Right_r h s1 s2)
  have e1 : decide (CmpD i.lo i.hi ≤ 0) = true := decide_eq_true hc
  rw [e1] at CR
  obtain ⟨⟨n, m, e⟩, ⟨n', m', e'⟩⟩ := i
  have CS := Lib.hid (fun w u (h : Cy w u ⟨n, m, e⟩) => Sign_d h.ry)
  simp only at hs
  generalize signN ⟨n, m, e⟩ = sg at *
  have t1 : decide (0 < sg) = true := decide_eq_true hs
  have t2 : decide ((0 : Int) ≤ z) = true := decide_eq_true hz.1
  have t3 : decide (z ≤ 3) = true := decide_eq_true hz.2
  obtain ⟨a1, k1, c1, a2, k2, c2, rfl, hx, hy⟩ := hu.fm
  have HX := Lib.hid hu
  have HY := Lib.hid hx
  clear hu hx hy s1 s2 hc hs hz e1
  go_enter Tryz.func95, Tryz.ntmps95
  have F0 := Lib.hid (Fx.one w 92 #[.bool n, .slice a1 k1 c1, .int .i64 e, .bool n', .slice a2 k2 c2, .int .i64 e'] rfl)
  have X0 := Lib.hid (HX.out.alloc (.cells #[.bool n, .slice a1 k1 c1, .int .i64 e, .bool n', .slice a2 k2 c2, .int .i64 e'] 92))
  have Y0 := Lib.hid (HY.out.alloc (.cells #[.bool n, .slice a1 k1 c1, .int .i64 e, .bool n', .slice a2 k2 c2, .int .i64 e'] 92))
  clear HX HY
  go_upto_region 1 with (fail)
  generalize World.alloc _ _ = w0 at F0 X0 Y0 ⊢
  have c0_0 := F0.out.c6 0 rfl
  go_wp2_with fail
  clear c0_0
  refine (CR.out _ _ X0.out).mono ?_
  rintro q w1 ⟨rfl, hb⟩
  have F1 := Lib.hid (F0.out.call hb)
  have X1 := Lib.hid (X0.out.below hb)
  have Y1 := Lib.hid (Y0.out.below hb)
  clear F0 X0 Y0
  clear hb
  have c0_1 := F1.out.c6 0 rfl
  go_wp2_with fail
  clear c0_1
  refine (CS.out _ _ Y1.out).mono ?_
  rintro q w2 ⟨rfl, hb⟩
  have F2 := Lib.hid (F1.out.call hb)
  have X2 := Lib.hid (X1.out.below hb)
  have Y2 := Lib.hid (Y1.out.below hb)
  clear F1 X1 Y1
  clear hb
  have c0_2 := F2.out.c6 0 rfl
  go_wp2
  go_ret
  exact ⟨rfl, F2.out.b⟩

set_option maxRecDepth 100000 in
set_option maxHeartbeats 4000000 in
theorem Signed_r {w : World} {u : Value} {d : Dn} (hu : Cy w u d) : Calls Tryz.prog 97 #[u, .bool false] w (RetC d w) := by
  obtain ⟨n, m, e⟩ := d
  obtain ⟨a1, k1, c1, rfl⟩ := hu.fm
  have HX := Lib.hid hu
  clear hu
  go_enter Tryz.func97, Tryz.ntmps97
  have F0 := Lib.hid (Fx.two w 42 #[.bool n, .slice a1 k1 c1, .int .i64 e] 42 #[.bool false, .slice none 0 0, .int .i64 0] rfl rfl)
  have X0 := Lib.hid ((HX.out.alloc (.cells #[.bool n, .slice a1 k1 c1, .int .i64 e] 42)).alloc (.cells #[.bool false, .slice none 0 0, .int .i64 0] 42))
  clear HX
  go_upto_region 1 with (fail)
  generalize World.alloc (World.alloc _ _) _ = w0 at F0 X0 ⊢
  have c0_0 := F0.out.c3 0 rfl
  have c1_0 := F0.out.c3 1 rfl
  go_wp2
  obtain ⟨f0, p0⟩ := F0.out.s3 1 rfl (.bool n) (.slice a1 k1 c1) (.int .i64 e) rfl rfl rfl
  have p := p0
  have f := f0
  clear f0 p0
  generalize (World.setCell (World.setCell (World.setCell _ _ _) _ _) _ _) = W at f p ⊢
  have g1 := f.c3 1 rfl
  refine bodyPost_ret (v := .agg #[.bool n, .slice a1 k1 c1, .int .i64 e]) (by simp [results, Tryz.results97, go_sem, g1]) rfl ?_
  exact ⟨_, rfl, X0.out.kp p, f.b⟩

set_option maxRecDepth 100000 in
set_option maxHeartbeats 4000000 in
theorem Round_r {w : World} {u : Value} {i : In} (hu : Iv w u i) (s1 : Sd i.lo) (s2 : Sd i.hi) (hc : CmpD i.lo i.hi ≤ 0) (hs : 0 < signN i.lo) (z : Int) (hz : 0 ≤ z ∧ z ≤ 3) {B f : Int}
    (b1 : ∀ w u, Cy w u i.lo → Calls Tryz.prog 119 #[u] w fun e w' => e = .returned (.bool false) ∧ Below w.heap.size w w')
    (b2 : ∀ w u, Cy w u i.hi → Calls Tryz.prog 119 #[u] w fun e w' => e = .returned (.bool false) ∧ Below w.heap.size w w')
    (t1 : ∀ w u, Cy w u i.lo → Calls Tryz.prog 40 #[u, .bool false, .int .i64 z] w fun e w' => e = .returned (.tuple #[.int .u64 B, .int .u8 f, .int .i64 0]) ∧ Below w.heap.size w w')
    (t2 : ∀ w u, Cy w u i.hi → Calls Tryz.prog 40 #[u, .bool false, .int .i64 z] w fun e w' => e = .returned (.tuple #[.int .u64 B, .int .u8 f, .int .i64 0]) ∧ Below w.heap.size w w') :
    Calls Tryz.prog 94 #[u, .bool false, .int .i64 z] w fun e w' => e = .returned (.tuple #[.int .u64 B, .int .u8 f, .bool true]) ∧ Below w.heap.size w w' := by
  have CR := Lib.hid (fun w u (h : Iv w u i) => Dright_r h s1 s2 hc hs z hz)
  obtain ⟨⟨n, m, e⟩, ⟨n', m', e'⟩⟩ := i
  simp only at b1 b2 t1 t2
  have B1 := Lib.hid b1
  have B2 := Lib.hid b2
  have T1 := Lib.hid t1
  have T2 := Lib.hid t2
  obtain ⟨a1, k1, c1, a2, k2, c2, rfl, hx, hy⟩ := hu.fm
  have HX := Lib.hid hu
  have HY := Lib.hid hx
  have HZ := Lib.hid hy
  clear hu hx hy s1 s2 hc hs hz b1 b2 t1 t2
  go_enter Tryz.func94, Tryz.ntmps94
  have F0 := Lib.hid (Fx.one w 92 #[.bool n, .slice a1 k1 c1, .int .i64 e, .bool n', .slice a2 k2 c2, .int .i64 e'] rfl)
  have X0 := Lib.hid (HX.out.alloc (.cells #[.bool n, .slice a1 k1 c1, .int .i64 e, .bool n', .slice a2 k2 c2, .int .i64 e'] 92))
  have Y0 := Lib.hid (HY.out.alloc (.cells #[.bool n, .slice a1 k1 c1, .int .i64 e, .bool n', .slice a2 k2 c2, .int .i64 e'] 92))
  have Z0 := Lib.hid (HZ.out.alloc (.cells #[.bool n, .slice a1 k1 c1, .int .i64 e, .bool n', .slice a2 k2 c2, .int .i64 e'] 92))
  clear HX HY HZ
  go_upto_region 1 with (fail)
  generalize World.alloc _ _ = w0 at F0 X0 Y0 Z0 ⊢
  have c0_0 := F0.out.c6 0 rfl
  go_wp2_with fail
  clear c0_0
  refine (CR.out _ _ X0.out).mono ?_
  rintro q w1 ⟨rfl, hb⟩
  have F1 := Lib.hid (F0.out.call hb)
  have X1 := Lib.hid (X0.out.below hb)
  have Y1 := Lib.hid (Y0.out.below hb)
  have Z1 := Lib.hid (Z0.out.below hb)
  clear F0 X0 Y0 Z0
  clear hb
  have c0_1 := F1.out.c6 0 rfl
  go_wp2_with fail
  clear c0_1
  refine (B1.out _ _ Y1.out).mono ?_
  rintro q w2 ⟨rfl, hb⟩
  have F2 := Lib.hid (F1.out.call hb)
  have X2 := Lib.hid (X1.out.below hb)
  have Y2 := Lib.hid (Y1.out.below hb)
  have Z2 := Lib.hid (Z1.out.below hb)
  clear F1 X1 Y1 Z1
  clear hb
  have c0_2 := F2.out.c6 0 rfl
  go_wp2_with fail
  clear c0_2
  refine (B2.out _ _ Z2.out).mono ?_
  rintro q w3 ⟨rfl, hb⟩
  have F3 := Lib.hid (F2.out.call hb)
  have X3 := Lib.hid (X2.out.below hb)
  have Y3 := Lib.hid (Y2.out.below hb)
  have Z3 := Lib.hid (Z2.out.below hb)
  clear F2 X2 Y2 Z2
  clear hb
  have c0_3 := F3.out.c6 0 rfl
  go_wp2_with fail
  clear c0_3
  refine (Signed_r Y3.out).mono ?_
  rintro q w4 ⟨u, rfl, hu, hb⟩
  have F4 := Lib.hid (F3.out.call hb)
  have X4 := Lib.hid (X3.out.below hb)
  have Y4 := Lib.hid (Y3.out.below hb)
  have Z4 := Lib.hid (Z3.out.below hb)
  clear F3 X3 Y3 Z3
  have U4 := Lib.hid (hu)
  clear hb
  have c0_4 := F4.out.c6 0 rfl
  obtain ⟨a3, k3, c3, rfl⟩ := U4.out.fm
  go_wp2_with fail
  clear c0_4
  refine (T1.out _ _ U4.out).mono ?_
  rintro q w5 ⟨rfl, hb⟩
  have F5 := Lib.hid (F4.out.call hb)
  have X5 := Lib.hid (X4.out.below hb)
  have Y5 := Lib.hid (Y4.out.below hb)
  have Z5 := Lib.hid (Z4.out.below hb)
  have U5 := Lib.hid (U4.out.below hb)
  clear F4 X4 Y4 Z4 U4
  clear hb
  have c0_5 := F5.out.c6 0 rfl
  go_wp2_with fail
  clear c0_5
  refine (Signed_r Z5.out).mono ?_
  rintro q w6 ⟨u, rfl, hu, hb⟩
  have F6 := Lib.hid (F5.out.call hb)
  have X6 := Lib.hid (X5.out.below hb)
  have Y6 := Lib.hid (Y5.out.below hb)
  have Z6 := Lib.hid (Z5.out.below hb)
  have U6 := Lib.hid (U5.out.below hb)
  clear F5 X5 Y5 Z5 U5
  have V6 := Lib.hid (hu)
  clear hb
  have c0_6 := F6.out.c6 0 rfl
  obtain ⟨a4, k4, c4, rfl⟩ := V6.out.fm
  go_wp2_with fail
  clear c0_6
  refine (T2.out _ _ V6.out).mono ?_
  rintro q w7 ⟨rfl, hb⟩
  have F7 := Lib.hid (F6.out.call hb)
  have X7 := Lib.hid (X6.out.below hb)
  have Y7 := Lib.hid (Y6.out.below hb)
  have Z7 := Lib.hid (Z6.out.below hb)
  have U7 := Lib.hid (U6.out.below hb)
  have V7 := Lib.hid (V6.out.below hb)
  clear F6 X6 Y6 Z6 U6 V6
  clear hb
  have c0_7 := F7.out.c6 0 rfl
  go_wp2
  refine bodyPost_ret (v := .tuple #[.int .u64 B, .int .u8 f, .bool true]) (by simp [results, Tryz.results94, go_sem]) rfl ?_
  exact ⟨rfl, F7.out.b⟩

end Go.Proofs.YtobpioceopfkpaaGreatDoor

/-
  core: try, where it is open. Printed by gen_ee.py.
-/
namespace Go.Proofs.YtobpioceopfkpaaGreatDoor
open Go.RowKit

/-- an answer with its interval -/
def RetAns (B : Int) (w : World) (e : Ending) (w' : World) : Prop := ∃ (n1 : Bool) (s1 : Option Addr) (l1 d1 : Nat) (e1 : Int) (n2 : Bool) (s2 : Option Addr) (l2 d2 : Nat) (e2 : Int),
  e = .returned (.tuple #[.agg #[.int .u64 B, .int .u8 1, .int .i64 0, .bool n1, .slice s1 l1 d1, .int .i64 e1, .bool n2, .slice s2 l2 d2, .int .i64 e2], .bool true]) ∧ Below w.heap.size w w'

set_option maxRecDepth 100000 in
set_option maxHeartbeats 4000000 in
theorem try_open {w : World} {u : Value} {x y : Dn} {z tt sg B : Int} {Z I : In} (hu : Ak w u x y z tt)
    (cl : ∀ w u, Ak w u x y z tt → Calls Tryz.prog 90 #[u, .int .i64 64] w fun e w' => ∃ r, e = .returned (.tuple #[r, .int .i64 128, .int .i64 0]) ∧ Iv w' r Z ∧ Below w.heap.size w w')
    (cb : ∀ w u, Iv w u Z → Calls Tryz.prog 91 #[u, .int .i64 sg] w fun e w' => e = .returned (.int .i64 0) ∧ Below w.heap.size w w')
    (cx : ∀ w u, Iv w u Z → Calls Tryz.prog 93 #[u, .int .i64 128] w fun e w' => ∃ r, e = .returned (.tuple #[r, .int .i64 0]) ∧ Iv w' r I ∧ Below w.heap.size w w')
    (cd : ∀ w u, Iv w u I → Calls Tryz.prog 94 #[u, .bool false, .int .i64 z] w fun e w' => e = .returned (.tuple #[.int .u64 B, .int .u8 1, .bool true]) ∧ Below w.heap.size w w') :
    Calls Tryz.prog 45 #[u, .int .i64 sg, .int .i64 64] w (RetAns B w) := by
  have CL := Lib.hid cl
  have CB := Lib.hid cb
  have CX := Lib.hid cx
  have CD := Lib.hid cd
  have HU := Lib.hid hu
  obtain ⟨a1, k1, c1, a2, k2, c2, rfl, hx, hy⟩ := hu
  obtain ⟨xn, xm, xe⟩ := x
  obtain ⟨yn, ym, ye⟩ := y
  obtain ⟨⟨rn, rm, re⟩, ⟨rn', rm', re'⟩⟩ := Z
  obtain ⟨⟨tn, tm, te⟩, ⟨tn', tm', te'⟩⟩ := I
  simp only at hx hy
  clear hx hy cl cb cx cd
  go_enter Tryz.func45, Tryz.ntmps45
  have F0 := Lib.hid (Fz.two w 58 #[.bool xn, .slice a1 k1 c1, .int .i64 xe, .bool yn, .slice a2 k2 c2, .int .i64 ye, .int .u64 1, .bool false, .int .i64 z, .int .i64 64, .int .i64 tt] 94 #[.int .u64 0, .int .u8 0, .int .i64 0, .bool false, .slice none 0 0, .int .i64 0, .bool false, .slice none 0 0, .int .i64 0])
  have U0 := Lib.hid ((HU.out.alloc (.cells #[.bool xn, .slice a1 k1 c1, .int .i64 xe, .bool yn, .slice a2 k2 c2, .int .i64 ye, .int .u64 1, .bool false, .int .i64 z, .int .i64 64, .int .i64 tt] 58)).alloc (.cells #[.int .u64 0, .int .u8 0, .int .i64 0, .bool false, .slice none 0 0, .int .i64 0, .bool false, .slice none 0 0, .int .i64 0] 94))
  clear HU
  go_upto_region 1 with (fail)
  generalize World.alloc (World.alloc _ _) _ = w0 at F0 U0 ⊢
  have c0_0 := F0.out.c11 0 rfl
  have c1_0 := F0.out.c9 1 rfl
  go_wp2_with fail
  clear c0_0 c1_0
  refine (CL.out _ _ U0.out).mono ?_
  rintro q w1 ⟨u, rfl, hu, hb⟩
  have F1 := Lib.hid (F0.out.call hb)
  have U1 := Lib.hid (U0.out.below hb)
  clear F0 U0
  have I1 := Lib.hid (hu)
  clear hb
  have c0_1 := F1.out.c11 0 rfl
  have c1_1 := F1.out.c9 1 rfl
  clear U1
  obtain ⟨b7, e7, d7, b8, e8, d8, rfl, h1, h2⟩ := I1.out.fm
  clear h1 h2
  go_upto_region 4 with (fail)
  clear c0_1 c1_1
  have F2 := Lib.hid (F1.out.new 92 #[.bool rn, .slice b7 e7 d7, .int .i64 re, .bool rn', .slice b8 e8 d8, .int .i64 re'])
  have I2 := Lib.hid (I1.out.alloc (.cells #[.bool rn, .slice b7 e7 d7, .int .i64 re, .bool rn', .slice b8 e8 d8, .int .i64 re'] 92))
  clear F1 I1
  obtain ⟨g1, hg1⟩ : ∃ g, g = (World.heap w1).size := ⟨_, rfl⟩
  rw [← hg1] at F2 ⊢
  clear hg1
  simp only [List.nil_append, List.cons_append] at F2
  generalize World.alloc w1 _ = W2 at F2 I2 ⊢
  have c0_2 := F2.out.c11 0 rfl
  have c1_2 := F2.out.c9 1 rfl
  have c2_2 := F2.out.c6 2 rfl
  go_wp2_with fail
  clear c0_2 c1_2 c2_2
  refine (CB.out _ _ I2.out).mono ?_
  rintro q w3 ⟨rfl, hb⟩
  have F3 := Lib.hid (F2.out.call hb)
  have I3 := Lib.hid (I2.out.below hb)
  clear F2 I2
  clear hb
  have c0_3 := F3.out.c11 0 rfl
  have c1_3 := F3.out.c9 1 rfl
  have c2_3 := F3.out.c6 2 rfl
  go_wp2_with fail
  clear c0_3 c1_3 c2_3
  refine (CX.out _ _ I3.out).mono ?_
  rintro q w4 ⟨u, rfl, hu, hb⟩
  have F4 := Lib.hid (F3.out.call hb)
  have I4 := Lib.hid (I3.out.below hb)
  clear F3 I3
  have J4 := Lib.hid (hu)
  clear hb
  have c0_4 := F4.out.c11 0 rfl
  have c1_4 := F4.out.c9 1 rfl
  have c2_4 := F4.out.c6 2 rfl
  clear I4
  obtain ⟨b9, e9, d9, b0, e0, d0, rfl, h1, h2⟩ := J4.out.fm
  clear h1 h2
  go_upto_region 9 with (fail)
  clear c0_4 c1_4 c2_4
  have F5 := Lib.hid (F4.out.new 92 #[.bool tn, .slice b9 e9 d9, .int .i64 te, .bool tn', .slice b0 e0 d0, .int .i64 te'])
  have J5 := Lib.hid (J4.out.alloc (.cells #[.bool tn, .slice b9 e9 d9, .int .i64 te, .bool tn', .slice b0 e0 d0, .int .i64 te'] 92))
  clear F4 J4
  obtain ⟨g2, hg2⟩ : ∃ g, g = (World.heap w4).size := ⟨_, rfl⟩
  rw [← hg2] at F5 ⊢
  clear hg2
  simp only [List.nil_append, List.cons_append] at F5
  generalize World.alloc w4 _ = W5 at F5 J5 ⊢
  have c0_5 := F5.out.c11 0 rfl
  have c1_5 := F5.out.c9 1 rfl
  have c2_5 := F5.out.c6 2 rfl
  have c3_5 := F5.out.c6 3 rfl
  go_wp2_with fail
  clear c0_5 c1_5 c2_5 c3_5
  refine (CD.out _ _ J5.out).mono ?_
  rintro q w6 ⟨rfl, hb⟩
  have F6 := Lib.hid (F5.out.call hb)
  have J6 := Lib.hid (J5.out.below hb)
  clear F5 J5
  clear hb
  have c0_6 := F6.out.c11 0 rfl
  have c1_6 := F6.out.c9 1 rfl
  have c2_6 := F6.out.c6 2 rfl
  have c3_6 := F6.out.c6 3 rfl
  go_wp2
  have f := F6.out.s9 1 rfl (.int .u64 B) (.int .u8 1) (.int .i64 0) (.bool tn) (.slice b9 e9 d9) (.int .i64 te) (.bool tn') (.slice b0 e0 d0) (.int .i64 te')
  generalize (World.setCell (World.setCell (World.setCell (World.setCell (World.setCell (World.setCell (World.setCell (World.setCell (World.setCell _ _ _) _ _) _ _) _ _) _ _) _ _) _ _) _ _) _ _) = W at f ⊢
  have g1' := f.c9 1 rfl
  refine bodyPost_ret (v := .tuple #[.agg #[.int .u64 B, .int .u8 1, .int .i64 0, .bool tn, .slice b9 e9 d9, .int .i64 te, .bool tn', .slice b0 e0 d0, .int .i64 te'], .bool true]) (by simp [results, Tryz.results45, go_sem, g1']) rfl ?_
  exact ⟨_, _, _, _, _, _, _, _, _, _, rfl, f.b⟩

end Go.Proofs.YtobpioceopfkpaaGreatDoor

/-
  core: the closure; cascade.Go: found at the first try, whatever the interval. Printed by gen_ee.py.
-/
namespace Go.Proofs.YtobpioceopfkpaaGreatDoor
open Go.RowKit

set_option maxRecDepth 100000 in
set_option maxHeartbeats 4000000 in
theorem Do1_open {w : World} {g1 g2 : Nat} {u : Array Value} {x y : Dn} {z tt sg B : Int} (hb1 : Blk w g1 58 u) (hb2 : Blk w g2 3 #[.int .i64 sg]) (hu : Ak w (.agg u) x y z tt)
    (ct : ∀ w, Ak w (.agg u) x y z tt → Calls Tryz.prog 45 #[.agg u, .int .i64 sg, .int .i64 64] w (RetAns B w)) :
    Calls Tryz.prog 44 #[.int .i64 64, .pointer (some ⟨g1, 0, none⟩), .pointer (some ⟨g2, 0, none⟩)] w (RetAns B w) := by
  have CT := Lib.hid ct
  have HU := Lib.hid hu
  obtain ⟨a1, k1, c1, a2, k2, c2, he, hx, hy⟩ := hu
  obtain ⟨xn, xm, xe⟩ := x
  obtain ⟨yn, ym, ye⟩ := y
  simp only [Value.agg.injEq] at he
  subst he
  have H1 := Lib.hid hb1
  have H2 := Lib.hid hb2
  have F0 := Lib.hid (Fz.one w 94 #[.int .u64 0, .int .u8 0, .int .i64 0, .bool false, .slice none 0 0, .int .i64 0, .bool false, .slice none 0 0, .int .i64 0])
  have B1 := Lib.hid (hb1.alloc (.cells #[.int .u64 0, .int .u8 0, .int .i64 0, .bool false, .slice none 0 0, .int .i64 0, .bool false, .slice none 0 0, .int .i64 0] 94))
  have B2 := Lib.hid (hb2.alloc (.cells #[.int .u64 0, .int .u8 0, .int .i64 0, .bool false, .slice none 0 0, .int .i64 0, .bool false, .slice none 0 0, .int .i64 0] 94))
  have U0 := Lib.hid (HU.out.alloc (.cells #[.int .u64 0, .int .u8 0, .int .i64 0, .bool false, .slice none 0 0, .int .i64 0, .bool false, .slice none 0 0, .int .i64 0] 94))
  clear hb1 hb2 hx hy HU H1 H2 ct
  go_enter Tryz.func44, Tryz.ntmps44
  go_upto_region 1 with (fail)
  generalize World.alloc _ _ = w0 at F0 B1 B2 U0 ⊢
  have d0 : w0.cell? ⟨g1, 0, none⟩ = some (.bool xn) := B1.out.at 0 _ rfl
  have d1 : w0.cell? ⟨g1, 1, none⟩ = some (.slice a1 k1 c1) := B1.out.at 1 _ rfl
  have d2 : w0.cell? ⟨g1, 2, none⟩ = some (.int .i64 xe) := B1.out.at 2 _ rfl
  have d3 : w0.cell? ⟨g1, 3, none⟩ = some (.bool yn) := B1.out.at 3 _ rfl
  have d4 : w0.cell? ⟨g1, 4, none⟩ = some (.slice a2 k2 c2) := B1.out.at 4 _ rfl
  have d5 : w0.cell? ⟨g1, 5, none⟩ = some (.int .i64 ye) := B1.out.at 5 _ rfl
  have d6 : w0.cell? ⟨g1, 6, none⟩ = some (.int .u64 1) := B1.out.at 6 _ rfl
  have d7 : w0.cell? ⟨g1, 7, none⟩ = some (.bool false) := B1.out.at 7 _ rfl
  have d8 : w0.cell? ⟨g1, 8, none⟩ = some (.int .i64 z) := B1.out.at 8 _ rfl
  have d9 : w0.cell? ⟨g1, 9, none⟩ = some (.int .i64 64) := B1.out.at 9 _ rfl
  have d10 : w0.cell? ⟨g1, 10, none⟩ = some (.int .i64 tt) := B1.out.at 10 _ rfl
  have d11 : w0.cell? ⟨g2, 0, none⟩ = some (.int .i64 sg) := B2.out.at 0 _ rfl
  go_wp2_with fail
  refine (CT.out _ U0.out).mono ?_
  rintro q w1 ⟨n1, s1, l1, d1, e1, n2, s2, l2, d2, e2, rfl, hb⟩
  have F1 := Lib.hid (F0.out.call hb)
  clear hb
  have c0 := F1.out.c9 0 rfl
  go_wp2
  have f := F1.out.s9 0 rfl (.int .u64 B) (.int .u8 1) (.int .i64 0) (.bool n1) (.slice s1 l1 d1) (.int .i64 e1) (.bool n2) (.slice s2 l2 d2) (.int .i64 e2)
  simp only [List.set_cons_zero] at f
  generalize (World.setCell (World.setCell (World.setCell (World.setCell (World.setCell (World.setCell (World.setCell (World.setCell (World.setCell _ _ _) _ _) _ _) _ _) _ _) _ _) _ _) _ _) _ _) = W at f ⊢
  have g1' := f.c9 0 rfl
  refine bodyPost_ret (v := .tuple #[.agg #[.int .u64 B, .int .u8 1, .int .i64 0, .bool n1, .slice s1 l1 d1, .int .i64 e1, .bool n2, .slice s2 l2 d2, .int .i64 e2], .bool true]) (by simp [results, Tryz.results44, go_sem, g1']) rfl ?_
  exact ⟨_, _, _, _, _, _, _, _, _, _, rfl, f.b⟩

def RetRun (B : Int) (w : World) (e : Ending) (w' : World) : Prop := ∃ (n1 : Bool) (s1 : Option Addr) (l1 d1 : Nat) (e1 : Int) (n2 : Bool) (s2 : Option Addr) (l2 d2 : Nat) (e2 : Int),
  e = .returned (.tuple #[.agg #[.int .u64 B, .int .u8 1, .int .i64 0, .bool n1, .slice s1 l1 d1, .int .i64 e1, .bool n2, .slice s2 l2 d2, .int .i64 e2, .int .i64 64, .int .i64 1, .int .i64 0], .int .i64 0]) ∧ Below w.heap.size w w'

set_option maxRecDepth 100000 in
set_option maxHeartbeats 4000000 in
theorem Go_open {w : World} {g cap n : Nat} {B : Int} (hn : 0 < n) (hc : w.cell? ⟨g, 0, none⟩ = some (.int .i64 64)) (p1 p2 : Addr)
    (hcl : ∀ w' : World, Below w.heap.size w w' → Calls Tryz.prog 44 #[.int .i64 64, .pointer (some p1), .pointer (some p2)] w' (RetAns B w')) :
    Calls Tryz.prog 43 #[.slice (some ⟨g, 0, none⟩) n cap, .pointer none, .func (.func 44) #[] #[.pointer (some p1), .pointer (some p2)]] w (RetRun B w) := by
  have HC := Lib.hid hc
  have CL := Lib.hid hcl
  have z1 : decide ((0 : Int) < (n : Int)) = true := decide_eq_true (by omega)
  have z2 : (0 : Int) < (n : Int) := by omega
  have hfn := fun W => func102 (.func 44) (.pointer (some p1)) (.pointer (some p2)) W
  clear hc hcl
  go_enter Tryz.func43, Tryz.ntmps43
  have F0 := Lib.hid (Fz.two w 97 #[.int .u64 0, .int .u8 0, .int .i64 0, .bool false, .slice none 0 0, .int .i64 0, .bool false, .slice none 0 0, .int .i64 0, .int .i64 0, .int .i64 0, .int .i64 0] 97 #[.int .u64 0, .int .u8 0, .int .i64 0, .bool false, .slice none 0 0, .int .i64 0, .bool false, .slice none 0 0, .int .i64 0, .int .i64 0, .int .i64 0, .int .i64 0])
  go_upto_region 2 with (fail)
  generalize World.alloc (World.alloc _ _) _ = w0 at F0 ⊢
  have c11 : w0.cell? ⟨w.heap.size + 1, 11, none⟩ = some (.int .i64 0) := (F0.out.box 1 _ _ _ rfl).at 11 _ rfl
  have f11 : w0.frozen? ⟨w.heap.size + 1, 11, none⟩ = false := (F0.out.box 1 _ _ _ rfl).frozen 11
  go_upto_region 5 with (fail)
  clear c11 f11
  have f := F0.out.s12_11 1 rfl (.int .i64 2)
  simp only [List.set_cons_zero, List.set_cons_succ] at f
  generalize World.setCell _ _ _ = w1 at f ⊢
  have F1 := Lib.hid f
  clear f F0
  have x0 := cell_below F1.out.b (Nat.le_refl _) HC.out
  go_wp2
  refine wp_loop_rounds 1 ?_
  rw [rounds_succ]
  go_wp2_with fail
  clear x0
  refine (CL.out _ F1.out.b).mono ?_
  rintro q w2 ⟨n1, s1, l1, d1, e1, n2, s2, l2, d2, e2, rfl, hb⟩
  have F2 := Lib.hid (F1.out.call hb)
  clear hb F1
  go_upto_region 11 with (fail)
  have F3 := Lib.hid (F2.out.new 94 #[.int .u64 B, .int .u8 1, .int .i64 0, .bool n1, .slice s1 l1 d1, .int .i64 e1, .bool n2, .slice s2 l2 d2, .int .i64 e2])
  obtain ⟨g1, hg1⟩ : ∃ g, g = (World.heap w2).size := ⟨_, rfl⟩
  rw [← hg1] at F3 ⊢
  clear hg1 F2
  simp only [List.nil_append, List.cons_append] at F3
  generalize World.alloc w2 _ = w3 at F3 ⊢
  have ee0 : World.cell? w3 ⟨g1, 0, none⟩ = some (.int .u64 B) := (F3.out.box 2 _ _ _ rfl).at 0 _ rfl
  have ee1 : World.cell? w3 ⟨g1, 1, none⟩ = some (.int .u8 1) := (F3.out.box 2 _ _ _ rfl).at 1 _ rfl
  have ee2 : World.cell? w3 ⟨g1, 2, none⟩ = some (.int .i64 0) := (F3.out.box 2 _ _ _ rfl).at 2 _ rfl
  have ee3 : World.cell? w3 ⟨g1, 3, none⟩ = some (.bool n1) := (F3.out.box 2 _ _ _ rfl).at 3 _ rfl
  have ee4 : World.cell? w3 ⟨g1, 4, none⟩ = some (.slice s1 l1 d1) := (F3.out.box 2 _ _ _ rfl).at 4 _ rfl
  have ee5 : World.cell? w3 ⟨g1, 5, none⟩ = some (.int .i64 e1) := (F3.out.box 2 _ _ _ rfl).at 5 _ rfl
  have ee6 : World.cell? w3 ⟨g1, 6, none⟩ = some (.bool n2) := (F3.out.box 2 _ _ _ rfl).at 6 _ rfl
  have ee7 : World.cell? w3 ⟨g1, 7, none⟩ = some (.slice s2 l2 d2) := (F3.out.box 2 _ _ _ rfl).at 7 _ rfl
  have ee8 : World.cell? w3 ⟨g1, 8, none⟩ = some (.int .i64 e2) := (F3.out.box 2 _ _ _ rfl).at 8 _ rfl
  have c0 : World.cell? w3 ⟨w.heap.size + 1, 0, none⟩ = some (.int .u64 0) := (F3.out.box 1 _ _ _ rfl).at 0 _ rfl
  have cf0 : World.frozen? w3 ⟨w.heap.size + 1, 0, none⟩ = false := (F3.out.box 1 _ _ _ rfl).frozen 0
  have c1 : World.cell? w3 ⟨w.heap.size + 1, 1, none⟩ = some (.int .u8 0) := (F3.out.box 1 _ _ _ rfl).at 1 _ rfl
  have cf1 : World.frozen? w3 ⟨w.heap.size + 1, 1, none⟩ = false := (F3.out.box 1 _ _ _ rfl).frozen 1
  have c2 : World.cell? w3 ⟨w.heap.size + 1, 2, none⟩ = some (.int .i64 0) := (F3.out.box 1 _ _ _ rfl).at 2 _ rfl
  have cf2 : World.frozen? w3 ⟨w.heap.size + 1, 2, none⟩ = false := (F3.out.box 1 _ _ _ rfl).frozen 2
  have c3 : World.cell? w3 ⟨w.heap.size + 1, 3, none⟩ = some (.bool false) := (F3.out.box 1 _ _ _ rfl).at 3 _ rfl
  have cf3 : World.frozen? w3 ⟨w.heap.size + 1, 3, none⟩ = false := (F3.out.box 1 _ _ _ rfl).frozen 3
  have c4 : World.cell? w3 ⟨w.heap.size + 1, 4, none⟩ = some (.slice none 0 0) := (F3.out.box 1 _ _ _ rfl).at 4 _ rfl
  have cf4 : World.frozen? w3 ⟨w.heap.size + 1, 4, none⟩ = false := (F3.out.box 1 _ _ _ rfl).frozen 4
  have c5 : World.cell? w3 ⟨w.heap.size + 1, 5, none⟩ = some (.int .i64 0) := (F3.out.box 1 _ _ _ rfl).at 5 _ rfl
  have cf5 : World.frozen? w3 ⟨w.heap.size + 1, 5, none⟩ = false := (F3.out.box 1 _ _ _ rfl).frozen 5
  have c6 : World.cell? w3 ⟨w.heap.size + 1, 6, none⟩ = some (.bool false) := (F3.out.box 1 _ _ _ rfl).at 6 _ rfl
  have cf6 : World.frozen? w3 ⟨w.heap.size + 1, 6, none⟩ = false := (F3.out.box 1 _ _ _ rfl).frozen 6
  have c7 : World.cell? w3 ⟨w.heap.size + 1, 7, none⟩ = some (.slice none 0 0) := (F3.out.box 1 _ _ _ rfl).at 7 _ rfl
  have cf7 : World.frozen? w3 ⟨w.heap.size + 1, 7, none⟩ = false := (F3.out.box 1 _ _ _ rfl).frozen 7
  have c8 : World.cell? w3 ⟨w.heap.size + 1, 8, none⟩ = some (.int .i64 0) := (F3.out.box 1 _ _ _ rfl).at 8 _ rfl
  have cf8 : World.frozen? w3 ⟨w.heap.size + 1, 8, none⟩ = false := (F3.out.box 1 _ _ _ rfl).frozen 8
  have c9 : World.cell? w3 ⟨w.heap.size + 1, 9, none⟩ = some (.int .i64 0) := (F3.out.box 1 _ _ _ rfl).at 9 _ rfl
  have cf9 : World.frozen? w3 ⟨w.heap.size + 1, 9, none⟩ = false := (F3.out.box 1 _ _ _ rfl).frozen 9
  have c10 : World.cell? w3 ⟨w.heap.size + 1, 10, none⟩ = some (.int .i64 0) := (F3.out.box 1 _ _ _ rfl).at 10 _ rfl
  have cf10 : World.frozen? w3 ⟨w.heap.size + 1, 10, none⟩ = false := (F3.out.box 1 _ _ _ rfl).frozen 10
  have c11 : World.cell? w3 ⟨w.heap.size + 1, 11, none⟩ = some (.int .i64 2) := (F3.out.box 1 _ _ _ rfl).at 11 _ rfl
  have cf11 : World.frozen? w3 ⟨w.heap.size + 1, 11, none⟩ = false := (F3.out.box 1 _ _ _ rfl).frozen 11
  go_upto_region 12 with (fail)
  clear ee0 ee1 ee2 ee3 ee4 ee5 ee6 ee7 ee8
  clear c0 cf0 c1 cf1 c2 cf2 c3 cf3 c4 cf4 c5 cf5 c6 cf6 c7 cf7 c8 cf8 c9 cf9 c10 cf10 c11 cf11
  have f := F3.out.s12_0 1 rfl (.int .u64 B) (.int .u8 1) (.int .i64 0) (.bool n1) (.slice s1 l1 d1) (.int .i64 e1) (.bool n2) (.slice s2 l2 d2) (.int .i64 e2) (.int .i64 64)
  simp only [List.set_cons_zero, List.set_cons_succ] at f
  generalize (World.setCell (World.setCell (World.setCell (World.setCell (World.setCell (World.setCell (World.setCell (World.setCell (World.setCell (World.setCell _ _ _) _ _) _ _) _ _) _ _) _ _) _ _) _ _) _ _) _ _) = w4 at f ⊢
  have F4 := Lib.hid f
  clear f F3
  have c10 : w4.cell? ⟨w.heap.size + 1, 10, none⟩ = some (.int .i64 0) := (F4.out.box 1 _ _ _ rfl).at 10 _ rfl
  have f10 : w4.frozen? ⟨w.heap.size + 1, 10, none⟩ = false := (F4.out.box 1 _ _ _ rfl).frozen 10
  go_upto_region 13 with (fail)
  clear c10 f10
  have f := F4.out.s12_10 1 rfl (.int .i64 1)
  simp only [List.set_cons_zero, List.set_cons_succ] at f
  generalize World.setCell _ _ _ = w5 at f ⊢
  have F5 := Lib.hid f
  clear f F4
  have c11 : w5.cell? ⟨w.heap.size + 1, 11, none⟩ = some (.int .i64 2) := (F5.out.box 1 _ _ _ rfl).at 11 _ rfl
  have f11 : w5.frozen? ⟨w.heap.size + 1, 11, none⟩ = false := (F5.out.box 1 _ _ _ rfl).frozen 11
  go_upto_region 16 with (fail)
  clear c11 f11
  have f := F5.out.s12_11 1 rfl (.int .i64 0)
  simp only [List.set_cons_zero, List.set_cons_succ] at f
  generalize World.setCell _ _ _ = w6 at f ⊢
  have F6 := Lib.hid f
  clear f F5
  have c0 : World.cell? w6 ⟨w.heap.size + 1, 0, none⟩ = some (.int .u64 B) := (F6.out.box 1 _ _ _ rfl).at 0 _ rfl
  have c1 : World.cell? w6 ⟨w.heap.size + 1, 1, none⟩ = some (.int .u8 1) := (F6.out.box 1 _ _ _ rfl).at 1 _ rfl
  have c2 : World.cell? w6 ⟨w.heap.size + 1, 2, none⟩ = some (.int .i64 0) := (F6.out.box 1 _ _ _ rfl).at 2 _ rfl
  have c3 : World.cell? w6 ⟨w.heap.size + 1, 3, none⟩ = some (.bool n1) := (F6.out.box 1 _ _ _ rfl).at 3 _ rfl
  have c4 : World.cell? w6 ⟨w.heap.size + 1, 4, none⟩ = some (.slice s1 l1 d1) := (F6.out.box 1 _ _ _ rfl).at 4 _ rfl
  have c5 : World.cell? w6 ⟨w.heap.size + 1, 5, none⟩ = some (.int .i64 e1) := (F6.out.box 1 _ _ _ rfl).at 5 _ rfl
  have c6 : World.cell? w6 ⟨w.heap.size + 1, 6, none⟩ = some (.bool n2) := (F6.out.box 1 _ _ _ rfl).at 6 _ rfl
  have c7 : World.cell? w6 ⟨w.heap.size + 1, 7, none⟩ = some (.slice s2 l2 d2) := (F6.out.box 1 _ _ _ rfl).at 7 _ rfl
  have c8 : World.cell? w6 ⟨w.heap.size + 1, 8, none⟩ = some (.int .i64 e2) := (F6.out.box 1 _ _ _ rfl).at 8 _ rfl
  have c9 : World.cell? w6 ⟨w.heap.size + 1, 9, none⟩ = some (.int .i64 64) := (F6.out.box 1 _ _ _ rfl).at 9 _ rfl
  have c10 : World.cell? w6 ⟨w.heap.size + 1, 10, none⟩ = some (.int .i64 1) := (F6.out.box 1 _ _ _ rfl).at 10 _ rfl
  have c11 : World.cell? w6 ⟨w.heap.size + 1, 11, none⟩ = some (.int .i64 0) := (F6.out.box 1 _ _ _ rfl).at 11 _ rfl
  have ee0 : World.cell? w6 ⟨w.heap.size, 0, none⟩ = some (.int .u64 0) := (F6.out.box 0 _ _ _ rfl).at 0 _ rfl
  have eef0 : World.frozen? w6 ⟨w.heap.size, 0, none⟩ = false := (F6.out.box 0 _ _ _ rfl).frozen 0
  have ee1 : World.cell? w6 ⟨w.heap.size, 1, none⟩ = some (.int .u8 0) := (F6.out.box 0 _ _ _ rfl).at 1 _ rfl
  have eef1 : World.frozen? w6 ⟨w.heap.size, 1, none⟩ = false := (F6.out.box 0 _ _ _ rfl).frozen 1
  have ee2 : World.cell? w6 ⟨w.heap.size, 2, none⟩ = some (.int .i64 0) := (F6.out.box 0 _ _ _ rfl).at 2 _ rfl
  have eef2 : World.frozen? w6 ⟨w.heap.size, 2, none⟩ = false := (F6.out.box 0 _ _ _ rfl).frozen 2
  have ee3 : World.cell? w6 ⟨w.heap.size, 3, none⟩ = some (.bool false) := (F6.out.box 0 _ _ _ rfl).at 3 _ rfl
  have eef3 : World.frozen? w6 ⟨w.heap.size, 3, none⟩ = false := (F6.out.box 0 _ _ _ rfl).frozen 3
  have ee4 : World.cell? w6 ⟨w.heap.size, 4, none⟩ = some (.slice none 0 0) := (F6.out.box 0 _ _ _ rfl).at 4 _ rfl
  have eef4 : World.frozen? w6 ⟨w.heap.size, 4, none⟩ = false := (F6.out.box 0 _ _ _ rfl).frozen 4
  have ee5 : World.cell? w6 ⟨w.heap.size, 5, none⟩ = some (.int .i64 0) := (F6.out.box 0 _ _ _ rfl).at 5 _ rfl
  have eef5 : World.frozen? w6 ⟨w.heap.size, 5, none⟩ = false := (F6.out.box 0 _ _ _ rfl).frozen 5
  have ee6 : World.cell? w6 ⟨w.heap.size, 6, none⟩ = some (.bool false) := (F6.out.box 0 _ _ _ rfl).at 6 _ rfl
  have eef6 : World.frozen? w6 ⟨w.heap.size, 6, none⟩ = false := (F6.out.box 0 _ _ _ rfl).frozen 6
  have ee7 : World.cell? w6 ⟨w.heap.size, 7, none⟩ = some (.slice none 0 0) := (F6.out.box 0 _ _ _ rfl).at 7 _ rfl
  have eef7 : World.frozen? w6 ⟨w.heap.size, 7, none⟩ = false := (F6.out.box 0 _ _ _ rfl).frozen 7
  have ee8 : World.cell? w6 ⟨w.heap.size, 8, none⟩ = some (.int .i64 0) := (F6.out.box 0 _ _ _ rfl).at 8 _ rfl
  have eef8 : World.frozen? w6 ⟨w.heap.size, 8, none⟩ = false := (F6.out.box 0 _ _ _ rfl).frozen 8
  have ee9 : World.cell? w6 ⟨w.heap.size, 9, none⟩ = some (.int .i64 0) := (F6.out.box 0 _ _ _ rfl).at 9 _ rfl
  have eef9 : World.frozen? w6 ⟨w.heap.size, 9, none⟩ = false := (F6.out.box 0 _ _ _ rfl).frozen 9
  have ee10 : World.cell? w6 ⟨w.heap.size, 10, none⟩ = some (.int .i64 0) := (F6.out.box 0 _ _ _ rfl).at 10 _ rfl
  have eef10 : World.frozen? w6 ⟨w.heap.size, 10, none⟩ = false := (F6.out.box 0 _ _ _ rfl).frozen 10
  have ee11 : World.cell? w6 ⟨w.heap.size, 11, none⟩ = some (.int .i64 0) := (F6.out.box 0 _ _ _ rfl).at 11 _ rfl
  have eef11 : World.frozen? w6 ⟨w.heap.size, 11, none⟩ = false := (F6.out.box 0 _ _ _ rfl).frozen 11
  go_wp2
  clear c0 c1 c2 c3 c4 c5 c6 c7 c8 c9 c10 c11
  clear ee0 eef0 ee1 eef1 ee2 eef2 ee3 eef3 ee4 eef4 ee5 eef5 ee6 eef6 ee7 eef7 ee8 eef8 ee9 eef9 ee10 eef10 ee11 eef11
  have f := F6.out.s12 0 rfl (.int .u64 B) (.int .u8 1) (.int .i64 0) (.bool n1) (.slice s1 l1 d1) (.int .i64 e1) (.bool n2) (.slice s2 l2 d2) (.int .i64 e2) (.int .i64 64) (.int .i64 1) (.int .i64 0)
  simp only [List.set_cons_zero] at f
  generalize (World.setCell (World.setCell (World.setCell (World.setCell (World.setCell (World.setCell (World.setCell (World.setCell (World.setCell (World.setCell (World.setCell (World.setCell _ _ _) _ _) _ _) _ _) _ _) _ _) _ _) _ _) _ _) _ _) _ _) _ _) = W at f ⊢
  have c0 : World.cell? W ⟨w.heap.size, 0, none⟩ = some (.int .u64 B) := (f.box 0 _ _ _ rfl).at 0 _ rfl
  have c1 : World.cell? W ⟨w.heap.size, 1, none⟩ = some (.int .u8 1) := (f.box 0 _ _ _ rfl).at 1 _ rfl
  have c2 : World.cell? W ⟨w.heap.size, 2, none⟩ = some (.int .i64 0) := (f.box 0 _ _ _ rfl).at 2 _ rfl
  have c3 : World.cell? W ⟨w.heap.size, 3, none⟩ = some (.bool n1) := (f.box 0 _ _ _ rfl).at 3 _ rfl
  have c4 : World.cell? W ⟨w.heap.size, 4, none⟩ = some (.slice s1 l1 d1) := (f.box 0 _ _ _ rfl).at 4 _ rfl
  have c5 : World.cell? W ⟨w.heap.size, 5, none⟩ = some (.int .i64 e1) := (f.box 0 _ _ _ rfl).at 5 _ rfl
  have c6 : World.cell? W ⟨w.heap.size, 6, none⟩ = some (.bool n2) := (f.box 0 _ _ _ rfl).at 6 _ rfl
  have c7 : World.cell? W ⟨w.heap.size, 7, none⟩ = some (.slice s2 l2 d2) := (f.box 0 _ _ _ rfl).at 7 _ rfl
  have c8 : World.cell? W ⟨w.heap.size, 8, none⟩ = some (.int .i64 e2) := (f.box 0 _ _ _ rfl).at 8 _ rfl
  have c9 : World.cell? W ⟨w.heap.size, 9, none⟩ = some (.int .i64 64) := (f.box 0 _ _ _ rfl).at 9 _ rfl
  have c10 : World.cell? W ⟨w.heap.size, 10, none⟩ = some (.int .i64 1) := (f.box 0 _ _ _ rfl).at 10 _ rfl
  have c11 : World.cell? W ⟨w.heap.size, 11, none⟩ = some (.int .i64 0) := (f.box 0 _ _ _ rfl).at 11 _ rfl
  refine bodyPost_ret (v := .tuple #[.agg #[.int .u64 B, .int .u8 1, .int .i64 0, .bool n1, .slice s1 l1 d1, .int .i64 e1, .bool n2, .slice s2 l2 d2, .int .i64 e2, .int .i64 64, .int .i64 1, .int .i64 0], .int .i64 0]) (by simp [results, Tryz.results43, go_sem, c0, c1, c2, c3, c4, c5, c6, c7, c8, c9, c10, c11]) rfl ?_
  exact ⟨_, _, _, _, _, _, _, _, _, _, rfl, f.b⟩

end Go.Proofs.YtobpioceopfkpaaGreatDoor
