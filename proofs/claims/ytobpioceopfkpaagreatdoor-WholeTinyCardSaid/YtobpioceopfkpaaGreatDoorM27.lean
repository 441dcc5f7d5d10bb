/-
  exact.Of, Low, rooted, Power, core.whole, Exact: the square root of 2. Printed by gen_ed.py.
-/
import Derived.Test.YtobpioceopfkpaaGreatDoorM17
import Derived.Test.YtobpioceopfkpaaGreatDoorM26
import Derived.LoopN
import Derived.BigQuiet
import Derived.Deep.RegionHeld3
import Derived.Test.YtobpioceopfkpaaGreatDoorM11
namespace Go.Proofs.YtobpioceopfkpaaGreatDoor
open Go.RowKit

def x2 : Dn := ⟨false, 1, 1⟩
def y2 : Dn := ⟨false, 1, -1⟩
theorem x2_bare : bareN x2 = x2 := by kernel_rfl
theorem y2_bare : bareN y2 = y2 := by kernel_rfl
theorem x2_sd : Sd x2 := ⟨by decide +kernel, by decide, by decide⟩
theorem y2_sd : Sd y2 := ⟨by decide +kernel, by decide, by decide⟩

theorem Of_half {w : World} {u : Value} (hu : Cy w u y2) : Calls Tryz.prog 115 #[u] w fun e w' => e = .returned (.tuple #[.agg #[.int .i64 1, .int .i64 2], .bool true]) ∧ Below w.heap.size w w' := by
  have h := Of_r hu y2_sd (by rw [y2_bare]; decide) (by rw [y2_bare]; decide +kernel)
  rw [y2_bare, (by decide : ofM y2 = 1), (by decide : (ofK y2 : Int) = 2)] at h
  exact h
theorem Low_half (w : World) : Calls Tryz.prog 116 #[.agg #[.int .i64 1, .int .i64 2]] w fun e w' => e = .returned (.tuple #[.agg #[.int .i64 1, .int .i64 2], .int .i64 0]) ∧ Below w.heap.size w w' :=
  Low_r w 1 2 1 (by decide) (by decide) (by decide) (m1 := 1) (k1 := 2) (by decide) (by decide)
set_option maxRecDepth 100000 in
set_option maxHeartbeats 4000000 in
theorem rooted_no {w : World} {u : Value} (hu : Cy w u x2) : Calls Tryz.prog 117 #[u, .int .i64 2] w fun e w' => e = .returned (.tuple #[.agg #[.bool false, .slice none 0 0, .int .i64 0], .bool false]) ∧ Below w.heap.size w w' := by
  unfold x2 at *
  obtain ⟨a1, k1, c1, rfl⟩ := hu.fm
  clear hu
  go_enter Tryz.func117, Tryz.ntmps117
  have F0 := Lib.hid (Fx.two w 42 #[.bool false, .slice a1 k1 c1, .int .i64 1] 42 #[.bool false, .slice none 0 0, .int .i64 0] rfl rfl)
  go_upto_region 1 with (fail)
  generalize World.alloc (World.alloc _ _) _ = w0 at F0 ⊢
  have c0_0 := F0.out.c3 0 rfl
  have c1_0 := F0.out.c3 1 rfl
  go_wp2
  obtain ⟨f0, p0⟩ := F0.out.s3 1 rfl (.bool false) (.slice none 0 0) (.int .i64 0) rfl rfl rfl
  have p := p0
  have f := f0
  clear f0 p0
  generalize (World.setCell (World.setCell (World.setCell _ _ _) _ _) _ _) = W at f p ⊢
  have g1 := f.c3 1 rfl
  refine bodyPost_ret (v := .tuple #[.agg #[.bool false, .slice none 0 0, .int .i64 0], .bool false]) (by simp [results, Tryz.results117, go_sem, g1]) rfl ?_
  exact ⟨rfl, f.b⟩

set_option maxRecDepth 100000 in
set_option maxHeartbeats 4000000 in
theorem Power_no {w : World} {u : Value} (hu : Cy w u x2) : Calls Tryz.prog 81 #[u, .agg #[.int .i64 1, .int .i64 2]] w fun e w' => e = .returned (.tuple #[.agg #[.bool false, .slice none 0 0, .int .i64 0], .bool false, .int .i64 0]) ∧ Below w.heap.size w w' := by
  have CA := Lib.hid (fun w u (h : Cy w u x2) => Bare_s h.ry x2_sd)
  rw [x2_bare] at CA
  have CL := Lib.hid (fun w => Low_half w)
  have CS : Hid (∀ w u, Cy w u x2 → Calls Tryz.prog 19 #[u] w fun e w' => e = .returned (.int .i64 1) ∧ Below w.heap.size w w') := fun w u h => Sign_d h.ry
  have CR := Lib.hid (fun w u (h : Cy w u x2) => rooted_no h)
  unfold x2 at *
  obtain ⟨a1, k1, c1, rfl⟩ := hu.fm
  have HX := Lib.hid hu
  clear hu
  go_enter Tryz.func81, Tryz.ntmps81
  have F0 := Lib.hid (Fx.three w 42 #[.bool false, .slice a1 k1 c1, .int .i64 1] 133 #[.int .i64 1, .int .i64 2] 42 #[.bool false, .slice none 0 0, .int .i64 0] rfl rfl rfl)
  have X0 := Lib.hid (((HX.out.alloc (.cells #[.bool false, .slice a1 k1 c1, .int .i64 1] 42)).alloc (.cells #[.int .i64 1, .int .i64 2] 133)).alloc (.cells #[.bool false, .slice none 0 0, .int .i64 0] 42))
  clear HX
  go_upto_region 1 with (fail)
  generalize World.alloc (World.alloc (World.alloc _ _) _) _ = w0 at F0 X0 ⊢
  have c0_0 := F0.out.c3 0 rfl
  have c1_0 := F0.out.c2 1 rfl
  have c2_0 := F0.out.c3 2 rfl
  go_wp2_with fail
  clear c0_0 c1_0 c2_0
  refine (CA.out _ _ X0.out).mono ?_
  rintro q w1 ⟨u, rfl, hu, hb⟩
  have F1 := Lib.hid (F0.out.call hb)
  have X1 := Lib.hid (X0.out.below hb)
  clear F0 X0
  have U1 := Lib.hid (hu)
  clear hb
  have c0_1 := F1.out.c3 0 rfl
  have c1_1 := F1.out.c2 1 rfl
  have c2_1 := F1.out.c3 2 rfl
  clear X1
  obtain ⟨a3, k3, c3, rfl⟩ := U1.out.fm
  go_upto_region 2 with (fail)
  clear c0_1 c1_1 c2_1
  obtain ⟨f, p⟩ := F1.out.s3 0 rfl (.bool false) (.slice a3 k3 c3) (.int .i64 1) rfl rfl rfl
  generalize (World.setCell (World.setCell (World.setCell _ _ _) _ _) _ _) = W at f p ⊢
  have F2 := Lib.hid (f)
  have U2 := Lib.hid (U1.out.kp p)
  clear F1 U1
  clear f p
  simp only [List.set_cons_zero] at F2
  have c0_2 := F2.out.c3 0 rfl
  have c1_2 := F2.out.c2 1 rfl
  have c2_2 := F2.out.c3 2 rfl
  go_wp2_with fail
  clear c0_2 c1_2 c2_2
  refine (CL.out _).mono ?_
  rintro q w3 ⟨rfl, hb⟩
  have F3 := Lib.hid (F2.out.call hb)
  have U3 := Lib.hid (U2.out.below hb)
  clear F2 U2
  clear hb
  have c0_3 := F3.out.c3 0 rfl
  have c1_3 := F3.out.c2 1 rfl
  have c2_3 := F3.out.c3 2 rfl
  go_upto_region 3 with (fail)
  clear c0_3 c1_3 c2_3
  obtain ⟨f, p⟩ := F3.out.s2 1 rfl (.int .i64 1) (.int .i64 2) rfl rfl
  generalize (World.setCell (World.setCell _ _ _) _ _) = W at f p ⊢
  have F4 := Lib.hid (f)
  have U4 := Lib.hid (U3.out.kp p)
  clear F3 U3
  clear f p
  simp only [List.set_cons_zero, List.set_cons_succ] at F4
  have c0_4 := F4.out.c3 0 rfl
  have c1_4 := F4.out.c2 1 rfl
  have c2_4 := F4.out.c3 2 rfl
  go_wp2_with fail
  clear c0_4 c1_4 c2_4
  refine (CS.out _ _ U4.out).mono ?_
  rintro q w5 ⟨rfl, hb⟩
  have F5 := Lib.hid (F4.out.call hb)
  have U5 := Lib.hid (U4.out.below hb)
  clear F4 U4
  clear hb
  have c0_5 := F5.out.c3 0 rfl
  have c1_5 := F5.out.c2 1 rfl
  have c2_5 := F5.out.c3 2 rfl
  go_wp2_with fail
  clear c0_5 c1_5 c2_5
  refine (CR.out _ _ U5.out).mono ?_
  rintro q w6 ⟨rfl, hb⟩
  have F6 := Lib.hid (F5.out.call hb)
  have U6 := Lib.hid (U5.out.below hb)
  clear F5 U5
  clear hb
  have c0_6 := F6.out.c3 0 rfl
  have c1_6 := F6.out.c2 1 rfl
  have c2_6 := F6.out.c3 2 rfl
  go_upto_region 8 with (fail)
  clear c0_6 c1_6 c2_6
  have F7 := Lib.hid (F6.out.new 42 #[.bool false, .slice none 0 0, .int .i64 0] rfl)
  have U7 := Lib.hid (U6.out.alloc (.cells #[.bool false, .slice none 0 0, .int .i64 0] 42))
  clear F6 U6
  obtain ⟨g4, hg4⟩ : ∃ g, g = (World.heap w6).size := ⟨_, rfl⟩
  rw [← hg4] at F7 ⊢
  clear hg4
  simp only [List.nil_append, List.cons_append] at F7
  generalize World.alloc w6 _ = W7 at F7 U7 ⊢
  have c0_7 := F7.out.c3 0 rfl
  have c1_7 := F7.out.c2 1 rfl
  have c2_7 := F7.out.c3 2 rfl
  have c3_7 := F7.out.c3 3 rfl
  go_wp2
  obtain ⟨f0, p0⟩ := F7.out.s3 2 rfl (.bool false) (.slice none 0 0) (.int .i64 0) rfl rfl rfl
  have p := p0
  have f := f0
  clear f0 p0
  generalize (World.setCell (World.setCell (World.setCell _ _ _) _ _) _ _) = W at f p ⊢
  have g2 := f.c3 2 rfl
  refine bodyPost_ret (v := .tuple #[.agg #[.bool false, .slice none 0 0, .int .i64 0], .bool false, .int .i64 0]) (by simp [results, Tryz.results81, go_sem, g2]) rfl ?_
  exact ⟨rfl, f.b⟩

set_option maxRecDepth 100000 in
set_option maxHeartbeats 4000000 in
theorem whole_half {w : World} {u : Value} (hu : Yk w u y2) : Calls Tryz.prog 80 #[u] w fun e w' => e = .returned (.tuple #[.agg #[.int .i64 1, .int .i64 2], .bool true]) ∧ Below w.heap.size w w' := by
  have CL := Lib.hid (fun w u (h : Yk w u y2) => lowest_r h y2_sd (by decide) (by rw [y2_bare]; decide +kernel))
  rw [y2_bare] at CL
  have CO := Lib.hid (fun w u (h : Cy w u y2) => Of_half h)
  unfold y2 at *
  obtain ⟨a1, k1, c1, rfl, hx⟩ := hu.fm
  have HX := Lib.hid hu
  clear hx hu
  go_enter Tryz.func80, Tryz.ntmps80
  have F0 := Lib.hid (Fz.two w 56 #[.bool false, .slice a1 k1 c1, .int .i64 (-1), .int .u64 1] 133 #[.int .i64 0, .int .i64 0])
  have X0 := Lib.hid ((HX.out.alloc (.cells #[.bool false, .slice a1 k1 c1, .int .i64 (-1), .int .u64 1] 56)).alloc (.cells #[.int .i64 0, .int .i64 0] 133))
  clear HX
  go_upto_region 1 with (fail)
  generalize World.alloc (World.alloc _ _) _ = w0 at F0 X0 ⊢
  have c0_0 := F0.out.c4 0 rfl
  have c1_0 := F0.out.c2 1 rfl
  go_wp2_with fail
  clear c0_0 c1_0
  refine (CL.out _ _ X0.out).mono ?_
  rintro q w1 ⟨u, rfl, hu, hb⟩
  have F1 := Lib.hid (F0.out.call hb)
  have X1 := Lib.hid (X0.out.below hb)
  clear F0 X0
  have U1 := Lib.hid (hu)
  clear hb
  have c0_1 := F1.out.c4 0 rfl
  have c1_1 := F1.out.c2 1 rfl
  clear X1
  obtain ⟨a3, k3, c3, rfl, hcy⟩ := U1.out.fm
  clear U1
  have V1 := Lib.hid hcy
  clear hcy
  go_upto_region 2 with (fail)
  clear c0_1 c1_1
  have f := F1.out.s4 0 rfl (.bool false) (.slice a3 k3 c3) (.int .i64 (-1)) (.int .u64 1)
  have hkp := Kp.s4same (F1.out.box 0 _ _ _ rfl) rfl rfl rfl rfl (a := .bool false) (b := .slice a3 k3 c3) (c := .int .i64 (-1))
  generalize World.setCell (World.setCell (World.setCell (World.setCell _ _ _) _ _) _ _) _ _ = W at f hkp ⊢
  have F2 := Lib.hid f
  have V2 := Lib.hid (V1.out.kp hkp)
  clear F1 V1 f hkp
  simp only [List.set_cons_zero] at F2
  have c0_2 := F2.out.c4 0 rfl
  have c1_2 := F2.out.c2 1 rfl
  go_wp2_with fail
  clear c0_2 c1_2
  refine (CO.out _ _ V2.out).mono ?_
  rintro q w3 ⟨rfl, hb⟩
  have F3 := Lib.hid (F2.out.call hb)
  have V3 := Lib.hid (V2.out.below hb)
  clear F2 V2
  clear hb
  have c0_3 := F3.out.c4 0 rfl
  have c1_3 := F3.out.c2 1 rfl
  clear V3
  go_upto_region 3 with (fail)
  clear c0_3 c1_3
  have F4 := Lib.hid (F3.out.new 133 #[.int .i64 1, .int .i64 2])
  obtain ⟨g4, hg4⟩ : ∃ g, g = (World.heap w3).size := ⟨_, rfl⟩
  rw [← hg4] at F4 ⊢
  clear hg4 F3
  simp only [List.nil_append, List.cons_append] at F4
  generalize World.alloc w3 _ = W4 at F4 ⊢
  have c0_4 := F4.out.c4 0 rfl
  have c1_4 := F4.out.c2 1 rfl
  have c2_4 := F4.out.c2 2 rfl
  go_quiet (fail)
  clear c0_4 c1_4 c2_4
  have F5 := Lib.hid (F4.out.drewN nq)
  have c0 := F5.out.c4 0 rfl
  have c1 := F5.out.c2 1 rfl
  have c2 := F5.out.c2 2 rfl
  go_wp2
  have f := F5.out.s2 1 rfl (.int .i64 1) (.int .i64 2)
  generalize World.setCell (World.setCell _ _ _) _ _ = W at f ⊢
  have g1 := f.c2 1 rfl
  refine bodyPost_ret (v := .tuple #[.agg #[.int .i64 1, .int .i64 2], .bool true]) (by simp [results, Tryz.results80, go_sem, g1]) rfl ?_
  exact ⟨rfl, f.b⟩

set_option maxRecDepth 100000 in
set_option maxHeartbeats 4000000 in
theorem Exact_half {w : World} {u : Value} (hu : Ak w u x2 y2 0 1024) (ok : AkOk x2 y2 0 1024) :
    Calls Tryz.prog 38 #[u] w fun e w' => e = .returned (.tuple #[.agg #[.bool false, .slice none 0 0, .int .i64 0], .bool false]) ∧ Below w.heap.size w w' := by
  have CR := Lib.hid (fun w u (h : Ak w u x2 y2 0 1024) => Right_a h ok)
  have CS := Lib.hid (fun w u (h : Ak w u x2 y2 0 1024) => Sign_a h ok)
  have CW := Lib.hid (fun w u (h : Yk w u y2) => whole_half h)
  have CP := Lib.hid (fun w u (h : Cy w u x2) => Power_no h)
  have e : signA x2 y2 = 1 := by kernel_rfl
  rw [e] at CS
  unfold x2 y2 at *
  have HU := Lib.hid hu
  obtain ⟨a1, k1, c1, a2, k2, c2, rfl, hx, hy⟩ := hu
  simp only at hx hy
  have HX := Lib.hid hx
  have HY := Lib.hid (show Yk w (.agg #[.bool false, .slice a2 k2 c2, .int .i64 (-1), .int .u64 1]) ⟨false, 1, -1⟩ from ⟨_, _, _, rfl, hy⟩)
  clear hx hy ok e
  go_enter Tryz.func38, Tryz.ntmps38
  have F0 := Lib.hid (Fz.two w 58 #[.bool false, .slice a1 k1 c1, .int .i64 1, .bool false, .slice a2 k2 c2, .int .i64 (-1), .int .u64 1, .bool false, .int .i64 0, .int .i64 64, .int .i64 1024] 42 #[.bool false, .slice none 0 0, .int .i64 0])
  have A0 := Lib.hid ((HU.out.alloc (.cells #[.bool false, .slice a1 k1 c1, .int .i64 1, .bool false, .slice a2 k2 c2, .int .i64 (-1), .int .u64 1, .bool false, .int .i64 0, .int .i64 64, .int .i64 1024] 58)).alloc (.cells #[.bool false, .slice none 0 0, .int .i64 0] 42))
  have Y0 := Lib.hid ((HY.out.alloc (.cells #[.bool false, .slice a1 k1 c1, .int .i64 1, .bool false, .slice a2 k2 c2, .int .i64 (-1), .int .u64 1, .bool false, .int .i64 0, .int .i64 64, .int .i64 1024] 58)).alloc (.cells #[.bool false, .slice none 0 0, .int .i64 0] 42))
  have X0 := Lib.hid ((HX.out.alloc (.cells #[.bool false, .slice a1 k1 c1, .int .i64 1, .bool false, .slice a2 k2 c2, .int .i64 (-1), .int .u64 1, .bool false, .int .i64 0, .int .i64 64, .int .i64 1024] 58)).alloc (.cells #[.bool false, .slice none 0 0, .int .i64 0] 42))
  clear HU HY HX
  go_upto_region 1 with (fail)
  generalize World.alloc (World.alloc _ _) _ = w0 at F0 A0 X0 Y0 ⊢
  have c0_0 := F0.out.c11 0 rfl
  have c1_0 := F0.out.c3 1 rfl
  go_wp2_with fail
  clear c0_0 c1_0
  refine (CR.out _ _ A0.out).mono ?_
  rintro q w1 ⟨rfl, hb⟩
  have F1 := Lib.hid (F0.out.call hb)
  have A1 := Lib.hid (A0.out.below hb)
  have X1 := Lib.hid (X0.out.below hb)
  have Y1 := Lib.hid (Y0.out.below hb)
  clear F0 A0 X0 Y0
  clear hb
  have c0_1 := F1.out.c11 0 rfl
  have c1_1 := F1.out.c3 1 rfl
  go_wp2_with fail
  clear c0_1 c1_1
  refine (CS.out _ _ A1.out).mono ?_
  rintro q w2 ⟨rfl, hb⟩
  have F2 := Lib.hid (F1.out.call hb)
  have A2 := Lib.hid (A1.out.below hb)
  have X2 := Lib.hid (X1.out.below hb)
  have Y2 := Lib.hid (Y1.out.below hb)
  clear F1 A1 X1 Y1
  clear hb
  have c0_2 := F2.out.c11 0 rfl
  have c1_2 := F2.out.c3 1 rfl
  go_wp2_with fail
  clear c0_2 c1_2
  refine (CW.out _ _ Y2.out).mono ?_
  rintro q w3 ⟨rfl, hb⟩
  have F3 := Lib.hid (F2.out.call hb)
  have A3 := Lib.hid (A2.out.below hb)
  have X3 := Lib.hid (X2.out.below hb)
  have Y3 := Lib.hid (Y2.out.below hb)
  clear F2 A2 X2 Y2
  clear hb
  have c0_3 := F3.out.c11 0 rfl
  have c1_3 := F3.out.c3 1 rfl
  clear A3 Y3
  go_upto_region 6 with (fail)
  clear c0_3 c1_3
  have F4 := Lib.hid (F3.out.new 133 #[.int .i64 1, .int .i64 2])
  have X4 := Lib.hid (X3.out.alloc (.cells #[.int .i64 1, .int .i64 2] 133))
  clear F3 X3
  obtain ⟨g4, hg4⟩ : ∃ g, g = (World.heap w3).size := ⟨_, rfl⟩
  rw [← hg4] at F4 ⊢
  clear hg4
  simp only [List.nil_append, List.cons_append] at F4
  generalize World.alloc w3 _ = W4 at F4 X4 ⊢
  have c0_4 := F4.out.c11 0 rfl
  have c1_4 := F4.out.c3 1 rfl
  have c2_4 := F4.out.c2 2 rfl
  go_wp2_with fail
  clear c0_4 c1_4 c2_4
  refine (CP.out _ _ X4.out).mono ?_
  rintro q w5 ⟨rfl, hb⟩
  have F5 := Lib.hid (F4.out.call hb)
  have X5 := Lib.hid (X4.out.below hb)
  clear F4 X4
  clear hb
  have c0_5 := F5.out.c11 0 rfl
  have c1_5 := F5.out.c3 1 rfl
  have c2_5 := F5.out.c2 2 rfl
  clear X5
  go_upto_region 9 with (fail)
  clear c0_5 c1_5 c2_5
  have F6 := Lib.hid (F5.out.new 42 #[.bool false, .slice none 0 0, .int .i64 0])
  clear F5
  obtain ⟨g5, hg5⟩ : ∃ g, g = (World.heap w5).size := ⟨_, rfl⟩
  rw [← hg5] at F6 ⊢
  clear hg5
  simp only [List.nil_append, List.cons_append] at F6
  generalize World.alloc w5 _ = W6 at F6 ⊢
  have c0_6 := F6.out.c11 0 rfl
  have c1_6 := F6.out.c3 1 rfl
  have c2_6 := F6.out.c2 2 rfl
  have c3_6 := F6.out.c3 3 rfl
  go_wp2
  have f := F6.out.s3 1 rfl (.bool false) (.slice none 0 0) (.int .i64 0)
  generalize World.setCell (World.setCell (World.setCell _ _ _) _ _) _ _ = W at f ⊢
  have g1 := f.c3 1 rfl
  refine bodyPost_ret (v := .tuple #[.agg #[.bool false, .slice none 0 0, .int .i64 0], .bool false]) (by simp [results, Tryz.results38, go_sem, g1]) rfl ?_
  exact ⟨rfl, f.b⟩

end Go.Proofs.YtobpioceopfkpaaGreatDoor

/-
  exps: right, units, floor, ceil, minus. Printed by gen_eb.py.
-/
namespace Go.Proofs.YtobpioceopfkpaaGreatDoor
open Go.RowKit

set_option maxRecDepth 100000 in
set_option maxHeartbeats 4000000 in
theorem Xright_r {w : World} {u : Value} {d : Dn} (hu : Ry w u d) (sd : Sd d) (ht : topN (bareN d) < 12) :
    Calls Tryz.prog 162 #[u] w fun e w' => e = .returned (.bool true) ∧ Below w.heap.size w w' := by
  have CA := Lib.hid (fun w (h : Ry w u d) => Bare_s h sd)
  have bd := sd.bare
  obtain ⟨a1, k1, c1, rfl⟩ := hu.form
  generalize bareN d = D at *
  have CT := Lib.hid (fun w u (h : Cy w u D) => Top_d h.ry)
  generalize topN D = t at *
  obtain ⟨n, m, e⟩ := D
  simp only at bd CT
  have CB := Lib.hid (fun w u (h : Dg w u m) => bits_r (h.rd (by omega)))
  generalize bl m = l at *
  generalize decide (m ≠ 0) = g at *
  have z1 : decide ((l : Int) ≤ 20000) = true := decide_eq_true (by omega)
  have z2 : decide ((-20000 : Int) ≤ e) = true := decide_eq_true (by omega)
  have z3 : decide (t < 12) = true := decide_eq_true ht
  have z4 : decide (l ≤ 20000) = true := decide_eq_true (by omega)
  have HUU := Lib.hid hu
  clear hu sd ht bd
  go_enter Tryz.func162, Tryz.ntmps162
  have F0 := Lib.hid (Fx.one w 42 #[.bool d.neg, .slice a1 k1 c1, .int .i64 d.e] rfl)
  have X0 := Lib.hid (HUU.out.alloc (.cells #[.bool d.neg, .slice a1 k1 c1, .int .i64 d.e] 42))
  clear HUU
  go_upto_region 1 with (fail)
  generalize World.alloc _ _ = w0 at F0 X0 ⊢
  have c0_0 := F0.out.c3 0 rfl
  go_wp2_with fail
  clear c0_0
  refine (CA.out _ X0.out).mono ?_
  rintro q w1 ⟨u, rfl, hu, hb⟩
  have F1 := Lib.hid (F0.out.call hb)
  have X1 := Lib.hid (X0.out.below hb)
  clear F0 X0
  have U1 := Lib.hid (hu)
  clear hb
  have c0_1 := F1.out.c3 0 rfl
  clear X1
  obtain ⟨a3, k3, c3, rfl⟩ := U1.out.fm
  go_upto_region 2 with (fail)
  clear c0_1
  obtain ⟨f, p⟩ := F1.out.s3 0 rfl (.bool n) (.slice a3 k3 c3) (.int .i64 e) rfl rfl rfl
  generalize (World.setCell (World.setCell (World.setCell _ _ _) _ _) _ _) = W at f p ⊢
  have F2 := Lib.hid (f)
  have U2 := Lib.hid (U1.out.kp p)
  clear F1 U1
  clear f p
  simp only [List.set_cons_zero] at F2
  have c0_2 := F2.out.c3 0 rfl
  go_wp2_with fail
  clear c0_2
  refine (CT.out _ _ U2.out).mono ?_
  rintro q w3 ⟨rfl, hb⟩
  have F3 := Lib.hid (F2.out.call hb)
  have U3 := Lib.hid (U2.out.below hb)
  clear F2 U2
  clear hb
  have c0_3 := F3.out.c3 0 rfl
  go_wp2_with fail
  clear c0_3
  refine (CB.out _ _ U3.out.dm).mono ?_
  rintro q w4 ⟨rfl, hb⟩
  have F4 := Lib.hid (F3.out.call hb)
  have U4 := Lib.hid (U3.out.below hb)
  clear F3 U3
  clear hb
  have c0_4 := F4.out.c3 0 rfl
  go_wp2
  go_ret
  exact ⟨rfl, F4.out.b⟩

def unitsN (d : Dn) (s : Nat) (above : Bool) : Nat :=
  if 0 ≤ (bareN d).e + (s : Int) then (bareN d).m * 2 ^ ((bareN d).e + (s : Int)).toNat
  else if (decide ((bareN d).m % 2 ^ (-(bareN d).e - (s : Int)).toNat ≠ 0) && above) = true then (bareN d).m / 2 ^ (-(bareN d).e - (s : Int)).toNat + 1 else (bareN d).m / 2 ^ (-(bareN d).e - (s : Int)).toNat

set_option maxRecDepth 100000 in
set_option maxHeartbeats 4000000 in
theorem Units_r {w : World} {u : Value} {d : Dn} (hu : Ry w u d) (sd : Sd d) (s : Nat) (hs : s ≤ 9000) (g : Bool) :
    Calls Tryz.prog 181 #[u, .int .i64 (s : Int), .bool g] w (RetDg (unitsN d s g) w) := by
  have CA := Lib.hid (fun w (h : Ry w u d) => Bare_s h sd)
  have bd := sd.bare
  obtain ⟨a1, k1, c1, rfl⟩ := hu.form
  have HR1 : 0 ≤ (bareN d).e + (s : Int) → Hid (unitsN d s g = (bareN d).m * 2 ^ ((bareN d).e + (s : Int)).toNat) := fun h => by unfold unitsN; rw [if_pos h]; exact rfl
  have HR2 : ¬ 0 ≤ (bareN d).e + (s : Int) → Hid (unitsN d s g = if (decide ((bareN d).m % 2 ^ (-(bareN d).e - (s : Int)).toNat ≠ 0) && g) = true then (bareN d).m / 2 ^ (-(bareN d).e - (s : Int)).toNat + 1 else (bareN d).m / 2 ^ (-(bareN d).e - (s : Int)).toNat) := fun h => by unfold unitsN; rw [if_neg h]; exact rfl
  generalize unitsN d s g = N at *
  generalize bareN d = D at *
  obtain ⟨n, m, e⟩ := D
  simp only at bd HR1 HR2
  have HUU := Lib.hid hu
  clear hu sd
  go_enter Tryz.func181, Tryz.ntmps181
  have F0 := Lib.hid (Fx.one w 42 #[.bool d.neg, .slice a1 k1 c1, .int .i64 d.e] rfl)
  have X0 := Lib.hid (HUU.out.alloc (.cells #[.bool d.neg, .slice a1 k1 c1, .int .i64 d.e] 42))
  clear HUU
  go_upto_region 1 with (fail)
  generalize World.alloc _ _ = w0 at F0 X0 ⊢
  have c0_0 := F0.out.c3 0 rfl
  go_wp2_with fail
  clear c0_0
  refine (CA.out _ X0.out).mono ?_
  rintro q w1 ⟨u, rfl, hu, hb⟩
  have F1 := Lib.hid (F0.out.call hb)
  have X1 := Lib.hid (X0.out.below hb)
  clear F0 X0
  have U1 := Lib.hid (hu)
  clear hb
  have c0_1 := F1.out.c3 0 rfl
  clear X1
  obtain ⟨a3, k3, c3, rfl⟩ := U1.out.fm
  go_upto_region 2 with (fail)
  clear c0_1
  obtain ⟨f, p⟩ := F1.out.s3 0 rfl (.bool n) (.slice a3 k3 c3) (.int .i64 e) rfl rfl rfl
  generalize (World.setCell (World.setCell (World.setCell _ _ _) _ _) _ _) = W at f p ⊢
  have F2 := Lib.hid (f)
  have U2 := Lib.hid (U1.out.kp p)
  clear F1 U1
  clear f p
  simp only [List.set_cons_zero] at F2
  have c0_2 := F2.out.c3 0 rfl
  by_cases hq : 0 ≤ e + (s : Int)
  · obtain ⟨j, hj⟩ : ∃ j, j = (e + (s : Int)).toNat := ⟨_, rfl⟩
    have CL := Lib.hid (fun w u (h : Dg w u m) => shl_s (h.rd (by omega)) j (by omega))
    have HR := HR1 hq
    have q1 : IntKind.i64.wrap (e + (s : Int)) = (j : Int) := by have := IntWalk.i64_in (e + (s : Int)) (by omega); omega
    rw [← hj] at HR
    clear HR1 HR2 bd hj hq hs
    go_wp2_with fail
    clear c0_2
    refine (CL.out _ _ U2.out.dm).mono ?_
    rintro q w3 ⟨u, rfl, hu, hb⟩
    have F3 := Lib.hid (F2.out.call hb)
    have U3 := Lib.hid (U2.out.below hb)
    clear F2 U2
    have P3 := Lib.hid (hu)
    clear hb
    have c0_3 := F3.out.c3 0 rfl
    obtain ⟨a4, k4, c4, rfl⟩ := P3.out.form
    go_wp2
    rw [HR.out]
    refine bodyPost_ret (v := .slice a4 k4 c4) (by simp [results, Tryz.results181, go_sem]) rfl ?_
    exact ⟨_, rfl, P3.out, F3.out.b⟩
  · obtain ⟨j, hj⟩ : ∃ j, j = (-e - (s : Int)).toNat := ⟨_, rfl⟩
    have CL := Lib.hid (fun w u (h : Dg w u m) => shr_r (h.rd (by omega)) j (by omega))
    have HR := HR2 (by omega)
    rw [← hj] at HR
    have bm : bl (m / 2 ^ j) ≤ 6000000 := by have := bl_mono (Nat.div_le_self m (2 ^ j)); omega
    obtain ⟨z, hz⟩ : ∃ z, z = e + (s : Int) := ⟨_, rfl⟩
    obtain ⟨ne, hne⟩ : ∃ ne, ne = -e := ⟨_, rfl⟩
    have q1 : IntKind.i64.wrap (e + (s : Int)) = z := by rw [hz]; exact IntWalk.i64_in _ (by omega)
    have q2 : IntKind.i64.wrap (-e) = ne := by rw [hne]; exact IntWalk.i64_in _ (by omega)
    have q3 : IntKind.i64.wrap (ne - (s : Int)) = (j : Int) := by have := IntWalk.i64_in (ne - (s : Int)) (by omega); omega
    have t1 : decide (0 ≤ z) = false := decide_eq_false (by omega)
    generalize m / 2 ^ j = md at *
    generalize decide (m % 2 ^ j ≠ 0) = r at *
    have BM := Lib.hid bm
    clear HR1 HR2 bd hj hq hs hz hne bm
    go_wp2_with fail
    clear c0_2
    refine (CL.out _ _ U2.out.dm).mono ?_
    rintro q w3 ⟨u, rfl, hu, hb⟩
    have F3 := Lib.hid (F2.out.call hb)
    have U3 := Lib.hid (U2.out.below hb)
    clear F2 U2
    have P3 := Lib.hid (hu)
    clear hb
    have c0_3 := F3.out.c3 0 rfl
    clear U3
    obtain ⟨a4, k4, c4, rfl⟩ := P3.out.form
    cases r
    case false =>
      go_wp2
      have HX : N = md := HR.out
      rw [HX]
      refine bodyPost_ret (v := .slice a4 k4 c4) (by simp [results, Tryz.results181, go_sem]) rfl ?_
      exact ⟨_, rfl, P3.out, F3.out.b⟩
    case true =>
      cases g
      case false =>
        go_wp2
        have HX : N = md := HR.out
        rw [HX]
        refine bodyPost_ret (v := .slice a4 k4 c4) (by simp [results, Tryz.results181, go_sem]) rfl ?_
        exact ⟨_, rfl, P3.out, F3.out.b⟩
      case true =>
        go_wp2_with fail
        clear c0_3
        refine (of_any (n := 1) (by decide) P3.out.tab).mono ?_
        rintro q w4 ⟨u, rfl, hu, hb⟩
        have F4 := Lib.hid (F3.out.call hb)
        have P4 := Lib.hid (P3.out.below hb)
        clear F3 P3
        have O4 := Lib.hid (hu)
        clear hb
        have c0_4 := F4.out.c3 0 rfl
        go_wp2_with fail
        clear c0_4
        refine (add_r (P4.out.rd BM.out) (O4.out.rd (by have : bl 1 ≤ 64 := bl64 (by decide); omega))).mono ?_
        rintro q w5 ⟨u, rfl, hu, hb⟩
        have F5 := Lib.hid (F4.out.call hb)
        have P5 := Lib.hid (P4.out.below hb)
        have O5 := Lib.hid (O4.out.below hb)
        clear F4 P4 O4
        have R5 := Lib.hid (hu)
        clear hb
        have c0_5 := F5.out.c3 0 rfl
        obtain ⟨a5, k5, c5, rfl⟩ := R5.out.form
        go_wp2
        have HX : N = md + 1 := HR.out
        rw [HX]
        refine bodyPost_ret (v := .slice a5 k5 c5) (by simp [results, Tryz.results181, go_sem]) rfl ?_
        exact ⟨_, rfl, R5.out, F5.out.b⟩

/-- a size with a sign -/
def Nm (w : World) (v : Value) (n : Bool) (m : Nat) : Prop := ∃ a k c, v = .agg #[.bool n, .slice a k c] ∧ Dg w (.slice a k c) m
theorem Nm.below {w w' : World} {v : Value} {n : Bool} {m : Nat} (h : Nm w v n m) (hb : Below w.heap.size w w') : Nm w' v n m := by
  obtain ⟨a, k, c, h1, h2⟩ := h; exact ⟨a, k, c, h1, h2.below hb⟩
theorem Nm.drew {w : World} {v : Value} {n : Bool} {m : Nat} (h : Nm w v n m) : Nm w.drew v n m := by
  obtain ⟨a, k, c, h1, h2⟩ := h; exact ⟨a, k, c, h1, h2.drew⟩
theorem Nm.alloc {w : World} {v : Value} {n : Bool} {m : Nat} (h : Nm w v n m) (o : Obj) : Nm (w.alloc o) v n m := by
  obtain ⟨a, k, c, h1, h2⟩ := h; exact ⟨a, k, c, h1, h2.alloc o⟩
theorem Nm.kp {w w' : World} {v : Value} {n : Bool} {m : Nat} (h : Nm w v n m) (K : Kp w w') : Nm w' v n m := by
  obtain ⟨a, k, c, h1, h2⟩ := h; exact ⟨a, k, c, h1, h2.kp K⟩
theorem Nm.dg {w : World} {a : Option Addr} {k c : Nat} {n n' : Bool} {m : Nat} (h : Nm w (.agg #[.bool n', .slice a k c]) n m) : Dg w (.slice a k c) m ∧ n' = n := by
  obtain ⟨a', k', c', h1, h2⟩ := h
  simp only [Value.agg.injEq, Array.mk.injEq, List.cons.injEq, Value.bool.injEq, and_true] at h1
  obtain ⟨r1, r2⟩ := h1
  rw [r2]
  exact ⟨h2, r1⟩
def RetNm (n : Bool) (m : Nat) (w : World) (e : Ending) (w' : World) : Prop := ∃ u, e = .returned u ∧ Nm w' u n m ∧ Below w.heap.size w w'

set_option maxRecDepth 100000 in
set_option maxHeartbeats 4000000 in
theorem Floor_r {w : World} {u : Value} {d : Dn} (hu : Ry w u d) (sd : Sd d) (s : Nat) (hs : s ≤ 9000) (g : Bool) (hg : decide (signN d < 0) = g) :
    Calls Tryz.prog 163 #[u, .int .i64 (s : Int)] w (RetNm g (unitsN d s (g)) w) := by
  have CS := Lib.hid (fun w (h : Ry w u d) => Sign_d h)
  have CU := Lib.hid (fun w (h : Ry w u d) => Units_r h sd s hs (g))
  obtain ⟨a1, k1, c1, rfl⟩ := hu.form
  generalize signN d = sg at *
  generalize unitsN d s (g) = N at *
  have HUU := Lib.hid hu
  clear hu sd hs
  go_enter Tryz.func163, Tryz.ntmps163
  have F0 := Lib.hid (Fx.two w 42 #[.bool d.neg, .slice a1 k1 c1, .int .i64 d.e] 221 #[.bool false, .slice none 0 0] rfl rfl)
  have X0 := Lib.hid ((HUU.out.alloc (.cells #[.bool d.neg, .slice a1 k1 c1, .int .i64 d.e] 42)).alloc (.cells #[.bool false, .slice none 0 0] 221))
  clear HUU
  go_upto_region 1 with (fail)
  generalize World.alloc (World.alloc _ _) _ = w0 at F0 X0 ⊢
  have c0_0 := F0.out.c3 0 rfl
  have c1_0 := F0.out.c2 1 rfl
  go_wp2_with fail
  clear c0_0 c1_0
  refine (CS.out _ X0.out).mono ?_
  rintro q w1 ⟨rfl, hb⟩
  have F1 := Lib.hid (F0.out.call hb)
  have X1 := Lib.hid (X0.out.below hb)
  clear F0 X0
  clear hb
  have c0_1 := F1.out.c3 0 rfl
  have c1_1 := F1.out.c2 1 rfl
  go_wp2_with fail
  clear c0_1 c1_1
  refine (CU.out _ X1.out).mono ?_
  rintro q w2 ⟨u, rfl, hu, hb⟩
  have F2 := Lib.hid (F1.out.call hb)
  have X2 := Lib.hid (X1.out.below hb)
  clear F1 X1
  have U2 := Lib.hid (hu)
  clear hb
  have c0_2 := F2.out.c3 0 rfl
  have c1_2 := F2.out.c2 1 rfl
  obtain ⟨a3, k3, c3, rfl⟩ := U2.out.form
  go_wp2
  obtain ⟨f0, p0⟩ := F2.out.s2 1 rfl (.bool g) (.slice a3 k3 c3) rfl rfl
  have p := p0
  have f := f0
  clear f0 p0
  generalize (World.setCell (World.setCell _ _ _) _ _) = W at f p ⊢
  have g1 := f.c2 1 rfl
  refine bodyPost_ret (v := .agg #[.bool g, .slice a3 k3 c3]) (by simp [results, Tryz.results163, go_sem, g1]) rfl ?_
  exact ⟨_, rfl, ⟨_, _, _, rfl, U2.out.kp p⟩, f.b⟩

set_option maxRecDepth 100000 in
set_option maxHeartbeats 4000000 in
theorem Ceil_r {w : World} {u : Value} {d : Dn} (hu : Ry w u d) (sd : Sd d) (s : Nat) (hs : s ≤ 9000) (g : Bool) (hg : decide (signN d < 0) = g) :
    Calls Tryz.prog 164 #[u, .int .i64 (s : Int)] w (RetNm g (unitsN d s (!g)) w) := by
  have CS := Lib.hid (fun w (h : Ry w u d) => Sign_d h)
  have CU := Lib.hid (fun w (h : Ry w u d) => Units_r h sd s hs (!g))
  obtain ⟨a1, k1, c1, rfl⟩ := hu.form
  generalize signN d = sg at *
  generalize unitsN d s (!g) = N at *
  have HUU := Lib.hid hu
  clear hu sd hs
  go_enter Tryz.func164, Tryz.ntmps164
  have F0 := Lib.hid (Fx.two w 42 #[.bool d.neg, .slice a1 k1 c1, .int .i64 d.e] 221 #[.bool false, .slice none 0 0] rfl rfl)
  have X0 := Lib.hid ((HUU.out.alloc (.cells #[.bool d.neg, .slice a1 k1 c1, .int .i64 d.e] 42)).alloc (.cells #[.bool false, .slice none 0 0] 221))
  clear HUU
  go_upto_region 1 with (fail)
  generalize World.alloc (World.alloc _ _) _ = w0 at F0 X0 ⊢
  have c0_0 := F0.out.c3 0 rfl
  have c1_0 := F0.out.c2 1 rfl
  go_wp2_with fail
  clear c0_0 c1_0
  refine (CS.out _ X0.out).mono ?_
  rintro q w1 ⟨rfl, hb⟩
  have F1 := Lib.hid (F0.out.call hb)
  have X1 := Lib.hid (X0.out.below hb)
  clear F0 X0
  clear hb
  have c0_1 := F1.out.c3 0 rfl
  have c1_1 := F1.out.c2 1 rfl
  go_wp2_with fail
  clear c0_1 c1_1
  refine (CU.out _ X1.out).mono ?_
  rintro q w2 ⟨u, rfl, hu, hb⟩
  have F2 := Lib.hid (F1.out.call hb)
  have X2 := Lib.hid (X1.out.below hb)
  clear F1 X1
  have U2 := Lib.hid (hu)
  clear hb
  have c0_2 := F2.out.c3 0 rfl
  have c1_2 := F2.out.c2 1 rfl
  obtain ⟨a3, k3, c3, rfl⟩ := U2.out.form
  go_wp2
  obtain ⟨f0, p0⟩ := F2.out.s2 1 rfl (.bool g) (.slice a3 k3 c3) rfl rfl
  have p := p0
  have f := f0
  clear f0 p0
  generalize (World.setCell (World.setCell _ _ _) _ _) = W at f p ⊢
  have g1 := f.c2 1 rfl
  refine bodyPost_ret (v := .agg #[.bool g, .slice a3 k3 c3]) (by simp [results, Tryz.results164, go_sem, g1]) rfl ?_
  exact ⟨_, rfl, ⟨_, _, _, rfl, U2.out.kp p⟩, f.b⟩

set_option maxRecDepth 100000 in
set_option maxHeartbeats 4000000 in
theorem Minus_m {w : World} {u v : Value} {m q : Nat} (hu : Nm w u false m) (hv : Rd w v q) (hq : q ≤ m) (hm : bl m ≤ 6000000) :
    Calls Tryz.prog 168 #[u, v] w (RetNm false (m - q) w) := by
  obtain ⟨a1, k1, c1, rfl, hd⟩ := hu
  obtain ⟨a2, k2, c2, rfl⟩ := hv.form
  have CS := Lib.hid (fun w u (h : Dg w u m) (k : Rd w (.slice a2 k2 c2) q) => sub_r (h.rd hm) k)
  have e1 : subE m q = 0 := by unfold subE; rw [if_neg (by omega)]
  rw [e1] at CS
  generalize m - q = z at *
  have HD := Lib.hid hd
  have HV := Lib.hid hv
  clear hd hv hq hm e1
  go_enter Tryz.func168, Tryz.ntmps168
  have F0 := Lib.hid (Fx.two w 221 #[.bool false, .slice a1 k1 c1] 221 #[.bool false, .slice none 0 0] rfl rfl)
  have X0 := Lib.hid ((HD.out.alloc (.cells #[.bool false, .slice a1 k1 c1] 221)).alloc (.cells #[.bool false, .slice none 0 0] 221))
  have Y0 := Lib.hid ((HV.out.alloc (.cells #[.bool false, .slice a1 k1 c1] 221)).alloc (.cells #[.bool false, .slice none 0 0] 221))
  clear HD HV
  go_upto_region 1 with (fail)
  generalize World.alloc (World.alloc _ _) _ = w0 at F0 X0 Y0 ⊢
  have c0_0 := F0.out.c2 0 rfl
  have c1_0 := F0.out.c2 1 rfl
  go_wp2_with fail
  clear c0_0 c1_0
  refine (CS.out _ _ X0.out Y0.out).mono ?_
  rintro q w1 ⟨u, rfl, hu, hb⟩
  have F1 := Lib.hid (F0.out.call hb)
  have X1 := Lib.hid (X0.out.below hb)
  have Y1 := Lib.hid (Y0.out.below hb)
  clear F0 X0 Y0
  have U1 := Lib.hid (hu)
  clear hb
  have c0_1 := F1.out.c2 0 rfl
  have c1_1 := F1.out.c2 1 rfl
  obtain ⟨a3, k3, c3, rfl⟩ := U1.out.form
  go_wp2
  obtain ⟨f0, p0⟩ := F1.out.s2 1 rfl (.bool false) (.slice a3 k3 c3) rfl rfl
  have p := p0
  have f := f0
  clear f0 p0
  generalize (World.setCell (World.setCell _ _ _) _ _) = W at f p ⊢
  have g1 := f.c2 1 rfl
  refine bodyPost_ret (v := .agg #[.bool false, .slice a3 k3 c3]) (by simp [results, Tryz.results168, go_sem, g1]) rfl ?_
  exact ⟨_, rfl, ⟨_, _, _, rfl, U1.out.kp p⟩, f.b⟩

end Go.Proofs.YtobpioceopfkpaaGreatDoor
