/-
  core: Do, found at the first try, whatever the interval. Printed by gen_ee.py.
-/
import Derived.Test.YtobpioceopfkpaaGreatDoorM30
import Derived.Test.YtobpioceopfkpaaGreatDoorM24
import Derived.BigRegion
import Derived.Test.YtobpioceopfkpaaGreatDoorM25
import Derived.Test.YtobpioceopfkpaaGreatDoorM27
import Derived.Test.YtobpioceopfkpaaGreatDoorM29
import Derived.Test.YtobpioceopfkpaaGreatDoorRows
import Derived.Test.YtobpioceopfkpaaGreatDoorM01
import Derived.WalkKit
import Derived.ProofKit
import Derived.OpenShut
import Derived.LaidMore
import Derived.Lib.LaidTab
import Derived.Stop.Joined
namespace Go.Proofs.YtobpioceopfkpaaGreatDoor
open Go.RowKit

set_option maxRecDepth 100000 in
set_option maxHeartbeats 4000000 in
theorem Do_open {w : World} {u : Value} {x y : Dn} {z tt B : Int} (hu : Ak w u x y z tt) (ok : AkOk x y z tt)
    (ce : ∀ w u, Ak w u x y z tt → Calls Tryz.prog 38 #[u] w fun e w' => e = .returned (.tuple #[.agg #[.bool false, .slice none 0 0, .int .i64 0], .bool false]) ∧ Below w.heap.size w w')
    (ct : ∀ w u, Ak w u x y z tt → Calls Tryz.prog 45 #[u, .int .i64 (signA x y), .int .i64 64] w (RetAns B w)) :
    Calls Tryz.prog 20 #[u, .pointer none] w fun e w' => e = .returned (.tuple #[.agg #[.int .u64 B, .int .u8 1, .int .i64 0], .int .i64 1, .int .i64 0]) ∧ Below w.heap.size w w' := by
  have CR := Lib.hid (fun w u (h : Ak w u x y z tt) => Right_a h ok)
  have CE := Lib.hid ce
  have CP := Lib.hid (fun w => Plan_first w tt ok.htt)
  have CS := Lib.hid (fun w u (h : Ak w u x y z tt) => Sign_a h ok)
  have CD := Lib.hid (fun w g1 g2 uu (b1 : Blk w g1 58 uu) (b2 : Blk w g2 3 #[.int .i64 (signA x y)]) (hu : Ak w (.agg uu) x y z tt) => Do1_open b1 b2 hu (fun w h => ct w _ h))
  generalize signA x y = sg at *
  have HU := Lib.hid hu
  obtain ⟨a1, k1, c1, a2, k2, c2, rfl, hx, hy⟩ := hu
  obtain ⟨xn, xm, xe⟩ := x
  obtain ⟨yn, ym, ye⟩ := y
  clear hx hy ok ce ct
  go_enter Tryz.func20, Tryz.ntmps20
  have F0 := Lib.hid (Fz.two w 58 #[.bool xn, .slice a1 k1 c1, .int .i64 xe, .bool yn, .slice a2 k2 c2, .int .i64 ye, .int .u64 1, .bool false, .int .i64 z, .int .i64 64, .int .i64 tt] 32 #[.int .u64 0, .int .u8 0, .int .i64 0])
  have U0 := Lib.hid ((HU.out.alloc (.cells #[.bool xn, .slice a1 k1 c1, .int .i64 xe, .bool yn, .slice a2 k2 c2, .int .i64 ye, .int .u64 1, .bool false, .int .i64 z, .int .i64 64, .int .i64 tt] 58)).alloc (.cells #[.int .u64 0, .int .u8 0, .int .i64 0] 32))
  clear HU
  go_upto_region 1 with (fail)
  generalize World.alloc (World.alloc _ _) _ = w0 at F0 U0 ⊢
  have c0_0 := F0.out.c11 0 rfl
  have c1_0 := F0.out.c3 1 rfl
  go_wp2_with fail
  clear c0_0 c1_0
  refine (CR.out _ _ U0.out).mono ?_
  rintro q w1 ⟨rfl, hb⟩
  have F1 := Lib.hid (F0.out.call hb)
  have U1 := Lib.hid (U0.out.below hb)
  clear F0 U0
  clear hb
  have c0_1 := F1.out.c11 0 rfl
  have c1_1 := F1.out.c3 1 rfl
  go_wp2_with fail
  clear c0_1 c1_1
  refine (CE.out _ _ U1.out).mono ?_
  rintro q w2 ⟨rfl, hb⟩
  have F2 := Lib.hid (F1.out.call hb)
  have U2 := Lib.hid (U1.out.below hb)
  clear F1 U1
  clear hb
  have c0_2 := F2.out.c11 0 rfl
  have c1_2 := F2.out.c3 1 rfl
  go_upto_region 4 with (fail)
  clear c0_2 c1_2
  have F3 := Lib.hid (F2.out.new 42 #[.bool false, .slice none 0 0, .int .i64 0])
  have U3 := Lib.hid (U2.out.alloc (.cells #[.bool false, .slice none 0 0, .int .i64 0] 42))
  clear F2 U2
  obtain ⟨g1, hg1⟩ : ∃ g, g = (World.heap w2).size := ⟨_, rfl⟩
  rw [← hg1] at F3 ⊢
  clear hg1
  simp only [List.nil_append, List.cons_append] at F3
  generalize World.alloc w2 _ = W3 at F3 U3 ⊢
  have c0_3 := F3.out.c11 0 rfl
  have c1_3 := F3.out.c3 1 rfl
  have c2_3 := F3.out.c3 2 rfl
  go_wp2_with fail
  clear c0_3 c1_3 c2_3
  refine (CP.out _).mono ?_
  rintro q w4 ⟨g, cap, n, rfl, hn, hc, hb⟩
  have F4 := Lib.hid (F3.out.call hb)
  have U4 := Lib.hid (U3.out.below hb)
  clear F3 U3
  have L4 := Lib.hid (show World.cell? _ ⟨g, 0, none⟩ = some (.int .i64 64) from hc)
  clear hb
  have c0_4 := F4.out.c11 0 rfl
  have c1_4 := F4.out.c3 1 rfl
  have c2_4 := F4.out.c3 2 rfl
  have HN := Lib.hid hn
  clear hn hc
  go_wp2_with fail
  clear c0_4 c1_4 c2_4
  refine (CS.out _ _ U4.out).mono ?_
  rintro q w5 ⟨rfl, hb⟩
  have F5 := Lib.hid (F4.out.call hb)
  have U5 := Lib.hid (U4.out.below hb)
  have L5 := Lib.hid (show World.cell? _ ⟨g, 0, none⟩ = some (.int .i64 64) from cell_below hb (Nat.le_refl _) L4.out)
  clear F4 U4 L4
  clear hb
  have c0_5 := F5.out.c11 0 rfl
  have c1_5 := F5.out.c3 1 rfl
  have c2_5 := F5.out.c3 2 rfl
  go_upto_region 11 with (fail)
  clear c0_5 c1_5 c2_5
  have F6 := Lib.hid (F5.out.new 3 #[.int .i64 sg])
  have U6 := Lib.hid (U5.out.alloc (.cells #[.int .i64 sg] 3))
  have L6 := Lib.hid (show World.cell? _ ⟨g, 0, none⟩ = some (.int .i64 64) from (World.cell?_alloc_lt _ (.cells #[.int .i64 sg] 3) _ (cell_lt L5.out)).trans L5.out)
  clear F5 U5 L5
  obtain ⟨g2, hg2⟩ : ∃ g, g = (World.heap w5).size := ⟨_, rfl⟩
  rw [← hg2] at F6 ⊢
  clear hg2
  simp only [List.nil_append, List.cons_append] at F6
  generalize World.alloc w5 _ = W6 at F6 U6 L6 ⊢
  have c0_6 := F6.out.c11 0 rfl
  have c1_6 := F6.out.c3 1 rfl
  have c2_6 := F6.out.c3 2 rfl
  have c3_6 := F6.out.c1 3 rfl
  go_wp2_with fail
  have CG := Lib.hid (Go_open (g := g) (cap := cap) (n := n) (B := B) HN.out L6.out ⟨w.heap.size, 0, none⟩ ⟨g2, 0, none⟩ (fun w' hb => CD.out w' w.heap.size g2 _ ((F6.out.box 0 _ _ _ rfl).below hb) ((F6.out.box 3 _ _ _ rfl).below hb) (U6.out.below hb)))
  clear c0_6 c1_6 c2_6 c3_6
  refine (CG.out).mono ?_
  rintro q w7 ⟨n1, s1, l1, d1, e1, n2, s2, l2, d2, e2, rfl, hb⟩
  have F7 := Lib.hid (F6.out.call hb)
  have U7 := Lib.hid (U6.out.below hb)
  have L7 := Lib.hid (show World.cell? _ ⟨g, 0, none⟩ = some (.int .i64 64) from cell_below hb (Nat.le_refl _) L6.out)
  clear F6 U6 L6
  clear hb
  have c0_7 := F7.out.c11 0 rfl
  have c1_7 := F7.out.c3 1 rfl
  have c2_7 := F7.out.c3 2 rfl
  have c3_7 := F7.out.c1 3 rfl
  clear U7 L7
  go_upto_region 12 with (fail)
  clear c0_7 c1_7 c2_7 c3_7
  have F8 := Lib.hid (F7.out.new 97 #[.int .u64 B, .int .u8 1, .int .i64 0, .bool n1, .slice s1 l1 d1, .int .i64 e1, .bool n2, .slice s2 l2 d2, .int .i64 e2, .int .i64 64, .int .i64 1, .int .i64 0])
  clear F7
  obtain ⟨g3, hg3⟩ : ∃ g, g = (World.heap w7).size := ⟨_, rfl⟩
  rw [← hg3] at F8 ⊢
  clear hg3
  simp only [List.nil_append, List.cons_append] at F8
  generalize World.alloc w7 _ = W8 at F8 ⊢
  have c0_8 := F8.out.c11 0 rfl
  have c1_8 := F8.out.c3 1 rfl
  have c2_8 := F8.out.c3 2 rfl
  have c3_8 := F8.out.c1 3 rfl
  have c4_8 := F8.out.c12 4 rfl
  go_upto_region 13 with (fail)
  clear c0_8 c1_8 c2_8 c3_8 c4_8
  have e0 := (F8.out.c12 4 rfl).1
  have e1' := F8.out.c3 1 rfl
  have d0 := (F8.out.drew.c12 4 rfl).1
  have d1' := F8.out.drew.c3 1 rfl
  have hne : ¬ g3 = w.heap.size + 1 ∧ ¬ w.heap.size + 1 = g3 := by have := F8.out.asc 1 4 _ _ _ _ _ _ (by decide) rfl rfl; omega
  go_region
  all_goals
    go_wp2
    have f := (F8.out.s3 1 rfl (.int .u64 B) (.int .u8 1) (.int .i64 0)).drew
    generalize World.drew (World.setCell (World.setCell (World.setCell _ _ _) _ _) _ _) = W at f ⊢
    have g1' := f.c3 1 rfl
    refine bodyPost_ret (v := .tuple #[.agg #[.int .u64 B, .int .u8 1, .int .i64 0], .int .i64 1, .int .i64 0]) (by simp [results, Tryz.results20, go_sem, g1']) rfl ?_
    exact ⟨rfl, f.b⟩

end Go.Proofs.YtobpioceopfkpaaGreatDoor

/-
  ops.Pow, whatever Do answers; Plain. Printed by gen_ei.py.
-/
namespace Go.Proofs.YtobpioceopfkpaaGreatDoor
open Go.RowKit

set_option maxRecDepth 100000 in
set_option maxHeartbeats 4000000 in
theorem Pow_any {w : World} {x y : Nat} {z tt b : Int} (hx : x < 9223372036854775808) (hy : y < 18446744073709551616) (fx : fld x < 2047) (fy : fld y < 2047) (nx : ¬ (fld x = 0 ∧ frc x = 0)) (ny : ¬ (fld y = 0 ∧ frc y = 0)) (h1 : x ≠ 4607182418800017408) (he : (dyD y).e < 0) (t : Tab w)
    (hz : 0 ≤ z ∧ z ≤ 3) (htt : tt = 64 ∨ tt = 1024)
    (hdo : ∀ (w' : World) (r : Value), Ak w' r (dyD x) (dyD y) z tt → Calls Tryz.prog 20 #[r, .pointer none] w' fun e w'' => e = .returned (.tuple #[.agg #[.int .u64 b, .int .u8 1, .int .i64 0], .int .i64 1, .int .i64 0]) ∧ Below w'.heap.size w' w'') :
    Calls Tryz.prog 11 #[.int .u64 (x : Int), .int .u64 (y : Int), howV z tt] w fun e w' => e = .returned (.tuple #[.agg #[.int .u64 b, .int .u8 1, .int .i64 0], .int .i64 1, .int .i64 0]) ∧ Below w.heap.size w w' := by
  have CS := Lib.hid (fun w (t : Tab w) => special_no hx hy fx fy nx ny h1 he t)
  have C1 := Lib.hid (fun w gy gx gh (t : Tab w) b1 b2 b3 => Pow1_r (w := w) (gy := gy) (gx := gx) (gh := gh) (z := z) (tt := tt) hx hy fx fy he t b1 b2 b3)
  have CDO := Lib.hid hdo
  have CE := Lib.hid (fun (w : World) p1 p2 p3 hcl => does_r (w := w) (x := dyD x) (y := dyD y) (z := z) (tt := tt) (b := b) hz htt p1 p2 p3 hcl CDO.out)
  generalize dyD x = dx at *
  generalize dyD y = dy at *
  have HT := Lib.hid t
  clear hx hy fx fy nx ny h1 he t hdo CDO hz htt
  unfold howV at *
  go_enter Tryz.func11, Tryz.ntmps11
  have F0 := Lib.hid (Fz.four w 22 #[.int .u64 (x : Int)] 22 #[.int .u64 (y : Int)] 28 #[.int .i64 z, .int .i64 64, .int .i64 tt, .pointer none] 32 #[.int .u64 0, .int .u8 0, .int .i64 0])
  have T0 := Lib.hid (HT.out.below F0.out.b)
  go_upto_region 1 with (fail)
  generalize World.alloc (World.alloc (World.alloc (World.alloc _ _) _) _) _ = w0 at F0 T0 ⊢
  have c0_0 := F0.out.c1 0 rfl
  have c1_0 := F0.out.c1 1 rfl
  have c2_0 := F0.out.c4 2 rfl
  have c3_0 := F0.out.c3 3 rfl
  go_wp2_with fail
  clear c0_0 c1_0 c2_0 c3_0
  refine (CS.out _ T0.out).mono ?_
  rintro q w1 ⟨rfl, hb⟩
  have F1 := Lib.hid (F0.out.call hb)
  have T1 := Lib.hid (T0.out.below hb)
  clear F0 T0
  clear hb
  have c0_1 := F1.out.c1 0 rfl
  have c1_1 := F1.out.c1 1 rfl
  have c2_1 := F1.out.c4 2 rfl
  have c3_1 := F1.out.c3 3 rfl
  go_upto_region 2 with (fail)
  clear c0_1 c1_1 c2_1 c3_1
  have F2 := Lib.hid (F1.out.new 32 #[.int .u64 0, .int .u8 0, .int .i64 0])
  have T2 := Lib.hid (T1.out.alloc (.cells #[.int .u64 0, .int .u8 0, .int .i64 0] 32))
  clear F1 T1
  obtain ⟨g1, hg1⟩ : ∃ g, g = (World.heap w1).size := ⟨_, rfl⟩
  rw [← hg1] at F2 ⊢
  clear hg1
  simp only [List.nil_append, List.cons_append] at F2
  generalize World.alloc w1 _ = W2 at F2 T2 ⊢
  have c0_2 := F2.out.c1 0 rfl
  have c1_2 := F2.out.c1 1 rfl
  have c2_2 := F2.out.c4 2 rfl
  have c3_2 := F2.out.c3 3 rfl
  have c4_2 := F2.out.c3 4 rfl
  go_wp2_with fail
  have CG := Lib.hid (CE.out W2 ⟨w.heap.size + 1, 0, none⟩ ⟨w.heap.size, 0, none⟩ ⟨w.heap.size + 1 + 1, 0, none⟩ (fun w' hb => C1.out w' (w.heap.size + 1) w.heap.size (w.heap.size + 1 + 1) (T2.out.below hb) ((F2.out.box 1 _ _ _ rfl).below hb) ((F2.out.box 0 _ _ _ rfl).below hb) ((F2.out.box 2 _ _ _ rfl).below hb)))
  clear c0_2 c1_2 c2_2 c3_2 c4_2
  refine (CG.out).mono ?_
  rintro q w3 ⟨rfl, hb⟩
  have F3 := Lib.hid (F2.out.call hb)
  have T3 := Lib.hid (T2.out.below hb)
  clear F2 T2
  clear hb
  have c0_3 := F3.out.c1 0 rfl
  have c1_3 := F3.out.c1 1 rfl
  have c2_3 := F3.out.c4 2 rfl
  have c3_3 := F3.out.c3 3 rfl
  have c4_3 := F3.out.c3 4 rfl
  clear T3
  go_wp2
  have f := F3.out.s3 3 rfl (.int .u64 b) (.int .u8 1) (.int .i64 0)
  generalize World.setCell (World.setCell (World.setCell _ _ _) _ _) _ _ = W at f ⊢
  have g1' := f.c3 3 rfl
  refine bodyPost_ret (v := .tuple #[.agg #[.int .u64 b, .int .u8 1, .int .i64 0], .int .i64 1, .int .i64 0]) (by simp [results, Tryz.results11, go_sem, g1']) rfl ?_
  exact ⟨rfl, f.b⟩


set_option maxRecDepth 100000 in
set_option maxHeartbeats 4000000 in
theorem Plain_r (w : World) : Calls Tryz.prog 14 #[] w fun e w' => e = .returned (howV 0 1024) ∧ Below w.heap.size w w' := by
  unfold howV
  go_enter Tryz.func14, Tryz.ntmps14
  have F0 := Lib.hid (Fz.one w 28 #[.int .i64 0, .int .i64 0, .int .i64 0, .pointer none])
  go_upto_region 1 with (fail)
  generalize World.alloc _ _ = w0 at F0 ⊢
  have c0 := F0.out.c4 0 rfl
  go_wp2
  have f := F0.out.s4 0 rfl (.int .i64 0) (.int .i64 64) (.int .i64 1024) (.pointer none)
  generalize (World.setCell (World.setCell (World.setCell (World.setCell _ _ _) _ _) _ _) _ _) = W at f ⊢
  have g1 := f.c4 0 rfl
  refine bodyPost_ret (v := .agg #[.int .i64 0, .int .i64 64, .int .i64 1024, .pointer none]) (by simp [results, Tryz.results14, go_sem, g1]) rfl ?_
  exact ⟨rfl, f.b⟩

end Go.Proofs.YtobpioceopfkpaaGreatDoor

/-
  The square root of 2: the numbers of the first try.
-/
namespace Go.Proofs.YtobpioceopfkpaaGreatDoor
open Go.RowKit

def zH : In := ⟨⟨false, 29483220403189161767243017845519310545, -126⟩, ⟨false, 117932881612756647068972071382077242223, -128⟩⟩
def iH : In := ⟨⟨false, 481231938336009023090067544955250113813, -128⟩, ⟨false, 481231938336009023090067544955250113903, -128⟩⟩
theorem zH_is : mulI (logN (bareN x2).m (topN (bareN x2)) 128) ⟨y2, y2⟩ = zH := by kernel_rfl
theorem zH_sd : Sd zH.lo ∧ Sd zH.hi := ⟨⟨by decide +kernel, by decide +kernel, by decide +kernel⟩, ⟨by decide +kernel, by decide +kernel, by decide +kernel⟩⟩
theorem iH_sd : Sd iH.lo ∧ Sd iH.hi := ⟨⟨by decide +kernel, by decide +kernel, by decide +kernel⟩, ⟨by decide +kernel, by decide +kernel, by decide +kernel⟩⟩
theorem ok_half : AkOk x2 y2 0 1024 := ⟨x2_sd, y2_sd, rfl, by decide, by decide +kernel, by decide +kernel, by decide +kernel, by decide +kernel, by decide, .inr rfl⟩
theorem log_half {w : World} {u : Value} (hu : Ak w u x2 y2 0 1024) : Calls Tryz.prog 90 #[u, .int .i64 64] w fun e w' => ∃ r, e = .returned (.tuple #[r, .int .i64 128, .int .i64 0]) ∧ Iv w' r zH ∧ Below w.heap.size w w' := by
  have h := CLog_a hu ok_half (by rw [x2_bare]; rfl) (by rw [x2_bare]; decide) (by decide) (by decide +kernel) (by decide +kernel)
    ⟨by decide +kernel, by decide +kernel, by decide +kernel⟩ ⟨by decide +kernel, by decide +kernel, by decide +kernel⟩ (by decide +kernel) (by decide +kernel)
  rw [zH_is] at h
  exact h
theorem of_half {w : World} {u : Value} (hu : Iv w u zH) : Calls Tryz.prog 91 #[u, .int .i64 1] w fun e w' => e = .returned (.int .i64 0) ∧ Below w.heap.size w w' :=
  Of_open hu zH_sd.1 zH_sd.2 (by decide +kernel) (by decide +kernel) (by decide +kernel) (by decide +kernel)
theorem split_half {w : World} {u : Value} (hu : Iv w u zH) : Calls Tryz.prog 133 #[u, .int .i64 (128 : Nat)] w fun e w' => ∃ x y, e = .returned (.tuple #[.int .i64 0, x, y, .int .i64 0]) ∧ Dg w' x 117932881612756647068972071382077242180 ∧ Dg w' y 117932881612756647068972071382077242223 ∧ Below w.heap.size w w' :=
  Split_r hu zH_sd.1 zH_sd.2 (by decide +kernel) (by decide +kernel) (by decide +kernel) (by decide +kernel) (by decide +kernel) 128 (by decide) (c := 235865763225513294137944142764154484360) (d := 235865763225513294137944142764154484446)
    (by decide +kernel) (by decide +kernel) (by decide +kernel) (by decide +kernel) (by decide +kernel) (by decide +kernel) (by decide) (by decide) (by decide +kernel) (by decide +kernel) (by decide +kernel)
theorem iH_is : withinN (expP 117932881612756647068972071382077242180 117932881612756647068972071382077242223 128).lo (expP 117932881612756647068972071382077242180 117932881612756647068972071382077242223 128).hi (-((128 : Nat) : Int)) false = iH := by kernel_rfl
theorem exp_half {w : World} {u : Value} (hu : Iv w u zH) : Calls Tryz.prog 93 #[u, .int .i64 128] w fun e w' => ∃ r, e = .returned (.tuple #[r, .int .i64 0]) ∧ Iv w' r iH ∧ Below w.heap.size w w' := by
  have h := XExp_r hu 128 (by decide) (fun w u h => split_half h) (by decide) (by decide) (by decide +kernel) (by decide +kernel)
  rw [iH_is] at h
  exact h
theorem To_lo {w : World} {u : Value} (hu : Ry w u iH.lo) : Calls Tryz.prog 40 #[u, .bool false, .int .i64 0] w fun e w' => e = .returned (.tuple #[.int .u64 4609047870845172685, .int .u8 1, .int .i64 0]) ∧ Below w.heap.size w w' :=
  To_r hu iH_sd.1 (by decide +kernel) (by decide +kernel) false 0 (by decide) 0 (by decide +kernel) (by decide) 76 (by decide +kernel) (by decide) 6369051672525773 true (by decide +kernel) (by decide +kernel) 0 (by decide +kernel) (by decide) (by decide) (by decide +kernel) 0 (by decide +kernel) 6369051672525773 (by decide +kernel) (by decide) (by decide) 4609047870845172685 (by kernel_rfl)
theorem To_hi {w : World} {u : Value} (hu : Ry w u iH.hi) : Calls Tryz.prog 40 #[u, .bool false, .int .i64 0] w fun e w' => e = .returned (.tuple #[.int .u64 4609047870845172685, .int .u8 1, .int .i64 0]) ∧ Below w.heap.size w w' :=
  To_r hu iH_sd.2 (by decide +kernel) (by decide +kernel) false 0 (by decide) 0 (by decide +kernel) (by decide) 76 (by decide +kernel) (by decide) 6369051672525773 true (by decide +kernel) (by decide +kernel) 0 (by decide +kernel) (by decide) (by decide) (by decide +kernel) 0 (by decide +kernel) 6369051672525773 (by decide +kernel) (by decide) (by decide) 4609047870845172685 (by kernel_rfl)
theorem round_half {w : World} {u : Value} (hu : Iv w u iH) : Calls Tryz.prog 94 #[u, .bool false, .int .i64 0] w fun e w' => e = .returned (.tuple #[.int .u64 4609047870845172685, .int .u8 1, .bool true]) ∧ Below w.heap.size w w' :=
  Round_r hu iH_sd.1 iH_sd.2 (by decide +kernel) (by decide +kernel) 0 (by decide)
    (fun w u h => Break_r h.ry iH_sd.1 (by decide +kernel) (by decide +kernel) (by decide +kernel)) (fun w u h => Break_r h.ry iH_sd.2 (by decide +kernel) (by decide +kernel) (by decide +kernel))
    (fun w u h => To_lo h.ry) (fun w u h => To_hi h.ry)
theorem Do_half {w : World} {u : Value} (hu : Ak w u x2 y2 0 1024) : Calls Tryz.prog 20 #[u, .pointer none] w fun e w' => e = .returned (.tuple #[.agg #[.int .u64 4609047870845172685, .int .u8 1, .int .i64 0], .int .i64 1, .int .i64 0]) ∧ Below w.heap.size w w' := by
  have e : signA x2 y2 = 1 := by kernel_rfl
  refine Do_open hu ok_half (fun w u h => Exact_half h ok_half) (fun w u h => ?_)
  rw [e]
  exact try_open h (fun w u h => log_half h) (fun w u h => of_half h) (fun w u h => exp_half h) (fun w u h => round_half h)
theorem Pow_half {w : World} (t : Tab w) : Calls Tryz.prog 11 #[.int .u64 4611686018427387904, .int .u64 4602678819172646912, howV 0 1024] w fun e w' => e = .returned (.tuple #[.agg #[.int .u64 4609047870845172685, .int .u8 1, .int .i64 0], .int .i64 1, .int .i64 0]) ∧ Below w.heap.size w w' := by
  have ex : dyD 4611686018427387904 = x2 := by kernel_rfl
  have ey : dyD 4602678819172646912 = y2 := by kernel_rfl
  exact Pow_any (x := 4611686018427387904) (y := 4602678819172646912) (by decide) (by decide) (by decide) (by decide) (by decide) (by decide) (by decide) (by rw [ey]; decide) t (by decide) (.inr rfl) (fun w' r h => by rw [ex, ey] at h; exact Do_half h)

end Go.Proofs.YtobpioceopfkpaaGreatDoor

/-
  alive: the square root of 2. Printed by gen_ei.py.
-/
namespace Go.Proofs.YtobpioceopfkpaaGreatDoor
open Go.RowKit

set_option maxRecDepth 100000 in
set_option maxHeartbeats 4000000 in
theorem alive_r {w : World} (t : Tab w) : Calls Tryz.prog 8 #[] w fun e w' => e = .returned (.bool true) ∧ Below w.heap.size w w' := by
  have CP := Lib.hid (fun w => Plain_r w)
  have CW := Lib.hid (fun w (t : Tab w) => Pow_half (w := w) t)
  unfold howV at *
  have HT := Lib.hid t
  clear t
  go_enter Tryz.func8, Tryz.ntmps8
  have F0 := Lib.hid (Fz.nil w)
  have T0 := Lib.hid (HT.out)
  clear HT
  go_wp2_with fail
  refine (CP.out _).mono ?_
  rintro q w1 ⟨rfl, hb⟩
  have F1 := Lib.hid (F0.out.call hb)
  have T1 := Lib.hid (T0.out.below hb)
  clear F0 T0
  clear hb
  go_wp2_with fail
  refine (CW.out _ T1.out).mono ?_
  rintro q w2 ⟨rfl, hb⟩
  have F2 := Lib.hid (F1.out.call hb)
  have T2 := Lib.hid (T1.out.below hb)
  clear F1 T1
  clear hb
  go_upto_region 2 with (fail)
  have F3 := Lib.hid (F2.out.new 32 #[.int .u64 4609047870845172685, .int .u8 1, .int .i64 0])
  generalize World.alloc w2 _ = W3 at F3 ⊢
  have c0 := F3.out.c3 0 rfl
  go_wp2
  go_ret
  exact ⟨rfl, F3.out.b⟩

end Go.Proofs.YtobpioceopfkpaaGreatDoor

/-
  What the listed table gives the walks, and the witness' heap; the frame's pieces that all five laws share.
-/
namespace Go.Proofs.YtobpioceopfkpaaGreatDoor
open Go.ChangeShapes Go.WideShapes Go.ChangeAt Go.RowKit

def laidT : List (String × DataW Unit) := [("math/bits.deBruijn64tab", Rows.laid_math_bits_deBruijn64tab)]
theorem ownT : ownKnob Tryz.prog.godebug = none := by kernel_rfl
theorem gTab : Tryz.prog.globalNamed "math/bits.deBruijn64tab" = some 0 := by kernel_rfl
theorem gTabType : (Tryz.prog.globals[0]?).map (·.type) = some 204 := by kernel_rfl
theorem tabInts : (Rows.laid_math_bits_deBruijn64tab : DataW Unit) = Lib.tabData .u8 (Lib.deBruijn64tab.map fun x => ((x : Nat) : Int)) := by kernel_rfl
theorem door_met (os : Os) (args : Array Value) : laidMetH Tryz.prog laidT ((World.doorLaid Tryz.prog 400 os).forCall (fun _ _ => 0) ⟨#[], args, []⟩).memory :=
  laidMetH_of_parts3 (fuel := 8) (laidMet_of_run' 8 (by kernel_rfl) (by kernel_rfl)) (by kernel_rfl) (by kernel_rfl)
theorem tab_of_laid {W : World} (h : laidMetH Tryz.prog laidT W) : Tab W := by
  rw [MakeChecks.laidMetH_plain _ _ _ (by kernel_rfl)] at h
  unfold laidT at h
  rw [tabInts] at h
  have hT := Lib.tabIs_of_head gTab gTabType Tryz.underlying204 Tryz.underlying5 (by kernel_rfl) (by kernel_rfl) h
  intro j hj
  have hl : Lib.deBruijn64tab.length = 64 := by decide
  have h1 := hT.cell gTab j (by rw [List.length_map, hl]; exact hj)
  rw [h1]
  congr 2
  rw [List.getD_eq_getElem?_getD, List.getElem?_map, List.getD_eq_getElem?_getD]
  rw [List.getElem?_eq_getElem (by rw [hl]; exact hj)]
  rfl

end Go.Proofs.YtobpioceopfkpaaGreatDoor
