/-
  bound.Of. Printed by gen_ka.py.
-/
import Derived.Test.YtobpioceopfkpaaGreatDoorM11
import Derived.Deep.RegionHeld3
import Derived.BigQuiet
namespace Go.Proofs.YtobpioceopfkpaaGreatDoor
open Go.RowKit

def nearD : Dn := ⟨false, 1, -60⟩
theorem near_lit {w : World} (t : Tab w) : Ry (w.alloc (.cells #[.int .u64 1] 22)) (.agg #[.bool false, .slice (some ⟨w.heap.size, 0, none⟩) 1 1, .int .i64 (-60)]) nearD :=
  ⟨_, rfl, raw_rd (raw_one t (n := 1) (by decide)), by decide, by decide, by decide⟩

set_option maxRecDepth 100000 in
set_option maxHeartbeats 4000000 in
theorem Of_more {w : World} {u : Value} {i : In} (hu : Iv w u i) (s1 : Sd i.lo) (s2 : Sd i.hi) (h0 : CmpD i.lo i.hi ≤ 0) (h1 : CmpD i.lo (ofN 710) < 0) (h2 : 0 < CmpD i.hi (ofN (-746))) (h3 : CmpD i.hi nearD < 0) :
    Calls Tryz.prog 91 #[u, .int .i64 (1)] w fun e w' => e = .returned (.int .i64 3) ∧ Below w.heap.size w w' := by
  obtain ⟨lo, hi⟩ := i
  simp only at s1 s2 h0 h1 h2 h3
  have CR := Lib.hid (fun w u (h : Iv w u ⟨lo, hi⟩) => (show Calls Tryz.prog 132 #[u] w (fun e w' => e = .returned (.bool true) ∧ Below w.heap.size w w') from by have h1 := Right_r h s1 s2; rw [decide_eq_true h0] at h1; exact h1))
  have CO1 := Lib.hid (fun w (t : Tab w) => Of_d t 710 (by decide))
  have CO2 := Lib.hid (fun w (t : Tab w) => Of_d t (-746) (by decide))
  have CC1 := Lib.hid (fun w u v (h : Cy w u lo) (k : Cy w v (ofN 710)) => Cmp_d h.ry k.ry)
  have CC2 := Lib.hid (fun w u v (h : Cy w u hi) (k : Cy w v (ofN (-746))) => Cmp_d h.ry k.ry)
  have CC3 := Lib.hid (fun w u v (h : Cy w u hi) (k : Ry w v nearD) => Cmp_d h.ry k)
  have CM := Lib.hid (fun w u (h : Ry w u nearD) => Minus_s h ⟨by decide, by decide, by decide⟩)
  have CC4 := Lib.hid (fun w u v (h : Cy w u lo) (k : Cy w v (MinusD nearD)) => Cmp_d h.ry k.ry)
  generalize CmpD lo (ofN 710) = x1 at *
  generalize CmpD hi (ofN (-746)) = x2 at *
  generalize CmpD hi nearD = x3 at *
  generalize CmpD lo (MinusD nearD) = x4 at *
  generalize ofN 710 = o1 at *
  generalize ofN (-746) = o2 at *
  generalize MinusD nearD = o3 at *
  obtain ⟨n, m, e⟩ := lo
  obtain ⟨n', m', e'⟩ := hi
  obtain ⟨o1n, o1m, o1e⟩ := o1
  obtain ⟨o2n, o2m, o2e⟩ := o2
  obtain ⟨o3n, o3m, o3e⟩ := o3
  obtain ⟨a1, k1, c1, a2, k2, c2, rfl, hx, hy⟩ := hu.fm
  have z1 : decide (0 ≤ x1) = false := decide_eq_false (by omega)
  have y1 : ¬ (0 ≤ x1) := by omega
  have z2 : decide (x2 ≤ 0) = false := decide_eq_false (by omega)
  have y2 : ¬ (x2 ≤ 0) := by omega
  have z3 : decide (x3 < 0) = true := decide_eq_true h3
  have y3 : ¬ (0 ≤ x3) := by omega
  have F0 := Lib.hid (show Fx w (((w.alloc (.cells #[.bool n, .slice a1 k1 c1, .int .i64 e, .bool n', .slice a2 k2 c2, .int .i64 e'] 92)).alloc (.cells #[.int .u64 1] 22)).alloc (.cells #[.bool false, .slice (some ⟨w.heap.size + 1, 0, none⟩) 1 1, .int .i64 (-60)] 42)) [(w.heap.size, 92, #[.bool n, .slice a1 k1 c1, .int .i64 e, .bool n', .slice a2 k2 c2, .int .i64 e']), (w.heap.size + 1 + 1, 42, #[.bool false, .slice (some ⟨w.heap.size + 1, 0, none⟩) 1 1, .int .i64 (-60)])] from by
    have := ((Fx.one w 92 #[.bool n, .slice a1 k1 c1, .int .i64 e, .bool n', .slice a2 k2 c2, .int .i64 e'] rfl).alloc (.cells #[.int .u64 1] 22)).new 42 #[.bool false, .slice (some ⟨w.heap.size + 1, 0, none⟩) 1 1, .int .i64 (-60)] rfl
    simpa using this)
  have X0 := Lib.hid (((hx.alloc (.cells #[.bool n, .slice a1 k1 c1, .int .i64 e, .bool n', .slice a2 k2 c2, .int .i64 e'] 92)).alloc (.cells #[.int .u64 1] 22)).alloc (.cells #[.bool false, .slice (some ⟨w.heap.size + 1, 0, none⟩) 1 1, .int .i64 (-60)] 42))
  have Y0 := Lib.hid (((hy.alloc (.cells #[.bool n, .slice a1 k1 c1, .int .i64 e, .bool n', .slice a2 k2 c2, .int .i64 e'] 92)).alloc (.cells #[.int .u64 1] 22)).alloc (.cells #[.bool false, .slice (some ⟨w.heap.size + 1, 0, none⟩) 1 1, .int .i64 (-60)] 42))
  have U0 := Lib.hid (((hu.alloc (.cells #[.bool n, .slice a1 k1 c1, .int .i64 e, .bool n', .slice a2 k2 c2, .int .i64 e'] 92)).alloc (.cells #[.int .u64 1] 22)).alloc (.cells #[.bool false, .slice (some ⟨w.heap.size + 1, 0, none⟩) 1 1, .int .i64 (-60)] 42))
  have P0 := Lib.hid (show Ry (((w.alloc (.cells #[.bool n, .slice a1 k1 c1, .int .i64 e, .bool n', .slice a2 k2 c2, .int .i64 e'] 92)).alloc (.cells #[.int .u64 1] 22)).alloc (.cells #[.bool false, .slice (some ⟨w.heap.size + 1, 0, none⟩) 1 1, .int .i64 (-60)] 42)) (.agg #[.bool false, .slice (some ⟨w.heap.size + 1, 0, none⟩) 1 1, .int .i64 (-60)]) nearD from by
    have := (near_lit (hx.alloc (.cells #[.bool n, .slice a1 k1 c1, .int .i64 e, .bool n', .slice a2 k2 c2, .int .i64 e'] 92)).tab).alloc (.cells #[.bool false, .slice (some ⟨w.heap.size + 1, 0, none⟩) 1 1, .int .i64 (-60)] 42)
    simpa using this)
  clear hu hx hy s1 s2 h0 h1 h2 h3
  go_enter Tryz.func91, Tryz.ntmps91
  go_upto_region 2 with (fail)
  generalize World.alloc (World.alloc (World.alloc _ _) _) _ = w0 at F0 X0 Y0 U0 P0 ⊢
  have c0_0 := F0.out.c6 0 rfl
  have c1_0 := F0.out.c3 1 rfl
  go_wp2_with fail
  clear c0_0 c1_0
  refine (CR.out _ _ U0.out).mono ?_
  rintro q w1 ⟨rfl, hb⟩
  have F1 := Lib.hid (F0.out.call hb)
  have X1 := Lib.hid (X0.out.below hb)
  have Y1 := Lib.hid (Y0.out.below hb)
  have U1 := Lib.hid (U0.out.below hb)
  have P1 := Lib.hid (P0.out.below hb)
  clear F0 X0 Y0 U0 P0
  clear hb
  have c0_1 := F1.out.c6 0 rfl
  have c1_1 := F1.out.c3 1 rfl
  clear U1
  go_upto_region 4 with (fail)
  clear c0_1 c1_1
  have FCD := Lib.hid (((F1.out.drew).c6 0 rfl).1)
  go_region_held3 (fun w' => (w'.cell? ⟨w.heap.size, 0, none⟩ = some (.bool n) ∧ w'.cell? ⟨w.heap.size, 1, none⟩ = some (.slice a1 k1 c1) ∧ w'.cell? ⟨w.heap.size, 2, none⟩ = some (.int .i64 e) ∧ w'.cell? ⟨w.heap.size, 3, none⟩ = some (.bool n') ∧ w'.cell? ⟨w.heap.size, 4, none⟩ = some (.slice a2 k2 c2) ∧ w'.cell? ⟨w.heap.size, 5, none⟩ = some (.int .i64 e'))) (first | with_reducible exact FCD.out | with_reducible exact FC.out) (first | (go_at_call 17; (with_reducible refine (CC1.out _ _ _ X2.out A2.out).mono ?_); rintro q ww3 ⟨rfl, hb⟩; have F3 := Lib.hid (F2.out.call hb); have X3 := Lib.hid (X2.out.below hb); have Y3 := Lib.hid (Y2.out.below hb); have P3 := Lib.hid (P2.out.below hb); have A3 := Lib.hid (A2.out.below hb); have FC := Lib.hid ((F3.out.c6 0 rfl).1); have c0_3 := F3.out.c6 0 rfl; have c1_3 := F3.out.c3 1 rfl; clear hb) | (go_at_call 18; (with_reducible refine (CO1.out _ (X1.out.drew).tab).mono ?_); rintro q ww2 ⟨u1, rfl, hu, hb⟩; have F2 := Lib.hid ((F1.out.drew).call hb); have X2 := Lib.hid ((X1.out.drew).below hb); have Y2 := Lib.hid ((Y1.out.drew).below hb); have P2 := Lib.hid ((P1.out.drew).below hb); have A2 := Lib.hid (hu); obtain ⟨b1, f1, d1, rfl⟩ := A2.out.fm; have FC := Lib.hid ((F2.out.c6 0 rfl).1); have c0_2 := F2.out.c6 0 rfl; have c1_2 := F2.out.c3 1 rfl; clear hb))
  clear A3
  go_upto_region 6 with (fail)
  clear c0_3 c1_3
  have FCD := Lib.hid (((F3.out.drew).c6 0 rfl).1)
  go_region_held3 (fun w' => (w'.cell? ⟨w.heap.size, 0, none⟩ = some (.bool n) ∧ w'.cell? ⟨w.heap.size, 1, none⟩ = some (.slice a1 k1 c1) ∧ w'.cell? ⟨w.heap.size, 2, none⟩ = some (.int .i64 e) ∧ w'.cell? ⟨w.heap.size, 3, none⟩ = some (.bool n') ∧ w'.cell? ⟨w.heap.size, 4, none⟩ = some (.slice a2 k2 c2) ∧ w'.cell? ⟨w.heap.size, 5, none⟩ = some (.int .i64 e'))) (first | with_reducible exact FCD.out | with_reducible exact FC.out) (first | (go_at_call 17; (with_reducible refine (CC2.out _ _ _ Y4.out A4.out).mono ?_); rintro q ww5 ⟨rfl, hb⟩; have F5 := Lib.hid (F4.out.call hb); have X5 := Lib.hid (X4.out.below hb); have Y5 := Lib.hid (Y4.out.below hb); have P5 := Lib.hid (P4.out.below hb); have A5 := Lib.hid (A4.out.below hb); have FC := Lib.hid ((F5.out.c6 0 rfl).1); have c0_5 := F5.out.c6 0 rfl; have c1_5 := F5.out.c3 1 rfl; clear hb) | (go_at_call 18; (with_reducible refine (CO2.out _ (X3.out.drew).tab).mono ?_); rintro q ww4 ⟨u2, rfl, hu, hb⟩; have F4 := Lib.hid ((F3.out.drew).call hb); have X4 := Lib.hid ((X3.out.drew).below hb); have Y4 := Lib.hid ((Y3.out.drew).below hb); have P4 := Lib.hid ((P3.out.drew).below hb); have A4 := Lib.hid (hu); obtain ⟨b2, f2, d2, rfl⟩ := A4.out.fm; have FC := Lib.hid ((F4.out.c6 0 rfl).1); have c0_4 := F4.out.c6 0 rfl; have c1_4 := F4.out.c3 1 rfl; clear hb))
  clear A5
  have c0_5 := F5.out.c6 0 rfl
  have c1_5 := F5.out.c3 1 rfl
  go_wp2_with fail
  clear c0_5 c1_5
  refine (CC3.out _ _ _ Y5.out P5.out).mono ?_
  rintro q w6 ⟨rfl, hb⟩
  have F6 := Lib.hid (F5.out.call hb)
  have X6 := Lib.hid (X5.out.below hb)
  have Y6 := Lib.hid (Y5.out.below hb)
  have P6 := Lib.hid (P5.out.below hb)
  clear F5 X5 Y5 P5
  clear hb
  have c0_6 := F6.out.c6 0 rfl
  have c1_6 := F6.out.c3 1 rfl
  go_wp2
  go_ret
  exact ⟨rfl, F6.out.b⟩

set_option maxRecDepth 100000 in
set_option maxHeartbeats 4000000 in
theorem Of_less {w : World} {u : Value} {i : In} (hu : Iv w u i) (s1 : Sd i.lo) (s2 : Sd i.hi) (h0 : CmpD i.lo i.hi ≤ 0) (h1 : CmpD i.lo (ofN 710) < 0) (h2 : 0 < CmpD i.hi (ofN (-746))) (h3 : 0 < CmpD i.lo (MinusD nearD)) :
    Calls Tryz.prog 91 #[u, .int .i64 (-1)] w fun e w' => e = .returned (.int .i64 4) ∧ Below w.heap.size w w' := by
  obtain ⟨lo, hi⟩ := i
  simp only at s1 s2 h0 h1 h2 h3
  have CR := Lib.hid (fun w u (h : Iv w u ⟨lo, hi⟩) => (show Calls Tryz.prog 132 #[u] w (fun e w' => e = .returned (.bool true) ∧ Below w.heap.size w w') from by have h1 := Right_r h s1 s2; rw [decide_eq_true h0] at h1; exact h1))
  have CO1 := Lib.hid (fun w (t : Tab w) => Of_d t 710 (by decide))
  have CO2 := Lib.hid (fun w (t : Tab w) => Of_d t (-746) (by decide))
  have CC1 := Lib.hid (fun w u v (h : Cy w u lo) (k : Cy w v (ofN 710)) => Cmp_d h.ry k.ry)
  have CC2 := Lib.hid (fun w u v (h : Cy w u hi) (k : Cy w v (ofN (-746))) => Cmp_d h.ry k.ry)
  have CC3 := Lib.hid (fun w u v (h : Cy w u hi) (k : Ry w v nearD) => Cmp_d h.ry k)
  have CM := Lib.hid (fun w u (h : Ry w u nearD) => Minus_s h ⟨by decide, by decide, by decide⟩)
  have CC4 := Lib.hid (fun w u v (h : Cy w u lo) (k : Cy w v (MinusD nearD)) => Cmp_d h.ry k.ry)
  generalize CmpD lo (ofN 710) = x1 at *
  generalize CmpD hi (ofN (-746)) = x2 at *
  generalize CmpD hi nearD = x3 at *
  generalize CmpD lo (MinusD nearD) = x4 at *
  generalize ofN 710 = o1 at *
  generalize ofN (-746) = o2 at *
  generalize MinusD nearD = o3 at *
  obtain ⟨n, m, e⟩ := lo
  obtain ⟨n', m', e'⟩ := hi
  obtain ⟨o1n, o1m, o1e⟩ := o1
  obtain ⟨o2n, o2m, o2e⟩ := o2
  obtain ⟨o3n, o3m, o3e⟩ := o3
  obtain ⟨a1, k1, c1, a2, k2, c2, rfl, hx, hy⟩ := hu.fm
  have z1 : decide (0 ≤ x1) = false := decide_eq_false (by omega)
  have y1 : ¬ (0 ≤ x1) := by omega
  have z2 : decide (x2 ≤ 0) = false := decide_eq_false (by omega)
  have y2 : ¬ (x2 ≤ 0) := by omega
  have z3 : decide (0 < x4) = true := decide_eq_true h3
  have y3 : ¬ (x4 ≤ 0) := by omega
  have F0 := Lib.hid (show Fx w (((w.alloc (.cells #[.bool n, .slice a1 k1 c1, .int .i64 e, .bool n', .slice a2 k2 c2, .int .i64 e'] 92)).alloc (.cells #[.int .u64 1] 22)).alloc (.cells #[.bool false, .slice (some ⟨w.heap.size + 1, 0, none⟩) 1 1, .int .i64 (-60)] 42)) [(w.heap.size, 92, #[.bool n, .slice a1 k1 c1, .int .i64 e, .bool n', .slice a2 k2 c2, .int .i64 e']), (w.heap.size + 1 + 1, 42, #[.bool false, .slice (some ⟨w.heap.size + 1, 0, none⟩) 1 1, .int .i64 (-60)])] from by
    have := ((Fx.one w 92 #[.bool n, .slice a1 k1 c1, .int .i64 e, .bool n', .slice a2 k2 c2, .int .i64 e'] rfl).alloc (.cells #[.int .u64 1] 22)).new 42 #[.bool false, .slice (some ⟨w.heap.size + 1, 0, none⟩) 1 1, .int .i64 (-60)] rfl
    simpa using this)
  have X0 := Lib.hid (((hx.alloc (.cells #[.bool n, .slice a1 k1 c1, .int .i64 e, .bool n', .slice a2 k2 c2, .int .i64 e'] 92)).alloc (.cells #[.int .u64 1] 22)).alloc (.cells #[.bool false, .slice (some ⟨w.heap.size + 1, 0, none⟩) 1 1, .int .i64 (-60)] 42))
  have Y0 := Lib.hid (((hy.alloc (.cells #[.bool n, .slice a1 k1 c1, .int .i64 e, .bool n', .slice a2 k2 c2, .int .i64 e'] 92)).alloc (.cells #[.int .u64 1] 22)).alloc (.cells #[.bool false, .slice (some ⟨w.heap.size + 1, 0, none⟩) 1 1, .int .i64 (-60)] 42))
  have U0 := Lib.hid (((hu.alloc (.cells #[.bool n, .slice a1 k1 c1, .int .i64 e, .bool n', .slice a2 k2 c2, .int .i64 e'] 92)).alloc (.cells #[.int .u64 1] 22)).alloc (.cells #[.bool false, .slice (some ⟨w.heap.size + 1, 0, none⟩) 1 1, .int .i64 (-60)] 42))
  have P0 := Lib.hid (show Ry (((w.alloc (.cells #[.bool n, .slice a1 k1 c1, .int .i64 e, .bool n', .slice a2 k2 c2, .int .i64 e'] 92)).alloc (.cells #[.int .u64 1] 22)).alloc (.cells #[.bool false, .slice (some ⟨w.heap.size + 1, 0, none⟩) 1 1, .int .i64 (-60)] 42)) (.agg #[.bool false, .slice (some ⟨w.heap.size + 1, 0, none⟩) 1 1, .int .i64 (-60)]) nearD from by
    have := (near_lit (hx.alloc (.cells #[.bool n, .slice a1 k1 c1, .int .i64 e, .bool n', .slice a2 k2 c2, .int .i64 e'] 92)).tab).alloc (.cells #[.bool false, .slice (some ⟨w.heap.size + 1, 0, none⟩) 1 1, .int .i64 (-60)] 42)
    simpa using this)
  clear hu hx hy s1 s2 h0 h1 h2 h3
  go_enter Tryz.func91, Tryz.ntmps91
  go_upto_region 2 with (fail)
  generalize World.alloc (World.alloc (World.alloc _ _) _) _ = w0 at F0 X0 Y0 U0 P0 ⊢
  have c0_0 := F0.out.c6 0 rfl
  have c1_0 := F0.out.c3 1 rfl
  go_wp2_with fail
  clear c0_0 c1_0
  refine (CR.out _ _ U0.out).mono ?_
  rintro q w1 ⟨rfl, hb⟩
  have F1 := Lib.hid (F0.out.call hb)
  have X1 := Lib.hid (X0.out.below hb)
  have Y1 := Lib.hid (Y0.out.below hb)
  have U1 := Lib.hid (U0.out.below hb)
  have P1 := Lib.hid (P0.out.below hb)
  clear F0 X0 Y0 U0 P0
  clear hb
  have c0_1 := F1.out.c6 0 rfl
  have c1_1 := F1.out.c3 1 rfl
  clear U1
  go_upto_region 4 with (fail)
  clear c0_1 c1_1
  have FCD := Lib.hid (((F1.out.drew).c6 0 rfl).1)
  go_region_held3 (fun w' => (w'.cell? ⟨w.heap.size, 0, none⟩ = some (.bool n) ∧ w'.cell? ⟨w.heap.size, 1, none⟩ = some (.slice a1 k1 c1) ∧ w'.cell? ⟨w.heap.size, 2, none⟩ = some (.int .i64 e) ∧ w'.cell? ⟨w.heap.size, 3, none⟩ = some (.bool n') ∧ w'.cell? ⟨w.heap.size, 4, none⟩ = some (.slice a2 k2 c2) ∧ w'.cell? ⟨w.heap.size, 5, none⟩ = some (.int .i64 e'))) (first | with_reducible exact FCD.out | with_reducible exact FC.out) (first | (go_at_call 17; (with_reducible refine (CC1.out _ _ _ X2.out A2.out).mono ?_); rintro q ww3 ⟨rfl, hb⟩; have F3 := Lib.hid (F2.out.call hb); have X3 := Lib.hid (X2.out.below hb); have Y3 := Lib.hid (Y2.out.below hb); have P3 := Lib.hid (P2.out.below hb); have A3 := Lib.hid (A2.out.below hb); have FC := Lib.hid ((F3.out.c6 0 rfl).1); have c0_3 := F3.out.c6 0 rfl; have c1_3 := F3.out.c3 1 rfl; clear hb) | (go_at_call 18; (with_reducible refine (CO1.out _ (X1.out.drew).tab).mono ?_); rintro q ww2 ⟨u1, rfl, hu, hb⟩; have F2 := Lib.hid ((F1.out.drew).call hb); have X2 := Lib.hid ((X1.out.drew).below hb); have Y2 := Lib.hid ((Y1.out.drew).below hb); have P2 := Lib.hid ((P1.out.drew).below hb); have A2 := Lib.hid (hu); obtain ⟨b1, f1, d1, rfl⟩ := A2.out.fm; have FC := Lib.hid ((F2.out.c6 0 rfl).1); have c0_2 := F2.out.c6 0 rfl; have c1_2 := F2.out.c3 1 rfl; clear hb))
  clear A3
  go_upto_region 6 with (fail)
  clear c0_3 c1_3
  have FCD := Lib.hid (((F3.out.drew).c6 0 rfl).1)
  go_region_held3 (fun w' => (w'.cell? ⟨w.heap.size, 0, none⟩ = some (.bool n) ∧ w'.cell? ⟨w.heap.size, 1, none⟩ = some (.slice a1 k1 c1) ∧ w'.cell? ⟨w.heap.size, 2, none⟩ = some (.int .i64 e) ∧ w'.cell? ⟨w.heap.size, 3, none⟩ = some (.bool n') ∧ w'.cell? ⟨w.heap.size, 4, none⟩ = some (.slice a2 k2 c2) ∧ w'.cell? ⟨w.heap.size, 5, none⟩ = some (.int .i64 e'))) (first | with_reducible exact FCD.out | with_reducible exact FC.out) (first | (go_at_call 17; (with_reducible refine (CC2.out _ _ _ Y4.out A4.out).mono ?_); rintro q ww5 ⟨rfl, hb⟩; have F5 := Lib.hid (F4.out.call hb); have X5 := Lib.hid (X4.out.below hb); have Y5 := Lib.hid (Y4.out.below hb); have P5 := Lib.hid (P4.out.below hb); have A5 := Lib.hid (A4.out.below hb); have FC := Lib.hid ((F5.out.c6 0 rfl).1); have c0_5 := F5.out.c6 0 rfl; have c1_5 := F5.out.c3 1 rfl; clear hb) | (go_at_call 18; (with_reducible refine (CO2.out _ (X3.out.drew).tab).mono ?_); rintro q ww4 ⟨u2, rfl, hu, hb⟩; have F4 := Lib.hid ((F3.out.drew).call hb); have X4 := Lib.hid ((X3.out.drew).below hb); have Y4 := Lib.hid ((Y3.out.drew).below hb); have P4 := Lib.hid ((P3.out.drew).below hb); have A4 := Lib.hid (hu); obtain ⟨b2, f2, d2, rfl⟩ := A4.out.fm; have FC := Lib.hid ((F4.out.c6 0 rfl).1); have c0_4 := F4.out.c6 0 rfl; have c1_4 := F4.out.c3 1 rfl; clear hb))
  clear A5
  have c0_5 := F5.out.c6 0 rfl
  have c1_5 := F5.out.c3 1 rfl
  go_upto_region 10 with (fail)
  clear c0_5 c1_5
  have FCD := Lib.hid (And.intro ((F5.out.drew).c6 0 rfl).1 (((F5.out.drew).c3 1 rfl).1))
  go_region_held3 (fun w' => (w'.cell? ⟨w.heap.size, 0, none⟩ = some (.bool n) ∧ w'.cell? ⟨w.heap.size, 1, none⟩ = some (.slice a1 k1 c1) ∧ w'.cell? ⟨w.heap.size, 2, none⟩ = some (.int .i64 e) ∧ w'.cell? ⟨w.heap.size, 3, none⟩ = some (.bool n') ∧ w'.cell? ⟨w.heap.size, 4, none⟩ = some (.slice a2 k2 c2) ∧ w'.cell? ⟨w.heap.size, 5, none⟩ = some (.int .i64 e')) ∧ (w'.cell? ⟨w.heap.size + 1 + 1, 0, none⟩ = some (.bool false) ∧ w'.cell? ⟨w.heap.size + 1 + 1, 1, none⟩ = some (.slice (some ⟨w.heap.size + 1, 0, none⟩) 1 1) ∧ w'.cell? ⟨w.heap.size + 1 + 1, 2, none⟩ = some (.int .i64 (-60)))) (first | with_reducible exact FCD.out | with_reducible exact FC.out) (first | (go_at_call 17; (with_reducible refine (CC4.out _ _ _ X6.out A6.out).mono ?_); rintro q ww7 ⟨rfl, hb⟩; have F7 := Lib.hid (F6.out.call hb); have X7 := Lib.hid (X6.out.below hb); have Y7 := Lib.hid (Y6.out.below hb); have P7 := Lib.hid (P6.out.below hb); have A7 := Lib.hid (A6.out.below hb); have FC := Lib.hid (And.intro (F7.out.c6 0 rfl).1 ((F7.out.c3 1 rfl).1)); have c0_7 := F7.out.c6 0 rfl; have c1_7 := F7.out.c3 1 rfl; clear hb) | (go_at_call 39; (with_reducible refine (CM.out _ _ (P5.out.drew)).mono ?_); rintro q ww6 ⟨u3, rfl, hu, hb⟩; have F6 := Lib.hid ((F5.out.drew).call hb); have X6 := Lib.hid ((X5.out.drew).below hb); have Y6 := Lib.hid ((Y5.out.drew).below hb); have P6 := Lib.hid ((P5.out.drew).below hb); have A6 := Lib.hid (hu); obtain ⟨b3, f3, d3, rfl⟩ := A6.out.fm; have FC := Lib.hid (And.intro (F6.out.c6 0 rfl).1 ((F6.out.c3 1 rfl).1)); have c0_6 := F6.out.c6 0 rfl; have c1_6 := F6.out.c3 1 rfl; clear hb))
  go_wp2
  go_ret
  exact ⟨rfl, F7.out.b⟩

set_option maxRecDepth 100000 in
set_option maxHeartbeats 4000000 in
theorem Of_open {w : World} {u : Value} {i : In} (hu : Iv w u i) (s1 : Sd i.lo) (s2 : Sd i.hi) (h0 : CmpD i.lo i.hi ≤ 0) (h1 : CmpD i.lo (ofN 710) < 0) (h2 : 0 < CmpD i.hi (ofN (-746))) (h3 : 0 ≤ CmpD i.hi nearD) :
    Calls Tryz.prog 91 #[u, .int .i64 (1)] w fun e w' => e = .returned (.int .i64 0) ∧ Below w.heap.size w w' := by
  obtain ⟨lo, hi⟩ := i
  simp only at s1 s2 h0 h1 h2 h3
  have CR := Lib.hid (fun w u (h : Iv w u ⟨lo, hi⟩) => (show Calls Tryz.prog 132 #[u] w (fun e w' => e = .returned (.bool true) ∧ Below w.heap.size w w') from by have h1 := Right_r h s1 s2; rw [decide_eq_true h0] at h1; exact h1))
  have CO1 := Lib.hid (fun w (t : Tab w) => Of_d t 710 (by decide))
  have CO2 := Lib.hid (fun w (t : Tab w) => Of_d t (-746) (by decide))
  have CC1 := Lib.hid (fun w u v (h : Cy w u lo) (k : Cy w v (ofN 710)) => Cmp_d h.ry k.ry)
  have CC2 := Lib.hid (fun w u v (h : Cy w u hi) (k : Cy w v (ofN (-746))) => Cmp_d h.ry k.ry)
  have CC3 := Lib.hid (fun w u v (h : Cy w u hi) (k : Ry w v nearD) => Cmp_d h.ry k)
  have CM := Lib.hid (fun w u (h : Ry w u nearD) => Minus_s h ⟨by decide, by decide, by decide⟩)
  have CC4 := Lib.hid (fun w u v (h : Cy w u lo) (k : Cy w v (MinusD nearD)) => Cmp_d h.ry k.ry)
  generalize CmpD lo (ofN 710) = x1 at *
  generalize CmpD hi (ofN (-746)) = x2 at *
  generalize CmpD hi nearD = x3 at *
  generalize CmpD lo (MinusD nearD) = x4 at *
  generalize ofN 710 = o1 at *
  generalize ofN (-746) = o2 at *
  generalize MinusD nearD = o3 at *
  obtain ⟨n, m, e⟩ := lo
  obtain ⟨n', m', e'⟩ := hi
  obtain ⟨o1n, o1m, o1e⟩ := o1
  obtain ⟨o2n, o2m, o2e⟩ := o2
  obtain ⟨o3n, o3m, o3e⟩ := o3
  obtain ⟨a1, k1, c1, a2, k2, c2, rfl, hx, hy⟩ := hu.fm
  have z1 : decide (0 ≤ x1) = false := decide_eq_false (by omega)
  have y1 : ¬ (0 ≤ x1) := by omega
  have z2 : decide (x2 ≤ 0) = false := decide_eq_false (by omega)
  have y2 : ¬ (x2 ≤ 0) := by omega
  have z3 : decide (x3 < 0) = false := decide_eq_false (by omega)
  have F0 := Lib.hid (show Fx w (((w.alloc (.cells #[.bool n, .slice a1 k1 c1, .int .i64 e, .bool n', .slice a2 k2 c2, .int .i64 e'] 92)).alloc (.cells #[.int .u64 1] 22)).alloc (.cells #[.bool false, .slice (some ⟨w.heap.size + 1, 0, none⟩) 1 1, .int .i64 (-60)] 42)) [(w.heap.size, 92, #[.bool n, .slice a1 k1 c1, .int .i64 e, .bool n', .slice a2 k2 c2, .int .i64 e']), (w.heap.size + 1 + 1, 42, #[.bool false, .slice (some ⟨w.heap.size + 1, 0, none⟩) 1 1, .int .i64 (-60)])] from by
    have := ((Fx.one w 92 #[.bool n, .slice a1 k1 c1, .int .i64 e, .bool n', .slice a2 k2 c2, .int .i64 e'] rfl).alloc (.cells #[.int .u64 1] 22)).new 42 #[.bool false, .slice (some ⟨w.heap.size + 1, 0, none⟩) 1 1, .int .i64 (-60)] rfl
    simpa using this)
  have X0 := Lib.hid (((hx.alloc (.cells #[.bool n, .slice a1 k1 c1, .int .i64 e, .bool n', .slice a2 k2 c2, .int .i64 e'] 92)).alloc (.cells #[.int .u64 1] 22)).alloc (.cells #[.bool false, .slice (some ⟨w.heap.size + 1, 0, none⟩) 1 1, .int .i64 (-60)] 42))
  have Y0 := Lib.hid (((hy.alloc (.cells #[.bool n, .slice a1 k1 c1, .int .i64 e, .bool n', .slice a2 k2 c2, .int .i64 e'] 92)).alloc (.cells #[.int .u64 1] 22)).alloc (.cells #[.bool false, .slice (some ⟨w.heap.size + 1, 0, none⟩) 1 1, .int .i64 (-60)] 42))
  have U0 := Lib.hid (((hu.alloc (.cells #[.bool n, .slice a1 k1 c1, .int .i64 e, .bool n', .slice a2 k2 c2, .int .i64 e'] 92)).alloc (.cells #[.int .u64 1] 22)).alloc (.cells #[.bool false, .slice (some ⟨w.heap.size + 1, 0, none⟩) 1 1, .int .i64 (-60)] 42))
  have P0 := Lib.hid (show Ry (((w.alloc (.cells #[.bool n, .slice a1 k1 c1, .int .i64 e, .bool n', .slice a2 k2 c2, .int .i64 e'] 92)).alloc (.cells #[.int .u64 1] 22)).alloc (.cells #[.bool false, .slice (some ⟨w.heap.size + 1, 0, none⟩) 1 1, .int .i64 (-60)] 42)) (.agg #[.bool false, .slice (some ⟨w.heap.size + 1, 0, none⟩) 1 1, .int .i64 (-60)]) nearD from by
    have := (near_lit (hx.alloc (.cells #[.bool n, .slice a1 k1 c1, .int .i64 e, .bool n', .slice a2 k2 c2, .int .i64 e'] 92)).tab).alloc (.cells #[.bool false, .slice (some ⟨w.heap.size + 1, 0, none⟩) 1 1, .int .i64 (-60)] 42)
    simpa using this)
  clear hu hx hy s1 s2 h0 h1 h2
  go_enter Tryz.func91, Tryz.ntmps91
  go_upto_region 2 with (fail)
  generalize World.alloc (World.alloc (World.alloc _ _) _) _ = w0 at F0 X0 Y0 U0 P0 ⊢
  have c0_0 := F0.out.c6 0 rfl
  have c1_0 := F0.out.c3 1 rfl
  go_wp2_with fail
  clear c0_0 c1_0
  refine (CR.out _ _ U0.out).mono ?_
  rintro q w1 ⟨rfl, hb⟩
  have F1 := Lib.hid (F0.out.call hb)
  have X1 := Lib.hid (X0.out.below hb)
  have Y1 := Lib.hid (Y0.out.below hb)
  have U1 := Lib.hid (U0.out.below hb)
  have P1 := Lib.hid (P0.out.below hb)
  clear F0 X0 Y0 U0 P0
  clear hb
  have c0_1 := F1.out.c6 0 rfl
  have c1_1 := F1.out.c3 1 rfl
  clear U1
  go_upto_region 4 with (fail)
  clear c0_1 c1_1
  have FCD := Lib.hid (((F1.out.drew).c6 0 rfl).1)
  go_region_held3 (fun w' => (w'.cell? ⟨w.heap.size, 0, none⟩ = some (.bool n) ∧ w'.cell? ⟨w.heap.size, 1, none⟩ = some (.slice a1 k1 c1) ∧ w'.cell? ⟨w.heap.size, 2, none⟩ = some (.int .i64 e) ∧ w'.cell? ⟨w.heap.size, 3, none⟩ = some (.bool n') ∧ w'.cell? ⟨w.heap.size, 4, none⟩ = some (.slice a2 k2 c2) ∧ w'.cell? ⟨w.heap.size, 5, none⟩ = some (.int .i64 e'))) (first | with_reducible exact FCD.out | with_reducible exact FC.out) (first | (go_at_call 17; (with_reducible refine (CC1.out _ _ _ X2.out A2.out).mono ?_); rintro q ww3 ⟨rfl, hb⟩; have F3 := Lib.hid (F2.out.call hb); have X3 := Lib.hid (X2.out.below hb); have Y3 := Lib.hid (Y2.out.below hb); have P3 := Lib.hid (P2.out.below hb); have A3 := Lib.hid (A2.out.below hb); have FC := Lib.hid ((F3.out.c6 0 rfl).1); have c0_3 := F3.out.c6 0 rfl; have c1_3 := F3.out.c3 1 rfl; clear hb) | (go_at_call 18; (with_reducible refine (CO1.out _ (X1.out.drew).tab).mono ?_); rintro q ww2 ⟨u1, rfl, hu, hb⟩; have F2 := Lib.hid ((F1.out.drew).call hb); have X2 := Lib.hid ((X1.out.drew).below hb); have Y2 := Lib.hid ((Y1.out.drew).below hb); have P2 := Lib.hid ((P1.out.drew).below hb); have A2 := Lib.hid (hu); obtain ⟨b1, f1, d1, rfl⟩ := A2.out.fm; have FC := Lib.hid ((F2.out.c6 0 rfl).1); have c0_2 := F2.out.c6 0 rfl; have c1_2 := F2.out.c3 1 rfl; clear hb))
  clear A3
  go_upto_region 6 with (fail)
  clear c0_3 c1_3
  have FCD := Lib.hid (((F3.out.drew).c6 0 rfl).1)
  go_region_held3 (fun w' => (w'.cell? ⟨w.heap.size, 0, none⟩ = some (.bool n) ∧ w'.cell? ⟨w.heap.size, 1, none⟩ = some (.slice a1 k1 c1) ∧ w'.cell? ⟨w.heap.size, 2, none⟩ = some (.int .i64 e) ∧ w'.cell? ⟨w.heap.size, 3, none⟩ = some (.bool n') ∧ w'.cell? ⟨w.heap.size, 4, none⟩ = some (.slice a2 k2 c2) ∧ w'.cell? ⟨w.heap.size, 5, none⟩ = some (.int .i64 e'))) (first | with_reducible exact FCD.out | with_reducible exact FC.out) (first | (go_at_call 17; (with_reducible refine (CC2.out _ _ _ Y4.out A4.out).mono ?_); rintro q ww5 ⟨rfl, hb⟩; have F5 := Lib.hid (F4.out.call hb); have X5 := Lib.hid (X4.out.below hb); have Y5 := Lib.hid (Y4.out.below hb); have P5 := Lib.hid (P4.out.below hb); have A5 := Lib.hid (A4.out.below hb); have FC := Lib.hid ((F5.out.c6 0 rfl).1); have c0_5 := F5.out.c6 0 rfl; have c1_5 := F5.out.c3 1 rfl; clear hb) | (go_at_call 18; (with_reducible refine (CO2.out _ (X3.out.drew).tab).mono ?_); rintro q ww4 ⟨u2, rfl, hu, hb⟩; have F4 := Lib.hid ((F3.out.drew).call hb); have X4 := Lib.hid ((X3.out.drew).below hb); have Y4 := Lib.hid ((Y3.out.drew).below hb); have P4 := Lib.hid ((P3.out.drew).below hb); have A4 := Lib.hid (hu); obtain ⟨b2, f2, d2, rfl⟩ := A4.out.fm; have FC := Lib.hid ((F4.out.c6 0 rfl).1); have c0_4 := F4.out.c6 0 rfl; have c1_4 := F4.out.c3 1 rfl; clear hb))
  clear A5
  have c0_5 := F5.out.c6 0 rfl
  have c1_5 := F5.out.c3 1 rfl
  go_wp2_with fail
  clear c0_5 c1_5
  refine (CC3.out _ _ _ Y5.out P5.out).mono ?_
  rintro q w6 ⟨rfl, hb⟩
  have F6 := Lib.hid (F5.out.call hb)
  have X6 := Lib.hid (X5.out.below hb)
  have Y6 := Lib.hid (Y5.out.below hb)
  have P6 := Lib.hid (P5.out.below hb)
  clear F5 X5 Y5 P5
  clear hb
  have c0_6 := F6.out.c6 0 rfl
  have c1_6 := F6.out.c3 1 rfl
  go_upto_region 10 with (fail)
  go_quiet (fail)
  go_wp2
  go_ret
  exact ⟨rfl, (F6.out.drewN _).b⟩


end Go.Proofs.YtobpioceopfkpaaGreatDoor
