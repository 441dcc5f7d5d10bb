/-
  round: whole, right; of what is above 0. Printed by gen_jb.py.
-/
import Derived.Test.YtobpioceopfkpaaGreatDoorM18
import Derived.Deep.RegionHeld3
namespace Go.Proofs.YtobpioceopfkpaaGreatDoor
open Go.RowKit

/-- units, is it inexact -/
def wholeN (m : Nat) (n z : Int) (more : Bool) : Nat × Bool :=
  (if awayN z ((partsN m n).1 % 2 == 1) (partsN m n).2.1 ((partsN m n).2.2 || more) then (partsN m n).1 + 1 else (partsN m n).1, (partsN m n).2.1 || ((partsN m n).2.2 || more))

set_option maxRecDepth 100000 in
set_option maxHeartbeats 4000000 in
theorem whole_r {w : World} {u : Value} {d : Dn} (hu : Cy w u d) (more : Bool) (z : Int) (hz : 0 ≤ z ∧ z ≤ 3) (t n : Int) (hn : n = t - d.e) (hnb : -10000 ≤ n ∧ n ≤ 10000) (hb : bl d.m ≤ 50000) (hneg : d.neg = false) :
    Calls Tryz.prog 86 #[u, .bool more, .int .i64 z, .int .i64 t] w fun e w' => ∃ x, e = .returned (.tuple #[x, .bool (wholeN d.m n z more).2]) ∧ Dg w' x (wholeN d.m n z more).1 ∧ Below w.heap.size w w' := by
  obtain ⟨neg, m, e⟩ := d
  simp only at hn hb hneg
  subst hneg
  obtain ⟨a1, k1, c1, rfl⟩ := hu.fm
  have CP := Lib.hid (fun w u (h : Cy w u ⟨false, m, e⟩) => parts_r h t n hn hnb hb)
  simp only
  have HW : wholeN m n z more = (if awayN z ((partsN m n).1 % 2 == 1) (partsN m n).2.1 ((partsN m n).2.2 || more) then (partsN m n).1 + 1 else (partsN m n).1, (partsN m n).2.1 || ((partsN m n).2.2 || more)) := rfl
  have hbl : bl (partsN m n).1 ≤ 6000000 := by
    unfold partsN; split
    · exact Nat.le_trans (bl_shl2 _ _) (by omega)
    · exact Nat.le_trans (bl_mono (Nat.div_le_self _ _)) (by omega)
  simp only at CP
  generalize hp : partsN m n = pt at *
  obtain ⟨x, half, below⟩ := pt
  simp only at HW hbl CP
  rw [HW]
  have CO := Lib.hid (fun w u (h : Dg w u x) => (odd_r (h.rd hbl)).mono (fun e w' (h : e = _ ∧ w = w') => (show e = .returned (.bool (x % 2 == 1)) ∧ Below w.heap.size w w' from ⟨h.1, h.2 ▸ Below.refl _ _⟩)))
  generalize (x % 2 == 1) = odd at *
  have HUU := Lib.hid hu
  clear hp hu hn hnb hb HW
  have CA := Lib.hid (fun w below => (away_r z hz odd half below w).mono (fun e w' (h : e = _ ∧ w = w') => (show e = .returned (.bool (awayN z odd half below)) ∧ Below w.heap.size w w' from ⟨h.1, h.2 ▸ Below.refl _ _⟩)))
  obtain ⟨bm, hbm⟩ : ∃ b, b = (below || more) := ⟨_, rfl⟩
  rw [← hbm]
  obtain ⟨g, hg⟩ : ∃ g, g = awayN z odd half bm := ⟨_, rfl⟩
  rw [← hg]
  have CA := Lib.hid (fun w => CA.out w bm)
  rw [← hg] at CA
  have HBM := Lib.hid hbm
  clear hg hz
  have HIN : ∃ i, i = (half || bm) := ⟨_, rfl⟩
  obtain ⟨i, hi⟩ := HIN
  rw [← hi]
  have HI := Lib.hid hi
  clear hbm hi
  cases below <;> cases more <;> cases half <;> cases g
  · obtain rfl : bm = false := HBM.out
    obtain rfl : i = false := HI.out
    clear HBM HI
    have F0 := Lib.hid (Fx.one w 42 #[.bool false, .slice a1 k1 c1, .int .i64 e] rfl)
    have X0 := Lib.hid (HUU.out.alloc (.cells #[.bool false, .slice a1 k1 c1, .int .i64 e] 42))
    clear HUU
    go_enter Tryz.func86, Tryz.ntmps86
    go_upto_region 1 with (fail)
    generalize World.alloc _ _ = w0 at F0 X0 ⊢
    have c0_0 := F0.out.c3 0 rfl
    go_wp2_with fail
    clear c0_0
    refine (CP.out _ _ X0.out).mono ?_
    rintro q w1 ⟨u, rfl, hu, hb⟩
    have F1 := Lib.hid (F0.out.call hb)
    have X1 := Lib.hid (X0.out.below hb)
    clear F0 X0
    have U1 := Lib.hid (hu)
    clear hb
    have c0_1 := F1.out.c3 0 rfl
    obtain ⟨a3, k3, c3, rfl⟩ := U1.out.form
    go_upto_region 3 with (fail)
    clear X1
    clear c0_1
    have FCD := Lib.hid (((F1.out.drew).c3 0 rfl).1)
    go_region_held3 (fun w' => (w'.cell? ⟨w.heap.size, 0, none⟩ = some (.bool false) ∧ w'.cell? ⟨w.heap.size, 1, none⟩ = some (.slice a1 k1 c1) ∧ w'.cell? ⟨w.heap.size, 2, none⟩ = some (.int .i64 e))) (first | with_reducible exact FCD.out | with_reducible exact FC.out) (first | (go_at_call 122; (with_reducible refine (CA.out _).mono ?_); rintro q ww3 ⟨rfl, hb⟩; have F3 := Lib.hid (F2.out.call hb); have U3 := Lib.hid (U2.out.below hb); have FC := Lib.hid ((F3.out.c3 0 rfl).1); have c0_3 := F3.out.c3 0 rfl; clear hb) | (go_at_call 68; (with_reducible refine (CO.out _ _ (U1.out.drew)).mono ?_); rintro q ww2 ⟨rfl, hb⟩; have F2 := Lib.hid ((F1.out.drew).call hb); have U2 := Lib.hid ((U1.out.drew).below hb); have FC := Lib.hid ((F2.out.c3 0 rfl).1); have c0_2 := F2.out.c3 0 rfl; clear hb))
    go_wp2
    refine bodyPost_ret (v := .tuple #[.slice a3 k3 c3, .bool false]) (by simp [results, Tryz.results86, go_sem]) rfl ?_
    exact ⟨_, rfl, U3.out, F3.out.b⟩
  · obtain rfl : bm = false := HBM.out
    obtain rfl : i = false := HI.out
    clear HBM HI
    have F0 := Lib.hid (Fx.one w 42 #[.bool false, .slice a1 k1 c1, .int .i64 e] rfl)
    have X0 := Lib.hid (HUU.out.alloc (.cells #[.bool false, .slice a1 k1 c1, .int .i64 e] 42))
    clear HUU
    go_enter Tryz.func86, Tryz.ntmps86
    go_upto_region 1 with (fail)
    generalize World.alloc _ _ = w0 at F0 X0 ⊢
    have c0_0 := F0.out.c3 0 rfl
    go_wp2_with fail
    clear c0_0
    refine (CP.out _ _ X0.out).mono ?_
    rintro q w1 ⟨u, rfl, hu, hb⟩
    have F1 := Lib.hid (F0.out.call hb)
    have X1 := Lib.hid (X0.out.below hb)
    clear F0 X0
    have U1 := Lib.hid (hu)
    clear hb
    have c0_1 := F1.out.c3 0 rfl
    obtain ⟨a3, k3, c3, rfl⟩ := U1.out.form
    go_upto_region 3 with (fail)
    clear X1
    clear c0_1
    have FCD := Lib.hid (((F1.out.drew).c3 0 rfl).1)
    go_region_held3 (fun w' => (w'.cell? ⟨w.heap.size, 0, none⟩ = some (.bool false) ∧ w'.cell? ⟨w.heap.size, 1, none⟩ = some (.slice a1 k1 c1) ∧ w'.cell? ⟨w.heap.size, 2, none⟩ = some (.int .i64 e))) (first | with_reducible exact FCD.out | with_reducible exact FC.out) (first | (go_at_call 122; (with_reducible refine (CA.out _).mono ?_); rintro q ww3 ⟨rfl, hb⟩; have F3 := Lib.hid (F2.out.call hb); have U3 := Lib.hid (U2.out.below hb); have FC := Lib.hid ((F3.out.c3 0 rfl).1); have c0_3 := F3.out.c3 0 rfl; clear hb) | (go_at_call 68; (with_reducible refine (CO.out _ _ (U1.out.drew)).mono ?_); rintro q ww2 ⟨rfl, hb⟩; have F2 := Lib.hid ((F1.out.drew).call hb); have U2 := Lib.hid ((U1.out.drew).below hb); have FC := Lib.hid ((F2.out.c3 0 rfl).1); have c0_2 := F2.out.c3 0 rfl; clear hb))
    go_wp2_with fail
    clear c0_3
    refine (of_any (n := 1) (by decide) U3.out.tab).mono ?_
    rintro q w4 ⟨u, rfl, hu, hb⟩
    have F4 := Lib.hid (F3.out.call hb)
    have U4 := Lib.hid (U3.out.below hb)
    clear F3 U3
    have O4 := Lib.hid (hu)
    clear hb
    have c0_4 := F4.out.c3 0 rfl
    obtain ⟨a4, k4, c4, rfl⟩ := O4.out.form
    go_wp2_with fail
    clear c0_4
    refine (add_r (U4.out.rd hbl) (O4.out.rd (by decide))).mono ?_
    rintro q w5 ⟨u, rfl, hu, hb⟩
    have F5 := Lib.hid (F4.out.call hb)
    have U5 := Lib.hid (U4.out.below hb)
    have O5 := Lib.hid (O4.out.below hb)
    clear F4 U4 O4
    have V5 := Lib.hid (hu)
    clear hb
    have c0_5 := F5.out.c3 0 rfl
    obtain ⟨a5, k5, c5, rfl⟩ := V5.out.form
    go_wp2
    refine bodyPost_ret (v := .tuple #[.slice a5 k5 c5, .bool false]) (by simp [results, Tryz.results86, go_sem]) rfl ?_
    exact ⟨_, rfl, V5.out, F5.out.b⟩
  · obtain rfl : bm = false := HBM.out
    obtain rfl : i = true := HI.out
    clear HBM HI
    have F0 := Lib.hid (Fx.one w 42 #[.bool false, .slice a1 k1 c1, .int .i64 e] rfl)
    have X0 := Lib.hid (HUU.out.alloc (.cells #[.bool false, .slice a1 k1 c1, .int .i64 e] 42))
    clear HUU
    go_enter Tryz.func86, Tryz.ntmps86
    go_upto_region 1 with (fail)
    generalize World.alloc _ _ = w0 at F0 X0 ⊢
    have c0_0 := F0.out.c3 0 rfl
    go_wp2_with fail
    clear c0_0
    refine (CP.out _ _ X0.out).mono ?_
    rintro q w1 ⟨u, rfl, hu, hb⟩
    have F1 := Lib.hid (F0.out.call hb)
    have X1 := Lib.hid (X0.out.below hb)
    clear F0 X0
    have U1 := Lib.hid (hu)
    clear hb
    have c0_1 := F1.out.c3 0 rfl
    obtain ⟨a3, k3, c3, rfl⟩ := U1.out.form
    go_upto_region 3 with (fail)
    clear X1
    clear c0_1
    have FCD := Lib.hid (((F1.out.drew).c3 0 rfl).1)
    go_region_held3 (fun w' => (w'.cell? ⟨w.heap.size, 0, none⟩ = some (.bool false) ∧ w'.cell? ⟨w.heap.size, 1, none⟩ = some (.slice a1 k1 c1) ∧ w'.cell? ⟨w.heap.size, 2, none⟩ = some (.int .i64 e))) (first | with_reducible exact FCD.out | with_reducible exact FC.out) (first | (go_at_call 122; (with_reducible refine (CA.out _).mono ?_); rintro q ww3 ⟨rfl, hb⟩; have F3 := Lib.hid (F2.out.call hb); have U3 := Lib.hid (U2.out.below hb); have FC := Lib.hid ((F3.out.c3 0 rfl).1); have c0_3 := F3.out.c3 0 rfl; clear hb) | (go_at_call 68; (with_reducible refine (CO.out _ _ (U1.out.drew)).mono ?_); rintro q ww2 ⟨rfl, hb⟩; have F2 := Lib.hid ((F1.out.drew).call hb); have U2 := Lib.hid ((U1.out.drew).below hb); have FC := Lib.hid ((F2.out.c3 0 rfl).1); have c0_2 := F2.out.c3 0 rfl; clear hb))
    go_wp2
    refine bodyPost_ret (v := .tuple #[.slice a3 k3 c3, .bool true]) (by simp [results, Tryz.results86, go_sem]) rfl ?_
    exact ⟨_, rfl, U3.out, F3.out.b⟩
  · obtain rfl : bm = false := HBM.out
    obtain rfl : i = true := HI.out
    clear HBM HI
    have F0 := Lib.hid (Fx.one w 42 #[.bool false, .slice a1 k1 c1, .int .i64 e] rfl)
    have X0 := Lib.hid (HUU.out.alloc (.cells #[.bool false, .slice a1 k1 c1, .int .i64 e] 42))
    clear HUU
    go_enter Tryz.func86, Tryz.ntmps86
    go_upto_region 1 with (fail)
    generalize World.alloc _ _ = w0 at F0 X0 ⊢
    have c0_0 := F0.out.c3 0 rfl
    go_wp2_with fail
    clear c0_0
    refine (CP.out _ _ X0.out).mono ?_
    rintro q w1 ⟨u, rfl, hu, hb⟩
    have F1 := Lib.hid (F0.out.call hb)
    have X1 := Lib.hid (X0.out.below hb)
    clear F0 X0
    have U1 := Lib.hid (hu)
    clear hb
    have c0_1 := F1.out.c3 0 rfl
    obtain ⟨a3, k3, c3, rfl⟩ := U1.out.form
    go_upto_region 3 with (fail)
    clear X1
    clear c0_1
    have FCD := Lib.hid (((F1.out.drew).c3 0 rfl).1)
    go_region_held3 (fun w' => (w'.cell? ⟨w.heap.size, 0, none⟩ = some (.bool false) ∧ w'.cell? ⟨w.heap.size, 1, none⟩ = some (.slice a1 k1 c1) ∧ w'.cell? ⟨w.heap.size, 2, none⟩ = some (.int .i64 e))) (first | with_reducible exact FCD.out | with_reducible exact FC.out) (first | (go_at_call 122; (with_reducible refine (CA.out _).mono ?_); rintro q ww3 ⟨rfl, hb⟩; have F3 := Lib.hid (F2.out.call hb); have U3 := Lib.hid (U2.out.below hb); have FC := Lib.hid ((F3.out.c3 0 rfl).1); have c0_3 := F3.out.c3 0 rfl; clear hb) | (go_at_call 68; (with_reducible refine (CO.out _ _ (U1.out.drew)).mono ?_); rintro q ww2 ⟨rfl, hb⟩; have F2 := Lib.hid ((F1.out.drew).call hb); have U2 := Lib.hid ((U1.out.drew).below hb); have FC := Lib.hid ((F2.out.c3 0 rfl).1); have c0_2 := F2.out.c3 0 rfl; clear hb))
    go_wp2_with fail
    clear c0_3
    refine (of_any (n := 1) (by decide) U3.out.tab).mono ?_
    rintro q w4 ⟨u, rfl, hu, hb⟩
    have F4 := Lib.hid (F3.out.call hb)
    have U4 := Lib.hid (U3.out.below hb)
    clear F3 U3
    have O4 := Lib.hid (hu)
    clear hb
    have c0_4 := F4.out.c3 0 rfl
    obtain ⟨a4, k4, c4, rfl⟩ := O4.out.form
    go_wp2_with fail
    clear c0_4
    refine (add_r (U4.out.rd hbl) (O4.out.rd (by decide))).mono ?_
    rintro q w5 ⟨u, rfl, hu, hb⟩
    have F5 := Lib.hid (F4.out.call hb)
    have U5 := Lib.hid (U4.out.below hb)
    have O5 := Lib.hid (O4.out.below hb)
    clear F4 U4 O4
    have V5 := Lib.hid (hu)
    clear hb
    have c0_5 := F5.out.c3 0 rfl
    obtain ⟨a5, k5, c5, rfl⟩ := V5.out.form
    go_wp2
    refine bodyPost_ret (v := .tuple #[.slice a5 k5 c5, .bool true]) (by simp [results, Tryz.results86, go_sem]) rfl ?_
    exact ⟨_, rfl, V5.out, F5.out.b⟩
  · obtain rfl : bm = true := HBM.out
    obtain rfl : i = true := HI.out
    clear HBM HI
    have F0 := Lib.hid (Fx.one w 42 #[.bool false, .slice a1 k1 c1, .int .i64 e] rfl)
    have X0 := Lib.hid (HUU.out.alloc (.cells #[.bool false, .slice a1 k1 c1, .int .i64 e] 42))
    clear HUU
    go_enter Tryz.func86, Tryz.ntmps86
    go_upto_region 1 with (fail)
    generalize World.alloc _ _ = w0 at F0 X0 ⊢
    have c0_0 := F0.out.c3 0 rfl
    go_wp2_with fail
    clear c0_0
    refine (CP.out _ _ X0.out).mono ?_
    rintro q w1 ⟨u, rfl, hu, hb⟩
    have F1 := Lib.hid (F0.out.call hb)
    have X1 := Lib.hid (X0.out.below hb)
    clear F0 X0
    have U1 := Lib.hid (hu)
    clear hb
    have c0_1 := F1.out.c3 0 rfl
    obtain ⟨a3, k3, c3, rfl⟩ := U1.out.form
    go_upto_region 3 with (fail)
    clear X1
    clear c0_1
    have FCD := Lib.hid (((F1.out.drew).c3 0 rfl).1)
    go_region_held3 (fun w' => (w'.cell? ⟨w.heap.size, 0, none⟩ = some (.bool false) ∧ w'.cell? ⟨w.heap.size, 1, none⟩ = some (.slice a1 k1 c1) ∧ w'.cell? ⟨w.heap.size, 2, none⟩ = some (.int .i64 e))) (first | with_reducible exact FCD.out | with_reducible exact FC.out) (first | (go_at_call 122; (with_reducible refine (CA.out _).mono ?_); rintro q ww3 ⟨rfl, hb⟩; have F3 := Lib.hid (F2.out.call hb); have U3 := Lib.hid (U2.out.below hb); have FC := Lib.hid ((F3.out.c3 0 rfl).1); have c0_3 := F3.out.c3 0 rfl; clear hb) | (go_at_call 68; (with_reducible refine (CO.out _ _ (U1.out.drew)).mono ?_); rintro q ww2 ⟨rfl, hb⟩; have F2 := Lib.hid ((F1.out.drew).call hb); have U2 := Lib.hid ((U1.out.drew).below hb); have FC := Lib.hid ((F2.out.c3 0 rfl).1); have c0_2 := F2.out.c3 0 rfl; clear hb))
    go_wp2
    refine bodyPost_ret (v := .tuple #[.slice a3 k3 c3, .bool true]) (by simp [results, Tryz.results86, go_sem]) rfl ?_
    exact ⟨_, rfl, U3.out, F3.out.b⟩
  · obtain rfl : bm = true := HBM.out
    obtain rfl : i = true := HI.out
    clear HBM HI
    have F0 := Lib.hid (Fx.one w 42 #[.bool false, .slice a1 k1 c1, .int .i64 e] rfl)
    have X0 := Lib.hid (HUU.out.alloc (.cells #[.bool false, .slice a1 k1 c1, .int .i64 e] 42))
    clear HUU
    go_enter Tryz.func86, Tryz.ntmps86
    go_upto_region 1 with (fail)
    generalize World.alloc _ _ = w0 at F0 X0 ⊢
    have c0_0 := F0.out.c3 0 rfl
    go_wp2_with fail
    clear c0_0
    refine (CP.out _ _ X0.out).mono ?_
    rintro q w1 ⟨u, rfl, hu, hb⟩
    have F1 := Lib.hid (F0.out.call hb)
    have X1 := Lib.hid (X0.out.below hb)
    clear F0 X0
    have U1 := Lib.hid (hu)
    clear hb
    have c0_1 := F1.out.c3 0 rfl
    obtain ⟨a3, k3, c3, rfl⟩ := U1.out.form
    go_upto_region 3 with (fail)
    clear X1
    clear c0_1
    have FCD := Lib.hid (((F1.out.drew).c3 0 rfl).1)
    go_region_held3 (fun w' => (w'.cell? ⟨w.heap.size, 0, none⟩ = some (.bool false) ∧ w'.cell? ⟨w.heap.size, 1, none⟩ = some (.slice a1 k1 c1) ∧ w'.cell? ⟨w.heap.size, 2, none⟩ = some (.int .i64 e))) (first | with_reducible exact FCD.out | with_reducible exact FC.out) (first | (go_at_call 122; (with_reducible refine (CA.out _).mono ?_); rintro q ww3 ⟨rfl, hb⟩; have F3 := Lib.hid (F2.out.call hb); have U3 := Lib.hid (U2.out.below hb); have FC := Lib.hid ((F3.out.c3 0 rfl).1); have c0_3 := F3.out.c3 0 rfl; clear hb) | (go_at_call 68; (with_reducible refine (CO.out _ _ (U1.out.drew)).mono ?_); rintro q ww2 ⟨rfl, hb⟩; have F2 := Lib.hid ((F1.out.drew).call hb); have U2 := Lib.hid ((U1.out.drew).below hb); have FC := Lib.hid ((F2.out.c3 0 rfl).1); have c0_2 := F2.out.c3 0 rfl; clear hb))
    go_wp2_with fail
    clear c0_3
    refine (of_any (n := 1) (by decide) U3.out.tab).mono ?_
    rintro q w4 ⟨u, rfl, hu, hb⟩
    have F4 := Lib.hid (F3.out.call hb)
    have U4 := Lib.hid (U3.out.below hb)
    clear F3 U3
    have O4 := Lib.hid (hu)
    clear hb
    have c0_4 := F4.out.c3 0 rfl
    obtain ⟨a4, k4, c4, rfl⟩ := O4.out.form
    go_wp2_with fail
    clear c0_4
    refine (add_r (U4.out.rd hbl) (O4.out.rd (by decide))).mono ?_
    rintro q w5 ⟨u, rfl, hu, hb⟩
    have F5 := Lib.hid (F4.out.call hb)
    have U5 := Lib.hid (U4.out.below hb)
    have O5 := Lib.hid (O4.out.below hb)
    clear F4 U4 O4
    have V5 := Lib.hid (hu)
    clear hb
    have c0_5 := F5.out.c3 0 rfl
    obtain ⟨a5, k5, c5, rfl⟩ := V5.out.form
    go_wp2
    refine bodyPost_ret (v := .tuple #[.slice a5 k5 c5, .bool true]) (by simp [results, Tryz.results86, go_sem]) rfl ?_
    exact ⟨_, rfl, V5.out, F5.out.b⟩
  · obtain rfl : bm = true := HBM.out
    obtain rfl : i = true := HI.out
    clear HBM HI
    have F0 := Lib.hid (Fx.one w 42 #[.bool false, .slice a1 k1 c1, .int .i64 e] rfl)
    have X0 := Lib.hid (HUU.out.alloc (.cells #[.bool false, .slice a1 k1 c1, .int .i64 e] 42))
    clear HUU
    go_enter Tryz.func86, Tryz.ntmps86
    go_upto_region 1 with (fail)
    generalize World.alloc _ _ = w0 at F0 X0 ⊢
    have c0_0 := F0.out.c3 0 rfl
    go_wp2_with fail
    clear c0_0
    refine (CP.out _ _ X0.out).mono ?_
    rintro q w1 ⟨u, rfl, hu, hb⟩
    have F1 := Lib.hid (F0.out.call hb)
    have X1 := Lib.hid (X0.out.below hb)
    clear F0 X0
    have U1 := Lib.hid (hu)
    clear hb
    have c0_1 := F1.out.c3 0 rfl
    obtain ⟨a3, k3, c3, rfl⟩ := U1.out.form
    go_upto_region 3 with (fail)
    clear X1
    clear c0_1
    have FCD := Lib.hid (((F1.out.drew).c3 0 rfl).1)
    go_region_held3 (fun w' => (w'.cell? ⟨w.heap.size, 0, none⟩ = some (.bool false) ∧ w'.cell? ⟨w.heap.size, 1, none⟩ = some (.slice a1 k1 c1) ∧ w'.cell? ⟨w.heap.size, 2, none⟩ = some (.int .i64 e))) (first | with_reducible exact FCD.out | with_reducible exact FC.out) (first | (go_at_call 122; (with_reducible refine (CA.out _).mono ?_); rintro q ww3 ⟨rfl, hb⟩; have F3 := Lib.hid (F2.out.call hb); have U3 := Lib.hid (U2.out.below hb); have FC := Lib.hid ((F3.out.c3 0 rfl).1); have c0_3 := F3.out.c3 0 rfl; clear hb) | (go_at_call 68; (with_reducible refine (CO.out _ _ (U1.out.drew)).mono ?_); rintro q ww2 ⟨rfl, hb⟩; have F2 := Lib.hid ((F1.out.drew).call hb); have U2 := Lib.hid ((U1.out.drew).below hb); have FC := Lib.hid ((F2.out.c3 0 rfl).1); have c0_2 := F2.out.c3 0 rfl; clear hb))
    go_wp2
    refine bodyPost_ret (v := .tuple #[.slice a3 k3 c3, .bool true]) (by simp [results, Tryz.results86, go_sem]) rfl ?_
    exact ⟨_, rfl, U3.out, F3.out.b⟩
  · obtain rfl : bm = true := HBM.out
    obtain rfl : i = true := HI.out
    clear HBM HI
    have F0 := Lib.hid (Fx.one w 42 #[.bool false, .slice a1 k1 c1, .int .i64 e] rfl)
    have X0 := Lib.hid (HUU.out.alloc (.cells #[.bool false, .slice a1 k1 c1, .int .i64 e] 42))
    clear HUU
    go_enter Tryz.func86, Tryz.ntmps86
    go_upto_region 1 with (fail)
    generalize World.alloc _ _ = w0 at F0 X0 ⊢
    have c0_0 := F0.out.c3 0 rfl
    go_wp2_with fail
    clear c0_0
    refine (CP.out _ _ X0.out).mono ?_
    rintro q w1 ⟨u, rfl, hu, hb⟩
    have F1 := Lib.hid (F0.out.call hb)
    have X1 := Lib.hid (X0.out.below hb)
    clear F0 X0
    have U1 := Lib.hid (hu)
    clear hb
    have c0_1 := F1.out.c3 0 rfl
    obtain ⟨a3, k3, c3, rfl⟩ := U1.out.form
    go_upto_region 3 with (fail)
    clear X1
    clear c0_1
    have FCD := Lib.hid (((F1.out.drew).c3 0 rfl).1)
    go_region_held3 (fun w' => (w'.cell? ⟨w.heap.size, 0, none⟩ = some (.bool false) ∧ w'.cell? ⟨w.heap.size, 1, none⟩ = some (.slice a1 k1 c1) ∧ w'.cell? ⟨w.heap.size, 2, none⟩ = some (.int .i64 e))) (first | with_reducible exact FCD.out | with_reducible exact FC.out) (first | (go_at_call 122; (with_reducible refine (CA.out _).mono ?_); rintro q ww3 ⟨rfl, hb⟩; have F3 := Lib.hid (F2.out.call hb); have U3 := Lib.hid (U2.out.below hb); have FC := Lib.hid ((F3.out.c3 0 rfl).1); have c0_3 := F3.out.c3 0 rfl; clear hb) | (go_at_call 68; (with_reducible refine (CO.out _ _ (U1.out.drew)).mono ?_); rintro q ww2 ⟨rfl, hb⟩; have F2 := Lib.hid ((F1.out.drew).call hb); have U2 := Lib.hid ((U1.out.drew).below hb); have FC := Lib.hid ((F2.out.c3 0 rfl).1); have c0_2 := F2.out.c3 0 rfl; clear hb))
    go_wp2_with fail
    clear c0_3
    refine (of_any (n := 1) (by decide) U3.out.tab).mono ?_
    rintro q w4 ⟨u, rfl, hu, hb⟩
    have F4 := Lib.hid (F3.out.call hb)
    have U4 := Lib.hid (U3.out.below hb)
    clear F3 U3
    have O4 := Lib.hid (hu)
    clear hb
    have c0_4 := F4.out.c3 0 rfl
    obtain ⟨a4, k4, c4, rfl⟩ := O4.out.form
    go_wp2_with fail
    clear c0_4
    refine (add_r (U4.out.rd hbl) (O4.out.rd (by decide))).mono ?_
    rintro q w5 ⟨u, rfl, hu, hb⟩
    have F5 := Lib.hid (F4.out.call hb)
    have U5 := Lib.hid (U4.out.below hb)
    have O5 := Lib.hid (O4.out.below hb)
    clear F4 U4 O4
    have V5 := Lib.hid (hu)
    clear hb
    have c0_5 := F5.out.c3 0 rfl
    obtain ⟨a5, k5, c5, rfl⟩ := V5.out.form
    go_wp2
    refine bodyPost_ret (v := .tuple #[.slice a5 k5 c5, .bool true]) (by simp [results, Tryz.results86, go_sem]) rfl ?_
    exact ⟨_, rfl, V5.out, F5.out.b⟩
  · obtain rfl : bm = true := HBM.out
    obtain rfl : i = true := HI.out
    clear HBM HI
    have F0 := Lib.hid (Fx.one w 42 #[.bool false, .slice a1 k1 c1, .int .i64 e] rfl)
    have X0 := Lib.hid (HUU.out.alloc (.cells #[.bool false, .slice a1 k1 c1, .int .i64 e] 42))
    clear HUU
    go_enter Tryz.func86, Tryz.ntmps86
    go_upto_region 1 with (fail)
    generalize World.alloc _ _ = w0 at F0 X0 ⊢
    have c0_0 := F0.out.c3 0 rfl
    go_wp2_with fail
    clear c0_0
    refine (CP.out _ _ X0.out).mono ?_
    rintro q w1 ⟨u, rfl, hu, hb⟩
    have F1 := Lib.hid (F0.out.call hb)
    have X1 := Lib.hid (X0.out.below hb)
    clear F0 X0
    have U1 := Lib.hid (hu)
    clear hb
    have c0_1 := F1.out.c3 0 rfl
    obtain ⟨a3, k3, c3, rfl⟩ := U1.out.form
    go_upto_region 3 with (fail)
    clear X1
    clear c0_1
    have FCD := Lib.hid (((F1.out.drew).c3 0 rfl).1)
    go_region_held3 (fun w' => (w'.cell? ⟨w.heap.size, 0, none⟩ = some (.bool false) ∧ w'.cell? ⟨w.heap.size, 1, none⟩ = some (.slice a1 k1 c1) ∧ w'.cell? ⟨w.heap.size, 2, none⟩ = some (.int .i64 e))) (first | with_reducible exact FCD.out | with_reducible exact FC.out) (first | (go_at_call 122; (with_reducible refine (CA.out _).mono ?_); rintro q ww3 ⟨rfl, hb⟩; have F3 := Lib.hid (F2.out.call hb); have U3 := Lib.hid (U2.out.below hb); have FC := Lib.hid ((F3.out.c3 0 rfl).1); have c0_3 := F3.out.c3 0 rfl; clear hb) | (go_at_call 68; (with_reducible refine (CO.out _ _ (U1.out.drew)).mono ?_); rintro q ww2 ⟨rfl, hb⟩; have F2 := Lib.hid ((F1.out.drew).call hb); have U2 := Lib.hid ((U1.out.drew).below hb); have FC := Lib.hid ((F2.out.c3 0 rfl).1); have c0_2 := F2.out.c3 0 rfl; clear hb))
    go_wp2
    refine bodyPost_ret (v := .tuple #[.slice a3 k3 c3, .bool true]) (by simp [results, Tryz.results86, go_sem]) rfl ?_
    exact ⟨_, rfl, U3.out, F3.out.b⟩
  · obtain rfl : bm = true := HBM.out
    obtain rfl : i = true := HI.out
    clear HBM HI
    have F0 := Lib.hid (Fx.one w 42 #[.bool false, .slice a1 k1 c1, .int .i64 e] rfl)
    have X0 := Lib.hid (HUU.out.alloc (.cells #[.bool false, .slice a1 k1 c1, .int .i64 e] 42))
    clear HUU
    go_enter Tryz.func86, Tryz.ntmps86
    go_upto_region 1 with (fail)
    generalize World.alloc _ _ = w0 at F0 X0 ⊢
    have c0_0 := F0.out.c3 0 rfl
    go_wp2_with fail
    clear c0_0
    refine (CP.out _ _ X0.out).mono ?_
    rintro q w1 ⟨u, rfl, hu, hb⟩
    have F1 := Lib.hid (F0.out.call hb)
    have X1 := Lib.hid (X0.out.below hb)
    clear F0 X0
    have U1 := Lib.hid (hu)
    clear hb
    have c0_1 := F1.out.c3 0 rfl
    obtain ⟨a3, k3, c3, rfl⟩ := U1.out.form
    go_upto_region 3 with (fail)
    clear X1
    clear c0_1
    have FCD := Lib.hid (((F1.out.drew).c3 0 rfl).1)
    go_region_held3 (fun w' => (w'.cell? ⟨w.heap.size, 0, none⟩ = some (.bool false) ∧ w'.cell? ⟨w.heap.size, 1, none⟩ = some (.slice a1 k1 c1) ∧ w'.cell? ⟨w.heap.size, 2, none⟩ = some (.int .i64 e))) (first | with_reducible exact FCD.out | with_reducible exact FC.out) (first | (go_at_call 122; (with_reducible refine (CA.out _).mono ?_); rintro q ww3 ⟨rfl, hb⟩; have F3 := Lib.hid (F2.out.call hb); have U3 := Lib.hid (U2.out.below hb); have FC := Lib.hid ((F3.out.c3 0 rfl).1); have c0_3 := F3.out.c3 0 rfl; clear hb) | (go_at_call 68; (with_reducible refine (CO.out _ _ (U1.out.drew)).mono ?_); rintro q ww2 ⟨rfl, hb⟩; have F2 := Lib.hid ((F1.out.drew).call hb); have U2 := Lib.hid ((U1.out.drew).below hb); have FC := Lib.hid ((F2.out.c3 0 rfl).1); have c0_2 := F2.out.c3 0 rfl; clear hb))
    go_wp2_with fail
    clear c0_3
    refine (of_any (n := 1) (by decide) U3.out.tab).mono ?_
    rintro q w4 ⟨u, rfl, hu, hb⟩
    have F4 := Lib.hid (F3.out.call hb)
    have U4 := Lib.hid (U3.out.below hb)
    clear F3 U3
    have O4 := Lib.hid (hu)
    clear hb
    have c0_4 := F4.out.c3 0 rfl
    obtain ⟨a4, k4, c4, rfl⟩ := O4.out.form
    go_wp2_with fail
    clear c0_4
    refine (add_r (U4.out.rd hbl) (O4.out.rd (by decide))).mono ?_
    rintro q w5 ⟨u, rfl, hu, hb⟩
    have F5 := Lib.hid (F4.out.call hb)
    have U5 := Lib.hid (U4.out.below hb)
    have O5 := Lib.hid (O4.out.below hb)
    clear F4 U4 O4
    have V5 := Lib.hid (hu)
    clear hb
    have c0_5 := F5.out.c3 0 rfl
    obtain ⟨a5, k5, c5, rfl⟩ := V5.out.form
    go_wp2
    refine bodyPost_ret (v := .tuple #[.slice a5 k5 c5, .bool true]) (by simp [results, Tryz.results86, go_sem]) rfl ?_
    exact ⟨_, rfl, V5.out, F5.out.b⟩
  · obtain rfl : bm = true := HBM.out
    obtain rfl : i = true := HI.out
    clear HBM HI
    have F0 := Lib.hid (Fx.one w 42 #[.bool false, .slice a1 k1 c1, .int .i64 e] rfl)
    have X0 := Lib.hid (HUU.out.alloc (.cells #[.bool false, .slice a1 k1 c1, .int .i64 e] 42))
    clear HUU
    go_enter Tryz.func86, Tryz.ntmps86
    go_upto_region 1 with (fail)
    generalize World.alloc _ _ = w0 at F0 X0 ⊢
    have c0_0 := F0.out.c3 0 rfl
    go_wp2_with fail
    clear c0_0
    refine (CP.out _ _ X0.out).mono ?_
    rintro q w1 ⟨u, rfl, hu, hb⟩
    have F1 := Lib.hid (F0.out.call hb)
    have X1 := Lib.hid (X0.out.below hb)
    clear F0 X0
    have U1 := Lib.hid (hu)
    clear hb
    have c0_1 := F1.out.c3 0 rfl
    obtain ⟨a3, k3, c3, rfl⟩ := U1.out.form
    go_upto_region 3 with (fail)
    clear X1
    clear c0_1
    have FCD := Lib.hid (((F1.out.drew).c3 0 rfl).1)
    go_region_held3 (fun w' => (w'.cell? ⟨w.heap.size, 0, none⟩ = some (.bool false) ∧ w'.cell? ⟨w.heap.size, 1, none⟩ = some (.slice a1 k1 c1) ∧ w'.cell? ⟨w.heap.size, 2, none⟩ = some (.int .i64 e))) (first | with_reducible exact FCD.out | with_reducible exact FC.out) (first | (go_at_call 122; (with_reducible refine (CA.out _).mono ?_); rintro q ww3 ⟨rfl, hb⟩; have F3 := Lib.hid (F2.out.call hb); have U3 := Lib.hid (U2.out.below hb); have FC := Lib.hid ((F3.out.c3 0 rfl).1); have c0_3 := F3.out.c3 0 rfl; clear hb) | (go_at_call 68; (with_reducible refine (CO.out _ _ (U1.out.drew)).mono ?_); rintro q ww2 ⟨rfl, hb⟩; have F2 := Lib.hid ((F1.out.drew).call hb); have U2 := Lib.hid ((U1.out.drew).below hb); have FC := Lib.hid ((F2.out.c3 0 rfl).1); have c0_2 := F2.out.c3 0 rfl; clear hb))
    go_wp2
    refine bodyPost_ret (v := .tuple #[.slice a3 k3 c3, .bool true]) (by simp [results, Tryz.results86, go_sem]) rfl ?_
    exact ⟨_, rfl, U3.out, F3.out.b⟩
  · obtain rfl : bm = true := HBM.out
    obtain rfl : i = true := HI.out
    clear HBM HI
    have F0 := Lib.hid (Fx.one w 42 #[.bool false, .slice a1 k1 c1, .int .i64 e] rfl)
    have X0 := Lib.hid (HUU.out.alloc (.cells #[.bool false, .slice a1 k1 c1, .int .i64 e] 42))
    clear HUU
    go_enter Tryz.func86, Tryz.ntmps86
    go_upto_region 1 with (fail)
    generalize World.alloc _ _ = w0 at F0 X0 ⊢
    have c0_0 := F0.out.c3 0 rfl
    go_wp2_with fail
    clear c0_0
    refine (CP.out _ _ X0.out).mono ?_
    rintro q w1 ⟨u, rfl, hu, hb⟩
    have F1 := Lib.hid (F0.out.call hb)
    have X1 := Lib.hid (X0.out.below hb)
    clear F0 X0
    have U1 := Lib.hid (hu)
    clear hb
    have c0_1 := F1.out.c3 0 rfl
    obtain ⟨a3, k3, c3, rfl⟩ := U1.out.form
    go_upto_region 3 with (fail)
    clear X1
    clear c0_1
    have FCD := Lib.hid (((F1.out.drew).c3 0 rfl).1)
    go_region_held3 (fun w' => (w'.cell? ⟨w.heap.size, 0, none⟩ = some (.bool false) ∧ w'.cell? ⟨w.heap.size, 1, none⟩ = some (.slice a1 k1 c1) ∧ w'.cell? ⟨w.heap.size, 2, none⟩ = some (.int .i64 e))) (first | with_reducible exact FCD.out | with_reducible exact FC.out) (first | (go_at_call 122; (with_reducible refine (CA.out _).mono ?_); rintro q ww3 ⟨rfl, hb⟩; have F3 := Lib.hid (F2.out.call hb); have U3 := Lib.hid (U2.out.below hb); have FC := Lib.hid ((F3.out.c3 0 rfl).1); have c0_3 := F3.out.c3 0 rfl; clear hb) | (go_at_call 68; (with_reducible refine (CO.out _ _ (U1.out.drew)).mono ?_); rintro q ww2 ⟨rfl, hb⟩; have F2 := Lib.hid ((F1.out.drew).call hb); have U2 := Lib.hid ((U1.out.drew).below hb); have FC := Lib.hid ((F2.out.c3 0 rfl).1); have c0_2 := F2.out.c3 0 rfl; clear hb))
    go_wp2_with fail
    clear c0_3
    refine (of_any (n := 1) (by decide) U3.out.tab).mono ?_
    rintro q w4 ⟨u, rfl, hu, hb⟩
    have F4 := Lib.hid (F3.out.call hb)
    have U4 := Lib.hid (U3.out.below hb)
    clear F3 U3
    have O4 := Lib.hid (hu)
    clear hb
    have c0_4 := F4.out.c3 0 rfl
    obtain ⟨a4, k4, c4, rfl⟩ := O4.out.form
    go_wp2_with fail
    clear c0_4
    refine (add_r (U4.out.rd hbl) (O4.out.rd (by decide))).mono ?_
    rintro q w5 ⟨u, rfl, hu, hb⟩
    have F5 := Lib.hid (F4.out.call hb)
    have U5 := Lib.hid (U4.out.below hb)
    have O5 := Lib.hid (O4.out.below hb)
    clear F4 U4 O4
    have V5 := Lib.hid (hu)
    clear hb
    have c0_5 := F5.out.c3 0 rfl
    obtain ⟨a5, k5, c5, rfl⟩ := V5.out.form
    go_wp2
    refine bodyPost_ret (v := .tuple #[.slice a5 k5 c5, .bool true]) (by simp [results, Tryz.results86, go_sem]) rfl ?_
    exact ⟨_, rfl, V5.out, F5.out.b⟩
  · obtain rfl : bm = true := HBM.out
    obtain rfl : i = true := HI.out
    clear HBM HI
    have F0 := Lib.hid (Fx.one w 42 #[.bool false, .slice a1 k1 c1, .int .i64 e] rfl)
    have X0 := Lib.hid (HUU.out.alloc (.cells #[.bool false, .slice a1 k1 c1, .int .i64 e] 42))
    clear HUU
    go_enter Tryz.func86, Tryz.ntmps86
    go_upto_region 1 with (fail)
    generalize World.alloc _ _ = w0 at F0 X0 ⊢
    have c0_0 := F0.out.c3 0 rfl
    go_wp2_with fail
    clear c0_0
    refine (CP.out _ _ X0.out).mono ?_
    rintro q w1 ⟨u, rfl, hu, hb⟩
    have F1 := Lib.hid (F0.out.call hb)
    have X1 := Lib.hid (X0.out.below hb)
    clear F0 X0
    have U1 := Lib.hid (hu)
    clear hb
    have c0_1 := F1.out.c3 0 rfl
    obtain ⟨a3, k3, c3, rfl⟩ := U1.out.form
    go_upto_region 3 with (fail)
    clear X1
    clear c0_1
    have FCD := Lib.hid (((F1.out.drew).c3 0 rfl).1)
    go_region_held3 (fun w' => (w'.cell? ⟨w.heap.size, 0, none⟩ = some (.bool false) ∧ w'.cell? ⟨w.heap.size, 1, none⟩ = some (.slice a1 k1 c1) ∧ w'.cell? ⟨w.heap.size, 2, none⟩ = some (.int .i64 e))) (first | with_reducible exact FCD.out | with_reducible exact FC.out) (first | (go_at_call 122; (with_reducible refine (CA.out _).mono ?_); rintro q ww3 ⟨rfl, hb⟩; have F3 := Lib.hid (F2.out.call hb); have U3 := Lib.hid (U2.out.below hb); have FC := Lib.hid ((F3.out.c3 0 rfl).1); have c0_3 := F3.out.c3 0 rfl; clear hb) | (go_at_call 68; (with_reducible refine (CO.out _ _ (U1.out.drew)).mono ?_); rintro q ww2 ⟨rfl, hb⟩; have F2 := Lib.hid ((F1.out.drew).call hb); have U2 := Lib.hid ((U1.out.drew).below hb); have FC := Lib.hid ((F2.out.c3 0 rfl).1); have c0_2 := F2.out.c3 0 rfl; clear hb))
    go_wp2
    refine bodyPost_ret (v := .tuple #[.slice a3 k3 c3, .bool true]) (by simp [results, Tryz.results86, go_sem]) rfl ?_
    exact ⟨_, rfl, U3.out, F3.out.b⟩
  · obtain rfl : bm = true := HBM.out
    obtain rfl : i = true := HI.out
    clear HBM HI
    have F0 := Lib.hid (Fx.one w 42 #[.bool false, .slice a1 k1 c1, .int .i64 e] rfl)
    have X0 := Lib.hid (HUU.out.alloc (.cells #[.bool false, .slice a1 k1 c1, .int .i64 e] 42))
    clear HUU
    go_enter Tryz.func86, Tryz.ntmps86
    go_upto_region 1 with (fail)
    generalize World.alloc _ _ = w0 at F0 X0 ⊢
    have c0_0 := F0.out.c3 0 rfl
    go_wp2_with fail
    clear c0_0
    refine (CP.out _ _ X0.out).mono ?_
    rintro q w1 ⟨u, rfl, hu, hb⟩
    have F1 := Lib.hid (F0.out.call hb)
    have X1 := Lib.hid (X0.out.below hb)
    clear F0 X0
    have U1 := Lib.hid (hu)
    clear hb
    have c0_1 := F1.out.c3 0 rfl
    obtain ⟨a3, k3, c3, rfl⟩ := U1.out.form
    go_upto_region 3 with (fail)
    clear X1
    clear c0_1
    have FCD := Lib.hid (((F1.out.drew).c3 0 rfl).1)
    go_region_held3 (fun w' => (w'.cell? ⟨w.heap.size, 0, none⟩ = some (.bool false) ∧ w'.cell? ⟨w.heap.size, 1, none⟩ = some (.slice a1 k1 c1) ∧ w'.cell? ⟨w.heap.size, 2, none⟩ = some (.int .i64 e))) (first | with_reducible exact FCD.out | with_reducible exact FC.out) (first | (go_at_call 122; (with_reducible refine (CA.out _).mono ?_); rintro q ww3 ⟨rfl, hb⟩; have F3 := Lib.hid (F2.out.call hb); have U3 := Lib.hid (U2.out.below hb); have FC := Lib.hid ((F3.out.c3 0 rfl).1); have c0_3 := F3.out.c3 0 rfl; clear hb) | (go_at_call 68; (with_reducible refine (CO.out _ _ (U1.out.drew)).mono ?_); rintro q ww2 ⟨rfl, hb⟩; have F2 := Lib.hid ((F1.out.drew).call hb); have U2 := Lib.hid ((U1.out.drew).below hb); have FC := Lib.hid ((F2.out.c3 0 rfl).1); have c0_2 := F2.out.c3 0 rfl; clear hb))
    go_wp2_with fail
    clear c0_3
    refine (of_any (n := 1) (by decide) U3.out.tab).mono ?_
    rintro q w4 ⟨u, rfl, hu, hb⟩
    have F4 := Lib.hid (F3.out.call hb)
    have U4 := Lib.hid (U3.out.below hb)
    clear F3 U3
    have O4 := Lib.hid (hu)
    clear hb
    have c0_4 := F4.out.c3 0 rfl
    obtain ⟨a4, k4, c4, rfl⟩ := O4.out.form
    go_wp2_with fail
    clear c0_4
    refine (add_r (U4.out.rd hbl) (O4.out.rd (by decide))).mono ?_
    rintro q w5 ⟨u, rfl, hu, hb⟩
    have F5 := Lib.hid (F4.out.call hb)
    have U5 := Lib.hid (U4.out.below hb)
    have O5 := Lib.hid (O4.out.below hb)
    clear F4 U4 O4
    have V5 := Lib.hid (hu)
    clear hb
    have c0_5 := F5.out.c3 0 rfl
    obtain ⟨a5, k5, c5, rfl⟩ := V5.out.form
    go_wp2
    refine bodyPost_ret (v := .tuple #[.slice a5 k5 c5, .bool true]) (by simp [results, Tryz.results86, go_sem]) rfl ?_
    exact ⟨_, rfl, V5.out, F5.out.b⟩
  · obtain rfl : bm = true := HBM.out
    obtain rfl : i = true := HI.out
    clear HBM HI
    have F0 := Lib.hid (Fx.one w 42 #[.bool false, .slice a1 k1 c1, .int .i64 e] rfl)
    have X0 := Lib.hid (HUU.out.alloc (.cells #[.bool false, .slice a1 k1 c1, .int .i64 e] 42))
    clear HUU
    go_enter Tryz.func86, Tryz.ntmps86
    go_upto_region 1 with (fail)
    generalize World.alloc _ _ = w0 at F0 X0 ⊢
    have c0_0 := F0.out.c3 0 rfl
    go_wp2_with fail
    clear c0_0
    refine (CP.out _ _ X0.out).mono ?_
    rintro q w1 ⟨u, rfl, hu, hb⟩
    have F1 := Lib.hid (F0.out.call hb)
    have X1 := Lib.hid (X0.out.below hb)
    clear F0 X0
    have U1 := Lib.hid (hu)
    clear hb
    have c0_1 := F1.out.c3 0 rfl
    obtain ⟨a3, k3, c3, rfl⟩ := U1.out.form
    go_upto_region 3 with (fail)
    clear X1
    clear c0_1
    have FCD := Lib.hid (((F1.out.drew).c3 0 rfl).1)
    go_region_held3 (fun w' => (w'.cell? ⟨w.heap.size, 0, none⟩ = some (.bool false) ∧ w'.cell? ⟨w.heap.size, 1, none⟩ = some (.slice a1 k1 c1) ∧ w'.cell? ⟨w.heap.size, 2, none⟩ = some (.int .i64 e))) (first | with_reducible exact FCD.out | with_reducible exact FC.out) (first | (go_at_call 122; (with_reducible refine (CA.out _).mono ?_); rintro q ww3 ⟨rfl, hb⟩; have F3 := Lib.hid (F2.out.call hb); have U3 := Lib.hid (U2.out.below hb); have FC := Lib.hid ((F3.out.c3 0 rfl).1); have c0_3 := F3.out.c3 0 rfl; clear hb) | (go_at_call 68; (with_reducible refine (CO.out _ _ (U1.out.drew)).mono ?_); rintro q ww2 ⟨rfl, hb⟩; have F2 := Lib.hid ((F1.out.drew).call hb); have U2 := Lib.hid ((U1.out.drew).below hb); have FC := Lib.hid ((F2.out.c3 0 rfl).1); have c0_2 := F2.out.c3 0 rfl; clear hb))
    go_wp2
    refine bodyPost_ret (v := .tuple #[.slice a3 k3 c3, .bool true]) (by simp [results, Tryz.results86, go_sem]) rfl ?_
    exact ⟨_, rfl, U3.out, F3.out.b⟩
  · obtain rfl : bm = true := HBM.out
    obtain rfl : i = true := HI.out
    clear HBM HI
    have F0 := Lib.hid (Fx.one w 42 #[.bool false, .slice a1 k1 c1, .int .i64 e] rfl)
    have X0 := Lib.hid (HUU.out.alloc (.cells #[.bool false, .slice a1 k1 c1, .int .i64 e] 42))
    clear HUU
    go_enter Tryz.func86, Tryz.ntmps86
    go_upto_region 1 with (fail)
    generalize World.alloc _ _ = w0 at F0 X0 ⊢
    have c0_0 := F0.out.c3 0 rfl
    go_wp2_with fail
    clear c0_0
    refine (CP.out _ _ X0.out).mono ?_
    rintro q w1 ⟨u, rfl, hu, hb⟩
    have F1 := Lib.hid (F0.out.call hb)
    have X1 := Lib.hid (X0.out.below hb)
    clear F0 X0
    have U1 := Lib.hid (hu)
    clear hb
    have c0_1 := F1.out.c3 0 rfl
    obtain ⟨a3, k3, c3, rfl⟩ := U1.out.form
    go_upto_region 3 with (fail)
    clear X1
    clear c0_1
    have FCD := Lib.hid (((F1.out.drew).c3 0 rfl).1)
    go_region_held3 (fun w' => (w'.cell? ⟨w.heap.size, 0, none⟩ = some (.bool false) ∧ w'.cell? ⟨w.heap.size, 1, none⟩ = some (.slice a1 k1 c1) ∧ w'.cell? ⟨w.heap.size, 2, none⟩ = some (.int .i64 e))) (first | with_reducible exact FCD.out | with_reducible exact FC.out) (first | (go_at_call 122; (with_reducible refine (CA.out _).mono ?_); rintro q ww3 ⟨rfl, hb⟩; have F3 := Lib.hid (F2.out.call hb); have U3 := Lib.hid (U2.out.below hb); have FC := Lib.hid ((F3.out.c3 0 rfl).1); have c0_3 := F3.out.c3 0 rfl; clear hb) | (go_at_call 68; (with_reducible refine (CO.out _ _ (U1.out.drew)).mono ?_); rintro q ww2 ⟨rfl, hb⟩; have F2 := Lib.hid ((F1.out.drew).call hb); have U2 := Lib.hid ((U1.out.drew).below hb); have FC := Lib.hid ((F2.out.c3 0 rfl).1); have c0_2 := F2.out.c3 0 rfl; clear hb))
    go_wp2_with fail
    clear c0_3
    refine (of_any (n := 1) (by decide) U3.out.tab).mono ?_
    rintro q w4 ⟨u, rfl, hu, hb⟩
    have F4 := Lib.hid (F3.out.call hb)
    have U4 := Lib.hid (U3.out.below hb)
    clear F3 U3
    have O4 := Lib.hid (hu)
    clear hb
    have c0_4 := F4.out.c3 0 rfl
    obtain ⟨a4, k4, c4, rfl⟩ := O4.out.form
    go_wp2_with fail
    clear c0_4
    refine (add_r (U4.out.rd hbl) (O4.out.rd (by decide))).mono ?_
    rintro q w5 ⟨u, rfl, hu, hb⟩
    have F5 := Lib.hid (F4.out.call hb)
    have U5 := Lib.hid (U4.out.below hb)
    have O5 := Lib.hid (O4.out.below hb)
    clear F4 U4 O4
    have V5 := Lib.hid (hu)
    clear hb
    have c0_5 := F5.out.c3 0 rfl
    obtain ⟨a5, k5, c5, rfl⟩ := V5.out.form
    go_wp2
    refine bodyPost_ret (v := .tuple #[.slice a5 k5 c5, .bool true]) (by simp [results, Tryz.results86, go_sem]) rfl ?_
    exact ⟨_, rfl, V5.out, F5.out.b⟩

end Go.Proofs.YtobpioceopfkpaaGreatDoor
