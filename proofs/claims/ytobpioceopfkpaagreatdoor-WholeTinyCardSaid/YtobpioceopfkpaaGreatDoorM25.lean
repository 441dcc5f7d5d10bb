/-
  ops: Asked, does. Printed by gen_ob.py.
-/
import Derived.Test.YtobpioceopfkpaaGreatDoorM24
import Derived.Deep.RegionHeld3
import Derived.Test.YtobpioceopfkpaaGreatDoorM22
namespace Go.Proofs.YtobpioceopfkpaaGreatDoor
open Go.RowKit

theorem andNot_sign {x : Nat} (hx : x < 9223372036854775808) : bits .andNot .u64 (x : Int) 9223372036854775808 = (x : Int) := by
  rw [u64_andNot _ _ (Int.natCast_nonneg _) (by omega) (by decide) (by decide), Int.toNat_natCast]
  congr 1
  have h := Nat.and_two_pow_sub_one_eq_mod x 63
  rw [Nat.mod_eq_of_lt hx] at h
  exact h

set_option maxRecDepth 100000 in
set_option maxHeartbeats 4000000 in
theorem asked_r {w : World} {v : Value} {b : Nat} {y : Dn} (hb : b < 9223372036854775808) (hf : fld b < 2047) (hv : Cy w v y) (z tt : Int) : Calls Tryz.prog 29 #[.int .u64 (b : Int), v, .int .u64 1, .bool false, howV z tt] w (RetA (dyD b) y z tt w) := by
  have CD := Lib.hid (fun w (t : Tab w) => dyad_r (show b < 18446744073709551616 by omega) hf t)
  have q1 := andNot_sign hb
  generalize dyD b = x at *
  have CA := Lib.hid (fun w u v (h : Cy w u x) (k : Cy w v y) => ask_r h k z tt)
  obtain ⟨xn, xm, xe⟩ := x
  obtain ⟨yn, ym, ye⟩ := y
  obtain ⟨a2, k2, c2, rfl⟩ := hv.fm
  have HV := Lib.hid hv
  clear hv hf hb
  unfold howV at *
  go_enter Tryz.func29, Tryz.ntmps29
  have F0 := Lib.hid (Fz.three w 42 #[.bool yn, .slice a2 k2 c2, .int .i64 ye] 28 #[.int .i64 z, .int .i64 64, .int .i64 tt, .pointer none] 58 #[.bool false, .slice none 0 0, .int .i64 0, .bool false, .slice none 0 0, .int .i64 0, .int .u64 0, .bool false, .int .i64 0, .int .i64 0, .int .i64 0])
  have Y0 := Lib.hid (((HV.out.alloc (.cells #[.bool yn, .slice a2 k2 c2, .int .i64 ye] 42)).alloc (.cells #[.int .i64 z, .int .i64 64, .int .i64 tt, .pointer none] 28)).alloc (.cells #[.bool false, .slice none 0 0, .int .i64 0, .bool false, .slice none 0 0, .int .i64 0, .int .u64 0, .bool false, .int .i64 0, .int .i64 0, .int .i64 0] 58))
  go_upto_region 1 with (fail)
  generalize World.alloc (World.alloc (World.alloc _ _) _) _ = w0 at F0 Y0 ⊢
  have c0_0 := F0.out.c3 0 rfl
  have c1_0 := F0.out.c4 1 rfl
  have c2_0 := F0.out.c11 2 rfl
  go_wp2_with fail
  clear c0_0 c1_0 c2_0
  refine (CD.out _ Y0.out.tab).mono ?_
  rintro q w1 ⟨u, rfl, hu, hb⟩
  have F1 := Lib.hid (F0.out.call hb)
  have Y1 := Lib.hid (Y0.out.below hb)
  clear F0 Y0
  have U1 := Lib.hid (hu)
  clear hb
  have c0_1 := F1.out.c3 0 rfl
  have c1_1 := F1.out.c4 1 rfl
  have c2_1 := F1.out.c11 2 rfl
  obtain ⟨a1, k1, c1, rfl⟩ := U1.out.fm
  go_upto_region 2 with (fail)
  clear c0_1 c1_1 c2_1
  have F2 := Lib.hid (F1.out.new 42 #[.bool xn, .slice a1 k1 c1, .int .i64 xe])
  have Y2 := Lib.hid (Y1.out.alloc (.cells #[.bool xn, .slice a1 k1 c1, .int .i64 xe] 42))
  have U2 := Lib.hid (U1.out.alloc (.cells #[.bool xn, .slice a1 k1 c1, .int .i64 xe] 42))
  clear F1 Y1 U1
  obtain ⟨g1, hg1⟩ : ∃ g, g = (World.heap w1).size := ⟨_, rfl⟩
  rw [← hg1] at F2 ⊢
  clear hg1
  simp only [List.nil_append, List.cons_append] at F2
  generalize World.alloc w1 _ = W2 at F2 Y2 U2 ⊢
  have c0_2 := F2.out.c3 0 rfl
  have c1_2 := F2.out.c4 1 rfl
  have c2_2 := F2.out.c11 2 rfl
  have c3_2 := F2.out.c3 3 rfl
  go_wp2_with fail
  clear c0_2 c1_2 c2_2 c3_2
  refine (CA.out _ _ _ U2.out Y2.out).mono ?_
  rintro q w3 ⟨u, rfl, hu, hb⟩
  have F3 := Lib.hid (F2.out.call hb)
  have Y3 := Lib.hid (Y2.out.below hb)
  have U3 := Lib.hid (U2.out.below hb)
  clear F2 Y2 U2
  have R3 := Lib.hid (hu)
  clear hb
  have c0_3 := F3.out.c3 0 rfl
  have c1_3 := F3.out.c4 1 rfl
  have c2_3 := F3.out.c11 2 rfl
  have c3_3 := F3.out.c3 3 rfl
  obtain ⟨b1, l1, m1, b2, l2, m2, rfl, h1, h2⟩ := R3.out
  have C1 := h1.tab
  simp only
  go_wp2
  have f := F3.out.s11 2 rfl (.bool xn) (.slice b1 l1 m1) (.int .i64 xe) (.bool yn) (.slice b2 l2 m2) (.int .i64 ye) (.int .u64 1) (.bool false) (.int .i64 z) (.int .i64 64) (.int .i64 tt)
  have e1 := h1.setz HV.out.tab f.b (F3.out.box 2 _ _ _ rfl) rfl (fun k _ hk => (Below.heap_setCell _ _ _ k hk).trans ((Below.heap_setCell _ _ _ k hk).trans ((Below.heap_setCell _ _ _ k hk).trans ((Below.heap_setCell _ _ _ k hk).trans ((Below.heap_setCell _ _ _ k hk).trans ((Below.heap_setCell _ _ _ k hk).trans ((Below.heap_setCell _ _ _ k hk).trans ((Below.heap_setCell _ _ _ k hk).trans ((Below.heap_setCell _ _ _ k hk).trans ((Below.heap_setCell _ _ _ k hk).trans (Below.heap_setCell _ _ _ k hk)))))))))))
  have e2 := h2.setz HV.out.tab f.b (F3.out.box 2 _ _ _ rfl) rfl (fun k _ hk => (Below.heap_setCell _ _ _ k hk).trans ((Below.heap_setCell _ _ _ k hk).trans ((Below.heap_setCell _ _ _ k hk).trans ((Below.heap_setCell _ _ _ k hk).trans ((Below.heap_setCell _ _ _ k hk).trans ((Below.heap_setCell _ _ _ k hk).trans ((Below.heap_setCell _ _ _ k hk).trans ((Below.heap_setCell _ _ _ k hk).trans ((Below.heap_setCell _ _ _ k hk).trans ((Below.heap_setCell _ _ _ k hk).trans (Below.heap_setCell _ _ _ k hk)))))))))))
  generalize (World.setCell (World.setCell (World.setCell (World.setCell (World.setCell (World.setCell (World.setCell (World.setCell (World.setCell (World.setCell (World.setCell _ _ _) _ _) _ _) _ _) _ _) _ _) _ _) _ _) _ _) _ _) _ _) = W at f e1 e2 ⊢
  have g1' := f.c11 2 rfl
  refine bodyPost_ret (v := .agg #[.bool xn, .slice b1 l1 m1, .int .i64 xe, .bool yn, .slice b2 l2 m2, .int .i64 ye, .int .u64 1, .bool false, .int .i64 z, .int .i64 64, .int .i64 tt]) (by simp [results, Tryz.results29, go_sem, g1']) rfl ?_
  exact ⟨_, rfl, ⟨_, _, _, _, _, _, rfl, e1, e2⟩, f.b⟩

end Go.Proofs.YtobpioceopfkpaaGreatDoor

/-
  ops: the closure of Pow. Printed by gen_oc.py.
-/
namespace Go.Proofs.YtobpioceopfkpaaGreatDoor
open Go.RowKit

set_option maxRecDepth 100000 in
set_option maxHeartbeats 4000000 in
theorem Pow1_r {w : World} {x y gy gx gh : Nat} {z tt : Int} (hx : x < 9223372036854775808) (hy : y < 18446744073709551616) (fx : fld x < 2047) (fy : fld y < 2047) (he : (dyD y).e < 0) (t : Tab w)
    (by' : Blk w gy 22 #[.int .u64 (y : Int)]) (bx : Blk w gx 22 #[.int .u64 (x : Int)]) (bh : Blk w gh 28 #[.int .i64 z, .int .i64 64, .int .i64 tt, .pointer none]) :
    Calls Tryz.prog 27 #[.pointer (some ⟨gy, 0, none⟩), .pointer (some ⟨gx, 0, none⟩), .pointer (some ⟨gh, 0, none⟩)] w (RetA (dyD x) (dyD y) z tt w) := by
  have CW := Lib.hid (fun w (t : Tab w) => whole_f hy fy he t)
  have CD := Lib.hid (fun w (t : Tab w) => dyad_r hy fy t)
  have CN := Lib.hid (fun w => (neg_r (show x < 18446744073709551616 by omega) w).mono (fun e w' (h : e = _ ∧ w = w') => (show e = .returned (.bool (sgn x)) ∧ Below w.heap.size w w' from ⟨h.1, h.2 ▸ Below.refl _ _⟩)))
  have hs : sgn x = false := decide_eq_false (by omega)
  rw [hs] at CN
  generalize dyD y = yy at *
  have CA := Lib.hid (fun w v (h : Cy w v yy) => asked_r hx fx h z tt)
  generalize dyD x = xx at *
  obtain ⟨yn, ym, ye⟩ := yy
  obtain ⟨xn, xm, xe⟩ := xx
  have HT := Lib.hid t
  have BY := Lib.hid by'
  have BX := Lib.hid bx
  have BH := Lib.hid bh
  have F0 := Lib.hid (Fz.one w 58 #[.bool false, .slice none 0 0, .int .i64 0, .bool false, .slice none 0 0, .int .i64 0, .int .u64 0, .bool false, .int .i64 0, .int .i64 0, .int .i64 0])
  clear hx hy fx fy he hs t by' bx bh
  unfold howV at *
  go_enter Tryz.func27, Tryz.ntmps27
  go_upto_region 1 with (fail)
  generalize World.alloc _ _ = w0 at F0 ⊢
  have y0 := (BY.out.below F0.out.b).at 0 _ rfl
  have T0 := Lib.hid (HT.out.below F0.out.b)
  go_wp2_with fail
  clear y0
  refine (CW.out _ T0.out).mono ?_
  rintro q w1 ⟨rfl, hb⟩
  have F1 := Lib.hid (F0.out.call hb)
  have T1 := Lib.hid (T0.out.below hb)
  clear F0 T0
  clear hb
  have c0_1 := F1.out.c11 0 rfl
  have y0 := (BY.out.below F1.out.b).at 0 _ rfl
  go_wp2_with fail
  clear y0
  clear c0_1
  refine (CD.out _ T1.out).mono ?_
  rintro q w2 ⟨u, rfl, hu, hb⟩
  have F2 := Lib.hid (F1.out.call hb)
  have T2 := Lib.hid (T1.out.below hb)
  clear F1 T1
  have U2 := Lib.hid (hu)
  clear hb
  have c0_2 := F2.out.c11 0 rfl
  obtain ⟨a2, k2, c2, rfl⟩ := U2.out.fm
  go_upto_region 3 with (fail)
  clear T2
  clear c0_2
  have F3 := Lib.hid (F2.out.new 42 #[.bool yn, .slice a2 k2 c2, .int .i64 ye])
  have U3 := Lib.hid (U2.out.alloc (.cells #[.bool yn, .slice a2 k2 c2, .int .i64 ye] 42))
  clear F2 U2
  obtain ⟨g1, hg1⟩ : ∃ g, g = (World.heap w2).size := ⟨_, rfl⟩
  rw [← hg1] at F3 ⊢
  clear hg1
  simp only [List.nil_append, List.cons_append] at F3
  generalize World.alloc w2 _ = W3 at F3 U3 ⊢
  have c0_3 := F3.out.c11 0 rfl
  have c1_3 := F3.out.c3 1 rfl
  clear c0_3 c1_3
  have FCD : Hid ((fun w' => w'.cell? ⟨gx, 0, none⟩ = some (.int .u64 (x : Int)) ∧ (w'.cell? ⟨g1, 0, none⟩ = some (.bool yn) ∧ w'.cell? ⟨g1, 1, none⟩ = some (.slice a2 k2 c2) ∧ w'.cell? ⟨g1, 2, none⟩ = some (.int .i64 ye)) ∧ (w'.cell? ⟨gh, 0, none⟩ = some (.int .i64 z) ∧ w'.cell? ⟨gh, 1, none⟩ = some (.int .i64 64) ∧ w'.cell? ⟨gh, 2, none⟩ = some (.int .i64 tt) ∧ w'.cell? ⟨gh, 3, none⟩ = some (.pointer none))) (World.drew W3)) := And.intro ((BX.out.below F3.out.drew.b).at 0 _ rfl) (And.intro (F3.out.drew.c3 1 rfl).1 (And.intro ((BH.out.below F3.out.drew.b).at 0 _ rfl) (And.intro ((BH.out.below F3.out.drew.b).at 1 _ rfl) (And.intro ((BH.out.below F3.out.drew.b).at 2 _ rfl) ((BH.out.below F3.out.drew.b).at 3 _ rfl)))))
  refine wp_region_held_drew (S := fun w' => w'.cell? ⟨gx, 0, none⟩ = some (.int .u64 (x : Int)) ∧ (w'.cell? ⟨g1, 0, none⟩ = some (.bool yn) ∧ w'.cell? ⟨g1, 1, none⟩ = some (.slice a2 k2 c2) ∧ w'.cell? ⟨g1, 2, none⟩ = some (.int .i64 ye)) ∧ (w'.cell? ⟨gh, 0, none⟩ = some (.int .i64 z) ∧ w'.cell? ⟨gh, 1, none⟩ = some (.int .i64 64) ∧ w'.cell? ⟨gh, 2, none⟩ = some (.int .i64 tt) ∧ w'.cell? ⟨gh, 3, none⟩ = some (.pointer none))) (by kernel_rfl) FCD.out (fun hHeld => ?_)
  refine wpAnyH_take (i := 0) (oi := ⟨some 18, _, _, _, _, _⟩) (v := ?_) rfl (by kernel_rfl) (by kernel_rfl) (by kernel_rfl) (fun _ _ _ h => h) (Or.inl ⟨by rfl, ?_⟩) (by assumption) ?_
  rotate_left
  · (intro w hSw; (try dsimp only at hSw); go_simp); try with_reducible rfl
  try simp only [Act.put, List.setIfInBounds_toArray, List.set_cons_zero, List.set_cons_succ]
  refine wpAnyH_take (i := 1) (oi := ⟨some 19, _, _, _, _, _⟩) (v := ?_) rfl (by kernel_rfl) (by kernel_rfl) (by kernel_rfl) (fun _ _ _ h => h) (Or.inl ⟨by rfl, ?_⟩) (by assumption) ?_
  rotate_left
  · (intro w hSw; (try dsimp only at hSw); go_simp); try with_reducible rfl
  try simp only [Act.put, List.setIfInBounds_toArray, List.set_cons_zero, List.set_cons_succ]
  refine wpAnyH_take (i := 2) (oi := ⟨some 20, _, _, _, _, _⟩) (v := ?_) rfl (by kernel_rfl) (by kernel_rfl) (by kernel_rfl) (fun _ _ _ h => h) (Or.inl ⟨by rfl, ?_⟩) (by assumption) ?_
  rotate_left
  · (intro w hSw; (try dsimp only at hSw); go_simp); try with_reducible rfl
  try simp only [Act.put, List.setIfInBounds_toArray, List.set_cons_zero, List.set_cons_succ]
  refine wpAnyH_take (i := 7) (oi := ⟨some 25, _, _, _, _, _⟩) (v := ?_) rfl (by kernel_rfl) (by kernel_rfl) (by kernel_rfl) (fun _ _ _ h => h) (Or.inl ⟨by rfl, ?_⟩) (by assumption) ?_
  rotate_left
  · (intro w hSw; (try dsimp only at hSw); go_simp); try with_reducible rfl
  try simp only [Act.put, List.setIfInBounds_toArray, List.set_cons_zero, List.set_cons_succ]
  refine wpAnyH_ready (rs := [3]) (by kernel_rfl) (by simp) ?_
  refine AllReadyH.cons (o := _) rfl (fun K hK => ?_) AllReadyH.nil
  go_simp
  (go_at_call 10; (with_reducible refine (CN.out _).mono ?_); rintro q ww4 ⟨rfl, hb⟩; have F4 := Lib.hid (F3.out.drew.call hb); have U4 := Lib.hid (U3.out.drew.below hb); have FC : Hid ((fun w' => w'.cell? ⟨gx, 0, none⟩ = some (.int .u64 (x : Int)) ∧ (w'.cell? ⟨g1, 0, none⟩ = some (.bool yn) ∧ w'.cell? ⟨g1, 1, none⟩ = some (.slice a2 k2 c2) ∧ w'.cell? ⟨g1, 2, none⟩ = some (.int .i64 ye)) ∧ (w'.cell? ⟨gh, 0, none⟩ = some (.int .i64 z) ∧ w'.cell? ⟨gh, 1, none⟩ = some (.int .i64 64) ∧ w'.cell? ⟨gh, 2, none⟩ = some (.int .i64 tt) ∧ w'.cell? ⟨gh, 3, none⟩ = some (.pointer none))) ww4) := And.intro ((BX.out.below F4.out.b).at 0 _ rfl) (And.intro (F4.out.c3 1 rfl).1 (And.intro ((BH.out.below F4.out.b).at 0 _ rfl) (And.intro ((BH.out.below F4.out.b).at 1 _ rfl) (And.intro ((BH.out.below F4.out.b).at 2 _ rfl) ((BH.out.below F4.out.b).at 3 _ rfl))))); clear hb)
  go_wp2_with fail
  refine hK.out _ _ FC.out (fun hHeld' => ?_)
  clear hK K hHeld
  have hHeld := hHeld'
  clear hHeld'
  try simp only [Act.put, List.setIfInBounds_toArray, List.set_cons_zero, List.set_cons_succ]
  refine wpAnyH_take (i := 4) (oi := ⟨some 22, _, _, _, _, _⟩) (v := ?_) rfl (by kernel_rfl) (by kernel_rfl) (by kernel_rfl) (fun _ _ _ h => h) (Or.inl ⟨by rfl, ?_⟩) (by assumption) ?_
  rotate_left
  · (intro w hSw; (try dsimp only at hSw); go_simp); try with_reducible rfl
  try simp only [Act.put, List.setIfInBounds_toArray, List.set_cons_zero, List.set_cons_succ]
  refine wpAnyH_take (i := 5) (oi := ⟨some 23, _, _, _, _, _⟩) (v := undef) rfl (by kernel_rfl) (by kernel_rfl) (by kernel_rfl) (fun _ _ _ h => h) (Or.inr ⟨by rfl, rfl⟩) (by assumption) ?_
  try simp only [Act.put, List.setIfInBounds_toArray, List.set_cons_zero, List.set_cons_succ]
  refine wpAnyH_take (i := 6) (oi := ⟨some 24, _, _, _, _, _⟩) (v := ?_) rfl (by kernel_rfl) (by kernel_rfl) (by kernel_rfl) (fun _ _ _ h => h) (Or.inl ⟨by rfl, ?_⟩) (by assumption) ?_
  rotate_left
  · (intro w hSw; (try dsimp only at hSw); go_simp); try with_reducible rfl
  try simp only [Act.put, List.setIfInBounds_toArray, List.set_cons_zero, List.set_cons_succ]
  refine wpAnyH_ready (rs := [8]) (by kernel_rfl) (by simp) ?_
  refine AllReadyH.cons (o := _) rfl (fun K hK => ?_) AllReadyH.nil
  go_simp
  (go_at_call 29; (with_reducible refine (CA.out _ _ U4.out).mono ?_); rintro q ww5 ⟨r, rfl, hR, hb⟩; have F5 := Lib.hid (F4.out.call hb); obtain ⟨b1, l1, m1, b2, l2, m2, rfl, h1, h2⟩ := hR; have H1 := Lib.hid h1; have H2 := Lib.hid h2; have FC : Hid ((fun w' => w'.cell? ⟨gx, 0, none⟩ = some (.int .u64 (x : Int)) ∧ (w'.cell? ⟨g1, 0, none⟩ = some (.bool yn) ∧ w'.cell? ⟨g1, 1, none⟩ = some (.slice a2 k2 c2) ∧ w'.cell? ⟨g1, 2, none⟩ = some (.int .i64 ye)) ∧ (w'.cell? ⟨gh, 0, none⟩ = some (.int .i64 z) ∧ w'.cell? ⟨gh, 1, none⟩ = some (.int .i64 64) ∧ w'.cell? ⟨gh, 2, none⟩ = some (.int .i64 tt) ∧ w'.cell? ⟨gh, 3, none⟩ = some (.pointer none))) ww5) := And.intro ((BX.out.below F5.out.b).at 0 _ rfl) (And.intro (F5.out.c3 1 rfl).1 (And.intro ((BH.out.below F5.out.b).at 0 _ rfl) (And.intro ((BH.out.below F5.out.b).at 1 _ rfl) (And.intro ((BH.out.below F5.out.b).at 2 _ rfl) ((BH.out.below F5.out.b).at 3 _ rfl))))); have c0 := F5.out.c11 0 rfl; clear hb h1 h2)
  go_wp2_with fail
  refine hK.out _ _ FC.out (fun hHeld' => ?_)
  clear hK K hHeld
  have hHeld := hHeld'
  clear hHeld'
  try simp only [Act.put, List.setIfInBounds_toArray, List.set_cons_zero, List.set_cons_succ]
  refine wpAnyH_ready (rs := [9]) (by kernel_rfl) (by simp) ?_
  refine AllReadyH.cons (o := _) rfl (fun K hK => ?_) AllReadyH.nil
  go_simp
  refine hK.out _ _ (And.intro ((BX.out.below (F5.out.s11 0 rfl (.bool xn) (.slice b1 l1 m1) (.int .i64 xe) (.bool yn) (.slice b2 l2 m2) (.int .i64 ye) (.int .u64 1) (.bool false) (.int .i64 z) (.int .i64 64) (.int .i64 tt)).b).at 0 _ rfl) (And.intro ((F5.out.s11 0 rfl (.bool xn) (.slice b1 l1 m1) (.int .i64 xe) (.bool yn) (.slice b2 l2 m2) (.int .i64 ye) (.int .u64 1) (.bool false) (.int .i64 z) (.int .i64 64) (.int .i64 tt)).c3 1 rfl).1 (And.intro ((BH.out.below (F5.out.s11 0 rfl (.bool xn) (.slice b1 l1 m1) (.int .i64 xe) (.bool yn) (.slice b2 l2 m2) (.int .i64 ye) (.int .u64 1) (.bool false) (.int .i64 z) (.int .i64 64) (.int .i64 tt)).b).at 0 _ rfl) (And.intro ((BH.out.below (F5.out.s11 0 rfl (.bool xn) (.slice b1 l1 m1) (.int .i64 xe) (.bool yn) (.slice b2 l2 m2) (.int .i64 ye) (.int .u64 1) (.bool false) (.int .i64 z) (.int .i64 64) (.int .i64 tt)).b).at 1 _ rfl) (And.intro ((BH.out.below (F5.out.s11 0 rfl (.bool xn) (.slice b1 l1 m1) (.int .i64 xe) (.bool yn) (.slice b2 l2 m2) (.int .i64 ye) (.int .u64 1) (.bool false) (.int .i64 z) (.int .i64 64) (.int .i64 tt)).b).at 2 _ rfl) ((BH.out.below (F5.out.s11 0 rfl (.bool xn) (.slice b1 l1 m1) (.int .i64 xe) (.bool yn) (.slice b2 l2 m2) (.int .i64 ye) (.int .u64 1) (.bool false) (.int .i64 z) (.int .i64 64) (.int .i64 tt)).b).at 3 _ rfl)))))) (fun hHeld' => ?_)
  clear hK K hHeld
  have hHeld := hHeld'
  clear hHeld'
  try simp only [Act.put, List.setIfInBounds_toArray, List.set_cons_zero, List.set_cons_succ]
  refine wpAnyH_done (by kernel_rfl) ?_ _
  go_wp2
  have f := F5.out.s11 0 rfl (.bool xn) (.slice b1 l1 m1) (.int .i64 xe) (.bool yn) (.slice b2 l2 m2) (.int .i64 ye) (.int .u64 1) (.bool false) (.int .i64 z) (.int .i64 64) (.int .i64 tt)
  have e1 := H1.out.setz HT.out f.b (F5.out.box 0 _ _ _ rfl) rfl (fun k _ hk => (Below.heap_setCell _ _ _ k hk).trans ((Below.heap_setCell _ _ _ k hk).trans ((Below.heap_setCell _ _ _ k hk).trans ((Below.heap_setCell _ _ _ k hk).trans ((Below.heap_setCell _ _ _ k hk).trans ((Below.heap_setCell _ _ _ k hk).trans ((Below.heap_setCell _ _ _ k hk).trans ((Below.heap_setCell _ _ _ k hk).trans ((Below.heap_setCell _ _ _ k hk).trans ((Below.heap_setCell _ _ _ k hk).trans (Below.heap_setCell _ _ _ k hk)))))))))))
  have e2 := H2.out.setz HT.out f.b (F5.out.box 0 _ _ _ rfl) rfl (fun k _ hk => (Below.heap_setCell _ _ _ k hk).trans ((Below.heap_setCell _ _ _ k hk).trans ((Below.heap_setCell _ _ _ k hk).trans ((Below.heap_setCell _ _ _ k hk).trans ((Below.heap_setCell _ _ _ k hk).trans ((Below.heap_setCell _ _ _ k hk).trans ((Below.heap_setCell _ _ _ k hk).trans ((Below.heap_setCell _ _ _ k hk).trans ((Below.heap_setCell _ _ _ k hk).trans ((Below.heap_setCell _ _ _ k hk).trans (Below.heap_setCell _ _ _ k hk)))))))))))
  generalize (World.setCell (World.setCell (World.setCell (World.setCell (World.setCell (World.setCell (World.setCell (World.setCell (World.setCell (World.setCell (World.setCell _ _ _) _ _) _ _) _ _) _ _) _ _) _ _) _ _) _ _) _ _) _ _) = W at f e1 e2 ⊢
  have g1' := f.c11 0 rfl
  refine bodyPost_ret (v := .agg #[.bool xn, .slice b1 l1 m1, .int .i64 xe, .bool yn, .slice b2 l2 m2, .int .i64 ye, .int .u64 1, .bool false, .int .i64 z, .int .i64 64, .int .i64 tt]) (by simp [results, Tryz.results27, go_sem, g1']) rfl ?_
  exact ⟨_, rfl, ⟨_, _, _, _, _, _, rfl, e1, e2⟩, f.b⟩

end Go.Proofs.YtobpioceopfkpaaGreatDoor

/-
  ops: does, Pow. Printed by gen_od.py.
-/
namespace Go.Proofs.YtobpioceopfkpaaGreatDoor
open Go.RowKit

set_option maxRecDepth 100000 in
set_option maxHeartbeats 4000000 in
theorem does_r {w : World} {x y : Dn} {z tt b : Int} (hz : 0 ≤ z ∧ z ≤ 3) (ht : tt = 64 ∨ tt = 1024) (p1 p2 p3 : Addr)
    (hcl : ∀ w' : World, Below w.heap.size w w' → Calls Tryz.prog 27 #[.pointer (some p1), .pointer (some p2), .pointer (some p3)] w' (RetA x y z tt w'))
    (hdo : ∀ (w' : World) (r : Value), Ak w' r x y z tt → Calls Tryz.prog 20 #[r, .pointer none] w' fun e w'' => e = .returned (.tuple #[.agg #[.int .u64 b, .int .u8 1, .int .i64 0], .int .i64 1, .int .i64 0]) ∧ Below w'.heap.size w' w'') :
    Calls Tryz.prog 26 #[howV z tt, .agg #[.int .u64 0, .int .u8 0, .int .i64 0], .bool false, .func (.func 27) #[] #[.pointer (some p1), .pointer (some p2), .pointer (some p3)]] w fun e w' => e = .returned (.tuple #[.agg #[.int .u64 b, .int .u8 1, .int .i64 0], .int .i64 1, .int .i64 0]) ∧ Below w.heap.size w w' := by
  have CR := Lib.hid (fun w => hright_r w z tt hz ht)
  have CL := Lib.hid hcl
  have CD := Lib.hid hdo
  clear hz ht hcl hdo
  unfold howV at *
  unfold RetA at CL
  go_enter Tryz.func26, Tryz.ntmps26
  have F0 := Lib.hid (Fz.three w 28 #[.int .i64 z, .int .i64 64, .int .i64 tt, .pointer none] 32 #[.int .u64 0, .int .u8 0, .int .i64 0] 32 #[.int .u64 0, .int .u8 0, .int .i64 0])
  go_upto_region 1 with (fail)
  generalize World.alloc (World.alloc (World.alloc _ _) _) _ = w0 at F0 ⊢
  have c0_0 := F0.out.c4 0 rfl
  have c1_0 := F0.out.c3 1 rfl
  have c2_0 := F0.out.c3 2 rfl
  go_wp2_with fail
  clear c0_0 c1_0 c2_0
  refine (CR.out _).mono ?_
  rintro q w1 ⟨rfl, hb⟩
  have F1 := Lib.hid (F0.out.call hb)
  clear F0
  clear hb
  have c0_1 := F1.out.c4 0 rfl
  have c1_1 := F1.out.c3 1 rfl
  have c2_1 := F1.out.c3 2 rfl
  go_upto_region 5 with (fail)
  clear c0_1 c1_1 c2_1
  have FCD := Lib.hid (((F1.out.drew).c4 0 rfl).1)
  go_region_held3 (fun w' => (w'.cell? ⟨w.heap.size, 0, none⟩ = some (.int .i64 z) ∧ w'.cell? ⟨w.heap.size, 1, none⟩ = some (.int .i64 64) ∧ w'.cell? ⟨w.heap.size, 2, none⟩ = some (.int .i64 tt) ∧ w'.cell? ⟨w.heap.size, 3, none⟩ = some (.pointer none))) (first | with_reducible exact FCD.out | with_reducible exact FC.out | exact ((F3.out.s3 2 rfl (.int .u64 b) (.int .u8 1) (.int .i64 0)).c4 0 rfl).1) (first | (go_at_call 20; (with_reducible refine (CD.out _ _ R2.out).mono ?_); rintro q ww3 ⟨rfl, hb⟩; have F3 := Lib.hid (F2.out.call hb); have R3 := Lib.hid (R2.out.below hb); have FC := Lib.hid ((F3.out.c4 0 rfl).1); have c0_3 := F3.out.c4 0 rfl; have c1_3 := F3.out.c3 1 rfl; have c2_3 := F3.out.c3 2 rfl; clear hb) | (go_at_call 27; (with_reducible refine (CL.out _ (F1.out.drew).b).mono ?_); rintro q ww2 ⟨r, rfl, hR, hb⟩; have F2 := Lib.hid ((F1.out.drew).call hb); have R2 := Lib.hid (hR); have FC := Lib.hid ((F2.out.c4 0 rfl).1); have c0_2 := F2.out.c4 0 rfl; have c1_2 := F2.out.c3 1 rfl; have c2_2 := F2.out.c3 2 rfl; clear hb))
  go_wp2
  have f := F3.out.s3 2 rfl (.int .u64 b) (.int .u8 1) (.int .i64 0)
  generalize World.setCell (World.setCell (World.setCell _ _ _) _ _) _ _ = W at f ⊢
  have g1 := f.c3 2 rfl
  refine bodyPost_ret (v := .tuple #[.agg #[.int .u64 b, .int .u8 1, .int .i64 0], .int .i64 1, .int .i64 0]) (by simp [results, Tryz.results26, go_sem, g1]) rfl ?_
  exact ⟨rfl, f.b⟩

set_option maxRecDepth 100000 in
set_option maxHeartbeats 4000000 in
theorem Pow_tiny {w : World} {x y : Nat} {z tt : Int} (hx : x < 9223372036854775808) (hy : y < 18446744073709551616) (fx : fld x < 2047) (fy : fld y < 2047) (nx : ¬ (fld x = 0 ∧ frc x = 0)) (ny : ¬ (fld y = 0 ∧ frc y = 0)) (h1 : x ≠ 4607182418800017408) (he : (dyD y).e < 0) (t : Tab w)
    (h : TinyOk (dyD x) (dyD y) z tt (signA (dyD x) (dyD y))) (hs : signA (dyD x) (dyD y) ≠ 0) (sd2 : Sd (bareN (dyD y))) (he2 : (bareN (bareN (dyD y))).e < -62) :
    Calls Tryz.prog 11 #[.int .u64 (x : Int), .int .u64 (y : Int), howV z tt] w fun e w' => e = .returned (.tuple #[.agg #[.int .u64 (tinyB z (signA (dyD x) (dyD y))), .int .u8 1, .int .i64 0], .int .i64 1, .int .i64 0]) ∧ Below w.heap.size w w' := by
  have CS := Lib.hid (fun w (t : Tab w) => special_no hx hy fx fy nx ny h1 he t)
  have C1 := Lib.hid (fun w gy gx gh (t : Tab w) b1 b2 b3 => Pow1_r (w := w) (gy := gy) (gx := gx) (gh := gh) (z := z) (tt := tt) hx hy fx fy he t b1 b2 b3)
  have CDO := Lib.hid (fun w r (hu : Ak w r (dyD x) (dyD y) z tt) => Do_tiny hu h hs sd2 he2)
  have hz := h.ok.hz
  have htt := h.ok.htt
  generalize tinyB z (signA (dyD x) (dyD y)) = b at *
  have CE := Lib.hid (fun (w : World) p1 p2 p3 hcl => does_r (w := w) (x := dyD x) (y := dyD y) (z := z) (tt := tt) (b := b) hz htt p1 p2 p3 hcl CDO.out)
  generalize dyD x = dx at *
  generalize dyD y = dy at *
  have HT := Lib.hid t
  clear hx hy fx fy nx ny h1 he t h hs sd2 he2 CDO hz htt
  unfold howV at *
  go_enter Tryz.func11, Tryz.ntmps11
  have F0 := Lib.hid (Fz.four w 22 #[.int .u64 (x : Int)] 22 #[.int .u64 (y : Int)] 28 #[.int .i64 z, .int .i64 64, .int .i64 tt, .pointer none] 32 #[.int .u64 0, .int .u8 0, .int .i64 0])
  have T0 := Lib.hid (HT.out.below F0.out.b)
  go_upto_region 1 with (fail)
  generalize World.alloc (World.alloc (World.alloc (World.alloc _ _) _) _) _ = w0 at F0 T0 ⊢
  have c0_0 := F0.out.c1 0 rfl
  have c1_0 := F0.out.c1 1 rfl
  have c2_0 := F0.out.c4 2 rfl
  have c3_0 := F0.out.c3 3 rfl
  go_wp2_with fail
  clear c0_0 c1_0 c2_0 c3_0
  refine (CS.out _ T0.out).mono ?_
  rintro q w1 ⟨rfl, hb⟩
  have F1 := Lib.hid (F0.out.call hb)
  have T1 := Lib.hid (T0.out.below hb)
  clear F0 T0
  clear hb
  have c0_1 := F1.out.c1 0 rfl
  have c1_1 := F1.out.c1 1 rfl
  have c2_1 := F1.out.c4 2 rfl
  have c3_1 := F1.out.c3 3 rfl
  go_upto_region 2 with (fail)
  clear c0_1 c1_1 c2_1 c3_1
  have F2 := Lib.hid (F1.out.new 32 #[.int .u64 0, .int .u8 0, .int .i64 0])
  have T2 := Lib.hid (T1.out.alloc (.cells #[.int .u64 0, .int .u8 0, .int .i64 0] 32))
  clear F1 T1
  obtain ⟨g1, hg1⟩ : ∃ g, g = (World.heap w1).size := ⟨_, rfl⟩
  rw [← hg1] at F2 ⊢
  clear hg1
  simp only [List.nil_append, List.cons_append] at F2
  generalize World.alloc w1 _ = W2 at F2 T2 ⊢
  have c0_2 := F2.out.c1 0 rfl
  have c1_2 := F2.out.c1 1 rfl
  have c2_2 := F2.out.c4 2 rfl
  have c3_2 := F2.out.c3 3 rfl
  have c4_2 := F2.out.c3 4 rfl
  go_wp2_with fail
  have CG := Lib.hid (CE.out W2 ⟨w.heap.size + 1, 0, none⟩ ⟨w.heap.size, 0, none⟩ ⟨w.heap.size + 1 + 1, 0, none⟩ (fun w' hb => C1.out w' (w.heap.size + 1) w.heap.size (w.heap.size + 1 + 1) (T2.out.below hb) ((F2.out.box 1 _ _ _ rfl).below hb) ((F2.out.box 0 _ _ _ rfl).below hb) ((F2.out.box 2 _ _ _ rfl).below hb)))
  clear c0_2 c1_2 c2_2 c3_2 c4_2
  refine (CG.out).mono ?_
  rintro q w3 ⟨rfl, hb⟩
  have F3 := Lib.hid (F2.out.call hb)
  have T3 := Lib.hid (T2.out.below hb)
  clear F2 T2
  clear hb
  have c0_3 := F3.out.c1 0 rfl
  have c1_3 := F3.out.c1 1 rfl
  have c2_3 := F3.out.c4 2 rfl
  have c3_3 := F3.out.c3 3 rfl
  have c4_3 := F3.out.c3 4 rfl
  clear T3
  go_wp2
  have f := F3.out.s3 3 rfl (.int .u64 b) (.int .u8 1) (.int .i64 0)
  generalize World.setCell (World.setCell (World.setCell _ _ _) _ _) _ _ = W at f ⊢
  have g1' := f.c3 3 rfl
  refine bodyPost_ret (v := .tuple #[.agg #[.int .u64 b, .int .u8 1, .int .i64 0], .int .i64 1, .int .i64 0]) (by simp [results, Tryz.results11, go_sem, g1']) rfl ?_
  exact ⟨rfl, f.b⟩

end Go.Proofs.YtobpioceopfkpaaGreatDoor

/-
  The power of a finite number by a tiny exponent.
-/
namespace Go.Proofs.YtobpioceopfkpaaGreatDoor
open Go.RowKit

theorem pw_pos (n : Nat) : 0 < pw n := Nat.two_pow_pos n
theorem mant_ne {b : Nat} (h : ¬ (fld b = 0 ∧ frc b = 0)) : mant b ≠ 0 := by
  unfold mant; split <;> omega
theorem mant_bl (b : Nat) : bl (mant b) ≤ 53 := bl_le (Nat.lt_of_lt_of_le (mant_lt b) (by decide))
theorem dyE_in {b : Nat} (h : fld b < 2047) : -1074 ≤ dyE b ∧ dyE b ≤ 971 := by unfold dyE; omega
theorem dyD_parts {b : Nat} (h : fld b < 2047) (h0 : ¬ (fld b = 0 ∧ frc b = 0)) :
    (dyD b).neg = sgn b ∧ (dyD b).m ≠ 0 ∧ bl (dyD b).m ≤ 53 ∧ -1074 ≤ (dyD b).e ∧ (dyD b).e ≤ topN (dyD b) ∧ bareN (dyD b) = dyD b ∧ topN (dyD b) = (bl (mant b) : Int) - 1 + dyE b ∧
    ((dyD b).e : Int) + bl (dyD b).m = topN (dyD b) + 1 := by
  have hm := mant_ne h0
  have hb := mant_bl b
  obtain ⟨e1, e2⟩ := dyE_in h
  obtain ⟨k, j, -, hd, hl⟩ := bareN_full (n := sgn b) hm ⟨(by omega : -100000 ≤ dyE b), by omega⟩
  have hi := bareN_idem (n := sgn b) (m := mant b) (e := dyE b) ⟨by omega, by omega⟩ (by omega)
  obtain ⟨ht, -⟩ := topN_bare (n := sgn b) (m := mant b) (e := dyE b) hm ⟨by omega, by omega⟩ (by omega)
  have hj : bl (2 * j + 1) ≠ 0 := by rw [bl_pos (by omega)]; omega
  have hD : dyD b = ⟨sgn b, 2 * j + 1, dyE b + (k : Int)⟩ := hd
  have hi : bareN (dyD b) = dyD b := hi
  have ht : topN (dyD b) = (bl (mant b) : Int) - 1 + dyE b := ht
  refine ⟨by rw [hD], by rw [hD]; simp, ?_, ?_, ?_, hi, ht, ?_⟩
  · rw [hD]; simp only; omega
  · rw [hD]; simp only; omega
  · rw [ht, hD]; simp only; omega
  · rw [ht, hD]; simp only; omega
theorem dyD_sd {b : Nat} (h : fld b < 2047) (h0 : ¬ (fld b = 0 ∧ frc b = 0)) : Sd (dyD b) ∧ -1074 ≤ topN (dyD b) ∧ topN (dyD b) ≤ 1023 := by
  obtain ⟨-, h2, h3, h4, h5, h6, h7, h8⟩ := dyD_parts h h0
  have hb := mant_bl b
  obtain ⟨e1, e2⟩ := dyE_in h
  exact ⟨⟨by omega, by omega, by omega⟩, by omega, by omega⟩
theorem dyD_mz {b K : Nat} (h : fld b < 2047) (hK : 1074 ≤ K ∧ K ≤ 100000) : mz (K : Int) (dyD b) = mant b * pw (dyE b + K).toNat := by
  obtain ⟨e1, e2⟩ := dyE_in h
  unfold dyD
  rw [mz_bareN (by omega) (d := ⟨sgn b, mant b, dyE b⟩) (by simp only; omega) (by simp only; omega)]
  rfl
theorem dyD_zk {b : Nat} (h : fld b < 2047) (h0 : ¬ (fld b = 0 ∧ frc b = 0)) : Zk 1130 (dyD b) := by
  obtain ⟨-, h2, h3, h4, h5, h6, h7, h8⟩ := dyD_parts h h0
  obtain ⟨s, t1, t2⟩ := dyD_sd h h0
  exact ⟨by omega, by omega, by omega⟩
/-- a number whose top bit is low is small -/
theorem small_end {d : Dn} {k : Nat} (h1 : -1130 ≤ d.e) (h2 : (bl d.m : Int) + d.e + 1130 ≤ k) : -(pw k : Int) < zv 1130 d ∧ zv 1130 d < (pw k : Int) := by
  have hm : mz 1130 d < pw k := by
    by_cases h0 : d.m = 0
    · have : mz 1130 d = 0 := mz_zero.2 h0
      rw [this]; exact Nat.two_pow_pos k
    · have hb : bl (mz 1130 d) = bl d.m + (d.e + 1130).toNat := bl_mul_pow h0 _
      exact Nat.lt_of_lt_of_le (lt_bl _) (pw_le (by omega))
  unfold zv
  generalize mz 1130 d = q at *
  generalize pw k = p at *
  split <;> omega
theorem one_zv : zv 1130 (ofN 1) = (pw 1130 : Int) := by
  have : zv 1130 (bareN ⟨false, 1, 0⟩) = zv 1130 ⟨false, 1, 0⟩ := zv_bareN (by decide) (by decide) (by decide)
  have e : ofN 1 = bareN ⟨false, 1, 0⟩ := rfl
  rw [e, this]
  unfold zv
  rw [mz_pw _ _ _ _ 1130 (by decide), Nat.one_mul]
  rfl
theorem one_zk : Zk 1130 (ofN 1) := ofN_zk' where
  ofN_zk' : Zk 1130 (bareN ⟨false, 1, 0⟩) := by
    refine ⟨?_, ?_, ?_⟩ <;> decide +kernel
theorem cmp_one {x : Nat} (hx : x < 9223372036854775808) (h : fld x < 2047) (h0 : ¬ (fld x = 0 ∧ frc x = 0)) (h1 : x ≠ 4607182418800017408) :
    CmpD (dyD x) (ofN 1) = if decide (4607182418800017408 < x) = true then 1 else -1 := by
  rw [CmpD_zk (K := 1130) (by decide) (dyD_zk h h0) one_zk, one_zv]
  obtain ⟨hn, -⟩ := dyD_parts h h0
  have hs : sgn x = false := decide_eq_false (by omega)
  rw [hs] at hn
  have hz : zv 1130 (dyD x) = (mz 1130 (dyD x) : Int) := by unfold zv; rw [hn]; rfl
  have hm := dyD_mz (K := 1130) h ⟨by omega, by omega⟩
  have hm : mz 1130 (dyD x) = mant x * pw (dyE x + 1130).toNat := hm
  rw [hz, hm]
  have hf : fld x = x / 4503599627370496 := by unfold fld; omega
  have hr : x = 4503599627370496 * fld x + frc x := by rw [hf]; unfold frc; omega
  have hfr : frc x < 4503599627370496 := Nat.mod_lt _ (by decide)
  have p52 : pw 52 = 4503599627370496 := by decide
  have p53 : pw 53 = 9007199254740992 := by decide
  by_cases hc : fld x < 1023
  · have hl : mant x * pw (dyE x + 1130).toNat < pw 1130 := by
      have a1 : (dyE x + 1130).toNat ≤ 1077 := by unfold dyE; omega
      have a2 : pw (dyE x + 1130).toNat ≤ pw 1077 := pw_le a1
      have a3 : mant x * pw (dyE x + 1130).toNat ≤ mant x * pw 1077 := Nat.mul_le_mul_left _ a2
      have a4 : mant x * pw 1077 < pw 53 * pw 1077 := Nat.mul_lt_mul_of_pos_right (by rw [p53]; exact mant_lt x) (pw_pos _)
      rw [pw_add] at a4
      exact Nat.lt_of_le_of_lt a3 a4
    rw [cmpI_ltz (Int.ofNat_lt.2 hl), decide_eq_false (by omega)]
    rfl
  · have hl : pw 1130 < mant x * pw (dyE x + 1130).toNat := by
      have hmm : mant x = frc x + 4503599627370496 := by unfold mant; rw [if_neg (by omega)]
      by_cases hd : fld x = 1023
      · have a1 : (dyE x + 1130).toNat = 1078 := by unfold dyE; omega
        have a4 : pw 52 * pw 1078 < mant x * pw 1078 := Nat.mul_lt_mul_of_pos_right (by rw [p52]; omega) (pw_pos _)
        rw [a1]
        rw [pw_add] at a4
        exact a4
      · have a1 : 1079 ≤ (dyE x + 1130).toNat := by unfold dyE; omega
        have a2 : pw 1079 ≤ pw (dyE x + 1130).toNat := pw_le a1
        have a3 : mant x * pw 1079 ≤ mant x * pw (dyE x + 1130).toNat := Nat.mul_le_mul_left _ a2
        have a4 : pw 52 * pw 1079 ≤ mant x * pw 1079 := Nat.mul_le_mul_right _ (by rw [p52]; omega)
        rw [pw_add] at a4
        exact Nat.lt_of_lt_of_le (pw_lt (by decide : 1130 < 52 + 1079)) (Nat.le_trans a4 a3)
    rw [cmpI_gtz (Int.ofNat_lt.2 hl), decide_eq_true (by omega)]
    rfl
theorem sign_y {y : Nat} (h : fld y < 2047) (h0 : ¬ (fld y = 0 ∧ frc y = 0)) : signN (dyD y) = if sgn y = true then -1 else 1 := by
  obtain ⟨hn, h2, -⟩ := dyD_parts h h0
  unfold signN
  rw [if_neg h2, hn]
theorem sign_tiny {x y : Nat} (hx : x < 9223372036854775808) (fx : fld x < 2047) (nx : ¬ (fld x = 0 ∧ frc x = 0)) (h1 : x ≠ 4607182418800017408) (fy : fld y < 2047) (ny : ¬ (fld y = 0 ∧ frc y = 0)) :
    signA (dyD x) (dyD y) = if (decide (4607182418800017408 < x) != sgn y) = true then 1 else -1 := by
  unfold signA
  rw [cmp_one hx fx nx h1, sign_y fy ny]
  generalize decide (4607182418800017408 < x) = p
  generalize sgn y = q
  cases p <;> cases q <;> rfl
theorem nearE_le {m : Nat} {t : Int} (h : -1074 ≤ t ∧ t ≤ 1023) : (nearE m t).natAbs ≤ 1076 := by
  unfold nearE; split <;> omega
theorem Pow_small {w : World} {x y : Nat} {z : Int} (hx : x < 9223372036854775808) (fx : fld x < 2047) (nx : ¬ (fld x = 0 ∧ frc x = 0)) (h1 : x ≠ 4607182418800017408)
    (hy : y < 18446744073709551616) (fy : 1 ≤ fld y ∧ fld y ≤ 950) (hz : 0 ≤ z ∧ z ≤ 3) (t : Tab w) :
    Calls Tryz.prog 11 #[.int .u64 (x : Int), .int .u64 (y : Int), howV z 64] w fun e w' => e = .returned (.tuple #[.agg #[.int .u64 (tinyB z (if (decide (4607182418800017408 < x) != sgn y) = true then 1 else -1)), .int .u8 1, .int .i64 0], .int .i64 1, .int .i64 0]) ∧ Below w.heap.size w w' := by
  have ny : ¬ (fld y = 0 ∧ frc y = 0) := by omega
  have fy2 : fld y < 2047 := by omega
  have hs := sign_tiny hx fx nx h1 fy2 ny
  obtain ⟨x1, x2, x3, x4, x5, x6, x7, x8⟩ := dyD_parts fx nx
  obtain ⟨y1, y2, y3, y4, y5, y6, y7, y8⟩ := dyD_parts fy2 ny
  obtain ⟨xs, xt1, xt2⟩ := dyD_sd fx nx
  obtain ⟨ys, yt1, yt2⟩ := dyD_sd fy2 ny
  have hyb := mant_bl y
  have hye : topN (dyD y) ≤ -73 := by rw [y7]; unfold dyE; omega
  have hsx : sgn x = false := decide_eq_false (by omega)
  have hs2 : signA (dyD x) (dyD y) = 1 ∨ signA (dyD x) (dyD y) = -1 := by rw [hs]; split; exact .inl rfl; exact .inr rfl
  obtain ⟨b1, b2⟩ := small_end (d := dyD y) (k := 1058) (by omega) (by omega)
  have eYB : YB = (pw 1058 : Int) := pw_int 1058
  have YE : YEnd (dyD y) := by
    refine ⟨?_, ?_, ?_, ?_, ?_⟩ <;> rw [y6]
    · omega
    · omega
    · omega
    · rw [eYB]; exact b1
    · rw [eYB]; exact b2
  have ok : AkOk (dyD x) (dyD y) z 64 := ⟨xs, ys, by rw [x1, hsx], x2, by rw [x6]; omega, ⟨by rw [x6]; omega, by rw [x6]; omega⟩, by rw [y6]; omega, ⟨by rw [y6]; omega, by rw [y6]; omega⟩, hz, .inl rfl⟩
  have T := tiny_ok ok (by rw [x6, x1, hsx]) (by rw [x6]; exact x2) (by rw [x6]; exact nearE_le ⟨xt1, xt2⟩) YE y2 (dyD_zk fy2 ny) (by omega) (by omega) hs2
  have C := Pow_tiny (w := w) hx hy fx fy2 nx ny h1 (by omega) t T (by rcases hs2 with h | h <;> rw [h] <;> decide) (by rw [y6]; exact ys) (by rw [y6, y6]; omega)
  rw [hs] at C
  exact C

end Go.Proofs.YtobpioceopfkpaaGreatDoor
