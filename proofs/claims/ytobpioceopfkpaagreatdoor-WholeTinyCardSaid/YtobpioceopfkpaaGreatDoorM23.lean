/-
  float: Dyad. Printed by gen_fc.py.
-/
import Derived.Test.YtobpioceopfkpaaGreatDoorM22
import Derived.Test.YtobpioceopfkpaaGreatDoorM16
import Derived.BigQuiet
namespace Go.Proofs.YtobpioceopfkpaaGreatDoor
open Go.RowKit

set_option maxRecDepth 100000 in
set_option maxHeartbeats 4000000 in
theorem dyad_r {b : Nat} (hb : b < 18446744073709551616) (hf : fld b < 2047) {w : World} (t : Tab w) : Calls Tryz.prog 15 #[.int .u64 (b : Int)] w fun e w' => ∃ u, e = .returned (.tuple #[u, .bool true]) ∧ Cy w' u (dyD b) ∧ Below w.heap.size w w' := by
  have C1 := Lib.hid (fun w => finite_r hb w)
  have C2 := Lib.hid (fun w => field_r hb w)
  have C3 := Lib.hid (fun w => neg_r hb w)
  rw [decide_eq_true hf] at C1
  have h1 := and_frac hb
  have h3 : b % 4503599627370496 = frc b := rfl
  rw [h3] at h1
  have hr : frc b < 4503599627370496 := Nat.mod_lt _ (by decide)
  have h5 := or_hidden hr
  have hml := mant_lt b
  have hm : mant b = if fld b = 0 then frc b else frc b + 4503599627370496 := rfl
  obtain ⟨e, he⟩ : ∃ e, e = dyE b := ⟨_, rfl⟩
  have he2 : e = max (fld b : Int) 1 - 1075 := he
  have heb : -1074 ≤ e ∧ e ≤ 1000 := by omega
  obtain ⟨mx, hmx⟩ : ∃ x, x = max (fld b : Int) 1 := ⟨_, rfl⟩
  have q1 : max (fld b : Int) 1 = mx := hmx.symm
  have q2 : IntKind.i64.wrap (mx - 1075) = e := by rw [IntWalk.i64_in _ (by omega)]; omega
  have CM := Lib.hid (fun w (h : Rd w (.slice (some ⟨w.heap.size - 1, 0, none⟩) 1 1) (mant b)) => h)
  have HD : dyD b = bareN ⟨sgn b, mant b, e⟩ := by rw [he]; rfl
  rw [HD]
  have CK := Lib.hid (fun w u (h : Rd w u (mant b)) => Make_s (neg := sgn b) (e := e) h (Nat.le_trans (bl64 (by omega)) (by decide)) (by omega))
  generalize bareN ⟨sgn b, mant b, e⟩ = R at *
  obtain ⟨rn, rm, re⟩ := R
  generalize fld b = f at *
  generalize frc b = r at *
  generalize sgn b = g at *
  generalize mant b = m at *
  have HT := Lib.hid t
  have HM := Lib.hid hm
  have HML := Lib.hid hml
  have HE := Lib.hid he2
  clear h3 he he2 heb hmx HD CM t hm hml
  by_cases hf0 : f = 0
  · subst hf0
    obtain rfl : m = r := HM.out
    obtain rfl : e = -1074 := by have := HE.out; omega
    clear q1 q2 HE
    go_enter Tryz.func15, Tryz.ntmps15
    go_upto_region 1 with (fail)
    have F0 := Lib.hid (Fx.one w 42 #[.bool false, .slice none 0 0, .int .i64 0] rfl)
    have T0 := Lib.hid (HT.out.alloc (.cells #[.bool false, .slice none 0 0, .int .i64 0] 42))
    generalize World.alloc _ _ = w0 at F0 T0 ⊢
    have c0 := F0.out.c3 0 rfl
    go_wp2_with fail
    refine (C1.out _).mono ?_
    rintro q w1 ⟨rfl, rfl⟩
    go_wp2_with fail
    refine (C2.out _).mono ?_
    rintro q w1 ⟨rfl, rfl⟩
    go_wp2_with fail
    refine (C3.out _).mono ?_
    rintro q w1 ⟨rfl, rfl⟩
    go_wp2_with fail
    have hR := raw_rd (raw_one T0.out (n := m) (by have := HML.out; omega))
    have F1 := Lib.hid (F0.out.alloc (.cells #[.int .u64 (m : Int)] 22))
    clear c0
    refine (CK.out _ _ hR).mono ?_
    rintro q w2 ⟨u, rfl, hu, hb⟩
    have F2 := Lib.hid (F1.out.call hb)
    have U2 := Lib.hid hu
    clear hb hR F1
    obtain ⟨a3, k3, c3, rfl⟩ := U2.out.fm
    go_upto_region 7 with (fail)
    have F3 := Lib.hid (F2.out.new 42 #[.bool rn, .slice a3 k3 c3, .int .i64 re] rfl)
    have U3 := Lib.hid (U2.out.alloc (.cells #[.bool rn, .slice a3 k3 c3, .int .i64 re] 42))
    clear F2 U2
    obtain ⟨g1, hg1⟩ : ∃ g, g = (World.heap w2).size := ⟨_, rfl⟩
    rw [← hg1] at F3 ⊢
    clear hg1
    simp only [List.nil_append, List.cons_append] at F3
    generalize World.alloc w2 _ = W3 at F3 U3 ⊢
    have c0_3 := F3.out.c3 0 rfl
    have c1_3 := F3.out.c3 1 rfl
    go_wp2
    obtain ⟨f0, p0⟩ := F3.out.s3 0 rfl (.bool rn) (.slice a3 k3 c3) (.int .i64 re) rfl rfl rfl
    have p := p0
    have f := f0
    clear f0 p0
    generalize (World.setCell (World.setCell (World.setCell _ _ _) _ _) _ _) = W at f p ⊢
    have g0 := f.c3 0 rfl
    refine bodyPost_ret (v := .tuple #[.agg #[.bool rn, .slice a3 k3 c3, .int .i64 re], .bool true]) (by simp [results, Tryz.results15, go_sem, g0]) rfl ?_
    exact ⟨_, rfl, U3.out.kp p, f.b⟩
  · have z0 : decide (0 < (f : Int)) = true := decide_eq_true (by omega)
    have z0' : decide (0 < f) = true := decide_eq_true (by omega)
    have hmr : r + 4503599627370496 = m := by rw [HM.out, if_neg hf0]
    rw [hmr] at h5
    clear hf0
    go_enter Tryz.func15, Tryz.ntmps15
    go_upto_region 1 with (fail)
    have F0 := Lib.hid (Fx.one w 42 #[.bool false, .slice none 0 0, .int .i64 0] rfl)
    have T0 := Lib.hid (HT.out.alloc (.cells #[.bool false, .slice none 0 0, .int .i64 0] 42))
    generalize World.alloc _ _ = w0 at F0 T0 ⊢
    have c0 := F0.out.c3 0 rfl
    go_wp2_with fail
    refine (C1.out _).mono ?_
    rintro q w1 ⟨rfl, rfl⟩
    go_wp2_with fail
    refine (C2.out _).mono ?_
    rintro q w1 ⟨rfl, rfl⟩
    go_wp2_with fail
    refine (C3.out _).mono ?_
    rintro q w1 ⟨rfl, rfl⟩
    go_wp2_with fail
    have hR := raw_rd (raw_one T0.out (n := m) (by have := HML.out; omega))
    have F1 := Lib.hid (F0.out.alloc (.cells #[.int .u64 (m : Int)] 22))
    clear c0
    refine (CK.out _ _ hR).mono ?_
    rintro q w2 ⟨u, rfl, hu, hb⟩
    have F2 := Lib.hid (F1.out.call hb)
    have U2 := Lib.hid hu
    clear hb hR F1
    obtain ⟨a3, k3, c3, rfl⟩ := U2.out.fm
    go_upto_region 7 with (fail)
    have F3 := Lib.hid (F2.out.new 42 #[.bool rn, .slice a3 k3 c3, .int .i64 re] rfl)
    have U3 := Lib.hid (U2.out.alloc (.cells #[.bool rn, .slice a3 k3 c3, .int .i64 re] 42))
    clear F2 U2
    obtain ⟨g1, hg1⟩ : ∃ g, g = (World.heap w2).size := ⟨_, rfl⟩
    rw [← hg1] at F3 ⊢
    clear hg1
    simp only [List.nil_append, List.cons_append] at F3
    generalize World.alloc w2 _ = W3 at F3 U3 ⊢
    have c0_3 := F3.out.c3 0 rfl
    have c1_3 := F3.out.c3 1 rfl
    go_wp2
    obtain ⟨f0, p0⟩ := F3.out.s3 0 rfl (.bool rn) (.slice a3 k3 c3) (.int .i64 re) rfl rfl rfl
    have p := p0
    have f := f0
    clear f0 p0
    generalize (World.setCell (World.setCell (World.setCell _ _ _) _ _) _ _) = W at f p ⊢
    have g0 := f.c3 0 rfl
    refine bodyPost_ret (v := .tuple #[.agg #[.bool rn, .slice a3 k3 c3, .int .i64 re], .bool true]) (by simp [results, Tryz.results15, go_sem, g0]) rfl ?_
    exact ⟨_, rfl, U3.out.kp p, f.b⟩

end Go.Proofs.YtobpioceopfkpaaGreatDoor

/-
  float.Whole, special.Pow: where nothing is special. Printed by gen_sp.py.
-/
namespace Go.Proofs.YtobpioceopfkpaaGreatDoor
open Go.RowKit

set_option maxRecDepth 100000 in
set_option maxHeartbeats 4000000 in
theorem whole_f {b : Nat} (hb : b < 18446744073709551616) (hf : fld b < 2047) (he : (dyD b).e < 0) {w : World} (t : Tab w) : Calls Tryz.prog 28 #[.int .u64 (b : Int)] w fun e w' => e = .returned (.tuple #[.bool false, .bool false]) ∧ Below w.heap.size w w' := by
  have C := Lib.hid (fun w (t : Tab w) => dyad_r hb hf t)
  generalize dyD b = D at *
  obtain ⟨n, m, e⟩ := D
  simp only at he
  have z1 : decide ((0 : Int) ≤ e) = false := decide_eq_false (by omega)
  have z2 : (e == 0) = false := beq_eq_false_iff_ne.2 (by omega)
  have HT := Lib.hid t
  clear t
  go_enter Tryz.func28, Tryz.ntmps28
  have F0 := Lib.hid (Fx.nil w)
  go_wp2_with fail
  refine (C.out _ HT.out).mono ?_
  rintro q w1 ⟨u, rfl, hu, hb⟩
  have F1 := Lib.hid (F0.out.call hb)
  clear F0
  have U1 := Lib.hid (hu)
  clear hb
  obtain ⟨a3, k3, c3, rfl⟩ := U1.out.fm
  go_upto_region 2 with (fail)
  have F2 := Lib.hid (F1.out.new 42 #[.bool n, .slice a3 k3 c3, .int .i64 e] rfl)
  have U2 := Lib.hid (U1.out.alloc (.cells #[.bool n, .slice a3 k3 c3, .int .i64 e] 42))
  clear F1 U1
  obtain ⟨g1, hg1⟩ : ∃ g, g = (World.heap w1).size := ⟨_, rfl⟩
  rw [← hg1] at F2 ⊢
  clear hg1
  simp only [List.nil_append] at F2
  generalize World.alloc w1 _ = W2 at F2 U2 ⊢
  have c0_2 := F2.out.c3 0 rfl
  clear he
  go_quiet (fail)
  go_wp2
  refine bodyPost_ret (v := .tuple #[.bool false, .bool false]) (by simp [results, Tryz.results28, go_sem]) rfl ?_
  exact ⟨rfl, (F2.out.drewN _).b⟩

set_option maxRecDepth 100000 in
set_option maxHeartbeats 4000000 in
theorem signals_r {b : Nat} (hb : b < 18446744073709551616) (hf : fld b < 2047) (h0 : ¬ (fld b = 0 ∧ frc b = 0)) (w : World) : Calls Tryz.prog 59 #[.int .u64 (b : Int)] w fun e w' => e = .returned (.bool false) ∧ w = w' := by
  have C := Lib.hid (fun w => kind_r hb hf h0 w)
  have hk : (if fld b = 0 then (1 : Int) else 2) = 1 ∨ (if fld b = 0 then (1 : Int) else 2) = 2 := by split <;> simp
  generalize (if fld b = 0 then (1 : Int) else 2) = k at *
  clear hf h0
  rcases hk with rfl | rfl
  · go_enter Tryz.func59, Tryz.ntmps59
    go_wp2_with fail
    refine (C.out _).mono ?_
    rintro q w1 ⟨rfl, rfl⟩
    go_wp2
    exact bodyPost_ret (v := .bool false) (by simp [results, Tryz.results59, go_sem]) rfl ⟨rfl, rfl⟩
  · go_enter Tryz.func59, Tryz.ntmps59
    go_wp2_with fail
    refine (C.out _).mono ?_
    rintro q w1 ⟨rfl, rfl⟩
    go_wp2
    exact bodyPost_ret (v := .bool false) (by simp [results, Tryz.results59, go_sem]) rfl ⟨rfl, rfl⟩

set_option maxRecDepth 100000 in
set_option maxHeartbeats 4000000 in
theorem nought_r {b : Nat} (hb : b < 18446744073709551616) (hf : fld b < 2047) (h0 : ¬ (fld b = 0 ∧ frc b = 0)) (w : World) : Calls Tryz.prog 61 #[.int .u64 (b : Int)] w fun e w' => e = .returned (.bool false) ∧ w = w' := by
  have C := Lib.hid (fun w => kind_r hb hf h0 w)
  have hk : (if fld b = 0 then (1 : Int) else 2) = 1 ∨ (if fld b = 0 then (1 : Int) else 2) = 2 := by split <;> simp
  generalize (if fld b = 0 then (1 : Int) else 2) = k at *
  clear hf h0
  rcases hk with rfl | rfl
  · go_enter Tryz.func61, Tryz.ntmps61
    go_wp2_with fail
    refine (C.out _).mono ?_
    rintro q w1 ⟨rfl, rfl⟩
    go_wp2
    exact bodyPost_ret (v := .bool false) (by simp [results, Tryz.results61, go_sem]) rfl ⟨rfl, rfl⟩
  · go_enter Tryz.func61, Tryz.ntmps61
    go_wp2_with fail
    refine (C.out _).mono ?_
    rintro q w1 ⟨rfl, rfl⟩
    go_wp2
    exact bodyPost_ret (v := .bool false) (by simp [results, Tryz.results61, go_sem]) rfl ⟨rfl, rfl⟩

set_option maxRecDepth 100000 in
set_option maxHeartbeats 4000000 in
theorem nan_r {b : Nat} (hb : b < 18446744073709551616) (hf : fld b < 2047) (h0 : ¬ (fld b = 0 ∧ frc b = 0)) (w : World) : Calls Tryz.prog 63 #[.int .u64 (b : Int)] w fun e w' => e = .returned (.bool false) ∧ w = w' := by
  have C := Lib.hid (fun w => kind_r hb hf h0 w)
  have hk : (if fld b = 0 then (1 : Int) else 2) = 1 ∨ (if fld b = 0 then (1 : Int) else 2) = 2 := by split <;> simp
  generalize (if fld b = 0 then (1 : Int) else 2) = k at *
  clear hf h0
  rcases hk with rfl | rfl
  · go_enter Tryz.func63, Tryz.ntmps63
    go_wp2_with fail
    refine (C.out _).mono ?_
    rintro q w1 ⟨rfl, rfl⟩
    go_wp2
    exact bodyPost_ret (v := .bool false) (by simp [results, Tryz.results63, go_sem]) rfl ⟨rfl, rfl⟩
  · go_enter Tryz.func63, Tryz.ntmps63
    go_wp2_with fail
    refine (C.out _).mono ?_
    rintro q w1 ⟨rfl, rfl⟩
    go_wp2
    exact bodyPost_ret (v := .bool false) (by simp [results, Tryz.results63, go_sem]) rfl ⟨rfl, rfl⟩

set_option maxRecDepth 100000 in
set_option maxHeartbeats 4000000 in
theorem inf_r {b : Nat} (hb : b < 18446744073709551616) (hf : fld b < 2047) (h0 : ¬ (fld b = 0 ∧ frc b = 0)) (w : World) : Calls Tryz.prog 64 #[.int .u64 (b : Int)] w fun e w' => e = .returned (.bool false) ∧ w = w' := by
  have C := Lib.hid (fun w => kind_r hb hf h0 w)
  have hk : (if fld b = 0 then (1 : Int) else 2) = 1 ∨ (if fld b = 0 then (1 : Int) else 2) = 2 := by split <;> simp
  generalize (if fld b = 0 then (1 : Int) else 2) = k at *
  clear hf h0
  rcases hk with rfl | rfl
  · go_enter Tryz.func64, Tryz.ntmps64
    go_wp2_with fail
    refine (C.out _).mono ?_
    rintro q w1 ⟨rfl, rfl⟩
    go_wp2
    exact bodyPost_ret (v := .bool false) (by simp [results, Tryz.results64, go_sem]) rfl ⟨rfl, rfl⟩
  · go_enter Tryz.func64, Tryz.ntmps64
    go_wp2_with fail
    refine (C.out _).mono ?_
    rintro q w1 ⟨rfl, rfl⟩
    go_wp2
    exact bodyPost_ret (v := .bool false) (by simp [results, Tryz.results64, go_sem]) rfl ⟨rfl, rfl⟩

set_option maxRecDepth 100000 in
set_option maxHeartbeats 4000000 in
theorem special_no {x y : Nat} (hx : x < 9223372036854775808) (hy : y < 18446744073709551616) (fx : fld x < 2047) (fy : fld y < 2047) (nx : ¬ (fld x = 0 ∧ frc x = 0)) (ny : ¬ (fld y = 0 ∧ frc y = 0)) (h1 : x ≠ 4607182418800017408) (he : (dyD y).e < 0) {w : World} (t : Tab w) :
    Calls Tryz.prog 25 #[.int .u64 (x : Int), .int .u64 (y : Int)] w fun e w' => e = .returned (.tuple #[.agg #[.int .u64 0, .int .u8 0, .int .i64 0], .bool false]) ∧ Below w.heap.size w w' := by
  have hx2 : x < 18446744073709551616 := by omega
  have CW := Lib.hid (fun w (t : Tab w) => whole_f hy fy he t)
  have CN := Lib.hid (fun w => neg_r hy w)
  have CNx := Lib.hid (fun w => neg_r hx2 w)
  have hsx : sgn x = false := decide_eq_false (by omega)
  rw [hsx] at CNx
  have Csx := Lib.hid (fun w => signals_r hx2 fx nx w)
  have Csy := Lib.hid (fun w => signals_r hy fy ny w)
  have C0x := Lib.hid (fun w => nought_r hx2 fx nx w)
  have C0y := Lib.hid (fun w => nought_r hy fy ny w)
  have Cnx := Lib.hid (fun w => nan_r hx2 fx nx w)
  have Cny := Lib.hid (fun w => nan_r hy fy ny w)
  have Cix := Lib.hid (fun w => inf_r hx2 fx nx w)
  have Ciy := Lib.hid (fun w => inf_r hy fy ny w)
  have z1 : ((x : Int) == 4607182418800017408) = false := by rw [beq_eq_false_iff_ne]; omega
  have z2 : (x == 4607182418800017408) = false := by rw [beq_eq_false_iff_ne]; omega
  generalize sgn y = g at *
  have HT := Lib.hid t
  clear hx hy fx fy nx ny h1 he hx2 hsx t
  go_enter Tryz.func25, Tryz.ntmps25
  have F0 := Lib.hid (Fz.one w 32 #[.int .u64 0, .int .u8 0, .int .i64 0])
  have T0 := Lib.hid (HT.out.alloc (.cells #[.int .u64 0, .int .u8 0, .int .i64 0] 32))
  go_upto_region 1 with (fail)
  generalize World.alloc _ _ = w0 at F0 T0 ⊢
  have c0 := F0.out.c3 0 rfl
  go_wp2_with fail
  clear c0
  refine (CW.out _ T0.out).mono ?_
  rintro q w1 ⟨rfl, hb⟩
  have F1 := Lib.hid (F0.out.call hb)
  clear hb
  have c0 := F1.out.c3 0 rfl
  go_wp2_with fail
  refine (CN.out _).mono ?_
  rintro q w2 ⟨rfl, rfl⟩
  go_wp2_with fail
  refine (Csx.out _).mono ?_
  rintro q w2 ⟨rfl, rfl⟩
  go_wp2_with fail
  refine (Csy.out _).mono ?_
  rintro q w2 ⟨rfl, rfl⟩
  go_wp2_with fail
  refine (C0y.out _).mono ?_
  rintro q w2 ⟨rfl, rfl⟩
  go_wp2_with fail
  refine (Cnx.out _).mono ?_
  rintro q w2 ⟨rfl, rfl⟩
  go_wp2_with fail
  refine (Cny.out _).mono ?_
  rintro q w2 ⟨rfl, rfl⟩
  go_wp2_with fail
  refine (C0x.out _).mono ?_
  rintro q w2 ⟨rfl, rfl⟩
  go_wp2_with fail
  refine (C0x.out _).mono ?_
  rintro q w2 ⟨rfl, rfl⟩
  go_wp2_with fail
  refine (C0x.out _).mono ?_
  rintro q w2 ⟨rfl, rfl⟩
  go_wp2_with fail
  refine (Ciy.out _).mono ?_
  rintro q w2 ⟨rfl, rfl⟩
  go_wp2_with fail
  refine (Ciy.out _).mono ?_
  rintro q w2 ⟨rfl, rfl⟩
  go_wp2_with fail
  refine (Ciy.out _).mono ?_
  rintro q w2 ⟨rfl, rfl⟩
  go_wp2_with fail
  refine (Cix.out _).mono ?_
  rintro q w2 ⟨rfl, rfl⟩
  go_wp2_with fail
  refine (Cix.out _).mono ?_
  rintro q w2 ⟨rfl, rfl⟩
  go_wp2_with fail
  refine (CNx.out _).mono ?_
  rintro q w2 ⟨rfl, rfl⟩
  go_wp2
  have f := F1.out.s3 0 rfl (.int .u64 0) (.int .u8 0) (.int .i64 0)
  generalize World.setCell (World.setCell (World.setCell _ _ _) _ _) _ _ = W at f ⊢
  have g1 := f.c3 0 rfl
  refine bodyPost_ret (v := .tuple #[.agg #[.int .u64 0, .int .u8 0, .int .i64 0], .bool false]) (by simp [results, Tryz.results25, go_sem, g1]) rfl ?_
  exact ⟨rfl, f.b⟩

end Go.Proofs.YtobpioceopfkpaaGreatDoor
