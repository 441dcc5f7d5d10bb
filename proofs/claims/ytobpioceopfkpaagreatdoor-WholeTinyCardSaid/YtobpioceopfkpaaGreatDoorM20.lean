/-
  round: right. Printed by gen_jc.py.
-/
import Derived.Test.YtobpioceopfkpaaGreatDoorM19
import Derived.BigRegion
namespace Go.Proofs.YtobpioceopfkpaaGreatDoor
open Go.RowKit

set_option maxRecDepth 100000 in
set_option maxHeartbeats 4000000 in
theorem rright_r {w : World} {u : Value} {d : Dn} (hu : Ry w u d) (sd : Sd d) (h0 : (bareN d).m ≠ 0) (more : Bool) (z : Int) (hz : 0 ≤ z ∧ z ≤ 3) :
    Calls Tryz.prog 82 #[u, .bool more, .int .i64 z] w fun e w' => ∃ x, e = .returned (.tuple #[x, .bool true]) ∧ Cy w' x (bareN d) ∧ Below w.heap.size w w' := by
  have CA := Lib.hid (fun w (h : Ry w u d) => Bare_s h sd)
  obtain ⟨a1, k1, c1, rfl⟩ := hu.form
  generalize bareN d = D at *
  obtain ⟨n, m, e⟩ := D
  simp only at h0
  have z1 : decide ((0 : Int) ≤ z) = true := decide_eq_true hz.1
  have z2 : decide (z ≤ (3 : Int)) = true := decide_eq_true hz.2
  have HUU := Lib.hid hu
  have HZ := Lib.hid h0
  clear hu sd h0
  obtain ⟨hz1, hz2⟩ := hz
  cases more
  · have F0 := Lib.hid (Fx.two w 42 #[.bool d.neg, .slice a1 k1 c1, .int .i64 d.e] 42 #[.bool false, .slice none 0 0, .int .i64 0] rfl rfl)
    have X0 := Lib.hid ((HUU.out.alloc (.cells #[.bool d.neg, .slice a1 k1 c1, .int .i64 d.e] 42)).alloc (.cells #[.bool false, .slice none 0 0, .int .i64 0] 42))
    clear HUU
    go_enter Tryz.func82, Tryz.ntmps82
    go_upto_region 1 with (fail)
    generalize World.alloc (World.alloc _ _) _ = w0 at F0 X0 ⊢
    have c0_0 := F0.out.c3 0 rfl
    have c1_0 := F0.out.c3 1 rfl
    go_wp2_with fail
    clear c0_0 c1_0
    refine (CA.out _ X0.out).mono ?_
    rintro q w1 ⟨u, rfl, hu, hb⟩
    have F1 := Lib.hid (F0.out.call hb)
    have X1 := Lib.hid (X0.out.below hb)
    clear F0 X0
    have U1 := Lib.hid (hu)
    clear hb
    have c0_1 := F1.out.c3 0 rfl
    have c1_1 := F1.out.c3 1 rfl
    obtain ⟨a3, k3, c3, rfl⟩ := U1.out.fm
    have zk : ((k3 : Int) == 0) = false := by rw [beq_eq_false_iff_ne]; intro h; exact HZ.out (U1.out.dm.len0.2 (by omega))
    go_upto_region 2 with (fail)
    clear X1
    clear c0_1 c1_1
    obtain ⟨f, p⟩ := F1.out.s3 0 rfl (.bool n) (.slice a3 k3 c3) (.int .i64 e) rfl rfl rfl
    generalize (World.setCell (World.setCell (World.setCell _ _ _) _ _) _ _) = W at f p ⊢
    have F2 := Lib.hid (f)
    have U2 := Lib.hid (U1.out.kp p)
    clear F1 U1
    clear f p
    simp only [List.set_cons_zero] at F2
    have c0_2 := F2.out.c3 0 rfl
    have c1_2 := F2.out.c3 1 rfl
    have D2 := Lib.hid F2.out.drew
    have d0 := D2.out.c3 0 rfl
    have d1 := D2.out.c3 1 rfl
    go_region
    all_goals
      go_wp2
      obtain ⟨f0, p0⟩ := F2.out.s3 1 rfl (.bool n) (.slice a3 k3 c3) (.int .i64 e) rfl rfl rfl
      have p := (p0).trans (Kp.drew _)
      have f := f0.drew
      clear f0 p0
      generalize World.drew (World.setCell (World.setCell (World.setCell _ _ _) _ _) _ _) = W at f p ⊢
      have g1 := f.c3 1 rfl
      refine bodyPost_ret (v := .tuple #[.agg #[.bool n, .slice a3 k3 c3, .int .i64 e], .bool true]) (by simp [results, Tryz.results82, go_sem, g1]) rfl ?_
      exact ⟨_, rfl, U2.out.kp p, f.b⟩
  · have F0 := Lib.hid (Fx.two w 42 #[.bool d.neg, .slice a1 k1 c1, .int .i64 d.e] 42 #[.bool false, .slice none 0 0, .int .i64 0] rfl rfl)
    have X0 := Lib.hid ((HUU.out.alloc (.cells #[.bool d.neg, .slice a1 k1 c1, .int .i64 d.e] 42)).alloc (.cells #[.bool false, .slice none 0 0, .int .i64 0] 42))
    clear HUU
    go_enter Tryz.func82, Tryz.ntmps82
    go_upto_region 1 with (fail)
    generalize World.alloc (World.alloc _ _) _ = w0 at F0 X0 ⊢
    have c0_0 := F0.out.c3 0 rfl
    have c1_0 := F0.out.c3 1 rfl
    go_wp2_with fail
    clear c0_0 c1_0
    refine (CA.out _ X0.out).mono ?_
    rintro q w1 ⟨u, rfl, hu, hb⟩
    have F1 := Lib.hid (F0.out.call hb)
    have X1 := Lib.hid (X0.out.below hb)
    clear F0 X0
    have U1 := Lib.hid (hu)
    clear hb
    have c0_1 := F1.out.c3 0 rfl
    have c1_1 := F1.out.c3 1 rfl
    obtain ⟨a3, k3, c3, rfl⟩ := U1.out.fm
    have zk : ((k3 : Int) == 0) = false := by rw [beq_eq_false_iff_ne]; intro h; exact HZ.out (U1.out.dm.len0.2 (by omega))
    go_upto_region 2 with (fail)
    clear X1
    clear c0_1 c1_1
    obtain ⟨f, p⟩ := F1.out.s3 0 rfl (.bool n) (.slice a3 k3 c3) (.int .i64 e) rfl rfl rfl
    generalize (World.setCell (World.setCell (World.setCell _ _ _) _ _) _ _) = W at f p ⊢
    have F2 := Lib.hid (f)
    have U2 := Lib.hid (U1.out.kp p)
    clear F1 U1
    clear f p
    simp only [List.set_cons_zero] at F2
    have c0_2 := F2.out.c3 0 rfl
    have c1_2 := F2.out.c3 1 rfl
    have FC := Lib.hid (F2.out.c3 0 rfl).1
    have FCD := Lib.hid (F2.out.drew.c3 0 rfl).1
    have d1 := F2.out.drew.c3 1 rfl
    go_region_held3 (fun w' => w'.cell? ⟨w.heap.size, 0, none⟩ = some (.bool n) ∧ w'.cell? ⟨w.heap.size, 1, none⟩ = some (.slice a3 k3 c3) ∧ w'.cell? ⟨w.heap.size, 2, none⟩ = some (.int .i64 e)) (first | with_reducible exact FCD.out | with_reducible exact FC.out | exact ((F2.out.drew.s3 1 rfl (.bool n) (.slice a3 k3 c3) (.int .i64 e) rfl rfl rfl).1.c3 0 rfl).1) (first | fail)
    go_wp2
    obtain ⟨f0, p0⟩ := F2.out.s3 1 rfl (.bool n) (.slice a3 k3 c3) (.int .i64 e) rfl rfl rfl
    have p := (p0).trans (Kp.drew _)
    have f := f0.drew
    clear f0 p0
    generalize World.drew (World.setCell (World.setCell (World.setCell _ _ _) _ _) _ _) = W at f p ⊢
    have g1 := f.c3 1 rfl
    refine bodyPost_ret (v := .tuple #[.agg #[.bool n, .slice a3 k3 c3, .int .i64 e], .bool true]) (by simp [results, Tryz.results82, go_sem, g1]) rfl ?_
    exact ⟨_, rfl, U2.out.kp p, f.b⟩

end Go.Proofs.YtobpioceopfkpaaGreatDoor

/-
  float: Exact, of what is above 0 and normal. Printed by gen_jd.py.
-/
namespace Go.Proofs.YtobpioceopfkpaaGreatDoor
open Go.RowKit

def exactB (x : Nat) (un : Int) : Int := bits .or .u64 (bits .and .u64 (x : Int) 4503599627370495) (IntKind.u64.wrap (IntKind.u64.wrap (wrap64 (un + 1075)) * 4503599627370496))

set_option maxRecDepth 100000 in
set_option maxHeartbeats 4000000 in
theorem exact_r {w : World} {u : Value} {d : Dn} (hu : Ry w u d) (sd : Sd d) (hneg : (bareN d).neg = false) (h0 : d.m ≠ 0) (t : Int) (ht : t = topN d) (htb : -1000 ≤ t ∧ t ≤ 1000) (k : Nat) (hk : (k : Int) = (bareN d).e - (t - 52)) (x : Nat) (hx : x = (bareN d).m * 2 ^ k) (hx1 : 4503599627370496 ≤ x) (hx2 : x < 9007199254740992) :
    Calls Tryz.prog 87 #[u] w fun e w' => e = .returned (.tuple #[.int .u64 (exactB x (t - 52)), .bool true]) ∧ Below w.heap.size w w' := by
  have CT := Lib.hid (fun w (h : Ry w u d) => Top_d h)
  have CA := Lib.hid (fun w (h : Ry w u d) => Bare_s h sd)
  rw [← ht, decide_eq_true h0] at CT
  have bd := sd.bare
  obtain ⟨a1, k1, c1, rfl⟩ := hu.form
  generalize bareN d = D at *
  obtain ⟨n, m, e⟩ := D
  simp only at hneg hk hx bd
  subst hneg
  have CS := Lib.hid (fun w u (h : Dg w u m) => shl_s (h.rd (by omega)) k (by omega))
  rw [← hx] at CS
  have CM := Lib.hid (fun w u (h : Dg w u x) => small_r (h.rd (Nat.le_trans (bl64 (by omega)) (by decide))))
  rw [if_pos (show x < 18446744073709551616 by omega), decide_eq_true (show x < 18446744073709551616 by omega)] at CM
  obtain ⟨un, hun⟩ : ∃ un, un = t - 52 := ⟨_, rfl⟩
  have q0 : IntKind.i64.wrap (t - 52) = un := by rw [IntWalk.i64_in _ (by omega)]; exact hun.symm
  have q1 : max un (-1074) = un := by omega
  have z1 : decide (1023 < t) = false := decide_eq_false (by omega)
  have z2 : decide (e < un) = false := decide_eq_false (by omega)
  have q2 : IntKind.i64.wrap (e - un) = (k : Int) := by rw [IntWalk.i64_in _ (by omega)]; omega
  have z3 : decide (4503599627370496 ≤ (x : Int)) = true := decide_eq_true (by omega)
  have z4 : decide (4503599627370496 ≤ x) = true := decide_eq_true hx1
  have HUU := Lib.hid hu
  have HUN := Lib.hid hun
  clear hu sd h0 ht hk hx bd hun htb hx1 hx2
  go_enter Tryz.func87, Tryz.ntmps87
  have F0 := Lib.hid (Fx.one w 42 #[.bool d.neg, .slice a1 k1 c1, .int .i64 d.e] rfl)
  have X0 := Lib.hid (HUU.out.alloc (.cells #[.bool d.neg, .slice a1 k1 c1, .int .i64 d.e] 42))
  clear HUU
  go_upto_region 1 with (fail)
  generalize World.alloc _ _ = w0 at F0 X0 ⊢
  have c0_0 := F0.out.c3 0 rfl
  go_wp2_with fail
  clear c0_0
  refine (CT.out _ X0.out).mono ?_
  rintro q w1 ⟨rfl, hb⟩
  have F1 := Lib.hid (F0.out.call hb)
  have X1 := Lib.hid (X0.out.below hb)
  clear F0 X0
  clear hb
  have c0_1 := F1.out.c3 0 rfl
  go_wp2_with fail
  clear c0_1
  refine (CA.out _ X1.out).mono ?_
  rintro q w2 ⟨u, rfl, hu, hb⟩
  have F2 := Lib.hid (F1.out.call hb)
  have X2 := Lib.hid (X1.out.below hb)
  clear F1 X1
  have U2 := Lib.hid (hu)
  clear hb
  have c0_2 := F2.out.c3 0 rfl
  clear X2
  obtain ⟨a3, k3, c3, rfl⟩ := U2.out.fm
  go_upto_region 7 with (fail)
  clear c0_2
  obtain ⟨f, p⟩ := F2.out.s3 0 rfl (.bool false) (.slice a3 k3 c3) (.int .i64 e) rfl rfl rfl
  generalize (World.setCell (World.setCell (World.setCell _ _ _) _ _) _ _) = W at f p ⊢
  have F3 := Lib.hid (f)
  have U3 := Lib.hid (U2.out.kp p)
  clear F2 U2
  clear f p
  simp only [List.set_cons_zero] at F3
  have c0_3 := F3.out.c3 0 rfl
  go_wp2_with fail
  clear c0_3
  refine (CS.out _ _ U3.out.dm).mono ?_
  rintro q w4 ⟨u, rfl, hu, hb⟩
  have F4 := Lib.hid (F3.out.call hb)
  have U4 := Lib.hid (U3.out.below hb)
  clear F3 U3
  have V4 := Lib.hid (hu)
  clear hb
  have c0_4 := F4.out.c3 0 rfl
  obtain ⟨a4, k4, c4, rfl⟩ := V4.out.form
  go_wp2_with fail
  clear c0_4
  refine (CM.out _ _ V4.out).mono ?_
  rintro q w5 ⟨rfl, hb⟩
  have F5 := Lib.hid (F4.out.call hb)
  have U5 := Lib.hid (U4.out.below hb)
  have V5 := Lib.hid (V4.out.below hb)
  clear F4 U4 V4
  clear hb
  have c0_5 := F5.out.c3 0 rfl
  go_wp2
  refine bodyPost_ret (v := .tuple #[.int .u64 (exactB x (t - 52)), .bool true]) (by rw [← HUN.out]; simp [results, Tryz.results87, go_sem, exactB]) rfl ?_
  exact ⟨rfl, F5.out.b⟩

end Go.Proofs.YtobpioceopfkpaaGreatDoor

/-
  round: To, of what is above 0 and normal. Printed by gen_je.py.
-/
namespace Go.Proofs.YtobpioceopfkpaaGreatDoor
open Go.RowKit

set_option maxRecDepth 100000 in
set_option maxHeartbeats 4000000 in
theorem To_r {w : World} {u : Value} {d : Dn} (hu : Ry w u d) (sd : Sd d) (hneg : (bareN d).neg = false) (h0 : (bareN d).m ≠ 0) (more : Bool) (z : Int) (hz : 0 ≤ z ∧ z ≤ 3)
    (t : Int) (ht : t = topN (bareN d)) (htb : -900 ≤ t ∧ t ≤ 900) (n : Int) (hn : n = t - 52 - (bareN d).e) (hnb : -9000 ≤ n ∧ n ≤ 9000)
    (wm : Nat) (ix : Bool) (hw : wholeN (bareN d).m n z more = (wm, ix)) (hwb : bl wm ≤ 3000)
    (t2 : Int) (ht2 : t2 = topN (bareN ⟨false, wm, t - 52⟩)) (ht2b : -1000 ≤ t2 ∧ t2 ≤ 1000) (hwm : wm ≠ 0) (hn2 : (bareN (bareN ⟨false, wm, t - 52⟩)).neg = false)
    (k : Nat) (hk : (k : Int) = (bareN (bareN ⟨false, wm, t - 52⟩)).e - (t2 - 52)) (x : Nat) (hx : x = (bareN (bareN ⟨false, wm, t - 52⟩)).m * 2 ^ k) (hx1 : 4503599627370496 ≤ x) (hx2 : x < 9007199254740992)
    (b : Nat) (hb2 : exactB x (t2 - 52) = (b : Int)) :
    Calls Tryz.prog 40 #[u, .bool more, .int .i64 z] w fun e w' => e = .returned (.tuple #[.int .u64 (b : Int), .int .u8 (if ix then 1 else 0), .int .i64 0]) ∧ Below w.heap.size w w' := by
  have CR := Lib.hid (fun w (h : Ry w u d) => rright_r h sd h0 more z hz)
  have bd := sd.bare
  obtain ⟨a1, k1, c1, rfl⟩ := hu.form
  generalize bareN d = D at *
  have CT := Lib.hid (fun w u (h : Cy w u D) => Top_d h.ry)
  have CW := Lib.hid (fun w u (h : Cy w u D) => whole_r h more z hz (t - 52) n hn (by omega) (by omega) hneg)
  rw [decide_eq_true h0, ← ht] at CT
  rw [hw] at CW
  obtain ⟨nn, m, e⟩ := D
  simp only at hneg hn bd CW
  subst hneg
  have CM := Lib.hid (fun w u (h : Dg w u wm) => Make_s (neg := false) (e := t - 52) (h.rd (by omega)) (by omega) (by omega))
  have sO : Sd (bareN ⟨false, wm, t - 52⟩) := by
    rw [bareN_pos (d := ⟨false, wm, t - 52⟩) hwm]
    have h1 := lo_le_bl hwm
    have h2 : wm / 2 ^ lo wm ≤ wm := Nat.div_le_self _ _
    have h3 := bl_mono h2
    have h4 : cutN (t - 52) = t - 52 := by unfold cutN; omega
    refine ⟨?_, ?_, ?_⟩ <;> simp only [h4] <;> omega
  have hO0 : (bareN ⟨false, wm, t - 52⟩).m ≠ 0 := fun h => hwm (bareN_m0.1 h)
  have CE := Lib.hid (fun w u (h : Cy w u (bareN ⟨false, wm, t - 52⟩)) => exact_r h.ry sO hn2 hO0 t2 ht2 ht2b k hk x hx hx1 hx2)
  rw [hb2] at CE
  generalize bareN ⟨false, wm, t - 52⟩ = O at *
  obtain ⟨on, om, oe⟩ := O
  have CG := Lib.hid (fun w => rsigned_r b w)
  obtain ⟨un, hun⟩ : ∃ un, un = t - 52 := ⟨_, rfl⟩
  have q0 : IntKind.i64.wrap (t - 52) = un := by rw [IntWalk.i64_in _ (by omega)]; exact hun.symm
  have q1 : max un (-1074) = un := by omega
  rw [← hun] at CW CM
  have z1 : decide (1023 < t) = false := decide_eq_false (by omega)
  have z2 : decide (t < -1075) = false := decide_eq_false (by omega)
  have z3 : decide (t < -1022) = false := decide_eq_false (by omega)
  have HUU := Lib.hid hu
  clear hu sd h0 ht hn hnb hw hwb ht2 ht2b hwm hn2 hk hx hx1 hx2 hb2 bd sO hO0 hun htb hz
  obtain ⟨fl, hfl⟩ : ∃ fl : Int, fl = if ix then 1 else 0 := ⟨_, rfl⟩
  rw [← hfl]
  cases ix
  · obtain rfl : fl = 0 := hfl
    have F0 := Lib.hid (Fx.one w 42 #[.bool d.neg, .slice a1 k1 c1, .int .i64 d.e] rfl)
    have X0 := Lib.hid (HUU.out.alloc (.cells #[.bool d.neg, .slice a1 k1 c1, .int .i64 d.e] 42))
    clear HUU
    go_enter Tryz.func40, Tryz.ntmps40
    go_upto_region 1 with (fail)
    generalize World.alloc _ _ = w0 at F0 X0 ⊢
    have c0_0 := F0.out.c3 0 rfl
    go_wp2_with fail
    clear c0_0
    refine (CR.out _ X0.out).mono ?_
    rintro q w1 ⟨u, rfl, hu, hb⟩
    have F1 := Lib.hid (F0.out.call hb)
    have X1 := Lib.hid (X0.out.below hb)
    clear F0 X0
    have U1 := Lib.hid (hu)
    clear hb
    have c0_1 := F1.out.c3 0 rfl
    clear X1
    obtain ⟨a3, k3, c3, rfl⟩ := U1.out.fm
    go_upto_region 4 with (fail)
    clear c0_1
    obtain ⟨f, p⟩ := F1.out.s3 0 rfl (.bool false) (.slice a3 k3 c3) (.int .i64 e) rfl rfl rfl
    generalize (World.setCell (World.setCell (World.setCell _ _ _) _ _) _ _) = W at f p ⊢
    have F2 := Lib.hid (f)
    have U2 := Lib.hid (U1.out.kp p)
    clear F1 U1
    clear f p
    simp only [List.set_cons_zero] at F2
    have c0_2 := F2.out.c3 0 rfl
    go_wp2_with fail
    clear c0_2
    refine (CT.out _ _ U2.out).mono ?_
    rintro q w3 ⟨rfl, hb⟩
    have F3 := Lib.hid (F2.out.call hb)
    have U3 := Lib.hid (U2.out.below hb)
    clear F2 U2
    clear hb
    have c0_3 := F3.out.c3 0 rfl
    go_wp2_with fail
    clear c0_3
    refine (CW.out _ _ U3.out).mono ?_
    rintro q w4 ⟨u, rfl, hu, hb⟩
    have F4 := Lib.hid (F3.out.call hb)
    have U4 := Lib.hid (U3.out.below hb)
    clear F3 U3
    have V4 := Lib.hid (hu)
    clear hb
    have c0_4 := F4.out.c3 0 rfl
    obtain ⟨a4, k4, c4, rfl⟩ := V4.out.form
    go_wp2_with fail
    clear c0_4
    refine (CM.out _ _ V4.out).mono ?_
    rintro q w5 ⟨u, rfl, hu, hb⟩
    have F5 := Lib.hid (F4.out.call hb)
    have U5 := Lib.hid (U4.out.below hb)
    have V5 := Lib.hid (V4.out.below hb)
    clear F4 U4 V4
    have W5 := Lib.hid (hu)
    clear hb
    have c0_5 := F5.out.c3 0 rfl
    obtain ⟨a5, k5, c5, rfl⟩ := W5.out.fm
    go_upto_region 16 with (fail)
    clear c0_5
    have F6 := Lib.hid (F5.out.new 42 #[.bool on, .slice a5 k5 c5, .int .i64 oe] rfl)
    have U6 := Lib.hid (U5.out.alloc (.cells #[.bool on, .slice a5 k5 c5, .int .i64 oe] 42))
    have V6 := Lib.hid (V5.out.alloc (.cells #[.bool on, .slice a5 k5 c5, .int .i64 oe] 42))
    have W6 := Lib.hid (W5.out.alloc (.cells #[.bool on, .slice a5 k5 c5, .int .i64 oe] 42))
    clear F5 U5 V5 W5
    obtain ⟨g1, hg1⟩ : ∃ g, g = (World.heap w5).size := ⟨_, rfl⟩
    rw [← hg1] at F6 ⊢
    clear hg1
    simp only [List.nil_append, List.cons_append] at F6
    generalize World.alloc w5 _ = W6 at F6 U6 V6 W6 ⊢
    have c0_6 := F6.out.c3 0 rfl
    have c1_6 := F6.out.c3 1 rfl
    go_wp2_with fail
    clear c0_6 c1_6
    refine (CE.out _ _ W6.out).mono ?_
    rintro q w7 ⟨rfl, hb⟩
    have F7 := Lib.hid (F6.out.call hb)
    have U7 := Lib.hid (U6.out.below hb)
    have V7 := Lib.hid (V6.out.below hb)
    have W7 := Lib.hid (W6.out.below hb)
    clear F6 U6 V6 W6
    clear hb
    have c0_7 := F7.out.c3 0 rfl
    have c1_7 := F7.out.c3 1 rfl
    go_wp2_with fail
    refine (CG.out _).mono ?_
    rintro q w8 ⟨rfl, rfl⟩
    go_wp2
    refine bodyPost_ret (v := .tuple #[.int .u64 (b : Int), .int .u8 0, .int .i64 0]) (by simp [results, Tryz.results40, go_sem]) rfl ?_
    exact ⟨rfl, F7.out.b⟩
  · obtain rfl : fl = 1 := hfl
    have F0 := Lib.hid (Fx.one w 42 #[.bool d.neg, .slice a1 k1 c1, .int .i64 d.e] rfl)
    have X0 := Lib.hid (HUU.out.alloc (.cells #[.bool d.neg, .slice a1 k1 c1, .int .i64 d.e] 42))
    clear HUU
    go_enter Tryz.func40, Tryz.ntmps40
    go_upto_region 1 with (fail)
    generalize World.alloc _ _ = w0 at F0 X0 ⊢
    have c0_0 := F0.out.c3 0 rfl
    go_wp2_with fail
    clear c0_0
    refine (CR.out _ X0.out).mono ?_
    rintro q w1 ⟨u, rfl, hu, hb⟩
    have F1 := Lib.hid (F0.out.call hb)
    have X1 := Lib.hid (X0.out.below hb)
    clear F0 X0
    have U1 := Lib.hid (hu)
    clear hb
    have c0_1 := F1.out.c3 0 rfl
    clear X1
    obtain ⟨a3, k3, c3, rfl⟩ := U1.out.fm
    go_upto_region 4 with (fail)
    clear c0_1
    obtain ⟨f, p⟩ := F1.out.s3 0 rfl (.bool false) (.slice a3 k3 c3) (.int .i64 e) rfl rfl rfl
    generalize (World.setCell (World.setCell (World.setCell _ _ _) _ _) _ _) = W at f p ⊢
    have F2 := Lib.hid (f)
    have U2 := Lib.hid (U1.out.kp p)
    clear F1 U1
    clear f p
    simp only [List.set_cons_zero] at F2
    have c0_2 := F2.out.c3 0 rfl
    go_wp2_with fail
    clear c0_2
    refine (CT.out _ _ U2.out).mono ?_
    rintro q w3 ⟨rfl, hb⟩
    have F3 := Lib.hid (F2.out.call hb)
    have U3 := Lib.hid (U2.out.below hb)
    clear F2 U2
    clear hb
    have c0_3 := F3.out.c3 0 rfl
    go_wp2_with fail
    clear c0_3
    refine (CW.out _ _ U3.out).mono ?_
    rintro q w4 ⟨u, rfl, hu, hb⟩
    have F4 := Lib.hid (F3.out.call hb)
    have U4 := Lib.hid (U3.out.below hb)
    clear F3 U3
    have V4 := Lib.hid (hu)
    clear hb
    have c0_4 := F4.out.c3 0 rfl
    obtain ⟨a4, k4, c4, rfl⟩ := V4.out.form
    go_wp2_with fail
    clear c0_4
    refine (CM.out _ _ V4.out).mono ?_
    rintro q w5 ⟨u, rfl, hu, hb⟩
    have F5 := Lib.hid (F4.out.call hb)
    have U5 := Lib.hid (U4.out.below hb)
    have V5 := Lib.hid (V4.out.below hb)
    clear F4 U4 V4
    have W5 := Lib.hid (hu)
    clear hb
    have c0_5 := F5.out.c3 0 rfl
    obtain ⟨a5, k5, c5, rfl⟩ := W5.out.fm
    go_upto_region 16 with (fail)
    clear c0_5
    have F6 := Lib.hid (F5.out.new 42 #[.bool on, .slice a5 k5 c5, .int .i64 oe] rfl)
    have U6 := Lib.hid (U5.out.alloc (.cells #[.bool on, .slice a5 k5 c5, .int .i64 oe] 42))
    have V6 := Lib.hid (V5.out.alloc (.cells #[.bool on, .slice a5 k5 c5, .int .i64 oe] 42))
    have W6 := Lib.hid (W5.out.alloc (.cells #[.bool on, .slice a5 k5 c5, .int .i64 oe] 42))
    clear F5 U5 V5 W5
    obtain ⟨g1, hg1⟩ : ∃ g, g = (World.heap w5).size := ⟨_, rfl⟩
    rw [← hg1] at F6 ⊢
    clear hg1
    simp only [List.nil_append, List.cons_append] at F6
    generalize World.alloc w5 _ = W6 at F6 U6 V6 W6 ⊢
    have c0_6 := F6.out.c3 0 rfl
    have c1_6 := F6.out.c3 1 rfl
    go_wp2_with fail
    clear c0_6 c1_6
    refine (CE.out _ _ W6.out).mono ?_
    rintro q w7 ⟨rfl, hb⟩
    have F7 := Lib.hid (F6.out.call hb)
    have U7 := Lib.hid (U6.out.below hb)
    have V7 := Lib.hid (V6.out.below hb)
    have W7 := Lib.hid (W6.out.below hb)
    clear F6 U6 V6 W6
    clear hb
    have c0_7 := F7.out.c3 0 rfl
    have c1_7 := F7.out.c3 1 rfl
    go_wp2_with fail
    refine (CG.out _).mono ?_
    rintro q w8 ⟨rfl, rfl⟩
    go_wp2
    refine bodyPost_ret (v := .tuple #[.int .u64 (b : Int), .int .u8 1, .int .i64 0]) (by simp [results, Tryz.results40, go_sem]) rfl ?_
    exact ⟨rfl, F7.out.b⟩

end Go.Proofs.YtobpioceopfkpaaGreatDoor
