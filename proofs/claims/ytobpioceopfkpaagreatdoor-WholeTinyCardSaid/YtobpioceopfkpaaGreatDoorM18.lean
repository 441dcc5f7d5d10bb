/-
  core: scale, Log. Printed by gen_rd.py.
-/
import Derived.Test.YtobpioceopfkpaaGreatDoorM17
import Derived.Test.YtobpioceopfkpaaGreatDoorM15
import Derived.Test.YtobpioceopfkpaaGreatDoorM11
namespace Go.Proofs.YtobpioceopfkpaaGreatDoor
open Go.RowKit

theorem Fz.one_fx {w0 w : World} {bs : List (Nat × TypeId × Array Value)} (h : Fz w0 w bs) (i : Nat) {g : Nat} {t : TypeId} {cs : Array Value} (hi : bs[i]? = some (g, t, cs)) (hn : nlA cs = true) : Fx w0 w [(g, t, cs)] := by
  refine ⟨h.b, ?_, ?_, ?_, ?_⟩
  · intro j g' t' cs' hj
    match j with
    | 0 => simp at hj; obtain ⟨rfl, rfl, rfl⟩ := hj; exact h.box i _ _ _ hi
    | j + 1 => simp at hj
  · intro j g' t' cs' hj
    match j with
    | 0 => simp at hj; obtain ⟨rfl, rfl, rfl⟩ := hj; exact h.low i _ _ _ hi
    | j + 1 => simp at hj
  · intro j k g' t' cs' g2 t2 cs2 hjk h1 h2
    have := (List.getElem?_eq_some_iff.1 h2).1
    simp at this
    omega
  · intro j g' t' cs' hj
    match j with
    | 0 => simp at hj; obtain ⟨rfl, rfl, rfl⟩ := hj; exact hn
    | j + 1 => simp at hj

set_option maxRecDepth 100000 in
set_option maxHeartbeats 4000000 in
theorem scale_a {w : World} {u : Value} {x y : Dn} {z tt : Int} (hu : Ak w u x y z tt) (h0 : y.m ≠ 0) (ht : topN y ≤ -1) (ht2 : -100000 ≤ topN y) : Calls Tryz.prog 128 #[u, .int .i64 64] w fun e w' => e = .returned (.int .i64 128) ∧ Below w.heap.size w w' := by
  have CT := Lib.hid (fun w u (h : Cy w u y) => Top_d h.ry)
  rw [decide_eq_true h0] at CT
  generalize topN y = t at *
  obtain ⟨a1, k1, c1, a2, k2, c2, rfl, hx, hy⟩ := hu
  obtain ⟨xn, xm, xe⟩ := x
  obtain ⟨yn, ym, ye⟩ := y
  simp only at hx hy
  have HY := Lib.hid hy
  obtain ⟨t1, ht1⟩ : ∃ t1, t1 = t + 1 := ⟨_, rfl⟩
  have q1 : IntKind.i64.wrap (t + 1) = t1 := by rw [IntWalk.i64_in _ (by omega)]; exact ht1.symm
  have q2 : max t1 0 = 0 := by omega
  clear hx hy h0 ht ht2 ht1
  go_enter Tryz.func128, Tryz.ntmps128
  have F0 := Lib.hid (Fz.one w 58 #[.bool xn, .slice a1 k1 c1, .int .i64 xe, .bool yn, .slice a2 k2 c2, .int .i64 ye, .int .u64 1, .bool false, .int .i64 z, .int .i64 64, .int .i64 tt])
  have Y0 := Lib.hid (HY.out.alloc (.cells #[.bool xn, .slice a1 k1 c1, .int .i64 xe, .bool yn, .slice a2 k2 c2, .int .i64 ye, .int .u64 1, .bool false, .int .i64 z, .int .i64 64, .int .i64 tt] 58))
  clear HY
  go_upto_region 1 with (fail)
  generalize World.alloc _ _ = w0 at F0 Y0 ⊢
  have c0_0 := F0.out.c11 0 rfl
  go_wp2_with fail
  clear c0_0
  refine (CT.out _ _ Y0.out).mono ?_
  rintro q w1 ⟨rfl, hb⟩
  have F1 := Lib.hid (F0.out.call hb)
  have Y1 := Lib.hid (Y0.out.below hb)
  clear F0 Y0
  clear hb
  have c0_1 := F1.out.c11 0 rfl
  go_wp2
  go_ret
  exact ⟨rfl, F1.out.b⟩

set_option maxRecDepth 100000 in
set_option maxHeartbeats 4000000 in
theorem CLog_a {w : World} {u : Value} {x y : Dn} {z tt : Int} (hu : Ak w u x y z tt) (ok : AkOk x y z tt) (xneg : (bareN x).neg = false) (x0 : (bareN x).m ≠ 0) (h0 : y.m ≠ 0) (ht : topN y ≤ -1) (ht2 : -100000 ≤ topN y)
    (s1 : Sd (logN (bareN x).m (topN (bareN x)) 128).lo) (s2 : Sd (logN (bareN x).m (topN (bareN x)) 128).hi) (r1 : CmpD (logN (bareN x).m (topN (bareN x)) 128).lo (logN (bareN x).m (topN (bareN x)) 128).hi ≤ 0) (r2 : CmpD y y ≤ 0) :
    Calls Tryz.prog 90 #[u, .int .i64 64] w fun e w' => ∃ r, e = .returned (.tuple #[r, .int .i64 128, .int .i64 0]) ∧ Iv w' r (mulI (logN (bareN x).m (topN (bareN x)) 128) ⟨y, y⟩) ∧ Below w.heap.size w w' := by
  have CR := Lib.hid (fun w u (h : Ak w u x y z tt) => Right_a h ok)
  have CS := Lib.hid (fun w u (h : Ak w u x y z tt) => scale_a h h0 ht ht2)
  have CL := Lib.hid (fun w u (h : Cy w u x) => Log_r h.ry ok.sx xneg x0 ok.bx 128 (by decide))
  generalize logN (bareN x).m (topN (bareN x)) 128 = L at *
  have CT := Lib.hid (fun w u v (h : Iv w u L) (k : Cy w v y) => Times_r h k s1 s2 ok.sy r1 r2)
  generalize mulI L ⟨y, y⟩ = R at *
  have HU := Lib.hid hu
  obtain ⟨a1, k1, c1, a2, k2, c2, rfl, hx, hy⟩ := hu
  obtain ⟨xn, xm, xe⟩ := x
  obtain ⟨yn, ym, ye⟩ := y
  simp only at hx hy
  have HX := Lib.hid hx
  have HY := Lib.hid hy
  obtain ⟨⟨ln, lm, le⟩, ⟨ln', lm', le'⟩⟩ := L
  obtain ⟨⟨rn, rm, re⟩, ⟨rn', rm', re'⟩⟩ := R
  clear hx hy ok h0 ht ht2 s1 s2 r1 r2 xneg x0
  go_enter Tryz.func90, Tryz.ntmps90
  have F0 := Lib.hid (Fz.two w 58 #[.bool xn, .slice a1 k1 c1, .int .i64 xe, .bool yn, .slice a2 k2 c2, .int .i64 ye, .int .u64 1, .bool false, .int .i64 z, .int .i64 64, .int .i64 tt] 92 #[.bool false, .slice none 0 0, .int .i64 0, .bool false, .slice none 0 0, .int .i64 0])
  have U0 := Lib.hid ((HU.out.alloc (.cells #[.bool xn, .slice a1 k1 c1, .int .i64 xe, .bool yn, .slice a2 k2 c2, .int .i64 ye, .int .u64 1, .bool false, .int .i64 z, .int .i64 64, .int .i64 tt] 58)).alloc (.cells #[.bool false, .slice none 0 0, .int .i64 0, .bool false, .slice none 0 0, .int .i64 0] 92))
  have X0 := Lib.hid ((HX.out.alloc (.cells #[.bool xn, .slice a1 k1 c1, .int .i64 xe, .bool yn, .slice a2 k2 c2, .int .i64 ye, .int .u64 1, .bool false, .int .i64 z, .int .i64 64, .int .i64 tt] 58)).alloc (.cells #[.bool false, .slice none 0 0, .int .i64 0, .bool false, .slice none 0 0, .int .i64 0] 92))
  have Y0 := Lib.hid ((HY.out.alloc (.cells #[.bool xn, .slice a1 k1 c1, .int .i64 xe, .bool yn, .slice a2 k2 c2, .int .i64 ye, .int .u64 1, .bool false, .int .i64 z, .int .i64 64, .int .i64 tt] 58)).alloc (.cells #[.bool false, .slice none 0 0, .int .i64 0, .bool false, .slice none 0 0, .int .i64 0] 92))
  clear HU HX HY
  go_upto_region 1 with (fail)
  generalize World.alloc (World.alloc _ _) _ = w0 at F0 U0 X0 Y0 ⊢
  have c0_0 := F0.out.c11 0 rfl
  have c1_0 := F0.out.c6 1 rfl
  go_wp2_with fail
  clear c0_0 c1_0
  refine (CR.out _ _ U0.out).mono ?_
  rintro q w1 ⟨rfl, hb⟩
  have F1 := Lib.hid (F0.out.call hb)
  have U1 := Lib.hid (U0.out.below hb)
  have X1 := Lib.hid (X0.out.below hb)
  have Y1 := Lib.hid (Y0.out.below hb)
  clear F0 U0 X0 Y0
  clear hb
  have c0_1 := F1.out.c11 0 rfl
  have c1_1 := F1.out.c6 1 rfl
  go_wp2_with fail
  clear c0_1 c1_1
  refine (CS.out _ _ U1.out).mono ?_
  rintro q w2 ⟨rfl, hb⟩
  have F2 := Lib.hid (F1.out.call hb)
  have U2 := Lib.hid (U1.out.below hb)
  have X2 := Lib.hid (X1.out.below hb)
  have Y2 := Lib.hid (Y1.out.below hb)
  clear F1 U1 X1 Y1
  clear hb
  have c0_2 := F2.out.c11 0 rfl
  have c1_2 := F2.out.c6 1 rfl
  clear U2
  go_wp2_with fail
  clear c0_2 c1_2
  refine (CL.out _ _ X2.out).mono ?_
  rintro q w3 ⟨u, rfl, hu, hb⟩
  have F3 := Lib.hid (F2.out.call hb)
  have X3 := Lib.hid (X2.out.below hb)
  have Y3 := Lib.hid (Y2.out.below hb)
  clear F2 X2 Y2
  have I3 := Lib.hid (hu)
  clear hb
  have c0_3 := F3.out.c11 0 rfl
  have c1_3 := F3.out.c6 1 rfl
  clear X3
  obtain ⟨b7, e7, d7, b8, e8, d8, rfl, h1, h2⟩ := I3.out.fm
  clear h1 h2
  go_upto_region 5 with (fail)
  clear c0_3 c1_3
  have F4 := Lib.hid (F3.out.new 92 #[.bool ln, .slice b7 e7 d7, .int .i64 le, .bool ln', .slice b8 e8 d8, .int .i64 le'])
  have Y4 := Lib.hid (Y3.out.alloc (.cells #[.bool ln, .slice b7 e7 d7, .int .i64 le, .bool ln', .slice b8 e8 d8, .int .i64 le'] 92))
  have I4 := Lib.hid (I3.out.alloc (.cells #[.bool ln, .slice b7 e7 d7, .int .i64 le, .bool ln', .slice b8 e8 d8, .int .i64 le'] 92))
  clear F3 Y3 I3
  obtain ⟨g1, hg1⟩ : ∃ g, g = (World.heap w3).size := ⟨_, rfl⟩
  rw [← hg1] at F4 ⊢
  clear hg1
  simp only [List.nil_append, List.cons_append] at F4
  generalize World.alloc w3 _ = W4 at F4 Y4 I4 ⊢
  have c0_4 := F4.out.c11 0 rfl
  have c1_4 := F4.out.c6 1 rfl
  have c2_4 := F4.out.c6 2 rfl
  go_wp2_with fail
  clear c0_4 c1_4 c2_4
  refine (CT.out _ _ _ I4.out Y4.out).mono ?_
  rintro q w5 ⟨u, rfl, hu, hb⟩
  have F5 := Lib.hid (F4.out.call hb)
  have Y5 := Lib.hid (Y4.out.below hb)
  have I5 := Lib.hid (I4.out.below hb)
  clear F4 Y4 I4
  have J5 := Lib.hid (hu)
  clear hb
  have c0_5 := F5.out.c11 0 rfl
  have c1_5 := F5.out.c6 1 rfl
  have c2_5 := F5.out.c6 2 rfl
  clear I5 Y5
  obtain ⟨f7, i7, j7, f8, i8, j8, rfl, h1, h2⟩ := J5.out.fm
  clear h1 h2
  go_upto_region 8 with (fail)
  clear c0_5 c1_5 c2_5
  have F6 := Lib.hid (F5.out.new 92 #[.bool rn, .slice f7 i7 j7, .int .i64 re, .bool rn', .slice f8 i8 j8, .int .i64 re'])
  have J6 := Lib.hid (J5.out.alloc (.cells #[.bool rn, .slice f7 i7 j7, .int .i64 re, .bool rn', .slice f8 i8 j8, .int .i64 re'] 92))
  clear F5 J5
  obtain ⟨g2, hg2⟩ : ∃ g, g = (World.heap w5).size := ⟨_, rfl⟩
  rw [← hg2] at F6 ⊢
  clear hg2
  simp only [List.nil_append, List.cons_append] at F6
  generalize World.alloc w5 _ = W6 at F6 J6 ⊢
  have c0_6 := F6.out.c11 0 rfl
  have c1_6 := F6.out.c6 1 rfl
  have c2_6 := F6.out.c6 2 rfl
  have c3_6 := F6.out.c6 3 rfl
  go_wp2
  have f := F6.out.s6 1 rfl (.bool rn) (.slice f7 i7 j7) (.int .i64 re) (.bool rn') (.slice f8 i8 j8) (.int .i64 re')
  have p := ((F6.out.one_fx 1 rfl rfl).s6 0 rfl (.bool rn) (.slice f7 i7 j7) (.int .i64 re) (.bool rn') (.slice f8 i8 j8) (.int .i64 re') rfl rfl rfl rfl rfl rfl).2
  generalize (World.setCell (World.setCell (World.setCell (World.setCell (World.setCell (World.setCell _ _ _) _ _) _ _) _ _) _ _) _ _) = W at f p ⊢
  have g1' := f.c6 1 rfl
  refine bodyPost_ret (v := .tuple #[.agg #[.bool rn, .slice f7 i7 j7, .int .i64 re, .bool rn', .slice f8 i8 j8, .int .i64 re'], .int .i64 128, .int .i64 0]) (by simp [results, Tryz.results90, go_sem, g1']) rfl ?_
  exact ⟨_, rfl, J6.out.kp p, f.b⟩

end Go.Proofs.YtobpioceopfkpaaGreatDoor

/-
  round: up, away, parts, signed; of what is above 0. Printed by gen_ja.py.
-/
namespace Go.Proofs.YtobpioceopfkpaaGreatDoor
open Go.RowKit

def awayN (z : Int) (odd half below : Bool) : Bool := if z = 0 then half && (below || odd) else (half || below) && (z == 2)

set_option maxRecDepth 100000 in
set_option maxHeartbeats 4000000 in
theorem up_r (z : Int) (hz : 0 ≤ z ∧ z ≤ 3) (w : World) : Calls Tryz.prog 120 #[.int .i64 z, .bool false] w fun e w' => e = .returned (.bool (z == 2)) ∧ w = w' := by
  rcases (by omega : z = 0 ∨ z = 1 ∨ z = 2 ∨ z = 3) with rfl | rfl | rfl | rfl <;> clear hz <;>
  · go_enter Tryz.func120, Tryz.ntmps120
    go_wp2
    go_ret
    exact ⟨rfl, rfl⟩

set_option maxRecDepth 100000 in
set_option maxHeartbeats 4000000 in
theorem away_r (z : Int) (hz : 0 ≤ z ∧ z ≤ 3) (odd half below : Bool) (w : World) : Calls Tryz.prog 122 #[.int .i64 z, .bool false, .bool odd, .bool half, .bool below] w fun e w' => e = .returned (.bool (awayN z odd half below)) ∧ w = w' := by
  have CU := Lib.hid (fun z hz w => up_r z hz w)
  rcases (by omega : z = 0 ∨ z = 1 ∨ z = 2 ∨ z = 3) with rfl | rfl | rfl | rfl <;> clear hz <;> cases half <;> cases below <;> cases odd <;>
  · go_enter Tryz.func122, Tryz.ntmps122
    go_wp2_with (refine (CU.out _ (by decide) _).mono ?_; rintro q w1 ⟨rfl, rfl⟩)
    go_ret
    exact ⟨rfl, rfl⟩

def partsN (m : Nat) (n : Int) : Nat × Bool × Bool := if n ≤ 0 then (m * 2 ^ (-n).toNat, false, false) else (m / 2 ^ n.toNat, m / 2 ^ (n.toNat - 1) % 2 == 1, decide (m % 2 ^ (n.toNat - 1) ≠ 0))

set_option maxRecDepth 100000 in
set_option maxHeartbeats 4000000 in
theorem parts_r {w : World} {u : Value} {d : Dn} (hu : Cy w u d) (t n : Int) (hn : n = t - d.e) (hnb : -10000 ≤ n ∧ n ≤ 10000) (hb : bl d.m ≤ 50000) :
    Calls Tryz.prog 121 #[u, .int .i64 t] w fun e w' => ∃ x, e = .returned (.tuple #[x, .bool (partsN d.m n).2.1, .bool (partsN d.m n).2.2]) ∧ Dg w' x (partsN d.m n).1 ∧ Below w.heap.size w w' := by
  obtain ⟨neg, m, e⟩ := d
  simp only at hn hb
  obtain ⟨a1, k1, c1, rfl⟩ := hu.fm
  have HU := Lib.hid (hu.dm.rd (by omega))
  have q1 : IntKind.i64.wrap (t - e) = n := by rw [IntWalk.i64_in _ (by omega)]; exact hn.symm
  have HP : partsN m n = if n ≤ 0 then (m * 2 ^ (-n).toNat, false, false) else (m / 2 ^ n.toNat, m / 2 ^ (n.toNat - 1) % 2 == 1, decide (m % 2 ^ (n.toNat - 1) ≠ 0)) := rfl
  simp only
  by_cases h0 : n ≤ 0
  · rw [if_pos h0] at HP
    rw [HP]
    obtain ⟨k, hk⟩ : ∃ k, k = (-n).toNat := ⟨_, rfl⟩
    have q2 : IntKind.i64.wrap (-n) = (k : Int) := by rw [IntWalk.i64_in _ (by omega)]; omega
    have z1 : decide (n ≤ 0) = true := decide_eq_true h0
    have CS := Lib.hid (fun w (h : Rd w (.slice a1 k1 c1) m) => shl_s h k (by omega))
    rw [← hk]
    simp only
    clear hu hn hk HP h0 hnb
    go_enter Tryz.func121, Tryz.ntmps121
    have F0 := Lib.hid (Fx.one w 42 #[.bool neg, .slice a1 k1 c1, .int .i64 e] rfl)
    have X0 := Lib.hid (HU.out.alloc (.cells #[.bool neg, .slice a1 k1 c1, .int .i64 e] 42))
    clear HU
    go_upto_region 1 with (fail)
    generalize World.alloc _ _ = w0 at F0 X0 ⊢
    have c0_0 := F0.out.c3 0 rfl
    go_wp2_with fail
    clear c0_0
    refine (CS.out _ X0.out).mono ?_
    rintro q w1 ⟨u, rfl, hu, hb⟩
    have F1 := Lib.hid (F0.out.call hb)
    have X1 := Lib.hid (X0.out.below hb)
    clear F0 X0
    have U1 := Lib.hid (hu)
    clear hb
    have c0_1 := F1.out.c3 0 rfl
    obtain ⟨a3, k3, c3, rfl⟩ := U1.out.form
    go_wp2
    refine bodyPost_ret (v := .tuple #[.slice a3 k3 c3, .bool false, .bool false]) (by simp [results, Tryz.results121, go_sem]) rfl ?_
    exact ⟨_, rfl, U1.out, F1.out.b⟩
  · rw [if_neg h0] at HP
    rw [HP]
    obtain ⟨k, hk⟩ : ∃ k, k = n.toNat := ⟨_, rfl⟩
    obtain ⟨k', hk'⟩ : ∃ k', k' = n.toNat - 1 := ⟨_, rfl⟩
    have q2 : IntKind.i64.wrap (n - 1) = (k' : Int) := by rw [IntWalk.i64_in _ (by omega)]; omega
    have z1 : decide (n ≤ 0) = false := decide_eq_false h0
    have CS := Lib.hid (fun w (h : Rd w (.slice a1 k1 c1) m) => shr_r h k (by omega))
    have CT := Lib.hid (fun w (h : Rd w (.slice a1 k1 c1) m) => shr_r h k' (by omega))
    have hq : (k : Int) = n := by omega
    rw [hq] at CS
    rw [← hk', ← hk]
    have hbl : bl (m / 2 ^ k') ≤ 6000000 := Nat.le_trans (bl_mono (Nat.div_le_self _ _)) (by omega)
    simp only
    generalize m / 2 ^ k = x at *
    generalize m / 2 ^ k' = y at *
    generalize decide (m % 2 ^ k' ≠ 0) = g at *
    generalize decide (m % 2 ^ k ≠ 0) = g' at *
    have CO := Lib.hid (fun w u (h : Dg w u y) => odd_r (h.rd hbl))
    generalize (y % 2 == 1) = o at *
    clear hu hn hk hk' hq HP h0 hnb hb
    go_enter Tryz.func121, Tryz.ntmps121
    have F0 := Lib.hid (Fx.one w 42 #[.bool neg, .slice a1 k1 c1, .int .i64 e] rfl)
    have X0 := Lib.hid (HU.out.alloc (.cells #[.bool neg, .slice a1 k1 c1, .int .i64 e] 42))
    clear HU
    go_upto_region 1 with (fail)
    generalize World.alloc _ _ = w0 at F0 X0 ⊢
    have c0_0 := F0.out.c3 0 rfl
    go_wp2_with fail
    clear c0_0
    refine (CS.out _ X0.out).mono ?_
    rintro q w1 ⟨u, rfl, hu, hb⟩
    have F1 := Lib.hid (F0.out.call hb)
    have X1 := Lib.hid (X0.out.below hb)
    clear F0 X0
    have U1 := Lib.hid (hu)
    clear hb
    have c0_1 := F1.out.c3 0 rfl
    obtain ⟨a3, k3, c3, rfl⟩ := U1.out.form
    go_wp2_with fail
    clear c0_1
    refine (CT.out _ X1.out).mono ?_
    rintro q w2 ⟨u, rfl, hu, hb⟩
    have F2 := Lib.hid (F1.out.call hb)
    have X2 := Lib.hid (X1.out.below hb)
    have U2 := Lib.hid (U1.out.below hb)
    clear F1 X1 U1
    have V2 := Lib.hid (hu)
    clear hb
    have c0_2 := F2.out.c3 0 rfl
    obtain ⟨a4, k4, c4, rfl⟩ := V2.out.form
    go_wp2_with fail
    refine (CO.out _ _ V2.out).mono ?_
    rintro q w3 ⟨rfl, rfl⟩
    go_wp2
    refine bodyPost_ret (v := .tuple #[.slice a3 k3 c3, .bool o, .bool g]) (by simp [results, Tryz.results121, go_sem]) rfl ?_
    exact ⟨_, rfl, U2.out, F2.out.b⟩

set_option maxRecDepth 100000 in
set_option maxHeartbeats 4000000 in
theorem rsigned_r (b : Nat) (w : World) : Calls Tryz.prog 88 #[.int .u64 (b : Int), .bool false] w fun e w' => e = .returned (.int .u64 (b : Int)) ∧ w = w' := by
  go_enter Tryz.func88, Tryz.ntmps88
  go_wp2
  go_ret
  exact ⟨rfl, rfl⟩

end Go.Proofs.YtobpioceopfkpaaGreatDoor
