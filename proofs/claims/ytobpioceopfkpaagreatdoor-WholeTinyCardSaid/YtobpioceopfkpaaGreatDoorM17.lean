/-
  core: short, Right, Sign, scale. Printed by gen_ra.py.
-/
import Derived.Test.YtobpioceopfkpaaGreatDoorM16
import Derived.Test.YtobpioceopfkpaaGreatDoorM11
import Derived.Test.YtobpioceopfkpaaGreatDoorM08
import Derived.Deep.RegionHeld3
import Derived.Test.YtobpioceopfkpaaGreatDoorM09
import Derived.LoopN
import Derived.BigQuiet
import Derived.Test.YtobpioceopfkpaaGreatDoorM13
namespace Go.Proofs.YtobpioceopfkpaaGreatDoor
open Go.RowKit

set_option maxRecDepth 100000 in
set_option maxHeartbeats 4000000 in
theorem short_r {w : World} {u : Value} {d : Dn} (hu : Ry w u d) (sd : Sd d) (B M : Int) (hB : (bl (bareN d).m : Int) ≤ B) (hM : -M ≤ topN (bareN d) ∧ topN (bareN d) ≤ M) (hMM : 0 ≤ M ∧ M ≤ 10000000) :
    Calls Tryz.prog 79 #[u, .int .i64 B, .int .i64 M] w fun e w' => e = .returned (.bool true) ∧ Below w.heap.size w w' := by
  have CA := Lib.hid (fun w (h : Ry w u d) => Bare_s h sd)
  have bd := sd.bare
  obtain ⟨a1, k1, c1, rfl⟩ := hu.form
  generalize bareN d = D at *
  have CT := Lib.hid (fun w u (h : Cy w u D) => Top_d h.ry)
  generalize topN D = t at *
  obtain ⟨n, m, e⟩ := D
  simp only at hB bd CT
  have CB := Lib.hid (fun w u (h : Dg w u m) => bits_r (h.rd (by omega)))
  generalize bl m = l at *
  generalize decide (m ≠ 0) = g at *
  have q1 : IntKind.i64.wrap (-M) = -M := IntWalk.i64_in _ (by omega)
  have z1 : decide ((l : Int) ≤ B) = true := decide_eq_true hB
  have z2 : decide (-M ≤ t) = true := decide_eq_true hM.1
  have z3 : decide (t ≤ M) = true := decide_eq_true hM.2
  have HUU := Lib.hid hu
  clear hu sd hB hM hMM bd
  go_enter Tryz.func79, Tryz.ntmps79
  have F0 := Lib.hid (Fx.one w 42 #[.bool d.neg, .slice a1 k1 c1, .int .i64 d.e] rfl)
  have X0 := Lib.hid (HUU.out.alloc (.cells #[.bool d.neg, .slice a1 k1 c1, .int .i64 d.e] 42))
  clear HUU
  go_upto_region 1 with (fail)
  generalize World.alloc _ _ = w0 at F0 X0 ⊢
  have c0_0 := F0.out.c3 0 rfl
  go_wp2_with fail
  clear c0_0
  refine (CA.out _ X0.out).mono ?_
  rintro q w1 ⟨u, rfl, hu, hb⟩
  have F1 := Lib.hid (F0.out.call hb)
  have X1 := Lib.hid (X0.out.below hb)
  clear F0 X0
  have U1 := Lib.hid (hu)
  clear hb
  have c0_1 := F1.out.c3 0 rfl
  clear X1
  obtain ⟨a3, k3, c3, rfl⟩ := U1.out.fm
  go_upto_region 2 with (fail)
  clear c0_1
  obtain ⟨f, p⟩ := F1.out.s3 0 rfl (.bool n) (.slice a3 k3 c3) (.int .i64 e) rfl rfl rfl
  generalize (World.setCell (World.setCell (World.setCell _ _ _) _ _) _ _) = W at f p ⊢
  have F2 := Lib.hid (f)
  have U2 := Lib.hid (U1.out.kp p)
  clear F1 U1
  clear f p
  simp only [List.set_cons_zero] at F2
  have c0_2 := F2.out.c3 0 rfl
  go_wp2_with fail
  clear c0_2
  refine (CT.out _ _ U2.out).mono ?_
  rintro q w3 ⟨rfl, hb⟩
  have F3 := Lib.hid (F2.out.call hb)
  have U3 := Lib.hid (U2.out.below hb)
  clear F2 U2
  clear hb
  have c0_3 := F3.out.c3 0 rfl
  go_wp2_with fail
  clear c0_3
  refine (CB.out _ _ U3.out.dm).mono ?_
  rintro q w4 ⟨rfl, hb⟩
  have F4 := Lib.hid (F3.out.call hb)
  have U4 := Lib.hid (U3.out.below hb)
  clear F3 U3
  clear hb
  have c0_4 := F4.out.c3 0 rfl
  go_wp2
  go_ret
  exact ⟨rfl, F4.out.b⟩

/-- what is asked: a power -/
def Ak (w : World) (v : Value) (x y : Dn) (z tt : Int) : Prop := ∃ a k c a' k' c', v = .agg #[.bool x.neg, .slice a k c, .int .i64 x.e, .bool y.neg, .slice a' k' c', .int .i64 y.e, .int .u64 1, .bool false, .int .i64 z, .int .i64 64, .int .i64 tt] ∧
  Cy w (.agg #[.bool x.neg, .slice a k c, .int .i64 x.e]) x ∧ Cy w (.agg #[.bool y.neg, .slice a' k' c', .int .i64 y.e]) y
/-- numbers that may be asked -/
structure AkOk (x y : Dn) (z tt : Int) : Prop where
  sx : Sd x
  sy : Sd y
  xn : x.neg = false
  x0 : x.m ≠ 0
  bx : bl (bareN x).m ≤ 60
  tx : -1048576 ≤ topN (bareN x) ∧ topN (bareN x) ≤ 1048576
  by' : bl (bareN y).m ≤ 60
  ty : -1100 ≤ topN (bareN y) ∧ topN (bareN y) ≤ 1100
  hz : 0 ≤ z ∧ z ≤ 3
  htt : tt = 64 ∨ tt = 1024
theorem Ak.below {w w' : World} {v : Value} {x y : Dn} {z tt : Int} (h : Ak w v x y z tt) (hb : Below w.heap.size w w') : Ak w' v x y z tt := by
  obtain ⟨a, k, c, a', k', c', h1, h2, h3⟩ := h; exact ⟨a, k, c, a', k', c', h1, h2.below hb, h3.below hb⟩
theorem Ak.alloc {w : World} {v : Value} {x y : Dn} {z tt : Int} (h : Ak w v x y z tt) (o : Obj) : Ak (w.alloc o) v x y z tt := by
  obtain ⟨a, k, c, a', k', c', h1, h2, h3⟩ := h; exact ⟨a, k, c, a', k', c', h1, h2.alloc o, h3.alloc o⟩
theorem Ak.drew {w : World} {v : Value} {x y : Dn} {z tt : Int} (h : Ak w v x y z tt) : Ak w.drew v x y z tt := by
  obtain ⟨a, k, c, a', k', c', h1, h2, h3⟩ := h; exact ⟨a, k, c, a', k', c', h1, h2.drew, h3.drew⟩
theorem Plan_any (w : World) (tt : Int) (h : tt = 64 ∨ tt = 1024) : Calls Tryz.prog 41 #[.int .i64 64, .int .i64 tt] w fun e w' => ∃ v, e = .returned (.tuple #[v, .int .i64 0]) ∧ Below w.heap.size w w' := by
  rcases h with rfl | rfl
  · exact (Plan_64 w).mono fun e w' ⟨v, h1, _, h2⟩ => ⟨v, h1, h2⟩
  · exact (Plan_1024 w).mono fun e w' ⟨v, h1, _, h2⟩ => ⟨v, h1, h2⟩

set_option maxRecDepth 100000 in
set_option maxHeartbeats 4000000 in
theorem Right_a {w : World} {u : Value} {x y : Dn} {z tt : Int} (hu : Ak w u x y z tt) (ok : AkOk x y z tt) : Calls Tryz.prog 37 #[u] w fun e w' => e = .returned (.bool true) ∧ Below w.heap.size w w' := by
  obtain ⟨sx, sy, xn0, x0, bx, tx, by', ty, hz, htt⟩ := ok
  have CP := Lib.hid (fun w => Plan_any w tt htt)
  have C1 := Lib.hid (fun w u (h : Cy w u x) => short_r h.ry sx 4000 1048576 (by omega) (by omega) (by decide))
  have C2 := Lib.hid (fun w u (h : Cy w u y) => short_r h.ry sy 64 1100 (by omega) (by omega) (by decide))
  have CS := Lib.hid (fun w u (h : Cy w u x) => Sign_d h.ry)
  have hs : signN x = 1 := by unfold signN; rw [if_neg x0, xn0]; rfl
  rw [hs] at CS
  obtain ⟨a1, k1, c1, a2, k2, c2, rfl, hx, hy⟩ := hu
  obtain ⟨xn, xm, xe⟩ := x
  obtain ⟨yn, ym, ye⟩ := y
  simp only at hx hy
  have HX := Lib.hid hx
  have HY := Lib.hid hy
  have z1 : decide ((0 : Int) ≤ z) = true := decide_eq_true hz.1
  have z2 : decide (z ≤ (3 : Int)) = true := decide_eq_true hz.2
  clear sx sy xn0 x0 bx tx by' ty hz htt hs hx hy
  go_enter Tryz.func37, Tryz.ntmps37
  have F0 := Lib.hid (Fz.one w 58 #[.bool xn, .slice a1 k1 c1, .int .i64 xe, .bool yn, .slice a2 k2 c2, .int .i64 ye, .int .u64 1, .bool false, .int .i64 z, .int .i64 64, .int .i64 tt])
  have X0 := Lib.hid (HX.out.alloc (.cells #[.bool xn, .slice a1 k1 c1, .int .i64 xe, .bool yn, .slice a2 k2 c2, .int .i64 ye, .int .u64 1, .bool false, .int .i64 z, .int .i64 64, .int .i64 tt] 58))
  have Y0 := Lib.hid (HY.out.alloc (.cells #[.bool xn, .slice a1 k1 c1, .int .i64 xe, .bool yn, .slice a2 k2 c2, .int .i64 ye, .int .u64 1, .bool false, .int .i64 z, .int .i64 64, .int .i64 tt] 58))
  clear HX HY
  go_upto_region 1 with (fail)
  generalize World.alloc _ _ = w0 at F0 X0 Y0 ⊢
  have c0_0 := F0.out.c11 0 rfl
  go_wp2_with fail
  clear c0_0
  refine (CP.out _).mono ?_
  rintro q w1 ⟨u, rfl, hb⟩
  have F1 := Lib.hid (F0.out.call hb)
  have X1 := Lib.hid (X0.out.below hb)
  have Y1 := Lib.hid (Y0.out.below hb)
  clear F0 X0 Y0
  clear hb
  have c0_1 := F1.out.c11 0 rfl
  go_wp2_with fail
  clear c0_1
  refine (C1.out _ _ X1.out).mono ?_
  rintro q w2 ⟨rfl, hb⟩
  have F2 := Lib.hid (F1.out.call hb)
  have X2 := Lib.hid (X1.out.below hb)
  have Y2 := Lib.hid (Y1.out.below hb)
  clear F1 X1 Y1
  clear hb
  have c0_2 := F2.out.c11 0 rfl
  go_wp2_with fail
  clear c0_2
  refine (CS.out _ _ X2.out).mono ?_
  rintro q w3 ⟨rfl, hb⟩
  have F3 := Lib.hid (F2.out.call hb)
  have X3 := Lib.hid (X2.out.below hb)
  have Y3 := Lib.hid (Y2.out.below hb)
  clear F2 X2 Y2
  clear hb
  have c0_3 := F3.out.c11 0 rfl
  go_wp2_with fail
  clear c0_3
  refine (C2.out _ _ Y3.out).mono ?_
  rintro q w4 ⟨rfl, hb⟩
  have F4 := Lib.hid (F3.out.call hb)
  have X4 := Lib.hid (X3.out.below hb)
  have Y4 := Lib.hid (Y3.out.below hb)
  clear F3 X3 Y3
  clear hb
  have c0_4 := F4.out.c11 0 rfl
  go_wp2
  go_ret
  exact ⟨rfl, F4.out.b⟩

def signA (x y : Dn) : Int := signN y * CmpD x (ofN 1)

set_option maxRecDepth 100000 in
set_option maxHeartbeats 4000000 in
theorem Sign_a {w : World} {u : Value} {x y : Dn} {z tt : Int} (hu : Ak w u x y z tt) (ok : AkOk x y z tt) : Calls Tryz.prog 42 #[u] w fun e w' => e = .returned (.int .i64 (signA x y)) ∧ Below w.heap.size w w' := by
  have CR := Lib.hid (fun w u (h : Ak w u x y z tt) => Right_a h ok)
  have C1 := Lib.hid (fun w u (h : Cy w u y) => Sign_d h.ry)
  have C2 := Lib.hid (fun w (t : Tab w) => Of_d t 1 (by decide))
  have C3 := Lib.hid (fun w u v (h : Cy w u x) (k : Cy w v (ofN 1)) => Cmp_d h.ry k.ry)
  have HS : signA x y = signN y * CmpD x (ofN 1) := rfl
  rw [HS]
  have b1 := signN_le y
  have b2 := CmpD_le x (ofN 1)
  generalize signN y = p at *
  generalize CmpD x (ofN 1) = q at *
  have q1 : IntKind.i64.wrap (p * q) = p * q := IntWalk.i64_in _ (by rcases (by omega : p = -1 ∨ p = 0 ∨ p = 1) with h | h | h <;> subst h <;> omega)
  generalize ofN 1 = o at *
  obtain ⟨on, om, oe⟩ := o
  have HU := Lib.hid hu
  obtain ⟨a1, k1, c1, a2, k2, c2, rfl, hx, hy⟩ := hu
  obtain ⟨xn, xm, xe⟩ := x
  obtain ⟨yn, ym, ye⟩ := y
  simp only at hx hy
  have HX := Lib.hid hx
  have HY := Lib.hid hy
  clear hx hy ok b1 b2 HS
  go_enter Tryz.func42, Tryz.ntmps42
  have F0 := Lib.hid (Fz.one w 58 #[.bool xn, .slice a1 k1 c1, .int .i64 xe, .bool yn, .slice a2 k2 c2, .int .i64 ye, .int .u64 1, .bool false, .int .i64 z, .int .i64 64, .int .i64 tt])
  have U0 := Lib.hid (HU.out.alloc (.cells #[.bool xn, .slice a1 k1 c1, .int .i64 xe, .bool yn, .slice a2 k2 c2, .int .i64 ye, .int .u64 1, .bool false, .int .i64 z, .int .i64 64, .int .i64 tt] 58))
  have X0 := Lib.hid (HX.out.alloc (.cells #[.bool xn, .slice a1 k1 c1, .int .i64 xe, .bool yn, .slice a2 k2 c2, .int .i64 ye, .int .u64 1, .bool false, .int .i64 z, .int .i64 64, .int .i64 tt] 58))
  have Y0 := Lib.hid (HY.out.alloc (.cells #[.bool xn, .slice a1 k1 c1, .int .i64 xe, .bool yn, .slice a2 k2 c2, .int .i64 ye, .int .u64 1, .bool false, .int .i64 z, .int .i64 64, .int .i64 tt] 58))
  clear HX HY HU
  go_upto_region 1 with (fail)
  generalize World.alloc _ _ = w0 at F0 U0 X0 Y0 ⊢
  have c0_0 := F0.out.c11 0 rfl
  go_wp2_with fail
  clear c0_0
  refine (CR.out _ _ U0.out).mono ?_
  rintro q w1 ⟨rfl, hb⟩
  have F1 := Lib.hid (F0.out.call hb)
  have U1 := Lib.hid (U0.out.below hb)
  have X1 := Lib.hid (X0.out.below hb)
  have Y1 := Lib.hid (Y0.out.below hb)
  clear F0 U0 X0 Y0
  clear hb
  have c0_1 := F1.out.c11 0 rfl
  clear U1
  go_upto_region 3 with (fail)
  clear c0_1
  have FCD := Lib.hid (((F1.out.drew).c11 0 rfl).1)
  go_region_held3 (fun w' => (w'.cell? ⟨w.heap.size, 0, none⟩ = some (.bool xn) ∧ w'.cell? ⟨w.heap.size, 1, none⟩ = some (.slice a1 k1 c1) ∧ w'.cell? ⟨w.heap.size, 2, none⟩ = some (.int .i64 xe) ∧ w'.cell? ⟨w.heap.size, 3, none⟩ = some (.bool yn) ∧ w'.cell? ⟨w.heap.size, 4, none⟩ = some (.slice a2 k2 c2) ∧ w'.cell? ⟨w.heap.size, 5, none⟩ = some (.int .i64 ye) ∧ w'.cell? ⟨w.heap.size, 6, none⟩ = some (.int .u64 1) ∧ w'.cell? ⟨w.heap.size, 7, none⟩ = some (.bool false) ∧ w'.cell? ⟨w.heap.size, 8, none⟩ = some (.int .i64 z) ∧ w'.cell? ⟨w.heap.size, 9, none⟩ = some (.int .i64 64) ∧ w'.cell? ⟨w.heap.size, 10, none⟩ = some (.int .i64 tt))) (first | with_reducible exact FCD.out | with_reducible exact FC.out) (first | (go_at_call 17; (with_reducible refine (C3.out _ _ _ X3.out O3.out).mono ?_); rintro q ww4 ⟨rfl, hb⟩; have F4 := Lib.hid (F3.out.call hb); have X4 := Lib.hid (X3.out.below hb); have Y4 := Lib.hid (Y3.out.below hb); have O4 := Lib.hid (O3.out.below hb); have FC := Lib.hid ((F4.out.c11 0 rfl).1); have c0_4 := F4.out.c11 0 rfl; clear hb) | (go_at_call 18; (with_reducible refine (C2.out _ X2.out.tab).mono ?_); rintro q ww3 ⟨u1, rfl, hu, hb⟩; have F3 := Lib.hid (F2.out.call hb); have X3 := Lib.hid (X2.out.below hb); have Y3 := Lib.hid (Y2.out.below hb); have O3 := Lib.hid (hu); obtain ⟨b1, f1, d1, rfl⟩ := O3.out.fm; have FC := Lib.hid ((F3.out.c11 0 rfl).1); have c0_3 := F3.out.c11 0 rfl; clear hb) | (go_at_call 19; (with_reducible refine (C1.out _ _ (Y1.out.drew)).mono ?_); rintro q ww2 ⟨rfl, hb⟩; have F2 := Lib.hid ((F1.out.drew).call hb); have X2 := Lib.hid ((X1.out.drew).below hb); have Y2 := Lib.hid ((Y1.out.drew).below hb); have FC := Lib.hid ((F2.out.c11 0 rfl).1); have c0_2 := F2.out.c11 0 rfl; clear hb))
  go_wp2
  go_ret
  exact ⟨rfl, F4.out.b⟩


end Go.Proofs.YtobpioceopfkpaaGreatDoor

/-
  core: lowest, of what is divided by 1. Printed by gen_rb.py.
-/
namespace Go.Proofs.YtobpioceopfkpaaGreatDoor
open Go.RowKit

abbrev Lc (w : World) (b o m : Nat) : Prop := w.cell? ⟨b, o, none⟩ = some (.int .u64 (m : Int))
theorem Lc.below {w w' : World} {b o m : Nat} (h : Lc w b o m) (hb : Below w.heap.size w w') : Lc w' b o m := cell_below hb (Nat.le_refl _) h
theorem Lc.drew {w : World} {b o m : Nat} (h : Lc w b o m) : Lc w.drew b o m := h
def Yk (w : World) (v : Value) (y : Dn) : Prop := ∃ a k c, v = .agg #[.bool y.neg, .slice a k c, .int .i64 y.e, .int .u64 1] ∧ Cy w (.agg #[.bool y.neg, .slice a k c, .int .i64 y.e]) y
theorem Yk.below {w w' : World} {v : Value} {y : Dn} (h : Yk w v y) (hb : Below w.heap.size w w') : Yk w' v y := by
  obtain ⟨a, k, c, h1, h2⟩ := h; exact ⟨a, k, c, h1, h2.below hb⟩
theorem Yk.fm {w : World} {v : Value} {n : Bool} {m : Nat} {e : Int} (h : Yk w v ⟨n, m, e⟩) : ∃ a k c, v = .agg #[.bool n, .slice a k c, .int .i64 e, .int .u64 1] ∧ Cy w (.agg #[.bool n, .slice a k c, .int .i64 e]) ⟨n, m, e⟩ := h
theorem Kp.same {w : World} {g i : Nat} {t : TypeId} {cs : Array Value} {x : Value} (h : Blk w g t cs) (hx : cs[i]? = some x) : Kp w (w.setCell ⟨g, i, none⟩ x) := by
  intro b o k z hk hc
  by_cases he : (⟨b, o, none⟩ : Addr) = ⟨g, i, none⟩
  · injection he with e1 e2
    subst e1 e2
    have h1 := h.at o x hx
    rw [hc] at h1
    have := Option.some.inj h1
    subst this
    have h2 := (h.set o (.int k z)).at o (.int k z) (by
      have hl : o < cs.size := (Array.getElem?_eq_some_iff.1 hx).1
      simp [hl])
    exact h2
  · rw [World.cell?_setCell_other _ _ _ _ (fun h => he h.symm)]; exact hc

theorem Kp.setnl {w : World} {g i : Nat} {t : TypeId} {cs : Array Value} {x : Value} (h : Blk w g t cs) (hx : cs[i]? = some x) (hn : nlB x = true) (u : Value) : Kp w (w.setCell ⟨g, i, none⟩ u) := Kp.set h hx (nl_of hn) u
theorem Kp.s4same {w : World} {g : Nat} {t : TypeId} {x0 x1 x2 x3 : Value} (h : Blk w g t #[x0, x1, x2, x3]) (h0 : nlB x0 = true) (h1 : nlB x1 = true) (h2 : nlB x2 = true) {y : Value} (hy : x3 = y) {a b c : Value} :
    Kp w ((((w.setCell ⟨g, 0, none⟩ a).setCell ⟨g, 1, none⟩ b).setCell ⟨g, 2, none⟩ c).setCell ⟨g, 3, none⟩ y) := by
  subst hy
  have k1 := h.set 0 a
  have k2 := k1.set 1 b
  have k3 := k2.set 2 c
  exact (((Kp.setnl (i := 0) h rfl h0 a).trans (Kp.setnl (i := 1) (x := x1) k1 rfl h1 b)).trans (Kp.setnl (i := 2) (x := x2) k2 rfl h2 c)).trans (Kp.same (i := 3) k3 rfl)

set_option maxRecDepth 100000 in
set_option maxHeartbeats 4000000 in
theorem lowest_r {w : World} {u : Value} {y : Dn} (hu : Yk w u y) (sd : Sd y) (h0 : y.m ≠ 0) (hb : bl (bareN y).m ≤ 60) : Calls Tryz.prog 114 #[u] w fun e w' => ∃ r, e = .returned r ∧ Yk w' r (bareN y) ∧ Below w.heap.size w w' := by
  have CA := Lib.hid (fun w u (h : Cy w u y) => Bare_s h.ry sd)
  have bd := sd.bare
  have hm0 : (bareN y).m ≠ 0 := fun h => h0 (bareN_m0.1 h)
  obtain ⟨a1, k1, c1, rfl, hx⟩ := hu
  have HT := Lib.hid hx.tab
  generalize bareN y = D at *
  obtain ⟨n, m, e⟩ := D
  simp only at hm0 hb bd
  have hs : signN ⟨n, m, e⟩ ≠ 0 := by unfold signN; rw [if_neg hm0]; show (if n = true then (-1 : Int) else 1) ≠ 0; cases n <;> decide
  have CS := Lib.hid (fun w u (h : Cy w u ⟨n, m, e⟩) => Sign_d h.ry)
  generalize signN ⟨n, m, e⟩ = sg at *
  have z1 : (sg == 0) = false := beq_eq_false_iff_ne.2 hs
  have hm64 : m < 18446744073709551616 := Nat.lt_of_lt_of_le (lt_bl m) (Nat.le_trans (Nat.pow_le_pow_right (by decide) (show bl m ≤ 64 by omega)) (by decide))
  have CD : Hid (∀ w, Calls Tryz.prog 148 #[.int .u64 0, .int .u64 (m : Int), .int .u64 1] w fun e w' => e = .returned (.tuple #[.int .u64 (m : Int), .int .u64 0]) ∧ Below w.heap.size w w') := by
    intro w
    have h := div64 0 m 1 (by decide) (by decide) hm64 w
    simpa [Nat.mod_one] using h
  have HX := Lib.hid hx
  have HM := Lib.hid hm0
  have HM64 := Lib.hid hm64
  have HB := Lib.hid hb
  have BD := Lib.hid bd
  clear hx sd h0 hb bd hm0 hs hm64
  go_enter Tryz.func114, Tryz.ntmps114
  have F0 := Lib.hid (Fz.two w 56 #[.bool y.neg, .slice a1 k1 c1, .int .i64 y.e, .int .u64 1] 56 #[.bool false, .slice none 0 0, .int .i64 0, .int .u64 0])
  have X0 := Lib.hid ((HX.out.alloc (.cells #[.bool y.neg, .slice a1 k1 c1, .int .i64 y.e, .int .u64 1] 56)).alloc (.cells #[.bool false, .slice none 0 0, .int .i64 0, .int .u64 0] 56))
  clear HX
  go_upto_region 1 with (fail)
  generalize World.alloc (World.alloc _ _) _ = w0 at F0 X0 ⊢
  have c0_0 := F0.out.c4 0 rfl
  have c1_0 := F0.out.c4 1 rfl
  go_wp2_with fail
  clear c0_0 c1_0
  refine (CA.out _ _ X0.out).mono ?_
  rintro q w1 ⟨u, rfl, hu, hb⟩
  have F1 := Lib.hid (F0.out.call hb)
  have X1 := Lib.hid (X0.out.below hb)
  clear F0 X0
  have U1 := Lib.hid (hu)
  clear hb
  have c0_1 := F1.out.c4 0 rfl
  have c1_1 := F1.out.c4 1 rfl
  clear X1
  obtain ⟨a3, k3, c3, rfl⟩ := U1.out.fm
  go_upto_region 2 with (fail)
  clear c0_1 c1_1
  have F2 := Lib.hid (F1.out.new 42 #[.bool n, .slice a3 k3 c3, .int .i64 e])
  have U2 := Lib.hid (U1.out.alloc (.cells #[.bool n, .slice a3 k3 c3, .int .i64 e] 42))
  clear F1 U1
  obtain ⟨g1, hg1⟩ : ∃ g, g = (World.heap w1).size := ⟨_, rfl⟩
  rw [← hg1] at F2 ⊢
  clear hg1
  simp only [List.nil_append, List.cons_append] at F2
  generalize World.alloc w1 _ = W2 at F2 U2 ⊢
  have c0_2 := F2.out.c4 0 rfl
  have c1_2 := F2.out.c4 1 rfl
  have c2_2 := F2.out.c3 2 rfl
  go_wp2_with fail
  clear c0_2 c1_2 c2_2
  refine (CS.out _ _ U2.out).mono ?_
  rintro q w3 ⟨rfl, hb⟩
  have F3 := Lib.hid (F2.out.call hb)
  have U3 := Lib.hid (U2.out.below hb)
  clear F2 U2
  clear hb
  have c0_3 := F3.out.c4 0 rfl
  have c1_3 := F3.out.c4 1 rfl
  have c2_3 := F3.out.c3 2 rfl
  obtain ⟨rfl, b3, off3, rfl, x1⟩ := U3.out.dm.one HM.out HM64.out
  go_wp2
  have L3 : Hid (Lc _ b3 off3 m) := x1
  clear x1
  refine wp_loop_rounds 1 ?_
  rw [rounds_succ]
  go_wp2
  refine wp_loop_rounds 2 ?_
  rw [rounds_succ]
  go_upto_region 11 with (fail)
  clear c0_3 c1_3 c2_3
  have FCD := Lib.hid (And.intro ((F3.out.drew).c3 2 rfl).1 ((L3.out.drew)))
  go_region_held3 (fun w' => (w'.cell? ⟨g1, 0, none⟩ = some (.bool n) ∧ w'.cell? ⟨g1, 1, none⟩ = some (.slice (some ⟨b3, off3, none⟩) 1 c3) ∧ w'.cell? ⟨g1, 2, none⟩ = some (.int .i64 e)) ∧ w'.cell? ⟨b3, off3, none⟩ = some (.int .u64 (m : Int))) (first | with_reducible exact FCD.out | with_reducible exact FC.out) (first | (go_at_call 148; (with_reducible refine (CD.out _).mono ?_); rintro q ww4 ⟨rfl, hb⟩; have F4 := Lib.hid ((F3.out.drew).call hb); have U4 := Lib.hid ((U3.out.drew).below hb); have L4 := Lib.hid ((L3.out.drew).below hb); have FC := Lib.hid (And.intro (F4.out.c3 2 rfl).1 (L4.out)); have c0_4 := F4.out.c4 0 rfl; have c1_4 := F4.out.c4 1 rfl; have c2_4 := F4.out.c3 2 rfl; clear hb))
  go_wp2
  rw [rounds_succ]
  go_wp2
  refine wp_loop_rounds 1 ?_
  rw [rounds_succ]
  go_wp2_with (refine wpList_mk (w0 := ww4) rfl (.tmp 77) 40 rfl ww4.heap.size 22 (.int .u64 0) 8 Tryz.underlying40 Tryz.info22 rfl (by decide) _ _ 1 rfl rfl (by decide) (Below.refl _ _) (Nat.le_refl _) ?_)
  intro wm ho1 hb1 hB1
  clear c0_4 c1_4 c2_4
  have hc0 := (F4.out.call hb1).c3 2 rfl
  have hl0 : wm.cell? ⟨b3, off3, none⟩ = some (.int .u64 (m : Int)) := L4.out.below hb1
  obtain ⟨gN, hgN⟩ : ∃ g, g = (World.heap ww4).size := ⟨_, rfl⟩
  have HGN := Lib.hid hgN
  rw [← hgN] at ho1 ⊢
  have HB1 := Lib.hid hb1
  have HBS := Lib.hid hB1
  clear hgN hb1 hB1
  go_wp2
  refine wp_loop_rounds 2 ?_
  rw [rounds_succ]
  go_wp2_with fail
  refine (CD.out _).mono ?_
  rintro q wq ⟨rfl, hb⟩
  clear hc0 hl0
  have ho2 := Lib.hid (own_below ho1.out hb)
  have hf0 := ho2.out.frozenAt 0
  have hcc : wq.cell? ⟨gN, 0, none⟩ = some (.int .u64 0) := by rw [ho2.out.cellAt 0 (by decide)]; rfl
  have HBX : Hid (Below ww4.heap.size ww4 (wq.setCell ⟨gN, 0, none⟩ (.int .u64 (m : Int)))) := ((HB1.out.trans (hb.mono HBS.out)).setCell (by rw [HGN.out]; exact Nat.le_refl _) _)
  have HOX := Lib.hid (ho2.out.stored 0 (.int .u64 (m : Int))).1
  have hc0 := (F4.out.call (HB1.out.trans (hb.mono HBS.out))).c3 2 rfl
  clear hb
  go_wp2
  rw [rounds_succ]
  go_upto_region 19 with (fail)
  clear hc0 hf0 hcc
  generalize World.setCell _ _ _ = wS at HBX HOX ⊢
  have F5 := Lib.hid (F4.out.call HBX.out)
  have T5 := Lib.hid (HT.out.below F5.out.b)
  have S5 := Lib.hid (raw_rd (Raw.of_own (L := [m]) HOX.out T5.out (by intro x hx; simp at hx; rw [hx]; exact HM64.out)))
  clear F4 U4 L4 HBX HOX HB1 HBS HGN ho1 ho2
  have CBR := Lib.hid (fun w (h : Rd w (.slice (some ⟨gN, 0, none⟩) 1 1) m) => bare_r h)
  have c0_5 := F5.out.c4 0 rfl
  have c1_5 := F5.out.c4 1 rfl
  have c2_5 := F5.out.c3 2 rfl
  clear c0_5 c1_5 c2_5
  have FCD := Lib.hid (((F5.out.drew).c3 2 rfl).1)
  go_region_held3 (fun w' => (w'.cell? ⟨g1, 0, none⟩ = some (.bool n) ∧ w'.cell? ⟨g1, 1, none⟩ = some (.slice (some ⟨b3, off3, none⟩) 1 c3) ∧ w'.cell? ⟨g1, 2, none⟩ = some (.int .i64 e))) (first | with_reducible exact FCD.out | with_reducible exact FC.out | exact ((F6.out.s4 1 rfl (.bool n) (.slice b5 f5 d5) (.int .i64 e) (.int .u64 1)).c3 2 rfl).1) (first | (go_at_call 70; (with_reducible refine (CBR.out _ (S5.out.drew)).mono ?_); rintro q ww6 ⟨u5, rfl, hu, hb⟩; have F6 := Lib.hid ((F5.out.drew).call hb); have S6 := Lib.hid ((S5.out.drew).below hb); have R6 := Lib.hid (hu); obtain ⟨b5, f5, d5, rfl⟩ := R6.out.form; have FC := Lib.hid ((F6.out.c3 2 rfl).1); have c0_6 := F6.out.c4 0 rfl; have c1_6 := F6.out.c4 1 rfl; have c2_6 := F6.out.c3 2 rfl; clear hb))
  go_wp2
  have hw1 : IntKind.u64.wrap 1 = 1 := rfl
  rw [hw1]
  clear hw1
  have f := F6.out.s4 1 rfl (.bool n) (.slice b5 f5 d5) (.int .i64 e) (.int .u64 1)
  have hcy := (Cy.mk (n := n) (e := e) R6.out (by have := HB.out; omega) (by have := BD.out; omega)).setz HT.out f.b (F6.out.box 1 _ _ _ rfl) rfl (fun k _ hk => (((Below.heap_setCell _ _ _ k hk).trans (Below.heap_setCell _ _ _ k hk)).trans (Below.heap_setCell _ _ _ k hk)).trans (Below.heap_setCell _ _ _ k hk))
  generalize World.setCell (World.setCell (World.setCell (World.setCell _ _ _) _ _) _ _) _ _ = W at f hcy ⊢
  have g1' := f.c4 1 rfl
  refine bodyPost_ret (v := .agg #[.bool n, .slice b5 f5 d5, .int .i64 e, .int .u64 1]) (by simp [results, Tryz.results114, go_sem, g1']) rfl ?_
  exact ⟨_, rfl, ⟨_, _, _, rfl, hcy⟩, f.b⟩

end Go.Proofs.YtobpioceopfkpaaGreatDoor

/-
  exact.Of, core.whole, core.Exact: where the exponent is too fine. Printed by gen_rc.py.
-/
namespace Go.Proofs.YtobpioceopfkpaaGreatDoor
open Go.RowKit

theorem Yk.alloc {w : World} {v : Value} {y : Dn} (h : Yk w v y) (o : Obj) : Yk (w.alloc o) v y := by
  obtain ⟨a, k, c, h1, h2⟩ := h; exact ⟨a, k, c, h1, h2.alloc o⟩

set_option maxRecDepth 100000 in
set_option maxHeartbeats 4000000 in
theorem Of_no {w : World} {u : Value} {y : Dn} (hu : Cy w u y) (sd : Sd y) (he : (bareN y).e < -62) : Calls Tryz.prog 115 #[u] w fun e w' => e = .returned (.tuple #[.agg #[.int .i64 0, .int .i64 0], .bool false]) ∧ Below w.heap.size w w' := by
  have CA := Lib.hid (fun w u (h : Cy w u y) => Bare_s h.ry sd)
  obtain ⟨a1, k1, c1, rfl⟩ := hu.form
  have HX := Lib.hid hu
  generalize bareN y = D at *
  obtain ⟨n, m, e⟩ := D
  simp only at he
  have z1 : decide (e < -62) = true := decide_eq_true he
  clear hu sd he
  go_enter Tryz.func115, Tryz.ntmps115
  have F0 := Lib.hid (Fx.two w 42 #[.bool y.neg, .slice a1 k1 c1, .int .i64 y.e] 133 #[.int .i64 0, .int .i64 0] rfl rfl)
  have X0 := Lib.hid ((HX.out.alloc (.cells #[.bool y.neg, .slice a1 k1 c1, .int .i64 y.e] 42)).alloc (.cells #[.int .i64 0, .int .i64 0] 133))
  clear HX
  go_upto_region 1 with (fail)
  generalize World.alloc (World.alloc _ _) _ = w0 at F0 X0 ⊢
  have c0_0 := F0.out.c3 0 rfl
  have c1_0 := F0.out.c2 1 rfl
  go_wp2_with fail
  clear c0_0 c1_0
  refine (CA.out _ _ X0.out).mono ?_
  rintro q w1 ⟨u, rfl, hu, hb⟩
  have F1 := Lib.hid (F0.out.call hb)
  have X1 := Lib.hid (X0.out.below hb)
  clear F0 X0
  have U1 := Lib.hid (hu)
  clear hb
  have c0_1 := F1.out.c3 0 rfl
  have c1_1 := F1.out.c2 1 rfl
  clear X1
  obtain ⟨a3, k3, c3, rfl⟩ := U1.out.fm
  go_upto_region 2 with (fail)
  clear c0_1 c1_1
  obtain ⟨f, p⟩ := F1.out.s3 0 rfl (.bool n) (.slice a3 k3 c3) (.int .i64 e) rfl rfl rfl
  generalize (World.setCell (World.setCell (World.setCell _ _ _) _ _) _ _) = W at f p ⊢
  have F2 := Lib.hid (f)
  have U2 := Lib.hid (U1.out.kp p)
  clear F1 U1
  clear f p
  simp only [List.set_cons_zero] at F2
  have c0_2 := F2.out.c3 0 rfl
  have c1_2 := F2.out.c2 1 rfl
  go_wp2
  obtain ⟨f0, p0⟩ := F2.out.s2 1 rfl (.int .i64 0) (.int .i64 0) rfl rfl
  have p := p0
  have f := f0
  clear f0 p0
  generalize (World.setCell (World.setCell _ _ _) _ _) = W at f p ⊢
  have g1 := f.c2 1 rfl
  refine bodyPost_ret (v := .tuple #[.agg #[.int .i64 0, .int .i64 0], .bool false]) (by simp [results, Tryz.results115, go_sem, g1]) rfl ?_
  exact ⟨rfl, f.b⟩

set_option maxRecDepth 100000 in
set_option maxHeartbeats 4000000 in
theorem whole_no {w : World} {u : Value} {y : Dn} (hu : Yk w u y) (sd : Sd y) (h0 : y.m ≠ 0) (hb : bl (bareN y).m ≤ 60) (sd2 : Sd (bareN y)) (he : (bareN (bareN y)).e < -62) : Calls Tryz.prog 80 #[u] w fun e w' => e = .returned (.tuple #[.agg #[.int .i64 0, .int .i64 0], .bool false]) ∧ Below w.heap.size w w' := by
  have CL := Lib.hid (fun w (h : Yk w u y) => lowest_r h sd h0 hb)
  have CO := Lib.hid (fun w u (h : Cy w u (bareN y)) => Of_no h sd2 he)
  obtain ⟨a1, k1, c1, rfl, hx⟩ := hu
  have HX := Lib.hid (show Yk w (.agg #[.bool y.neg, .slice a1 k1 c1, .int .i64 y.e, .int .u64 1]) y from ⟨_, _, _, rfl, hx⟩)
  generalize bareN y = D at *
  obtain ⟨n, m, e⟩ := D
  clear hx sd h0 hb sd2 he
  go_enter Tryz.func80, Tryz.ntmps80
  have F0 := Lib.hid (Fz.two w 56 #[.bool y.neg, .slice a1 k1 c1, .int .i64 y.e, .int .u64 1] 133 #[.int .i64 0, .int .i64 0])
  have X0 := Lib.hid ((HX.out.alloc (.cells #[.bool y.neg, .slice a1 k1 c1, .int .i64 y.e, .int .u64 1] 56)).alloc (.cells #[.int .i64 0, .int .i64 0] 133))
  clear HX
  go_upto_region 1 with (fail)
  generalize World.alloc (World.alloc _ _) _ = w0 at F0 X0 ⊢
  have c0_0 := F0.out.c4 0 rfl
  have c1_0 := F0.out.c2 1 rfl
  go_wp2_with fail
  clear c0_0 c1_0
  refine (CL.out _ X0.out).mono ?_
  rintro q w1 ⟨u, rfl, hu, hb⟩
  have F1 := Lib.hid (F0.out.call hb)
  have X1 := Lib.hid (X0.out.below hb)
  clear F0 X0
  have U1 := Lib.hid (hu)
  clear hb
  have c0_1 := F1.out.c4 0 rfl
  have c1_1 := F1.out.c2 1 rfl
  clear X1
  obtain ⟨a3, k3, c3, rfl, hcy⟩ := U1.out.fm
  clear U1
  have V1 := Lib.hid hcy
  clear hcy
  go_upto_region 2 with (fail)
  clear c0_1 c1_1
  have f := F1.out.s4 0 rfl (.bool n) (.slice a3 k3 c3) (.int .i64 e) (.int .u64 1)
  have hkp := Kp.s4same (F1.out.box 0 _ _ _ rfl) rfl rfl rfl rfl (a := .bool n) (b := .slice a3 k3 c3) (c := .int .i64 e)
  generalize World.setCell (World.setCell (World.setCell (World.setCell _ _ _) _ _) _ _) _ _ = W at f hkp ⊢
  have F2 := Lib.hid f
  have V2 := Lib.hid (V1.out.kp hkp)
  clear F1 V1 f hkp
  simp only [List.set_cons_zero] at F2
  have c0_2 := F2.out.c4 0 rfl
  have c1_2 := F2.out.c2 1 rfl
  go_wp2_with fail
  clear c0_2 c1_2
  refine (CO.out _ _ V2.out).mono ?_
  rintro q w3 ⟨rfl, hb⟩
  have F3 := Lib.hid (F2.out.call hb)
  have V3 := Lib.hid (V2.out.below hb)
  clear F2 V2
  clear hb
  have c0_3 := F3.out.c4 0 rfl
  have c1_3 := F3.out.c2 1 rfl
  clear V3
  go_upto_region 3 with (fail)
  clear c0_3 c1_3
  have F4 := Lib.hid (F3.out.new 133 #[.int .i64 0, .int .i64 0])
  obtain ⟨g4, hg4⟩ : ∃ g, g = (World.heap w3).size := ⟨_, rfl⟩
  rw [← hg4] at F4 ⊢
  clear hg4 F3
  simp only [List.nil_append, List.cons_append] at F4
  generalize World.alloc w3 _ = W4 at F4 ⊢
  have c0_4 := F4.out.c4 0 rfl
  have c1_4 := F4.out.c2 1 rfl
  have c2_4 := F4.out.c2 2 rfl
  go_quiet (fail)
  go_wp2
  have f := (F4.out.drewN nq).s2 1 rfl (.int .i64 0) (.int .i64 0)
  generalize World.setCell (World.setCell _ _ _) _ _ = W at f ⊢
  have g1 := f.c2 1 rfl
  refine bodyPost_ret (v := .tuple #[.agg #[.int .i64 0, .int .i64 0], .bool false]) (by simp [results, Tryz.results80, go_sem, g1]) rfl ?_
  exact ⟨rfl, f.b⟩

set_option maxRecDepth 100000 in
set_option maxHeartbeats 4000000 in
theorem Exact_no {w : World} {u : Value} {x y : Dn} {z tt : Int} (hu : Ak w u x y z tt) (ok : AkOk x y z tt) (hs : signA x y ≠ 0) (h0 : y.m ≠ 0) (sd2 : Sd (bareN y)) (he : (bareN (bareN y)).e < -62) :
    Calls Tryz.prog 38 #[u] w fun e w' => e = .returned (.tuple #[.agg #[.bool false, .slice none 0 0, .int .i64 0], .bool false]) ∧ Below w.heap.size w w' := by
  have CR := Lib.hid (fun w u (h : Ak w u x y z tt) => Right_a h ok)
  have CS := Lib.hid (fun w u (h : Ak w u x y z tt) => Sign_a h ok)
  have CW := Lib.hid (fun w u (h : Yk w u y) => whole_no h ok.sy h0 ok.by' sd2 he)
  generalize signA x y = sg at *
  have z1 : (sg == 0) = false := beq_eq_false_iff_ne.2 hs
  have HU := Lib.hid hu
  obtain ⟨a1, k1, c1, a2, k2, c2, rfl, hx, hy⟩ := hu
  obtain ⟨xn, xm, xe⟩ := x
  obtain ⟨yn, ym, ye⟩ := y
  simp only at hx hy
  have HY := Lib.hid (show Yk w (.agg #[.bool yn, .slice a2 k2 c2, .int .i64 ye, .int .u64 1]) ⟨yn, ym, ye⟩ from ⟨_, _, _, rfl, hy⟩)
  clear hx hy ok hs h0 sd2 he
  go_enter Tryz.func38, Tryz.ntmps38
  have F0 := Lib.hid (Fz.two w 58 #[.bool xn, .slice a1 k1 c1, .int .i64 xe, .bool yn, .slice a2 k2 c2, .int .i64 ye, .int .u64 1, .bool false, .int .i64 z, .int .i64 64, .int .i64 tt] 42 #[.bool false, .slice none 0 0, .int .i64 0])
  have X0 := Lib.hid ((HU.out.alloc (.cells #[.bool xn, .slice a1 k1 c1, .int .i64 xe, .bool yn, .slice a2 k2 c2, .int .i64 ye, .int .u64 1, .bool false, .int .i64 z, .int .i64 64, .int .i64 tt] 58)).alloc (.cells #[.bool false, .slice none 0 0, .int .i64 0] 42))
  have Y0 := Lib.hid ((HY.out.alloc (.cells #[.bool xn, .slice a1 k1 c1, .int .i64 xe, .bool yn, .slice a2 k2 c2, .int .i64 ye, .int .u64 1, .bool false, .int .i64 z, .int .i64 64, .int .i64 tt] 58)).alloc (.cells #[.bool false, .slice none 0 0, .int .i64 0] 42))
  clear HU HY
  go_upto_region 1 with (fail)
  generalize World.alloc (World.alloc _ _) _ = w0 at F0 X0 Y0 ⊢
  have c0_0 := F0.out.c11 0 rfl
  have c1_0 := F0.out.c3 1 rfl
  go_wp2_with fail
  clear c0_0 c1_0
  refine (CR.out _ _ X0.out).mono ?_
  rintro q w1 ⟨rfl, hb⟩
  have F1 := Lib.hid (F0.out.call hb)
  have X1 := Lib.hid (X0.out.below hb)
  have Y1 := Lib.hid (Y0.out.below hb)
  clear F0 X0 Y0
  clear hb
  have c0_1 := F1.out.c11 0 rfl
  have c1_1 := F1.out.c3 1 rfl
  go_wp2_with fail
  clear c0_1 c1_1
  refine (CS.out _ _ X1.out).mono ?_
  rintro q w2 ⟨rfl, hb⟩
  have F2 := Lib.hid (F1.out.call hb)
  have X2 := Lib.hid (X1.out.below hb)
  have Y2 := Lib.hid (Y1.out.below hb)
  clear F1 X1 Y1
  clear hb
  have c0_2 := F2.out.c11 0 rfl
  have c1_2 := F2.out.c3 1 rfl
  go_wp2_with fail
  clear c0_2 c1_2
  refine (CW.out _ _ Y2.out).mono ?_
  rintro q w3 ⟨rfl, hb⟩
  have F3 := Lib.hid (F2.out.call hb)
  have X3 := Lib.hid (X2.out.below hb)
  have Y3 := Lib.hid (Y2.out.below hb)
  clear F2 X2 Y2
  clear hb
  have c0_3 := F3.out.c11 0 rfl
  have c1_3 := F3.out.c3 1 rfl
  clear X3 Y3
  go_upto_region 6 with (fail)
  clear c0_3 c1_3
  have F4 := Lib.hid (F3.out.new 133 #[.int .i64 0, .int .i64 0])
  obtain ⟨g4, hg4⟩ : ∃ g, g = (World.heap w3).size := ⟨_, rfl⟩
  rw [← hg4] at F4 ⊢
  clear hg4 F3
  simp only [List.nil_append, List.cons_append] at F4
  generalize World.alloc w3 _ = W4 at F4 ⊢
  have c0_4 := F4.out.c11 0 rfl
  have c1_4 := F4.out.c3 1 rfl
  have c2_4 := F4.out.c2 2 rfl
  go_wp2
  have f := F4.out.s3 1 rfl (.bool false) (.slice none 0 0) (.int .i64 0)
  generalize World.setCell (World.setCell (World.setCell _ _ _) _ _) _ _ = W at f ⊢
  have g1 := f.c3 1 rfl
  refine bodyPost_ret (v := .tuple #[.agg #[.bool false, .slice none 0 0, .int .i64 0], .bool false]) (by simp [results, Tryz.results38, go_sem, g1]) rfl ?_
  exact ⟨rfl, f.b⟩

end Go.Proofs.YtobpioceopfkpaaGreatDoor

/-
  iv: Times. Printed by gen_id.py.
-/
namespace Go.Proofs.YtobpioceopfkpaaGreatDoor
open Go.RowKit


set_option maxRecDepth 100000 in
set_option maxHeartbeats 4000000 in
theorem Times_r {w : World} {u v : Value} {i : In} {d : Dn} (hu : Iv w u i) (hv : Cy w v d) (s1 : Sd i.lo) (s2 : Sd i.hi) (s3 : Sd d) (r1 : CmpD i.lo i.hi ≤ 0) (r2 : CmpD d d ≤ 0) :
    Calls Tryz.prog 130 #[u, v] w fun e w' => ∃ r, e = .returned (.tuple #[r, .int .i64 0]) ∧ Iv w' r (mulI i ⟨d, d⟩) ∧ Below w.heap.size w w' := by
  have CM := Lib.hid (fun w u v (h : Iv w u i) (k : Iv w v ⟨d, d⟩) => IMul_r h k s1 s2 s3 s3 r1 r2)
  have CA := Lib.hid (fun w u (h : Cy w u d) => At_r h)
  generalize mulI i ⟨d, d⟩ = R at *
  obtain ⟨⟨n1, m1, e1⟩, ⟨n2, m2, e2⟩⟩ := i
  obtain ⟨n3, m3, e3⟩ := d
  obtain ⟨⟨rn, rm, re⟩, ⟨rn', rm', re'⟩⟩ := R
  obtain ⟨a1, k1, c1, a2, k2, c2, rfl, x1, x2⟩ := hu.fm
  obtain ⟨a3, k3, c3, rfl⟩ := hv.fm
  have HU := Lib.hid hu
  have HV := Lib.hid hv
  clear hu hv x1 x2 s1 s2 s3 r1 r2
  go_enter Tryz.func130, Tryz.ntmps130
  have F0 := Lib.hid (Fx.three w 92 #[.bool n1, .slice a1 k1 c1, .int .i64 e1, .bool n2, .slice a2 k2 c2, .int .i64 e2] 42 #[.bool n3, .slice a3 k3 c3, .int .i64 e3] 92 #[.bool false, .slice none 0 0, .int .i64 0, .bool false, .slice none 0 0, .int .i64 0] rfl rfl rfl)
  have X0 := Lib.hid (((HU.out.alloc (.cells #[.bool n1, .slice a1 k1 c1, .int .i64 e1, .bool n2, .slice a2 k2 c2, .int .i64 e2] 92)).alloc (.cells #[.bool n3, .slice a3 k3 c3, .int .i64 e3] 42)).alloc (.cells #[.bool false, .slice none 0 0, .int .i64 0, .bool false, .slice none 0 0, .int .i64 0] 92))
  have Y0 := Lib.hid (((HV.out.alloc (.cells #[.bool n1, .slice a1 k1 c1, .int .i64 e1, .bool n2, .slice a2 k2 c2, .int .i64 e2] 92)).alloc (.cells #[.bool n3, .slice a3 k3 c3, .int .i64 e3] 42)).alloc (.cells #[.bool false, .slice none 0 0, .int .i64 0, .bool false, .slice none 0 0, .int .i64 0] 92))
  clear HU HV
  go_upto_region 1 with (fail)
  generalize World.alloc (World.alloc (World.alloc _ _) _) _ = w0 at F0 X0 Y0 ⊢
  have c0_0 := F0.out.c6 0 rfl
  have c1_0 := F0.out.c3 1 rfl
  have c2_0 := F0.out.c6 2 rfl
  clear c0_0 c1_0 c2_0
  have FCD := Lib.hid (And.intro ((F0.out.drew).c6 0 rfl).1 (((F0.out.drew).c3 1 rfl).1))
  go_region_held3 (fun w' => (w'.cell? ⟨w.heap.size, 0, none⟩ = some (.bool n1) ∧ w'.cell? ⟨w.heap.size, 1, none⟩ = some (.slice a1 k1 c1) ∧ w'.cell? ⟨w.heap.size, 2, none⟩ = some (.int .i64 e1) ∧ w'.cell? ⟨w.heap.size, 3, none⟩ = some (.bool n2) ∧ w'.cell? ⟨w.heap.size, 4, none⟩ = some (.slice a2 k2 c2) ∧ w'.cell? ⟨w.heap.size, 5, none⟩ = some (.int .i64 e2)) ∧ (w'.cell? ⟨w.heap.size + 1, 0, none⟩ = some (.bool n3) ∧ w'.cell? ⟨w.heap.size + 1, 1, none⟩ = some (.slice a3 k3 c3) ∧ w'.cell? ⟨w.heap.size + 1, 2, none⟩ = some (.int .i64 e3))) (first | with_reducible exact FCD.out | with_reducible exact FC.out | exact And.intro ((F2.out.s6 2 rfl (.bool rn) (.slice x5 y5 z5) (.int .i64 re) (.bool rn') (.slice x6 y6 z6) (.int .i64 re') rfl rfl rfl rfl rfl rfl).1.c6 0 rfl).1 (((F2.out.s6 2 rfl (.bool rn) (.slice x5 y5 z5) (.int .i64 re) (.bool rn') (.slice x6 y6 z6) (.int .i64 re') rfl rfl rfl rfl rfl rfl).1.c3 1 rfl).1)) (first | (go_at_call 158; (with_reducible refine (CM.out _ _ _ X1.out A1.out).mono ?_); rintro q ww2 ⟨u2, rfl, hu, hb⟩; have F2 := Lib.hid (F1.out.call hb); have X2 := Lib.hid (X1.out.below hb); have Y2 := Lib.hid (Y1.out.below hb); have A2 := Lib.hid (A1.out.below hb); have B2 := Lib.hid (hu); obtain ⟨x5, y5, z5, x6, y6, z6, rfl, h1, h2⟩ := B2.out.fm; clear h1 h2; have FC := Lib.hid (And.intro (F2.out.c6 0 rfl).1 ((F2.out.c3 1 rfl).1)); have c0_2 := F2.out.c6 0 rfl; have c1_2 := F2.out.c3 1 rfl; have c2_2 := F2.out.c6 2 rfl; clear hb) | (go_at_call 159; (with_reducible refine (CA.out _ _ (Y0.out.drew)).mono ?_); rintro q ww1 ⟨u1, rfl, hu, hb⟩; have F1 := Lib.hid ((F0.out.drew).call hb); have X1 := Lib.hid ((X0.out.drew).below hb); have Y1 := Lib.hid ((Y0.out.drew).below hb); have A1 := Lib.hid (hu); obtain ⟨b1, f1, d1, b2, f2, d2, rfl, h1, h2⟩ := A1.out.fm; clear h1 h2; have FC := Lib.hid (And.intro (F1.out.c6 0 rfl).1 ((F1.out.c3 1 rfl).1)); have c0_1 := F1.out.c6 0 rfl; have c1_1 := F1.out.c3 1 rfl; have c2_1 := F1.out.c6 2 rfl; clear hb))
  go_wp2
  obtain ⟨f0, p0⟩ := F2.out.s6 2 rfl (.bool rn) (.slice x5 y5 z5) (.int .i64 re) (.bool rn') (.slice x6 y6 z6) (.int .i64 re') rfl rfl rfl rfl rfl rfl
  have p := p0
  have f := f0
  clear f0 p0
  generalize (World.setCell (World.setCell (World.setCell (World.setCell (World.setCell (World.setCell _ _ _) _ _) _ _) _ _) _ _) _ _) = W at f p ⊢
  have g2 := f.c6 2 rfl
  refine bodyPost_ret (v := .tuple #[.agg #[.bool rn, .slice x5 y5 z5, .int .i64 re, .bool rn', .slice x6 y6 z6, .int .i64 re'], .int .i64 0]) (by simp [results, Tryz.results130, go_sem, g2]) rfl ?_
  exact ⟨_, rfl, B2.out.kp p, f.b⟩

end Go.Proofs.YtobpioceopfkpaaGreatDoor
