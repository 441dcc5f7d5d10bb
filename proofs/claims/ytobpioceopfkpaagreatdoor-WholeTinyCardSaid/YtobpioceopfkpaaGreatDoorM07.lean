/-
  dyad: size.
-/
import Derived.Test.YtobpioceopfkpaaGreatDoorM06
import Derived.Deep.RegionHeld3
import Derived.Test.YtobpioceopfkpaaGreatDoorM03
namespace Go.Proofs.YtobpioceopfkpaaGreatDoor
open Go.RowKit

theorem Ry.drew {w : World} {v : Value} {d : Dn} (h : Ry w v d) : Ry w.drew v d := h.drewN 1
theorem Cy.drew {w : World} {v : Value} {d : Dn} (h : Cy w v d) : Cy w.drew v d := h.drewN 1

theorem Fr.st2 {w0 w : World} {t t' : TypeId} {x x' : Bool} {ya ya' : Option Addr} {yn yc yn' yc' : Nat} {z z' : Int} (h : Fr w0 w [(t, #[.bool x, .slice ya yn yc, .int .i64 z]), (t', #[.bool x', .slice ya' yn' yc', .int .i64 z'])]) (a b c a' b' c' : Value) :
    Fr w0 ((((((w.setCell ⟨w0.heap.size, 0, none⟩ a).setCell ⟨w0.heap.size, 1, none⟩ b).setCell ⟨w0.heap.size, 2, none⟩ c).setCell ⟨w0.heap.size + 1, 0, none⟩ a').setCell ⟨w0.heap.size + 1, 1, none⟩ b').setCell ⟨w0.heap.size + 1, 2, none⟩ c') [(t, #[a, b, c]), (t', #[a', b', c'])] ∧
    Kp w ((((((w.setCell ⟨w0.heap.size, 0, none⟩ a).setCell ⟨w0.heap.size, 1, none⟩ b).setCell ⟨w0.heap.size, 2, none⟩ c).setCell ⟨w0.heap.size + 1, 0, none⟩ a').setCell ⟨w0.heap.size + 1, 1, none⟩ b').setCell ⟨w0.heap.size + 1, 2, none⟩ c') := by
  obtain ⟨f1, k1⟩ := h.st 0 rfl a b c
  obtain ⟨f2, k2⟩ := f1.st 1 rfl a' b' c'
  exact ⟨f2, k1.trans k2⟩

/-- both, bare -/
def SzI (w wx : World) (A B : Dn) : Prop := ∃ a k c a' k' c', Fr w wx [(42, #[.bool A.neg, .slice a k c, .int .i64 A.e]), (42, #[.bool B.neg, .slice a' k' c', .int .i64 B.e])] ∧ Dg wx (.slice a k c) A.m ∧ Dg wx (.slice a' k' c') B.m

theorem Cy.dg {w : World} {n : Bool} {a : Option Addr} {k c : Nat} {e : Int} {d : Dn} (h : Cy w (.agg #[.bool n, .slice a k c, .int .i64 e]) d) : Dg w (.slice a k c) d.m := by
  obtain ⟨s, he, hs, _⟩ := h
  simp at he
  obtain ⟨_, rfl, _⟩ := he
  exact hs
theorem SzI.mk {w v : World} {A B : Dn} {x x' : Bool} {ya ya' : Option Addr} {yn yc yn' yc' : Nat} {z z' : Int} (h : Fr w v [(42, #[.bool x, .slice ya yn yc, .int .i64 z]), (42, #[.bool x', .slice ya' yn' yc', .int .i64 z'])])
    {a a' : Option Addr} {k c k' c' : Nat} (g1 : Cy v (.agg #[.bool A.neg, .slice a k c, .int .i64 A.e]) A) (g2 : Cy v (.agg #[.bool B.neg, .slice a' k' c', .int .i64 B.e]) B) :
    Hid (SzI w ((((((v.setCell ⟨w.heap.size, 0, none⟩ (.bool A.neg)).setCell ⟨w.heap.size, 1, none⟩ (.slice a k c)).setCell ⟨w.heap.size, 2, none⟩ (.int .i64 A.e)).setCell ⟨w.heap.size + 1, 0, none⟩ (.bool B.neg)).setCell ⟨w.heap.size + 1, 1, none⟩ (.slice a' k' c')).setCell ⟨w.heap.size + 1, 2, none⟩ (.int .i64 B.e)) A B) := by
  obtain ⟨f, p⟩ := h.st2 (.bool A.neg) (.slice a k c) (.int .i64 A.e) (.bool B.neg) (.slice a' k' c') (.int .i64 B.e)
  exact ⟨_, _, _, _, _, _, f, g1.dg.kp p, g2.dg.kp p⟩

def sizeB (A B : Dn) : Int :=
  if (bl A.m : Int) + A.e = (bl B.m : Int) + B.e then cmpN (widN A.m (-((bl A.m : Int) - bl B.m))) (widN B.m ((bl A.m : Int) - bl B.m)) else cmpI ((bl A.m : Int) + A.e) ((bl B.m : Int) + B.e)
def sizeN (a b : Dn) : Int := sizeB (bareN a) (bareN b)

theorem bareN_ok {d : Dn} (h : bl d.m ≤ 255000) : bl (bareN d).m ≤ 255000 ∧ -4000000000 ≤ (bareN d).e ∧ (bareN d).e ≤ 4000000000 := by
  by_cases h0 : d.m = 0
  · rw [bareN_zero h0]; simp [bl]
  · have := lo_le_bl h0
    have := cutN_le d.e
    have : d.m / 2 ^ lo d.m ≤ d.m := Nat.div_le_self _ _
    have := bl_mono this
    rw [bareN_pos h0]
    simp only; omega
theorem Ry.bl {w : World} {v : Value} {d : Dn} (h : Ry w v d) : bl d.m ≤ 255000 := by obtain ⟨_, _, _, h, _⟩ := h; exact h

set_option maxRecDepth 100000 in
set_option maxHeartbeats 4000000 in
theorem size_d {w : World} {u v : Value} {a b : Dn} (ha : Ry w u a) (hb : Ry w v b) : Calls Tryz.prog 34 #[u, v] w fun e w' => e = .returned (.int .i64 (sizeN a b)) ∧ Below w.heap.size w w' := by
  have CA := Lib.hid (fun w (h : Ry w u a) => bare_d h)
  have CB := Lib.hid (fun w (h : Ry w v b) => bare_d h)
  have HA := Lib.hid ha
  have HB := Lib.hid hb
  obtain ⟨a1, k1, c1, rfl⟩ := ha.form
  obtain ⟨a2, k2, c2, rfl⟩ := hb.form
  have BA := Lib.hid (bareN_ok ha.bl)
  have BB := Lib.hid (bareN_ok hb.bl)
  have HN : sizeN a b = sizeB (bareN a) (bareN b) := rfl
  rw [HN]
  generalize bareN a = A at *
  generalize bareN b = B at *
  clear ha hb HN
  have HSZ : Hid (sizeB A B = if (bl A.m : Int) + A.e = (bl B.m : Int) + B.e then cmpN (widN A.m (-((bl A.m : Int) - bl B.m))) (widN B.m ((bl A.m : Int) - bl B.m)) else cmpI ((bl A.m : Int) + A.e) ((bl B.m : Int) + B.e)) := rfl
  obtain ⟨S, hS⟩ : ∃ S, S = sizeB A B := ⟨_, rfl⟩
  rw [← hS] at HSZ ⊢
  clear hS
  obtain ⟨an, am, ae⟩ := A
  obtain ⟨bn, bm, be⟩ := B
  go_enter Tryz.func34, Tryz.ntmps34
  have F0 := Lib.hid (Fr.two w 42 #[.bool a.neg, .slice a1 k1 c1, .int .i64 a.e] 42 #[.bool b.neg, .slice a2 k2 c2, .int .i64 b.e])
  have HA := Lib.hid ((HA.out.alloc (.cells #[.bool a.neg, .slice a1 k1 c1, .int .i64 a.e] 42)).alloc (.cells #[.bool b.neg, .slice a2 k2 c2, .int .i64 b.e] 42))
  have HB := Lib.hid ((HB.out.alloc (.cells #[.bool a.neg, .slice a1 k1 c1, .int .i64 a.e] 42)).alloc (.cells #[.bool b.neg, .slice a2 k2 c2, .int .i64 b.e] 42))
  go_upto_region 1 with (fail)
  generalize (World.alloc (World.alloc _ _) _) = w1 at F0 HA HB ⊢
  go_cut [] from 8 to 11 (fun wx => Hid (SzI w wx ⟨an, am, ae⟩ ⟨bn, bm, be⟩))
  case first =>
    have D0 := Lib.hid F0.out.drew
    have x0 := F0.out.z3 rfl
    have x1 := F0.out.c3 1 rfl
    have y0 := D0.out.z3 rfl
    have y1 := D0.out.c3 1 rfl
    go_region_with (first | (have RR := D1.out; go_at_call 35; (with_reducible refine (CB.out _ (Ry.below (Ry.drew HB.out) S1.out)).mono ?_); rintro qq v2 ⟨u2, rfl, hu2, hb⟩; obtain ⟨p2, l2, m2, rfl⟩ := hu2.form; have D2 := Lib.hid (RR.call hb); have G1 := Lib.hid (Cy.below U1.out hb); have G2 := Lib.hid hu2; have z0 := D2.out.z3 rfl; have z1 := D2.out.c3 1 rfl; clear hb RR hu2) | (have RR := D0.out; go_at_call 35; (with_reducible refine (CA.out _ (Ry.drew HA.out)).mono ?_); rintro qq v1 ⟨u1, rfl, hu1, hb⟩; obtain ⟨p1, l1, m1, rfl⟩ := hu1.form; have D1 := Lib.hid (RR.call hb); have U1 := Lib.hid hu1; have S1 := Lib.hid hb; have y2 := D1.out.z3 rfl; have y3 := D1.out.c3 1 rfl; clear hb RR hu1))
    all_goals go_wp2_with fail
    all_goals go_meet
    all_goals exact SzI.mk (A := ⟨an, am, ae⟩) (B := ⟨bn, bm, be⟩) D2.out G1.out G2.out
  case rest =>
    obtain ⟨p1, l1, m1, p2, l2, m2, hF, hA, hB⟩ := hcut.out
    have bA := BA.out
    have bB := BB.out
    have F0 := Lib.hid hF
    have RA0 := Lib.hid (hA.rd (by omega))
    have RB0 := Lib.hid (hB.rd (by omega))
    have DA0 := Lib.hid hA
    have DB0 := Lib.hid hB
    simp only at bA bB F0 RA0 RB0 DA0 DB0 HSZ
    have WA := Lib.hid (fun w (h : Dg w (.slice p1 l1 m1) am) n hn => wid_r h bA.1 n hn)
    have WB := Lib.hid (fun w (h : Dg w (.slice p2 l2 m2) bm) n hn => wid_r h bB.1 n hn)
    have BTA := Lib.hid (fun w (h : Rd w (.slice p1 l1 m1) am) => bits_r h)
    have BTB := Lib.hid (fun w (h : Rd w (.slice p2 l2 m2) bm) => bits_r h)
    have CC := Lib.hid (fun w u v m n (h : Rd w u m) (k : Rd w v n) => cmp_r h k)
    generalize hxa : bl am = xa at *
    generalize hxb : bl bm = xb at *
    have x0 := hF.z3 rfl
    have x1 := hF.c3 1 rfl
    have q1 : IntKind.i64.wrap ((xa : Int) + ae) = (xa : Int) + ae := IntWalk.i64_in _ (by omega)
    have q2 : IntKind.i64.wrap ((xb : Int) + be) = (xb : Int) + be := IntWalk.i64_in _ (by omega)
    obtain ⟨n, hn⟩ : ∃ n, n = (xa : Int) - xb := ⟨_, rfl⟩
    obtain ⟨nn, hnn⟩ : ∃ nn, nn = -n := ⟨_, rfl⟩
    have q3 : IntKind.i64.wrap ((xa : Int) - xb) = n := by rw [IntWalk.i64_in _ (by omega)]; exact hn.symm
    have q4 : IntKind.i64.wrap (-n) = nn := by rw [IntWalk.i64_in _ (by omega)]; omega
    have WA := Lib.hid (fun w h => WA.out w h nn (by omega))
    have WB := Lib.hid (fun w h => WB.out w h n (by omega))
    rw [← hn, ← hnn] at HSZ
    clear hF hA hB hcut hxa hxb BA BB CA CB HA HB hn hnn
    go_upto_region 2 with (fail)
    go_region_held3 (fun w' => (w'.cell? ⟨w.heap.size, 1, none⟩ = some (.slice p1 l1 m1) ∧ w'.cell? ⟨w.heap.size, 2, none⟩ = some (.int .i64 ae)) ∧ w'.cell? ⟨w.heap.size + 1, 1, none⟩ = some (.slice p2 l2 m2) ∧ w'.cell? ⟨w.heap.size + 1, 2, none⟩ = some (.int .i64 be)) (first | exact ⟨x0.1.2, x1.1.2⟩ | exact FC.out) (first | (go_at_call 36; (with_reducible refine (BTB.out _ RB1.out).mono ?_); rintro q ww2 ⟨rfl, hb⟩; have F2 := Lib.hid (F1.out.call hb); have RA2 := Lib.hid (RA1.out.below hb); have RB2 := Lib.hid (RB1.out.below hb); have DA2 := Lib.hid (DA1.out.below hb); have DB2 := Lib.hid (DB1.out.below hb); have FC := Lib.hid (And.intro (F2.out.z3 rfl).1.2 (F2.out.c3 1 rfl).1.2); clear hb) | (go_at_call 36; (with_reducible refine (BTA.out _ (RA0.out.drew)).mono ?_); rintro q ww1 ⟨rfl, hb⟩; have F1 := Lib.hid ((F0.out.drew).call hb); have RA1 := Lib.hid ((RA0.out.drew).below hb); have RB1 := Lib.hid ((RB0.out.drew).below hb); have DA1 := Lib.hid ((DA0.out.drew).below hb); have DB1 := Lib.hid ((DB0.out.drew).below hb); have FC := Lib.hid (And.intro (F1.out.z3 rfl).1.2 (F1.out.c3 1 rfl).1.2); clear hb))
    clear F0 RA0 RB0 DA0 DB0 F1 RA1 RB1 DA1 DB1
    have x0 := F2.out.z3 rfl
    have x1 := F2.out.c3 1 rfl
    by_cases hx : (xa : Int) + ae = (xb : Int) + be
    · have HE : Hid (S = cmpN (widN am nn) (widN bm n)) := HSZ.out.trans (if_pos hx)
      have t1 : ((xa : Int) + ae == (xb : Int) + be) = true := beq_iff_eq.2 hx
      clear hx HSZ
      go_upto_region 5 with (fail)
      go_region_held3 (fun w' => (w'.cell? ⟨w.heap.size, 1, none⟩ = some (.slice p1 l1 m1) ∧ w'.cell? ⟨w.heap.size, 2, none⟩ = some (.int .i64 ae)) ∧ w'.cell? ⟨w.heap.size + 1, 1, none⟩ = some (.slice p2 l2 m2) ∧ w'.cell? ⟨w.heap.size + 1, 2, none⟩ = some (.int .i64 be)) (first | exact ⟨x0.1.2, x1.1.2⟩ | exact FC.out) (first | (go_at_call 36; (with_reducible refine (BTB.out _ RB3.out).mono ?_); rintro q ww4 ⟨rfl, hb⟩; have F4 := Lib.hid (F3.out.call hb); have RA4 := Lib.hid (RA3.out.below hb); have RB4 := Lib.hid (RB3.out.below hb); have DA4 := Lib.hid (DA3.out.below hb); have DB4 := Lib.hid (DB3.out.below hb); have FC := Lib.hid (And.intro (F4.out.z3 rfl).1.2 (F4.out.c3 1 rfl).1.2); clear hb) | (go_at_call 36; (with_reducible refine (BTA.out _ (RA2.out.drew)).mono ?_); rintro q ww3 ⟨rfl, hb⟩; have F3 := Lib.hid ((F2.out.drew).call hb); have RA3 := Lib.hid ((RA2.out.drew).below hb); have RB3 := Lib.hid ((RB2.out.drew).below hb); have DA3 := Lib.hid ((DA2.out.drew).below hb); have DB3 := Lib.hid ((DB2.out.drew).below hb); have FC := Lib.hid (And.intro (F3.out.z3 rfl).1.2 (F3.out.c3 1 rfl).1.2); clear hb))
      clear F2 RA2 RB2 DA2 DB2 F3 RA3 RB3 DA3 DB3
      have x0 := F4.out.z3 rfl
      have x1 := F4.out.c3 1 rfl
      go_wp2_with fail
      go_region_held3 (fun w' => (w'.cell? ⟨w.heap.size, 1, none⟩ = some (.slice p1 l1 m1) ∧ w'.cell? ⟨w.heap.size, 2, none⟩ = some (.int .i64 ae)) ∧ w'.cell? ⟨w.heap.size + 1, 1, none⟩ = some (.slice p2 l2 m2) ∧ w'.cell? ⟨w.heap.size + 1, 2, none⟩ = some (.int .i64 be)) (first | exact ⟨x0.1.2, x1.1.2⟩ | exact FC.out) (first | (go_at_call 73; (with_reducible refine (CC.out _ _ _ _ _ UA6.out UB6.out).mono ?_); rintro q ww7 ⟨rfl, hb⟩; have F7 := Lib.hid (F6.out.call hb); have RA7 := Lib.hid (RA6.out.below hb); have RB7 := Lib.hid (RB6.out.below hb); have DA7 := Lib.hid (DA6.out.below hb); have DB7 := Lib.hid (DB6.out.below hb); have UA7 := Lib.hid (UA6.out.below hb); have UB7 := Lib.hid (UB6.out.below hb); have FC := Lib.hid (And.intro (F7.out.z3 rfl).1.2 (F7.out.c3 1 rfl).1.2); clear hb) | (go_at_call 74; (with_reducible refine (WB.out _ DB5.out).mono ?_); rintro q ww6 ⟨u2, rfl, hu, hb⟩; have F6 := Lib.hid (F5.out.call hb); have RA6 := Lib.hid (RA5.out.below hb); have RB6 := Lib.hid (RB5.out.below hb); have DA6 := Lib.hid (DA5.out.below hb); have DB6 := Lib.hid (DB5.out.below hb); have UA6 := Lib.hid (UA5.out.below hb); have UB6 := Lib.hid (hu); have FC := Lib.hid (And.intro (F6.out.z3 rfl).1.2 (F6.out.c3 1 rfl).1.2); clear hb) | (go_at_call 74; (with_reducible refine (WA.out _ (DA4.out.drew)).mono ?_); rintro q ww5 ⟨u, rfl, hu, hb⟩; have F5 := Lib.hid ((F4.out.drew).call hb); have RA5 := Lib.hid ((RA4.out.drew).below hb); have RB5 := Lib.hid ((RB4.out.drew).below hb); have DA5 := Lib.hid ((DA4.out.drew).below hb); have DB5 := Lib.hid ((DB4.out.drew).below hb); have UA5 := Lib.hid (hu); have FC := Lib.hid (And.intro (F5.out.z3 rfl).1.2 (F5.out.c3 1 rfl).1.2); clear hb))
      go_wp2
      go_ret
      exact ⟨by rw [HE.out]; rfl, F7.out.b⟩
    · have HE : Hid (S = cmpI ((xa : Int) + ae) ((xb : Int) + be)) := HSZ.out.trans (if_neg hx)
      have t1 : ((xa : Int) + ae == (xb : Int) + be) = false := beq_eq_false_iff_ne.2 hx
      clear hx HSZ
      go_wp2_with fail
      refine (cmp_int _ _ _).mono ?_
      rintro q w3 ⟨rfl, rfl⟩
      go_wp2
      go_ret
      exact ⟨by rw [HE.out]; rfl, F2.out.b⟩

end Go.Proofs.YtobpioceopfkpaaGreatDoor

/-
  dyad: Cmp. Printed by gen_de.py.
-/
namespace Go.Proofs.YtobpioceopfkpaaGreatDoor
open Go.RowKit

theorem cmpI_le (x y : Int) : -1 ≤ cmpI x y ∧ cmpI x y ≤ 1 := by unfold cmpI; split <;> (try split) <;> omega
theorem cmpN_le (x y : Nat) : -1 ≤ cmpN x y ∧ cmpN x y ≤ 1 := by unfold cmpN; split <;> (try split) <;> omega
theorem sizeN_le (a b : Dn) : -1 ≤ sizeN a b ∧ sizeN a b ≤ 1 := by
  unfold sizeN sizeB; split
  · exact cmpN_le _ _
  · exact cmpI_le _ _
theorem signN_le (a : Dn) : -1 ≤ signN a ∧ signN a ≤ 1 := by unfold signN; split <;> (try split) <;> omega
def CmpD (a b : Dn) : Int := if signN a ≠ signN b ∨ signN a = 0 then cmpI (signN a) (signN b) else signN a * sizeN a b

set_option maxRecDepth 100000 in
set_option maxHeartbeats 4000000 in
theorem Cmp_d {w : World} {u v : Value} {a b : Dn} (ha : Ry w u a) (hb : Ry w v b) : Calls Tryz.prog 17 #[u, v] w fun e w' => e = .returned (.int .i64 (CmpD a b)) ∧ Below w.heap.size w w' := by
  have CA := Lib.hid (fun w (h : Ry w u a) => Sign_d h)
  have CB := Lib.hid (fun w (h : Ry w v b) => Sign_d h)
  have CS := Lib.hid (fun w (h : Ry w u a) (k : Ry w v b) => size_d h k)
  have HA := Lib.hid ha
  have HB := Lib.hid hb
  obtain ⟨a1, k1, c1, rfl⟩ := ha.form
  obtain ⟨a2, k2, c2, rfl⟩ := hb.form
  have HSZ : Hid (CmpD a b = if signN a ≠ signN b ∨ signN a = 0 then cmpI (signN a) (signN b) else signN a * sizeN a b) := rfl
  have s1 := signN_le a
  have s2 := signN_le b
  have s3 := sizeN_le a b
  generalize CmpD a b = C at *
  generalize signN a = x at *
  generalize signN b = y at *
  generalize sizeN a b = z at *
  obtain ⟨an, am, ae⟩ := a
  obtain ⟨bn, bm, be⟩ := b
  clear ha hb
  go_enter Tryz.func17, Tryz.ntmps17
  have F0 := Lib.hid (Fr.two w 42 #[.bool an, .slice a1 k1 c1, .int .i64 ae] 42 #[.bool bn, .slice a2 k2 c2, .int .i64 be])
  have HA0 := Lib.hid ((HA.out.alloc (.cells #[.bool an, .slice a1 k1 c1, .int .i64 ae] 42)).alloc (.cells #[.bool bn, .slice a2 k2 c2, .int .i64 be] 42))
  have HB0 := Lib.hid ((HB.out.alloc (.cells #[.bool an, .slice a1 k1 c1, .int .i64 ae] 42)).alloc (.cells #[.bool bn, .slice a2 k2 c2, .int .i64 be] 42))
  go_upto_region 1 with (fail)
  generalize (World.alloc (World.alloc _ _) _) = w1 at F0 HA0 HB0 ⊢
  have x0 := F0.out.z3 rfl
  have x1 := F0.out.c3 1 rfl
  go_region_held3 (fun w' => (w'.cell? ⟨w.heap.size, 0, none⟩ = some (.bool an) ∧ w'.cell? ⟨w.heap.size, 1, none⟩ = some (.slice a1 k1 c1) ∧ w'.cell? ⟨w.heap.size, 2, none⟩ = some (.int .i64 ae)) ∧ w'.cell? ⟨w.heap.size + 1, 0, none⟩ = some (.bool bn) ∧ w'.cell? ⟨w.heap.size + 1, 1, none⟩ = some (.slice a2 k2 c2) ∧ w'.cell? ⟨w.heap.size + 1, 2, none⟩ = some (.int .i64 be)) (first | exact ⟨x0.1, x1.1⟩ | exact FC.out) (first | (go_at_call 19; (with_reducible refine (CB.out _ HB1.out).mono ?_); rintro q ww2 ⟨rfl, hb⟩; have F2 := Lib.hid (F1.out.call hb); have HA2 := Lib.hid (HA1.out.below hb); have HB2 := Lib.hid (HB1.out.below hb); have FC := Lib.hid (And.intro (F2.out.z3 rfl).1 (F2.out.c3 1 rfl).1); clear hb) | (go_at_call 19; (with_reducible refine (CA.out _ (HA0.out.drew)).mono ?_); rintro q ww1 ⟨rfl, hb⟩; have F1 := Lib.hid ((F0.out.drew).call hb); have HA1 := Lib.hid ((HA0.out.drew).below hb); have HB1 := Lib.hid ((HB0.out.drew).below hb); have FC := Lib.hid (And.intro (F1.out.z3 rfl).1 (F1.out.c3 1 rfl).1); clear hb))
  clear F0 HA0 HB0 F1 HA1 HB1
  clear x0 x1 HA HB
  have x0 := F2.out.z3 rfl
  have x1 := F2.out.c3 1 rfl
  by_cases hxy : x = y
  · subst hxy
    by_cases h0 : x = 0
    · have HE : Hid (C = cmpI x x) := HSZ.out.trans (if_pos (Or.inr h0))
      subst h0
      go_wp2_with fail
      refine (cmp_int _ _ _).mono ?_
      rintro q w3 ⟨rfl, rfl⟩
      go_wp2
      go_ret
      exact ⟨by rw [HE.out]; rfl, F2.out.b⟩
    · have HE : Hid (C = x * z) := HSZ.out.trans (if_neg (fun h => h.elim (fun h => h rfl) h0))
      have t2 : (x == 0) = false := beq_eq_false_iff_ne.2 h0
      have q1 : IntKind.i64.wrap (x * z) = x * z := IntWalk.i64_in _ (by
        rcases (by omega : x = -1 ∨ x = 1) with h | h <;> subst h <;> omega)
      clear h0
      go_wp2_with fail
      refine (CS.out _ HA2.out HB2.out).mono ?_
      rintro q w3 ⟨rfl, hb⟩
      have F3 := Lib.hid (F2.out.call hb)
      clear hb
      go_wp2
      go_ret
      exact ⟨by rw [HE.out]; rfl, F3.out.b⟩
  · have HE : Hid (C = cmpI x y) := HSZ.out.trans (if_pos (Or.inl hxy))
    have t2 : (x == y) = false := beq_eq_false_iff_ne.2 hxy
    clear hxy
    go_wp2_with fail
    refine (cmp_int _ _ _).mono ?_
    rintro q w3 ⟨rfl, rfl⟩
    go_wp2
    go_ret
    exact ⟨by rw [HE.out]; rfl, F2.out.b⟩

end Go.Proofs.YtobpioceopfkpaaGreatDoor

/-
  A frame's boxes, wherever they lie. Printed by gen_mf.py.
-/
namespace Go.Proofs.YtobpioceopfkpaaGreatDoor
open Go.RowKit

def nlB : Value → Bool
  | .int .u8 _ => false
  | .int .u64 _ => false
  | _ => true
theorem nl_of {u : Value} (h : nlB u = true) : Nl u := by
  intro z
  constructor
  · rintro rfl; cases h
  · rintro rfl; cases h
def nlA (cs : Array Value) : Bool := cs.toList.all nlB
theorem nlA_at {cs : Array Value} (h : nlA cs = true) {k : Nat} {x : Value} (hx : cs[k]? = some x) : nlB x = true := by
  unfold nlA at h
  rw [List.all_eq_true] at h
  apply h
  rw [← Array.getElem?_toList] at hx
  exact List.mem_of_getElem? hx
theorem nlA_set {cs : Array Value} (h : nlA cs = true) (k : Nat) {u : Value} (hu : nlB u = true) : nlA (cs.setIfInBounds k u) = true := by
  unfold nlA at *
  rw [List.all_eq_true] at *
  intro x hx
  rw [Array.toList_setIfInBounds] at hx
  rcases List.mem_or_eq_of_mem_set hx with h1 | h1
  · exact h x h1
  · exact h1 ▸ hu

/-- a frame's boxes: their places ascend -/
structure Fx (w0 w : World) (bs : List (Nat × TypeId × Array Value)) : Prop where
  b : Below w0.heap.size w0 w
  box : ∀ (i g : Nat) t cs, bs[i]? = some (g, t, cs) → Blk w g t cs
  low : ∀ (i g : Nat) t cs, bs[i]? = some (g, t, cs) → w0.heap.size ≤ g
  asc : ∀ (i j g : Nat) t cs (g' : Nat) t' cs', i < j → bs[i]? = some (g, t, cs) → bs[j]? = some (g', t', cs') → g < g'
  nl : ∀ (i g : Nat) t cs, bs[i]? = some (g, t, cs) → nlA cs = true
theorem Fx.nil (w : World) : Fx w w [] := ⟨Below.refl _ _, fun i g t cs h => by simp at h, fun i g t cs h => by simp at h, fun i j g t cs g' t' cs' _ h => by simp at h, fun i g t cs h => by simp at h⟩
theorem get_snoc {α : Type} {l : List α} {a x : α} {i : Nat} (h : (l ++ [a])[i]? = some x) : l[i]? = some x ∨ i = l.length ∧ x = a := by
  by_cases hl : i < l.length
  · rw [List.getElem?_append_left hl] at h; exact .inl h
  · rw [List.getElem?_append_right (by omega)] at h
    have h1 := (List.getElem?_eq_some_iff.1 h).1
    simp at h1
    have h2 : i = l.length := by omega
    subst h2
    simp at h
    exact .inr ⟨rfl, h.symm⟩
theorem Fx.new {w0 w : World} {bs : List (Nat × TypeId × Array Value)} (h : Fx w0 w bs) (t : TypeId) (cs : Array Value) (hn : nlA cs = true) :
    Fx w0 (w.alloc (.cells cs t)) (bs ++ [(w.heap.size, t, cs)]) := by
  refine ⟨h.b.alloc h.b.size _, ?_, ?_, ?_, ?_⟩
  · intro i g t' cs' hi
    rcases get_snoc hi with hi | ⟨rfl, hi⟩
    · exact (h.box i g t' cs' hi).alloc _
    · simp at hi; obtain ⟨rfl, rfl, rfl⟩ := hi; exact Blk.new w _ _
  · intro i g t' cs' hi
    rcases get_snoc hi with hi | ⟨rfl, hi⟩
    · exact h.low i g t' cs' hi
    · simp at hi; obtain ⟨rfl, rfl, rfl⟩ := hi; exact h.b.size
  · intro i j g t1 cs1 g' t' cs' hij hi hj
    rcases get_snoc hj with hj | ⟨rfl, hj⟩
    · rcases get_snoc hi with hi | ⟨rfl, hi⟩
      · exact h.asc i j g t1 cs1 g' t' cs' hij hi hj
      · have := (List.getElem?_eq_some_iff.1 hj).1; omega
    · simp at hj; obtain ⟨rfl, rfl, rfl⟩ := hj
      rcases get_snoc hi with hi | ⟨rfl, hi⟩
      · exact (h.box i g t1 cs1 hi).lt
      · omega
  · intro i g t' cs' hi
    rcases get_snoc hi with hi | ⟨rfl, hi⟩
    · exact h.nl i g t' cs' hi
    · simp at hi; obtain ⟨rfl, rfl, rfl⟩ := hi; exact hn
theorem Fx.lt2 {w0 w : World} {bs : List (Nat × TypeId × Array Value)} (h : Fx w0 w bs) (i j : Nat) (hij : i < j) {g g' : Nat} {t t' : TypeId} {cs cs' : Array Value} (hi : bs[i]? = some (g, t, cs)) (hj : bs[j]? = some (g', t', cs')) : ¬ g = g' ∧ ¬ g' = g := by
  have := h.asc i j _ _ _ _ _ _ hij hi hj
  omega
theorem Fx.call {w0 w w' : World} {bs : List (Nat × TypeId × Array Value)} (h : Fx w0 w bs) (hb : Below w.heap.size w w') : Fx w0 w' bs :=
  ⟨h.b.trans (hb.mono h.b.size), fun i g t cs hi => (h.box i g t cs hi).below hb, h.low, h.asc, h.nl⟩
theorem Fx.alloc {w0 w : World} {bs : List (Nat × TypeId × Array Value)} (h : Fx w0 w bs) (o : Obj) : Fx w0 (w.alloc o) bs :=
  ⟨h.b.alloc h.b.size _, fun i g t cs hi => (h.box i g t cs hi).alloc _, h.low, h.asc, h.nl⟩
theorem Fx.drewN {w0 w : World} {bs : List (Nat × TypeId × Array Value)} (h : Fx w0 w bs) (n : Nat) : Fx w0 (w.drewN n) bs := ⟨below_drewN' h.b n, h.box, h.low, h.asc, h.nl⟩
theorem Fx.drew {w0 w : World} {bs : List (Nat × TypeId × Array Value)} (h : Fx w0 w bs) : Fx w0 w.drew bs := h.drewN 1
theorem Fx.drewE {w0 w w' : World} {bs : List (Nat × TypeId × Array Value)} (h : Fx w0 w bs) (e : w' = w.drew) : Fx w0 w' bs := e ▸ h.drew
theorem Fx.one (w : World) (t : TypeId) (cs : Array Value) (hn : nlA cs = true) : Fx w (w.alloc (.cells cs t)) [(w.heap.size, t, cs)] := (Fx.nil w).new t cs hn
theorem Fx.two (w : World) (t : TypeId) (cs : Array Value) (t' : TypeId) (cs' : Array Value) (hn : nlA cs = true) (hn' : nlA cs' = true) : Fx w ((w.alloc (.cells cs t)).alloc (.cells cs' t')) [(w.heap.size, t, cs), (w.heap.size + 1, t', cs')] := by
  have := ((Fx.nil w).new t cs hn).new t' cs' hn'
  simpa using this
theorem Fx.three (w : World) (t : TypeId) (cs : Array Value) (t' : TypeId) (cs' : Array Value) (t'' : TypeId) (cs'' : Array Value) (hn : nlA cs = true) (hn' : nlA cs' = true) (hn'' : nlA cs'' = true) :
    Fx w (((w.alloc (.cells cs t)).alloc (.cells cs' t')).alloc (.cells cs'' t'')) [(w.heap.size, t, cs), (w.heap.size + 1, t', cs'), (w.heap.size + 1 + 1, t'', cs'')] := by
  have := (((Fx.nil w).new t cs hn).new t' cs' hn').new t'' cs'' hn''
  simpa using this
theorem Fx.set {w0 w : World} {bs : List (Nat × TypeId × Array Value)} (h : Fx w0 w bs) (i j : Nat) {g : Nat} {t : TypeId} {cs : Array Value} (hi : bs[i]? = some (g, t, cs)) {x : Value} (hx : cs[j]? = some x) {u : Value} (hu : nlB u = true) :
    Fx w0 (w.setCell ⟨g, j, none⟩ u) (bs.set i (g, t, cs.setIfInBounds j u)) ∧ Kp w (w.setCell ⟨g, j, none⟩ u) := by
  have hl := (List.getElem?_eq_some_iff.1 hi).1
  have key : ∀ (k g' : Nat) t' cs', (bs.set i (g, t, cs.setIfInBounds j u))[k]? = some (g', t', cs') → k = i ∧ g' = g ∧ t' = t ∧ cs' = cs.setIfInBounds j u ∨ k ≠ i ∧ bs[k]? = some (g', t', cs') := by
    intro k g' t' cs' hk
    by_cases hki : k = i
    · subst hki; rw [List.getElem?_set_self hl] at hk; simp at hk
      obtain ⟨rfl, rfl, rfl⟩ := hk; exact .inl ⟨rfl, rfl, rfl, rfl⟩
    · rw [List.getElem?_set_ne (Ne.symm hki)] at hk; exact .inr ⟨hki, hk⟩
  refine ⟨⟨h.b.setCell (h.low i g t cs hi) _, ?_, ?_, ?_, ?_⟩, Kp.set (h.box i g t cs hi) hx (nl_of (nlA_at (h.nl i g t cs hi) hx)) u⟩
  · intro k g' t' cs' hk
    rcases key k g' t' cs' hk with ⟨rfl, rfl, rfl, rfl⟩ | ⟨hki, hk⟩
    · exact (h.box k _ _ cs hi).set j u
    · refine (h.box k g' t' cs' hk).far ?_ u
      rcases Nat.lt_or_gt_of_ne hki with hlt | hgt
      · have := h.asc k i g' t' cs' g t cs hlt hk hi; simp; omega
      · have := h.asc i k g t cs g' t' cs' hgt hi hk; simp; omega
  · intro k g' t' cs' hk
    rcases key k g' t' cs' hk with ⟨rfl, rfl, rfl, rfl⟩ | ⟨hki, hk⟩
    · exact h.low k _ _ cs hi
    · exact h.low k g' t' cs' hk
  · intro a c g1 t1 cs1 g2 t2 cs2 hac ha hc
    have e1 : ∃ t3 cs3, bs[a]? = some (g1, t3, cs3) := by
      rcases key a g1 t1 cs1 ha with ⟨rfl, rfl, rfl, rfl⟩ | ⟨_, hk⟩
      · exact ⟨_, _, hi⟩
      · exact ⟨_, _, hk⟩
    have e2 : ∃ t3 cs3, bs[c]? = some (g2, t3, cs3) := by
      rcases key c g2 t2 cs2 hc with ⟨rfl, rfl, rfl, rfl⟩ | ⟨_, hk⟩
      · exact ⟨_, _, hi⟩
      · exact ⟨_, _, hk⟩
    obtain ⟨_, _, e1⟩ := e1
    obtain ⟨_, _, e2⟩ := e2
    exact h.asc a c _ _ _ _ _ _ hac e1 e2
  · intro k g' t' cs' hk
    rcases key k g' t' cs' hk with ⟨rfl, rfl, rfl, rfl⟩ | ⟨hki, hk⟩
    · exact nlA_set (h.nl k _ _ cs hi) j hu
    · exact h.nl k g' t' cs' hk

theorem Fx.s2 {w0 w : World} {bs : List (Nat × TypeId × Array Value)} (h : Fx w0 w bs) (i : Nat) {g : Nat} {t : TypeId} {x0 x1 : Value} (hi : bs[i]? = some (g, t, #[x0, x1])) (a b : Value) (ha : nlB a = true) (hb : nlB b = true) :
    Fx w0 ((w.setCell ⟨g, 0, none⟩ a).setCell ⟨g, 1, none⟩ b) (bs.set i (g, t, #[a, b])) ∧ Kp w ((w.setCell ⟨g, 0, none⟩ a).setCell ⟨g, 1, none⟩ b) := by
  have hl := (List.getElem?_eq_some_iff.1 hi).1
  have q0 := h.set i 0 hi (x := x0) rfl ha
  have hi0 : (bs.set i (g, t, #[a, x1]))[i]? = some (g, t, #[a, x1]) := List.getElem?_set_self hl
  have r0 : Fx w0 _ (bs.set i (g, t, #[a, x1])) := q0.1
  have q1 := r0.set i 1 hi0 (x := x1) rfl hb
  rw [List.set_set] at q1
  have hi1 : (bs.set i (g, t, #[a, b]))[i]? = some (g, t, #[a, b]) := List.getElem?_set_self hl
  have r1 : Fx w0 _ (bs.set i (g, t, #[a, b])) := q1.1
  exact ⟨r1, (q0.2).trans q1.2⟩
theorem Fx.s2_0 {w0 w : World} {bs : List (Nat × TypeId × Array Value)} (h : Fx w0 w bs) (i : Nat) {g : Nat} {t : TypeId} {x0 x1 : Value} (hi : bs[i]? = some (g, t, #[x0, x1])) (a : Value) (ha : nlB a = true) :
    Fx w0 (w.setCell ⟨g, 0, none⟩ a) (bs.set i (g, t, #[a, x1])) ∧ Kp w (w.setCell ⟨g, 0, none⟩ a) := by
  have hl := (List.getElem?_eq_some_iff.1 hi).1
  have q0 := h.set i 0 hi (x := x0) rfl ha
  have hi0 : (bs.set i (g, t, #[a, x1]))[i]? = some (g, t, #[a, x1]) := List.getElem?_set_self hl
  have r0 : Fx w0 _ (bs.set i (g, t, #[a, x1])) := q0.1
  exact ⟨r0, q0.2⟩
theorem Fx.s2_1 {w0 w : World} {bs : List (Nat × TypeId × Array Value)} (h : Fx w0 w bs) (i : Nat) {g : Nat} {t : TypeId} {x0 x1 : Value} (hi : bs[i]? = some (g, t, #[x0, x1])) (a : Value) (ha : nlB a = true) :
    Fx w0 (w.setCell ⟨g, 1, none⟩ a) (bs.set i (g, t, #[x0, a])) ∧ Kp w (w.setCell ⟨g, 1, none⟩ a) := by
  have hl := (List.getElem?_eq_some_iff.1 hi).1
  have q0 := h.set i 1 hi (x := x1) rfl ha
  have hi0 : (bs.set i (g, t, #[x0, a]))[i]? = some (g, t, #[x0, a]) := List.getElem?_set_self hl
  have r0 : Fx w0 _ (bs.set i (g, t, #[x0, a])) := q0.1
  exact ⟨r0, q0.2⟩
theorem Fx.s3 {w0 w : World} {bs : List (Nat × TypeId × Array Value)} (h : Fx w0 w bs) (i : Nat) {g : Nat} {t : TypeId} {x0 x1 x2 : Value} (hi : bs[i]? = some (g, t, #[x0, x1, x2])) (a b c : Value) (ha : nlB a = true) (hb : nlB b = true) (hc : nlB c = true) :
    Fx w0 (((w.setCell ⟨g, 0, none⟩ a).setCell ⟨g, 1, none⟩ b).setCell ⟨g, 2, none⟩ c) (bs.set i (g, t, #[a, b, c])) ∧ Kp w (((w.setCell ⟨g, 0, none⟩ a).setCell ⟨g, 1, none⟩ b).setCell ⟨g, 2, none⟩ c) := by
  have hl := (List.getElem?_eq_some_iff.1 hi).1
  have q0 := h.set i 0 hi (x := x0) rfl ha
  have hi0 : (bs.set i (g, t, #[a, x1, x2]))[i]? = some (g, t, #[a, x1, x2]) := List.getElem?_set_self hl
  have r0 : Fx w0 _ (bs.set i (g, t, #[a, x1, x2])) := q0.1
  have q1 := r0.set i 1 hi0 (x := x1) rfl hb
  rw [List.set_set] at q1
  have hi1 : (bs.set i (g, t, #[a, b, x2]))[i]? = some (g, t, #[a, b, x2]) := List.getElem?_set_self hl
  have r1 : Fx w0 _ (bs.set i (g, t, #[a, b, x2])) := q1.1
  have q2 := r1.set i 2 hi1 (x := x2) rfl hc
  rw [List.set_set] at q2
  have hi2 : (bs.set i (g, t, #[a, b, c]))[i]? = some (g, t, #[a, b, c]) := List.getElem?_set_self hl
  have r2 : Fx w0 _ (bs.set i (g, t, #[a, b, c])) := q2.1
  exact ⟨r2, ((q0.2).trans q1.2).trans q2.2⟩
theorem Fx.s3_0 {w0 w : World} {bs : List (Nat × TypeId × Array Value)} (h : Fx w0 w bs) (i : Nat) {g : Nat} {t : TypeId} {x0 x1 x2 : Value} (hi : bs[i]? = some (g, t, #[x0, x1, x2])) (a : Value) (ha : nlB a = true) :
    Fx w0 (w.setCell ⟨g, 0, none⟩ a) (bs.set i (g, t, #[a, x1, x2])) ∧ Kp w (w.setCell ⟨g, 0, none⟩ a) := by
  have hl := (List.getElem?_eq_some_iff.1 hi).1
  have q0 := h.set i 0 hi (x := x0) rfl ha
  have hi0 : (bs.set i (g, t, #[a, x1, x2]))[i]? = some (g, t, #[a, x1, x2]) := List.getElem?_set_self hl
  have r0 : Fx w0 _ (bs.set i (g, t, #[a, x1, x2])) := q0.1
  exact ⟨r0, q0.2⟩
theorem Fx.s3_1 {w0 w : World} {bs : List (Nat × TypeId × Array Value)} (h : Fx w0 w bs) (i : Nat) {g : Nat} {t : TypeId} {x0 x1 x2 : Value} (hi : bs[i]? = some (g, t, #[x0, x1, x2])) (a : Value) (ha : nlB a = true) :
    Fx w0 (w.setCell ⟨g, 1, none⟩ a) (bs.set i (g, t, #[x0, a, x2])) ∧ Kp w (w.setCell ⟨g, 1, none⟩ a) := by
  have hl := (List.getElem?_eq_some_iff.1 hi).1
  have q0 := h.set i 1 hi (x := x1) rfl ha
  have hi0 : (bs.set i (g, t, #[x0, a, x2]))[i]? = some (g, t, #[x0, a, x2]) := List.getElem?_set_self hl
  have r0 : Fx w0 _ (bs.set i (g, t, #[x0, a, x2])) := q0.1
  exact ⟨r0, q0.2⟩
theorem Fx.s3_2 {w0 w : World} {bs : List (Nat × TypeId × Array Value)} (h : Fx w0 w bs) (i : Nat) {g : Nat} {t : TypeId} {x0 x1 x2 : Value} (hi : bs[i]? = some (g, t, #[x0, x1, x2])) (a : Value) (ha : nlB a = true) :
    Fx w0 (w.setCell ⟨g, 2, none⟩ a) (bs.set i (g, t, #[x0, x1, a])) ∧ Kp w (w.setCell ⟨g, 2, none⟩ a) := by
  have hl := (List.getElem?_eq_some_iff.1 hi).1
  have q0 := h.set i 2 hi (x := x2) rfl ha
  have hi0 : (bs.set i (g, t, #[x0, x1, a]))[i]? = some (g, t, #[x0, x1, a]) := List.getElem?_set_self hl
  have r0 : Fx w0 _ (bs.set i (g, t, #[x0, x1, a])) := q0.1
  exact ⟨r0, q0.2⟩
theorem Fx.s6 {w0 w : World} {bs : List (Nat × TypeId × Array Value)} (h : Fx w0 w bs) (i : Nat) {g : Nat} {t : TypeId} {x0 x1 x2 x3 x4 x5 : Value} (hi : bs[i]? = some (g, t, #[x0, x1, x2, x3, x4, x5])) (a b c d e f : Value) (ha : nlB a = true) (hb : nlB b = true) (hc : nlB c = true) (hd : nlB d = true) (he : nlB e = true) (hf : nlB f = true) :
    Fx w0 ((((((w.setCell ⟨g, 0, none⟩ a).setCell ⟨g, 1, none⟩ b).setCell ⟨g, 2, none⟩ c).setCell ⟨g, 3, none⟩ d).setCell ⟨g, 4, none⟩ e).setCell ⟨g, 5, none⟩ f) (bs.set i (g, t, #[a, b, c, d, e, f])) ∧ Kp w ((((((w.setCell ⟨g, 0, none⟩ a).setCell ⟨g, 1, none⟩ b).setCell ⟨g, 2, none⟩ c).setCell ⟨g, 3, none⟩ d).setCell ⟨g, 4, none⟩ e).setCell ⟨g, 5, none⟩ f) := by
  have hl := (List.getElem?_eq_some_iff.1 hi).1
  have q0 := h.set i 0 hi (x := x0) rfl ha
  have hi0 : (bs.set i (g, t, #[a, x1, x2, x3, x4, x5]))[i]? = some (g, t, #[a, x1, x2, x3, x4, x5]) := List.getElem?_set_self hl
  have r0 : Fx w0 _ (bs.set i (g, t, #[a, x1, x2, x3, x4, x5])) := q0.1
  have q1 := r0.set i 1 hi0 (x := x1) rfl hb
  rw [List.set_set] at q1
  have hi1 : (bs.set i (g, t, #[a, b, x2, x3, x4, x5]))[i]? = some (g, t, #[a, b, x2, x3, x4, x5]) := List.getElem?_set_self hl
  have r1 : Fx w0 _ (bs.set i (g, t, #[a, b, x2, x3, x4, x5])) := q1.1
  have q2 := r1.set i 2 hi1 (x := x2) rfl hc
  rw [List.set_set] at q2
  have hi2 : (bs.set i (g, t, #[a, b, c, x3, x4, x5]))[i]? = some (g, t, #[a, b, c, x3, x4, x5]) := List.getElem?_set_self hl
  have r2 : Fx w0 _ (bs.set i (g, t, #[a, b, c, x3, x4, x5])) := q2.1
  have q3 := r2.set i 3 hi2 (x := x3) rfl hd
  rw [List.set_set] at q3
  have hi3 : (bs.set i (g, t, #[a, b, c, d, x4, x5]))[i]? = some (g, t, #[a, b, c, d, x4, x5]) := List.getElem?_set_self hl
  have r3 : Fx w0 _ (bs.set i (g, t, #[a, b, c, d, x4, x5])) := q3.1
  have q4 := r3.set i 4 hi3 (x := x4) rfl he
  rw [List.set_set] at q4
  have hi4 : (bs.set i (g, t, #[a, b, c, d, e, x5]))[i]? = some (g, t, #[a, b, c, d, e, x5]) := List.getElem?_set_self hl
  have r4 : Fx w0 _ (bs.set i (g, t, #[a, b, c, d, e, x5])) := q4.1
  have q5 := r4.set i 5 hi4 (x := x5) rfl hf
  rw [List.set_set] at q5
  have hi5 : (bs.set i (g, t, #[a, b, c, d, e, f]))[i]? = some (g, t, #[a, b, c, d, e, f]) := List.getElem?_set_self hl
  have r5 : Fx w0 _ (bs.set i (g, t, #[a, b, c, d, e, f])) := q5.1
  exact ⟨r5, (((((q0.2).trans q1.2).trans q2.2).trans q3.2).trans q4.2).trans q5.2⟩
theorem Fx.s6_0 {w0 w : World} {bs : List (Nat × TypeId × Array Value)} (h : Fx w0 w bs) (i : Nat) {g : Nat} {t : TypeId} {x0 x1 x2 x3 x4 x5 : Value} (hi : bs[i]? = some (g, t, #[x0, x1, x2, x3, x4, x5])) (a b c : Value) (ha : nlB a = true) (hb : nlB b = true) (hc : nlB c = true) :
    Fx w0 (((w.setCell ⟨g, 0, none⟩ a).setCell ⟨g, 1, none⟩ b).setCell ⟨g, 2, none⟩ c) (bs.set i (g, t, #[a, b, c, x3, x4, x5])) ∧ Kp w (((w.setCell ⟨g, 0, none⟩ a).setCell ⟨g, 1, none⟩ b).setCell ⟨g, 2, none⟩ c) := by
  have hl := (List.getElem?_eq_some_iff.1 hi).1
  have q0 := h.set i 0 hi (x := x0) rfl ha
  have hi0 : (bs.set i (g, t, #[a, x1, x2, x3, x4, x5]))[i]? = some (g, t, #[a, x1, x2, x3, x4, x5]) := List.getElem?_set_self hl
  have r0 : Fx w0 _ (bs.set i (g, t, #[a, x1, x2, x3, x4, x5])) := q0.1
  have q1 := r0.set i 1 hi0 (x := x1) rfl hb
  rw [List.set_set] at q1
  have hi1 : (bs.set i (g, t, #[a, b, x2, x3, x4, x5]))[i]? = some (g, t, #[a, b, x2, x3, x4, x5]) := List.getElem?_set_self hl
  have r1 : Fx w0 _ (bs.set i (g, t, #[a, b, x2, x3, x4, x5])) := q1.1
  have q2 := r1.set i 2 hi1 (x := x2) rfl hc
  rw [List.set_set] at q2
  have hi2 : (bs.set i (g, t, #[a, b, c, x3, x4, x5]))[i]? = some (g, t, #[a, b, c, x3, x4, x5]) := List.getElem?_set_self hl
  have r2 : Fx w0 _ (bs.set i (g, t, #[a, b, c, x3, x4, x5])) := q2.1
  exact ⟨r2, ((q0.2).trans q1.2).trans q2.2⟩
theorem Fx.s6_3 {w0 w : World} {bs : List (Nat × TypeId × Array Value)} (h : Fx w0 w bs) (i : Nat) {g : Nat} {t : TypeId} {x0 x1 x2 x3 x4 x5 : Value} (hi : bs[i]? = some (g, t, #[x0, x1, x2, x3, x4, x5])) (a b c : Value) (ha : nlB a = true) (hb : nlB b = true) (hc : nlB c = true) :
    Fx w0 (((w.setCell ⟨g, 3, none⟩ a).setCell ⟨g, 4, none⟩ b).setCell ⟨g, 5, none⟩ c) (bs.set i (g, t, #[x0, x1, x2, a, b, c])) ∧ Kp w (((w.setCell ⟨g, 3, none⟩ a).setCell ⟨g, 4, none⟩ b).setCell ⟨g, 5, none⟩ c) := by
  have hl := (List.getElem?_eq_some_iff.1 hi).1
  have q0 := h.set i 3 hi (x := x3) rfl ha
  have hi0 : (bs.set i (g, t, #[x0, x1, x2, a, x4, x5]))[i]? = some (g, t, #[x0, x1, x2, a, x4, x5]) := List.getElem?_set_self hl
  have r0 : Fx w0 _ (bs.set i (g, t, #[x0, x1, x2, a, x4, x5])) := q0.1
  have q1 := r0.set i 4 hi0 (x := x4) rfl hb
  rw [List.set_set] at q1
  have hi1 : (bs.set i (g, t, #[x0, x1, x2, a, b, x5]))[i]? = some (g, t, #[x0, x1, x2, a, b, x5]) := List.getElem?_set_self hl
  have r1 : Fx w0 _ (bs.set i (g, t, #[x0, x1, x2, a, b, x5])) := q1.1
  have q2 := r1.set i 5 hi1 (x := x5) rfl hc
  rw [List.set_set] at q2
  have hi2 : (bs.set i (g, t, #[x0, x1, x2, a, b, c]))[i]? = some (g, t, #[x0, x1, x2, a, b, c]) := List.getElem?_set_self hl
  have r2 : Fx w0 _ (bs.set i (g, t, #[x0, x1, x2, a, b, c])) := q2.1
  exact ⟨r2, ((q0.2).trans q1.2).trans q2.2⟩
theorem Fx.c1 {w0 w : World} {bs : List (Nat × TypeId × Array Value)} (h : Fx w0 w bs) (i : Nat) {g : Nat} {t : TypeId} {x0 : Value} (hi : bs[i]? = some (g, t, #[x0])) :
    (w.cell? ⟨g, 0, none⟩ = some x0) ∧ w.frozen? ⟨g, 0, none⟩ = false := by
  have k := h.box i _ _ _ hi
  exact ⟨k.at 0 x0 rfl, k.frozen 0⟩
theorem Fx.c2 {w0 w : World} {bs : List (Nat × TypeId × Array Value)} (h : Fx w0 w bs) (i : Nat) {g : Nat} {t : TypeId} {x0 x1 : Value} (hi : bs[i]? = some (g, t, #[x0, x1])) :
    (w.cell? ⟨g, 0, none⟩ = some x0 ∧ w.cell? ⟨g, 1, none⟩ = some x1) ∧ w.frozen? ⟨g, 0, none⟩ = false ∧ w.frozen? ⟨g, 1, none⟩ = false := by
  have k := h.box i _ _ _ hi
  exact ⟨⟨k.at 0 x0 rfl, k.at 1 x1 rfl⟩, k.frozen 0, k.frozen 1⟩
theorem Fx.c3 {w0 w : World} {bs : List (Nat × TypeId × Array Value)} (h : Fx w0 w bs) (i : Nat) {g : Nat} {t : TypeId} {x0 x1 x2 : Value} (hi : bs[i]? = some (g, t, #[x0, x1, x2])) :
    (w.cell? ⟨g, 0, none⟩ = some x0 ∧ w.cell? ⟨g, 1, none⟩ = some x1 ∧ w.cell? ⟨g, 2, none⟩ = some x2) ∧ w.frozen? ⟨g, 0, none⟩ = false ∧ w.frozen? ⟨g, 1, none⟩ = false ∧ w.frozen? ⟨g, 2, none⟩ = false := by
  have k := h.box i _ _ _ hi
  exact ⟨⟨k.at 0 x0 rfl, k.at 1 x1 rfl, k.at 2 x2 rfl⟩, k.frozen 0, k.frozen 1, k.frozen 2⟩
theorem Fx.c6 {w0 w : World} {bs : List (Nat × TypeId × Array Value)} (h : Fx w0 w bs) (i : Nat) {g : Nat} {t : TypeId} {x0 x1 x2 x3 x4 x5 : Value} (hi : bs[i]? = some (g, t, #[x0, x1, x2, x3, x4, x5])) :
    (w.cell? ⟨g, 0, none⟩ = some x0 ∧ w.cell? ⟨g, 1, none⟩ = some x1 ∧ w.cell? ⟨g, 2, none⟩ = some x2 ∧ w.cell? ⟨g, 3, none⟩ = some x3 ∧ w.cell? ⟨g, 4, none⟩ = some x4 ∧ w.cell? ⟨g, 5, none⟩ = some x5) ∧ w.frozen? ⟨g, 0, none⟩ = false ∧ w.frozen? ⟨g, 1, none⟩ = false ∧ w.frozen? ⟨g, 2, none⟩ = false ∧ w.frozen? ⟨g, 3, none⟩ = false ∧ w.frozen? ⟨g, 4, none⟩ = false ∧ w.frozen? ⟨g, 5, none⟩ = false := by
  have k := h.box i _ _ _ hi
  exact ⟨⟨k.at 0 x0 rfl, k.at 1 x1 rfl, k.at 2 x2 rfl, k.at 3 x3 rfl, k.at 4 x4 rfl, k.at 5 x5 rfl⟩, k.frozen 0, k.frozen 1, k.frozen 2, k.frozen 3, k.frozen 4, k.frozen 5⟩

end Go.Proofs.YtobpioceopfkpaaGreatDoor
