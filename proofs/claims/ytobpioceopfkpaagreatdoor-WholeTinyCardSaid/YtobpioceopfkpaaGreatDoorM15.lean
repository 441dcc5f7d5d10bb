/-
  logs: Log. Printed by gen_lc.py.
-/
import Derived.Test.YtobpioceopfkpaaGreatDoorM14
namespace Go.Proofs.YtobpioceopfkpaaGreatDoor
open Go.RowKit

theorem near_third {m : Nat} (h : m ≠ 0) : (if m < nearO m then nearO m - m else m - nearO m) * 3 ≤ m + nearO m ∧ 0 < nearO m ∧ nearO m ≤ 2 * m := by
  have h1 := lt_bl m
  have h2 := bl_pos h
  have h3 : 2 ^ (bl m - 1) ≤ m := by
    rw [h2, Nat.add_sub_cancel]; exact Nat.log2_self_le h
  have h4 : 2 ^ bl m = 2 * 2 ^ (bl m - 1) := by
    have : bl m = (bl m - 1) + 1 := by omega
    rw [this, Nat.pow_succ, Nat.add_sub_cancel]; omega
  have h5 := Nat.two_pow_pos (bl m - 1)
  unfold nearO nearC
  generalize 2 ^ (bl m - 1) = p at *
  by_cases hc : p + (p + p) ≤ m + m
  · simp only [hc, decide_true, if_true]
    split <;> omega
  · simp only [hc, decide_false, Bool.false_eq_true, if_false]
    split <;> omega
theorem AtI.bound {s : Nat} {R : Pr × Pr} : ∀ {f n i : Nat} {S T Q : Pr}, AtI s R n i f S T Q → R.1.lo ≤ (s + 1) * 2 ^ s ∧ R.1.hi ≤ (s + 1) * 2 ^ s ∧ R.2.lo ≤ 2 ^ s ∧ R.2.hi ≤ 2 ^ s := by
  intro f
  induction f with
  | zero =>
    intro n i S T Q h
    have h0 : T.lo = 0 := by
      have hb := h.hb
      apply Classical.byContradiction; intro h1
      have := bl_pos h1; omega
    have hR := h.done h0
    have hi : i ≤ s + 1 := by have := h.hf; omega
    have hm : i * 2 ^ s ≤ (s + 1) * 2 ^ s := Nat.mul_le_mul_right _ hi
    rw [hR]
    exact ⟨Nat.le_trans h.hS.1 hm, Nat.le_trans h.hS.2 hm, h.hT.1, h.hT.2⟩
  | succ f ih =>
    intro n i S T Q h
    by_cases h0 : T.lo = 0
    · have hR := h.done h0
      have hi : i ≤ s + 1 := by have := h.hf; omega
      have hm : i * 2 ^ s ≤ (s + 1) * 2 ^ s := Nat.mul_le_mul_right _ hi
      rw [hR]
      exact ⟨Nat.le_trans h.hS.1 hm, Nat.le_trans h.hS.2 hm, h.hT.1, h.hT.2⟩
    · obtain ⟨f', he, h2⟩ := h.step h0
      obtain rfl : f = f' := by omega
      exact ih h2
theorem atanhP_le {num den s : Nat} (h0 : 0 < den) (h3 : num * 3 ≤ den) : (atanhP num den s).lo ≤ (s + 3) * 2 ^ s ∧ (atanhP num den s).hi ≤ (s + 3) * 2 ^ s := by
  unfold atanhP
  split
  · exact ⟨Nat.zero_le _, Nat.zero_le _⟩
  · obtain ⟨h1, h2, h4, h5⟩ := (AtI.start h0 h3 (s := s)).bound
    have e1 : (s + 3) * 2 ^ s = (s + 1) * 2 ^ s + (2 ^ s + 2 ^ s) := by
      rw [show s + 3 = (s + 1) + 2 from rfl, Nat.add_mul, Nat.two_mul]
    rw [e1]
    exact ⟨Nat.le_trans h1 (Nat.le_add_right _ _), Nat.add_le_add h2 (Nat.add_le_add h5 h5)⟩
theorem withinN_all {P : Dn → Prop} {lo hi : Nat} {e : Int} {n : Bool} (h1 : P (bareN ⟨n, lo, e⟩)) (h2 : P (bareN ⟨n, hi, e⟩)) : P (withinN lo hi e n).lo ∧ P (withinN lo hi e n).hi := by
  unfold withinN; split
  · exact ⟨h2, h1⟩
  · exact ⟨h1, h2⟩
theorem Sd_bare {n : Bool} {m : Nat} {e : Int} (hb : bl m ≤ 3500) (he : -4000 ≤ e ∧ e ≤ 0) : Sd (bareN ⟨n, m, e⟩) := by
  by_cases h0 : m = 0
  · rw [bareN_zero h0]; exact ⟨Nat.zero_le _, by decide, by decide⟩
  · rw [bareN_pos h0]
    have k1 := lo_le_bl h0
    have : m / 2 ^ lo m ≤ m := Nat.div_le_self _ _
    have k2 := bl_mono this
    have k3 : cutN e = e := by unfold cutN; omega
    refine ⟨?_, ?_, ?_⟩ <;> simp only [k3] <;> omega

def logX (m s : Nat) : In := withinN ((atanhP (if m < nearO m then nearO m - m else m - nearO m) (m + nearO m) s).lo * 2) ((atanhP (if m < nearO m then nearO m - m else m - nearO m) (m + nearO m) s).hi * 2) (-(s : Int)) (decide (m < nearO m))
def logY (E : Int) (s : Nat) : In := withinN (((atanhP 1 3 s).lo + (atanhP 1 3 s).lo) * E.natAbs) (((atanhP 1 3 s).hi + (atanhP 1 3 s).hi) * E.natAbs) (-(s : Int)) (decide (E < 0))
def logN (m : Nat) (t : Int) (s : Nat) : In := ⟨AddD (logX m s).lo (logY (nearE m t) s).lo, AddD (logX m s).hi (logY (nearE m t) s).hi⟩
theorem bl_two_le {x k : Nat} (h : bl x ≤ k) : bl (x * 2) ≤ k + 1 := by
  have := bl_shl x 1
  rw [Nat.pow_one] at this; omega

set_option maxRecDepth 100000 in
set_option maxHeartbeats 4000000 in
theorem Log_r {w : World} {u : Value} {d : Dn} (hu : Ry w u d) (sd : Sd d) (hn : (bareN d).neg = false) (h0 : (bareN d).m ≠ 0) (hb : bl (bareN d).m ≤ 60) (s : Nat) (hs : 8 ≤ s ∧ s ≤ 3000) :
    Calls Tryz.prog 129 #[u, .int .i64 (s : Int)] w fun e w' => ∃ r, e = .returned (.tuple #[r, .int .i64 0]) ∧ Iv w' r (logN (bareN d).m (topN (bareN d)) s) ∧ Below w.heap.size w w' := by
  have CN := Lib.hid (fun w (h : Ry w u d) => Near_r h sd hn h0 hb)
  have bt := topN_le sd.bare
  obtain ⟨a1, k1, c1, rfl⟩ := hu.form
  have HU := Lib.hid hu
  have HL : Hid (logN (bareN d).m (topN (bareN d)) s = ⟨AddD (logX (bareN d).m s).lo (logY (nearE (bareN d).m (topN (bareN d))) s).lo, AddD (logX (bareN d).m s).hi (logY (nearE (bareN d).m (topN (bareN d))) s).hi⟩) := rfl
  generalize topN (bareN d) = t at *
  generalize (bareN d).m = m at *
  obtain ⟨g1, g2, g3⟩ := near_third h0
  have hm : m < 2 ^ 60 := Nat.lt_of_lt_of_le (lt_bl m) (Nat.pow_le_pow_right (by decide) hb)
  have hE : -4001 ≤ nearE m t ∧ nearE m t ≤ 20001 := by unfold nearE; split <;> omega
  have HX : Hid (logX m s = withinN ((atanhP (if m < nearO m then nearO m - m else m - nearO m) (m + nearO m) s).lo * 2) ((atanhP (if m < nearO m then nearO m - m else m - nearO m) (m + nearO m) s).hi * 2) (-(s : Int)) (decide (m < nearO m))) := rfl
  have HY : Hid (logY (nearE m t) s = withinN (((atanhP 1 3 s).lo + (atanhP 1 3 s).lo) * (nearE m t).natAbs) (((atanhP 1 3 s).hi + (atanhP 1 3 s).hi) * (nearE m t).natAbs) (-(s : Int)) (decide (nearE m t < 0))) := rfl
  have CN' := Lib.hid (fun w h => (show Calls Tryz.prog 152 _ w (fun e w' => ∃ x y, e = .returned (.tuple #[x, y, .bool (decide (m < nearO m)), .int .i64 (nearE m t), .bool true]) ∧ Dg w' x (if m < nearO m then nearO m - m else m - nearO m) ∧ Dg w' y (m + nearO m) ∧ Below w.heap.size w w') from CN.out w h))
  clear CN
  generalize logX m s = IX at *
  generalize nearE m t = E at *
  generalize logY E s = IY at *
  generalize (if m < nearO m then nearO m - m else m - nearO m) = num at *
  generalize hden : m + nearO m = den at *
  generalize decide (m < nearO m) = neg at *
  have bA := atanhP_le (s := s) (by omega) g1
  have bL := atanhP_le (num := 1) (den := 3) (s := s) (by decide) (by decide)
  have bA1 := bl_pow_le bA.1 (by omega)
  have bA2 := bl_pow_le bA.2 (by omega)
  have bL1 := bl_pow_le bL.1 (by omega)
  have bL2 := bl_pow_le bL.2 (by omega)
  have CA := Lib.hid (fun w u v (h : Dg w u num) (k : Dg w v den) => Atanh_r (h.rd (Nat.le_trans (bl64 (by omega)) (by decide))) (k.rd (Nat.le_trans (bl64 (by omega)) (by decide))) s (by omega) g1 (by omega) (by omega))
  have CL := Lib.hid (fun w (t : Tab w) => Ln2_r t s (by omega) (by omega) (by omega))
  generalize (atanhP num den s).lo = al at *
  generalize (atanhP num den s).hi = ah at *
  generalize (atanhP 1 3 s).lo = ll at *
  generalize (atanhP 1 3 s).hi = lh at *
  have bl1 : bl (ll + ll) ≤ s + 22 := bl_add bL1 bL1
  have bl2 : bl (lh + lh) ≤ s + 22 := bl_add bL2 bL2
  generalize ll + ll = ll2 at *
  generalize lh + lh = lh2 at *
  have ba1 : bl (al * 2) ≤ s + 22 := bl_two_le bA1
  have ba2 : bl (ah * 2) ≤ s + 22 := bl_two_le bA2
  obtain ⟨k, hk⟩ : ∃ k, k = E.natAbs := ⟨_, rfl⟩
  have hk16 : bl k ≤ 16 := bl_le (by omega)
  have CT1 := Lib.hid (fun w u v (h : Dg w u al) (k : Dg w v ah) => ltimes_r (h.rd (by omega)) (k.rd (by omega)) 2 2 rfl (by omega) (by omega) (by omega))
  have CT2 := Lib.hid (fun w u v (h : Dg w u ll2) (l : Dg w v lh2) => ltimes_r (h.rd (by omega)) (l.rd (by omega)) E k hk (by omega) (by omega) (by omega))
  rw [← hk] at HY
  have bk1 := bl_mul ll2 k
  have bk2 := bl_mul lh2 k
  obtain ⟨e, he⟩ : ∃ e, e = -(s : Int) := ⟨_, rfl⟩
  rw [← he] at HX HY
  have CE1 := Lib.hid (fun w u (h : Pt w u (al * 2) (ah * 2) neg) => ends_r h (s : Int) e (by omega) (by omega) (by omega) (by omega))
  have CE2 := Lib.hid (fun w u (h : Pt w u (ll2 * k) (lh2 * k) (decide (E < 0))) => ends_r h (s : Int) e (by omega) (by omega) (by omega) (by omega))
  have SX := withinN_all (P := Sd) (n := neg) (Sd_bare (m := al * 2) (e := e) (by omega) (by omega)) (Sd_bare (m := ah * 2) (e := e) (by omega) (by omega))
  have SY := withinN_all (P := Sd) (n := decide (E < 0)) (Sd_bare (m := ll2 * k) (e := e) (by omega) (by omega)) (Sd_bare (m := lh2 * k) (e := e) (by omega) (by omega))
  rw [← HX.out] at CE1 SX
  rw [← HY.out] at CE2 SY
  obtain ⟨xl, xh⟩ := IX
  obtain ⟨yl, yh⟩ := IY
  simp only at SX SY HL
  have CD1 := Lib.hid (fun w u v (h : Cy w u xl) (k : Cy w v yl) => Add_s h.ry k.ry SX.1 SY.1)
  have CD2 := Lib.hid (fun w u v (h : Cy w u xh) (k : Cy w v yh) => Add_s h.ry k.ry SX.2 SY.2)
  rw [HL.out]
  generalize AddD xl yl = rl at *
  generalize AddD xh yh = rh at *
  obtain ⟨xn, xm, xe⟩ := xl
  obtain ⟨xn', xm', xe'⟩ := xh
  obtain ⟨yn, ym, ye⟩ := yl
  obtain ⟨yn', ym', ye'⟩ := yh
  obtain ⟨rn, rm, re⟩ := rl
  obtain ⟨rn', rm', re'⟩ := rh
  generalize al * 2 = al2 at *
  generalize ah * 2 = ah2 at *
  generalize ll2 * k = llk at *
  generalize lh2 * k = lhk at *
  generalize decide (E < 0) = ng at *
  clear hu sd hn h0 hb HL bt g1 g2 g3 hm HX HY hE hden bA bL bA1 bA2 bL1 bL2 bl1 bl2 ba1 ba2 hk hk16 bk1 bk2 he SX SY hs
  go_enter Tryz.func129, Tryz.ntmps129
  have F0 := Lib.hid (Fx.two w 42 #[.bool d.neg, .slice a1 k1 c1, .int .i64 d.e] 92 #[.bool false, .slice none 0 0, .int .i64 0, .bool false, .slice none 0 0, .int .i64 0] rfl rfl)
  have X0 := Lib.hid ((HU.out.alloc (.cells #[.bool d.neg, .slice a1 k1 c1, .int .i64 d.e] 42)).alloc (.cells #[.bool false, .slice none 0 0, .int .i64 0, .bool false, .slice none 0 0, .int .i64 0] 92))
  clear HU
  go_upto_region 1 with (fail)
  generalize World.alloc (World.alloc _ _) _ = w0 at F0 X0 ⊢
  have c0_0 := F0.out.c3 0 rfl
  have c1_0 := F0.out.c6 1 rfl
  go_wp2_with fail
  clear c0_0 c1_0
  refine (CN'.out _ X0.out).mono ?_
  rintro q w1 ⟨u, v, rfl, hx, hy, hb⟩
  have F1 := Lib.hid (F0.out.call hb)
  have X1 := Lib.hid (X0.out.below hb)
  clear F0 X0
  have N1 := Lib.hid (hx)
  have D1 := Lib.hid (hy)
  clear hb
  have c0_1 := F1.out.c3 0 rfl
  have c1_1 := F1.out.c6 1 rfl
  clear X1
  obtain ⟨a3, k3, c3, rfl⟩ := N1.out.form
  obtain ⟨a4, k4, c4, rfl⟩ := D1.out.form
  go_wp2_with fail
  clear c0_1 c1_1
  refine (CA.out _ _ _ N1.out D1.out).mono ?_
  rintro q w2 ⟨u, v, rfl, hx, hy, hb⟩
  have F2 := Lib.hid (F1.out.call hb)
  have N2 := Lib.hid (N1.out.below hb)
  have D2 := Lib.hid (D1.out.below hb)
  clear F1 N1 D1
  have A2 := Lib.hid (hx)
  have B2 := Lib.hid (hy)
  clear hb
  have c0_2 := F2.out.c3 0 rfl
  have c1_2 := F2.out.c6 1 rfl
  clear N2 D2
  obtain ⟨a5, k5, c5, rfl⟩ := A2.out.form
  obtain ⟨a6, k6, c6, rfl⟩ := B2.out.form
  go_wp2_with fail
  clear c0_2 c1_2
  refine (CT1.out _ _ _ A2.out B2.out).mono ?_
  rintro q w3 ⟨u, rfl, hu, hb⟩
  have F3 := Lib.hid (F2.out.call hb)
  have A3 := Lib.hid (A2.out.below hb)
  have B3 := Lib.hid (B2.out.below hb)
  clear F2 A2 B2
  have P3 := Lib.hid (hu)
  clear hb
  have c0_3 := F3.out.c3 0 rfl
  have c1_3 := F3.out.c6 1 rfl
  clear A3 B3
  obtain ⟨a7, k7, c7, a8, k8, c8, rfl, h1, h2⟩ := P3.out
  clear h1 h2
  go_upto_region 9 with (fail)
  clear c0_3 c1_3
  have F4 := Lib.hid (F3.out.new 212 #[.slice a7 k7 c7, .slice a8 k8 c8, .bool neg] rfl)
  have P4 := Lib.hid (P3.out.alloc (.cells #[.slice a7 k7 c7, .slice a8 k8 c8, .bool neg] 212))
  clear F3 P3
  obtain ⟨g1, hg1⟩ : ∃ g, g = (World.heap w3).size := ⟨_, rfl⟩
  rw [← hg1] at F4 ⊢
  clear hg1
  simp only [List.nil_append, List.cons_append] at F4
  generalize World.alloc w3 _ = W4 at F4 P4 ⊢
  have c0_4 := F4.out.c3 0 rfl
  have c1_4 := F4.out.c6 1 rfl
  have c2_4 := F4.out.c3 2 rfl
  have Q4 : Hid (Pt _ (.agg #[.slice a7 k7 c7, .slice a8 k8 c8, .bool neg]) al2 ah2 neg) := ⟨_, _, _, _, _, _, rfl, P4.out.fst.1, P4.out.fst.2⟩
  clear P4
  go_wp2_with fail
  clear c0_4 c1_4 c2_4
  refine (CL.out _ Q4.out.fst.1.tab).mono ?_
  rintro q w5 ⟨u, v, rfl, hx, hy, hb⟩
  have F5 := Lib.hid (F4.out.call hb)
  have Q5 := Lib.hid (Q4.out.below hb)
  clear F4 Q4
  have A5 := Lib.hid (hx)
  have B5 := Lib.hid (hy)
  clear hb
  have c0_5 := F5.out.c3 0 rfl
  have c1_5 := F5.out.c6 1 rfl
  have c2_5 := F5.out.c3 2 rfl
  obtain ⟨b5, e5, d5, rfl⟩ := A5.out.form
  obtain ⟨b6, e6, d6, rfl⟩ := B5.out.form
  go_wp2_with fail
  clear c0_5 c1_5 c2_5
  refine (CE1.out _ _ Q5.out).mono ?_
  rintro q w6 ⟨u, rfl, hu, hb⟩
  have F6 := Lib.hid (F5.out.call hb)
  have Q6 := Lib.hid (Q5.out.below hb)
  have A6 := Lib.hid (A5.out.below hb)
  have B6 := Lib.hid (B5.out.below hb)
  clear F5 Q5 A5 B5
  have I6 := Lib.hid (hu)
  clear hb
  have c0_6 := F6.out.c3 0 rfl
  have c1_6 := F6.out.c6 1 rfl
  have c2_6 := F6.out.c3 2 rfl
  clear Q6
  obtain ⟨b7, e7, d7, b8, e8, d8, rfl, h1, h2⟩ := I6.out.fm
  clear h1 h2
  go_wp2_with fail
  clear c0_6 c1_6 c2_6
  refine (CT2.out _ _ _ A6.out B6.out).mono ?_
  rintro q w7 ⟨u, rfl, hu, hb⟩
  have F7 := Lib.hid (F6.out.call hb)
  have A7 := Lib.hid (A6.out.below hb)
  have B7 := Lib.hid (B6.out.below hb)
  have I7 := Lib.hid (I6.out.below hb)
  clear F6 A6 B6 I6
  have P7 := Lib.hid (hu)
  clear hb
  have c0_7 := F7.out.c3 0 rfl
  have c1_7 := F7.out.c6 1 rfl
  have c2_7 := F7.out.c3 2 rfl
  clear A7 B7
  obtain ⟨b9, e9, d9, m9, n9, o9, rfl, h1, h2⟩ := P7.out
  clear h1 h2
  go_wp2_with fail
  clear c0_7 c1_7 c2_7
  refine (CE2.out _ _ P7.out).mono ?_
  rintro q w8 ⟨u, rfl, hu, hb⟩
  have F8 := Lib.hid (F7.out.call hb)
  have I8 := Lib.hid (I7.out.below hb)
  have P8 := Lib.hid (P7.out.below hb)
  clear F7 I7 P7
  have J8 := Lib.hid (hu)
  clear hb
  have c0_8 := F8.out.c3 0 rfl
  have c1_8 := F8.out.c6 1 rfl
  have c2_8 := F8.out.c3 2 rfl
  clear P8
  obtain ⟨f7, i7, j7, f8, i8, j8, rfl, h1, h2⟩ := J8.out.fm
  clear h1 h2
  go_upto_region 12 with (fail)
  clear c0_8 c1_8 c2_8
  have F9 := Lib.hid (F8.out.new 92 #[.bool xn, .slice b7 e7 d7, .int .i64 xe, .bool xn', .slice b8 e8 d8, .int .i64 xe'] rfl)
  have I9 := Lib.hid (I8.out.alloc (.cells #[.bool xn, .slice b7 e7 d7, .int .i64 xe, .bool xn', .slice b8 e8 d8, .int .i64 xe'] 92))
  have J9 := Lib.hid (J8.out.alloc (.cells #[.bool xn, .slice b7 e7 d7, .int .i64 xe, .bool xn', .slice b8 e8 d8, .int .i64 xe'] 92))
  clear F8 I8 J8
  obtain ⟨g2, hg2⟩ : ∃ g, g = (World.heap w8).size := ⟨_, rfl⟩
  rw [← hg2] at F9 ⊢
  have hzg2 : (World.heap (World.alloc w8 (.cells #[.bool xn, .slice b7 e7 d7, .int .i64 xe, .bool xn', .slice b8 e8 d8, .int .i64 xe'] 92))).size = g2 + 1 := by rw [hg2]; simp
  clear hg2
  simp only [List.nil_append, List.cons_append] at F9
  generalize World.alloc w8 _ = W9 at hzg2 F9 I9 J9 ⊢
  have F10 := Lib.hid (F9.out.new 92 #[.bool yn, .slice f7 i7 j7, .int .i64 ye, .bool yn', .slice f8 i8 j8, .int .i64 ye'] rfl)
  have I10 := Lib.hid (I9.out.alloc (.cells #[.bool yn, .slice f7 i7 j7, .int .i64 ye, .bool yn', .slice f8 i8 j8, .int .i64 ye'] 92))
  have J10 := Lib.hid (J9.out.alloc (.cells #[.bool yn, .slice f7 i7 j7, .int .i64 ye, .bool yn', .slice f8 i8 j8, .int .i64 ye'] 92))
  clear F9 I9 J9
  rw [hzg2] at F10
  have hzg3 : (World.heap (World.alloc W9 (.cells #[.bool yn, .slice f7 i7 j7, .int .i64 ye, .bool yn', .slice f8 i8 j8, .int .i64 ye'] 92))).size = g2 + 1 + 1 := by simp [hzg2]
  clear hzg2
  simp only [List.nil_append, List.cons_append] at F10
  generalize World.alloc W9 _ = W10 at hzg3 F10 I10 J10 ⊢
  have F11 := Lib.hid (F10.out.new 92 #[.bool false, .slice none 0 0, .int .i64 0, .bool false, .slice none 0 0, .int .i64 0] rfl)
  have I11 := Lib.hid (I10.out.alloc (.cells #[.bool false, .slice none 0 0, .int .i64 0, .bool false, .slice none 0 0, .int .i64 0] 92))
  have J11 := Lib.hid (J10.out.alloc (.cells #[.bool false, .slice none 0 0, .int .i64 0, .bool false, .slice none 0 0, .int .i64 0] 92))
  clear F10 I10 J10
  rw [hzg3] at F11
  clear hzg3
  simp only [List.nil_append, List.cons_append] at F11
  generalize World.alloc W10 _ = W11 at F11 I11 J11 ⊢
  have c0_11 := F11.out.c3 0 rfl
  have c1_11 := F11.out.c6 1 rfl
  have c2_11 := F11.out.c3 2 rfl
  have c3_11 := F11.out.c6 3 rfl
  have c4_11 := F11.out.c6 4 rfl
  have c5_11 := F11.out.c6 5 rfl
  obtain ⟨_, _, _, _, _, _, he, h1, h2⟩ := I11.out.fm
  simp at he
  obtain ⟨⟨rfl, rfl, rfl⟩, rfl, rfl, rfl⟩ := he
  have XL11 := Lib.hid h1
  have XH11 := Lib.hid h2
  clear h1 h2
  obtain ⟨_, _, _, _, _, _, he, h1, h2⟩ := J11.out.fm
  simp at he
  obtain ⟨⟨rfl, rfl, rfl⟩, rfl, rfl, rfl⟩ := he
  have YL11 := Lib.hid h1
  have YH11 := Lib.hid h2
  clear h1 h2
  clear I11 J11
  go_wp2_with fail
  clear c0_11 c1_11 c2_11 c3_11 c4_11 c5_11
  refine (CD1.out _ _ _ XL11.out YL11.out).mono ?_
  rintro q w12 ⟨u, rfl, hu, hb⟩
  have F12 := Lib.hid (F11.out.call hb)
  have XL12 := Lib.hid (XL11.out.below hb)
  have XH12 := Lib.hid (XH11.out.below hb)
  have YL12 := Lib.hid (YL11.out.below hb)
  have YH12 := Lib.hid (YH11.out.below hb)
  clear F11 XL11 XH11 YL11 YH11
  have R12 := Lib.hid (hu)
  clear hb
  have c0_12 := F12.out.c3 0 rfl
  have c1_12 := F12.out.c6 1 rfl
  have c2_12 := F12.out.c3 2 rfl
  have c3_12 := F12.out.c6 3 rfl
  have c4_12 := F12.out.c6 4 rfl
  have c5_12 := F12.out.c6 5 rfl
  obtain ⟨x7, y7, z7, rfl⟩ := R12.out.fm
  go_upto_region 13 with (fail)
  clear c0_12 c1_12 c2_12 c3_12 c4_12 c5_12
  obtain ⟨f, p⟩ := F12.out.s6_0 5 rfl (.bool rn) (.slice x7 y7 z7) (.int .i64 re) rfl rfl rfl
  generalize (World.setCell (World.setCell (World.setCell _ _ _) _ _) _ _) = W at f p ⊢
  have F13 := Lib.hid (f)
  have XL13 := Lib.hid (XL12.out.kp p)
  have XH13 := Lib.hid (XH12.out.kp p)
  have YL13 := Lib.hid (YL12.out.kp p)
  have YH13 := Lib.hid (YH12.out.kp p)
  have R13 := Lib.hid (R12.out.kp p)
  clear F12 XL12 XH12 YL12 YH12 R12
  clear f p
  simp only [List.set_cons_zero, List.set_cons_succ] at F13
  have c0_13 := F13.out.c3 0 rfl
  have c1_13 := F13.out.c6 1 rfl
  have c2_13 := F13.out.c3 2 rfl
  have c3_13 := F13.out.c6 3 rfl
  have c4_13 := F13.out.c6 4 rfl
  have c5_13 := F13.out.c6 5 rfl
  go_wp2_with fail
  clear c0_13 c1_13 c2_13 c3_13 c4_13 c5_13
  refine (CD2.out _ _ _ XH13.out YH13.out).mono ?_
  rintro q w14 ⟨u, rfl, hu, hb⟩
  have F14 := Lib.hid (F13.out.call hb)
  have XL14 := Lib.hid (XL13.out.below hb)
  have XH14 := Lib.hid (XH13.out.below hb)
  have YL14 := Lib.hid (YL13.out.below hb)
  have YH14 := Lib.hid (YH13.out.below hb)
  have R14 := Lib.hid (R13.out.below hb)
  clear F13 XL13 XH13 YL13 YH13 R13
  have S14 := Lib.hid (hu)
  clear hb
  have c0_14 := F14.out.c3 0 rfl
  have c1_14 := F14.out.c6 1 rfl
  have c2_14 := F14.out.c3 2 rfl
  have c3_14 := F14.out.c6 3 rfl
  have c4_14 := F14.out.c6 4 rfl
  have c5_14 := F14.out.c6 5 rfl
  obtain ⟨x8, y8, z8, rfl⟩ := S14.out.fm
  go_upto_region 14 with (fail)
  clear c0_14 c1_14 c2_14 c3_14 c4_14 c5_14
  obtain ⟨f, p⟩ := F14.out.s6_3 5 rfl (.bool rn') (.slice x8 y8 z8) (.int .i64 re') rfl rfl rfl
  generalize (World.setCell (World.setCell (World.setCell _ _ _) _ _) _ _) = W at f p ⊢
  have F15 := Lib.hid (f)
  have XL15 := Lib.hid (XL14.out.kp p)
  have XH15 := Lib.hid (XH14.out.kp p)
  have YL15 := Lib.hid (YL14.out.kp p)
  have YH15 := Lib.hid (YH14.out.kp p)
  have R15 := Lib.hid (R14.out.kp p)
  have S15 := Lib.hid (S14.out.kp p)
  clear F14 XL14 XH14 YL14 YH14 R14 S14
  clear f p
  simp only [List.set_cons_zero, List.set_cons_succ] at F15
  have c0_15 := F15.out.c3 0 rfl
  have c1_15 := F15.out.c6 1 rfl
  have c2_15 := F15.out.c3 2 rfl
  have c3_15 := F15.out.c6 3 rfl
  have c4_15 := F15.out.c6 4 rfl
  have c5_15 := F15.out.c6 5 rfl
  go_wp2
  obtain ⟨f0, p0⟩ := F15.out.s6 1 rfl (.bool rn) (.slice x7 y7 z7) (.int .i64 re) (.bool rn') (.slice x8 y8 z8) (.int .i64 re') rfl rfl rfl rfl rfl rfl
  have p := p0
  have f := f0
  clear f0 p0
  generalize (World.setCell (World.setCell (World.setCell (World.setCell (World.setCell (World.setCell _ _ _) _ _) _ _) _ _) _ _) _ _) = W at f p ⊢
  have g1 := f.c6 1 rfl
  refine bodyPost_ret (v := .tuple #[.agg #[.bool rn, .slice x7 y7 z7, .int .i64 re, .bool rn', .slice x8 y8 z8, .int .i64 re'], .int .i64 0]) (by simp [results, Tryz.results129, go_sem, g1]) rfl ?_
  exact ⟨_, rfl, ⟨_, _, _, _, _, _, rfl, R15.out.kp p, S15.out.kp p⟩, f.b⟩

end Go.Proofs.YtobpioceopfkpaaGreatDoor

/-
  The logarithm's interval at 128 bits: crude bounds.
-/
namespace Go.Proofs.YtobpioceopfkpaaGreatDoor
open Go.RowKit

/-- an end: its worth at most B units of 2^-128 -/
structure End1 (B : Nat) (d : Dn) : Prop where
  lo : -128 ≤ d.e
  hi : d.e ≤ 30
  bl : bl d.m ≤ 140
  b1 : -(B : Int) ≤ zv 128 d
  b2 : zv 128 d ≤ B
theorem End1.zk {B : Nat} {d : Dn} (h : End1 B d) : Zk 128 d := ⟨h.lo, by have := h.lo; omega, by have := h.hi; omega⟩
theorem bareN_parts {n : Bool} {m : Nat} {e : Int} (he : -100000 ≤ e ∧ e ≤ 100000) : bl (bareN ⟨n, m, e⟩).m ≤ bl m ∧ (m ≠ 0 → e ≤ (bareN ⟨n, m, e⟩).e ∧ (bareN ⟨n, m, e⟩).e ≤ e + bl m) ∧ (m = 0 → (bareN ⟨n, m, e⟩).e = 0) := by
  by_cases h0 : m = 0
  · subst h0
    rw [bareN_zero (d := ⟨n, 0, e⟩) rfl]
    exact ⟨Nat.zero_le _, fun h => absurd rfl h, fun _ => rfl⟩
  · rw [bareN_pos (d := ⟨n, m, e⟩) h0]
    have k1 := lo_le_bl h0
    have : m / 2 ^ lo m ≤ m := Nat.div_le_self _ _
    have k2 := bl_mono this
    have k3 : cutN e = e := by unfold cutN; omega
    simp only [k3]
    exact ⟨k2, fun _ => ⟨by omega, by omega⟩, fun h => absurd h h0⟩
theorem bare_end {n : Bool} {m B : Nat} (hm : m ≤ B) (hB : B ≤ 2048 * 2 ^ 128) : End1 B (bareN ⟨n, m, -128⟩) := by
  have hb : bl m ≤ 140 := bl_le (Nat.lt_of_le_of_lt (Nat.le_trans hm hB) (by decide))
  obtain ⟨h1, h2, h3⟩ := bareN_parts (n := n) (m := m) (e := -128) (by decide)
  have hz : zv 128 (bareN ⟨n, m, -128⟩) = zv 128 ⟨n, m, -128⟩ := zv_bareN (by decide) (by show (-128 : Int) ≤ -128; decide) ⟨by show (-2147483648 : Int) ≤ -128; decide, by show (-128 : Int) ≤ 2147483648; decide⟩
  have hm2 : mz 128 ⟨n, m, -128⟩ = m := by unfold mz; simp
  have hz2 : zv 128 ⟨n, m, -128⟩ = if n then -(m : Int) else (m : Int) := by unfold zv; rw [hm2]
  refine ⟨?_, ?_, by omega, ?_, ?_⟩
  · by_cases h0 : m = 0
    · rw [h3 h0]; decide
    · exact (h2 h0).1
  · by_cases h0 : m = 0
    · rw [h3 h0]; decide
    · have := (h2 h0).2; omega
  · rw [hz, hz2]; split <;> omega
  · rw [hz, hz2]; split <;> omega
theorem within_end {n : Bool} {lo hi B : Nat} (h1 : lo ≤ B) (h2 : hi ≤ B) (hB : B ≤ 2048 * 2 ^ 128) :
    End1 B (withinN lo hi (-128) n).lo ∧ End1 B (withinN lo hi (-128) n).hi ∧ zv 128 (withinN lo hi (-128) n).lo ≤ zv 128 (withinN lo hi (-128) n).hi := by
  have e1 := bare_end (n := n) h1 hB
  have e2 := bare_end (n := n) h2 hB
  obtain ⟨p1, p2⟩ := withinN_all (P := End1 B) e1 e2
  refine ⟨p1, p2, ?_⟩
  unfold withinN
  have hc := CmpD_zk (K := 128) (by decide) e1.zk e2.zk
  split
  · rename_i h
    rw [hc, cmpI_pos_iff] at h
    exact Int.le_of_lt h
  · rename_i h
    rw [hc, cmpI_pos_iff] at h
    exact Int.not_lt.1 h
theorem End1.bare {B : Nat} {d : Dn} (h : End1 B d) : -128 ≤ (bareN d).e ∧ (bareN d).e ≤ 170 ∧ Go.Proofs.YtobpioceopfkpaaGreatDoor.bl (bareN d).m ≤ 140 ∧ zv 128 (bareN d) = zv 128 d := by
  obtain ⟨n, m, e⟩ := d
  obtain ⟨h1, h2, h3, h4, h5⟩ := h
  simp only at h1 h2 h3
  obtain ⟨k1, k2, k3⟩ := bareN_parts (n := n) (m := m) (e := e) (by omega)
  refine ⟨?_, ?_, by omega, zv_bareN (by decide) h1 ⟨by show -2147483648 ≤ e; omega, by show e ≤ 2147483648; omega⟩⟩
  · by_cases h0 : m = 0
    · rw [k3 h0]; decide
    · have := (k2 h0).1; omega
  · by_cases h0 : m = 0
    · rw [k3 h0]; decide
    · have := (k2 h0).2; omega
theorem widN_bl2 {m : Nat} {n : Int} {k : Nat} (h : n ≤ k) : bl (widN m n) ≤ bl m + k := by
  unfold widN
  split
  · omega
  · exact Nat.le_trans (bl_shl2 _ _) (by omega)
theorem addD_parts {A B : Dn} (ha : -128 ≤ A.e ∧ A.e ≤ 170 ∧ bl A.m ≤ 140) (hb : -128 ≤ B.e ∧ B.e ≤ 170 ∧ bl B.m ≤ 140) : -128 ≤ (addD A B).e ∧ (addD A B).e ≤ 700 ∧ bl (addD A B).m ≤ 450 := by
  unfold addD
  split
  · omega
  · split
    · omega
    · have hl1 : min A.e B.e ≤ A.e := Int.min_le_left _ _
      have hl2 : min A.e B.e ≤ B.e := Int.min_le_right _ _
      have hl3 : -128 ≤ min A.e B.e := by omega
      generalize min A.e B.e = low at *
      have w1 := widN_bl2 (m := A.m) (n := A.e - low) (k := 298) (by omega)
      have w2 := widN_bl2 (m := B.m) (n := B.e - low) (k := 298) (by omega)
      generalize widN A.m (A.e - low) = p at *
      generalize widN B.m (B.e - low) = q at *
      have key : ∀ g r, bl r ≤ 440 → -128 ≤ (bareN ⟨g, r, low⟩).e ∧ (bareN ⟨g, r, low⟩).e ≤ 700 ∧ bl (bareN ⟨g, r, low⟩).m ≤ 450 := by
        intro g r hr
        obtain ⟨k1, k2, k3⟩ := bareN_parts (n := g) (m := r) (e := low) (by omega)
        by_cases h0 : r = 0
        · rw [k3 h0]; exact ⟨by decide, by decide, by omega⟩
        · have := k2 h0; exact ⟨by omega, by omega, by omega⟩
      split
      · exact key _ _ (Nat.le_trans (bl_add (k := 438) (by omega) (by omega)) (by omega))
      · split
        · exact key _ _ (Nat.le_trans (bl_mono (Nat.sub_le q p)) (by omega))
        · exact key _ _ (Nat.le_trans (bl_mono (Nat.sub_le p q)) (by omega))
theorem AddD_end {A C : Nat} {a c : Dn} (ha : End1 A a) (hc : End1 C c) : zv 128 (AddD a c) = zv 128 a + zv 128 c ∧ -128 ≤ (AddD a c).e ∧ (AddD a c).e ≤ 700 ∧ bl (AddD a c).m ≤ 450 := by
  obtain ⟨a1, a2, a3, a4⟩ := ha.bare
  obtain ⟨c1, c2, c3, c4⟩ := hc.bare
  refine ⟨?_, addD_parts ⟨a1, a2, a3⟩ ⟨c1, c2, c3⟩⟩
  show zv 128 (addD (bareN a) (bareN c)) = _
  rw [zv_add (by decide) ⟨a1, by omega⟩ ⟨c1, by omega⟩ (by decide), a4, c4]

end Go.Proofs.YtobpioceopfkpaaGreatDoor

/-
  The logarithm's interval at 128 bits: ordered, less than 2^11 in size; its products.
-/
namespace Go.Proofs.YtobpioceopfkpaaGreatDoor
open Go.RowKit

theorem ln2_hi : (atanhP 1 3 128).hi + (atanhP 1 3 128).hi ≤ 2 ^ 128 := of_decide_eq_true (by kernel_rfl)
theorem ln2_lo : (atanhP 1 3 128).lo + (atanhP 1 3 128).lo ≤ 2 ^ 128 := of_decide_eq_true (by kernel_rfl)

def LB : Int := 2 ^ 139
def YB : Int := 2 ^ 1058
theorem LB_pos : 0 < LB := Int.pow_pos (by decide)
theorem YB_pos : 0 < YB := Int.pow_pos (by decide)
/-- an end of the logarithm -/
structure LEnd (d : Dn) : Prop where
  lo : -128 ≤ d.e
  hi : d.e ≤ 700
  bl : bl d.m ≤ 450
  b1 : -LB < zv 128 d
  b2 : zv 128 d < LB
theorem LEnd.sd {d : Dn} (h : LEnd d) : Sd d := ⟨by have := h.bl; omega, by have := h.lo; omega, by have := h.hi; omega⟩
theorem LEnd.zk {d : Dn} (h : LEnd d) : Zk 128 d := ⟨h.lo, by have := h.lo; omega, by have := h.hi; omega⟩
theorem logX_end {m : Nat} (h0 : m ≠ 0) : End1 (262 * 2 ^ 128) (logX m 128).lo ∧ End1 (262 * 2 ^ 128) (logX m 128).hi ∧ zv 128 (logX m 128).lo ≤ zv 128 (logX m 128).hi := by
  obtain ⟨g1, g2, g3⟩ := near_third h0
  have h := atanhP_le (num := if m < nearO m then nearO m - m else m - nearO m) (den := m + nearO m) (s := 128) (by omega) g1
  unfold logX
  generalize (if m < nearO m then nearO m - m else m - nearO m) = num at *
  generalize decide (m < nearO m) = neg
  generalize (atanhP num (m + nearO m) 128).lo = a at *
  generalize (atanhP num (m + nearO m) 128).hi = b at *
  exact within_end (by omega) (by omega) (by decide)
theorem logY_end {E : Int} (hE : E.natAbs ≤ 1076) : End1 (1076 * 2 ^ 128) (logY E 128).lo ∧ End1 (1076 * 2 ^ 128) (logY E 128).hi ∧ zv 128 (logY E 128).lo ≤ zv 128 (logY E 128).hi := by
  have h1 := ln2_lo
  have h2 := ln2_hi
  unfold logY
  generalize (atanhP 1 3 128).lo + (atanhP 1 3 128).lo = a at *
  generalize (atanhP 1 3 128).hi + (atanhP 1 3 128).hi = b at *
  have k1 : a * E.natAbs ≤ 1076 * 2 ^ 128 := by rw [Nat.mul_comm]; exact Nat.mul_le_mul hE h1
  have k2 : b * E.natAbs ≤ 1076 * 2 ^ 128 := by rw [Nat.mul_comm]; exact Nat.mul_le_mul hE h2
  exact within_end k1 k2 (by decide)
theorem logN_end {m : Nat} {t : Int} (h0 : m ≠ 0) (hE : (nearE m t).natAbs ≤ 1076) : LEnd (logN m t 128).lo ∧ LEnd (logN m t 128).hi ∧ CmpD (logN m t 128).lo (logN m t 128).hi ≤ 0 := by
  have hx := logX_end h0
  have hy := logY_end hE
  unfold logN
  generalize logX m 128 = X at *
  generalize logY (nearE m t) 128 = Y at *
  obtain ⟨x1, x2, x3⟩ := hx
  obtain ⟨y1, y2, y3⟩ := hy
  obtain ⟨s1, s2, s3, s4⟩ := AddD_end x1 y1
  obtain ⟨t1, t2, t3, t4⟩ := AddD_end x2 y2
  have c1 := x1.b1
  have c2 := x1.b2
  have c3 := x2.b1
  have c4 := x2.b2
  have d1 := y1.b1
  have d2 := y1.b2
  have d3 := y2.b1
  have d4 := y2.b2
  have hLB : LB = 2 ^ 139 := rfl
  have l1 : LEnd (AddD X.lo Y.lo) := ⟨s2, s3, s4, by rw [s1, hLB]; omega, by rw [s1, hLB]; omega⟩
  have l2 : LEnd (AddD X.hi Y.hi) := ⟨t2, t3, t4, by rw [t1, hLB]; omega, by rw [t1, hLB]; omega⟩
  refine ⟨l1, l2, ?_⟩
  simp only
  rw [CmpD_zk (K := 128) (by decide) l1.zk l2.zk, s1, t1]
  apply Int.not_lt.1
  rw [cmpI_pos_iff]
  omega
theorem LEnd.bare {d : Dn} (h : LEnd d) : -128 ≤ (bareN d).e ∧ (bareN d).e ≤ 1150 ∧ Go.Proofs.YtobpioceopfkpaaGreatDoor.bl (bareN d).m ≤ 450 ∧ zv 128 (bareN d) = zv 128 d := by
  obtain ⟨n, m, e⟩ := d
  obtain ⟨h1, h2, h3, h4, h5⟩ := h
  simp only at h1 h2 h3
  obtain ⟨k1, k2, k3⟩ := bareN_parts (n := n) (m := m) (e := e) (by omega)
  refine ⟨?_, ?_, by omega, zv_bareN (by decide) h1 ⟨by show -2147483648 ≤ e; omega, by show e ≤ 2147483648; omega⟩⟩
  · by_cases h0 : m = 0
    · rw [k3 h0]; decide
    · have := (k2 h0).1; omega
  · by_cases h0 : m = 0
    · rw [k3 h0]; decide
    · have := (k2 h0).2; omega

/-- an exponent below 2^-72 in size -/
structure YEnd (y : Dn) : Prop where
  lo : -1130 ≤ (bareN y).e
  hi : (bareN y).e ≤ 0
  bl : bl (bareN y).m ≤ 60
  b1 : -YB < zv 1130 (bareN y)
  b2 : zv 1130 (bareN y) < YB
/-- an end of the product -/
structure PEnd (d : Dn) : Prop where
  lo : -1258 ≤ d.e
  hi : d.e ≤ 2000
  bl : bl d.m ≤ 510
  b1 : -(LB * YB) < zv (128 + 1130) d
  b2 : zv (128 + 1130) d < LB * YB
theorem PEnd.sd {d : Dn} (h : PEnd d) : Sd d := ⟨by have := h.bl; omega, by have := h.lo; omega, by have := h.hi; omega⟩
theorem PEnd.zk {d : Dn} (h : PEnd d) : Zk (128 + 1130) d := ⟨h.lo, by have := h.lo; omega, by have := h.hi; omega⟩
theorem abs_mul_lt {a b A B : Int} (hA : 0 < A) (hB : 0 < B) (a1 : -A < a) (a2 : a < A) (b1 : -B < b) (b2 : b < B) : -(A * B) < a * b ∧ a * b < A * B := by
  have h1 : a.natAbs < A.natAbs := by omega
  have h2 : b.natAbs < B.natAbs := by omega
  have h3 : a.natAbs * b.natAbs < A.natAbs * B.natAbs := Nat.mul_lt_mul_of_lt_of_lt h1 h2
  rw [← Int.natAbs_mul, ← Int.natAbs_mul] at h3
  have h4 : 0 < A * B := Int.mul_pos hA hB
  omega
theorem MulD_end {l y : Dn} (hl : LEnd l) (hy : YEnd y) : PEnd (MulD l y) := by
  obtain ⟨a1, a2, a3, a4⟩ := hl.bare
  have hz := zv_mul (K := 128) (K' := 1130) (A := bareN l) (B := bareN y) a1 hy.lo
  rw [a4] at hz
  have hb := abs_mul_lt (A := LB) (B := YB) LB_pos YB_pos hl.b1 hl.b2 hy.b1 hy.b2
  rw [← hz] at hb
  have hbl : bl ((bareN l).m * (bareN y).m) ≤ 510 := Nat.le_trans (bl_mul _ _) (by have := hy.bl; omega)
  have y1 := hy.lo
  have y2 := hy.hi
  show PEnd (bareN ⟨(bareN l).neg != (bareN y).neg, (bareN l).m * (bareN y).m, (bareN l).e + (bareN y).e⟩)
  have hq : zv (128 + 1130) (bareN ⟨(bareN l).neg != (bareN y).neg, (bareN l).m * (bareN y).m, (bareN l).e + (bareN y).e⟩) = zv (128 + 1130) ⟨(bareN l).neg != (bareN y).neg, (bareN l).m * (bareN y).m, (bareN l).e + (bareN y).e⟩ :=
    zv_bareN (by decide) (by show -(128 + 1130) ≤ (bareN l).e + (bareN y).e; omega) ⟨by show -2147483648 ≤ (bareN l).e + (bareN y).e; omega, by show (bareN l).e + (bareN y).e ≤ 2147483648; omega⟩
  rw [← hq] at hb
  generalize ((bareN l).neg != (bareN y).neg) = g at *
  generalize (bareN l).m * (bareN y).m = r at *
  obtain ⟨e, he⟩ : ∃ e, e = (bareN l).e + (bareN y).e := ⟨_, rfl⟩
  rw [← he] at hb ⊢
  obtain ⟨k1, k2, k3⟩ := bareN_parts (n := g) (m := r) (e := e) (by omega)
  refine ⟨?_, ?_, by omega, hb.1, hb.2⟩
  · by_cases h0 : r = 0
    · rw [k3 h0]; decide
    · have := (k2 h0).1; omega
  · by_cases h0 : r = 0
    · rw [k3 h0]; decide
    · have := (k2 h0).2; omega

end Go.Proofs.YtobpioceopfkpaaGreatDoor
