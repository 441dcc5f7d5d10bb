/-
  dyad: small numbers; Bare, Make, Mul of them. Printed by gen_df.py.
-/
import Derived.Test.YtobpioceopfkpaaGreatDoorM07
import Derived.Deep.RegionHeld3
namespace Go.Proofs.YtobpioceopfkpaaGreatDoor
open Go.RowKit

/-- small enough for whatever sum or product -/
def Sd (d : Dn) : Prop := bl d.m ≤ 4000 ∧ -4000 ≤ d.e ∧ d.e ≤ 4000
theorem Sd.bare {d : Dn} (h : Sd d) : bl (bareN d).m ≤ 4000 ∧ -4000 ≤ (bareN d).e ∧ (bareN d).e ≤ 8000 := by
  obtain ⟨h1, h2, h3⟩ := h
  by_cases h0 : d.m = 0
  · rw [bareN_zero h0]; exact ⟨Nat.zero_le _, by decide, by decide⟩
  · have k1 := lo_le_bl h0
    have : d.m / 2 ^ lo d.m ≤ d.m := Nat.div_le_self _ _
    have k2 := bl_mono this
    have k3 : cutN d.e = d.e := by unfold cutN; omega
    rw [bareN_pos h0, k3]
    simp only; omega
theorem BareN_sm {d : Dn} (h : -1000000 ≤ (bareN d).e ∧ (bareN d).e ≤ 1000000) : BareN d = (bareN d, 0) := BareN_ok (by omega)
theorem bareN_span {d : Dn} (h : bl d.m ≤ 255000 ∧ -500000 ≤ d.e ∧ d.e ≤ 500000) : -1000000 ≤ (bareN d).e ∧ (bareN d).e ≤ 1000000 := by
  by_cases h0 : d.m = 0
  · rw [bareN_zero h0]; exact ⟨by decide, by decide⟩
  · have k1 := lo_le_bl h0
    have k3 : cutN d.e = d.e := by unfold cutN; omega
    rw [bareN_pos h0, k3]; simp only; omega
theorem Bare_s {w : World} {v : Value} {d : Dn} (h : Ry w v d) (hs : Sd d) : Calls Tryz.prog 31 #[v] w (RetCE (bareN d) 0 w) := by
  have h1 := Bare_d h
  have h2 := hs.bare
  rw [BareN_sm (d := d) (by omega)] at h1
  exact h1
theorem Make_s {w : World} {s : Value} {neg : Bool} {m : Nat} {e : Int} (h : Rd w s m) (hbl : bl m ≤ 255000) (he : -500000 ≤ e ∧ e ≤ 500000) :
    Calls Tryz.prog 30 #[.bool neg, s, .int .i64 e] w (RetCE (bareN ⟨neg, m, e⟩) 0 w) := by
  have h1 := Make_d (neg := neg) h hbl (e := e) (by omega)
  rw [BareN_sm (bareN_span ⟨hbl, he⟩)] at h1
  exact h1
theorem bl_mul (m n : Nat) : bl (m * n) ≤ bl m + bl n := by
  apply bl_le
  rw [Nat.pow_add]
  have h1 := lt_bl m
  have h2 := lt_bl n
  exact Nat.lt_of_le_of_lt (Nat.mul_le_mul_right _ (Nat.le_of_lt h1)) (Nat.mul_lt_mul_of_pos_left h2 (Nat.two_pow_pos _))
theorem mul_s {w : World} {u v : Value} {m n : Nat} (h : Rd w u m) (k : Rd w v n) (hb : bl m + bl n ≤ 65536) : Calls Tryz.prog 32 #[u, v] w (RetDgE (m * n) 0 w) := by
  have h1 := mul_r h k
  have e1 : mulN m n = m * n := by unfold mulN; rw [if_neg (by omega)]
  have e2 : mulE m n = 0 := by unfold mulE; split; rfl; rw [if_neg (by omega)]
  rw [e1, e2] at h1
  exact h1
theorem Cy.fm {w : World} {v : Value} {n : Bool} {m : Nat} {e : Int} (h : Cy w v ⟨n, m, e⟩) : ∃ a k c, v = .agg #[.bool n, .slice a k c, .int .i64 e] := h.form
theorem Cy.dm {w : World} {n : Bool} {a : Option Addr} {k c : Nat} {e : Int} {m : Nat} (h : Cy w (.agg #[.bool n, .slice a k c, .int .i64 e]) ⟨n, m, e⟩) : Dg w (.slice a k c) m := h.dg
def mulD (A B : Dn) : Dn := bareN ⟨A.neg != B.neg, A.m * B.m, A.e + B.e⟩
def MulD (a b : Dn) : Dn := mulD (bareN a) (bareN b)

set_option maxRecDepth 100000 in
set_option maxHeartbeats 4000000 in
theorem Mul_s {w : World} {u v : Value} {a b : Dn} (ha : Ry w u a) (hb : Ry w v b) (sa : Sd a) (sb : Sd b) : Calls Tryz.prog 16 #[u, v] w (RetCE (MulD a b) 0 w) := by
  have CA := Lib.hid (fun w (h : Ry w u a) => Bare_s h sa)
  have CB := Lib.hid (fun w (h : Ry w v b) => Bare_s h sb)
  obtain ⟨a1, k1, c1, rfl⟩ := ha.form
  obtain ⟨a2, k2, c2, rfl⟩ := hb.form
  have ba := sa.bare
  have bb := sb.bare
  have HM : MulD a b = mulD (bareN a) (bareN b) := rfl
  rw [HM]
  clear HM
  generalize bareN a = A at *
  generalize bareN b = B at *
  obtain ⟨an, am, ae⟩ := A
  obtain ⟨bn, bm, be⟩ := B
  simp only at ba bb
  have HD : mulD ⟨an, am, ae⟩ ⟨bn, bm, be⟩ = bareN ⟨an != bn, am * bm, ae + be⟩ := rfl
  have CM := Lib.hid (fun w (u v : Value) (h : Rd w u am) (k : Rd w v bm) => mul_s h k (by omega))
  have hm := bl_mul am bm
  have CK := Lib.hid (fun w (s : Value) (h : Rd w s (am * bm)) => Make_s (neg := an != bn) (e := ae + be) h (by omega) (by omega))
  rw [HD]
  have q1 : IntKind.i64.wrap (ae + be) = ae + be := IntWalk.i64_in _ (by omega)
  have bm2 : bl (am * bm) ≤ 8000 := by omega
  generalize am * bm = m at *
  obtain ⟨g, hg⟩ : ∃ g, g = (an != bn) := ⟨_, rfl⟩
  have hg2 : (!an == bn) = g := by rw [hg]; cases an <;> cases bn <;> rfl
  rw [← hg] at CK ⊢
  generalize bareN ⟨g, m, ae + be⟩ = R at *
  obtain ⟨rn, rm, re⟩ := R
  have HG := Lib.hid hg2
  clear hg hg2 HD hm
  go_enter Tryz.func16, Tryz.ntmps16
  have F0 := Lib.hid (Fx.three w 42 #[.bool a.neg, .slice a1 k1 c1, .int .i64 a.e] 42 #[.bool b.neg, .slice a2 k2 c2, .int .i64 b.e] 42 #[.bool false, .slice none 0 0, .int .i64 0] rfl rfl rfl)
  have X0 := Lib.hid (((ha.alloc (.cells #[.bool a.neg, .slice a1 k1 c1, .int .i64 a.e] 42)).alloc (.cells #[.bool b.neg, .slice a2 k2 c2, .int .i64 b.e] 42)).alloc (.cells #[.bool false, .slice none 0 0, .int .i64 0] 42))
  have Y0 := Lib.hid (((hb.alloc (.cells #[.bool a.neg, .slice a1 k1 c1, .int .i64 a.e] 42)).alloc (.cells #[.bool b.neg, .slice a2 k2 c2, .int .i64 b.e] 42)).alloc (.cells #[.bool false, .slice none 0 0, .int .i64 0] 42))
  clear ha hb
  go_wp2_with fail
  generalize World.alloc (World.alloc (World.alloc _ _) _) _ = w0 at F0 X0 Y0 ⊢
  have c0_0 := F0.out.c3 0 rfl
  have c1_0 := F0.out.c3 1 rfl
  have c2_0 := F0.out.c3 2 rfl
  clear c0_0 c1_0 c2_0
  refine (CA.out _ X0.out).mono ?_
  rintro q w1 ⟨u, rfl, hu, hb⟩
  have F1 := Lib.hid (F0.out.call hb)
  have X1 := Lib.hid (X0.out.below hb)
  have Y1 := Lib.hid (Y0.out.below hb)
  clear F0 X0 Y0
  have U1 := Lib.hid (hu)
  clear hb
  have c0_1 := F1.out.c3 0 rfl
  have c1_1 := F1.out.c3 1 rfl
  have c2_1 := F1.out.c3 2 rfl
  obtain ⟨a3, k3, c3, rfl⟩ := U1.out.fm
  go_wp2_with fail
  clear c0_1 c1_1 c2_1
  obtain ⟨f, p⟩ := F1.out.s3 0 rfl (.bool an) (.slice a3 k3 c3) (.int .i64 ae) rfl rfl rfl
  generalize (World.setCell (World.setCell (World.setCell _ _ _) _ _) _ _) = W at f p ⊢
  have F2 := Lib.hid (f)
  have X2 := Lib.hid (X1.out.kp p)
  have Y2 := Lib.hid (Y1.out.kp p)
  have U2 := Lib.hid (U1.out.kp p)
  clear F1 X1 Y1 U1
  clear f p
  have c0_2 := F2.out.c3 0 rfl
  have c1_2 := F2.out.c3 1 rfl
  have c2_2 := F2.out.c3 2 rfl
  clear c0_2 c1_2 c2_2
  refine (CB.out _ Y2.out).mono ?_
  rintro q w3 ⟨u, rfl, hu, hb⟩
  have F3 := Lib.hid (F2.out.call hb)
  have X3 := Lib.hid (X2.out.below hb)
  have Y3 := Lib.hid (Y2.out.below hb)
  have U3 := Lib.hid (U2.out.below hb)
  clear F2 X2 Y2 U2
  have V3 := Lib.hid (hu)
  clear hb
  have c0_3 := F3.out.c3 0 rfl
  have c1_3 := F3.out.c3 1 rfl
  have c2_3 := F3.out.c3 2 rfl
  obtain ⟨a4, k4, c4, rfl⟩ := V3.out.fm
  go_wp2_with fail
  clear c0_3 c1_3 c2_3
  obtain ⟨f, p⟩ := F3.out.s3 1 rfl (.bool bn) (.slice a4 k4 c4) (.int .i64 be) rfl rfl rfl
  generalize (World.setCell (World.setCell (World.setCell _ _ _) _ _) _ _) = W at f p ⊢
  have F4 := Lib.hid (f)
  have X4 := Lib.hid (X3.out.kp p)
  have Y4 := Lib.hid (Y3.out.kp p)
  have U4 := Lib.hid (U3.out.kp p)
  have V4 := Lib.hid (V3.out.kp p)
  clear F3 X3 Y3 U3 V3
  clear f p
  have c0_4 := F4.out.c3 0 rfl
  have c1_4 := F4.out.c3 1 rfl
  have c2_4 := F4.out.c3 2 rfl
  have D1 : Hid (Dg _ (.slice a3 k3 c3) am) := U4.out.dm
  have D2 : Hid (Dg _ (.slice a4 k4 c4) bm) := V4.out.dm
  clear X4 Y4 U4 V4
  clear c0_4 c1_4 c2_4
  refine (CM.out _ _ _ (D1.out.rd (by omega)) (D2.out.rd (by omega))).mono ?_
  rintro q w5 ⟨u, rfl, hu, hb⟩
  have F5 := Lib.hid (F4.out.call hb)
  clear F4
  have M5 := Lib.hid (hu)
  clear hb
  have c0_5 := F5.out.c3 0 rfl
  have c1_5 := F5.out.c3 1 rfl
  have c2_5 := F5.out.c3 2 rfl
  obtain ⟨a5, k5, c5, rfl⟩ := M5.out.form
  clear D1 D2
  go_wp2_with fail
  rw [HG.out]
  clear c0_5 c1_5 c2_5
  refine (CK.out _ _ (M5.out.rd (by omega))).mono ?_
  rintro q w6 ⟨u, rfl, hu, hb⟩
  have F6 := Lib.hid (F5.out.call hb)
  have M6 := Lib.hid (M5.out.below hb)
  clear F5 M5
  have R6 := Lib.hid (hu)
  clear hb
  have c0_6 := F6.out.c3 0 rfl
  have c1_6 := F6.out.c3 1 rfl
  have c2_6 := F6.out.c3 2 rfl
  obtain ⟨a6, k6, c6, rfl⟩ := R6.out.fm
  go_wp2
  obtain ⟨f0, p0⟩ := F6.out.s3 2 rfl (.bool rn) (.slice a6 k6 c6) (.int .i64 re) rfl rfl rfl
  have p := p0
  have f := f0
  clear f0 p0
  generalize (World.setCell (World.setCell (World.setCell _ _ _) _ _) _ _) = W at f p ⊢
  have g2 := f.c3 2 rfl
  refine bodyPost_ret (v := .tuple #[.agg #[.bool rn, .slice a6 k6 c6, .int .i64 re], .int .i64 0]) (by simp [results, Tryz.results16, go_sem, g2]) rfl ?_
  exact ⟨_, rfl, R6.out.kp p, f.b⟩

end Go.Proofs.YtobpioceopfkpaaGreatDoor

/-
  dyad: the worth of a number, and what a comparison tells of it.
-/
namespace Go.Proofs.YtobpioceopfkpaaGreatDoor
open Go.RowKit

def mz (K : Int) (d : Dn) : Nat := d.m * 2 ^ (d.e + K).toNat
/-- a number's worth in units of 2^-K -/
def zv (K : Int) (d : Dn) : Int := if d.neg then -(mz K d : Int) else (mz K d : Int)

theorem cutN_in {e : Int} (h : -2147483648 ≤ e ∧ e ≤ 2147483648) : cutN e = e := by unfold cutN; omega
theorem mz_bareN {K : Int} {d : Dn} (_ : 0 ≤ K) (h : -K ≤ d.e) (he : -2147483648 ≤ d.e ∧ d.e ≤ 2147483648) : mz K (bareN d) = mz K d := by
  by_cases h0 : d.m = 0
  · rw [bareN_zero h0]; simp [mz, h0]
  · rw [bareN_pos h0]
    obtain ⟨m, hm⟩ := lo_spec h0
    unfold mz
    simp only
    rw [cutN_in he]
    generalize hl : lo d.m = l at *
    have e1 : (d.e + (l : Int) + K).toNat = l + (d.e + K).toNat := by omega
    rw [e1, Nat.pow_add, ← Nat.mul_assoc, hm, Nat.mul_div_cancel_left _ (Nat.two_pow_pos _), Nat.mul_comm (2 * m + 1)]
theorem zv_bareN {K : Int} {d : Dn} (hK : 0 ≤ K) (h : -K ≤ d.e) (he : -2147483648 ≤ d.e ∧ d.e ≤ 2147483648) : zv K (bareN d) = zv K d := by
  unfold zv
  rw [mz_bareN hK h he]
  by_cases h0 : d.m = 0
  · have : mz K d = 0 := by simp [mz, h0]
    rw [this]; simp
  · rw [bareN_pos h0]
theorem bareN_low {K : Int} {d : Dn} (hK : 0 ≤ K) (h : -K ≤ d.e) (he : -2147483648 ≤ d.e ∧ d.e ≤ 2147483648) : -K ≤ (bareN d).e := by
  by_cases h0 : d.m = 0
  · rw [bareN_zero h0]; simp; omega
  · rw [bareN_pos h0]; simp only; rw [cutN_in he]; omega
theorem bl_mul_pow {m : Nat} (h : m ≠ 0) (k : Nat) : bl (m * 2 ^ k) = bl m + k := by
  have h1 : 2 ^ k ≤ m * 2 ^ k := Nat.le_mul_of_pos_left _ (by omega)
  rw [bl_shift k _ h1, Nat.mul_div_cancel _ (Nat.two_pow_pos _)]; omega
theorem bl_lt_lt {m n : Nat} (h : bl m < bl n) : m < n := by
  apply Nat.lt_of_not_le; intro hl; have := bl_mono hl; omega
theorem cmpN_ltz {m n : Nat} (h : m < n) : cmpN m n = -1 := by unfold cmpN; rw [if_pos h]
theorem cmpN_gtz {m n : Nat} (h : n < m) : cmpN m n = 1 := by unfold cmpN; rw [if_neg (by omega), if_pos h]
theorem cmpN_eqz {m : Nat} : cmpN m m = 0 := by unfold cmpN; rw [if_neg (by omega), if_neg (by omega)]
theorem cmpN_mul {m n : Nat} (k : Nat) : cmpN (m * 2 ^ k) (n * 2 ^ k) = cmpN m n := by
  rcases Nat.lt_trichotomy m n with h | h | h
  · rw [cmpN_ltz h, cmpN_ltz (Nat.mul_lt_mul_of_pos_right h (Nat.two_pow_pos _))]
  · subst h; rw [cmpN_eqz, cmpN_eqz]
  · rw [cmpN_gtz h, cmpN_gtz (Nat.mul_lt_mul_of_pos_right h (Nat.two_pow_pos _))]
theorem sizeB_is {K : Int} {A B : Dn} (hA : A.m ≠ 0) (hB : B.m ≠ 0) (ha : -K ≤ A.e) (hb : -K ≤ B.e) : sizeB A B = cmpN (mz K A) (mz K B) := by
  unfold sizeB mz
  by_cases h : (bl A.m : Int) + A.e = (bl B.m : Int) + B.e
  · rw [if_pos h]
    unfold widN
    rcases Int.lt_trichotomy ((bl A.m : Int) - bl B.m) 0 with hn | hn | hn
    · rw [if_neg (by omega), if_pos (by omega)]
      have e1 : (A.e + K).toNat = (-((bl A.m : Int) - bl B.m)).toNat + (B.e + K).toNat := by omega
      rw [e1, Nat.pow_add, ← Nat.mul_assoc, cmpN_mul]
    · rw [if_pos (by omega), if_pos (by omega)]
      have e1 : A.e = B.e := by omega
      rw [e1, cmpN_mul]
    · rw [if_pos (by omega), if_neg (by omega)]
      have e1 : (B.e + K).toNat = ((bl A.m : Int) - bl B.m).toNat + (A.e + K).toNat := by omega
      rw [e1, Nat.pow_add, ← Nat.mul_assoc, cmpN_mul]
  · rw [if_neg h]
    unfold cmpI
    have b1 := bl_mul_pow hA (A.e + K).toNat
    have b2 := bl_mul_pow hB (B.e + K).toNat
    by_cases h1 : (bl A.m : Int) + A.e < (bl B.m : Int) + B.e
    · rw [if_pos h1, cmpN_ltz (bl_lt_lt (by omega))]
    · rw [if_neg h1, if_pos (by omega), cmpN_gtz (bl_lt_lt (by omega))]
theorem mz_zero {K : Int} {d : Dn} : mz K d = 0 ↔ d.m = 0 := by
  unfold mz
  rw [Nat.mul_eq_zero]
  have := Nat.two_pow_pos (d.e + K).toNat
  omega
theorem cmpI_ltz {x y : Int} (h : x < y) : cmpI x y = -1 := by unfold cmpI; rw [if_pos h]
theorem cmpI_gtz {x y : Int} (h : y < x) : cmpI x y = 1 := by unfold cmpI; rw [if_neg (by omega), if_pos h]
theorem cmpI_eqz {x : Int} : cmpI x x = 0 := by unfold cmpI; rw [if_neg (by omega), if_neg (by omega)]
theorem signN_is {K : Int} (d : Dn) : signN d = cmpI (zv K d) 0 := by
  unfold signN zv
  by_cases h : d.m = 0
  · rw [if_pos h, mz_zero.2 h]; simp [cmpI]
  · have : 0 < mz K d := Nat.pos_of_ne_zero (fun h' => h (mz_zero.1 h'))
    rw [if_neg h]
    cases d.neg
    · simp only [Bool.false_eq_true, if_false]; rw [cmpI_gtz (by omega)]
    · simp only [if_true]; rw [cmpI_ltz (by omega)]
theorem CmpD_is {K : Int} {a b : Dn} (hK : 0 ≤ K) (ha : -K ≤ a.e) (hb : -K ≤ b.e) (ha2 : -2147483648 ≤ a.e ∧ a.e ≤ 2147483648) (hb2 : -2147483648 ≤ b.e ∧ b.e ≤ 2147483648) : CmpD a b = cmpI (zv K a) (zv K b) := by
  unfold CmpD
  by_cases h : signN a ≠ signN b ∨ signN a = 0
  · rw [if_pos h, signN_is (K := K) a, signN_is (K := K) b]
    rw [signN_is (K := K) a, signN_is (K := K) b] at h
    generalize zv K a = x at *
    generalize zv K b = y at *
    unfold cmpI at *
    repeat' split
    all_goals first | rfl | omega | (exfalso; repeat' split at h) <;> omega
  · rw [if_neg h]
    have h1 : signN a = signN b := by apply Classical.byContradiction; intro h2; exact h (Or.inl h2)
    have h2 : signN a ≠ 0 := fun h2 => h (Or.inr h2)
    have ma : a.m ≠ 0 := fun h3 => h2 (by unfold signN; rw [if_pos h3])
    have mb : b.m ≠ 0 := fun h3 => h2 (by rw [h1]; unfold signN; rw [if_pos h3])
    unfold sizeN
    rw [sizeB_is (K := K) (fun h => ma (bareN_m0.1 h)) (fun h => mb (bareN_m0.1 h)) (bareN_low hK ha ha2) (bareN_low hK hb hb2), mz_bareN hK ha ha2, mz_bareN hK hb hb2]
    unfold signN at *
    rw [if_neg ma] at h1 ⊢
    rw [if_neg mb] at h1
    unfold zv
    generalize mz K a = x at *
    generalize mz K b = y at *
    unfold cmpN cmpI
    cases hna : a.neg <;> cases hnb : b.neg <;> simp [hna, hnb] at h1 ⊢ <;> (repeat' split) <;> omega

end Go.Proofs.YtobpioceopfkpaaGreatDoor

/-
  dyad: Add of small numbers. Printed by gen_dg.py.
-/
namespace Go.Proofs.YtobpioceopfkpaaGreatDoor
open Go.RowKit

theorem bl_shl2 (n k : Nat) : bl (n * 2 ^ k) ≤ bl n + k := by
  apply bl_le
  rw [Nat.pow_add]
  exact Nat.mul_lt_mul_of_pos_right (lt_bl n) (Nat.two_pow_pos _)
theorem cmpN_neg2 {m n : Nat} : (cmpN m n < 0) ↔ m < n := by unfold cmpN; split; omega; split <;> omega
def addD (A B : Dn) : Dn :=
  if A.m = 0 then B else if B.m = 0 then A else
    if A.neg = B.neg then bareN ⟨A.neg, widN A.m (A.e - min A.e B.e) + widN B.m (B.e - min A.e B.e), min A.e B.e⟩
    else if widN A.m (A.e - min A.e B.e) < widN B.m (B.e - min A.e B.e) then bareN ⟨B.neg, widN B.m (B.e - min A.e B.e) - widN A.m (A.e - min A.e B.e), min A.e B.e⟩
    else bareN ⟨A.neg, widN A.m (A.e - min A.e B.e) - widN B.m (B.e - min A.e B.e), min A.e B.e⟩
def AddD (a b : Dn) : Dn := addD (bareN a) (bareN b)
theorem topN_le {d : Dn} (h : bl d.m ≤ 4000 ∧ -4000 ≤ d.e ∧ d.e ≤ 8000) : -4000 ≤ topN d ∧ topN d ≤ 20000 := by
  unfold topN
  by_cases h0 : d.m = 0
  · rw [if_pos h0]; omega
  · rw [if_neg h0, bareN_pos h0]
    have k1 := lo_le_bl h0
    have k3 : cutN d.e = d.e := by unfold cutN; omega
    have : d.m / 2 ^ lo d.m ≤ d.m := Nat.div_le_self _ _
    have k2 := bl_mono this
    rw [k3]
    have k4 : 0 < bl (d.m / 2 ^ lo d.m) := by
      have h5 : (bareN d).m ≠ 0 := fun h => h0 (bareN_m0.1 h)
      rw [bareN_pos h0] at h5
      have := bl_pos h5
      simp only at this; omega
    simp only; omega
theorem widN_bl {m : Nat} {n : Int} (h : n ≤ 12000) : bl (widN m n) ≤ bl m + 12000 := by
  unfold widN
  split
  · omega
  · exact Nat.le_trans (bl_shl2 _ _) (by omega)
theorem bl_add {m n k : Nat} (h : bl m ≤ k) (h' : bl n ≤ k) : bl (m + n) ≤ k + 1 := by
  apply bl_le
  have h1 := Nat.lt_of_lt_of_le (lt_bl m) (Nat.pow_le_pow_right (by decide) h)
  have h2 := Nat.lt_of_lt_of_le (lt_bl n) (Nat.pow_le_pow_right (by decide) h')
  rw [Nat.pow_succ]; omega

set_option maxRecDepth 100000 in
set_option maxHeartbeats 4000000 in
theorem Add_s {w : World} {u v : Value} {a b : Dn} (ha : Ry w u a) (hb : Ry w v b) (sa : Sd a) (sb : Sd b) : Calls Tryz.prog 157 #[u, v] w (RetCE (AddD a b) 0 w) := by
  have CA := Lib.hid (fun w (h : Ry w u a) => Bare_s h sa)
  have CB := Lib.hid (fun w (h : Ry w v b) => Bare_s h sb)
  obtain ⟨a1, k1, c1, rfl⟩ := ha.form
  obtain ⟨a2, k2, c2, rfl⟩ := hb.form
  have ba := sa.bare
  have bb := sb.bare
  have HM : AddD a b = addD (bareN a) (bareN b) := rfl
  rw [HM]
  clear HM
  generalize bareN a = A at *
  generalize bareN b = B at *
  have ta := topN_le ba
  have tb := topN_le bb
  have CT1 := Lib.hid (fun w u (h : Cy w u A) => Top_d h.ry)
  have CT2 := Lib.hid (fun w u (h : Cy w u B) => Top_d h.ry)
  generalize topN A = x at *
  generalize topN B = y at *
  obtain ⟨an, am, ae⟩ := A
  obtain ⟨bn, bm, be⟩ := B
  simp only at ba bb CT1 CT2
  have W1 := Lib.hid (fun w u (h : Dg w u am) n hn => wid_r h (by omega) n hn)
  have W2 := Lib.hid (fun w u (h : Dg w u bm) n hn => wid_r h (by omega) n hn)
  obtain ⟨S, hS⟩ : ∃ S, S = addD ⟨an, am, ae⟩ ⟨bn, bm, be⟩ := ⟨_, rfl⟩
  have HS : Hid (S = if am = 0 then ⟨bn, bm, be⟩ else if bm = 0 then ⟨an, am, ae⟩ else
    if an = bn then bareN ⟨an, widN am (ae - min ae be) + widN bm (be - min ae be), min ae be⟩
    else if widN am (ae - min ae be) < widN bm (be - min ae be) then bareN ⟨bn, widN bm (be - min ae be) - widN am (ae - min ae be), min ae be⟩
    else bareN ⟨an, widN am (ae - min ae be) - widN bm (be - min ae be), min ae be⟩) := hS
  rw [← hS]
  clear hS
  have hl1 : min ae be ≤ ae := Int.min_le_left _ _
  have hl2 : min ae be ≤ be := Int.min_le_right _ _
  have hl3 : -4000 ≤ min ae be := by omega
  have bp := widN_bl (m := am) (n := ae - min ae be) (by omega)
  have bq := widN_bl (m := bm) (n := be - min ae be) (by omega)
  have W1 := Lib.hid (fun w u h => W1.out w u h (ae - min ae be) (by omega))
  have W2 := Lib.hid (fun w u h => W2.out w u h (be - min ae be) (by omega))
  generalize hlow : min ae be = low at *
  generalize widN am (ae - low) = pp at *
  generalize widN bm (be - low) = qq at *
  have q1 : IntKind.i64.wrap (ae - low) = ae - low := IntWalk.i64_in _ (by omega)
  have q2 : IntKind.i64.wrap (be - low) = be - low := IntWalk.i64_in _ (by omega)
  have bp2 : bl pp ≤ 16000 := by omega
  have bq2 : bl qq ≤ 16000 := by omega
  have K1 := Lib.hid (fun w u (h : Rd w u (pp + qq)) => Make_s (neg := an) (e := low) h (Nat.le_trans (bl_add bp2 bq2) (by decide)) (by omega))
  have K2 := Lib.hid (fun w u (h : Dg w u (pp - qq)) => Make_s (neg := an) (e := low) (h.rd (Nat.le_trans (bl_mono (Nat.sub_le pp qq)) (by omega))) (Nat.le_trans (bl_mono (Nat.sub_le pp qq)) (by omega)) (by omega))
  have K3 := Lib.hid (fun w u (h : Dg w u (qq - pp)) => Make_s (neg := bn) (e := low) (h.rd (Nat.le_trans (bl_mono (Nat.sub_le qq pp)) (by omega))) (Nat.le_trans (bl_mono (Nat.sub_le qq pp)) (by omega)) (by omega))
  have BS : Hid (bl (pp + qq) ≤ 6000000) := Nat.le_trans (bl_add bp2 bq2) (by decide)
  have CP := Lib.hid (fun w u v (h : Rd w u pp) (k : Rd w v qq) => cmp_r h k)
  have CN := Lib.hid (cmpN_neg2 (m := pp) (n := qq))
  have CD1 := Lib.hid (fun w u v (h : Rd w u pp) (k : Rd w v qq) => sub_r h k)
  have CD2 := Lib.hid (fun w u v (h : Rd w u qq) (k : Rd w v pp) => sub_r h k)
  have CAD := Lib.hid (fun w u v (h : Rd w u pp) (k : Rd w v qq) => add_r h k)
  generalize cmpN pp qq = c at *
  have HP := Lib.hid (And.intro bp2 bq2)
  clear bp bq bp2 bq2
  have hd : decide (65535 < max x y - low) = false := decide_eq_false (by omega)
  have hd2 : IntKind.i64.wrap (max x y - low) = max x y - low := IntWalk.i64_in _ (by omega)
  go_enter Tryz.func157, Tryz.ntmps157
  have F0 := Lib.hid (Fx.three w 42 #[.bool a.neg, .slice a1 k1 c1, .int .i64 a.e] 42 #[.bool b.neg, .slice a2 k2 c2, .int .i64 b.e] 42 #[.bool false, .slice none 0 0, .int .i64 0] rfl rfl rfl)
  have X0 := Lib.hid (((ha.alloc (.cells #[.bool a.neg, .slice a1 k1 c1, .int .i64 a.e] 42)).alloc (.cells #[.bool b.neg, .slice a2 k2 c2, .int .i64 b.e] 42)).alloc (.cells #[.bool false, .slice none 0 0, .int .i64 0] 42))
  have Y0 := Lib.hid (((hb.alloc (.cells #[.bool a.neg, .slice a1 k1 c1, .int .i64 a.e] 42)).alloc (.cells #[.bool b.neg, .slice a2 k2 c2, .int .i64 b.e] 42)).alloc (.cells #[.bool false, .slice none 0 0, .int .i64 0] 42))
  clear ha hb
  go_wp2_with fail
  generalize World.alloc (World.alloc (World.alloc _ _) _) _ = w0 at F0 X0 Y0 ⊢
  have c0_0 := F0.out.c3 0 rfl
  have c1_0 := F0.out.c3 1 rfl
  have c2_0 := F0.out.c3 2 rfl
  clear c0_0 c1_0 c2_0
  refine (CA.out _ X0.out).mono ?_
  rintro q w1 ⟨u, rfl, hu, hb⟩
  have F1 := Lib.hid (F0.out.call hb)
  have X1 := Lib.hid (X0.out.below hb)
  have Y1 := Lib.hid (Y0.out.below hb)
  clear F0 X0 Y0
  have U1 := Lib.hid (hu)
  clear hb
  have c0_1 := F1.out.c3 0 rfl
  have c1_1 := F1.out.c3 1 rfl
  have c2_1 := F1.out.c3 2 rfl
  clear X1
  obtain ⟨a3, k3, c3, rfl⟩ := U1.out.fm
  go_wp2_with fail
  clear c0_1 c1_1 c2_1
  obtain ⟨f, p⟩ := F1.out.s3 0 rfl (.bool an) (.slice a3 k3 c3) (.int .i64 ae) rfl rfl rfl
  generalize (World.setCell (World.setCell (World.setCell _ _ _) _ _) _ _) = W at f p ⊢
  have F2 := Lib.hid (f)
  have Y2 := Lib.hid (Y1.out.kp p)
  have U2 := Lib.hid (U1.out.kp p)
  clear F1 Y1 U1
  clear f p
  have c0_2 := F2.out.c3 0 rfl
  have c1_2 := F2.out.c3 1 rfl
  have c2_2 := F2.out.c3 2 rfl
  clear c0_2 c1_2 c2_2
  refine (CB.out _ Y2.out).mono ?_
  rintro q w3 ⟨u, rfl, hu, hb⟩
  have F3 := Lib.hid (F2.out.call hb)
  have Y3 := Lib.hid (Y2.out.below hb)
  have U3 := Lib.hid (U2.out.below hb)
  clear F2 Y2 U2
  have V3 := Lib.hid (hu)
  clear hb
  have c0_3 := F3.out.c3 0 rfl
  have c1_3 := F3.out.c3 1 rfl
  have c2_3 := F3.out.c3 2 rfl
  clear Y3
  obtain ⟨a4, k4, c4, rfl⟩ := V3.out.fm
  have hk := U3.out.dm.len0
  have hk2 := V3.out.dm.len0
  go_upto_region 7 with (fail)
  clear c0_3 c1_3 c2_3
  obtain ⟨f, p⟩ := F3.out.s3 1 rfl (.bool bn) (.slice a4 k4 c4) (.int .i64 be) rfl rfl rfl
  generalize (World.setCell (World.setCell (World.setCell _ _ _) _ _) _ _) = W at f p ⊢
  have F4 := Lib.hid (f)
  have U4 := Lib.hid (U3.out.kp p)
  have V4 := Lib.hid (V3.out.kp p)
  clear F3 U3 V3
  clear f p
  have c0_4 := F4.out.c3 0 rfl
  have c1_4 := F4.out.c3 1 rfl
  have c2_4 := F4.out.c3 2 rfl
  by_cases h0 : am = 0
  · have HE : Hid (S = ⟨bn, bm, be⟩) := HS.out.trans (if_pos h0)
    obtain rfl : k3 = 0 := hk.1 h0
    clear hk hk2 h0
    go_wp2
    obtain ⟨f0, p0⟩ := F4.out.s3 2 rfl (.bool bn) (.slice a4 k4 c4) (.int .i64 be) rfl rfl rfl
    have p := p0
    have f := f0
    clear f0 p0
    generalize (World.setCell (World.setCell (World.setCell _ _ _) _ _) _ _) = W at f p ⊢
    have g2 := f.c3 2 rfl
    refine bodyPost_ret (v := .tuple #[.agg #[.bool bn, .slice a4 k4 c4, .int .i64 be], .int .i64 0]) (by simp [results, Tryz.results157, go_sem, g2]) rfl ?_
    rw [HE.out]
    exact ⟨_, rfl, V4.out.kp p, f.b⟩
  · have z1 : ((k3 : Int) == 0) = false := by rw [beq_eq_false_iff_ne]; intro h; exact h0 (hk.2 (by omega))
    by_cases h1 : bm = 0
    · have HE : Hid (S = ⟨an, am, ae⟩) := HS.out.trans ((if_neg h0).trans (if_pos h1))
      obtain rfl : k4 = 0 := hk2.1 h1
      clear hk hk2 h0 h1
      go_wp2
      obtain ⟨f0, p0⟩ := F4.out.s3 2 rfl (.bool an) (.slice a3 k3 c3) (.int .i64 ae) rfl rfl rfl
      have p := p0
      have f := f0
      clear f0 p0
      generalize (World.setCell (World.setCell (World.setCell _ _ _) _ _) _ _) = W at f p ⊢
      have g2 := f.c3 2 rfl
      refine bodyPost_ret (v := .tuple #[.agg #[.bool an, .slice a3 k3 c3, .int .i64 ae], .int .i64 0]) (by simp [results, Tryz.results157, go_sem, g2]) rfl ?_
      rw [HE.out]
      exact ⟨_, rfl, U4.out.kp p, f.b⟩
    · have z2 : ((k4 : Int) == 0) = false := by rw [beq_eq_false_iff_ne]; intro h; exact h1 (hk2.2 (by omega))
      have HS := Lib.hid (HS.out.trans ((if_neg h0).trans (if_neg h1)))
      clear hk hk2 h0 h1
      go_wp2_with fail
      clear c0_4 c1_4 c2_4
      refine (CT1.out _ _ U4.out).mono ?_
      rintro q w5 ⟨rfl, hb⟩
      have F5 := Lib.hid (F4.out.call hb)
      have U5 := Lib.hid (U4.out.below hb)
      have V5 := Lib.hid (V4.out.below hb)
      clear F4 U4 V4
      clear hb
      have c0_5 := F5.out.c3 0 rfl
      have c1_5 := F5.out.c3 1 rfl
      have c2_5 := F5.out.c3 2 rfl
      go_wp2_with fail
      clear c0_5 c1_5 c2_5
      refine (CT2.out _ _ V5.out).mono ?_
      rintro q w6 ⟨rfl, hb⟩
      have F6 := Lib.hid (F5.out.call hb)
      have U6 := Lib.hid (U5.out.below hb)
      have V6 := Lib.hid (V5.out.below hb)
      clear F5 U5 V5
      clear hb
      have c0_6 := F6.out.c3 0 rfl
      have c1_6 := F6.out.c3 1 rfl
      have c2_6 := F6.out.c3 2 rfl
      go_wp2_with fail
      clear hd hd2 hlow
      clear c0_6 c1_6 c2_6
      have FC := Lib.hid (And.intro (F6.out.c3 0 rfl).1 ((F6.out.c3 1 rfl).1))
      go_region_held3 (fun w' => (w'.cell? ⟨w.heap.size, 0, none⟩ = some (.bool an) ∧ w'.cell? ⟨w.heap.size, 1, none⟩ = some (.slice a3 k3 c3) ∧ w'.cell? ⟨w.heap.size, 2, none⟩ = some (.int .i64 ae)) ∧ (w'.cell? ⟨w.heap.size + 1, 0, none⟩ = some (.bool bn) ∧ w'.cell? ⟨w.heap.size + 1, 1, none⟩ = some (.slice a4 k4 c4) ∧ w'.cell? ⟨w.heap.size + 1, 2, none⟩ = some (.int .i64 be))) (first | exact FC.out) (first | (go_at_call 74; (with_reducible refine (W2.out _ _ V7.out.dm).mono ?_); rintro q ww8 ⟨u2, rfl, hu, hb⟩; have F8 := Lib.hid (F7.out.call hb); have U8 := Lib.hid (U7.out.below hb); have V8 := Lib.hid (V7.out.below hb); have P8 := Lib.hid (P7.out.below hb); have Q8 := Lib.hid (hu); obtain ⟨a6, k6, c6, rfl⟩ := Q8.out.form; have FC := Lib.hid (And.intro (F8.out.c3 0 rfl).1 ((F8.out.c3 1 rfl).1)); have c0_8 := F8.out.c3 0 rfl; have c1_8 := F8.out.c3 1 rfl; have c2_8 := F8.out.c3 2 rfl; clear hb) | (go_at_call 74; (with_reducible refine (W1.out _ _ (U6.out.drew).dm).mono ?_); rintro q ww7 ⟨u1, rfl, hu, hb⟩; have F7 := Lib.hid ((F6.out.drew).call hb); have U7 := Lib.hid ((U6.out.drew).below hb); have V7 := Lib.hid ((V6.out.drew).below hb); have P7 := Lib.hid (hu); obtain ⟨a5, k5, c5, rfl⟩ := P7.out.form; have FC := Lib.hid (And.intro (F7.out.c3 0 rfl).1 ((F7.out.c3 1 rfl).1)); have c0_7 := F7.out.c3 0 rfl; have c1_7 := F7.out.c3 1 rfl; have c2_7 := F7.out.c3 2 rfl; clear hb))
      clear q1 q2 z1 z2
      clear U8 V8
      by_cases h2 : an = bn
      · subst h2
        have HE := Lib.hid (HS.out.trans (if_pos rfl))
        generalize hr : bareN ⟨an, pp + qq, low⟩ = r at *
        obtain ⟨rn, rm, re⟩ := r
        have HRR := Lib.hid hr
        clear hr HS
        go_upto_region 18 with (fail)
        clear c0_8 c1_8 c2_8
        have FC := Lib.hid ((F8.out.c3 0 rfl).1)
        go_region_held3 (fun w' => (w'.cell? ⟨w.heap.size, 0, none⟩ = some (.bool an) ∧ w'.cell? ⟨w.heap.size, 1, none⟩ = some (.slice a3 k3 c3) ∧ w'.cell? ⟨w.heap.size, 2, none⟩ = some (.int .i64 ae))) (first | exact FC.out | exact ((F10.out.s3 2 rfl (.bool rn) (.slice a8 k8 c8) (.int .i64 re) rfl rfl rfl).1.c3 0 rfl).1) (first | (go_at_call 30; (with_reducible refine (K1.out _ _ (R9.out.rd BS.out)).mono ?_); rintro q ww10 ⟨u4, rfl, hu, hb⟩; have F10 := Lib.hid (F9.out.call hb); have P10 := Lib.hid (P9.out.below hb); have Q10 := Lib.hid (Q9.out.below hb); have R10 := Lib.hid (R9.out.below hb); have Z10 := Lib.hid (hu); obtain ⟨a8, k8, c8, rfl⟩ := Z10.out.fm; have FC := Lib.hid ((F10.out.c3 0 rfl).1); have c0_10 := F10.out.c3 0 rfl; have c1_10 := F10.out.c3 1 rfl; have c2_10 := F10.out.c3 2 rfl; clear hb) | (go_at_call 123; (with_reducible refine (CAD.out _ _ _ (P8.out.drew) (Q8.out.drew)).mono ?_); rintro q ww9 ⟨u3, rfl, hu, hb⟩; have F9 := Lib.hid ((F8.out.drew).call hb); have P9 := Lib.hid ((P8.out.drew).below hb); have Q9 := Lib.hid ((Q8.out.drew).below hb); have R9 := Lib.hid (hu); obtain ⟨a7, k7, c7, rfl⟩ := R9.out.form; have FC := Lib.hid ((F9.out.c3 0 rfl).1); have c0_9 := F9.out.c3 0 rfl; have c1_9 := F9.out.c3 1 rfl; have c2_9 := F9.out.c3 2 rfl; clear hb))
        go_wp2
        obtain ⟨f0, p0⟩ := F10.out.s3 2 rfl (.bool rn) (.slice a8 k8 c8) (.int .i64 re) rfl rfl rfl
        have p := p0
        have f := f0
        clear f0 p0
        generalize (World.setCell (World.setCell (World.setCell _ _ _) _ _) _ _) = W at f p ⊢
        have g2 := f.c3 2 rfl
        refine bodyPost_ret (v := .tuple #[.agg #[.bool rn, .slice a8 k8 c8, .int .i64 re], .int .i64 0]) (by simp [results, Tryz.results157, go_sem, g2]) rfl ?_
        rw [HE.out]
        exact ⟨_, rfl, Z10.out.kp p, f.b⟩
      · have HS := Lib.hid (HS.out.trans (if_neg h2))
        have z3 : (an == bn) = false := beq_eq_false_iff_ne.2 h2
        clear h2
        go_wp2_with fail
        clear c0_8 c1_8 c2_8
        refine (CP.out _ _ _ P8.out Q8.out).mono ?_
        rintro q w9 ⟨rfl, hb⟩
        have F9 := Lib.hid (F8.out.call hb)
        have P9 := Lib.hid (P8.out.below hb)
        have Q9 := Lib.hid (Q8.out.below hb)
        clear F8 P8 Q8
        clear hb
        have c0_9 := F9.out.c3 0 rfl
        have c1_9 := F9.out.c3 1 rfl
        have c2_9 := F9.out.c3 2 rfl
        by_cases h3 : c < 0
        · have HM := Lib.hid (CN.out.1 h3)
          have HE := Lib.hid (HS.out.trans (if_pos HM.out))
          have z4 : decide (c < 0) = true := decide_eq_true h3
          generalize hr : bareN ⟨bn, qq - pp, low⟩ = r at *
          obtain ⟨rn, rm, re⟩ := r
          have HRR := Lib.hid hr
          clear hr HS h3
          go_upto_region 21 with (fail)
          clear c0_9 c1_9 c2_9
          obtain ⟨f, p⟩ := F9.out.s3_0 0 rfl (.bool bn) rfl
          generalize (World.setCell _ _ _) = W at f p ⊢
          have F10 := Lib.hid (f)
          have P10 := Lib.hid (P9.out.kp p)
          have Q10 := Lib.hid (Q9.out.kp p)
          clear F9 P9 Q9
          clear f p
          have c0_10 := F10.out.c3 0 rfl
          have c1_10 := F10.out.c3 1 rfl
          have c2_10 := F10.out.c3 2 rfl
          go_wp2_with fail
          clear c0_10 c1_10 c2_10
          refine (CD2.out _ _ _ Q10.out P10.out).mono ?_
          rintro q w11 ⟨u, rfl, hu, hb⟩
          have F11 := Lib.hid (F10.out.call hb)
          have P11 := Lib.hid (P10.out.below hb)
          have Q11 := Lib.hid (Q10.out.below hb)
          clear F10 P10 Q10
          have R11 := Lib.hid (hu)
          clear hb
          have c0_11 := F11.out.c3 0 rfl
          have c1_11 := F11.out.c3 1 rfl
          have c2_11 := F11.out.c3 2 rfl
          obtain ⟨a7, k7, c7, rfl⟩ := R11.out.form
          go_wp2_with fail
          clear c0_11 c1_11 c2_11
          refine (K3.out _ _ R11.out).mono ?_
          rintro q w12 ⟨u, rfl, hu, hb⟩
          have F12 := Lib.hid (F11.out.call hb)
          have P12 := Lib.hid (P11.out.below hb)
          have Q12 := Lib.hid (Q11.out.below hb)
          have R12 := Lib.hid (R11.out.below hb)
          clear F11 P11 Q11 R11
          have Z12 := Lib.hid (hu)
          clear hb
          have c0_12 := F12.out.c3 0 rfl
          have c1_12 := F12.out.c3 1 rfl
          have c2_12 := F12.out.c3 2 rfl
          obtain ⟨a8, k8, c8, rfl⟩ := Z12.out.fm
          go_wp2
          obtain ⟨f0, p0⟩ := F12.out.s3 2 rfl (.bool rn) (.slice a8 k8 c8) (.int .i64 re) rfl rfl rfl
          have p := p0
          have f := f0
          clear f0 p0
          generalize (World.setCell (World.setCell (World.setCell _ _ _) _ _) _ _) = W at f p ⊢
          have g2 := f.c3 2 rfl
          refine bodyPost_ret (v := .tuple #[.agg #[.bool rn, .slice a8 k8 c8, .int .i64 re], .int .i64 0]) (by simp [results, Tryz.results157, go_sem, g2]) rfl ?_
          rw [HE.out]
          exact ⟨_, rfl, Z12.out.kp p, f.b⟩
        · have HM := Lib.hid (fun h => h3 (CN.out.2 h))
          have HE := Lib.hid (HS.out.trans (if_neg HM.out))
          have z4 : decide (c < 0) = false := decide_eq_false h3
          generalize hr : bareN ⟨an, pp - qq, low⟩ = r at *
          obtain ⟨rn, rm, re⟩ := r
          have HRR := Lib.hid hr
          clear hr HS h3
          go_wp2_with fail
          clear c0_9 c1_9 c2_9
          refine (CD1.out _ _ _ P9.out Q9.out).mono ?_
          rintro q w10 ⟨u, rfl, hu, hb⟩
          have F10 := Lib.hid (F9.out.call hb)
          have P10 := Lib.hid (P9.out.below hb)
          have Q10 := Lib.hid (Q9.out.below hb)
          clear F9 P9 Q9
          have R10 := Lib.hid (hu)
          clear hb
          have c0_10 := F10.out.c3 0 rfl
          have c1_10 := F10.out.c3 1 rfl
          have c2_10 := F10.out.c3 2 rfl
          obtain ⟨a7, k7, c7, rfl⟩ := R10.out.form
          go_wp2_with fail
          clear c0_10 c1_10 c2_10
          refine (K2.out _ _ R10.out).mono ?_
          rintro q w11 ⟨u, rfl, hu, hb⟩
          have F11 := Lib.hid (F10.out.call hb)
          have P11 := Lib.hid (P10.out.below hb)
          have Q11 := Lib.hid (Q10.out.below hb)
          have R11 := Lib.hid (R10.out.below hb)
          clear F10 P10 Q10 R10
          have Z11 := Lib.hid (hu)
          clear hb
          have c0_11 := F11.out.c3 0 rfl
          have c1_11 := F11.out.c3 1 rfl
          have c2_11 := F11.out.c3 2 rfl
          obtain ⟨a8, k8, c8, rfl⟩ := Z11.out.fm
          go_wp2
          obtain ⟨f0, p0⟩ := F11.out.s3 2 rfl (.bool rn) (.slice a8 k8 c8) (.int .i64 re) rfl rfl rfl
          have p := p0
          have f := f0
          clear f0 p0
          generalize (World.setCell (World.setCell (World.setCell _ _ _) _ _) _ _) = W at f p ⊢
          have g2 := f.c3 2 rfl
          refine bodyPost_ret (v := .tuple #[.agg #[.bool rn, .slice a8 k8 c8, .int .i64 re], .int .i64 0]) (by simp [results, Tryz.results157, go_sem, g2]) rfl ?_
          rw [HE.out]
          exact ⟨_, rfl, Z11.out.kp p, f.b⟩

end Go.Proofs.YtobpioceopfkpaaGreatDoor

/-
  dyad: Minus; series: Within. Printed by gen_dh.py.
-/
namespace Go.Proofs.YtobpioceopfkpaaGreatDoor
open Go.RowKit

def MinusD (d : Dn) : Dn := if (bareN d).m = 0 then ⟨false, 0, 0⟩ else ⟨!(bareN d).neg, (bareN d).m, (bareN d).e⟩
theorem Cy.mk {w : World} {n : Bool} {a : Option Addr} {k c : Nat} {m : Nat} {e : Int} (h : Dg w (.slice a k c) m) (hb : bl m ≤ 255000) (he : -4611686018427387904 ≤ e ∧ e ≤ 4611686018427387904) : Cy w (.agg #[.bool n, .slice a k c, .int .i64 e]) ⟨n, m, e⟩ := ⟨_, rfl, h, hb, he⟩

set_option maxRecDepth 100000 in
set_option maxHeartbeats 4000000 in
theorem Minus_s {w : World} {u : Value} {d : Dn} (hu : Ry w u d) (sd : Sd d) : Calls Tryz.prog 39 #[u] w (RetC (MinusD d) w) := by
  have CA := Lib.hid (fun w (h : Ry w u d) => bare_d h)
  obtain ⟨a1, k1, c1, rfl⟩ := hu.form
  have bd := sd.bare
  have HM : MinusD d = if (bareN d).m = 0 then ⟨false, 0, 0⟩ else ⟨!(bareN d).neg, (bareN d).m, (bareN d).e⟩ := rfl
  generalize MinusD d = M at *
  generalize bareN d = D at *
  obtain ⟨n, m, e⟩ := D
  simp only at bd HM
  have HM' := Lib.hid HM
  clear HM
  have BD := Lib.hid bd
  have CB := Lib.hid (fun w u (h : Cy w u ⟨!n, m, e⟩) => (show Calls Tryz.prog 31 #[u] w (RetCE (bareN ⟨!n, m, e⟩) 0 w) from by
    have h1 := Bare_d h.ry
    rw [BareN_sm (bareN_span (d := ⟨!n, m, e⟩) ⟨by show bl m ≤ 255000; omega, by show -500000 ≤ e ∧ e ≤ 500000; omega⟩)] at h1
    exact h1))
  generalize bareN ⟨!n, m, e⟩ = R at *
  obtain ⟨rn, rm, re⟩ := R
  clear bd
  go_enter Tryz.func39, Tryz.ntmps39
  have F0 := Lib.hid (Fx.two w 42 #[.bool d.neg, .slice a1 k1 c1, .int .i64 d.e] 42 #[.bool false, .slice none 0 0, .int .i64 0] rfl rfl)
  have X0 := Lib.hid ((hu.alloc (.cells #[.bool d.neg, .slice a1 k1 c1, .int .i64 d.e] 42)).alloc (.cells #[.bool false, .slice none 0 0, .int .i64 0] 42))
  clear hu
  go_wp2_with fail
  generalize World.alloc (World.alloc _ _) _ = w0 at F0 X0 ⊢
  have c0_0 := F0.out.c3 0 rfl
  have c1_0 := F0.out.c3 1 rfl
  clear c0_0 c1_0
  refine (CA.out _ X0.out).mono ?_
  rintro q w1 ⟨u, rfl, hu, hb⟩
  have F1 := Lib.hid (F0.out.call hb)
  have X1 := Lib.hid (X0.out.below hb)
  clear F0 X0
  have U1 := Lib.hid (hu)
  clear hb
  have c0_1 := F1.out.c3 0 rfl
  have c1_1 := F1.out.c3 1 rfl
  clear X1
  obtain ⟨a3, k3, c3, rfl⟩ := U1.out.fm
  have hk := U1.out.dm.len0
  go_upto_region 2 with (fail)
  clear c0_1 c1_1
  have F2 := Lib.hid (F1.out.new 42 #[.bool n, .slice a3 k3 c3, .int .i64 e] rfl)
  have U2 := Lib.hid (U1.out.alloc (.cells #[.bool n, .slice a3 k3 c3, .int .i64 e] 42))
  clear F1 U1
  obtain ⟨g1, hg1⟩ : ∃ g, g = (World.heap w1).size := ⟨_, rfl⟩
  rw [← hg1] at F2 ⊢
  clear hg1
  simp only [List.nil_append, List.cons_append] at F2
  generalize World.alloc w1 _ = W2 at F2 U2 ⊢
  have c0_2 := F2.out.c3 0 rfl
  have c1_2 := F2.out.c3 1 rfl
  have c2_2 := F2.out.c3 2 rfl
  by_cases h0 : m = 0
  · have HE : Hid (M = ⟨false, 0, 0⟩) := HM'.out.trans (if_pos h0)
    obtain rfl : k3 = 0 := hk.1 h0
    clear hk h0
    go_wp2
    obtain ⟨f0, p0⟩ := F2.out.s3 1 rfl (.bool false) (.slice none 0 0) (.int .i64 0) rfl rfl rfl
    have p := p0
    have f := f0
    clear f0 p0
    generalize (World.setCell (World.setCell (World.setCell _ _ _) _ _) _ _) = W at f p ⊢
    have g1 := f.c3 1 rfl
    refine bodyPost_ret (v := .agg #[.bool false, .slice none 0 0, .int .i64 0]) (by simp [results, Tryz.results39, go_sem, g1]) rfl ?_
    rw [HE.out]
    exact ⟨_, rfl, Cy.nil (U2.out.kp p).tab, f.b⟩
  · have HE : Hid (M = ⟨!n, m, e⟩) := HM'.out.trans (if_neg h0)
    have z1 : ((k3 : Int) == 0) = false := by rw [beq_eq_false_iff_ne]; intro h; exact h0 (hk.2 (by omega))
    clear hk h0
    go_upto_region 5 with (fail)
    clear c0_2 c1_2 c2_2
    obtain ⟨f, p⟩ := F2.out.s3_0 2 rfl (.bool (!n)) rfl
    generalize (World.setCell _ _ _) = W at f p ⊢
    have F3 := Lib.hid (f)
    have U3 := Lib.hid (U2.out.kp p)
    clear F2 U2
    clear f p
    simp only [List.set_cons_zero, List.set_cons_succ] at F3
    have c0_3 := F3.out.c3 0 rfl
    have c1_3 := F3.out.c3 1 rfl
    have c2_3 := F3.out.c3 2 rfl
    have Y3 : Hid (Cy _ (.agg #[.bool (!n), .slice a3 k3 c3, .int .i64 e]) ⟨!n, m, e⟩) := Cy.mk U3.out.dm (by have := BD.out; omega) (by have := BD.out; omega)
    clear U3
    go_wp2_with fail
    clear c0_3 c1_3 c2_3
    refine (CB.out _ _ Y3.out).mono ?_
    rintro q w4 ⟨u, rfl, hu, hb⟩
    have F4 := Lib.hid (F3.out.call hb)
    have Y4 := Lib.hid (Y3.out.below hb)
    clear F3 Y3
    have R4 := Lib.hid (hu)
    clear hb
    have c0_4 := F4.out.c3 0 rfl
    have c1_4 := F4.out.c3 1 rfl
    have c2_4 := F4.out.c3 2 rfl
    obtain ⟨a4, k4, c4, rfl⟩ := R4.out.fm
    go_upto_region 8 with (fail)
    clear c0_4 c1_4 c2_4
    have F5 := Lib.hid (F4.out.new 42 #[.bool rn, .slice a4 k4 c4, .int .i64 re] rfl)
    have Y5 := Lib.hid (Y4.out.alloc (.cells #[.bool rn, .slice a4 k4 c4, .int .i64 re] 42))
    have R5 := Lib.hid (R4.out.alloc (.cells #[.bool rn, .slice a4 k4 c4, .int .i64 re] 42))
    clear F4 Y4 R4
    obtain ⟨g2, hg2⟩ : ∃ g, g = (World.heap w4).size := ⟨_, rfl⟩
    rw [← hg2] at F5 ⊢
    clear hg2
    simp only [List.nil_append, List.cons_append] at F5
    generalize World.alloc w4 _ = W5 at F5 Y5 R5 ⊢
    have c0_5 := F5.out.c3 0 rfl
    have c1_5 := F5.out.c3 1 rfl
    have c2_5 := F5.out.c3 2 rfl
    have c3_5 := F5.out.c3 3 rfl
    go_wp2
    obtain ⟨f0, p0⟩ := F5.out.s3 1 rfl (.bool (!n)) (.slice a3 k3 c3) (.int .i64 e) rfl rfl rfl
    have p := p0
    have f := f0
    clear f0 p0
    generalize (World.setCell (World.setCell (World.setCell _ _ _) _ _) _ _) = W at f p ⊢
    have g1 := f.c3 1 rfl
    refine bodyPost_ret (v := .agg #[.bool (!n), .slice a3 k3 c3, .int .i64 e]) (by simp [results, Tryz.results39, go_sem, g1]) rfl ?_
    rw [HE.out]
    exact ⟨_, rfl, Y5.out.kp p, f.b⟩

end Go.Proofs.YtobpioceopfkpaaGreatDoor
