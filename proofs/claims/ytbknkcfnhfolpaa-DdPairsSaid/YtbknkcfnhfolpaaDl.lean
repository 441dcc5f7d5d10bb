/-
  ref05's Add and Cmp, by worth.
-/
import Derived.Test.YtbknkcfnhfolpaaDk
set_option exponentiation.threshold 3000
namespace Go.Proofs.Ytbknkcfnhfolpaa
open Go.RowKit Rn

theorem nv_ne {neg : Bool} {m : Nat} {e : Int} : nv neg m e = 0 ↔ m = 0 := by
  constructor
  · intro h
    have h1 := nv_abs neg m e
    rw [h] at h1
    have := Nat.two_pow_pos (e + 6000).toNat
    rcases Nat.eq_zero_or_pos m with h2 | h2
    · exact h2
    · have := Nat.mul_pos h2 this; simp at h1; omega
  · rintro rfl; exact nv_zero _ _
theorem sm_self {m : Nat} {neg : Bool} {e : Int} (h : Bz (nv neg m e)) (he : -6000 ≤ e) : Sm m := by
  have := h.sm (low := e) he (Int.le_refl _)
  simpa using this

theorem add_any' {u v : Value} {w : World} {za zb lo : Int} (h : NZ w u za lo) (k : NZ w v zb lo) (hlo : -6000 ≤ lo) (ha : Bz za) (hb : Bz zb) :
    Calls Try.prog 20 #[u, v] w (RetNZ (za + zb) lo w) := by
  obtain ⟨na, ma, ea, ⟨sa, rfl, da⟩, h1, h2, rfl⟩ := h
  obtain ⟨nb, mb, eb, ⟨sb, rfl, db⟩, k1, k2, rfl⟩ := k
  by_cases h0 : ma = 0
  · subst h0
    refine (add_zero1 da db).mono ?_
    rintro q w' ⟨rfl, hd, hb⟩
    exact ⟨_, rfl, ⟨nb, mb, eb, ⟨_, rfl, hd⟩, k1, k2, by rw [nv_zero]; omega⟩, hb⟩
  by_cases k0 : mb = 0
  · subst k0
    refine (add_zero2 da h0 db).mono ?_
    rintro q w' ⟨rfl, hd, hb⟩
    exact ⟨_, rfl, ⟨na, ma, ea, ⟨_, rfl, hd⟩, h1, h2, by rw [nv_zero]; omega⟩, hb⟩
  · refine (add_some da db h0 k0 (by omega) (by omega) (ha.sm (by omega) (by omega)) (hb.sm (by omega) (by omega))).mono ?_
    rintro q w' ⟨v, rfl, ⟨ng, m, e, hn, e1, e2, e3⟩, hb⟩
    exact ⟨_, rfl, ⟨ng, m, e, hn, by omega, e2, e3⟩, hb⟩

def cmpZ (a b : Int) : Int := if a < b then -1 else if b < a then 1 else 0
theorem cmpZ_lt {a b : Int} (h : a < b) : cmpZ a b = -1 := by unfold cmpZ; rw [if_pos h]
theorem cmpZ_gt {a b : Int} (h : b < a) : cmpZ a b = 1 := by unfold cmpZ; rw [if_neg (by omega), if_pos h]
theorem cmpZ_eq {a b : Int} (h : a = b) : cmpZ a b = 0 := by unfold cmpZ; rw [if_neg (by omega), if_neg (by omega)]

theorem nv_sign {neg : Bool} {m : Nat} {e : Int} : (signN neg m = 0 ↔ nv neg m e = 0) ∧ (signN neg m = 1 ↔ 0 < nv neg m e) ∧ (signN neg m = -1 ↔ nv neg m e < 0) := by
  by_cases h : m = 0
  · subst h; rw [nv_zero, signN_zero]; simp
  · have h1 : nv neg m e ≠ 0 := fun h2 => h (nv_ne.1 h2)
    cases neg
    · rw [signN_pos h]
      have : 0 ≤ nv false m e := by unfold nv sg; rw [if_neg (by decide)]; exact Int.natCast_nonneg _
      refine ⟨?_, ?_, ?_⟩ <;> constructor <;> intro <;> omega
    · rw [signN_neg h]
      have : nv true m e ≤ 0 := by
        unfold nv sg; rw [if_pos rfl]
        have := Int.natCast_nonneg (m * 2 ^ (e + 6000).toNat)
        omega
      refine ⟨?_, ?_, ?_⟩ <;> constructor <;> intro <;> omega

/-- Cmp's memory -/
structure CmpM (na nb : Bool) (sa sb : Value) (ea eb : Int) (ma mb : Nat) (w wr : World) : Prop where
  x : Blk wr w.heap.size 32 #[.bool na, sa, .int .i64 ea]
  y : Blk wr (w.heap.size + 1) 32 #[.bool nb, sb, .int .i64 eb]
  a : Dg wr sa ma
  c : Dg wr sb mb
  b : Below w.heap.size w wr
theorem CmpM.below {na nb : Bool} {sa sb : Value} {ea eb : Int} {ma mb : Nat} {w wr w' : World} (h : CmpM na nb sa sb ea eb ma mb w wr) (hb : Below wr.heap.size wr w') : CmpM na nb sa sb ea eb ma mb w w' :=
  ⟨h.x.below hb, h.y.below hb, h.a.below hb, h.c.below hb, h.b.trans (hb.mono h.b.size)⟩
theorem CmpM.drew {na nb : Bool} {sa sb : Value} {ea eb : Int} {ma mb : Nat} {w wr : World} (h : CmpM na nb sa sb ea eb ma mb w wr) : CmpM na nb sa sb ea eb ma mb w wr.drew :=
  ⟨h.x, h.y, h.a, h.c, below_drewN' h.b 1⟩
theorem CmpM.ha {na nb : Bool} {sa sb : Value} {ea eb : Int} {ma mb : Nat} {w wr : World} (h : CmpM na nb sa sb ea eb ma mb w wr) : IsN wr (.agg #[.bool na, sa, .int .i64 ea]) na ma ea := ⟨_, rfl, h.a⟩
theorem CmpM.hc {na nb : Bool} {sa sb : Value} {ea eb : Int} {ma mb : Nat} {w wr : World} (h : CmpM na nb sa sb ea eb ma mb w wr) : IsN wr (.agg #[.bool nb, sb, .int .i64 eb]) nb mb eb := ⟨_, rfl, h.c⟩
theorem CmpM.cells {na nb : Bool} {sa sb : Value} {ea eb : Int} {ma mb : Nat} {w wr : World} (h : CmpM na nb sa sb ea eb ma mb w wr) :
    wr.cell? ⟨w.heap.size, 0, none⟩ = some (.bool na) ∧ wr.cell? ⟨w.heap.size, 1, none⟩ = some sa ∧ wr.cell? ⟨w.heap.size, 2, none⟩ = some (.int .i64 ea) ∧ wr.cell? ⟨w.heap.size + 1, 0, none⟩ = some (.bool nb) ∧ wr.cell? ⟨w.heap.size + 1, 1, none⟩ = some sb ∧ wr.cell? ⟨w.heap.size + 1, 2, none⟩ = some (.int .i64 eb) :=
  ⟨h.x.at 0 (.bool na) rfl, h.x.at 1 sa rfl, h.x.at 2 (.int .i64 ea) rfl, h.y.at 0 (.bool nb) rfl, h.y.at 1 sb rfl, h.y.at 2 (.int .i64 eb) rfl⟩
theorem CmpM.flip {na nb : Bool} {sa sb : Value} {ea eb : Int} {ma mb : Nat} {w wr : World} (h : CmpM na nb sa sb ea eb ma mb w wr) : CmpM na (!nb) sa sb ea eb ma mb w (wr.setCell ⟨w.heap.size + 1, 0, none⟩ (.bool (!nb))) := by
  refine ⟨h.x.far (by simp) _, h.y.set 0 _, h.a.keep ?_, h.c.keep ?_, h.b.setCell (by simp) _⟩
  all_goals
    intro g o z hz
    have hne := Parts.ne (R := w.heap.size + 1) ⟨_, _, _, _, h.y, by obtain ⟨a, k, c, e, _⟩ := h.c.form; exact ⟨a, k, c, e⟩⟩ hz
    rw [World.cell?_setCell_other _ _ _ _ (fun he => hne (by injection he with h1; exact h1.symm))]
    exact hz
theorem CmpM.start {na nb : Bool} {sa sb : Value} {ea eb : Int} {ma mb : Nat} {w : World} (ha : Dg w sa ma) (hc : Dg w sb mb) :
    CmpM na nb sa sb ea eb ma mb w ((w.alloc (.cells #[.bool na, sa, .int .i64 ea] 32)).alloc (.cells #[.bool nb, sb, .int .i64 eb] 32)) := by
  refine ⟨(Blk.new w 32 _).alloc _, ?_, (ha.alloc _).alloc _, (hc.alloc _).alloc _, ((Below.refl _ _).alloc (Nat.le_refl _) _).alloc (by simp) _⟩
  have := Blk.new (w.alloc (.cells #[.bool na, sa, .int .i64 ea] 32)) 32 #[.bool nb, sb, .int .i64 eb]
  rwa [show (w.alloc (.cells #[.bool na, sa, .int .i64 ea] 32)).heap.size = w.heap.size + 1 by simp] at this

set_option maxHeartbeats 8000000 in
/-- the signs decide -/
theorem cmp_signs {na nb : Bool} {sa sb : Value} {ea eb : Int} {ma mb : Nat} {w : World} (ha : Dg w sa ma) (hc : Dg w sb mb) (hST : signN na ma ≠ signN nb mb ∨ signN na ma = 0) :
    Calls Try.prog 32 #[.agg #[.bool na, sa, .int .i64 ea], .agg #[.bool nb, sb, .int .i64 eb]] w fun q w' => q = .returned (.int .i64 (cmpZ (nv na ma ea) (nv nb mb eb))) ∧ Below w.heap.size w w' := by
  have ST := Lib.hid (CmpM.start (na := na) (nb := nb) (ea := ea) (eb := eb) ha hc)
  obtain ⟨a, k, c, rfl, -⟩ := ha.form
  obtain ⟨a', k', c', rfl, -⟩ := hc.form
  clear ha hc
  obtain ⟨a1, a2, a3⟩ := nv_sign (neg := na) (m := ma) (e := ea)
  obtain ⟨b1, b2, b3⟩ := nv_sign (neg := nb) (m := mb) (e := eb)
  have hS : signN na ma = 0 ∨ signN na ma = 1 ∨ signN na ma = -1 := by unfold signN; split <;> (try split) <;> simp
  have hT : signN nb mb = 0 ∨ signN nb mb = 1 ∨ signN nb mb = -1 := by unfold signN; split <;> (try split) <;> simp
  have CA : Hid (∀ w (h : IsN w (.agg #[.bool na, .slice a k c, .int .i64 ea]) na ma ea), Calls Try.prog 41 #[.agg #[.bool na, .slice a k c, .int .i64 ea]] w fun x w' => x = .returned (.int .i64 (signN na ma)) ∧ Below w.heap.size w w') := fun w h => sign_any h
  have CB : Hid (∀ w (h : IsN w (.agg #[.bool nb, .slice a' k' c', .int .i64 eb]) nb mb eb), Calls Try.prog 41 #[.agg #[.bool nb, .slice a' k' c', .int .i64 eb]] w fun x w' => x = .returned (.int .i64 (signN nb mb)) ∧ Below w.heap.size w w') := fun w h => sign_any h
  generalize nv na ma ea = za at *
  generalize nv nb mb eb = zb at *
  generalize signN na ma = S at *
  generalize signN nb mb = T at *
  have hor : (S < T ∧ Hid (cmpZ za zb = -1)) ∨ (T < S ∧ Hid (cmpZ za zb = 1)) ∨ ((S = 0 ∧ T = 0) ∧ Hid (cmpZ za zb = 0)) := by
    rcases Int.lt_trichotomy S T with h | h | h
    · exact .inl ⟨h, cmpZ_lt (by omega)⟩
    · exact .inr (.inr ⟨by omega, cmpZ_eq (by omega)⟩)
    · exact .inr (.inl ⟨h, cmpZ_gt (by omega)⟩)
  clear hST a1 a2 a3 b1 b2 b3 hS hT
  generalize cmpZ za zb = R at *
  have HOR := Lib.hid hor
  clear hor
  go_enter Try.func32, Try.ntmps32
  go_upto_region 1 with (fail)
  generalize (World.alloc (World.alloc _ _) _) = w1 at ST ⊢
  go_cut [5, 6] (fun s t wx => s = .int .i64 S ∧ t = .int .i64 T ∧ Hid (CmpM na nb (.slice a k c) (.slice a' k' c') ea eb ma mb w wx))
  case first =>
    have F0 := Lib.hid ST.out.cells
    have F1 := Lib.hid ST.out.drew.cells
    obtain ⟨x0, x1, x2, y0, y1, y2⟩ := F0.out
    go_region_held3 (fun w' => w'.cell? ⟨w.heap.size, 0, none⟩ = some (.bool na) ∧ w'.cell? ⟨w.heap.size, 1, none⟩ = some (.slice a k c) ∧ w'.cell? ⟨w.heap.size, 2, none⟩ = some (.int .i64 ea) ∧ w'.cell? ⟨w.heap.size + 1, 0, none⟩ = some (.bool nb) ∧ w'.cell? ⟨w.heap.size + 1, 1, none⟩ = some (.slice a' k' c') ∧ w'.cell? ⟨w.heap.size + 1, 2, none⟩ = some (.int .i64 eb)) (first | exact F0.out | exact F1.out | exact FA.out | exact FB.out | exact FC.out) (first | (go_at_call 41; (with_reducible refine (CB.out _ SA.out.hc).mono ?_); rintro r w3 ⟨rfl, hb⟩; have HL := Lib.hid (SA.out.below hb); have FC := Lib.hid HL.out.cells) | (go_at_call 41; (with_reducible refine (CA.out _ SB.out.ha).mono ?_); rintro r w3 ⟨rfl, hb⟩; have HL := Lib.hid (SB.out.below hb); have FC := Lib.hid HL.out.cells) | (go_at_call 41; (with_reducible refine (CA.out _ ST.out.drew.ha).mono ?_); rintro r w2 ⟨rfl, hb⟩; have SA := Lib.hid (ST.out.drew.below hb); have FA := Lib.hid SA.out.cells) | (go_at_call 41; (with_reducible refine (CB.out _ ST.out.drew.hc).mono ?_); rintro r w2 ⟨rfl, hb⟩; have SB := Lib.hid (ST.out.drew.below hb); have FB := Lib.hid SB.out.cells))
    all_goals go_wp2_with fail
    all_goals go_meet
    all_goals exact ⟨rfl, rfl, HL⟩
  case rest =>
    obtain ⟨rfl, rfl, HC⟩ := hcut
    rcases HOR.out with ⟨h, hr⟩ | ⟨h, hr⟩ | ⟨⟨h1, h2⟩, hr⟩
    · have t1 : (S != T) = true := by rw [bne_iff_ne]; omega
      have HB := Lib.hid HC.out.b
      clear HOR CA CB ST
      go_wp2
      go_ret
      exact ⟨ret_i64 hr.out.symm, HB.out⟩
    · have t1 : (S != T) = true := by rw [bne_iff_ne]; omega
      have t2 : decide (S < T) = false := decide_eq_false (by omega)
      have HB := Lib.hid HC.out.b
      clear HOR CA CB ST
      go_wp2
      go_ret
      exact ⟨ret_i64 hr.out.symm, HB.out⟩
    · subst h1 h2
      have HB := Lib.hid HC.out.b
      clear HOR CA CB ST
      go_wp2
      go_ret
      exact ⟨ret_i64 hr.out.symm, HB.out⟩

theorem bl_nv {neg : Bool} {m : Nat} {e : Int} (h : m ≠ 0) (he : -6000 ≤ e) : (bl (nv neg m e).natAbs : Int) = bl m + (e + 6000) := by
  rw [nv_abs, bl_pos (Nat.mul_ne_zero h (Nat.ne_of_gt (Nat.two_pow_pos _))), log2_mul_pow _ _ h, bl_pos h]
  omega
theorem bl_lt {m n : Nat} (h : bl m < bl n) : m < n := by
  apply Nat.lt_of_not_le; intro hle
  have h1 := lt_bl m
  have h2 := bl_le (n := n) (k := bl m) (by omega)
  omega

set_option maxHeartbeats 16000000 in
/-- the signs are one -/
theorem cmp_rest {n0 : Bool} {sa sb : Value} {ea eb : Int} {ma mb : Nat} {w : World} (ha : Dg w sa ma) (hc : Dg w sb mb) (h0 : ma ≠ 0) (k0 : mb ≠ 0) (hea : -6000 ≤ ea ∧ ea ≤ 6000) (heb : -6000 ≤ eb ∧ eb ≤ 6000) (hza : Bz (nv n0 ma ea)) (hzb : Bz (nv n0 mb eb)) :
    Calls Try.prog 32 #[.agg #[.bool n0, sa, .int .i64 ea], .agg #[.bool n0, sb, .int .i64 eb]] w fun q w' => q = .returned (.int .i64 (cmpZ (nv n0 ma ea) (nv n0 mb eb))) ∧ Below w.heap.size w w' := by
  have ST := Lib.hid (CmpM.start (na := n0) (nb := n0) (ea := ea) (eb := eb) ha hc)
  obtain ⟨a, k, c, rfl, -⟩ := ha.form
  obtain ⟨a', k', c', rfl, -⟩ := hc.form
  clear ha hc
  have hS : signN n0 ma = signN n0 mb ∧ signN n0 ma ≠ 0 := by cases n0 <;> simp only [signN_pos h0, signN_pos k0, signN_neg h0, signN_neg k0] <;> decide
  obtain ⟨hS1, hS2⟩ := hS
  have CA : Hid (∀ w (h : IsN w (.agg #[.bool n0, .slice a k c, .int .i64 ea]) n0 ma ea), Calls Try.prog 41 #[.agg #[.bool n0, .slice a k c, .int .i64 ea]] w fun x w' => x = .returned (.int .i64 (signN n0 ma)) ∧ Below w.heap.size w w') := fun w h => sign_any h
  have CB : Hid (∀ w (h : IsN w (.agg #[.bool n0, .slice a' k' c', .int .i64 eb]) n0 mb eb), Calls Try.prog 41 #[.agg #[.bool n0, .slice a' k' c', .int .i64 eb]] w fun x w' => x = .returned (.int .i64 (signN n0 ma)) ∧ Below w.heap.size w w') := fun w h => hS1 ▸ sign_any h
  have TA : Hid (∀ w (h : IsN w (.agg #[.bool n0, .slice a k c, .int .i64 ea]) n0 ma ea), Calls Try.prog 15 #[.agg #[.bool n0, .slice a k c, .int .i64 ea]] w fun x w' => x = .returned (.int .i64 ((bl ma : Int) - 1 + ea)) ∧ Below w.heap.size w w') := fun w h => top_any h (sm_self hza hea.1) (by omega)
  have TB : Hid (∀ w (h : IsN w (.agg #[.bool n0, .slice a' k' c', .int .i64 eb]) n0 mb eb), Calls Try.prog 15 #[.agg #[.bool n0, .slice a' k' c', .int .i64 eb]] w fun x w' => x = .returned (.int .i64 ((bl mb : Int) - 1 + eb)) ∧ Below w.heap.size w w') := fun w h => top_any h (sm_self hzb heb.1) (by omega)
  have t1 := bl_nv (neg := n0) h0 hea.1
  have t2 := bl_nv (neg := n0) k0 heb.1
  have t3 := nv_abs n0 ma ea
  have hsg : (n0 = false ∧ 0 ≤ nv n0 ma ea ∧ 0 ≤ nv n0 mb eb) ∨ (n0 = true ∧ nv n0 ma ea ≤ 0 ∧ nv n0 mb eb ≤ 0) := by
    cases n0
    · left
      unfold nv sg
      exact ⟨rfl, by rw [if_neg (by decide)]; exact Int.natCast_nonneg _, by rw [if_neg (by decide)]; exact Int.natCast_nonneg _⟩
    · right
      unfold nv sg
      have h1 := Int.natCast_nonneg (ma * 2 ^ (ea + 6000).toNat)
      have h2 := Int.natCast_nonneg (mb * 2 ^ (eb + 6000).toNat)
      exact ⟨rfl, by rw [if_pos rfl]; omega, by rw [if_pos rfl]; omega⟩
  obtain ⟨U, hU⟩ : ∃ U, (bl ma : Int) - 1 + ea = U := ⟨_, rfl⟩
  obtain ⟨V, hV⟩ : ∃ V, (bl mb : Int) - 1 + eb = V := ⟨_, rfl⟩
  rw [hU] at TA
  rw [hV] at TB
  have ht : (U < V → Hid (cmpZ (nv n0 ma ea) (nv n0 mb eb) = if n0 then 1 else -1)) ∧ (V < U → Hid (cmpZ (nv n0 ma ea) (nv n0 mb eb) = if n0 then -1 else 1)) := by
    constructor
    · intro h
      have h1 := bl_lt (m := (nv n0 ma ea).natAbs) (n := (nv n0 mb eb).natAbs) (by omega)
      rcases hsg with ⟨rfl, s1, s2⟩ | ⟨rfl, s1, s2⟩
      · exact cmpZ_lt (by omega)
      · exact cmpZ_gt (by omega)
    · intro h
      have h1 := bl_lt (m := (nv n0 mb eb).natAbs) (n := (nv n0 ma ea).natAbs) (by omega)
      rcases hsg with ⟨rfl, s1, s2⟩ | ⟨rfl, s1, s2⟩
      · exact cmpZ_gt (by omega)
      · exact cmpZ_lt (by omega)
  have HT := Lib.hid ht
  have NA : NZ w (.agg #[.bool n0, .slice a k c, .int .i64 ea]) (nv n0 ma ea) (-6000) → True := fun _ => trivial
  have hsum : nv n0 ma ea + nv (!n0) mb eb = nv n0 ma ea - nv n0 mb eb := by unfold nv sg; cases n0 <;> simp <;> omega
  have hneg : Bz (nv (!n0) mb eb) := by unfold Bz at *; rw [nv_abs] at *; exact hzb
  have CADD : Hid (∀ w (h : Dg w (.slice a k c) ma) (h' : Dg w (.slice a' k' c') mb), Calls Try.prog 20 #[.agg #[.bool n0, .slice a k c, .int .i64 ea], .agg #[.bool (!n0), .slice a' k' c', .int .i64 eb]] w (RetNZ (nv n0 ma ea - nv n0 mb eb) (-6000) w)) := fun w h h' => by
    rw [← hsum]
    exact add_any' ⟨n0, ma, ea, ⟨_, rfl, h⟩, hea.1, hea.2, rfl⟩ ⟨!n0, mb, eb, ⟨_, rfl, h'⟩, heb.1, heb.2, rfl⟩ (Int.le_refl _) hza hneg
  have HD : Hid (∀ D, nv n0 ma ea - nv n0 mb eb = D → (D = 0 → cmpZ (nv n0 ma ea) (nv n0 mb eb) = 0) ∧ (0 < D → cmpZ (nv n0 ma ea) (nv n0 mb eb) = 1) ∧ (D < 0 → cmpZ (nv n0 ma ea) (nv n0 mb eb) = -1)) := fun D h => ⟨fun _ => cmpZ_eq (by omega), fun _ => cmpZ_gt (by omega), fun _ => cmpZ_lt (by omega)⟩
  generalize signN n0 ma = S at *
  have e1 : (S == 0) = false := by rw [beq_eq_false_iff_ne]; exact hS2
  generalize cmpZ (nv n0 ma ea) (nv n0 mb eb) = R at *
  obtain ⟨D, hD⟩ : ∃ D, nv n0 ma ea - nv n0 mb eb = D := ⟨_, rfl⟩
  have HD2 := Lib.hid (HD.out D hD)
  rw [hD] at CADD
  clear hS1 hS2 t1 t2 t3 hsg hU hV ht NA hsum hneg HD hD hza hzb h0 k0 hea heb
  have hse : (S != S) = false := by simp
  go_enter Try.func32, Try.ntmps32
  go_upto_region 1 with (fail)
  generalize (World.alloc (World.alloc _ _) _) = w1 at ST ⊢
  go_cut [5, 6] (fun s t wx => s = .int .i64 S ∧ t = .int .i64 S ∧ Hid (CmpM n0 n0 (.slice a k c) (.slice a' k' c') ea eb ma mb w wx))
  case first =>
    have F0 := Lib.hid ST.out.cells
    have F1 := Lib.hid ST.out.drew.cells
    obtain ⟨x0, x1, x2, y0, y1, y2⟩ := F0.out
    go_region_held3 (fun w' => w'.cell? ⟨w.heap.size, 0, none⟩ = some (.bool n0) ∧ w'.cell? ⟨w.heap.size, 1, none⟩ = some (.slice a k c) ∧ w'.cell? ⟨w.heap.size, 2, none⟩ = some (.int .i64 ea) ∧ w'.cell? ⟨w.heap.size + 1, 0, none⟩ = some (.bool n0) ∧ w'.cell? ⟨w.heap.size + 1, 1, none⟩ = some (.slice a' k' c') ∧ w'.cell? ⟨w.heap.size + 1, 2, none⟩ = some (.int .i64 eb)) (first | exact F0.out | exact F1.out | exact FA.out | exact FB.out | exact FC.out) (first | (go_at_call 41; (with_reducible refine (CB.out _ SA.out.hc).mono ?_); rintro r w3 ⟨rfl, hb⟩; have HL := Lib.hid (SA.out.below hb); have FC := Lib.hid HL.out.cells) | (go_at_call 41; (with_reducible refine (CA.out _ SB.out.ha).mono ?_); rintro r w3 ⟨rfl, hb⟩; have HL := Lib.hid (SB.out.below hb); have FC := Lib.hid HL.out.cells) | (go_at_call 41; (with_reducible refine (CA.out _ ST.out.drew.ha).mono ?_); rintro r w2 ⟨rfl, hb⟩; have SA := Lib.hid (ST.out.drew.below hb); have FA := Lib.hid SA.out.cells) | (go_at_call 41; (with_reducible refine (CB.out _ ST.out.drew.hc).mono ?_); rintro r w2 ⟨rfl, hb⟩; have SB := Lib.hid (ST.out.drew.below hb); have FB := Lib.hid SB.out.cells))
    all_goals go_wp2_with fail
    all_goals go_meet
    all_goals exact ⟨rfl, rfl, HL⟩
  case rest =>
    obtain ⟨rfl, rfl, HC⟩ := hcut
    clear CA CB ST
    go_upto_region 8 with (fail)
    go_cut [28] (fun s wx => s = .bool (U != V) ∧ Hid (CmpM n0 n0 (.slice a k c) (.slice a' k' c') ea eb ma mb w wx))
    case first =>
      have F0 := Lib.hid HC.out.cells
      have F1 := Lib.hid HC.out.drew.cells
      obtain ⟨x0, x1, x2, y0, y1, y2⟩ := F0.out
      go_region_held3 (fun w' => w'.cell? ⟨w.heap.size, 0, none⟩ = some (.bool n0) ∧ w'.cell? ⟨w.heap.size, 1, none⟩ = some (.slice a k c) ∧ w'.cell? ⟨w.heap.size, 2, none⟩ = some (.int .i64 ea) ∧ w'.cell? ⟨w.heap.size + 1, 0, none⟩ = some (.bool n0) ∧ w'.cell? ⟨w.heap.size + 1, 1, none⟩ = some (.slice a' k' c') ∧ w'.cell? ⟨w.heap.size + 1, 2, none⟩ = some (.int .i64 eb)) (first | exact F0.out | exact F1.out | exact FA.out | exact FB.out | exact FC.out) (first | (go_at_call 15; (with_reducible refine (TB.out _ SA.out.hc).mono ?_); rintro r w3 ⟨rfl, hb⟩; have HL := Lib.hid (SA.out.below hb); have FC := Lib.hid HL.out.cells) | (go_at_call 15; (with_reducible refine (TA.out _ SB.out.ha).mono ?_); rintro r w3 ⟨rfl, hb⟩; have HL := Lib.hid (SB.out.below hb); have FC := Lib.hid HL.out.cells) | (go_at_call 15; (with_reducible refine (TA.out _ HC.out.drew.ha).mono ?_); rintro r w2 ⟨rfl, hb⟩; have SA := Lib.hid (HC.out.drew.below hb); have FA := Lib.hid SA.out.cells) | (go_at_call 15; (with_reducible refine (TB.out _ HC.out.drew.hc).mono ?_); rintro r w2 ⟨rfl, hb⟩; have SB := Lib.hid (HC.out.drew.below hb); have FB := Lib.hid SB.out.cells))
      all_goals go_wp2_with fail
      all_goals go_meet
      all_goals exact ⟨rfl, HL⟩
    case rest =>
      obtain ⟨rfl, HC2⟩ := hcut
      clear HC
      rcases Int.lt_trichotomy U V with huv | huv | huv
      · have HR := Lib.hid (HT.out.1 huv).out
        have q1 : (U != V) = true := by rw [bne_iff_ne]; omega
        have q2 : decide (U < V) = true := decide_eq_true huv
        clear CADD HD2 HT
        rw [q1]
        go_upto_region 9 with (fail)
        go_cut [36] (fun s wx => s = .bool (!n0) ∧ Hid (CmpM n0 n0 (.slice a k c) (.slice a' k' c') ea eb ma mb w wx))
        case first =>
          have F0 := Lib.hid HC2.out.cells
          have F1 := Lib.hid HC2.out.drew.cells
          obtain ⟨x0, x1, x2, y0, y1, y2⟩ := F0.out
          go_region_held3 (fun w' => w'.cell? ⟨w.heap.size, 0, none⟩ = some (.bool n0) ∧ w'.cell? ⟨w.heap.size, 1, none⟩ = some (.slice a k c) ∧ w'.cell? ⟨w.heap.size, 2, none⟩ = some (.int .i64 ea) ∧ w'.cell? ⟨w.heap.size + 1, 0, none⟩ = some (.bool n0) ∧ w'.cell? ⟨w.heap.size + 1, 1, none⟩ = some (.slice a' k' c') ∧ w'.cell? ⟨w.heap.size + 1, 2, none⟩ = some (.int .i64 eb)) (first | exact F0.out | exact F1.out | exact FA.out | exact FB.out | exact FC.out) (first | (go_at_call 15; (with_reducible refine (TB.out _ SA.out.hc).mono ?_); rintro r w3 ⟨rfl, hb⟩; have HL := Lib.hid (SA.out.below hb); have FC := Lib.hid HL.out.cells) | (go_at_call 15; (with_reducible refine (TA.out _ SB.out.ha).mono ?_); rintro r w3 ⟨rfl, hb⟩; have HL := Lib.hid (SB.out.below hb); have FC := Lib.hid HL.out.cells) | (go_at_call 15; (with_reducible refine (TA.out _ HC2.out.drew.ha).mono ?_); rintro r w2 ⟨rfl, hb⟩; have SA := Lib.hid (HC2.out.drew.below hb); have FA := Lib.hid SA.out.cells) | (go_at_call 15; (with_reducible refine (TB.out _ HC2.out.drew.hc).mono ?_); rintro r w2 ⟨rfl, hb⟩; have SB := Lib.hid (HC2.out.drew.below hb); have FB := Lib.hid SB.out.cells))
          all_goals go_wp2_with fail
          all_goals go_meet
          all_goals exact ⟨rfl, HL⟩
        case rest =>
          obtain ⟨rfl, HC3⟩ := hcut
          have HB := Lib.hid HC3.out.b
          clear HC2 HC3 TA TB huv
          cases n0
          · go_wp2
            go_ret
            exact ⟨ret_i64 HR.out.symm, HB.out⟩
          · go_wp2
            go_ret
            exact ⟨ret_i64 HR.out.symm, HB.out⟩
      · subst huv
        have q1 : (U != U) = false := by simp
        rw [q1]
        obtain ⟨x0, x1, x2, y0, y1, y2⟩ := HC2.out.cells
        have f0 := HC2.out.y.frozen 0
        have HN := Lib.hid HC2.out.flip
        clear TA TB HT
        go_wp2_with fail
        refine (CADD.out _ HN.out.a HN.out.c).mono ?_
        rintro r w4 ⟨v, rfl, ⟨ng, m, e, hn, e1', e2', hv⟩, hb⟩
        have HB := Lib.hid (HN.out.b.trans (hb.mono HN.out.b.size))
        have HN4 := Lib.hid hn
        have hsg := nv_sign (neg := ng) (m := m) (e := e)
        rw [hv] at hsg
        have HR : Hid (signN ng m = R) := by
          have h1 := HD2.out
          rcases Int.lt_trichotomy D 0 with h | h | h
          · rw [Hid, h1.2.2 h]; exact hsg.2.2.2 h
          · rw [Hid, h1.1 h]; exact hsg.1.2 h
          · rw [Hid, h1.2.1 h]; exact hsg.2.1.2 h
        clear hn hb hv hsg HN CADD HC2 HD2 x0 x1 x2 y0 y1 y2 f0 e1' e2'
        go_wp2_with fail
        refine (sign_any HN4.out).mono ?_
        rintro r w5 ⟨rfl, hb⟩
        have HB5 := Lib.hid (HB.out.trans (hb.mono HB.out.size))
        clear hb
        go_wp2
        go_ret
        exact ⟨ret_i64 HR.out, HB5.out⟩
      · have HR := Lib.hid (HT.out.2 huv).out
        have q1 : (U != V) = true := by rw [bne_iff_ne]; omega
        have q2 : decide (U < V) = false := decide_eq_false (by omega)
        clear CADD HD2 HT
        rw [q1]
        go_upto_region 9 with (fail)
        go_cut [36] (fun s wx => s = .bool n0 ∧ Hid (CmpM n0 n0 (.slice a k c) (.slice a' k' c') ea eb ma mb w wx))
        case first =>
          have F0 := Lib.hid HC2.out.cells
          have F1 := Lib.hid HC2.out.drew.cells
          obtain ⟨x0, x1, x2, y0, y1, y2⟩ := F0.out
          go_region_held3 (fun w' => w'.cell? ⟨w.heap.size, 0, none⟩ = some (.bool n0) ∧ w'.cell? ⟨w.heap.size, 1, none⟩ = some (.slice a k c) ∧ w'.cell? ⟨w.heap.size, 2, none⟩ = some (.int .i64 ea) ∧ w'.cell? ⟨w.heap.size + 1, 0, none⟩ = some (.bool n0) ∧ w'.cell? ⟨w.heap.size + 1, 1, none⟩ = some (.slice a' k' c') ∧ w'.cell? ⟨w.heap.size + 1, 2, none⟩ = some (.int .i64 eb)) (first | exact F0.out | exact F1.out | exact FA.out | exact FB.out | exact FC.out) (first | (go_at_call 15; (with_reducible refine (TB.out _ SA.out.hc).mono ?_); rintro r w3 ⟨rfl, hb⟩; have HL := Lib.hid (SA.out.below hb); have FC := Lib.hid HL.out.cells) | (go_at_call 15; (with_reducible refine (TA.out _ SB.out.ha).mono ?_); rintro r w3 ⟨rfl, hb⟩; have HL := Lib.hid (SB.out.below hb); have FC := Lib.hid HL.out.cells) | (go_at_call 15; (with_reducible refine (TA.out _ HC2.out.drew.ha).mono ?_); rintro r w2 ⟨rfl, hb⟩; have SA := Lib.hid (HC2.out.drew.below hb); have FA := Lib.hid SA.out.cells) | (go_at_call 15; (with_reducible refine (TB.out _ HC2.out.drew.hc).mono ?_); rintro r w2 ⟨rfl, hb⟩; have SB := Lib.hid (HC2.out.drew.below hb); have FB := Lib.hid SB.out.cells))
          all_goals go_wp2_with fail
          all_goals go_meet
          all_goals exact ⟨rfl, HL⟩
        case rest =>
          obtain ⟨rfl, HC3⟩ := hcut
          have HB := Lib.hid HC3.out.b
          clear HC2 HC3 TA TB huv
          cases n0
          · go_wp2
            go_ret
            exact ⟨ret_i64 HR.out.symm, HB.out⟩
          · go_wp2
            go_ret
            exact ⟨ret_i64 HR.out.symm, HB.out⟩

theorem cmp_any' {u v : Value} {w : World} {za zb lo : Int} (h : NZ w u za lo) (k : NZ w v zb lo) (hlo : -6000 ≤ lo) (ha : Bz za) (hb : Bz zb) :
    Calls Try.prog 32 #[u, v] w fun q w' => q = .returned (.int .i64 (cmpZ za zb)) ∧ Below w.heap.size w w' := by
  obtain ⟨na, ma, ea, ⟨sa, rfl, da⟩, h1, h2, rfl⟩ := h
  obtain ⟨nb, mb, eb, ⟨sb, rfl, db⟩, k1, k2, rfl⟩ := k
  by_cases hST : signN na ma ≠ signN nb mb ∨ signN na ma = 0
  · exact cmp_signs da db hST
  · have h3 : signN na ma = signN nb mb ∧ signN na ma ≠ 0 := by
      constructor
      · apply Decidable.byContradiction; intro h; exact hST (.inl h)
      · intro h; exact hST (.inr h)
    obtain ⟨h4, h5⟩ := h3
    have m0 : ma ≠ 0 := fun h => h5 (by subst h; rfl)
    have n0 : mb ≠ 0 := fun h => h5 (by rw [h4]; subst h; rfl)
    have hn : na = nb := by
      cases na <;> cases nb <;> simp only [signN_pos m0, signN_pos n0, signN_neg m0, signN_neg n0] at h4 <;> first | rfl | (exact absurd h4 (by decide))
    subst hn
    exact cmp_rest da db m0 n0 (by omega) (by omega) ha hb

end Go.Proofs.Ytbknkcfnhfolpaa
