/-
  ref07's To, of a number in whole units, toward the nearest: what it returns.
-/
import Derived.Test.YtbknkcfnhfolpaaDp
set_option exponentiation.threshold 9000
namespace Go.Proofs.Ytbknkcfnhfolpaa
open Go.RowKit Rn

/-- the nearest word -/
def RetTo (A : Int) (w : World) (q : Ending) (w' : World) : Prop := ∃ (b : Nat) (f : Int), q = .returned (.tuple #[.int .u64 b, .int .i64 f]) ∧ Below w.heap.size w w' ∧ Num b ∧ val b = rn A

theorem sg_self {ng : Bool} {m : Nat} {e : Int} {A : Int} (h : nv ng m e = A * 2 ^ 4926) : A = sg ng A.natAbs ∧ nv false m e = (A.natAbs : Int) * 2 ^ 4926 := by
  have hp : (0 : Int) < 2 ^ 4926 := Int.pow_pos (by omega)
  have h1 := nv_abs ng m e
  rw [h, Int.natAbs_mul, Int.natAbs_pow] at h1
  have h2 : nv false m e = (A.natAbs : Int) * 2 ^ 4926 := by
    unfold nv sg; rw [if_neg (by decide), ← h1, Int.natCast_mul]; rfl
  refine ⟨?_, h2⟩
  unfold nv at h
  cases ng
  · have h3 : 0 ≤ A * 2 ^ 4926 := by rw [← h]; unfold sg; rw [if_neg (by decide)]; exact Int.natCast_nonneg _
    have : 0 ≤ A := Int.nonneg_of_mul_nonneg_left h3 hp
    unfold sg; rw [if_neg (by decide)]; omega
  · have h3 : A * 2 ^ 4926 ≤ 0 := by
      rw [← h]; unfold sg; rw [if_pos rfl]
      have := Int.natCast_nonneg (m * 2 ^ (e + 6000).toNat)
      omega
    have : A ≤ 0 := by
      apply Int.le_of_not_gt; intro hgt
      have := Int.mul_pos hgt hp
      omega
    unfold sg; rw [if_pos rfl]; omega

theorem bz_scaled {n : Nat} (h : n ≤ 2 ^ 2097) : Bz ((n : Int) * 2 ^ 4926) := by
  have h2 : ((n : Int) * 2 ^ 4926).natAbs = n * 2 ^ 4926 := by rw [Int.natAbs_mul, Int.natAbs_pow]; rfl
  unfold Bz
  rw [h2]
  refine Nat.le_trans (bl_le (k := 7024) ?_) (by decide)
  rw [show (7024 : Nat) = 2098 + 4926 by rfl, Nat.pow_add]
  refine Nat.mul_lt_mul_of_pos_right (Nat.lt_of_le_of_lt h ?_) (Nat.two_pow_pos _)
  exact Nat.pow_lt_pow_right (by omega) (by omega)

theorem bz_mid {n : Nat} (h : n ≤ 2 ^ 2099) : Bz ((n : Int) * 2 ^ 4925) := by
  have h2 : ((n : Int) * 2 ^ 4925).natAbs = n * 2 ^ 4925 := by rw [Int.natAbs_mul, Int.natAbs_pow]; rfl
  unfold Bz
  rw [h2]
  refine Nat.le_trans (bl_le (k := 7025) ?_) (by decide)
  rw [show (7025 : Nat) = 2100 + 4925 by rfl, Nat.pow_add]
  refine Nat.mul_lt_mul_of_pos_right (Nat.lt_of_le_of_lt h ?_) (Nat.two_pow_pos _)
  exact Nat.pow_lt_pow_right (by omega) (by omega)

/-- the least normal number -/
theorem least_any (w : World) (t : TypeId) : NZ (w.alloc (.cells #[.int .u32 1] t)) (.agg #[.bool false, .slice (some ⟨w.heap.size, 0, none⟩) 1 1, .int .i64 (-1022)]) (nv false 1 (-1022)) (-6000) :=
  ⟨false, 1, -1022, ⟨_, rfl, [1], Sl.lit1 _ _ _, ⟨by intro d hd; simp at hd; omega, rfl, fun _ => by simp⟩⟩, by omega, by omega, rfl⟩
theorem least_bz : Bz (nv false 1 (-1022)) := by
  unfold Bz
  rw [nv_abs]
  refine Nat.le_trans (bl_le (k := 4979) ?_) (by decide)
  rw [show ((-1022 : Int) + 6000).toNat = 4978 by decide, Nat.one_mul]
  exact Nat.pow_lt_pow_right (by omega) (by omega)

set_option maxRecDepth 100000 in
set_option maxHeartbeats 8000000 in
theorem to_false {a : Option Addr} {k c : Nat} {e lo A : Int} {w : World} (hv : NZ w (.agg #[.bool false, .slice a k c, .int .i64 e]) ((A.natAbs : Int) * 2 ^ 4926) lo) (hk : k ≠ 0) (hsg : A = sg false A.natAbs) (hlo : -6000 ≤ lo) (hlo2 : lo ≤ -1075) (hA : A.natAbs ≤ 2 ^ 2097) :
    Calls Try.prog 34 #[.agg #[.bool false, .slice a k c, .int .i64 e], .bool false, .int .i64 0] w (RetTo A w) := by
  have HM := Lib.hid (BeM.start hv)
  clear hv
  generalize hn : A.natAbs = n at *
  have hi : infR = 9218868437227405312 := by decide
  have hrn : rn A = sg false (rnN n) := by rw [hsg, rn_sg]
  have hz := bz_scaled hA
  have HB := Lib.hid (fun w (h : NZ w (.agg #[.bool false, .slice a k c, .int .i64 e]) ((n : Int) * 2 ^ 4926) lo) => below_any h hlo (by omega) (Int.mul_nonneg (by omega) (Int.le_of_lt (Int.pow_pos (by omega)))) hz)
  have hfin : ∀ r : Nat, r ≤ infR → (magn r : Int) * 2 ^ 4926 ≤ (n : Int) * 2 ^ 4926 → (r < infR → (n : Int) * 2 ^ 4926 < (magn (r + 1) : Int) * 2 ^ 4926) → r < infR ∧ magn r ≤ n ∧ n < magn (r + 1) := by
    intro r h1 h2 h3
    have h4 := scale_le.1 h2
    have h5 : r < infR := by
      apply Nat.lt_of_not_le; intro h
      obtain rfl : r = infR := by omega
      rw [magn_inf] at h4
      have : (2 : Nat) ^ 2097 < 2 ^ 2098 := Nat.pow_lt_pow_right (by omega) (by omega)
      omega
    exact ⟨h5, h4, scale_lt.1 (h3 h5)⟩
  have HF := Lib.hid hfin
  have HV : Hid (∀ (r : Nat) w, r < 9218868437227405312 → Calls Try.prog 44 #[.int .u64 r] w (RetNO ((magn r : Int) * 2 ^ 4926) (-1074) w)) := fun r w hr => value_any (by omega) w
  have HMid : Hid (∀ (r : Nat) w, r < 9218868437227405312 → Calls Try.prog 45 #[.int .u64 r] w (RetNZ (((magn r : Int) + magn (r + 1)) * 2 ^ 4925) (-1075) w)) := fun r w hr => middle_any hr w
  have HC1 : Hid (∀ (r : Nat) w u, r < 9218868437227405312 → NO w u ((magn r : Int) * 2 ^ 4926) (-1074) → NZ w (.agg #[.bool false, .slice a k c, .int .i64 e]) ((n : Int) * 2 ^ 4926) lo → Calls Try.prog 32 #[u, .agg #[.bool false, .slice a k c, .int .i64 e]] w fun q w' => q = .returned (.int .i64 (cmpZ ((magn r : Int) * 2 ^ 4926) ((n : Int) * 2 ^ 4926))) ∧ Below w.heap.size w w') := fun r w u hr hu hv => by
    refine cmp_any' ?_ hv hlo (bz_magn (by omega)) hz
    obtain ⟨n, m, e, h1, h2, h3⟩ := hu.nz
    exact ⟨n, m, e, h1, by omega, h3⟩
  have HC2 : Hid (∀ (r : Nat) w u, magn r ≤ n → n < magn (r + 1) → r < infR → NZ w u (((magn r : Int) + magn (r + 1)) * 2 ^ 4925) (-1075) → NZ w (.agg #[.bool false, .slice a k c, .int .i64 e]) ((n : Int) * 2 ^ 4926) lo → Calls Try.prog 32 #[.agg #[.bool false, .slice a k c, .int .i64 e], u] w fun q w' => q = .returned (.int .i64 (cmpN (2 * n) (magn r + magn (r + 1)))) ∧ Below w.heap.size w w') := fun r w u h1 h2 hr hu hv => by
    have hb : magn r + magn (r + 1) ≤ 2 ^ 2099 := by
      have a1 := magn_le (show r ≤ infR by omega)
      have a2 := magn_le (show r + 1 ≤ infR by omega)
      rw [magn_inf] at a1 a2
      rw [show (2099 : Nat) = 2098 + 1 by rfl, Nat.pow_succ]
      omega
    have h3 : cmpZ ((n : Int) * 2 ^ 4926) (((magn r : Int) + magn (r + 1)) * 2 ^ 4925) = cmpN (2 * n) (magn r + magn (r + 1)) := by
      rw [half_scale, ← Int.natCast_add]; exact scale_cmp
    rw [← h3]
    refine cmp_any' hv ?_ hlo hz (by rw [← Int.natCast_add]; exact bz_mid hb)
    obtain ⟨n', m, e, h1, h2, h3⟩ := hu
    exact ⟨n', m, e, h1, by omega, h3⟩
  have HC3 : Hid (∀ w u, NZ w u (nv false 1 (-1022)) (-6000) → NZ w (.agg #[.bool false, .slice a k c, .int .i64 e]) ((n : Int) * 2 ^ 4926) lo → Calls Try.prog 32 #[.agg #[.bool false, .slice a k c, .int .i64 e], u] w fun q w' => q = .returned (.int .i64 (cmpZ ((n : Int) * 2 ^ 4926) (nv false 1 (-1022)))) ∧ Below w.heap.size w w') := fun w u hu hv => by
    refine cmp_any' ?_ hu (Int.le_refl _) hz least_bz
    obtain ⟨n', m, e, h1, h2, h3⟩ := hv
    exact ⟨n', m, e, h1, by omega, h3⟩
  have HP : Hid (∀ (r : Nat) (f : Int) w', r < infR → magn r = rnN n → Below w.heap.size w w' → RetTo A w (.returned (.tuple #[.int .u64 (r : Int), .int .i64 f])) w') := fun r f w' h1 h2 h3 => by
    obtain ⟨p1, p2, p3⟩ := word_of (neg := false) h1
    refine ⟨r + (if false then 2 ^ 63 else 0), f, ?_, h3, p1, by rw [p3, hrn, h2]⟩
    congr 4
  have HUP : Hid (∀ r : Nat, magn r ≤ n → n < magn (r + 1) → rnN n = magn (if upB n r then r + 1 else r)) := fun r h1 h2 => near_rung h1 h2
  have HLT : Hid (∀ r : Nat, magn r = rnN n → r < infR) := fun r h => by
    rw [← magn_lt_iff, h, magn_inf]
    have h1 := rn_abs_le (z := (n : Int)) (e := 2097) (by simpa using hA)
    rw [rn_nat] at h1
    have : (2 : Nat) ^ 2097 < 2 ^ 2098 := Nat.pow_lt_pow_right (by omega) (by omega)
    simp at h1
    omega
  have HI := Lib.hid hi
  generalize hU : (n : Int) * 2 ^ 4926 = U at *
  have HU := Lib.hid hU
  have e1 : ((k : Int) == 0) = false := by rw [beq_eq_false_iff_ne]; omega
  clear hsg hlo hlo2 hA hn hi hrn hz hfin hk hU
  obtain ⟨C3, hC3⟩ : ∃ C3, cmpZ U (nv false 1 (-1022)) = C3 := ⟨_, rfl⟩
  rw [hC3] at HC3
  clear hC3
  go_enter Try.func34, Try.ntmps34
  go_upto_region 8 with (fail)
  generalize (World.alloc _ _) = w1 at HM ⊢
  obtain ⟨x0, x1, x2⟩ := HM.out.cells
  go_wp2_with fail
  refine (HB.out _ HM.out.v).mono ?_
  rintro q w2 ⟨r, rfl, hb, hr0, hr1, hr2⟩
  obtain ⟨hr, hm1, hm2⟩ := HF.out r hr0 hr1 hr2
  have HM2 := Lib.hid (HM.out.below hb)
  have hri : r < 9218868437227405312 := by rw [← HI.out]; exact hr
  have HR := Lib.hid hr
  have HM1 := Lib.hid hm1
  have HM2' := Lib.hid hm2
  have HCR : Hid (cmpZ ((magn r : Int) * 2 ^ 4926) U = 0 ↔ magn r = n) := by
    rw [← HU.out]
    constructor
    · intro h
      rcases Int.lt_trichotomy ((magn r : Int) * 2 ^ 4926) ((n : Int) * 2 ^ 4926) with h1 | h1 | h1
      · rw [cmpZ_lt h1] at h; omega
      · exact scale_eq.1 h1
      · rw [cmpZ_gt h1] at h; omega
    · intro h; rw [h]; exact cmpZ_eq rfl
  clear hb hr0 hr1 hr2 hr hm1 hm2 HM HB HF x0 x1 x2
  have ez : ((r : Int) == 9218868437227405312) = false := by rw [beq_eq_false_iff_ne]; omega
  go_upto_region 10 with (fail)
  go_cut [12] (fun s wx => s = .bool (cmpZ ((magn r : Int) * 2 ^ 4926) U == 0) ∧ Hid (BeM false a k c e U lo w wx))
  case first =>
    have F0 := Lib.hid HM2.out.cells
    have F1 := Lib.hid HM2.out.drew.cells
    obtain ⟨x0, x1, x2⟩ := F0.out
    go_region_held3 (fun w' => w'.cell? ⟨w.heap.size, 0, none⟩ = some (.bool false) ∧ w'.cell? ⟨w.heap.size, 1, none⟩ = some (.slice a k c) ∧ w'.cell? ⟨w.heap.size, 2, none⟩ = some (.int .i64 e)) (first | exact F0.out | exact F1.out | exact FA.out | exact FB.out) (first | (go_at_call 44; (with_reducible refine (HV.out r _ hri).mono ?_); rintro q w2 ⟨u, rfl, hu, hb⟩; have SA := Lib.hid (HM2.out.drew.below hb); have FA := Lib.hid SA.out.cells; have HU' := Lib.hid hu) | (go_at_call 32; (with_reducible refine (HC1.out r _ _ hri HU'.out SA.out.v).mono ?_); rintro q w3 ⟨rfl, hb⟩; have SB := Lib.hid (SA.out.below hb); have FB := Lib.hid SB.out.cells))
    all_goals go_wp2_with fail
    all_goals go_meet
    all_goals exact ⟨rfl, SB⟩
  case rest =>
    obtain ⟨rfl, HM3⟩ := hcut
    clear HM2
    by_cases hex : magn r = n
    · have h1 := HCR.out.2 hex
      have HE := Lib.hid (HP.out r 0 wc HR.out (near_exact hex).symm HM3.out.b)
      have h2 : (cmpZ ((magn r : Int) * 2 ^ 4926) U == 0) = true := by rw [h1]; rfl
      rw [h2]
      clear h1 h2 hex HP HUP HLT HC1 HC2 HC3 HV HMid HCR
      go_wp2
      go_ret2
      exact HE.out
    · have h2 : (cmpZ ((magn r : Int) * 2 ^ 4926) U == 0) = false := by rw [beq_eq_false_iff_ne]; exact fun h => hex (HCR.out.1 h)
      rw [h2]
      clear hex h2 HCR HC1 HV
      go_upto_region 18 with (fail)
      obtain ⟨CC, hCC⟩ : ∃ CC, cmpN (2 * n) (magn r + magn (r + 1)) = CC := ⟨_, rfl⟩
      have HCC := Lib.hid hCC
      have HC2' := Lib.hid (HC2.out r)
      rw [hCC] at HC2'
      clear hCC HC2
      go_cut [14] (fun s wx => s = .int .i64 CC ∧ Hid (BeM false a k c e U lo w wx))
      case first =>
        have F0 := Lib.hid HM3.out.cells
        have F1 := Lib.hid HM3.out.drew.cells
        obtain ⟨x0, x1, x2⟩ := F0.out
        go_region_held3 (fun w' => w'.cell? ⟨w.heap.size, 0, none⟩ = some (.bool false) ∧ w'.cell? ⟨w.heap.size, 1, none⟩ = some (.slice a k c) ∧ w'.cell? ⟨w.heap.size, 2, none⟩ = some (.int .i64 e)) (first | exact F0.out | exact F1.out | exact FA.out | exact FB.out) (first | (go_at_call 45; (with_reducible refine (HMid.out r _ hri).mono ?_); rintro q w2 ⟨u, rfl, hu, hb⟩; have SA := Lib.hid (HM3.out.drew.below hb); have FA := Lib.hid SA.out.cells; have HU' := Lib.hid hu) | (go_at_call 32; (with_reducible refine (HC2'.out _ _ HM1.out HM2'.out HR.out HU'.out SA.out.v).mono ?_); rintro q w3 ⟨rfl, hb⟩; have SB := Lib.hid (SA.out.below hb); have FB := Lib.hid SB.out.cells))
        all_goals go_wp2_with fail
        all_goals go_meet
        all_goals exact ⟨rfl, SB⟩
      case rest =>
        obtain ⟨rfl, HM4⟩ := hcut
        clear HM3 HC2' HMid
        have hcc : (CC = 1 ∧ upB n r = true) ∨ (CC = 0 ∧ r % 2 = 1 ∧ upB n r = true) ∨ (CC = 0 ∧ r % 2 = 0 ∧ upB n r = false) ∨ (CC = -1 ∧ upB n r = false) := by
          have h := HCC.out
          unfold upB
          rcases Nat.lt_trichotomy (2 * n) (magn r + magn (r + 1)) with h1 | h1 | h1
          · rw [cmpN_lt h1] at h
            refine .inr (.inr (.inr ⟨h.symm, ?_⟩))
            rw [decide_eq_false (by omega), decide_eq_false (by omega : ¬ magn r + magn (r + 1) = 2 * n)]; rfl
          · rw [cmpN_eq h1] at h
            rcases Nat.mod_two_eq_zero_or_one r with h2 | h2
            · refine .inr (.inr (.inl ⟨h.symm, h2, ?_⟩))
              rw [decide_eq_false (by omega), h2]; simp
            · refine .inr (.inl ⟨h.symm, h2, ?_⟩)
              rw [decide_eq_true h1.symm, h2]; simp
          · rw [cmpN_gt h1] at h
            refine .inl ⟨h.symm, ?_⟩
            rw [decide_eq_true h1]; rfl
        have HUR := Lib.hid (HUP.out r HM1.out HM2'.out)
        clear HUP HCC
        rcases hcc with ⟨hc, hu⟩ | ⟨hc, hod, hu⟩ | ⟨hc, hod, hu⟩ | ⟨hc, hu⟩
        · have HE := Lib.hid (by have h := HUR.out; rw [hu] at h; exact h : rnN n = magn (r + 1))
          have hrl := HLT.out (r + 1) HE.out.symm
          rw [HI.out] at hrl
          have HRL := Lib.hid (HLT.out (r + 1) HE.out.symm)
          have HX := Lib.hid (fun f w' h => HP.out (r + 1) f w' HRL.out HE.out.symm h)
          subst hc
          have ez2 : (((r + 1 : Nat) : Int) == 9218868437227405312) = false := by rw [beq_eq_false_iff_ne]; omega
          have ez3 : (((r : Int) + 1) == 9218868437227405312) = false ∨ True := .inr trivial
          have ez4 : ((r : Int) + 1 == 9218868437227405312) = false := by rw [beq_eq_false_iff_ne]; omega
          
          clear hu HUR HLT HP ez3 HE
          obtain ⟨x0, x1, x2⟩ := HM4.out.cells
          go_wp2_with fail
          refine (HC3.out _ _ (least_any _ _) (HM4.out.v.alloc _)).mono ?_
          rintro q w5 ⟨rfl, hb⟩
          have HB5 : Hid (Below w.heap.size w w5) := (HM4.out.b.alloc HM4.out.b.size _).trans (hb.mono (by have := HM4.out.b.size; simp; omega))
          clear hb x0 x1 x2 HC3
          by_cases hlt : C3 < 0
          · go_wp2
            go_ret2
            exact HX.out _ _ HB5.out
          · have hlt' : decide (C3 < 0) = false := decide_eq_false hlt
            go_wp2
            go_ret2
            exact HX.out _ _ HB5.out
        · have HE := Lib.hid (by have h := HUR.out; rw [hu] at h; exact h : rnN n = magn (r + 1))
          have hrl := HLT.out (r + 1) HE.out.symm
          rw [HI.out] at hrl
          have HRL := Lib.hid (HLT.out (r + 1) HE.out.symm)
          have HX := Lib.hid (fun f w' h => HP.out (r + 1) f w' HRL.out HE.out.symm h)
          subst hc
          have ez2 : (((r + 1 : Nat) : Int) == 9218868437227405312) = false := by rw [beq_eq_false_iff_ne]; omega
          have ez3 : (((r : Int) + 1) == 9218868437227405312) = false ∨ True := .inr trivial
          have ez4 : ((r : Int) + 1 == 9218868437227405312) = false := by rw [beq_eq_false_iff_ne]; omega
          have ho : ((r : Int) % 2 == 1) = true := by rw [beq_iff_eq]; omega
          clear hu HUR HLT HP ez3 HE
          obtain ⟨x0, x1, x2⟩ := HM4.out.cells
          go_wp2_with fail
          refine (HC3.out _ _ (least_any _ _) (HM4.out.v.alloc _)).mono ?_
          rintro q w5 ⟨rfl, hb⟩
          have HB5 : Hid (Below w.heap.size w w5) := (HM4.out.b.alloc HM4.out.b.size _).trans (hb.mono (by have := HM4.out.b.size; simp; omega))
          clear hb x0 x1 x2 HC3
          by_cases hlt : C3 < 0
          · go_wp2
            go_ret2
            exact HX.out _ _ HB5.out
          · have hlt' : decide (C3 < 0) = false := decide_eq_false hlt
            go_wp2
            go_ret2
            exact HX.out _ _ HB5.out
        · have HE := Lib.hid (by have h := HUR.out; rw [hu] at h; exact h : rnN n = magn (r))
          have hrl := HLT.out (r) HE.out.symm
          rw [HI.out] at hrl
          have HRL := Lib.hid (HLT.out (r) HE.out.symm)
          have HX := Lib.hid (fun f w' h => HP.out (r) f w' HRL.out HE.out.symm h)
          subst hc
          have ez2 : (((r : Nat) : Int) == 9218868437227405312) = false := by rw [beq_eq_false_iff_ne]; omega
          have ez3 : (((r : Int) + 1) == 9218868437227405312) = false ∨ True := .inr trivial
          have ez4 : True := trivial
          have ho : ((r : Int) % 2 == 1) = false := by rw [beq_eq_false_iff_ne]; omega
          clear hu HUR HLT HP ez3 HE
          obtain ⟨x0, x1, x2⟩ := HM4.out.cells
          go_wp2_with fail
          refine (HC3.out _ _ (least_any _ _) (HM4.out.v.alloc _)).mono ?_
          rintro q w5 ⟨rfl, hb⟩
          have HB5 : Hid (Below w.heap.size w w5) := (HM4.out.b.alloc HM4.out.b.size _).trans (hb.mono (by have := HM4.out.b.size; simp; omega))
          clear hb x0 x1 x2 HC3
          by_cases hlt : C3 < 0
          · go_wp2
            go_ret2
            exact HX.out _ _ HB5.out
          · have hlt' : decide (C3 < 0) = false := decide_eq_false hlt
            go_wp2
            go_ret2
            exact HX.out _ _ HB5.out
        · have HE := Lib.hid (by have h := HUR.out; rw [hu] at h; exact h : rnN n = magn (r))
          have hrl := HLT.out (r) HE.out.symm
          rw [HI.out] at hrl
          have HRL := Lib.hid (HLT.out (r) HE.out.symm)
          have HX := Lib.hid (fun f w' h => HP.out (r) f w' HRL.out HE.out.symm h)
          subst hc
          have ez2 : (((r : Nat) : Int) == 9218868437227405312) = false := by rw [beq_eq_false_iff_ne]; omega
          have ez3 : (((r : Int) + 1) == 9218868437227405312) = false ∨ True := .inr trivial
          have ez4 : True := trivial
          
          clear hu HUR HLT HP ez3 HE
          obtain ⟨x0, x1, x2⟩ := HM4.out.cells
          go_wp2_with fail
          refine (HC3.out _ _ (least_any _ _) (HM4.out.v.alloc _)).mono ?_
          rintro q w5 ⟨rfl, hb⟩
          have HB5 : Hid (Below w.heap.size w w5) := (HM4.out.b.alloc HM4.out.b.size _).trans (hb.mono (by have := HM4.out.b.size; simp; omega))
          clear hb x0 x1 x2 HC3
          by_cases hlt : C3 < 0
          · go_wp2
            go_ret2
            exact HX.out _ _ HB5.out
          · have hlt' : decide (C3 < 0) = false := decide_eq_false hlt
            go_wp2
            go_ret2
            exact HX.out _ _ HB5.out

end Go.Proofs.Ytbknkcfnhfolpaa
