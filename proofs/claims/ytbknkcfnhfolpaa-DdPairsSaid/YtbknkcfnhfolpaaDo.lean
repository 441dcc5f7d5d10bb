/-
  ref07's Middle and Below: what they return.
-/
import Derived.Test.YtbknkcfnhfolpaaDn
set_option exponentiation.threshold 9000
namespace Go.Proofs.Ytbknkcfnhfolpaa
open Go.RowKit Rn

theorem nv_half {ng : Bool} {m : Nat} {e : Int} {A : Int} (h : nv ng m e = A * 2 ^ 4926) (he : -1074 ≤ e) : nv ng m (e - 1) = A * 2 ^ 4925 := by
  have h1 : nv ng m e = nv ng m (e - 1) * 2 := by
    unfold nv
    rw [show (e + 6000).toNat = (e - 1 + 6000).toNat + 1 by omega, Nat.pow_succ, ← Nat.mul_assoc, sg_mul]; rfl
  rw [h1, Int.pow_succ, ← Int.mul_assoc] at h
  exact Int.eq_of_mul_eq_mul_right (by decide) h

theorem bz_magn {r : Nat} (h : r ≤ infR) : Bz ((magn r : Int) * 2 ^ 4926) := by
  have h1 := magn_le h
  rw [magn_inf] at h1
  have h2 : ((magn r : Int) * 2 ^ 4926).natAbs = magn r * 2 ^ 4926 := by rw [Int.natAbs_mul, Int.natAbs_pow]; rfl
  unfold Bz
  rw [h2]
  refine Nat.le_trans (bl_le (k := 7025) ?_) (by decide)
  rw [show (7025 : Nat) = 2099 + 4926 by rfl, Nat.pow_add]
  refine Nat.mul_lt_mul_of_pos_right (Nat.lt_of_le_of_lt h1 ?_) (Nat.two_pow_pos _)
  exact Nat.pow_lt_pow_right (by omega) (by omega)

set_option maxHeartbeats 2000000 in
theorem middle_any {b : Nat} (h : b < 9218868437227405312) (w : World) : Calls Try.prog 45 #[.int .u64 b] w (RetNZ (((magn b : Int) + magn (b + 1)) * 2 ^ 4925) (-1075) w) := by
  have H1 : Hid (∀ w, Calls Try.prog 44 #[.int .u64 b] w (RetNO ((magn b : Int) * 2 ^ 4926) (-1074) w)) := fun w => value_any (by omega) w
  have H2 : Hid (∀ w, Calls Try.prog 44 #[.int .u64 ((b : Int) + 1)] w (RetNO ((magn (b + 1) : Int) * 2 ^ 4926) (-1074) w)) := fun w => value_any (b := b + 1) (by omega) w
  have hi : infR = 9218868437227405312 := by decide
  have HB1 := Lib.hid (bz_magn (r := b) (by omega))
  have HB2 := Lib.hid (bz_magn (r := b + 1) (by omega))
  clear hi
  have hs : (magn b : Int) * 2 ^ 4926 + (magn (b + 1) : Int) * 2 ^ 4926 = ((magn b : Int) + magn (b + 1)) * 2 ^ 4926 := by rw [Int.add_mul]
  have HS := Lib.hid hs
  clear hs
  have HH : Hid (∀ ng m e, nv ng m e = ((magn b : Int) + magn (b + 1)) * 2 ^ 4926 → -1074 ≤ e → nv ng m (e - 1) = ((magn b : Int) + magn (b + 1)) * 2 ^ 4925) := fun ng m e h he => nv_half h he
  generalize ((magn b : Int) + magn (b + 1)) * 2 ^ 4925 = Z at *
  generalize ((magn b : Int) + magn (b + 1)) * 2 ^ 4926 = Y at *
  generalize (magn b : Int) * 2 ^ 4926 = Z1 at *
  generalize (magn (b + 1) : Int) * 2 ^ 4926 = Z2 at *
  go_enter Try.func45, Try.ntmps45
  go_wp2_with fail
  refine (H1.out _).mono ?_
  rintro q w1 ⟨v1, rfl, hv1, hb⟩
  obtain ⟨k1, B1⟩ := newR hb
  clear hb
  go_wp2_with fail
  refine (H2.out _).mono ?_
  rintro q w2 ⟨v2, rfl, hv2, hb⟩
  have k2 : Res w2 w.heap.size := Blk.below k1 hb
  have B2 := B1.trans (hb.mono B1.size)
  have hv1' := hv1.below hb
  clear hb k1 B1 hv1
  go_wp2_with fail
  refine (add_any' hv1'.nz hv2.nz (by omega) HB1.out HB2.out).mono ?_
  rintro q w3 ⟨v, rfl, hv, hb⟩
  have k3 : Res w3 w.heap.size := Blk.below k2 hb
  have B3 := B2.trans (hb.mono B2.size)
  clear hb k2 B2 hv1' hv2
  obtain ⟨ng, m, e, ⟨sl, rfl, hd⟩, he1, he2, hnv⟩ := hv
  obtain ⟨a, kk, c, rfl, -⟩ := hd.form
  have HN := Lib.hid (HH.out ng m e (by rw [hnv]; exact HS.out) he1)
  have q1 : IntKind.i64.wrap (e - 1) = e - 1 := IntWalk.i64_in _ (by omega)
  obtain ⟨r0, r1, r2, z0, z1, z2⟩ := Res.cells k3
  have hlt : w.heap.size < w3.heap.size := Blk.lt k3
  have K3 := Lib.hid k3
  have BB := Lib.hid B3
  have HV := Lib.hid hd
  clear k3 B3 hd hnv
  go_wp2
  obtain ⟨p1, p2⟩ := fin3 K3.out BB.out (Nat.le_refl _) (.bool ng) (.slice a kk c) (.int .i64 (e - 1))
  have p3 := HV.out.st3 (Res.parts K3.out) (.bool ng) (.slice a kk c) (.int .i64 (e - 1))
  have p1 := Blk.alloc p1 (.cells #[.bool ng, .slice a kk c, .int .i64 (e - 1)] 32)
  have p2 := p2.alloc p2.size (.cells #[.bool ng, .slice a kk c, .int .i64 (e - 1)] 32)
  have p3 := p3.alloc (.cells #[.bool ng, .slice a kk c, .int .i64 (e - 1)] 32)
  generalize (World.alloc (World.setCell (World.setCell (World.setCell _ _ _) _ _) _ _) _) = W at p1 p2 p3 ⊢
  obtain ⟨g0, g1, g2⟩ := results_agg3 p1
  exact bodyPost_ret (v := .agg #[.bool ng, .slice a kk c, .int .i64 (e - 1)]) (by simp [results, Try.results45, go_sem, g0, g1, g2]) rfl ⟨_, rfl, ⟨ng, m, e - 1, ⟨_, rfl, p3⟩, by omega, by omega, HN.out⟩, p2⟩

/-- Below's memory -/
structure BeM (ng : Bool) (a : Option Addr) (k c : Nat) (e z lo : Int) (w wr : World) : Prop where
  x : Blk wr w.heap.size 32 #[.bool ng, .slice a k c, .int .i64 e]
  v : NZ wr (.agg #[.bool ng, .slice a k c, .int .i64 e]) z lo
  b : Below w.heap.size w wr
theorem BeM.below {ng : Bool} {a : Option Addr} {k c : Nat} {e z lo : Int} {w wr w' : World} (h : BeM ng a k c e z lo w wr) (hb : Below wr.heap.size wr w') : BeM ng a k c e z lo w w' :=
  ⟨h.x.below hb, h.v.below hb, h.b.trans (hb.mono h.b.size)⟩
theorem BeM.drew {ng : Bool} {a : Option Addr} {k c : Nat} {e z lo : Int} {w wr : World} (h : BeM ng a k c e z lo w wr) : BeM ng a k c e z lo w wr.drew := ⟨h.x, h.v, below_drewN' h.b 1⟩
theorem BeM.cells {ng : Bool} {a : Option Addr} {k c : Nat} {e z lo : Int} {w wr : World} (h : BeM ng a k c e z lo w wr) :
    wr.cell? ⟨w.heap.size, 0, none⟩ = some (.bool ng) ∧ wr.cell? ⟨w.heap.size, 1, none⟩ = some (.slice a k c) ∧ wr.cell? ⟨w.heap.size, 2, none⟩ = some (.int .i64 e) :=
  ⟨h.x.at 0 (.bool ng) rfl, h.x.at 1 (.slice a k c) rfl, h.x.at 2 (.int .i64 e) rfl⟩
theorem BeM.start {ng : Bool} {a : Option Addr} {k c : Nat} {e z lo : Int} {w : World} (h : NZ w (.agg #[.bool ng, .slice a k c, .int .i64 e]) z lo) : BeM ng a k c e z lo w (w.alloc (.cells #[.bool ng, .slice a k c, .int .i64 e] 32)) :=
  ⟨Blk.new w 32 _, h.alloc _, (Below.refl _ _).alloc (Nat.le_refl _) _⟩

/-- the greatest rung below -/
def RetBelow (z : Int) (w : World) (q : Ending) (w' : World) : Prop := ∃ r : Nat, q = .returned (.int .u64 r) ∧ Below w.heap.size w w' ∧ r ≤ infR ∧ (magn r : Int) * 2 ^ 4926 ≤ z ∧ (r < infR → z < (magn (r + 1) : Int) * 2 ^ 4926)

theorem cmpZ_le {a b : Int} : cmpZ a b ≤ 0 ↔ a ≤ b := by
  rcases Int.lt_trichotomy a b with h | h | h
  · rw [cmpZ_lt h]; omega
  · rw [cmpZ_eq h]; omega
  · rw [cmpZ_gt h]; omega

def Rung (z : Int) (r : Nat) : Prop := (magn r : Int) * 2 ^ 4926 ≤ z
theorem Rung.zero {z : Int} (h : 0 ≤ z) : Rung z 0 := by unfold Rung; rw [magn_zero]; simpa using h

set_option maxHeartbeats 8000000 in
theorem below_any {v : Value} {w : World} {z lo : Int} (h : NZ w v z lo) (hlo : -6000 ≤ lo) (hlo2 : lo ≤ -1074) (h0 : 0 ≤ z) (hz : Bz z) : Calls Try.prog 43 #[v] w (RetBelow z w) := by
  obtain ⟨ng, a, k, c, e, rfl⟩ := h.form
  have HB := Lib.hid (BeM.start h)
  clear h
  have hi : infR = 9218868437227405312 := by decide
  have HL := Lib.hid limit_any
  have HV : Hid (∀ (r : Nat) w, r ≤ 9218868437227405312 → Calls Try.prog 44 #[.int .u64 r] w (RetNO ((magn r : Int) * 2 ^ 4926) (-1074) w)) := fun r w hr => value_any hr w
  have HC : Hid (∀ (r : Nat) w u, r ≤ 9218868437227405312 → NO w u ((magn r : Int) * 2 ^ 4926) (-1074) → NZ w (.agg #[.bool ng, .slice a k c, .int .i64 e]) z lo → Calls Try.prog 32 #[u, .agg #[.bool ng, .slice a k c, .int .i64 e]] w fun q w' => q = .returned (.int .i64 (cmpZ ((magn r : Int) * 2 ^ 4926) z)) ∧ Below w.heap.size w w') := fun r w u hr hu hv => by
    refine cmp_any' ?_ hv hlo (bz_magn (by omega)) hz
    obtain ⟨n, m, e, h1, h2, h3⟩ := hu.nz
    exact ⟨n, m, e, h1, by omega, h3⟩
  have HI := Lib.hid hi
  have HZ := Lib.hid (Rung.zero h0)
  clear hi hz hlo hlo2 h0
  have HR : Hid (∀ r : Nat, cmpZ ((magn r : Int) * 2 ^ 4926) z ≤ 0 ↔ Rung z r) := fun r => cmpZ_le
  have HP : Hid (∀ (r : Nat) w', r ≤ 9218868437227405312 → Rung z r → (r < 9218868437227405312 → ¬ Rung z (r + 1)) → Below w.heap.size w w' → RetBelow z w (.returned (.int .u64 r)) w') := fun r w' h1 h2 h3 h4 => ⟨r, rfl, h4, by rw [HI.out]; exact h1, h2, fun h => by
    have := h3 (by rw [HI.out] at h; exact h)
    unfold Rung at this; omega⟩
  obtain ⟨F, hF⟩ : ∃ F : Nat → Int, F = fun r => cmpZ ((magn r : Int) * 2 ^ 4926) z := ⟨_, rfl⟩
  have HCF : Hid (∀ (r : Nat) w u, r ≤ 9218868437227405312 → NO w u ((magn r : Int) * 2 ^ 4926) (-1074) → NZ w (.agg #[.bool ng, .slice a k c, .int .i64 e]) z lo → Calls Try.prog 32 #[u, .agg #[.bool ng, .slice a k c, .int .i64 e]] w fun q w' => q = .returned (.int .i64 (F r)) ∧ Below w.heap.size w w') := by rw [hF]; exact HC.out
  have HRF : Hid (∀ r : Nat, F r ≤ 0 ↔ Rung z r) := by rw [hF]; exact HR.out
  clear hF HC HR
  go_enter Try.func43, Try.ntmps43
  go_upto_region 2 with (fail)
  generalize (World.alloc _ _) = w1 at HB ⊢
  go_cut [9] (fun s wx => s = .bool (decide (F 9218868437227405312 ≤ 0)) ∧ Hid (BeM ng a k c e z lo w wx))
  case first =>
    have F0 := Lib.hid HB.out.cells
    have F1 := Lib.hid HB.out.drew.cells
    obtain ⟨x0, x1, x2⟩ := F0.out
    go_region_held3 (fun w' => w'.cell? ⟨w.heap.size, 0, none⟩ = some (.bool ng) ∧ w'.cell? ⟨w.heap.size, 1, none⟩ = some (.slice a k c) ∧ w'.cell? ⟨w.heap.size, 2, none⟩ = some (.int .i64 e)) (first | exact F0.out | exact F1.out | exact FA.out | exact FB.out) (first | (go_at_call 52; (with_reducible refine (HL.out _).mono ?_); rintro q w2 ⟨u, rfl, hu, hb⟩; have SA := Lib.hid (HB.out.drew.below hb); have FA := Lib.hid SA.out.cells; have HU := Lib.hid (show NO w2 u ((magn 9218868437227405312 : Int) * 2 ^ 4926) (-1074) by rw [← HI.out]; exact hu)) | (go_at_call 32; (with_reducible refine (HCF.out 9218868437227405312 _ _ (Nat.le_refl _) HU.out SA.out.v).mono ?_); rintro q w3 ⟨rfl, hb⟩; have SB := Lib.hid (SA.out.below hb); have FB := Lib.hid SB.out.cells))
    all_goals go_wp2_with fail
    all_goals go_meet
    all_goals exact ⟨rfl, SB⟩
  case rest =>
    obtain ⟨rfl, HB2⟩ := hcut
    clear HB HL
    by_cases hl : F 9218868437227405312 ≤ 0
    · have HE := Lib.hid (HP.out 9218868437227405312 wc (Nat.le_refl _) ((HRF.out _).1 hl) (fun h => absurd h (Nat.lt_irrefl _)) HB2.out.b)
      have hd : decide (F 9218868437227405312 ≤ 0) = true := decide_eq_true hl
      clear HP HRF HCF HV
      go_wp2
      go_ret
      exact HE.out
    · have hd : decide (F 9218868437227405312 ≤ 0) = false := decide_eq_false hl
      have HN : Hid (¬ Rung z 9218868437227405312) := fun h => hl ((HRF.out _).2 h)
      rw [hd]
      clear hd hl
      go_wp2
      go_loopw [3, 4] (fun s t wr => ∃ l h : Nat, s = .int .u64 l ∧ t = .int .u64 h ∧ l < h ∧ h ≤ 9218868437227405312 ∧ Hid (Rung z l ∧ ¬ Rung z h) ∧ Hid (BeM ng a k c e z lo w wr)) (fun s t _ => (intOf t - intOf s).toNat)
      case atStart => exact ⟨0, 9218868437227405312, rfl, rfl, by omega, by omega, ⟨HZ.out, HN.out⟩, HB2⟩
      case round =>
        obtain ⟨l, h, rfl, rfl, hlh, hh, hrr, HB⟩ := hrel
        clear HB2 HZ HN
        by_cases hgap : l + 1 < h
        · obtain ⟨mid, hm⟩ : ∃ mid, mid = l + (h - l) / 2 := ⟨_, rfl⟩
          have hm1 : l < mid := by omega
          have hm2 : mid < h := by omega
          have hm3 : ((l : Int) + ((h : Int) - l) / 2) = mid := by omega
          have hg1 : (1 : Int) < (h : Int) - l := by omega
          clear hm
          go_upto_region 6 with (fail)
          go_cut [25] (fun s wx => s = .bool (decide (F mid ≤ 0)) ∧ Hid (BeM ng a k c e z lo w wx))
          case first =>
            have F0 := Lib.hid HB.out.cells
            have F1 := Lib.hid HB.out.drew.cells
            obtain ⟨x0, x1, x2⟩ := F0.out
            go_region_held3 (fun w' => w'.cell? ⟨w.heap.size, 0, none⟩ = some (.bool ng) ∧ w'.cell? ⟨w.heap.size, 1, none⟩ = some (.slice a k c) ∧ w'.cell? ⟨w.heap.size, 2, none⟩ = some (.int .i64 e)) (first | exact F0.out | exact F1.out | exact FA.out | exact FB.out) (first | (go_at_call 44; (with_reducible refine (HV.out mid _ (by omega)).mono ?_); rintro q w2 ⟨u, rfl, hu, hb⟩; have SA := Lib.hid (HB.out.drew.below hb); have FA := Lib.hid SA.out.cells; have HU := Lib.hid hu) | (go_at_call 32; (with_reducible refine (HCF.out mid _ _ (by omega) HU.out SA.out.v).mono ?_); rintro q w3 ⟨rfl, hb⟩; have SB := Lib.hid (SA.out.below hb); have FB := Lib.hid SB.out.cells))
            all_goals go_wp2_with fail
            all_goals go_meet
            all_goals exact ⟨rfl, SB⟩
          case rest =>
            obtain ⟨rfl, HB2⟩ := hcut
            clear HB
            by_cases hl : F mid ≤ 0
            · have HR2 : Hid (Rung z mid ∧ ¬ Rung z h) := ⟨(HRF.out _).1 hl, hrr.out.2⟩
              have hd : decide (F mid ≤ 0) = true := decide_eq_true hl
              rw [hd]
              clear hd hl HP HRF HCF HV
              go_wp2
              go_roundw
              case rel => exact ⟨mid, h, rfl, rfl, hm2, hh, HR2, HB2⟩
              case measure => simp [intOf]; omega
            · have HR2 : Hid (Rung z l ∧ ¬ Rung z mid) := ⟨hrr.out.1, fun h => hl ((HRF.out _).2 h)⟩
              have hd : decide (F mid ≤ 0) = false := decide_eq_false hl
              rw [hd]
              clear hd hl HP HRF HCF HV
              go_wp2
              go_roundw
              case rel => exact ⟨l, mid, rfl, rfl, hm1, by omega, HR2, HB2⟩
              case measure => simp [intOf]; omega
        · obtain rfl : h = l + 1 := by omega
          have hg1 : decide ((1 : Int) < ((l + 1 : Nat) : Int) - l) = false := decide_eq_false (by omega)
          have HE := Lib.hid (HP.out l wr (by omega) hrr.out.1 (fun _ => hrr.out.2) HB.out.b)
          go_wp2
          go_ret
          exact HE.out

end Go.Proofs.Ytbknkcfnhfolpaa
