/-
  series: Exp. Printed by gen_ea.py.
-/
import Derived.Test.YtobpioceopfkpaaGreatDoorM11
namespace Go.Proofs.YtobpioceopfkpaaGreatDoor
open Go.RowKit

def exL : Nat → Nat → Pr → Pr → Pr → Nat → Pr × Pr
  | 0, _, sum, term, _, _ => (sum, term)
  | f + 1, n, sum, term, x, s => if term.lo = 0 ∧ x.hi = 0 then (sum, term) else
      if (byP (timesP term x s) n).hi ≤ 1 then (plusP sum (byP (timesP term x s) n), byP (timesP term x s) n)
      else exL f (n + 1) (plusP sum (byP (timesP term x s) n)) (byP (timesP term x s) n) x s
def expR (a b s : Nat) : Pr × Pr := exL (s + 2) 1 ⟨2 ^ s, 2 ^ s⟩ ⟨2 ^ s, 2 ^ s⟩ ⟨a, b⟩ s
def expP (a b s : Nat) : Pr := restP (expR a b s).1 (expR a b s).2
/-- the loop's state -/
structure ExI (s : Nat) (R : Pr × Pr) (n i f : Nat) (S T X : Pr) : Prop where
  hn : n = i + 1
  hf : i + f = s + 2
  hb : T.hi ≤ 2 ^ (f - 1)
  h1 : i = 0 ∨ 1 < T.hi
  hT : T.lo ≤ 2 ^ s ∧ T.hi ≤ 2 ^ s
  hS : S.lo ≤ (i + 1) * 2 ^ s ∧ S.hi ≤ (i + 1) * 2 ^ s
  hX : X.lo ≤ 2 ^ s ∧ X.hi ≤ 2 ^ s
  hR : exL f n S T X s = R
theorem ExI.start {a b s : Nat} (ha : a ≤ 2 ^ s) (hb : b ≤ 2 ^ s) : ExI s (expR a b s) 1 0 (s + 2) ⟨2 ^ s, 2 ^ s⟩ ⟨2 ^ s, 2 ^ s⟩ ⟨a, b⟩ :=
  ⟨rfl, by omega, Nat.pow_le_pow_right (by decide) (by omega), .inl rfl, ⟨Nat.le_refl _, Nat.le_refl _⟩, by simp, ⟨ha, hb⟩, rfl⟩
theorem ExI.f2 {s : Nat} {R : Pr × Pr} {n i f : Nat} {S T X : Pr} (h : ExI s R n i f S T X) : 2 ≤ f := by
  rcases h.h1 with h1 | h1
  · have := h.hf; omega
  · have hb := h.hb
    apply Nat.le_of_not_lt; intro hf
    have : f - 1 = 0 := by omega
    rw [this, Nat.pow_zero] at hb
    omega
theorem ExI.step {s : Nat} {R : Pr × Pr} {n i f : Nat} {S T X : Pr} (h : ExI s R n i f S T X) (h0 : ¬ (T.lo = 0 ∧ X.hi = 0)) :
    ∃ f', f = f' + 1 ∧ ((byP (timesP T X s) n).hi ≤ 1 → R = (plusP S (byP (timesP T X s) n), byP (timesP T X s) n)) ∧
      (1 < (byP (timesP T X s) n).hi → ExI s R (n + 1) (i + 1) f' (plusP S (byP (timesP T X s) n)) (byP (timesP T X s) n) X) := by
  have hf2 := h.f2
  obtain ⟨hn, hf, hb, h1, hT, hS, hX, hR⟩ := h
  obtain ⟨f', rfl⟩ : ∃ f', f = f' + 1 := ⟨f - 1, by omega⟩
  have ht := timesP_le (s := s) hT hX
  have hby := byP_le (p := timesP T X s) (n := n) (B := 2 ^ s) (by omega) ht
  have hup : (timesP T X s).hi ≤ T.hi := upN_le (Nat.mul_le_mul_left _ hX.2)
  have hbb : (byP (timesP T X s) n).hi ≤ 2 ^ (f' - 1) := by
    by_cases h2 : n = 1
    · have : f' - 1 = s := by omega
      rw [this]; exact hby.2
    · refine up_le (by omega) ?_
      have e : 2 ^ (f' + 1 - 1) = 2 ^ (f' - 1) * 2 := by rw [← Nat.pow_succ]; congr 1; omega
      rw [e] at hb
      exact Nat.le_trans hup (Nat.le_trans hb (Nat.mul_le_mul_left _ (by omega)))
  rw [exL, if_neg h0] at hR
  generalize byP (timesP T X s) n = T' at *
  refine ⟨f', rfl, fun h3 => ?_, fun h3 => ?_⟩
  · rw [if_pos h3] at hR; exact hR.symm
  · rw [if_neg (by omega)] at hR
    refine ⟨by omega, by omega, hbb, .inr h3, hby, ?_, hX, hR⟩
    rw [Nat.add_mul, Nat.one_mul]
    exact ⟨Nat.add_le_add hS.1 hby.1, Nat.add_le_add hS.2 hby.2⟩
theorem ExI.done {s : Nat} {R : Pr × Pr} {n i f : Nat} {S T X : Pr} (h : ExI s R n i f S T X) (h0 : T.lo = 0 ∧ X.hi = 0) : R = (S, T) := by
  have hR := h.hR
  rw [← hR]
  cases f with
  | zero => rfl
  | succ f => rw [exL, if_pos h0]
theorem ExI.szs {s : Nat} {R : Pr × Pr} {n i f : Nat} {S T X : Pr} (h : ExI s R n i f S T X) (hs : s ≤ 9000) :
    (0 < n ∧ n ≤ 20010) ∧ (bl T.lo ≤ 10000 ∧ bl T.hi ≤ 10000) ∧ (bl S.lo ≤ 10000 ∧ bl S.hi ≤ 10000) ∧ (bl X.lo ≤ 10000 ∧ bl X.hi ≤ 10000) ∧ (bl (timesP T X s).lo ≤ 10000 ∧ bl (timesP T X s).hi ≤ 10000) ∧
    (bl (byP (timesP T X s) n).lo ≤ 10000 ∧ bl (byP (timesP T X s) n).hi ≤ 10000) ∧ (bl (plusP S (byP (timesP T X s) n)).lo ≤ 10000 ∧ bl (plusP S (byP (timesP T X s) n)).hi ≤ 10000) := by
  obtain ⟨hn, hf, hb, h1, hT, hS, hX, hR⟩ := h
  have ht := timesP_le (s := s) hT hX
  have hby := byP_le (p := timesP T X s) (n := n) (B := 2 ^ s) (by omega) ht
  have k : ∀ x, x ≤ 2 ^ s → bl x ≤ 10000 := fun x hx => Nat.le_trans (bl_pow_le (s := s) (k := 1) (by omega) (by decide)) (by omega)
  have k2 : ∀ x, x ≤ (i + 1) * 2 ^ s → bl x ≤ 10000 := fun x hx => Nat.le_trans (bl_pow_le (s := s) hx (Nat.le_trans (show i + 1 ≤ 9003 by omega) (by decide))) (by omega)
  have k3 : ∀ x, x ≤ (i + 2) * 2 ^ s → bl x ≤ 10000 := fun x hx => Nat.le_trans (bl_pow_le (s := s) hx (Nat.le_trans (show i + 2 ≤ 9004 by omega) (by decide))) (by omega)
  have e : (i + 2) * 2 ^ s = (i + 1) * 2 ^ s + 2 ^ s := by rw [Nat.add_mul, Nat.add_mul]; omega
  refine ⟨⟨by omega, by omega⟩, ⟨k _ hT.1, k _ hT.2⟩, ⟨k2 _ hS.1, k2 _ hS.2⟩, ⟨k _ hX.1, k _ hX.2⟩, ⟨k _ ht.1, k _ ht.2⟩, ⟨k _ hby.1, k _ hby.2⟩, ⟨k3 _ ?_, k3 _ ?_⟩⟩
  · rw [e]; exact Nat.add_le_add hS.1 hby.1
  · rw [e]; exact Nat.add_le_add hS.2 hby.2

set_option maxRecDepth 100000 in
set_option maxHeartbeats 4000000 in
theorem SExp_r {w : World} {u v : Value} {a b : Nat} (hu : Rd w u a) (hv : Rd w v b) (s : Nat) (hs : 8 ≤ s ∧ s ≤ 9000) (hab : a ≤ b) (hbs : b ≤ 2 ^ s) :
    Calls Tryz.prog 134 #[u, v, .int .i64 (s : Int)] w fun e w' => ∃ x y, e = .returned (.tuple #[x, y, .int .i64 0]) ∧ Dg w' x (expP a b s).lo ∧ Dg w' y (expP a b s).hi ∧ Below w.heap.size w w' := by
  have HU := Lib.hid hu
  have HV := Lib.hid hv
  obtain ⟨a1, k1, c1, rfl⟩ := hu.form
  obtain ⟨a2, k2, c2, rfl⟩ := hv.form
  have bo : bl (2 ^ s) ≤ 10000 := Nat.le_trans (bl_pow_le (s := s) (k := 1) (by omega) (by decide)) (by omega)
  have bo2 : bl (2 ^ s) ≤ 6000000 := Nat.le_trans bo (by decide)
  have b1 : bl 1 ≤ 64 := bl64 (by decide)
  have CS := Lib.hid (fun w => scale_r w s hs)
  have C1 := Lib.hid (fun w u v (h : Rd w u a) (k : Rd w v b) => cmp_r h k)
  have CL := Lib.hid (fun w u (h : Dg w u 1) => shl_s (h.rd (by omega)) s (by omega))
  rw [Nat.one_mul] at CL
  have C2 := Lib.hid (fun w u v (h : Rd w u b) (k : Dg w v (2 ^ s)) => cmp_r h (k.rd bo2))
  have e1 : decide (0 < cmpN a b) = false := decide_eq_false (by unfold cmpN; split; omega; split <;> omega)
  have e2 : decide (0 < cmpN b (2 ^ s)) = false := decide_eq_false (by unfold cmpN; split; omega; split <;> omega)
  have HI := Lib.hid (ExI.start (a := a) (b := b) (s := s) (Nat.le_trans hab hbs) hbs)
  have HE : Hid (expP a b s = restP (expR a b s).1 (expR a b s).2) := rfl
  have CT := Lib.hid (fun w u v p q hu hv h1 h2 => ptimes_r (w := w) (u := u) (v := v) (p := p) (q := q) hu hv s (by omega) h1 h2)
  generalize expP a b s = A at *
  generalize expR a b s = R at *
  generalize cmpN a b = e3 at *
  generalize cmpN b (2 ^ s) = e4 at *
  generalize 2 ^ s = o at *
  obtain ⟨hs1, hs2⟩ := hs
  clear hu hv hab hbs bo bo2 b1
  go_enter Tryz.func134, Tryz.ntmps134
  have F0 := Lib.hid (Fx.nil w)
  have X0 := Lib.hid (HU.out)
  have Y0 := Lib.hid (HV.out)
  clear HU HV
  go_wp2_with fail
  refine (CS.out _).mono ?_
  rintro q w1 ⟨rfl, rfl⟩
  go_wp2_with fail
  refine (C1.out _ _ _ X0.out Y0.out).mono ?_
  rintro q w1 ⟨rfl, hb⟩
  have F1 := Lib.hid (F0.out.call hb)
  have X1 := Lib.hid (X0.out.below hb)
  have Y1 := Lib.hid (Y0.out.below hb)
  clear F0 X0 Y0
  clear hb
  go_wp2_with fail
  refine (of_any (n := 1) (by decide) X1.out.tab).mono ?_
  rintro q w2 ⟨u, rfl, hu, hb⟩
  have F2 := Lib.hid (F1.out.call hb)
  have X2 := Lib.hid (X1.out.below hb)
  have Y2 := Lib.hid (Y1.out.below hb)
  clear F1 X1 Y1
  have O2 := Lib.hid (hu)
  clear hb
  go_wp2_with fail
  refine (CL.out _ _ O2.out).mono ?_
  rintro q w3 ⟨u, rfl, hu, hb⟩
  have F3 := Lib.hid (F2.out.call hb)
  have X3 := Lib.hid (X2.out.below hb)
  have Y3 := Lib.hid (Y2.out.below hb)
  have O3 := Lib.hid (O2.out.below hb)
  clear F2 X2 Y2 O2
  have P3 := Lib.hid (hu)
  clear hb
  clear O3
  obtain ⟨a3, k3, c3, rfl⟩ := P3.out.form
  go_wp2_with fail
  refine (C2.out _ _ _ Y3.out P3.out).mono ?_
  rintro q w4 ⟨rfl, hb⟩
  have F4 := Lib.hid (F3.out.call hb)
  have X4 := Lib.hid (X3.out.below hb)
  have Y4 := Lib.hid (Y3.out.below hb)
  have P4 := Lib.hid (P3.out.below hb)
  clear F3 X3 Y3 P3
  clear hb
  go_wp2_with fail
  refine (bare_r X4.out).mono ?_
  rintro q w5 ⟨u, rfl, hu, hb⟩
  have F5 := Lib.hid (F4.out.call hb)
  have X5 := Lib.hid (X4.out.below hb)
  have Y5 := Lib.hid (Y4.out.below hb)
  have P5 := Lib.hid (P4.out.below hb)
  clear F4 X4 Y4 P4
  have U5 := Lib.hid (hu)
  clear hb
  obtain ⟨a4, k4, c4, rfl⟩ := U5.out.form
  go_wp2_with fail
  refine (bare_r Y5.out).mono ?_
  rintro q w6 ⟨u, rfl, hu, hb⟩
  have F6 := Lib.hid (F5.out.call hb)
  have X6 := Lib.hid (X5.out.below hb)
  have Y6 := Lib.hid (Y5.out.below hb)
  have P6 := Lib.hid (P5.out.below hb)
  have U6 := Lib.hid (U5.out.below hb)
  clear F5 X5 Y5 P5 U5
  have V6 := Lib.hid (hu)
  clear hb
  obtain ⟨a5, k5, c5, rfl⟩ := V6.out.form
  clear X6 Y6
  go_wp2
  have F7 := Lib.hid (F6.out.new 226 #[.slice a4 k4 c4, .slice a5 k5 c5] rfl)
  have P7 := Lib.hid (P6.out.alloc (.cells #[.slice a4 k4 c4, .slice a5 k5 c5] 226))
  have U7 := Lib.hid (U6.out.alloc (.cells #[.slice a4 k4 c4, .slice a5 k5 c5] 226))
  have V7 := Lib.hid (V6.out.alloc (.cells #[.slice a4 k4 c4, .slice a5 k5 c5] 226))
  clear F6 P6 U6 V6
  obtain ⟨g1, hg1⟩ : ∃ g, g = (World.heap w6).size := ⟨_, rfl⟩
  rw [← hg1] at F7 ⊢
  have hzg1 : (World.heap (World.alloc w6 (.cells #[.slice a4 k4 c4, .slice a5 k5 c5] 226))).size = g1 + 1 := by rw [hg1]; simp
  clear hg1
  simp only [List.nil_append] at F7
  generalize World.alloc w6 _ = W7 at hzg1 F7 P7 U7 V7 ⊢
  have F8 := Lib.hid (F7.out.new 226 #[.slice a3 k3 c3, .slice a3 k3 c3] rfl)
  have P8 := Lib.hid (P7.out.alloc (.cells #[.slice a3 k3 c3, .slice a3 k3 c3] 226))
  have U8 := Lib.hid (U7.out.alloc (.cells #[.slice a3 k3 c3, .slice a3 k3 c3] 226))
  have V8 := Lib.hid (V7.out.alloc (.cells #[.slice a3 k3 c3, .slice a3 k3 c3] 226))
  clear F7 P7 U7 V7
  rw [hzg1] at F8
  have hzg2 : (World.heap (World.alloc W7 (.cells #[.slice a3 k3 c3, .slice a3 k3 c3] 226))).size = g1 + 1 + 1 := by simp [hzg1]
  clear hzg1
  simp only [List.nil_append, List.cons_append] at F8
  generalize World.alloc W7 _ = W8 at hzg2 F8 P8 U8 V8 ⊢
  have F9 := Lib.hid (F8.out.new 226 #[.slice a3 k3 c3, .slice a3 k3 c3] rfl)
  have P9 := Lib.hid (P8.out.alloc (.cells #[.slice a3 k3 c3, .slice a3 k3 c3] 226))
  have U9 := Lib.hid (U8.out.alloc (.cells #[.slice a3 k3 c3, .slice a3 k3 c3] 226))
  have V9 := Lib.hid (V8.out.alloc (.cells #[.slice a3 k3 c3, .slice a3 k3 c3] 226))
  clear F8 P8 U8 V8
  rw [hzg2] at F9
  clear hzg2
  simp only [List.nil_append, List.cons_append] at F9
  generalize World.alloc W8 _ = W9 at F9 P9 U9 V9 ⊢
  have c0_9 := F9.out.c2 0 rfl
  have c1_9 := F9.out.c2 1 rfl
  have c2_9 := F9.out.c2 2 rfl
  have X9 : Hid (Pv W9 (.agg #[.slice a4 k4 c4, .slice a5 k5 c5]) ⟨a, b⟩) := ⟨_, _, _, _, _, _, rfl, U9.out, V9.out⟩
  have S9 : Hid (Pv W9 (.agg #[.slice a3 k3 c3, .slice a3 k3 c3]) ⟨o, o⟩) := ⟨_, _, _, _, _, _, rfl, P9.out, P9.out⟩
  clear U9 V9 P9
  obtain ⟨R1, R2⟩ := R
  go_loopw [14] (fun nv wr => ∃ (n i e tl th sl sh : Nat) (a1 : Option Addr) (k1 c1 : Nat) (a2 : Option Addr) (k2 c2 : Nat) (a3 : Option Addr) (k3 c3 : Nat) (a6 : Option Addr) (k6 c6 : Nat), nv = .int .u64 (n : Int) ∧ Hid (ExI s (R1, R2) n i e ⟨sl, sh⟩ ⟨tl, th⟩ ⟨a, b⟩) ∧ Hid (Fx w wr [(g1, 226, #[.slice a4 k4 c4, .slice a5 k5 c5]), (g1 + 1, 226, #[.slice a1 k1 c1, .slice a2 k2 c2]), (g1 + 1 + 1, 226, #[.slice a3 k3 c3, .slice a6 k6 c6])]) ∧ Hid (Pv wr (.agg #[.slice a3 k3 c3, .slice a6 k6 c6]) ⟨tl, th⟩) ∧ Hid (Pv wr (.agg #[.slice a4 k4 c4, .slice a5 k5 c5]) ⟨a, b⟩) ∧ Hid (Pv wr (.agg #[.slice a1 k1 c1, .slice a2 k2 c2]) ⟨sl, sh⟩)) (fun n _ => (40000 - intOf n).toNat)
  case atStart => exact ⟨1, 0, s + 2, o, o, o, o, _, _, _, _, _, _, _, _, _, _, _, _, rfl, HI, F9, S9, X9, S9⟩
  case round =>
    clear c0_9 c1_9 c2_9
    clear F9 X9 S9 HI
    obtain ⟨n, i, e, tl, th, sl, sh, a1, k1, c1, a2, k2, c2, a3, k3, c3, a6, k6, c6, rfl, hI, hF, hT, hX, hS⟩ := hrel
    have F10 := hF
    have T10 := hT
    have X10 := hX
    have S10 := hS
    clear hF hT hX hS
    have HZ := Lib.hid (hI.out.szs hs2)
    obtain ⟨⟨zn, zm⟩, z2, z3, z4, z5, z6, z7⟩ := HZ.out
    have BT : Hid (bl (Pr.mk tl th).lo ≤ 6000000 ∧ bl (Pr.mk tl th).hi ≤ 6000000) := ⟨Nat.le_trans z2.1 (by decide), Nat.le_trans z2.2 (by decide)⟩
    have BX : Hid (bl (Pr.mk a b).lo ≤ 6000000 ∧ bl (Pr.mk a b).hi ≤ 6000000) := ⟨Nat.le_trans z4.1 (by decide), Nat.le_trans z4.2 (by decide)⟩
    have BR : Hid (bl (Pr.mk sl sh).lo ≤ 1000000 ∧ bl (Pr.mk sl sh).hi ≤ 1000000 ∧ bl (Pr.mk tl th).lo ≤ 1000000 ∧ bl (Pr.mk tl th).hi ≤ 1000000) := ⟨Nat.le_trans z3.1 (by decide), Nat.le_trans z3.2 (by decide), Nat.le_trans z2.1 (by decide), Nat.le_trans z2.2 (by decide)⟩
    have B3 : Hid (bl (Pr.mk tl th).lo + bl (Pr.mk a b).lo ≤ 65536 ∧ bl (Pr.mk tl th).hi + bl (Pr.mk a b).hi ≤ 65536) := ⟨by omega, by omega⟩
    obtain ⟨lt, hlt⟩ : ∃ lt, lt = bl tl := ⟨_, rfl⟩
    obtain ⟨lx, hlx⟩ : ∃ lx, lx = bl b := ⟨_, rfl⟩
    have HLT := Lib.hid hlt
    have HLX := Lib.hid hlx
    have l1 : lt ≤ 10000 := hlt ▸ z2.1
    have l2 : lx ≤ 10000 := hlx ▸ z4.2
    have CB1 : Hid (∀ w a k c a' k' c', Pv w (.agg #[.slice a k c, .slice a' k' c']) ⟨tl, th⟩ → Calls Tryz.prog 36 #[.slice a k c] w fun e w' => e = .returned (.int .i64 (lt : Nat)) ∧ Below w.heap.size w w') := by
      rw [hlt]; intro w a k c a' k' c' h; exact bits_r (h.fst.1.rd BT.out.1)
    have CB2 : Hid (∀ w a' k c a'' k' c', Pv w (.agg #[.slice a' k c, .slice a'' k' c']) ⟨a, b⟩ → Calls Tryz.prog 36 #[.slice a'' k' c'] w fun e w' => e = .returned (.int .i64 (lx : Nat)) ∧ Below w.heap.size w w') := by
      rw [hlx]; intro w a' k c a'' k' c' h; exact bits_r (h.fst.2.rd BX.out.2)
    obtain ⟨ls, hls⟩ : ∃ ls, ls = lt + lx := ⟨_, rfl⟩
    have q1 : IntKind.i64.wrap ((lt : Int) + (lx : Int)) = (ls : Int) := by rw [hls]; exact IntWalk.i64_in _ (by omega)
    have HLS := Lib.hid hls
    have HZM := Lib.hid zm
    have HNB := Lib.hid (And.intro zn (show n < 18446744073709551616 by omega))
    clear hlt hlx hls z2 z3 z4 z5 z6 z7 l1 l2 zn
    by_cases h0 : tl = 0 ∧ b = 0
    · have HR := Lib.hid (hI.out.done h0)
      have hz : ls = 0 := by rw [HLS.out, HLT.out, HLX.out, h0.1, h0.2]; rfl
      have t7 : decide (0 < (ls : Int)) = false := decide_eq_false (by omega)
      have t8 : decide (0 < ls) = false := decide_eq_false (by omega)
      clear h0 hI hz
      have c0_10 := F10.out.c2 0 rfl
      have c1_10 := F10.out.c2 1 rfl
      have c2_10 := F10.out.c2 2 rfl
      go_upto_region 9 with (fail)
      clear c0_10 c1_10 c2_10
      have FCD := Lib.hid (And.intro ((F10.out.drew).c2 0 rfl).1 (((F10.out.drew).c2 2 rfl).1))
      go_region_held3 (fun w' => (w'.cell? ⟨g1, 0, none⟩ = some (.slice a4 k4 c4) ∧ w'.cell? ⟨g1, 1, none⟩ = some (.slice a5 k5 c5)) ∧ (w'.cell? ⟨g1 + 1 + 1, 0, none⟩ = some (.slice a3 k3 c3) ∧ w'.cell? ⟨g1 + 1 + 1, 1, none⟩ = some (.slice a6 k6 c6))) (first | with_reducible exact FCD.out | with_reducible exact FC.out) (first | (go_at_call 36; (with_reducible refine (CB2.out _ _ _ _ _ _ _ X11.out).mono ?_); rintro q ww12 ⟨rfl, hb⟩; have F12 := Lib.hid (F11.out.call hb); have T12 := Lib.hid (T11.out.below hb); have X12 := Lib.hid (X11.out.below hb); have S12 := Lib.hid (S11.out.below hb); have FC := Lib.hid (And.intro (F12.out.c2 0 rfl).1 ((F12.out.c2 2 rfl).1)); have c0_12 := F12.out.c2 0 rfl; have c1_12 := F12.out.c2 1 rfl; have c2_12 := F12.out.c2 2 rfl; clear hb) | (go_at_call 36; (with_reducible refine (CB1.out _ _ _ _ _ _ _ (T10.out.drew)).mono ?_); rintro q ww11 ⟨rfl, hb⟩; have F11 := Lib.hid ((F10.out.drew).call hb); have T11 := Lib.hid ((T10.out.drew).below hb); have X11 := Lib.hid ((X10.out.drew).below hb); have S11 := Lib.hid ((S10.out.drew).below hb); have FC := Lib.hid (And.intro (F11.out.c2 0 rfl).1 ((F11.out.c2 2 rfl).1)); have c0_11 := F11.out.c2 0 rfl; have c1_11 := F11.out.c2 1 rfl; have c2_11 := F11.out.c2 2 rfl; clear hb))
      go_wp2_with fail
      clear c0_12 c1_12 c2_12
      refine (prest_r S12.out T12.out BR.out).mono ?_
      rintro q w13 ⟨u, rfl, hu, hb⟩
      have F13 := Lib.hid (F12.out.call hb)
      have T13 := Lib.hid (T12.out.below hb)
      have X13 := Lib.hid (X12.out.below hb)
      have S13 := Lib.hid (S12.out.below hb)
      clear F12 T12 X12 S12
      have R13 := Lib.hid (hu)
      clear hb
      have c0_13 := F13.out.c2 0 rfl
      have c1_13 := F13.out.c2 1 rfl
      have c2_13 := F13.out.c2 2 rfl
      obtain ⟨b1, e1, d1, b2, e2, d2, rfl, h1, h2⟩ := R13.out
      clear h1 h2
      go_upto_region 15 with (fail)
      clear c0_13 c1_13 c2_13
      obtain ⟨f, p⟩ := F13.out.s2 1 rfl (.slice b1 e1 d1) (.slice b2 e2 d2) rfl rfl
      generalize (World.setCell (World.setCell _ _ _) _ _) = W at f p ⊢
      have F14 := Lib.hid (f)
      have T14 := Lib.hid (T13.out.kp p)
      have X14 := Lib.hid (X13.out.kp p)
      have S14 := Lib.hid (S13.out.kp p)
      have R14 := Lib.hid (R13.out.kp p)
      clear F13 T13 X13 S13 R13
      clear f p
      simp only [List.set_cons_zero, List.set_cons_succ] at F14
      have c0_14 := F14.out.c2 0 rfl
      have c1_14 := F14.out.c2 1 rfl
      have c2_14 := F14.out.c2 2 rfl
      go_quiet (fail)
      go_wp2
      refine bodyPost_ret (v := .tuple #[.slice b1 e1 d1, .slice b2 e2 d2, .int .i64 0]) (by simp [results, Tryz.results134, go_sem]) rfl ?_
      have HX := HE.out
      have hr := HR.out
      injection hr with hr1 hr2
      rw [HX, hr1, hr2]
      exact ⟨_, _, rfl, (R14.out.fst.1).drewN _, (R14.out.fst.2).drewN _, (F14.out.drewN _).b⟩
    · have HN := Lib.hid (hI.out.step h0)
      have hz : 0 < ls := by
        have r1 := HLT.out
        have r2 := HLX.out
        have r3 := HLS.out
        by_cases y1 : tl = 0
        · have y2 : b ≠ 0 := fun y2 => h0 ⟨y1, y2⟩
          have := bl_pos y2; omega
        · have := bl_pos y1; omega
      have t7 : decide (0 < (ls : Int)) = true := decide_eq_true (by omega)
      have t8 : decide (0 < ls) = true := decide_eq_true (by omega)
      obtain ⟨m, hm⟩ : ∃ m, m = n + 1 := ⟨_, rfl⟩
      have q2 : IntKind.u64.wrap ((n : Int) + 1) = (m : Int) := by rw [IntKind.wrap_u64]; omega
      have HM := Lib.hid hm
      obtain ⟨⟨zn, zm⟩, z2, z3, z4, z5, z6, z7⟩ := HZ.out
      generalize htt : timesP ⟨tl, th⟩ ⟨a, b⟩ s = tt at *
      have HTT := Lib.hid htt
      have BY : Hid (bl tt.lo ≤ 6000000 ∧ bl tt.hi ≤ 6000000) := ⟨Nat.le_trans z5.1 (by decide), Nat.le_trans z5.2 (by decide)⟩
      generalize htb : byP tt n = tb at *
      have HTB := Lib.hid htb
      have BP : Hid (bl (Pr.mk sl sh).lo ≤ 1000000 ∧ bl (Pr.mk sl sh).hi ≤ 1000000 ∧ bl tb.lo ≤ 1000000 ∧ bl tb.hi ≤ 1000000) := ⟨Nat.le_trans z3.1 (by decide), Nat.le_trans z3.2 (by decide), Nat.le_trans z6.1 (by decide), Nat.le_trans z6.2 (by decide)⟩
      generalize hts : plusP ⟨sl, sh⟩ tb = ts at *
      have HTS := Lib.hid hts
      have BQ : Hid (bl ts.lo ≤ 1000000 ∧ bl ts.hi ≤ 1000000 ∧ bl tb.lo ≤ 1000000 ∧ bl tb.hi ≤ 1000000) := ⟨Nat.le_trans z7.1 (by decide), Nat.le_trans z7.2 (by decide), Nat.le_trans z6.1 (by decide), Nat.le_trans z6.2 (by decide)⟩
      obtain ⟨lh, hlh⟩ : ∃ lh, lh = bl tb.hi := ⟨_, rfl⟩
      have HLH := Lib.hid hlh
      have CB3 : Hid (∀ w a k c a' k' c', Pv w (.agg #[.slice a k c, .slice a' k' c']) tb → Calls Tryz.prog 36 #[.slice a' k' c'] w fun e w' => e = .returned (.int .i64 (lh : Nat)) ∧ Below w.heap.size w w') := by
        rw [hlh]; intro w a k c a' k' c' h; exact bits_r (h.fst.2.rd (Nat.le_trans z6.2 (by decide)))
      clear h0 hI hz hm htt htb hts hlh z2 z3 z4 z5 z6 z7 HZ zn zm
      have c0_10 := F10.out.c2 0 rfl
      have c1_10 := F10.out.c2 1 rfl
      have c2_10 := F10.out.c2 2 rfl
      go_upto_region 9 with (fail)
      clear c0_10 c1_10 c2_10
      have FCD := Lib.hid (And.intro ((F10.out.drew).c2 0 rfl).1 (((F10.out.drew).c2 2 rfl).1))
      go_region_held3 (fun w' => (w'.cell? ⟨g1, 0, none⟩ = some (.slice a4 k4 c4) ∧ w'.cell? ⟨g1, 1, none⟩ = some (.slice a5 k5 c5)) ∧ (w'.cell? ⟨g1 + 1 + 1, 0, none⟩ = some (.slice a3 k3 c3) ∧ w'.cell? ⟨g1 + 1 + 1, 1, none⟩ = some (.slice a6 k6 c6))) (first | with_reducible exact FCD.out | with_reducible exact FC.out) (first | (go_at_call 36; (with_reducible refine (CB2.out _ _ _ _ _ _ _ X11.out).mono ?_); rintro q ww12 ⟨rfl, hb⟩; have F12 := Lib.hid (F11.out.call hb); have T12 := Lib.hid (T11.out.below hb); have X12 := Lib.hid (X11.out.below hb); have S12 := Lib.hid (S11.out.below hb); have FC := Lib.hid (And.intro (F12.out.c2 0 rfl).1 ((F12.out.c2 2 rfl).1)); have c0_12 := F12.out.c2 0 rfl; have c1_12 := F12.out.c2 1 rfl; have c2_12 := F12.out.c2 2 rfl; clear hb) | (go_at_call 36; (with_reducible refine (CB1.out _ _ _ _ _ _ _ (T10.out.drew)).mono ?_); rintro q ww11 ⟨rfl, hb⟩; have F11 := Lib.hid ((F10.out.drew).call hb); have T11 := Lib.hid ((T10.out.drew).below hb); have X11 := Lib.hid ((X10.out.drew).below hb); have S11 := Lib.hid ((S10.out.drew).below hb); have FC := Lib.hid (And.intro (F11.out.c2 0 rfl).1 ((F11.out.c2 2 rfl).1)); have c0_11 := F11.out.c2 0 rfl; have c1_11 := F11.out.c2 1 rfl; have c2_11 := F11.out.c2 2 rfl; clear hb))
      go_wp2_with fail
      clear c0_12 c1_12 c2_12
      refine (CT.out _ _ _ _ _ T12.out X12.out B3.out.1 B3.out.2).mono ?_
      rintro q w13 ⟨u, rfl, hu, hb⟩
      have F13 := Lib.hid (F12.out.call hb)
      have T13 := Lib.hid (T12.out.below hb)
      have X13 := Lib.hid (X12.out.below hb)
      have S13 := Lib.hid (S12.out.below hb)
      clear F12 T12 X12 S12
      have Z13 := Lib.hid (HTT.out ▸ hu)
      clear hb
      have c0_13 := F13.out.c2 0 rfl
      have c1_13 := F13.out.c2 1 rfl
      have c2_13 := F13.out.c2 2 rfl
      clear T13
      go_wp2_with fail
      clear c0_13 c1_13 c2_13
      refine (pby_r Z13.out HNB.out.1 HNB.out.2 BY.out.1 BY.out.2).mono ?_
      rintro q w14 ⟨u, rfl, hu, hb⟩
      have F14 := Lib.hid (F13.out.call hb)
      have X14 := Lib.hid (X13.out.below hb)
      have S14 := Lib.hid (S13.out.below hb)
      have Z14 := Lib.hid (Z13.out.below hb)
      clear F13 X13 S13 Z13
      have T14 := Lib.hid (HTB.out ▸ hu)
      clear hb
      have c0_14 := F14.out.c2 0 rfl
      have c1_14 := F14.out.c2 1 rfl
      have c2_14 := F14.out.c2 2 rfl
      clear Z14
      obtain ⟨b1, e1, d1, b2, e2, d2, rfl, h1, h2⟩ := T14.out
      clear h1 h2
      go_upto_region 12 with (fail)
      clear c0_14 c1_14 c2_14
      obtain ⟨f, p⟩ := F14.out.s2 2 rfl (.slice b1 e1 d1) (.slice b2 e2 d2) rfl rfl
      generalize (World.setCell (World.setCell _ _ _) _ _) = W at f p ⊢
      have F15 := Lib.hid (f)
      have X15 := Lib.hid (X14.out.kp p)
      have S15 := Lib.hid (S14.out.kp p)
      have T15 := Lib.hid (T14.out.kp p)
      clear F14 X14 S14 T14
      clear f p
      simp only [List.set_cons_zero, List.set_cons_succ] at F15
      have c0_15 := F15.out.c2 0 rfl
      have c1_15 := F15.out.c2 1 rfl
      have c2_15 := F15.out.c2 2 rfl
      go_wp2_with fail
      clear c0_15 c1_15 c2_15
      refine (pplus_r S15.out T15.out BP.out).mono ?_
      rintro q w16 ⟨u, rfl, hu, hb⟩
      have F16 := Lib.hid (F15.out.call hb)
      have X16 := Lib.hid (X15.out.below hb)
      have S16 := Lib.hid (S15.out.below hb)
      have T16 := Lib.hid (T15.out.below hb)
      clear F15 X15 S15 T15
      have Z16 := Lib.hid (HTS.out ▸ hu)
      clear hb
      have c0_16 := F16.out.c2 0 rfl
      have c1_16 := F16.out.c2 1 rfl
      have c2_16 := F16.out.c2 2 rfl
      clear S16
      obtain ⟨b3, e3, d3, b4, e4, d4, rfl, h1, h2⟩ := Z16.out
      clear h1 h2
      go_upto_region 13 with (fail)
      clear c0_16 c1_16 c2_16
      obtain ⟨f, p⟩ := F16.out.s2 1 rfl (.slice b3 e3 d3) (.slice b4 e4 d4) rfl rfl
      generalize (World.setCell (World.setCell _ _ _) _ _) = W at f p ⊢
      have F17 := Lib.hid (f)
      have X17 := Lib.hid (X16.out.kp p)
      have T17 := Lib.hid (T16.out.kp p)
      have Z17 := Lib.hid (Z16.out.kp p)
      clear F16 X16 T16 Z16
      clear f p
      simp only [List.set_cons_zero, List.set_cons_succ] at F17
      have c0_17 := F17.out.c2 0 rfl
      have c1_17 := F17.out.c2 1 rfl
      have c2_17 := F17.out.c2 2 rfl
      go_wp2_with fail
      clear c0_17 c1_17 c2_17
      refine (CB3.out _ _ _ _ _ _ _ T17.out).mono ?_
      rintro q w18 ⟨rfl, hb⟩
      have F18 := Lib.hid (F17.out.call hb)
      have X18 := Lib.hid (X17.out.below hb)
      have T18 := Lib.hid (T17.out.below hb)
      have Z18 := Lib.hid (Z17.out.below hb)
      clear F17 X17 T17 Z17
      clear hb
      have c0_18 := F18.out.c2 0 rfl
      have c1_18 := F18.out.c2 1 rfl
      have c2_18 := F18.out.c2 2 rfl
      obtain ⟨e', he', hN1, hN2⟩ := HN.out
      by_cases h3 : tb.hi ≤ 1
      · have HR := Lib.hid (hN1 h3)
        have hl : lh ≤ 1 := by rw [HLH.out]; exact bl_le (Nat.lt_of_le_of_lt h3 (by decide))
        have t5 : decide ((lh : Int) ≤ 1) = true := decide_eq_true (by omega)
        have t6 : decide (lh ≤ 1) = true := decide_eq_true hl
        clear h3 hN1 hN2 he' hl
        have S18 := Z18
        clear Z18
        go_wp2_with fail
        clear c0_18 c1_18 c2_18
        refine (prest_r S18.out T18.out BQ.out).mono ?_
        rintro q w19 ⟨u, rfl, hu, hb⟩
        have F19 := Lib.hid (F18.out.call hb)
        have X19 := Lib.hid (X18.out.below hb)
        have T19 := Lib.hid (T18.out.below hb)
        have S19 := Lib.hid (S18.out.below hb)
        clear F18 X18 T18 S18
        have R19 := Lib.hid (hu)
        clear hb
        have c0_19 := F19.out.c2 0 rfl
        have c1_19 := F19.out.c2 1 rfl
        have c2_19 := F19.out.c2 2 rfl
        obtain ⟨b1, e1, d1, b2, e2, d2, rfl, h1, h2⟩ := R19.out
        clear h1 h2
        go_upto_region 15 with (fail)
        clear c0_19 c1_19 c2_19
        obtain ⟨f, p⟩ := F19.out.s2 1 rfl (.slice b1 e1 d1) (.slice b2 e2 d2) rfl rfl
        generalize (World.setCell (World.setCell _ _ _) _ _) = W at f p ⊢
        have F20 := Lib.hid (f)
        have X20 := Lib.hid (X19.out.kp p)
        have T20 := Lib.hid (T19.out.kp p)
        have S20 := Lib.hid (S19.out.kp p)
        have R20 := Lib.hid (R19.out.kp p)
        clear F19 X19 T19 S19 R19
        clear f p
        simp only [List.set_cons_zero, List.set_cons_succ] at F20
        have c0_20 := F20.out.c2 0 rfl
        have c1_20 := F20.out.c2 1 rfl
        have c2_20 := F20.out.c2 2 rfl
        go_quiet (fail)
        go_wp2
        refine bodyPost_ret (v := .tuple #[.slice b1 e1 d1, .slice b2 e2 d2, .int .i64 0]) (by simp [results, Tryz.results134, go_sem]) rfl ?_
        have HX := HE.out
        have hr := HR.out
        injection hr with hr1 hr2
        rw [HX, hr1, hr2]
        exact ⟨_, _, rfl, (R20.out.fst.1).drewN _, (R20.out.fst.2).drewN _, (F20.out.drewN _).b⟩
      · have HI' := Lib.hid (hN2 (by omega))
        have hl : 1 < lh := by
          rw [HLH.out]
          apply Nat.lt_of_not_le; intro hc
          have := lt_bl tb.hi
          have h4 : 2 ^ bl tb.hi ≤ 2 ^ 1 := Nat.pow_le_pow_right (by decide) hc
          omega
        have t5 : decide ((lh : Int) ≤ 1) = false := decide_eq_false (by omega)
        have t6 : decide (lh ≤ 1) = false := decide_eq_false (by omega)
        rw [← HM.out] at HI'
        clear h3 hN1 hN2 he' hl
        go_wp2
        go_roundw
        obtain ⟨tbl, tbh⟩ := tb
        obtain ⟨tsl, tsh⟩ := ts
        case rel => exact ⟨m, i + 1, e', _, _, _, _, _, _, _, _, _, _, _, _, _, _, _, _, rfl, HI', F18, T18, X18, Z18⟩
        case measure => have h1 := HM.out; have h2 := HZM.out; simp only [intOf]; omega

end Go.Proofs.YtobpioceopfkpaaGreatDoor
