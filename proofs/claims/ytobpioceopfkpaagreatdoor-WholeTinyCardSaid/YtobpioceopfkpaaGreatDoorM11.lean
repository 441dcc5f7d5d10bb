/-
  series: Atanh. Printed by gen_sc.py.
-/
import Derived.Test.YtobpioceopfkpaaGreatDoorM10
import Derived.Test.YtobpioceopfkpaaGreatDoorM08
import Derived.Test.YtobpioceopfkpaaGreatDoorM07
namespace Go.Proofs.YtobpioceopfkpaaGreatDoor
open Go.RowKit

theorem scale_r (w : World) (s : Nat) (h : 8 ≤ s ∧ s ≤ 9000) : Calls Tryz.prog 169 #[.int .i64 (s : Int)] w fun e w' => e = .returned (.bool true) ∧ w = w' := by
  have t1 : decide ((8 : Int) ≤ (s : Int)) = true := decide_eq_true (by omega)
  have t2 : decide ((s : Int) ≤ (9000 : Int)) = true := decide_eq_true (by omega)
  have t3 : decide (8 ≤ s) = true := decide_eq_true h.1
  have t4 : decide (s ≤ 9000) = true := decide_eq_true h.2
  clear h
  go_enter Tryz.func169, Tryz.ntmps169
  go_wp2
  go_ret
  exact ⟨rfl, rfl⟩

def atL : Nat → Nat → Pr → Pr → Pr → Nat → Pr × Pr
  | 0, _, sum, term, _, _ => (sum, term)
  | f + 1, n, sum, term, sq, s => if term.lo = 0 then (sum, term) else atL f (n + 2) (plusP sum (byP term n)) (timesP term sq s) sq s
def atanhP (num den s : Nat) : Pr :=
  if num = 0 then ⟨0, 0⟩ else restP (atL (s + 1) 1 ⟨0, 0⟩ (fracP num den s) (timesP (fracP num den s) (fracP num den s) s) s).1 (atL (s + 1) 1 ⟨0, 0⟩ (fracP num den s) (timesP (fracP num den s) (fracP num den s) s) s).2

theorem up_le {a b c : Nat} (_ : 0 < b) (h : a ≤ c * b) : (if a % b = 0 then a / b else a / b + 1) ≤ c := by
  have h1 := Nat.div_add_mod a b
  split
  · exact Nat.div_le_of_le_mul (by rw [Nat.mul_comm]; exact h)
  · apply Nat.lt_of_mul_lt_mul_left (a := b)
    rw [Nat.mul_comm c] at h
    omega
theorem upN_le {a k c : Nat} (h : a ≤ c * 2 ^ k) : upN a k ≤ c := by
  unfold upN; exact up_le (Nat.two_pow_pos _) h
theorem byP_le {p : Pr} {n B : Nat} (hn : 0 < n) (h : p.lo ≤ B ∧ p.hi ≤ B) : (byP p n).lo ≤ B ∧ (byP p n).hi ≤ B := by
  refine ⟨Nat.le_trans (Nat.div_le_self _ _) h.1, Nat.le_trans (up_le hn ?_) h.2⟩
  exact Nat.le_mul_of_pos_right _ hn
theorem timesP_le {p q : Pr} {s B : Nat} (h : p.lo ≤ B ∧ p.hi ≤ B) (k : q.lo ≤ 2 ^ s ∧ q.hi ≤ 2 ^ s) : (timesP p q s).lo ≤ B ∧ (timesP p q s).hi ≤ B := by
  refine ⟨?_, upN_le ?_⟩
  · exact Nat.div_le_of_le_mul (by rw [Nat.mul_comm]; exact Nat.mul_le_mul k.1 h.1)
  · exact Nat.mul_le_mul h.2 k.2
theorem timesP_half {p q : Pr} {s : Nat} (k : q.lo * 2 ≤ 2 ^ s) : (timesP p q s).lo ≤ p.lo / 2 := by
  show p.lo * q.lo / 2 ^ s ≤ p.lo / 2
  rw [Nat.le_div_iff_mul_le (by decide)]
  have h1 := Nat.div_mul_le_self (p.lo * q.lo) (2 ^ s)
  apply Nat.le_of_mul_le_mul_right (c := 2 ^ s) _ (Nat.two_pow_pos _)
  calc p.lo * q.lo / 2 ^ s * 2 * 2 ^ s = (p.lo * q.lo / 2 ^ s * 2 ^ s) * 2 := by rw [Nat.mul_assoc, Nat.mul_comm 2, ← Nat.mul_assoc]
    _ ≤ p.lo * q.lo * 2 := Nat.mul_le_mul_right _ h1
    _ = p.lo * (q.lo * 2) := Nat.mul_assoc _ _ _
    _ ≤ p.lo * 2 ^ s := Nat.mul_le_mul_left _ k
theorem bl_half_le {n m : Nat} (h : m ≤ n / 2) (hn : n ≠ 0) : bl m + 1 ≤ bl n := by
  have h1 := bl_half (n := n) (by omega)
  have h2 := bl_mono h
  omega
theorem fracP_le {num den s : Nat} (h0 : 0 < den) (h3 : num * 3 ≤ den) : (fracP num den s).lo * 3 ≤ 2 ^ s ∧ (fracP num den s).hi ≤ 2 ^ s := by
  have e0 : num * 2 ^ s * 3 ≤ 2 ^ s * den := by
    rw [Nat.mul_right_comm, Nat.mul_comm]; exact Nat.mul_le_mul_left _ h3
  constructor
  · show num * 2 ^ s / den * 3 ≤ 2 ^ s
    have h1 := Nat.div_mul_le_self (num * 2 ^ s) den
    apply Nat.le_of_mul_le_mul_right (c := den) _ h0
    rw [Nat.mul_right_comm]
    exact Nat.le_trans (Nat.mul_le_mul_right _ h1) e0
  · exact up_le h0 (by omega)
theorem sq_le {t : Pr} {s : Nat} (h : t.lo * 3 ≤ 2 ^ s) : (timesP t t s).lo * 2 ≤ 2 ^ s := by
  have h1 := timesP_half (p := t) (q := t) (s := s) (by omega)
  omega

/-- the loop's state -/
structure AtI (s : Nat) (R : Pr × Pr) (n i f : Nat) (S T Q : Pr) : Prop where
  hn : n = 2 * i + 1
  hf : i + f = s + 1
  hb : bl T.lo ≤ f
  hT : T.lo ≤ 2 ^ s ∧ T.hi ≤ 2 ^ s
  hS : S.lo ≤ i * 2 ^ s ∧ S.hi ≤ i * 2 ^ s
  hQ : Q.lo ≤ 2 ^ s ∧ Q.hi ≤ 2 ^ s
  hq : Q.lo * 2 ≤ 2 ^ s
  hR : atL f n S T Q s = R
theorem AtI.start {num den s : Nat} (h0 : 0 < den) (h3 : num * 3 ≤ den) :
    AtI s (atL (s + 1) 1 ⟨0, 0⟩ (fracP num den s) (timesP (fracP num den s) (fracP num den s) s) s) 1 0 (s + 1) ⟨0, 0⟩ (fracP num den s) (timesP (fracP num den s) (fracP num den s) s) := by
  obtain ⟨h1, h2⟩ := fracP_le (num := num) (s := s) h0 h3
  have h4 : (fracP num den s).lo ≤ 2 ^ s := by omega
  refine ⟨rfl, by omega, ?_, ⟨h4, h2⟩, by simp, timesP_le ⟨h4, h2⟩ ⟨h4, h2⟩, sq_le h1, rfl⟩
  refine bl_le (Nat.lt_of_le_of_lt h4 (Nat.pow_lt_pow_right (by decide) (by omega)))
theorem AtI.step {s : Nat} {R : Pr × Pr} {n i f : Nat} {S T Q : Pr} (h : AtI s R n i f S T Q) (h0 : T.lo ≠ 0) :
    ∃ f', f = f' + 1 ∧ AtI s R (n + 2) (i + 1) f' (plusP S (byP T n)) (timesP T Q s) Q := by
  obtain ⟨hn, hf, hb, hT, hS, hQ, hq, hR⟩ := h
  have hb1 := bl_pos h0
  obtain ⟨f', rfl⟩ : ∃ f', f = f' + 1 := ⟨f - 1, by omega⟩
  have hby := byP_le (p := T) (n := n) (B := 2 ^ s) (by omega) hT
  refine ⟨f', rfl, by omega, by omega, ?_, timesP_le hT hQ, ?_, hQ, hq, ?_⟩
  · have := bl_half_le (timesP_half (p := T) hq) h0
    omega
  · rw [Nat.add_mul, Nat.one_mul]
    exact ⟨Nat.add_le_add hS.1 hby.1, Nat.add_le_add hS.2 hby.2⟩
  · rw [atL, if_neg h0] at hR; exact hR
theorem AtI.done {s : Nat} {R : Pr × Pr} {n i f : Nat} {S T Q : Pr} (h : AtI s R n i f S T Q) (h0 : T.lo = 0) : R = (S, T) := by
  obtain ⟨hn, hf, hb, hT, hS, hQ, hq, hR⟩ := h
  rw [← hR]
  cases f with
  | zero => rfl
  | succ f => rw [atL, if_pos h0]
theorem bl_pow_le {x s k : Nat} (h : x ≤ k * 2 ^ s) (hk : k ≤ 2 ^ 20) : bl x ≤ s + 21 := by
  apply bl_le
  apply Nat.lt_of_le_of_lt h
  rw [Nat.pow_add, Nat.mul_comm]
  exact Nat.mul_lt_mul_of_pos_left (Nat.lt_of_le_of_lt hk (by decide)) (Nat.two_pow_pos _)
theorem AtI.szs {s : Nat} {R : Pr × Pr} {n i f : Nat} {S T Q : Pr} (h : AtI s R n i f S T Q) (hs : s ≤ 9000) :
    n ≤ 20010 ∧ bl T.lo ≤ 10000 ∧ bl T.hi ≤ 10000 ∧ bl S.lo ≤ 10000 ∧ bl S.hi ≤ 10000 ∧ bl Q.lo ≤ 10000 ∧ bl Q.hi ≤ 10000 := by
  obtain ⟨hn, hf, hb, hT, hS, hQ, hq, hR⟩ := h
  have k : ∀ x, x ≤ 2 ^ s → bl x ≤ 10000 := fun x hx => Nat.le_trans (bl_pow_le (s := s) (k := 1) (by omega) (by decide)) (by omega)
  have k2 : ∀ x, x ≤ i * 2 ^ s → bl x ≤ 10000 := fun x hx => Nat.le_trans (bl_pow_le (s := s) hx (Nat.le_trans (show i ≤ 9001 by omega) (by decide))) (by omega)
  exact ⟨by omega, k _ hT.1, k _ hT.2, k2 _ hS.1, k2 _ hS.2, k _ hQ.1, k _ hQ.2⟩

set_option maxRecDepth 100000 in
set_option maxHeartbeats 4000000 in
theorem Atanh_r {w : World} {u v : Value} {num den : Nat} (hu : Rd w u num) (hv : Rd w v den) (s : Nat) (hs : 8 ≤ s ∧ s ≤ 9000) (h3 : num * 3 ≤ den) (h0 : 0 < den) (h64 : den < 18446744073709551616) :
    Calls Tryz.prog 153 #[u, v, .int .i64 (s : Int)] w fun e w' => ∃ x y, e = .returned (.tuple #[x, y, .int .i64 0]) ∧ Dg w' x (atanhP num den s).lo ∧ Dg w' y (atanhP num den s).hi ∧ Below w.heap.size w w' := by
  have HU := Lib.hid hu
  have HV := Lib.hid hv
  obtain ⟨a1, k1, c1, rfl⟩ := hu.form
  obtain ⟨a2, k2, c2, rfl⟩ := hv.form
  have n64 : num < 18446744073709551616 := by omega
  have bn := bl64 n64
  have bd := bl64 h64
  have C1 := Lib.hid (fun w (h : Rd w (.slice a1 k1 c1) num) => times_r h (n := 3) (by decide))
  have e1 : mulN num 3 = num * 3 := by unfold mulN; rw [if_neg]; have : bl 3 ≤ 64 := bl64 (by decide); omega
  have e2 : mulE num 3 = 0 := by unfold mulE; split; rfl; rw [if_neg]; have : bl 3 ≤ 64 := bl64 (by decide); omega
  rw [e1, e2] at C1
  have b3 : bl (num * 3) ≤ 6000000 := Nat.le_trans (bl64 (x := num * 3) (by omega)) (by decide)
  have C2 := Lib.hid (fun w u v (h : Rd w u (num * 3)) (k : Rd w v den) => cmp_r h k)
  have e3 : decide (0 < cmpN (num * 3) den) = false := decide_eq_false (by unfold cmpN; split; omega; split <;> omega)
  have bd0 : bl den ≠ 0 := by have := bl_pos (n := den) (by omega); omega
  have C5 := Lib.hid (fun w (h : Rd w (.slice a1 k1 c1) num) => bits_r h)
  have C6 := Lib.hid (fun w (h : Rd w (.slice a2 k2 c2) den) => bits_r h)
  have CF := Lib.hid (fun w (h : Rd w (.slice a1 k1 c1) num) (k : Rd w (.slice a2 k2 c2) den) => frac_r h k s h0 h64 (by omega))
  have CS := Lib.hid (fun w => scale_r w s hs)
  have HI := Lib.hid (AtI.start (num := num) h0 h3 (s := s))
  have HA1 : Hid (num = 0 → atanhP num den s = ⟨0, 0⟩) := fun h => by unfold atanhP; rw [if_pos h]
  have HA2 : Hid (num ≠ 0 → atanhP num den s = restP (atL (s + 1) 1 ⟨0, 0⟩ (fracP num den s) (timesP (fracP num den s) (fracP num den s) s) s).1 (atL (s + 1) 1 ⟨0, 0⟩ (fracP num den s) (timesP (fracP num den s) (fracP num den s) s) s).2) := fun h => by unfold atanhP; rw [if_neg h]
  have HB := Lib.hid (fun h : bl num = 0 => (Classical.byContradiction fun h2 : ¬ num = 0 => by have := bl_pos h2; omega : num = 0))
  generalize atL (s + 1) 1 ⟨0, 0⟩ (fracP num den s) (timesP (fracP num den s) (fracP num den s) s) s = R at *
  generalize atanhP num den s = A at *
  generalize fracP num den s = f at *
  generalize cmpN (num * 3) den = c at *
  generalize num * 3 = num3 at *
  generalize hbn : bl num = ln at *
  generalize hbd : bl den = ld at *
  have t1 : decide (4096 < (ln : Int)) = false := decide_eq_false (by omega)
  have t2 : decide (4096 < (ld : Int)) = false := decide_eq_false (by omega)
  have t3 : ((ld : Int) == 0) = false := by rw [beq_eq_false_iff_ne]; omega
  have t4 : (ld == 0) = false := by rw [beq_eq_false_iff_ne]; omega
  have hbl := Lib.hid (And.intro hbn hbd)
  obtain ⟨hs1, hs2⟩ := hs
  clear hu hv e1 e2 n64 h3 h0 h64 hbn hbd bn bd bd0
  go_enter Tryz.func153, Tryz.ntmps153
  have F0 := Lib.hid (Fx.nil w)
  have X0 := Lib.hid (HU.out)
  have Y0 := Lib.hid (HV.out)
  clear HU HV
  go_wp2_with fail
  refine (C1.out _ X0.out).mono ?_
  rintro q w1 ⟨u, rfl, hu, hb⟩
  have F1 := Lib.hid (F0.out.call hb)
  have X1 := Lib.hid (X0.out.below hb)
  have Y1 := Lib.hid (Y0.out.below hb)
  clear F0 X0 Y0
  have Z1 := Lib.hid (hu)
  clear hb
  obtain ⟨a3, k3, c3, rfl⟩ := Z1.out.form
  go_wp2_with fail
  refine (CS.out _).mono ?_
  rintro q w2 ⟨rfl, rfl⟩
  go_wp2_with fail
  refine (C5.out _ X1.out).mono ?_
  rintro q w2 ⟨rfl, hb⟩
  have F2 := Lib.hid (F1.out.call hb)
  have X2 := Lib.hid (X1.out.below hb)
  have Y2 := Lib.hid (Y1.out.below hb)
  have Z2 := Lib.hid (Z1.out.below hb)
  clear F1 X1 Y1 Z1
  clear hb
  go_wp2_with fail
  refine (C6.out _ Y2.out).mono ?_
  rintro q w3 ⟨rfl, hb⟩
  have F3 := Lib.hid (F2.out.call hb)
  have X3 := Lib.hid (X2.out.below hb)
  have Y3 := Lib.hid (Y2.out.below hb)
  have Z3 := Lib.hid (Z2.out.below hb)
  clear F2 X2 Y2 Z2
  clear hb
  go_wp2_with fail
  refine (C6.out _ Y3.out).mono ?_
  rintro q w4 ⟨rfl, hb⟩
  have F4 := Lib.hid (F3.out.call hb)
  have X4 := Lib.hid (X3.out.below hb)
  have Y4 := Lib.hid (Y3.out.below hb)
  have Z4 := Lib.hid (Z3.out.below hb)
  clear F3 X3 Y3 Z3
  clear hb
  go_wp2_with fail
  refine (C2.out _ _ _ (Z4.out.rd b3) Y4.out).mono ?_
  rintro q w5 ⟨rfl, hb⟩
  have F5 := Lib.hid (F4.out.call hb)
  have X5 := Lib.hid (X4.out.below hb)
  have Y5 := Lib.hid (Y4.out.below hb)
  have Z5 := Lib.hid (Z4.out.below hb)
  clear F4 X4 Y4 Z4
  clear hb
  clear Z5
  go_wp2_with fail
  refine (C5.out _ X5.out).mono ?_
  rintro q w6 ⟨rfl, hb⟩
  have F6 := Lib.hid (F5.out.call hb)
  have X6 := Lib.hid (X5.out.below hb)
  have Y6 := Lib.hid (Y5.out.below hb)
  clear F5 X5 Y5
  clear hb
  by_cases hn : num = 0
  · obtain rfl : ln = 0 := by rw [← hbl.out.1, hn]; rfl
    have HE : Hid (A = ⟨0, 0⟩) := HA1.out hn
    clear hn
    go_wp2
    refine bodyPost_ret (v := .tuple #[.slice none 0 0, .slice none 0 0, .int .i64 0]) (by simp [results, Tryz.results153, go_sem]) rfl ?_
    exact ⟨_, _, rfl, by rw [HE.out]; exact Dg.nil X6.out.tab, by rw [HE.out]; exact Dg.nil X6.out.tab, F6.out.b⟩
  · have t5 : ((ln : Int) == 0) = false := by rw [beq_eq_false_iff_ne]; intro h; exact hn (HB.out (by omega))
    have t6 : (ln == 0) = false := by rw [beq_eq_false_iff_ne]; intro h; exact hn (HB.out h)
    have HE : Hid (A = restP R.1 R.2) := HA2.out hn
    clear hn
    go_wp2_with fail
    refine (CF.out _ X6.out Y6.out).mono ?_
    rintro q w7 ⟨u, rfl, hu, hb⟩
    have F7 := Lib.hid (F6.out.call hb)
    have X7 := Lib.hid (X6.out.below hb)
    have Y7 := Lib.hid (Y6.out.below hb)
    clear F6 X6 Y6
    have T7 := Lib.hid (hu)
    clear hb
    clear X7 Y7
    obtain ⟨a4, k4, c4, a5, k5, c5, rfl, h1, h2⟩ := T7.out
    clear h1 h2
    have HZ := Lib.hid (HI.out.szs hs2)
    generalize hQE : timesP f f s = Q at *
    have HQE := Lib.hid hQE
    clear hQE
    have CT := Lib.hid (fun w u v p q hu hv h1 h2 => ptimes_r (w := w) (u := u) (v := v) (p := p) (q := q) hu hv s (by omega) h1 h2)
    go_wp2_with fail
    have F8 := Lib.hid (F7.out.new 226 #[.slice a4 k4 c4, .slice a5 k5 c5] rfl)
    have T8 := Lib.hid (T7.out.alloc (.cells #[.slice a4 k4 c4, .slice a5 k5 c5] 226))
    clear F7 T7
    obtain ⟨g1, hg1⟩ : ∃ g, g = (World.heap w7).size := ⟨_, rfl⟩
    rw [← hg1] at F8 ⊢
    clear hg1
    simp only [List.nil_append] at F8
    generalize World.alloc w7 _ = W8 at F8 T8 ⊢
    have c0_8 := F8.out.c2 0 rfl
    clear c0_8
    refine (CT.out _ _ _ _ _ T8.out T8.out (by have := HZ.out; omega) (by have := HZ.out; omega)).mono ?_
    rintro q w9 ⟨u, rfl, hu, hb⟩
    have F9 := Lib.hid (F8.out.call hb)
    have T9 := Lib.hid (T8.out.below hb)
    clear F8 T8
    have Q9 := Lib.hid (HQE.out ▸ hu)
    clear hb
    have c0_9 := F9.out.c2 0 rfl
    obtain ⟨a6, k6, c6, a7, k7, c7, rfl, h1, h2⟩ := Q9.out
    clear h1 h2
    go_wp2
    clear c0_9
    have F10 := Lib.hid (F9.out.new 226 #[.slice a6 k6 c6, .slice a7 k7 c7] rfl)
    have T10 := Lib.hid (T9.out.alloc (.cells #[.slice a6 k6 c6, .slice a7 k7 c7] 226))
    have Q10 := Lib.hid (Q9.out.alloc (.cells #[.slice a6 k6 c6, .slice a7 k7 c7] 226))
    clear F9 T9 Q9
    obtain ⟨g2, hg2⟩ : ∃ g, g = (World.heap w9).size := ⟨_, rfl⟩
    rw [← hg2] at F10 ⊢
    have hzg2 : (World.heap (World.alloc w9 (.cells #[.slice a6 k6 c6, .slice a7 k7 c7] 226))).size = g2 + 1 := by rw [hg2]; simp
    clear hg2
    simp only [List.nil_append, List.cons_append] at F10
    generalize World.alloc w9 _ = W10 at hzg2 F10 T10 Q10 ⊢
    have F11 := Lib.hid (F10.out.new 226 #[.slice none 0 0, .slice none 0 0] rfl)
    have T11 := Lib.hid (T10.out.alloc (.cells #[.slice none 0 0, .slice none 0 0] 226))
    have Q11 := Lib.hid (Q10.out.alloc (.cells #[.slice none 0 0, .slice none 0 0] 226))
    clear F10 T10 Q10
    rw [hzg2] at F11
    clear hzg2
    simp only [List.nil_append, List.cons_append] at F11
    generalize World.alloc W10 _ = W11 at F11 T11 Q11 ⊢
    have c0_11 := F11.out.c2 0 rfl
    have c1_11 := F11.out.c2 1 rfl
    have c2_11 := F11.out.c2 2 rfl
    obtain ⟨ql, qh⟩ := Q
    obtain ⟨R1, R2⟩ := R
    have HQ1 := Q11.out
    have HT1 := T11.out
    have HZN : Hid (Pv W11 (.agg #[.slice none 0 0, .slice none 0 0]) ⟨0, 0⟩) := ⟨_, _, _, _, _, _, rfl, Dg.nil HT1.tab, Dg.nil HT1.tab⟩
    clear HT1 HQ1
    go_loopw [14] (fun nv wr => ∃ (n i e tl th sl sh : Nat) (a1 : Option Addr) (k1 c1 : Nat) (a2 : Option Addr) (k2 c2 : Nat) (a3 : Option Addr) (k3 c3 : Nat) (a4 : Option Addr) (k4 c4 : Nat), nv = .int .u64 (n : Int) ∧ Hid (AtI s (R1, R2) n i e ⟨sl, sh⟩ ⟨tl, th⟩ ⟨ql, qh⟩) ∧ Hid (Fx w wr [(g1, 226, #[.slice a1 k1 c1, .slice a2 k2 c2]), (g2, 226, #[.slice a6 k6 c6, .slice a7 k7 c7]), (g2 + 1, 226, #[.slice a3 k3 c3, .slice a4 k4 c4])]) ∧ Hid (Pv wr (.agg #[.slice a1 k1 c1, .slice a2 k2 c2]) ⟨tl, th⟩) ∧ Hid (Pv wr (.agg #[.slice a6 k6 c6, .slice a7 k7 c7]) ⟨ql, qh⟩) ∧ Hid (Pv wr (.agg #[.slice a3 k3 c3, .slice a4 k4 c4]) ⟨sl, sh⟩)) (fun n _ => (40000 - intOf n).toNat)
    case atStart => exact ⟨1, 0, s + 1, f.lo, f.hi, 0, 0, _, _, _, _, _, _, _, _, _, _, _, _, rfl, HI, F11, T11, Q11, HZN⟩
    case round =>
      clear c0_11 c1_11 c2_11
      clear F11 T11 Q11 HZN HI HZ
      obtain ⟨n, i, e, tl, th, sl, sh, a1, k1, c1, a2, k2, c2, a3, k3, c3, a4, k4, c4, rfl, hI, hF, hT, hQ, hS⟩ := hrel
      have HZ := Lib.hid (hI.out.szs hs2)
      have F12 := hF
      have T12 := hT
      have Q12 := hQ
      have S12 := hS
      clear hF hT hQ hS
      have c0_12 := F12.out.c2 0 rfl
      have c1_12 := F12.out.c2 1 rfl
      have c2_12 := F12.out.c2 2 rfl
      have HD := Lib.hid T12.out.fst.1
      go_wp2_with fail
      clear c0_12 c1_12 c2_12
      refine (bits_r (HD.out.rd (by have := HZ.out; omega))).mono ?_
      rintro q w13 ⟨rfl, hb⟩
      have F13 := Lib.hid (F12.out.call hb)
      have T13 := Lib.hid (T12.out.below hb)
      have Q13 := Lib.hid (Q12.out.below hb)
      have S13 := Lib.hid (S12.out.below hb)
      clear F12 T12 Q12 S12
      clear hb
      have c0_13 := F13.out.c2 0 rfl
      have c1_13 := F13.out.c2 1 rfl
      have c2_13 := F13.out.c2 2 rfl
      clear HD
      obtain ⟨z1, z2, z3, z4, z5, z6, z7⟩ : n ≤ 20010 ∧ bl tl ≤ 10000 ∧ bl th ≤ 10000 ∧ bl sl ≤ 10000 ∧ bl sh ≤ 10000 ∧ bl ql ≤ 10000 ∧ bl qh ≤ 10000 := HZ.out
      have B1 : Hid (bl (Pr.mk sl sh).lo ≤ 1000000 ∧ bl (Pr.mk sl sh).hi ≤ 1000000 ∧ bl (Pr.mk tl th).lo ≤ 1000000 ∧ bl (Pr.mk tl th).hi ≤ 1000000) := ⟨Nat.le_trans z4 (by decide), Nat.le_trans z5 (by decide), Nat.le_trans z2 (by decide), Nat.le_trans z3 (by decide)⟩
      have B2 : Hid (bl (Pr.mk tl th).lo ≤ 6000000 ∧ bl (Pr.mk tl th).hi ≤ 6000000) := ⟨Nat.le_trans z2 (by decide), Nat.le_trans z3 (by decide)⟩
      have B3 : Hid (bl (Pr.mk tl th).lo + bl (Pr.mk ql qh).lo ≤ 65536 ∧ bl (Pr.mk tl th).hi + bl (Pr.mk ql qh).hi ≤ 65536) := ⟨by show bl tl + bl ql ≤ 65536; omega, by show bl th + bl qh ≤ 65536; omega⟩
      have hn1 : 0 < n := by have := hI.out.hn; omega
      have B4 : Hid (bl (byP ⟨tl, th⟩ n).lo ≤ 1000000 ∧ bl (byP ⟨tl, th⟩ n).hi ≤ 1000000) := by
        have hT : tl ≤ 1 * 2 ^ s ∧ th ≤ 1 * 2 ^ s := by have := hI.out.hT; simpa using this
        have h := byP_le (p := ⟨tl, th⟩) hn1 hT
        have h1 := bl_pow_le h.1 (by decide)
        have h2 := bl_pow_le h.2 (by decide)
        exact ⟨by omega, by omega⟩
      clear z2 z3 z4 z5 z6 z7 HZ
      obtain ⟨lt, hlt⟩ : ∃ lt, lt = bl tl := ⟨_, rfl⟩
      rw [← hlt]
      by_cases h0 : tl = 0
      · have HR := Lib.hid (hI.out.done h0)
        obtain rfl : lt = 0 := by rw [hlt, h0]; rfl
        clear h0 hI hlt
        go_wp2_with fail
        clear c0_13 c1_13 c2_13
        refine (prest_r S13.out T13.out B1.out).mono ?_
        rintro q w14 ⟨u, rfl, hu, hb⟩
        have F14 := Lib.hid (F13.out.call hb)
        have T14 := Lib.hid (T13.out.below hb)
        have Q14 := Lib.hid (Q13.out.below hb)
        have S14 := Lib.hid (S13.out.below hb)
        clear F13 T13 Q13 S13
        have R14 := Lib.hid (hu)
        clear hb
        have c0_14 := F14.out.c2 0 rfl
        have c1_14 := F14.out.c2 1 rfl
        have c2_14 := F14.out.c2 2 rfl
        obtain ⟨b1, e1, d1, b2, e2, d2, rfl, h1, h2⟩ := R14.out
        clear h1 h2
        go_wp2_with fail
        clear c0_14 c1_14 c2_14
        obtain ⟨f, p⟩ := F14.out.s2 2 rfl (.slice b1 e1 d1) (.slice b2 e2 d2) rfl rfl
        generalize (World.setCell (World.setCell _ _ _) _ _) = W at f p ⊢
        have F15 := Lib.hid (f)
        have T15 := Lib.hid (T14.out.kp p)
        have Q15 := Lib.hid (Q14.out.kp p)
        have S15 := Lib.hid (S14.out.kp p)
        have R15 := Lib.hid (R14.out.kp p)
        clear F14 T14 Q14 S14 R14
        clear f p
        have c0_15 := F15.out.c2 0 rfl
        have c1_15 := F15.out.c2 1 rfl
        have c2_15 := F15.out.c2 2 rfl
        go_quiet (fail)
        go_wp2
        refine bodyPost_ret (v := .tuple #[.slice b1 e1 d1, .slice b2 e2 d2, .int .i64 0]) (by simp [results, Tryz.results153, go_sem]) rfl ?_
        have HX := HE.out
        have hr := HR.out
        injection hr with hr1 hr2
        rw [HX, hr1, hr2]
        exact ⟨_, _, rfl, (R15.out.fst.1).drewN _, (R15.out.fst.2).drewN _, (F15.out.drewN _).b⟩
      · have HN := Lib.hid (hI.out.step h0)
        have hpos := bl_pos h0
        have t7 : decide (0 < (lt : Int)) = true := decide_eq_true (by omega)
        have t8 : decide (0 < lt) = true := decide_eq_true (by omega)
        obtain ⟨m, hm⟩ : ∃ m, m = n + 2 := ⟨_, rfl⟩
        have q1 : IntKind.u64.wrap ((n : Int) + 2) = (m : Int) := by rw [IntKind.wrap_u64]; omega
        have HM := Lib.hid hm
        have HNB := Lib.hid (And.intro hn1 (show n < 18446744073709551616 by omega))
        clear h0 hI hpos hlt hm hn1
        go_upto_region 12 with (fail)
        have D13 := Lib.hid (F13.out.drew)
        have d0_13 := D13.out.c2 0 rfl
        have d1_13 := D13.out.c2 1 rfl
        have d2_13 := D13.out.c2 2 rfl
        go_region_with (first | (have RR := F14.out; go_at_call 172; (with_reducible refine (pplus_r S14.out U14.out ⟨B1.out.1, B1.out.2.1, B4.out.1, B4.out.2⟩).mono ?_); rintro q ww15 ⟨u2, rfl, hu, hb⟩; have F15 := Lib.hid (RR.call hb); have T15 := Lib.hid (T14.out.below hb); have Q15 := Lib.hid (Q14.out.below hb); have S15 := Lib.hid (S14.out.below hb); have U15 := Lib.hid (U14.out.below hb); have V15 := Lib.hid (hu); obtain ⟨b3, e3, d3, b4, e4, d4, rfl, h1, h2⟩ := V15.out; clear h1 h2; have c0_15 := F15.out.c2 0 rfl; have c1_15 := F15.out.c2 1 rfl; have c2_15 := F15.out.c2 2 rfl; clear hb RR) | (have RR := D13.out; go_at_call 171; (with_reducible refine (pby_r (T13.out.drew) HNB.out.1 HNB.out.2 B2.out.1 B2.out.2).mono ?_); rintro q ww14 ⟨u1, rfl, hu, hb⟩; have F14 := Lib.hid (RR.call hb); have T14 := Lib.hid ((T13.out.drew).below hb); have Q14 := Lib.hid ((Q13.out.drew).below hb); have S14 := Lib.hid ((S13.out.drew).below hb); have U14 := Lib.hid (hu); obtain ⟨b1, e1, d1, b2, e2, d2, rfl, h1, h2⟩ := U14.out; clear h1 h2; have c0_14 := F14.out.c2 0 rfl; have c1_14 := F14.out.c2 1 rfl; have c2_14 := F14.out.c2 2 rfl; clear hb RR))
        all_goals
          clear c0_15 c1_15 c2_15
          obtain ⟨f, p⟩ := F15.out.s2 2 rfl (.slice b3 e3 d3) (.slice b4 e4 d4) rfl rfl
          generalize (World.setCell (World.setCell _ _ _) _ _) = W at f p ⊢
          have F16 := Lib.hid (f)
          have T16 := Lib.hid (T15.out.kp p)
          have Q16 := Lib.hid (Q15.out.kp p)
          have S16 := Lib.hid (S15.out.kp p)
          have U16 := Lib.hid (U15.out.kp p)
          have V16 := Lib.hid (V15.out.kp p)
          clear F15 T15 Q15 S15 U15 V15
          clear f p
          have c0_16 := F16.out.c2 0 rfl
          have c1_16 := F16.out.c2 1 rfl
          have c2_16 := F16.out.c2 2 rfl
          clear S16 U16
          go_wp2_with fail
          clear c0_16 c1_16 c2_16
          refine (CT.out _ _ _ _ _ T16.out Q16.out B3.out.1 B3.out.2).mono ?_
          rintro q w17 ⟨u, rfl, hu, hb⟩
          have F17 := Lib.hid (F16.out.call hb)
          have T17 := Lib.hid (T16.out.below hb)
          have Q17 := Lib.hid (Q16.out.below hb)
          have V17 := Lib.hid (V16.out.below hb)
          clear F16 T16 Q16 V16
          have Z17 := Lib.hid (hu)
          clear hb
          have c0_17 := F17.out.c2 0 rfl
          have c1_17 := F17.out.c2 1 rfl
          have c2_17 := F17.out.c2 2 rfl
          clear T17
          obtain ⟨b5, e5, d5, b6, e6, d6, rfl, h1, h2⟩ := Z17.out
          clear h1 h2
          obtain ⟨e', he', hI'⟩ := HN.out
          rw [← HM.out] at hI'
          have HI' := Lib.hid hI'
          clear he' hI'
          go_wp2_with fail
          clear c0_17 c1_17 c2_17
          obtain ⟨f, p⟩ := F17.out.s2 0 rfl (.slice b5 e5 d5) (.slice b6 e6 d6) rfl rfl
          generalize (World.setCell (World.setCell _ _ _) _ _) = W at f p ⊢
          have F18 := Lib.hid (f)
          have Q18 := Lib.hid (Q17.out.kp p)
          have V18 := Lib.hid (V17.out.kp p)
          have Z18 := Lib.hid (Z17.out.kp p)
          clear F17 Q17 V17 Z17
          clear f p
          have c0_18 := F18.out.c2 0 rfl
          have c1_18 := F18.out.c2 1 rfl
          have c2_18 := F18.out.c2 2 rfl
          go_roundw
          case rel => exact ⟨m, i + 1, e', _, _, _, _, _, _, _, _, _, _, _, _, _, _, _, _, rfl, HI', F18, Z18, Q18, V18⟩
          case measure => have h1 := HM.out; simp only [intOf]; omega

end Go.Proofs.YtobpioceopfkpaaGreatDoor

/-
  series: Within. Printed by gen_sd.py.
-/
namespace Go.Proofs.YtobpioceopfkpaaGreatDoor
open Go.RowKit

/-- an interval's ends -/
structure In where
  lo : Dn
  hi : Dn
def withinN (lo hi : Nat) (e : Int) (neg : Bool) : In :=
  if 0 < CmpD (bareN ⟨neg, lo, e⟩) (bareN ⟨neg, hi, e⟩) then ⟨bareN ⟨neg, hi, e⟩, bareN ⟨neg, lo, e⟩⟩ else ⟨bareN ⟨neg, lo, e⟩, bareN ⟨neg, hi, e⟩⟩

def Iv (w : World) (v : Value) (i : In) : Prop := ∃ a k c a' k' c', v = .agg #[.bool i.lo.neg, .slice a k c, .int .i64 i.lo.e, .bool i.hi.neg, .slice a' k' c', .int .i64 i.hi.e] ∧
  Cy w (.agg #[.bool i.lo.neg, .slice a k c, .int .i64 i.lo.e]) i.lo ∧ Cy w (.agg #[.bool i.hi.neg, .slice a' k' c', .int .i64 i.hi.e]) i.hi
theorem Iv.below {w w' : World} {v : Value} {i : In} (h : Iv w v i) (hb : Below w.heap.size w w') : Iv w' v i := by
  obtain ⟨a, k, c, a', k', c', h1, h2, h3⟩ := h; exact ⟨a, k, c, a', k', c', h1, h2.below hb, h3.below hb⟩
theorem Iv.alloc {w : World} {v : Value} {i : In} (h : Iv w v i) (o : Obj) : Iv (w.alloc o) v i := by
  obtain ⟨a, k, c, a', k', c', h1, h2, h3⟩ := h; exact ⟨a, k, c, a', k', c', h1, h2.alloc o, h3.alloc o⟩
theorem Iv.drew {w : World} {v : Value} {i : In} (h : Iv w v i) : Iv w.drew v i := by
  obtain ⟨a, k, c, a', k', c', h1, h2, h3⟩ := h; exact ⟨a, k, c, a', k', c', h1, h2.drew, h3.drew⟩
theorem Iv.kp {w w' : World} {v : Value} {i : In} (h : Iv w v i) (K : Kp w w') : Iv w' v i := by
  obtain ⟨a, k, c, a', k', c', h1, h2, h3⟩ := h; exact ⟨a, k, c, a', k', c', h1, h2.kp K, h3.kp K⟩
theorem Iv.tab {w : World} {v : Value} {i : In} (h : Iv w v i) : Tab w := by
  obtain ⟨a, k, c, a', k', c', h1, h2, h3⟩ := h; exact h2.tab
theorem Iv.fm {w : World} {v : Value} {n : Bool} {m : Nat} {e : Int} {n' : Bool} {m' : Nat} {e' : Int} (h : Iv w v ⟨⟨n, m, e⟩, ⟨n', m', e'⟩⟩) : ∃ a k c a' k' c', v = .agg #[.bool n, .slice a k c, .int .i64 e, .bool n', .slice a' k' c', .int .i64 e'] ∧
    Cy w (.agg #[.bool n, .slice a k c, .int .i64 e]) ⟨n, m, e⟩ ∧ Cy w (.agg #[.bool n', .slice a' k' c', .int .i64 e']) ⟨n', m', e'⟩ := h
def RetI (i : In) (w : World) (e : Ending) (w' : World) : Prop := ∃ u, e = .returned u ∧ Iv w' u i ∧ Below w.heap.size w w'

set_option maxRecDepth 100000 in
set_option maxHeartbeats 4000000 in
theorem Within_r {w : World} {u v : Value} {lo hi : Nat} (hu : Rd w u lo) (hv : Rd w v hi) (neg : Bool) (s e : Int) (hs : s = -e) (he : -100000 ≤ e ∧ e ≤ 100000) (h1 : bl lo ≤ 30000) (h2 : bl hi ≤ 30000) :
    Calls Tryz.prog 135 #[u, v, .int .i64 s, .bool neg] w (RetI (withinN lo hi e neg) w) := by
  obtain ⟨a1, k1, c1, rfl⟩ := hu.form
  obtain ⟨a2, k2, c2, rfl⟩ := hv.form
  have C1 := Lib.hid (fun w (h : Rd w (.slice a1 k1 c1) lo) => Make_s (neg := neg) (e := e) h (by omega) (by omega))
  have C2 := Lib.hid (fun w (h : Rd w (.slice a2 k2 c2) hi) => Make_s (neg := neg) (e := e) h (by omega) (by omega))
  have q1 : IntKind.i64.wrap (-s) = e := by rw [hs, IntWalk.i64_in _ (by omega)]; omega
  obtain ⟨I, hI⟩ : ∃ I, I = withinN lo hi e neg := ⟨_, rfl⟩
  rw [← hI]
  unfold withinN at hI
  generalize bareN ⟨neg, lo, e⟩ = A at *
  generalize bareN ⟨neg, hi, e⟩ = B at *
  have CC := Lib.hid (fun w u v (h : Cy w u A) (k : Cy w v B) => Cmp_d h.ry k.ry)
  generalize CmpD A B = c at *
  have HW := Lib.hid hI
  clear hI
  obtain ⟨an, am, ae⟩ := A
  obtain ⟨bn, bm, be⟩ := B
  have HU := Lib.hid hu
  have HV := Lib.hid hv
  clear hu hv hs he h1 h2
  go_enter Tryz.func135, Tryz.ntmps135
  have F0 := Lib.hid (Fx.one w 92 #[.bool false, .slice none 0 0, .int .i64 0, .bool false, .slice none 0 0, .int .i64 0] rfl)
  have X0 := Lib.hid (HU.out.alloc (.cells #[.bool false, .slice none 0 0, .int .i64 0, .bool false, .slice none 0 0, .int .i64 0] 92))
  have Y0 := Lib.hid (HV.out.alloc (.cells #[.bool false, .slice none 0 0, .int .i64 0, .bool false, .slice none 0 0, .int .i64 0] 92))
  clear HU HV
  go_wp2_with fail
  generalize World.alloc _ _ = w0 at F0 X0 Y0 ⊢
  have c0_0 := F0.out.c6 0 rfl
  clear c0_0
  refine (C1.out _ X0.out).mono ?_
  rintro q w1 ⟨u, rfl, hu, hb⟩
  have F1 := Lib.hid (F0.out.call hb)
  have X1 := Lib.hid (X0.out.below hb)
  have Y1 := Lib.hid (Y0.out.below hb)
  clear F0 X0 Y0
  have U1 := Lib.hid (hu)
  clear hb
  have c0_1 := F1.out.c6 0 rfl
  clear X1
  obtain ⟨a3, k3, c3, rfl⟩ := U1.out.fm
  go_wp2_with fail
  clear c0_1
  have F2 := Lib.hid (F1.out.new 42 #[.bool an, .slice a3 k3 c3, .int .i64 ae] rfl)
  have Y2 := Lib.hid (Y1.out.alloc (.cells #[.bool an, .slice a3 k3 c3, .int .i64 ae] 42))
  have U2 := Lib.hid (U1.out.alloc (.cells #[.bool an, .slice a3 k3 c3, .int .i64 ae] 42))
  clear F1 Y1 U1
  obtain ⟨g1, hg1⟩ : ∃ g, g = (World.heap w1).size := ⟨_, rfl⟩
  rw [← hg1] at F2 ⊢
  clear hg1
  simp only [List.nil_append, List.cons_append] at F2
  generalize World.alloc w1 _ = W2 at F2 Y2 U2 ⊢
  have c0_2 := F2.out.c6 0 rfl
  have c1_2 := F2.out.c3 1 rfl
  clear c0_2 c1_2
  refine (C2.out _ Y2.out).mono ?_
  rintro q w3 ⟨u, rfl, hu, hb⟩
  have F3 := Lib.hid (F2.out.call hb)
  have Y3 := Lib.hid (Y2.out.below hb)
  have U3 := Lib.hid (U2.out.below hb)
  clear F2 Y2 U2
  have V3 := Lib.hid (hu)
  clear hb
  have c0_3 := F3.out.c6 0 rfl
  have c1_3 := F3.out.c3 1 rfl
  clear Y3
  obtain ⟨a4, k4, c4, rfl⟩ := V3.out.fm
  go_upto_region 3 with (fail)
  clear c0_3 c1_3
  have F4 := Lib.hid (F3.out.new 42 #[.bool bn, .slice a4 k4 c4, .int .i64 be] rfl)
  have U4 := Lib.hid (U3.out.alloc (.cells #[.bool bn, .slice a4 k4 c4, .int .i64 be] 42))
  have V4 := Lib.hid (V3.out.alloc (.cells #[.bool bn, .slice a4 k4 c4, .int .i64 be] 42))
  clear F3 U3 V3
  obtain ⟨g2, hg2⟩ : ∃ g, g = (World.heap w3).size := ⟨_, rfl⟩
  rw [← hg2] at F4 ⊢
  clear hg2
  simp only [List.nil_append, List.cons_append] at F4
  generalize World.alloc w3 _ = W4 at F4 U4 V4 ⊢
  have c0_4 := F4.out.c6 0 rfl
  have c1_4 := F4.out.c3 1 rfl
  have c2_4 := F4.out.c3 2 rfl
  go_wp2_with fail
  clear c0_4 c1_4 c2_4
  refine (CC.out _ _ _ U4.out V4.out).mono ?_
  rintro q w5 ⟨rfl, hb⟩
  have F5 := Lib.hid (F4.out.call hb)
  have U5 := Lib.hid (U4.out.below hb)
  have V5 := Lib.hid (V4.out.below hb)
  clear F4 U4 V4
  clear hb
  have c0_5 := F5.out.c6 0 rfl
  have c1_5 := F5.out.c3 1 rfl
  have c2_5 := F5.out.c3 2 rfl
  by_cases h0 : 0 < c
  · have z1 : decide (0 < c) = true := decide_eq_true h0
    have HE := Lib.hid (HW.out.trans (if_pos h0))
    clear h0 HW
    have hne := F5.out.lt2 1 2 (by decide) rfl rfl
    go_upto_region 5 with (fail)
    clear hne
    have hcells := c0_5
    clear hcells
    obtain ⟨f1, p1⟩ := F5.out.s3 1 rfl (.bool bn) (.slice a4 k4 c4) (.int .i64 be) rfl rfl rfl
    obtain ⟨f2, p2⟩ := f1.s3 2 rfl (.bool an) (.slice a3 k3 c3) (.int .i64 ae) rfl rfl rfl
    have p := p1.trans p2
    have f := f2
    clear f1 f2 p1 p2
    clear c0_5 c1_5 c2_5
    generalize (World.setCell (World.setCell (World.setCell (World.setCell (World.setCell (World.setCell _ _ _) _ _) _ _) _ _) _ _) _ _) = W at f p ⊢
    have F6 := Lib.hid (f)
    have U6 := Lib.hid (U5.out.kp p)
    have V6 := Lib.hid (V5.out.kp p)
    clear F5 U5 V5
    clear f p
    simp only [List.set_cons_zero, List.set_cons_succ] at F6
    have c0_6 := F6.out.c6 0 rfl
    have c1_6 := F6.out.c3 1 rfl
    have c2_6 := F6.out.c3 2 rfl
    go_wp2
    obtain ⟨f0, p0⟩ := F6.out.s6 0 rfl (.bool bn) (.slice a4 k4 c4) (.int .i64 be) (.bool an) (.slice a3 k3 c3) (.int .i64 ae) rfl rfl rfl rfl rfl rfl
    have p := p0
    have f := f0
    clear f0 p0
    generalize (World.setCell (World.setCell (World.setCell (World.setCell (World.setCell (World.setCell _ _ _) _ _) _ _) _ _) _ _) _ _) = W at f p ⊢
    have g0 := f.c6 0 rfl
    refine bodyPost_ret (v := .agg #[.bool bn, .slice a4 k4 c4, .int .i64 be, .bool an, .slice a3 k3 c3, .int .i64 ae]) (by simp [results, Tryz.results135, go_sem, g0]) rfl ?_
    rw [HE.out]
    exact ⟨_, rfl, ⟨_, _, _, _, _, _, rfl, V6.out.kp p, U6.out.kp p⟩, f.b⟩
  · have z1 : decide (0 < c) = false := decide_eq_false h0
    have HE := Lib.hid (HW.out.trans (if_neg h0))
    clear h0 HW
    go_wp2
    obtain ⟨f0, p0⟩ := F5.out.s6 0 rfl (.bool an) (.slice a3 k3 c3) (.int .i64 ae) (.bool bn) (.slice a4 k4 c4) (.int .i64 be) rfl rfl rfl rfl rfl rfl
    have p := p0
    have f := f0
    clear f0 p0
    generalize (World.setCell (World.setCell (World.setCell (World.setCell (World.setCell (World.setCell _ _ _) _ _) _ _) _ _) _ _) _ _) = W at f p ⊢
    have g0 := f.c6 0 rfl
    refine bodyPost_ret (v := .agg #[.bool an, .slice a3 k3 c3, .int .i64 ae, .bool bn, .slice a4 k4 c4, .int .i64 be]) (by simp [results, Tryz.results135, go_sem, g0]) rfl ?_
    rw [HE.out]
    exact ⟨_, rfl, ⟨_, _, _, _, _, _, rfl, U5.out.kp p, V5.out.kp p⟩, f.b⟩

end Go.Proofs.YtobpioceopfkpaaGreatDoor

/-
  iv: can, Right, At. Printed by gen_ia.py.
-/
namespace Go.Proofs.YtobpioceopfkpaaGreatDoor
open Go.RowKit

theorem CmpD_le (a b : Dn) : -1 ≤ CmpD a b ∧ CmpD a b ≤ 1 := by
  unfold CmpD
  have h1 := signN_le a
  have h2 := sizeN_le a b
  split
  · exact cmpI_le _ _
  · rcases (by omega : signN a = -1 ∨ signN a = 0 ∨ signN a = 1) with h | h | h <;> rw [h] <;> omega

set_option maxRecDepth 100000 in
set_option maxHeartbeats 4000000 in
theorem can_r {w : World} {u : Value} {d : Dn} (hu : Ry w u d) (sd : Sd d) : Calls Tryz.prog 161 #[u] w fun e w' => e = .returned (.bool true) ∧ Below w.heap.size w w' := by
  have CA := Lib.hid (fun w (h : Ry w u d) => Bare_s h sd)
  obtain ⟨a1, k1, c1, rfl⟩ := hu.form
  generalize bareN d = D at *
  obtain ⟨n, m, e⟩ := D
  clear sd
  go_enter Tryz.func161, Tryz.ntmps161
  have F0 := Lib.hid (Fx.one w 42 #[.bool d.neg, .slice a1 k1 c1, .int .i64 d.e] rfl)
  have X0 := Lib.hid (hu.alloc (.cells #[.bool d.neg, .slice a1 k1 c1, .int .i64 d.e] 42))
  clear hu
  go_upto_region 1 with (fail)
  generalize World.alloc _ _ = w0 at F0 X0 ⊢
  have c0_0 := F0.out.c3 0 rfl
  go_wp2_with fail
  clear c0_0
  refine (CA.out _ X0.out).mono ?_
  rintro q w1 ⟨u, rfl, hu, hb⟩
  have F1 := Lib.hid (F0.out.call hb)
  have X1 := Lib.hid (X0.out.below hb)
  clear F0 X0
  have U1 := Lib.hid (hu)
  clear hb
  have c0_1 := F1.out.c3 0 rfl
  clear X1
  obtain ⟨a3, k3, c3, rfl⟩ := U1.out.fm
  go_wp2
  go_ret
  exact ⟨rfl, (F1.out.alloc _).b⟩

set_option maxRecDepth 100000 in
set_option maxHeartbeats 4000000 in
theorem Right_r {w : World} {u : Value} {i : In} (hu : Iv w u i) (s1 : Sd i.lo) (s2 : Sd i.hi) : Calls Tryz.prog 132 #[u] w fun e w' => e = .returned (.bool (decide (CmpD i.lo i.hi ≤ 0))) ∧ Below w.heap.size w w' := by
  obtain ⟨⟨n, m, e⟩, ⟨n', m', e'⟩⟩ := i
  obtain ⟨a1, k1, c1, a2, k2, c2, rfl, hx, hy⟩ := hu.fm
  simp only at s1 s2
  have C1 := Lib.hid (fun w u (h : Cy w u ⟨n, m, e⟩) => can_r h.ry s1)
  have C2 := Lib.hid (fun w u (h : Cy w u ⟨n', m', e'⟩) => can_r h.ry s2)
  have CC := Lib.hid (fun w u v (h : Cy w u ⟨n, m, e⟩) (k : Cy w v ⟨n', m', e'⟩) => Cmp_d h.ry k.ry)
  simp only
  generalize CmpD ⟨n, m, e⟩ ⟨n', m', e'⟩ = c at *
  have HX := Lib.hid hx
  have HY := Lib.hid hy
  clear hu hx hy s1 s2
  go_enter Tryz.func132, Tryz.ntmps132
  have F0 := Lib.hid (Fx.one w 92 #[.bool n, .slice a1 k1 c1, .int .i64 e, .bool n', .slice a2 k2 c2, .int .i64 e'] rfl)
  have X0 := Lib.hid (HX.out.alloc (.cells #[.bool n, .slice a1 k1 c1, .int .i64 e, .bool n', .slice a2 k2 c2, .int .i64 e'] 92))
  have Y0 := Lib.hid (HY.out.alloc (.cells #[.bool n, .slice a1 k1 c1, .int .i64 e, .bool n', .slice a2 k2 c2, .int .i64 e'] 92))
  clear HX HY
  go_upto_region 1 with (fail)
  generalize World.alloc _ _ = w0 at F0 X0 Y0 ⊢
  have c0_0 := F0.out.c6 0 rfl
  go_wp2_with fail
  clear c0_0
  refine (C1.out _ _ X0.out).mono ?_
  rintro q w1 ⟨rfl, hb⟩
  have F1 := Lib.hid (F0.out.call hb)
  have X1 := Lib.hid (X0.out.below hb)
  have Y1 := Lib.hid (Y0.out.below hb)
  clear F0 X0 Y0
  clear hb
  have c0_1 := F1.out.c6 0 rfl
  go_wp2_with fail
  clear c0_1
  refine (C2.out _ _ Y1.out).mono ?_
  rintro q w2 ⟨rfl, hb⟩
  have F2 := Lib.hid (F1.out.call hb)
  have X2 := Lib.hid (X1.out.below hb)
  have Y2 := Lib.hid (Y1.out.below hb)
  clear F1 X1 Y1
  clear hb
  have c0_2 := F2.out.c6 0 rfl
  go_wp2_with fail
  clear c0_2
  refine (CC.out _ _ _ X2.out Y2.out).mono ?_
  rintro q w3 ⟨rfl, hb⟩
  have F3 := Lib.hid (F2.out.call hb)
  have X3 := Lib.hid (X2.out.below hb)
  have Y3 := Lib.hid (Y2.out.below hb)
  clear F2 X2 Y2
  clear hb
  have c0_3 := F3.out.c6 0 rfl
  go_wp2
  go_ret
  exact ⟨rfl, F3.out.b⟩

set_option maxRecDepth 100000 in
set_option maxHeartbeats 4000000 in
theorem At_r {w : World} {u : Value} {d : Dn} (hu : Cy w u d) : Calls Tryz.prog 159 #[u] w (RetI ⟨d, d⟩ w) := by
  obtain ⟨n, m, e⟩ := d
  obtain ⟨a1, k1, c1, rfl⟩ := hu.fm
  have HX := Lib.hid hu
  clear hu
  go_enter Tryz.func159, Tryz.ntmps159
  have F0 := Lib.hid (Fx.two w 42 #[.bool n, .slice a1 k1 c1, .int .i64 e] 92 #[.bool false, .slice none 0 0, .int .i64 0, .bool false, .slice none 0 0, .int .i64 0] rfl rfl)
  have X0 := Lib.hid ((HX.out.alloc (.cells #[.bool n, .slice a1 k1 c1, .int .i64 e] 42)).alloc (.cells #[.bool false, .slice none 0 0, .int .i64 0, .bool false, .slice none 0 0, .int .i64 0] 92))
  clear HX
  go_upto_region 1 with (fail)
  generalize World.alloc (World.alloc _ _) _ = w0 at F0 X0 ⊢
  have c0_0 := F0.out.c3 0 rfl
  have c1_0 := F0.out.c6 1 rfl
  go_wp2
  obtain ⟨f0, p0⟩ := F0.out.s6 1 rfl (.bool n) (.slice a1 k1 c1) (.int .i64 e) (.bool n) (.slice a1 k1 c1) (.int .i64 e) rfl rfl rfl rfl rfl rfl
  have p := p0
  have f := f0
  clear f0 p0
  generalize (World.setCell (World.setCell (World.setCell (World.setCell (World.setCell (World.setCell _ _ _) _ _) _ _) _ _) _ _) _ _) = W at f p ⊢
  have g1 := f.c6 1 rfl
  refine bodyPost_ret (v := .agg #[.bool n, .slice a1 k1 c1, .int .i64 e, .bool n, .slice a1 k1 c1, .int .i64 e]) (by simp [results, Tryz.results159, go_sem, g1]) rfl ?_
  exact ⟨_, rfl, ⟨_, _, _, _, _, _, rfl, X0.out.kp p, X0.out.kp p⟩, f.b⟩

end Go.Proofs.YtobpioceopfkpaaGreatDoor
