/-
  WholeTiny: the law's walk. Printed by gen_ek.py.
-/
import Derived.Test.YtobpioceopfkpaaGreatDoorM25
import Derived.Test.YtobpioceopfkpaaGreatDoorM08
import Derived.BigQuiet
import Derived.Deep.RegionHeld3
import Derived.Test.YtobpioceopfkpaaGreatDoorM17
namespace Go.Proofs.YtobpioceopfkpaaGreatDoor
open Go.RowKit

def tinyY (e fr : Nat) (neg : Bool) : Nat := (1 + e % 950) * 4503599627370496 + fr % 4503599627370496 + if neg then 9223372036854775808 else 0
theorem tinyY_is (e fr : Nat) (neg : Bool) : tinyY e fr neg < 18446744073709551616 ∧ fld (tinyY e fr neg) = 1 + e % 950 ∧ sgn (tinyY e fr neg) = neg := by
  have h1 : fr % 4503599627370496 < 4503599627370496 := Nat.mod_lt _ (by decide)
  have h2 : e % 950 < 950 := Nat.mod_lt _ (by decide)
  unfold tinyY fld sgn
  generalize fr % 4503599627370496 = f at *
  generalize e % 950 = g at *
  cases neg
  · simp only [Bool.false_eq_true, if_false]
    refine ⟨by omega, by omega, ?_⟩
    exact decide_eq_false (by omega)
  · simp only [if_true]
    refine ⟨by omega, by omega, ?_⟩
    exact decide_eq_true (by omega)
theorem or_low2 {E f : Nat} (hE : E < 2048) (hf : f < 4503599627370496) : bits .or .u64 ((E * 4503599627370496 : Nat) : Int) (f : Int) = ((E * 4503599627370496 + f : Nat) : Int) := by
  rw [u64_or _ _ (Int.natCast_nonneg _) (by omega) (Int.natCast_nonneg _) (by omega), Int.toNat_natCast, Int.toNat_natCast]
  congr 1
  have := or_add (b := E) (a := f) (t := 52) hf
  rw [Nat.mul_comm] at this
  exact this
theorem or_top2 {y : Nat} (hy : y < 9223372036854775808) : bits .or .u64 (y : Int) 9223372036854775808 = ((y + 9223372036854775808 : Nat) : Int) := by
  rw [u64_or _ _ (Int.natCast_nonneg _) (by omega) (by decide) (by decide), Int.toNat_natCast]
  congr 1
  have := or_add (b := 1) (a := y) (t := 63) hy
  rw [Nat.or_comm]
  simpa [Nat.add_comm] using this
/-- what the law wants -/
def wantB (above : Bool) (z : Nat) : Int := if (above && z == 2) = true then 4607182418800017409 else if (!above && (z == 1 || z == 3)) = true then 4607182418800017407 else 4607182418800017408
theorem want_is (above : Bool) {z : Nat} (hz : z < 4) : tinyB (z : Int) (if above = true then 1 else -1) = wantB above z := by
  rcases (by omega : z = 0 ∨ z = 1 ∨ z = 2 ∨ z = 3) with rfl | rfl | rfl | rfl <;> cases above <;> decide

set_option maxRecDepth 100000 in
set_option maxHeartbeats 4000000 in
theorem Tiny_skip {w : World} (t : Tab w) {x e fr d : Nat} (hx : x < 18446744073709551616) (neg : Bool) (hal : ∀ w, Tab w → Calls Tryz.prog 8 #[] w fun e w' => e = .returned (.bool true) ∧ Below w.heap.size w w')
    (hs : ¬ fld x < 2047 ∨ sgn x = true ∨ x = 0 ∨ x = 4607182418800017408) : Calls Tryz.prog 6 #[.int .u64 (x : Int), .int .u16 (e : Int), .int .u64 (fr : Int), .bool neg, .int .u8 (d : Int)] w fun e w' => e = .returned (.bool true) ∧ Below w.heap.size w w' := by
  have CA := Lib.hid hal
  have CF := Lib.hid (fun w => finite_r hx w)
  have CN := Lib.hid (fun w => neg_r hx w)
  have HT := Lib.hid t
  obtain ⟨gf, hgf⟩ : ∃ gf, gf = decide (fld x < 2047) := ⟨_, rfl⟩
  obtain ⟨gs, hgs⟩ : ∃ gs, gs = sgn x := ⟨_, rfl⟩
  obtain ⟨g0, hg0⟩ : ∃ g0, g0 = decide (x = 0) := ⟨_, rfl⟩
  obtain ⟨g1, hg1⟩ : ∃ g1, g1 = decide (x = 4607182418800017408) := ⟨_, rfl⟩
  have hs' : (gf = false ∨ gs = true) ∨ g0 = true ∨ g1 = true := by
    rcases hs with h | h | h | h
    · exact .inl (.inl (by rw [hgf]; exact decide_eq_false h))
    · exact .inl (.inr (by rw [hgs]; exact h))
    · exact .inr (.inl (by rw [hg0]; exact decide_eq_true h))
    · exact .inr (.inr (by rw [hg1]; exact decide_eq_true h))
  have q0 : ((x : Int) == 0) = g0 := by rw [hg0]; by_cases h : x = 0 <;> simp [h] <;> omega
  have q1 : ((x : Int) == 4607182418800017408) = g1 := by rw [hg1]; by_cases h : x = 4607182418800017408 <;> simp [h] <;> omega
  have q2 : (x == 0) = g0 := by rw [hg0]; by_cases h : x = 0 <;> simp [h]
  have q3 : (x == 4607182418800017408) = g1 := by rw [hg1]; by_cases h : x = 4607182418800017408 <;> simp [h]
  rw [← hgf] at CF
  rw [← hgs] at CN
  clear hs hgf hgs hg0 hg1 hx hal t
  have fin : ∀ w' : World, Below w.heap.size w w' → True := fun _ _ => trivial
  cases gf
  case false =>
    go_enter Tryz.func6, Tryz.ntmps6
    have F0 := Lib.hid (Fz.nil w)
    have T0 := Lib.hid (HT.out)
    clear HT
    go_wp2_with fail
    refine (CA.out _ T0.out).mono ?_
    rintro q w1 ⟨rfl, hb⟩
    have F1 := Lib.hid (F0.out.call hb)
    have T1 := Lib.hid (T0.out.below hb)
    clear F0 T0
    clear hb
    go_wp2_with fail
    refine (CF.out _).mono ?_
    rintro q w2 ⟨rfl, rfl⟩
    go_wp2
    go_ret
    exact ⟨rfl, F1.out.b⟩
  case true =>
    cases gs
    case true =>
      go_enter Tryz.func6, Tryz.ntmps6
      have F0 := Lib.hid (Fz.nil w)
      have T0 := Lib.hid (HT.out)
      clear HT
      go_wp2_with fail
      refine (CA.out _ T0.out).mono ?_
      rintro q w1 ⟨rfl, hb⟩
      have F1 := Lib.hid (F0.out.call hb)
      have T1 := Lib.hid (T0.out.below hb)
      clear F0 T0
      clear hb
      go_wp2_with fail
      refine (CF.out _).mono ?_
      rintro q w2 ⟨rfl, rfl⟩
      go_wp2_with fail
      refine (CN.out _).mono ?_
      rintro q w2 ⟨rfl, rfl⟩
      go_wp2
      go_ret
      exact ⟨rfl, F1.out.b⟩
    case false =>
      cases g0
      case true =>
        go_enter Tryz.func6, Tryz.ntmps6
        have F0 := Lib.hid (Fz.nil w)
        have T0 := Lib.hid (HT.out)
        clear HT
        go_wp2_with fail
        refine (CA.out _ T0.out).mono ?_
        rintro q w1 ⟨rfl, hb⟩
        have F1 := Lib.hid (F0.out.call hb)
        have T1 := Lib.hid (T0.out.below hb)
        clear F0 T0
        clear hb
        go_wp2_with fail
        refine (CF.out _).mono ?_
        rintro q w2 ⟨rfl, rfl⟩
        go_wp2_with fail
        refine (CN.out _).mono ?_
        rintro q w2 ⟨rfl, rfl⟩
        go_wp2
        go_ret
        exact ⟨rfl, F1.out.b⟩
      case false =>
        cases g1
        case false => simp at hs'
        case true =>
          go_enter Tryz.func6, Tryz.ntmps6
          have F0 := Lib.hid (Fz.nil w)
          have T0 := Lib.hid (HT.out)
          clear HT
          go_wp2_with fail
          refine (CA.out _ T0.out).mono ?_
          rintro q w1 ⟨rfl, hb⟩
          have F1 := Lib.hid (F0.out.call hb)
          have T1 := Lib.hid (T0.out.below hb)
          clear F0 T0
          clear hb
          go_wp2_with fail
          refine (CF.out _).mono ?_
          rintro q w2 ⟨rfl, rfl⟩
          go_wp2_with fail
          refine (CN.out _).mono ?_
          rintro q w2 ⟨rfl, rfl⟩
          go_wp2
          go_ret
          exact ⟨rfl, F1.out.b⟩

set_option maxRecDepth 100000 in
set_option maxHeartbeats 4000000 in
theorem Tiny_go {w : World} (t : Tab w) {x e fr d : Nat} (hx : x < 18446744073709551616) (he : e < 65536) (hf : fr < 18446744073709551616) (neg : Bool) (hal : ∀ w, Tab w → Calls Tryz.prog 8 #[] w fun e w' => e = .returned (.bool true) ∧ Below w.heap.size w w')
    (fx : fld x < 2047) (sx : sgn x = false) (x0 : x ≠ 0) (x1 : x ≠ 4607182418800017408) : Calls Tryz.prog 6 #[.int .u64 (x : Int), .int .u16 (e : Int), .int .u64 (fr : Int), .bool neg, .int .u8 (d : Int)] w fun e w' => e = .returned (.bool true) ∧ Below w.heap.size w w' := by
  have CA := Lib.hid hal
  have CF := Lib.hid (fun w => finite_r hx w)
  rw [decide_eq_true fx] at CF
  have CN := Lib.hid (fun w => neg_r hx w)
  rw [sx] at CN
  have hx2 : x < 9223372036854775808 := by unfold sgn at sx; have := of_decide_eq_false sx; omega
  obtain ⟨y1, y2, y3⟩ := tinyY_is e fr neg
  obtain ⟨z, hz⟩ : ∃ z, z = d % 4 := ⟨_, rfl⟩
  have hz4 : z < 4 := by omega
  obtain ⟨above, hab⟩ : ∃ above, above = (decide (4607182418800017408 < x) != neg) := ⟨_, rfl⟩
  have nx : ¬ (fld x = 0 ∧ frc x = 0) := by
    unfold fld frc
    omega
  have CP := Lib.hid (fun w (t : Tab w) => Pow_small (w := w) (x := x) (y := tinyY e fr neg) (z := (z : Int)) hx2 fx nx x1 y1 (by omega) (by omega) t)
  rw [y3, ← hab, want_is above hz4] at CP
  have HT := Lib.hid t
  have q0 : ((x : Int) == 0) = false := by rw [beq_eq_false_iff_ne]; omega
  have q1 : ((x : Int) == 4607182418800017408) = false := by rw [beq_eq_false_iff_ne]; omega
  have q2 : (x == 0) = false := by rw [beq_eq_false_iff_ne]; omega
  have q3 : (x == 4607182418800017408) = false := by rw [beq_eq_false_iff_ne]; omega
  unfold howV at CP
  clear t hal
  go_enter Tryz.func6, Tryz.ntmps6
  have F0 := Lib.hid (Fz.nil w)
  have T0 := Lib.hid (HT.out)
  clear HT
  go_wp2_with fail
  refine (CA.out _ T0.out).mono ?_
  rintro q w1 ⟨rfl, hb⟩
  have F1 := Lib.hid (F0.out.call hb)
  have T1 := Lib.hid (T0.out.below hb)
  clear F0 T0
  clear hb
  go_wp2_with fail
  refine (CF.out _).mono ?_
  rintro q w2 ⟨rfl, rfl⟩
  go_wp2_with fail
  refine (CN.out _).mono ?_
  rintro q w2 ⟨rfl, rfl⟩
  go_upto_region 6 with (fail)
  have hv : bits .or .u64 ((1 + (e : Int) % 950) * 4503599627370496) (bits .and .u64 (fr : Int) 4503599627370495) = (((1 + e % 950) * 4503599627370496 + fr % 4503599627370496 : Nat) : Int) := by
    have h1 : bits .and .u64 (fr : Int) 4503599627370495 = ((fr % 4503599627370496 : Nat) : Int) := by
      rw [u64_and _ _ (Int.natCast_nonneg _) (by omega) (by decide) (by decide), Int.toNat_natCast]
      congr 1
      exact Nat.and_two_pow_sub_one_eq_mod fr 52
    rw [h1, ← or_low2 (by omega) (Nat.mod_lt _ (by decide))]
    congr 1
  rw [hv]
  clear hv
  obtain ⟨y0, hy0⟩ : ∃ y0, y0 = (1 + e % 950) * 4503599627370496 + fr % 4503599627370496 := ⟨_, rfl⟩
  have hy63 : y0 < 9223372036854775808 := by omega
  have HY : Hid (tinyY e fr neg = y0 + if neg then 9223372036854775808 else 0) := by rw [hy0]; rfl
  rw [← hy0]
  have hor := or_top2 hy63
  obtain ⟨gt, hgt⟩ : ∃ gt, gt = decide (4607182418800017408 < x) := ⟨_, rfl⟩
  have t1 : decide ((4607182418800017408 : Int) < (x : Int)) = gt := by rw [hgt]; by_cases h : 4607182418800017408 < x <;> simp [h] <;> omega
  have t2 : decide (4607182418800017408 < x) = gt := hgt.symm
  have t3 : (d : Int) % 4 = (z : Int) := by omega
  have HAB : Hid (above = (gt != neg)) := hab.trans (by rw [hgt])
  have HZ := Lib.hid hz4
  have ec : IntKind.i64.wrap (z : Int) = (z : Int) := IntWalk.i64_in _ (by omega)
  clear hy0 hab hgt hz q0 q1 q2 q3 CA CF CN y1 y2 y3 hx he hf fx sx x0 x1 hx2 nx hz4
  cases neg
  case false =>
    rw [HY.out] at CP
    simp only [Bool.false_eq_true, if_false, Nat.add_zero] at CP
    go_upto_region 8 with (fail)
    go_wp2_with fail
    refine (CP.out _ T1.out).mono ?_
    rintro q w2 ⟨rfl, hb⟩
    have F2 := Lib.hid (F1.out.call hb)
    have T2 := Lib.hid (T1.out.below hb)
    clear F1 T1
    clear hb
    clear T2
    go_upto_region 9 with (fail)
    have F9 := Lib.hid (F2.out.new 32 #[.int .u64 (wantB above z), .int .u8 1, .int .i64 0])
    obtain ⟨g9, hg9⟩ : ∃ g, g = (World.heap w2).size := ⟨_, rfl⟩
    rw [← hg9] at F9 ⊢
    clear hg9
    simp only [List.nil_append] at F9
    generalize World.alloc w2 _ = W9 at F9 ⊢
    have hab := HAB.out
    have hz4 := HZ.out
    cases gt
    case false =>
      have hab : above = false := hab
      subst hab
      clear HAB HZ HY
      rcases (by omega : z = 0 ∨ z = 1 ∨ z = 2 ∨ z = 3) with rfl | rfl | rfl | rfl
      · have hw : wantB false 0 = 4607182418800017408 := by decide
        rw [hw] at F9
        have c0 := F9.out.c3 0 rfl
        have q1 : ((d : Int) % 4 == 1) = false := by rw [t3]; rfl
        have q2 : ((d : Int) % 4 == 2) = false := by rw [t3]; rfl
        have q3 : ((d : Int) % 4 == 3) = false := by rw [t3]; rfl
        clear hw CP t3 ec hy63 hor hz4 hab
        go_wp2
        go_ret
        exact ⟨rfl, F9.out.b⟩
      · have hw : wantB false 1 = 4607182418800017407 := by decide
        rw [hw] at F9
        have c0 := F9.out.c3 0 rfl
        have q1 : ((d : Int) % 4 == 1) = true := by rw [t3]; rfl
        have q2 : ((d : Int) % 4 == 2) = false := by rw [t3]; rfl
        have q3 : ((d : Int) % 4 == 3) = false := by rw [t3]; rfl
        clear hw CP t3 ec hy63 hor hz4 hab
        go_wp2
        go_ret
        exact ⟨rfl, F9.out.b⟩
      · have hw : wantB false 2 = 4607182418800017408 := by decide
        rw [hw] at F9
        have c0 := F9.out.c3 0 rfl
        have q1 : ((d : Int) % 4 == 1) = false := by rw [t3]; rfl
        have q2 : ((d : Int) % 4 == 2) = true := by rw [t3]; rfl
        have q3 : ((d : Int) % 4 == 3) = false := by rw [t3]; rfl
        clear hw CP t3 ec hy63 hor hz4 hab
        go_wp2
        go_ret
        exact ⟨rfl, F9.out.b⟩
      · have hw : wantB false 3 = 4607182418800017407 := by decide
        rw [hw] at F9
        have c0 := F9.out.c3 0 rfl
        have q1 : ((d : Int) % 4 == 1) = false := by rw [t3]; rfl
        have q2 : ((d : Int) % 4 == 2) = false := by rw [t3]; rfl
        have q3 : ((d : Int) % 4 == 3) = true := by rw [t3]; rfl
        clear hw CP t3 ec hy63 hor hz4 hab
        go_wp2
        go_ret
        exact ⟨rfl, F9.out.b⟩
    case true =>
      have hab : above = true := hab
      subst hab
      clear HAB HZ HY
      rcases (by omega : z = 0 ∨ z = 1 ∨ z = 2 ∨ z = 3) with rfl | rfl | rfl | rfl
      · have hw : wantB true 0 = 4607182418800017408 := by decide
        rw [hw] at F9
        have c0 := F9.out.c3 0 rfl
        have q1 : ((d : Int) % 4 == 1) = false := by rw [t3]; rfl
        have q2 : ((d : Int) % 4 == 2) = false := by rw [t3]; rfl
        have q3 : ((d : Int) % 4 == 3) = false := by rw [t3]; rfl
        clear hw CP t3 ec hy63 hor hz4 hab
        go_wp2
        go_ret
        exact ⟨rfl, F9.out.b⟩
      · have hw : wantB true 1 = 4607182418800017408 := by decide
        rw [hw] at F9
        have c0 := F9.out.c3 0 rfl
        have q1 : ((d : Int) % 4 == 1) = true := by rw [t3]; rfl
        have q2 : ((d : Int) % 4 == 2) = false := by rw [t3]; rfl
        have q3 : ((d : Int) % 4 == 3) = false := by rw [t3]; rfl
        clear hw CP t3 ec hy63 hor hz4 hab
        go_wp2
        go_ret
        exact ⟨rfl, F9.out.b⟩
      · have hw : wantB true 2 = 4607182418800017409 := by decide
        rw [hw] at F9
        have c0 := F9.out.c3 0 rfl
        have q1 : ((d : Int) % 4 == 1) = false := by rw [t3]; rfl
        have q2 : ((d : Int) % 4 == 2) = true := by rw [t3]; rfl
        have q3 : ((d : Int) % 4 == 3) = false := by rw [t3]; rfl
        clear hw CP t3 ec hy63 hor hz4 hab
        go_wp2
        go_ret
        exact ⟨rfl, F9.out.b⟩
      · have hw : wantB true 3 = 4607182418800017408 := by decide
        rw [hw] at F9
        have c0 := F9.out.c3 0 rfl
        have q1 : ((d : Int) % 4 == 1) = false := by rw [t3]; rfl
        have q2 : ((d : Int) % 4 == 2) = false := by rw [t3]; rfl
        have q3 : ((d : Int) % 4 == 3) = true := by rw [t3]; rfl
        clear hw CP t3 ec hy63 hor hz4 hab
        go_wp2
        go_ret
        exact ⟨rfl, F9.out.b⟩
  case true =>
    rw [HY.out] at CP
    simp only [if_true] at CP
    go_upto_region 8 with (fail)
    go_wp2_with fail
    refine (CP.out _ T1.out).mono ?_
    rintro q w2 ⟨rfl, hb⟩
    have F2 := Lib.hid (F1.out.call hb)
    have T2 := Lib.hid (T1.out.below hb)
    clear F1 T1
    clear hb
    clear T2
    go_upto_region 9 with (fail)
    have F9 := Lib.hid (F2.out.new 32 #[.int .u64 (wantB above z), .int .u8 1, .int .i64 0])
    obtain ⟨g9, hg9⟩ : ∃ g, g = (World.heap w2).size := ⟨_, rfl⟩
    rw [← hg9] at F9 ⊢
    clear hg9
    simp only [List.nil_append] at F9
    generalize World.alloc w2 _ = W9 at F9 ⊢
    have hab := HAB.out
    have hz4 := HZ.out
    cases gt
    case false =>
      have hab : above = true := hab
      subst hab
      clear HAB HZ HY
      rcases (by omega : z = 0 ∨ z = 1 ∨ z = 2 ∨ z = 3) with rfl | rfl | rfl | rfl
      · have hw : wantB true 0 = 4607182418800017408 := by decide
        rw [hw] at F9
        have c0 := F9.out.c3 0 rfl
        have q1 : ((d : Int) % 4 == 1) = false := by rw [t3]; rfl
        have q2 : ((d : Int) % 4 == 2) = false := by rw [t3]; rfl
        have q3 : ((d : Int) % 4 == 3) = false := by rw [t3]; rfl
        clear hw CP t3 ec hy63 hor hz4 hab
        go_wp2
        go_ret
        exact ⟨rfl, F9.out.b⟩
      · have hw : wantB true 1 = 4607182418800017408 := by decide
        rw [hw] at F9
        have c0 := F9.out.c3 0 rfl
        have q1 : ((d : Int) % 4 == 1) = true := by rw [t3]; rfl
        have q2 : ((d : Int) % 4 == 2) = false := by rw [t3]; rfl
        have q3 : ((d : Int) % 4 == 3) = false := by rw [t3]; rfl
        clear hw CP t3 ec hy63 hor hz4 hab
        go_wp2
        go_ret
        exact ⟨rfl, F9.out.b⟩
      · have hw : wantB true 2 = 4607182418800017409 := by decide
        rw [hw] at F9
        have c0 := F9.out.c3 0 rfl
        have q1 : ((d : Int) % 4 == 1) = false := by rw [t3]; rfl
        have q2 : ((d : Int) % 4 == 2) = true := by rw [t3]; rfl
        have q3 : ((d : Int) % 4 == 3) = false := by rw [t3]; rfl
        clear hw CP t3 ec hy63 hor hz4 hab
        go_wp2
        go_ret
        exact ⟨rfl, F9.out.b⟩
      · have hw : wantB true 3 = 4607182418800017408 := by decide
        rw [hw] at F9
        have c0 := F9.out.c3 0 rfl
        have q1 : ((d : Int) % 4 == 1) = false := by rw [t3]; rfl
        have q2 : ((d : Int) % 4 == 2) = false := by rw [t3]; rfl
        have q3 : ((d : Int) % 4 == 3) = true := by rw [t3]; rfl
        clear hw CP t3 ec hy63 hor hz4 hab
        go_wp2
        go_ret
        exact ⟨rfl, F9.out.b⟩
    case true =>
      have hab : above = false := hab
      subst hab
      clear HAB HZ HY
      rcases (by omega : z = 0 ∨ z = 1 ∨ z = 2 ∨ z = 3) with rfl | rfl | rfl | rfl
      · have hw : wantB false 0 = 4607182418800017408 := by decide
        rw [hw] at F9
        have c0 := F9.out.c3 0 rfl
        have q1 : ((d : Int) % 4 == 1) = false := by rw [t3]; rfl
        have q2 : ((d : Int) % 4 == 2) = false := by rw [t3]; rfl
        have q3 : ((d : Int) % 4 == 3) = false := by rw [t3]; rfl
        clear hw CP t3 ec hy63 hor hz4 hab
        go_wp2
        go_ret
        exact ⟨rfl, F9.out.b⟩
      · have hw : wantB false 1 = 4607182418800017407 := by decide
        rw [hw] at F9
        have c0 := F9.out.c3 0 rfl
        have q1 : ((d : Int) % 4 == 1) = true := by rw [t3]; rfl
        have q2 : ((d : Int) % 4 == 2) = false := by rw [t3]; rfl
        have q3 : ((d : Int) % 4 == 3) = false := by rw [t3]; rfl
        clear hw CP t3 ec hy63 hor hz4 hab
        go_wp2
        go_ret
        exact ⟨rfl, F9.out.b⟩
      · have hw : wantB false 2 = 4607182418800017408 := by decide
        rw [hw] at F9
        have c0 := F9.out.c3 0 rfl
        have q1 : ((d : Int) % 4 == 1) = false := by rw [t3]; rfl
        have q2 : ((d : Int) % 4 == 2) = true := by rw [t3]; rfl
        have q3 : ((d : Int) % 4 == 3) = false := by rw [t3]; rfl
        clear hw CP t3 ec hy63 hor hz4 hab
        go_wp2
        go_ret
        exact ⟨rfl, F9.out.b⟩
      · have hw : wantB false 3 = 4607182418800017407 := by decide
        rw [hw] at F9
        have c0 := F9.out.c3 0 rfl
        have q1 : ((d : Int) % 4 == 1) = false := by rw [t3]; rfl
        have q2 : ((d : Int) % 4 == 2) = false := by rw [t3]; rfl
        have q3 : ((d : Int) % 4 == 3) = true := by rw [t3]; rfl
        clear hw CP t3 ec hy63 hor hz4 hab
        go_wp2
        go_ret
        exact ⟨rfl, F9.out.b⟩

end Go.Proofs.YtobpioceopfkpaaGreatDoor

/-
  exact: size, Low. Printed by gen_ga.py.
-/
namespace Go.Proofs.YtobpioceopfkpaaGreatDoor
open Go.RowKit

set_option maxRecDepth 100000 in
set_option maxHeartbeats 4000000 in
theorem esize_r (w : World) (n : Int) (h : -9223372036854775808 < n ∧ n < 9223372036854775808) : Calls Tryz.prog 149 #[.int .i64 n] w fun e w' => e = .returned (.int .u64 (n.natAbs : Int)) ∧ Below w.heap.size w w' := by
  obtain ⟨h1, h2⟩ := h
  by_cases h0 : n < 0
  · have z : decide (n < 0) = true := decide_eq_true h0
    have q1 : IntKind.u64.wrap (-(IntKind.u64.wrap n)) = (n.natAbs : Int) := by simp only [IntKind.wrap_u64]; omega
    have q2 : IntKind.u64.wrap (0 - (IntKind.u64.wrap n)) = (n.natAbs : Int) := by simp only [IntKind.wrap_u64]; omega
    go_enter Tryz.func149, Tryz.ntmps149
    go_wp2
    go_ret
    exact ⟨rfl, Below.refl _ _⟩
  · have z : decide (n < 0) = false := decide_eq_false h0
    have q1 : IntKind.u64.wrap n = (n.natAbs : Int) := by rw [IntKind.wrap_u64]; omega
    go_enter Tryz.func149, Tryz.ntmps149
    go_wp2
    go_ret
    exact ⟨rfl, Below.refl _ _⟩

set_option maxRecDepth 100000 in
set_option maxHeartbeats 4000000 in
theorem Low_r (w : World) (M : Int) (k g : Nat) (hM : -9223372036854775808 < M ∧ M < 9223372036854775808) (hk : 0 < k ∧ k < 9223372036854775808) (hg : g = Nat.gcd M.natAbs k) {m1 : Int} {k1 : Nat} (hm1 : M.tdiv (g : Int) = m1) (hk1 : k / g = k1) :
    Calls Tryz.prog 116 #[.agg #[.int .i64 M, .int .i64 (k : Int)]] w fun e w' => e = .returned (.tuple #[.agg #[.int .i64 m1, .int .i64 (k1 : Int)], .int .i64 0]) ∧ Below w.heap.size w w' := by
  have CS := Lib.hid (fun w => esize_r w M hM)
  have HG := Lib.hid hg
  obtain ⟨a, ha⟩ : ∃ a, a = M.natAbs := ⟨_, rfl⟩
  have HA := Lib.hid ha
  have HM := Lib.hid hM
  have g0 : 0 < g := hg ▸ Nat.gcd_pos_of_pos_right _ hk.1
  have gk : g ≤ k := hg ▸ Nat.gcd_le_right _ hk.1
  rw [← ha] at CS
  have q0 : IntKind.u64.wrap (k : Int) = (k : Int) := by rw [IntKind.wrap_u64]; omega
  have z0 : decide ((k : Int) < 1) = false := decide_eq_false (by omega)
  have z1 : decide (k < 1) = false := decide_eq_false (by omega)
  have qg : IntKind.i64.wrap (g : Int) = (g : Int) := IntWalk.i64_in _ (by omega)
  have g1 : ¬ (g : Int) = 0 := by omega
  have g2 : ((g : Int) == 0) = false := by rw [beq_eq_false_iff_ne]; exact g1
  have qm : IntKind.i64.wrap m1 = m1 := by
    have h1 : (M.tdiv (g : Int)).natAbs ≤ M.natAbs := by rw [Int.natAbs_tdiv]; exact Nat.div_le_self _ _
    rw [hm1] at h1
    exact IntWalk.i64_in _ (by omega)
  have hk3 : (k : Int) / (g : Int) = (k1 : Int) := by rw [← hk1]; rfl
  have hk4 : (k : Int).tdiv (g : Int) = (k1 : Int) := by rw [← hk1]; rfl
  have qk : IntKind.i64.wrap (k1 : Int) = (k1 : Int) := by
    have h1 : k1 ≤ k := hk1 ▸ Nat.div_le_self _ _
    exact IntWalk.i64_in _ (by omega)
  have ha2 : a < 9223372036854775808 := by omega
  obtain ⟨hk1, hk2⟩ := hk
  clear ha hg hM hk1
  go_enter Tryz.func116, Tryz.ntmps116
  have F0 := Lib.hid (Fx.two w 133 #[.int .i64 M, .int .i64 (k : Int)] 133 #[.int .i64 0, .int .i64 0] rfl rfl)
  go_upto_region 1 with (fail)
  generalize World.alloc (World.alloc _ _) _ = w0 at F0 ⊢
  have c0_0 := F0.out.c2 0 rfl
  have c1_0 := F0.out.c2 1 rfl
  go_upto_region 3 with (fail)
  clear c0_0 c1_0
  have FCD := Lib.hid (((F0.out.drew).c2 0 rfl).1)
  go_region_held3 (fun w' => (w'.cell? ⟨w.heap.size, 0, none⟩ = some (.int .i64 M) ∧ w'.cell? ⟨w.heap.size, 1, none⟩ = some (.int .i64 (k : Int)))) (first | with_reducible exact FCD.out | with_reducible exact FC.out) (first | (go_at_call 149; (with_reducible refine (CS.out _).mono ?_); rintro q ww1 ⟨rfl, hb⟩; have F1 := Lib.hid ((F0.out.drew).call hb); have FC := Lib.hid ((F1.out.c2 0 rfl).1); have c0_1 := F1.out.c2 0 rfl; have c1_1 := F1.out.c2 1 rfl; clear hb))
  go_wp2
  go_loopw [4, 5] (fun ta tb wr => ∃ (x y : Nat), ta = .int .u64 (x : Int) ∧ tb = .int .u64 (y : Int) ∧ Hid (x < 9223372036854775808 ∧ y < 9223372036854775808 ∧ Nat.gcd x y = g) ∧ Hid (Fx w wr [(w.heap.size, 133, #[.int .i64 M, .int .i64 (k : Int)]), (w.heap.size + 1, 133, #[.int .i64 0, .int .i64 0])])) (fun _ tb _ => (intOf tb).toNat)
  case atStart => exact ⟨a, k, rfl, rfl, ⟨ha2, hk2, by rw [HG.out, HA.out]⟩, F1⟩
  case round =>
    clear F1
    obtain ⟨x, y, rfl, rfl, hI, hF⟩ := hrel
    by_cases hy : y = 0
    · have hx : x = g := by have := hI.out.2.2; rw [hy, Nat.gcd_zero_right] at this; exact this
      have t1 : decide (0 < (y : Int)) = false := decide_eq_false (by omega)
      have t2 : decide (0 < y) = false := decide_eq_false (by omega)
      clear hI
      have c0_1 := hF.out.c2 0 rfl
      have c1_1 := hF.out.c2 1 rfl
      have d0_1 := hF.out.drew.c2 0 rfl
      have d1_1 := hF.out.drew.c2 1 rfl
      rw [hx]
      clear hy hx
      go_wp2_with fail
      go_region
      all_goals
      go_wp2
      have f := (hF.out.s2 1 rfl (.int .i64 m1) (.int .i64 (k1 : Int)) rfl rfl).1.drew
      generalize World.drew (World.setCell (World.setCell _ _ _) _ _) = W at f ⊢
      have g1 := f.c2 1 rfl
      refine bodyPost_ret (v := .tuple #[.agg #[.int .i64 m1, .int .i64 (k1 : Int)], .int .i64 0]) (by simp [results, Tryz.results116, go_sem, g1]) rfl ?_
      exact ⟨rfl, f.b⟩
    · have t1 : decide (0 < (y : Int)) = true := decide_eq_true (by omega)
      have t2 : decide (0 < y) = true := decide_eq_true (by omega)
      have t3 : ¬ (y : Int) = 0 := by omega
      have t4 : ((y : Int) == 0) = false := by rw [beq_eq_false_iff_ne]; exact t3
      obtain ⟨z, hz⟩ : ∃ z, z = x % y := ⟨_, rfl⟩
      have hzy : z < y := hz ▸ Nat.mod_lt _ (by omega)
      have t5 : (x : Int).tmod (y : Int) = (z : Int) := by rw [hz]; rfl
      have t6 : IntKind.u64.wrap (z : Int) = (z : Int) := by have := hI.out.2.1; rw [IntKind.wrap_u64]; omega
      have HI : Hid (y < 9223372036854775808 ∧ z < 9223372036854775808 ∧ Nat.gcd y z = g) := ⟨hI.out.2.1, by have := hI.out.2.1; omega, by
        have h3 := hI.out.2.2
        rw [hz, ← h3, Nat.gcd_comm x y, Nat.gcd_rec y x, Nat.gcd_comm]⟩
      clear hI hy hz
      go_wp2_with fail
      go_quiet (fail)
      go_wp2
      go_roundw
      case rel => exact ⟨y, z, rfl, rfl, HI, hF.out.drewN _⟩
      case measure => simp only [intOf]; omega

end Go.Proofs.YtobpioceopfkpaaGreatDoor

/-
  exact.Of, where it answers. Printed by gen_gb.py.
-/
namespace Go.Proofs.YtobpioceopfkpaaGreatDoor
open Go.RowKit

set_option maxRecDepth 100000 in
set_option maxHeartbeats 4000000 in
theorem Of_long {w : World} {u : Value} {y : Dn} (hu : Cy w u y) (sd : Sd y) (he : -62 ≤ (bareN y).e) (hn : 62 < (bl (bareN y).m : Int) + max (bareN y).e 0) :
    Calls Tryz.prog 115 #[u] w fun e w' => e = .returned (.tuple #[.agg #[.int .i64 0, .int .i64 0], .bool false]) ∧ Below w.heap.size w w' := by
  have CA := Lib.hid (fun w u (h : Cy w u y) => Bare_s h.ry sd)
  have sb := sd.bare
  generalize bareN y = B at *
  obtain ⟨n, m, e⟩ := B
  simp only at he hn sb
  obtain ⟨p, hp⟩ : ∃ p : Nat, max e 0 = (p : Int) := ⟨(max e 0).toNat, by omega⟩
  obtain ⟨l, hl⟩ : ∃ l : Nat, bl m = l := ⟨_, rfl⟩
  obtain ⟨s, hs⟩ : ∃ s : Nat, l + p = s := ⟨_, rfl⟩
  have CB : Hid (∀ w u, Dg w u m → Calls Tryz.prog 36 #[u] w fun e w' => e = .returned (.int .i64 (l : Int)) ∧ Below w.heap.size w w') := fun w u h => by
    have := bits_r (h.rd (by omega)); rw [hl] at this; exact this
  have hw : IntKind.i64.wrap ((l : Int) + (p : Int)) = (s : Int) := by rw [← hs]; exact IntWalk.i64_in _ (by omega)
  have z1 : decide (e < -62) = false := decide_eq_false (by omega)
  have z2 : decide ((62 : Int) < (s : Int)) = true := decide_eq_true (by omega)
  have z3 : decide (62 < s) = true := decide_eq_true (by omega)
  obtain ⟨yn, ym, ye⟩ := y
  obtain ⟨a1, k1, c1, rfl⟩ := hu.fm
  have HX := Lib.hid hu
  clear hu sd sb he hn hl hs
  go_enter Tryz.func115, Tryz.ntmps115
  have F0 := Lib.hid (Fx.two w 42 #[.bool yn, .slice a1 k1 c1, .int .i64 ye] 133 #[.int .i64 0, .int .i64 0] rfl rfl)
  have X0 := Lib.hid ((HX.out.alloc (.cells #[.bool yn, .slice a1 k1 c1, .int .i64 ye] 42)).alloc (.cells #[.int .i64 0, .int .i64 0] 133))
  clear HX
  go_upto_region 1 with (fail)
  generalize World.alloc (World.alloc _ _) _ = w0 at F0 X0 ⊢
  have c0_0 := F0.out.c3 0 rfl
  have c1_0 := F0.out.c2 1 rfl
  go_wp2_with fail
  clear c0_0 c1_0
  refine (CA.out _ _ X0.out).mono ?_
  rintro q w1 ⟨u, rfl, hu, hb⟩
  have F1 := Lib.hid (F0.out.call hb)
  have X1 := Lib.hid (X0.out.below hb)
  clear F0 X0
  have U1 := Lib.hid (hu)
  clear hb
  have c0_1 := F1.out.c3 0 rfl
  have c1_1 := F1.out.c2 1 rfl
  clear X1
  obtain ⟨a3, k3, c3, rfl⟩ := U1.out.fm
  go_upto_region 2 with (fail)
  clear c0_1 c1_1
  obtain ⟨f, p⟩ := F1.out.s3 0 rfl (.bool n) (.slice a3 k3 c3) (.int .i64 e) rfl rfl rfl
  generalize (World.setCell (World.setCell (World.setCell _ _ _) _ _) _ _) = W at f p ⊢
  have F2 := Lib.hid (f)
  have U2 := Lib.hid (U1.out.kp p)
  clear F1 U1
  clear f p
  simp only [List.set_cons_zero] at F2
  have c0_2 := F2.out.c3 0 rfl
  have c1_2 := F2.out.c2 1 rfl
  go_upto_region 4 with (fail)
  clear c0_2 c1_2
  have FCD := Lib.hid (((F2.out.drew).c3 0 rfl).1)
  go_region_held3 (fun w' => (w'.cell? ⟨w.heap.size, 0, none⟩ = some (.bool n) ∧ w'.cell? ⟨w.heap.size, 1, none⟩ = some (.slice a3 k3 c3) ∧ w'.cell? ⟨w.heap.size, 2, none⟩ = some (.int .i64 e))) (first | with_reducible exact FCD.out | with_reducible exact FC.out) (first | (go_at_call 36; (with_reducible refine (CB.out _ _ (U2.out.drew).dm).mono ?_); rintro q ww3 ⟨rfl, hb⟩; have F3 := Lib.hid ((F2.out.drew).call hb); have U3 := Lib.hid ((U2.out.drew).below hb); have FC := Lib.hid ((F3.out.c3 0 rfl).1); have c0_3 := F3.out.c3 0 rfl; have c1_3 := F3.out.c2 1 rfl; clear hb))
  all_goals
    go_wp2
    obtain ⟨f0, p0⟩ := F3.out.s2 1 rfl (.int .i64 0) (.int .i64 0) rfl rfl
    have p := p0
    have f := f0
    clear f0 p0
    generalize (World.setCell (World.setCell _ _ _) _ _) = W at f p ⊢
    have g1 := f.c2 1 rfl
    refine bodyPost_ret (v := .tuple #[.agg #[.int .i64 0, .int .i64 0], .bool false]) (by simp [results, Tryz.results115, go_sem, g1]) rfl ?_
    exact ⟨rfl, f.b⟩

/-- the exponent in whole numbers -/
def ofM (y : Dn) : Int := if y.neg then -((y.m * 2 ^ (max y.e 0).toNat : Nat) : Int) else ((y.m * 2 ^ (max y.e 0).toNat : Nat) : Int)
def ofK (y : Dn) : Nat := 2 ^ (max (-y.e) 0).toNat
theorem wrap_pow {r : Nat} (h : r ≤ 62) : wrap64 ((2 : Int) ^ r) = ((2 ^ r : Nat) : Int) := by
  have h1 : (2 : Nat) ^ r ≤ 2 ^ 62 := Nat.pow_le_pow_right (by decide) h
  have h2 : ((2 : Int) ^ r) = ((2 ^ r : Nat) : Int) := by rw [Int.natCast_pow]; rfl
  rw [h2]
  have h4 : (2 : Nat) ^ 62 = 4611686018427387904 := by decide
  rw [h4] at h1
  generalize 2 ^ r = x at *
  exact IntWalk.wrap64_in (x : Int) (by omega)

set_option maxRecDepth 100000 in
set_option maxHeartbeats 4000000 in
theorem Of_r {w : World} {u : Value} {y : Dn} (hu : Cy w u y) (sd : Sd y) (he : -62 ≤ (bareN y).e) (hn : (bl (bareN y).m : Int) + max (bareN y).e 0 ≤ 62) :
    Calls Tryz.prog 115 #[u] w fun e w' => e = .returned (.tuple #[.agg #[.int .i64 (ofM (bareN y)), .int .i64 (ofK (bareN y) : Nat)], .bool true]) ∧ Below w.heap.size w w' := by
  have CA := Lib.hid (fun w u (h : Cy w u y) => Bare_s h.ry sd)
  have sb := sd.bare
  generalize bareN y = B at *
  obtain ⟨n, m, e⟩ := B
  simp only at he hn sb
  obtain ⟨p, hp⟩ : ∃ p : Nat, max e 0 = (p : Int) := ⟨(max e 0).toNat, by omega⟩
  obtain ⟨l, hl⟩ : ∃ l : Nat, bl m = l := ⟨_, rfl⟩
  obtain ⟨s, hs⟩ : ∃ s : Nat, l + p = s := ⟨_, rfl⟩
  have CB : Hid (∀ w u, Dg w u m → Calls Tryz.prog 36 #[u] w fun e w' => e = .returned (.int .i64 (l : Int)) ∧ Below w.heap.size w w') := fun w u h => by
    have := bits_r (h.rd (by omega)); rw [hl] at this; exact this
  have hw : IntKind.i64.wrap ((l : Int) + (p : Int)) = (s : Int) := by rw [← hs]; exact IntWalk.i64_in _ (by omega)
  have z1 : decide (e < -62) = false := decide_eq_false (by omega)
  have z2 : decide ((62 : Int) < (s : Int)) = false := decide_eq_false (by omega)
  have z3 : decide (62 < s) = false := decide_eq_false (by omega)
  have CL : Hid (∀ w u, Dg w u m → Calls Tryz.prog 125 #[u, .int .i64 (p : Int)] w (RetDgE (m * 2 ^ p) 0 w)) := fun w u h => shl_s (h.rd (by omega)) p (by omega)
  obtain ⟨q, hq⟩ : ∃ q, m * 2 ^ p = q := ⟨_, rfl⟩
  rw [hq] at CL
  have hq2 : bl q ≤ 62 := by
    rw [← hq]
    by_cases h0 : m = 0
    · subst h0; rw [Nat.zero_mul]; exact Nat.zero_le _
    · rw [bl_mul_pow h0]; omega
  have hq3 : q < 4611686018427387904 := Nat.lt_of_lt_of_le (lt_bl q) (Nat.le_trans (Nat.pow_le_pow_right (by decide) hq2) (by decide))
  have CM : Hid (∀ w u, Dg w u q → Calls Tryz.prog 126 #[u] w fun e w' => e = .returned (.tuple #[.int .u64 (q : Int), .bool true]) ∧ Below w.heap.size w w') := fun w u h => by
    have := small_r (h.rd (by omega)); rw [if_pos (by omega), decide_eq_true (by omega)] at this; exact this
  obtain ⟨r, hr⟩ : ∃ r : Nat, max (-e) 0 = (r : Int) := ⟨(max (-e) 0).toNat, by omega⟩
  have hr62 : r ≤ 62 := by omega
  have hk := wrap_pow hr62
  obtain ⟨k, hkk⟩ : ∃ k, 2 ^ r = k := ⟨_, rfl⟩
  rw [hkk] at hk
  have hk2 : wrap64 ((2 : Int) ^ min r 64) = (k : Int) := by rw [Nat.min_eq_left (by omega)]; exact hk
  have en : IntKind.i64.wrap (-e) = -e := IntWalk.i64_in _ (by omega)
  have hmq : IntKind.i64.wrap (q : Int) = (q : Int) := IntWalk.i64_in _ (by omega)
  have hmq2 : IntKind.i64.wrap (-(q : Int)) = -(q : Int) := IntWalk.i64_in _ (by omega)
  have hr3 : ((r : Int).toNat) = r := Int.toNat_natCast r
  have hr4 : ¬ (r : Int) < 0 := by omega
  have e1 : ofM ⟨n, m, e⟩ = if n then -(q : Int) else (q : Int) := by unfold ofM; simp only; rw [hp, Int.toNat_natCast, hq]
  have e2 : ofK ⟨n, m, e⟩ = k := by unfold ofK; simp only; rw [hr, Int.toNat_natCast, hkk]
  rw [e1, e2]
  obtain ⟨yn, ym, ye⟩ := y
  obtain ⟨a1, k1, c1, rfl⟩ := hu.fm
  have HX := Lib.hid hu
  clear hu sd sb he hn hl hs hq hq2 hr62 hkk e1 e2
  go_enter Tryz.func115, Tryz.ntmps115
  have F0 := Lib.hid (Fx.two w 42 #[.bool yn, .slice a1 k1 c1, .int .i64 ye] 133 #[.int .i64 0, .int .i64 0] rfl rfl)
  have X0 := Lib.hid ((HX.out.alloc (.cells #[.bool yn, .slice a1 k1 c1, .int .i64 ye] 42)).alloc (.cells #[.int .i64 0, .int .i64 0] 133))
  clear HX
  go_upto_region 1 with (fail)
  generalize World.alloc (World.alloc _ _) _ = w0 at F0 X0 ⊢
  have c0_0 := F0.out.c3 0 rfl
  have c1_0 := F0.out.c2 1 rfl
  go_wp2_with fail
  clear c0_0 c1_0
  refine (CA.out _ _ X0.out).mono ?_
  rintro q w1 ⟨u, rfl, hu, hb⟩
  have F1 := Lib.hid (F0.out.call hb)
  have X1 := Lib.hid (X0.out.below hb)
  clear F0 X0
  have U1 := Lib.hid (hu)
  clear hb
  have c0_1 := F1.out.c3 0 rfl
  have c1_1 := F1.out.c2 1 rfl
  clear X1
  obtain ⟨a3, k3, c3, rfl⟩ := U1.out.fm
  go_upto_region 2 with (fail)
  clear c0_1 c1_1
  obtain ⟨f, p⟩ := F1.out.s3 0 rfl (.bool n) (.slice a3 k3 c3) (.int .i64 e) rfl rfl rfl
  generalize (World.setCell (World.setCell (World.setCell _ _ _) _ _) _ _) = W at f p ⊢
  have F2 := Lib.hid (f)
  have U2 := Lib.hid (U1.out.kp p)
  clear F1 U1
  clear f p
  simp only [List.set_cons_zero] at F2
  have c0_2 := F2.out.c3 0 rfl
  have c1_2 := F2.out.c2 1 rfl
  go_upto_region 4 with (fail)
  clear c0_2 c1_2
  have FCD := Lib.hid (((F2.out.drew).c3 0 rfl).1)
  go_region_held3 (fun w' => (w'.cell? ⟨w.heap.size, 0, none⟩ = some (.bool n) ∧ w'.cell? ⟨w.heap.size, 1, none⟩ = some (.slice a3 k3 c3) ∧ w'.cell? ⟨w.heap.size, 2, none⟩ = some (.int .i64 e))) (first | with_reducible exact FCD.out | with_reducible exact FC.out) (first | (go_at_call 36; (with_reducible refine (CB.out _ _ (U2.out.drew).dm).mono ?_); rintro q ww3 ⟨rfl, hb⟩; have F3 := Lib.hid ((F2.out.drew).call hb); have U3 := Lib.hid ((U2.out.drew).below hb); have FC := Lib.hid ((F3.out.c3 0 rfl).1); have c0_3 := F3.out.c3 0 rfl; have c1_3 := F3.out.c2 1 rfl; clear hb))
  all_goals
    go_wp2_with fail
    clear c0_3 c1_3
    refine (CL.out _ _ U3.out.dm).mono ?_
    rintro q w4 ⟨u, rfl, hu, hb⟩
    have F4 := Lib.hid (F3.out.call hb)
    have U4 := Lib.hid (U3.out.below hb)
    clear F3 U3
    have V4 := Lib.hid (hu)
    clear hb
    have c0_4 := F4.out.c3 0 rfl
    have c1_4 := F4.out.c2 1 rfl
    obtain ⟨a4, k4, c4, rfl⟩ := V4.out.form
    go_wp2_with fail
    clear c0_4 c1_4
    refine (CM.out _ _ V4.out).mono ?_
    rintro q w5 ⟨rfl, hb⟩
    have F5 := Lib.hid (F4.out.call hb)
    have U5 := Lib.hid (U4.out.below hb)
    have V5 := Lib.hid (V4.out.below hb)
    clear F4 U4 V4
    clear hb
    have c0_5 := F5.out.c3 0 rfl
    have c1_5 := F5.out.c2 1 rfl
    clear U5 V5
    go_upto_region 10 with (fail)
    clear c0_5 c1_5
    have F6 := Lib.hid (F5.out.new 133 #[.int .i64 (q : Int), .int .i64 (k : Int)] rfl)
    clear F5
    obtain ⟨g4, hg4⟩ : ∃ g, g = (World.heap w5).size := ⟨_, rfl⟩
    rw [← hg4] at F6 ⊢
    clear hg4
    simp only [List.nil_append, List.cons_append] at F6
    generalize World.alloc w5 _ = W6 at F6 ⊢
    have c0_6 := F6.out.c3 0 rfl
    have c1_6 := F6.out.c2 1 rfl
    have c2_6 := F6.out.c2 2 rfl
    cases n
    case false =>
      go_wp2
      obtain ⟨f0, p0⟩ := F6.out.s2 1 rfl (.int .i64 (q : Int)) (.int .i64 (k : Int)) rfl rfl
      have p := p0
      have f := f0
      clear f0 p0
      generalize (World.setCell (World.setCell _ _ _) _ _) = W at f p ⊢
      have g1 := f.c2 1 rfl
      refine bodyPost_ret (v := .tuple #[.agg #[.int .i64 (q : Int), .int .i64 (k : Int)], .bool true]) (by simp [results, Tryz.results115, go_sem, g1]) rfl ?_
      exact ⟨rfl, f.b⟩
    case true =>
      go_upto_region 12 with (fail)
      clear c0_6 c1_6 c2_6
      obtain ⟨f, p⟩ := F6.out.s2_0 2 rfl (.int .i64 (-(q : Int))) rfl
      generalize (World.setCell _ _ _) = W at f p ⊢
      have F7 := Lib.hid (f)
      clear F6
      clear f p
      simp only [List.set_cons_zero, List.set_cons_succ] at F7
      have c0_7 := F7.out.c3 0 rfl
      have c1_7 := F7.out.c2 1 rfl
      have c2_7 := F7.out.c2 2 rfl
      go_wp2
      obtain ⟨f0, p0⟩ := F7.out.s2 1 rfl (.int .i64 (-(q : Int))) (.int .i64 (k : Int)) rfl rfl
      have p := p0
      have f := f0
      clear f0 p0
      generalize (World.setCell (World.setCell _ _ _) _ _) = W at f p ⊢
      have g1 := f.c2 1 rfl
      refine bodyPost_ret (v := .tuple #[.agg #[.int .i64 (-(q : Int)), .int .i64 (k : Int)], .bool true]) (by simp [results, Tryz.results115, go_sem, g1]) rfl ?_
      exact ⟨rfl, f.b⟩

end Go.Proofs.YtobpioceopfkpaaGreatDoor
