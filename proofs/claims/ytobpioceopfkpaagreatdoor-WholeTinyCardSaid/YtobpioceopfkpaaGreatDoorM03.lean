/-
  nat: Shr, Shl: what they return.
-/
import Derived.Test.YtobpioceopfkpaaGreatDoorM02
import Derived.StillTailTactics
import Derived.Test.YtobpioceopfkpaaGreatDoorM01
import Derived.RangeFuncNested
import Derived.RangeFuncBound
import Derived.RangeFuncCalls
import Derived.RangeFuncLeaves
import Derived.RangeFuncBox
import Derived.Shelf.Abstract
import Derived.Shelf.RegionOpen
import Derived.OwnWalkIn
import Derived.TacticsInMore
import Derived.LoopNIn
import Derived.LoopIn
import Derived.Deep.DeepCutAuto
import Derived.Deep.CutRange
import Derived.Deep.RegionWith
import Derived.Deep.RegionHeld3
namespace Go.Proofs.YtobpioceopfkpaaGreatDoor
open Go.RowKit

theorem still_of {P : Program} {f : FuncId} {args : Array Value} {w : World} {v : Value} (h : Calls P f args w fun e w' => e = .returned v ∧ w = w') : Calls P f args w fun e w' => e = .returned v ∧ w' = w :=
  h.mono fun _ _ ⟨h1, h2⟩ => ⟨h1, h2.symm⟩

theorem wp_tail {P : Program} {id : Nat} {Q : Exit → Act → World → Prop} {a : Act} {w : World} {l : List Oper} (n : Nat) (hm : P.follows .mixedOrders = true) (hB : Region.lexTailB .any l.toArray n = true)
    (h : ∀ w', Hid (w' = w.drew) → wpStill P l.toArray w' (fun a' => wpList P l.toArray Q (l.drop n) a' w') (l.take n) a) : (Code.region id l.toArray true).wp P Q a w :=
  wp_region_still_tail n hm hB (h _ rfl)
theorem wpStill_fin {P : Program} {ops : Array Oper} {w : World} {Q : Act → Prop} {a : Act} (h : Q a) : wpStill P ops w Q [] a := h

theorem lo_lt {m n : Nat} (h : m ≠ 0) : lo m < n ↔ m % 2 ^ n ≠ 0 := by
  obtain ⟨k, hk⟩ := lo_spec h
  constructor
  · intro hl h0
    obtain ⟨c, hc⟩ := Nat.dvd_of_mod_eq_zero h0
    obtain ⟨d, rfl⟩ : ∃ d, n = lo m + (d + 1) := ⟨n - lo m - 1, by omega⟩
    rw [Nat.pow_add, Nat.mul_assoc] at hc
    have := Nat.eq_of_mul_eq_mul_left (Nat.two_pow_pos (lo m)) (hk.symm.trans hc)
    rw [Nat.pow_succ, Nat.mul_comm (2 ^ d) 2, Nat.mul_assoc] at this
    omega
  · intro h0
    apply Nat.lt_of_not_le; intro hle
    apply h0
    obtain ⟨d, hd⟩ : ∃ d, lo m = n + d := ⟨lo m - n, by omega⟩
    rw [hk, hd, Nat.pow_add, Nat.mul_assoc]
    exact Nat.mul_mod_right _ _

theorem Fill.drew {n : Nat} {w wr : World} {out : Value} {O : List Nat} {k : Nat} (h : Fill n w wr out O k) : Fill n w wr.drew out O k := ⟨h.own, h.digs, h.zero, below_drewN' h.b 1⟩

theorem or_val {x y p r : Nat} (hx : x < 18446744073709551616) (hpr : r + p = 64) : bits .or .u64 ((x : Int) / 2 ^ p) (IntKind.u64.wrap ((y : Int) * 2 ^ r)) = ((x / 2 ^ p + y * 2 ^ r % 18446744073709551616 : Nat) : Int) := by
  have hR : (18446744073709551616 : Nat) = 2 ^ r * 2 ^ p := by rw [← Nat.pow_add, hpr]
  have h1 : x / 2 ^ p < 2 ^ r := Nat.div_lt_of_lt_mul (by rw [Nat.mul_comm, ← hR]; exact hx)
  have h2 : y * 2 ^ r % 18446744073709551616 = 2 ^ r * (y % 2 ^ p) := by rw [hR, Nat.mul_comm y, Nat.mul_mod_mul_left]
  have h3 : y * 2 ^ r % 18446744073709551616 < 18446744073709551616 := Nat.mod_lt _ (Nat.zero_lt_succ _)
  have h4 : x / 2 ^ p ≤ x := Nat.div_le_self _ _
  have e1 : (x : Int) / 2 ^ p = ((x / 2 ^ p : Nat) : Int) := by rw [Int.natCast_ediv]; simp
  have e2 : IntKind.u64.wrap ((y : Int) * 2 ^ r) = ((y * 2 ^ r % 18446744073709551616 : Nat) : Int) := by
    rw [IntKind.wrap_u64, Int.natCast_emod, Int.natCast_mul]; simp
  rw [e1, e2]
  rw [u64_or _ _ (Int.natCast_nonneg _) (by omega) (Int.natCast_nonneg _) (by omega), Int.toNat_natCast, Int.toNat_natCast, h2, Nat.or_comm, or_add h1, Nat.add_comm]

def RetDgB (n : Nat) (b : Bool) (w : World) (e : Ending) (w' : World) : Prop := ∃ u, e = .returned (.tuple #[u, .bool b]) ∧ Dg w' u n ∧ Below w.heap.size w w'

set_option maxRecDepth 100000 in
set_option maxHeartbeats 4000000 in
theorem shr_any {L : List Nat} {v : Value} {w : World} (h : Raw w v L) (hl : L.length ≤ 100000) (n : Nat) (hn : n ≤ 1000000000) :
    Calls Tryz.prog 76 #[v, .int .i64 (n : Int)] w (RetDgB (ofd L / 2 ^ n) (decide (ofd L % 2 ^ n ≠ 0)) w) := by
  have HB := Lib.hid (bare_any h (by omega))
  have LA : Hid (∀ A, Can A (ofd L) → A.length ≤ 100000) := by
    intro A hA
    refine Nat.le_trans ?_ hl
    apply Nat.le_of_not_lt; intro hlt
    have h1 := hA.top (by intro he; subst he; simp at hlt)
    have h3 := pow_mono (show L.length ≤ A.length - 1 by omega)
    exact Nat.lt_irrefl _ (Nat.lt_of_lt_of_le (ofd_lt h.digs) (Nat.le_trans h3 h1))
  clear h
  generalize ofd L = m at *
  have hmx : max (n : Int) 0 = n := by omega
  go_enter Tryz.func76, Tryz.ntmps76
  go_wp2_with fail
  refine HB.out.mono ?_
  rintro e w1 ⟨u, rfl, hu, hb1⟩
  obtain ⟨A, hA, cA⟩ := hu
  have hAl := LA.out A cA
  have HBits := Lib.hid (bits_any hA (by omega))
  rw [cA.val] at HBits
  obtain ⟨a, c, rfl, -⟩ := hA.sl.form
  have HA := Lib.hid hA
  have CA := Lib.hid cA
  have HB1 := Lib.hid hb1
  clear hb1 hA HB LA
  go_wp2_with fail
  refine HBits.out.mono ?_
  rintro e w2 ⟨rfl, hb2⟩
  have HA2 := Lib.hid (HA.out.below hb2)
  have HB2 := Lib.hid (HB1.out.trans (hb2.mono HB1.out.size))
  clear hb2 HA HB1 HBits
  by_cases hnb : bl m ≤ n
  · have h1 : m < 2 ^ n := Nat.lt_of_lt_of_le (lt_bl m) (Nat.pow_le_pow_right (by omega) hnb)
    have hq : Hid (m / 2 ^ n = 0) := Nat.div_eq_of_lt h1
    have hr : Hid (decide (0 < A.length) = decide (m % 2 ^ n ≠ 0)) := by
      rw [Hid, Nat.mod_eq_of_lt h1, Bool.eq_iff_iff, decide_eq_true_iff, decide_eq_true_iff]
      constructor
      · intro hp h0; subst h0; rw [CA.out.zero] at hp; simp at hp
      · exact CA.out.pos
    obtain ⟨rb, hrb⟩ : ∃ rb, rb = decide (0 < A.length) := ⟨_, rfl⟩
    rw [← hrb] at hr
    have g1 : decide ((0 : Int) < (A.length : Int)) = rb := by rw [hrb, Bool.eq_iff_iff, decide_eq_true_iff, decide_eq_true_iff]; omega
    have g2 : decide (0 < A.length) = rb := hrb.symm
    clear h1 hrb
    generalize bl m = b at *
    go_wp2
    go_ret2
    refine ⟨.slice none 0 0, ?_, ?_, HB2.out⟩
    · rw [← hr.out]; rfl
    · rw [hq.out]; exact Dg.nil HA2.out.tab
  · have hm0 : m ≠ 0 := by rintro rfl; rw [bl_zero] at hnb; omega
    have hp := CA.out.pos hm0
    have hbl := CA.out.bits_len hm0
    have hd64 := bl64 (dg_lt CA.out.digs (A.length - 1))
    obtain ⟨q, hq⟩ : ∃ q, q = n / 64 := ⟨_, rfl⟩
    obtain ⟨p, hpp⟩ : ∃ p, p = n % 64 := ⟨_, rfl⟩
    have hn64 : n = 64 * q + p := by omega
    have hp64 : p < 64 := by omega
    have hqA : q < A.length := by omega
    have e1 : ((n : Int) / 64) = q := by omega
    have e2 : ((n : Int) % 64) = p := by omega
    obtain ⟨len, hlen⟩ : ∃ len, len = A.length - q := ⟨_, rfl⟩
    have e3 : (A.length : Int) - q = len := by omega
    have hnb' : n < bl m := by omega
    have hll : len ≤ 100000 := by omega
    have HLO := Lib.hid (lo_lt (n := n) hm0)
    have HEND : Hid (∀ X, X = m / 2 ^ n % 18446744073709551616 ^ len → X = m / 2 ^ n) := by
      intro X hX
      rw [hX]
      apply Nat.mod_eq_of_lt
      have h1 := CA.out.lt
      rw [show A.length = q + len by omega, Nat.pow_add] at h1
      refine Nat.lt_of_le_of_lt (Nat.div_le_div_left (c := 2 ^ (64 * q)) (Nat.pow_le_pow_right (by omega) (by omega)) (Nat.two_pow_pos _)) ?_
      rw [← pow64]
      exact Nat.div_lt_of_lt_mul h1
    have HDIG : Hid (∀ i, m / 2 ^ n / 18446744073709551616 ^ i % 18446744073709551616 = dg A (q + i) / 2 ^ p + dg A (q + i + 1) * 2 ^ (64 - p) % 18446744073709551616) := by
      intro i
      rw [hn64, ← CA.out.val]
      exact shr_digit CA.out.digs (by omega)
    have HLN : Hid (A.length = q + len) := by rw [Hid]; omega
    obtain ⟨r, hr⟩ : ∃ r, r = 64 - p := ⟨_, rfl⟩
    rw [← hr] at HDIG
    have hr64 : r ≤ 64 := by omega
    have hwr : IntKind.i64.wrap (64 - (p : Int)) = (r : Int) := (IntWalk.i64_in _ (by omega)).trans (by omega)
    have HPR : Hid (r + p = 64) := by rw [Hid]; omega
    clear hr
    clear hq hpp hlen hbl hd64 hnb hm0 hn64
    generalize bl m = b at *
    have g0 : (b : Int) ≤ n → False := by omega
    have g1 : decide ((b : Int) ≤ (n : Int)) = false := decide_eq_false (by omega)
    have g2 : decide (b ≤ n) = false := decide_eq_false (by omega)
    clear g0
    go_wp2_with (refine wpList_mk (w0 := w2) rfl (.tmp 29) 40 rfl w2.heap.size 22 (.int .u64 0) 8 Tryz.underlying40 Tryz.info22 rfl (by decide) _ _ len rfl (by have := HLN.out; omega) (by omega) (Below.refl _ _) (Nat.le_refl _) ?_)
    intro w3 ho1 hb1 hB1
    have hS : Hid (Fill len w2 w3 _ (List.replicate len 0) 0 ∧ ofd (List.replicate len 0) = m / 2 ^ n % 18446744073709551616 ^ 0) := ⟨Fill.start ho1 hb1, by rw [ofd_zeros, Nat.pow_zero, Nat.mod_one]⟩
    clear ho1 hb1 hB1
    go_wp2
    go_loopw [33] (fun i wr => ∃ (k : Nat) (O : List Nat), i = .int .i64 k ∧ k ≤ len ∧ Hid (Fill len w2 wr (.slice (some ⟨w2.heap.size, 0, none⟩) len len) O k ∧ ofd O = m / 2 ^ n % 18446744073709551616 ^ k)) (fun i _ => len - (intOf i).toNat)
    case atStart => exact ⟨0, _, rfl, by omega, hS⟩
    case round =>
      obtain ⟨k, O, rfl, hk, hh⟩ := hrel
      by_cases hkl : k < len
      · have hfz := hh.out.1.own.frozenAt k
        have hx : wr.cell? ⟨w2.heap.size, k, none⟩ = some (.int .u64 (dg O k : Nat)) := by
          rw [hh.out.1.own.cellAt k (by omega)]
          exact dvl_get (dg_get (by rw [hh.out.1.len]; exact hkl))
        have HRa := Lib.hid (HA2.out.below hh.out.1.b)
        have x1 := dg_lt CA.out.digs (q + k)
        have x2 := dg_lt CA.out.digs (q + k + 1)
        have C1 : Hid (∀ w' z, z = ((q + k : Nat) : Int) → Raw w' (.slice a A.length c) A → Calls Tryz.prog 108 #[.slice a A.length c, .int .i64 z] w' fun e w'' => e = .returned (.int .u64 (dg A (q + k) : Nat)) ∧ w' = w'') := by
          rintro w' z rfl hw'
          have := limb_any hw' ((q + k : Nat) : Int)
          rwa [lim_nat] at this
        have C2 : Hid (∀ w' z, z = ((q + k + 1 : Nat) : Int) → Raw w' (.slice a A.length c) A → Calls Tryz.prog 108 #[.slice a A.length c, .int .i64 z] w' fun e w'' => e = .returned (.int .u64 (dg A (q + k + 1) : Nat)) ∧ w' = w'') := by
          rintro w' z rfl hw'
          have := limb_any hw' ((q + k + 1 : Nat) : Int)
          rwa [lim_nat] at this
        have HST : Hid (∀ u w', Hid (w' = wr.drew) → u = .int .u64 ((dg A (q + k) / 2 ^ p + dg A (q + k + 1) * 2 ^ r % 18446744073709551616 : Nat) : Int) → ∃ O', Hid (Fill len w2 (w'.setCell ⟨w2.heap.size, k, none⟩ u) (.slice (some ⟨w2.heap.size, 0, none⟩) len len) O' (k + 1) ∧ ofd O' = m / 2 ^ n % 18446744073709551616 ^ (k + 1))) := by
          intro u w' hw' hu
          have hm := hh.out.1.mod hkl hh.out.2
          have hlt : m / 2 ^ n / 18446744073709551616 ^ k % 18446744073709551616 < 18446744073709551616 := Nat.mod_lt _ (Nat.zero_lt_succ _)
          rw [← HDIG.out k] at hu
          rw [hw'.out]
          exact ⟨_, (Fill.drew hh.out.1).step (Nat.le_refl _) _ u hlt hu, hm⟩
        generalize dg A (q + k) = x at *
        generalize dg A (q + k + 1) = y at *
        have hkq : (k : Int) + q ≤ 200000 := by omega
        go_wp2_with fail
        refine wp_tail 16 (by kernel_rfl) (by kernel_rfl) ?_
        intro w4 h4
        have HR4 : Hid (Raw w4 (.slice a A.length c) A) := by rw [h4.out]; exact ⟨HRa.out.tab, HRa.out.sl, HRa.out.digs, HRa.out.cap⟩
        have hx4 : w4.cell? ⟨w2.heap.size, k, none⟩ = some (.int .u64 (dg O k : Nat)) := by rw [h4.out]; exact hx
        have hf4 : w4.frozen? ⟨w2.heap.size, k, none⟩ = false := by rw [h4.out]; exact hfz
        simp only [List.take_succ_cons, List.take_zero, List.drop_succ_cons, List.drop_zero]
        repeat still_step
        still_call (still_of (C1.out _ _ (by omega) HR4.out))
        repeat still_step
        still_call (still_of (C2.out _ _ (by first | omega | (rw [IntWalk.i64_in _ (by omega)]; omega)) HR4.out))
        repeat still_step
        have HV := Lib.hid (or_val (y := y) x1 HPR.out)
        refine wpStill_fin ?_
        go_wp2
        obtain ⟨O', HO⟩ := HST.out _ w4 h4 (congrArg (Value.int .u64) HV.out)
        go_roundw
        case rel => exact ⟨k + 1, O', by go_num, by omega, HO⟩
        case measure => simp [intOf]; omega
      · obtain rfl : k = len := by omega
        have HF := Lib.hid (HEND.out _ hh.out.2)
        have hlow := Lib.hid (fun w' (hw' : Raw w' (.slice a A.length c) A) => low_any hw' (by omega))
        rw [CA.out.val] at hlow
        have hrr : Hid (decide ((lo m : Int) < (n : Int)) = decide (m % 2 ^ n ≠ 0)) := by
          rw [Hid, Bool.eq_iff_iff, decide_eq_true_iff, decide_eq_true_iff, ← HLO.out]; omega
        obtain ⟨rb, hrb⟩ : ∃ rb, rb = decide (m % 2 ^ n ≠ 0) := ⟨_, rfl⟩
        rw [← hrb] at hrr
        have g3 : decide ((lo m : Int) < (n : Int)) = rb := hrr.out
        have g4 : decide (lo m < n) = rb := by rw [← g3, Bool.eq_iff_iff, decide_eq_true_iff, decide_eq_true_iff]; omega
        have HRB := Lib.hid hrb
        clear hrb hrr
        generalize lo m = lm at *
        go_wp2_with fail
        refine (bare_any (hh.out.1.raw HA2.out.tab) (by rw [hh.out.1.len]; omega)).mono ?_
        rintro e w4 ⟨u, rfl, hu, hb3⟩
        have HU : Hid (Dg w4 u (m / 2 ^ n)) := by rw [← HF.out]; exact hu
        have HB4 := Lib.hid (hh.out.1.b.trans (hb3.mono hh.out.1.b.size))
        have HA4 := Lib.hid (HA2.out.below HB4.out)
        clear hu hb3
        go_wp2_with fail
        refine (hlow.out _ HA4.out).mono ?_
        rintro e w5 ⟨rfl, rfl⟩
        go_wp2
        go_ret2
        refine ⟨u, ?_, HU.out, HB2.out.trans (HB4.out.mono HB2.out.size)⟩
        rw [← HRB.out]; rfl

end Go.Proofs.YtobpioceopfkpaaGreatDoor

/-
  What stays where a call writes boxes of its own; a frame's boxes.
-/
namespace Go.Proofs.YtobpioceopfkpaaGreatDoor
open Go.RowKit

/-- limbs and the table stay -/
def Kp (w w' : World) : Prop := ∀ b o k z, (k = .u8 ∨ k = .u64) → w.cell? ⟨b, o, none⟩ = some (.int k z) → w'.cell? ⟨b, o, none⟩ = some (.int k z)
theorem Kp.refl (w : World) : Kp w w := fun _ _ _ _ _ h => h
theorem Kp.trans {a b c : World} (h : Kp a b) (k : Kp b c) : Kp a c := fun p o q z hq hc => k p o q z hq (h p o q z hq hc)
theorem Kp.below {w w' : World} (hb : Below w.heap.size w w') : Kp w w' := fun _ _ _ _ _ hc => cell_below hb (Nat.le_refl _) hc
theorem Kp.alloc (w : World) (o : Obj) : Kp w (w.alloc o) := fun _ _ _ _ _ hc => (World.cell?_alloc_lt w o _ (cell_lt hc)).trans hc
theorem Kp.drewN (w : World) (n : Nat) : Kp w (w.drewN n) := fun _ _ _ _ _ hc => hc
theorem Kp.drew (w : World) : Kp w w.drew := fun _ _ _ _ _ hc => hc

theorem Tab.kp {w w' : World} (h : Tab w) (K : Kp w w') : Tab w' := fun j hj => K _ _ _ _ (.inl rfl) (h j hj)
theorem Raw.kp {w w' : World} {v : Value} {L : List Nat} (h : Raw w v L) (K : Kp w w') : Raw w' v L := by
  refine ⟨h.tab.kp K, ?_, h.digs, h.cap⟩
  obtain ⟨a, c, rfl, hc⟩ := h.sl
  refine ⟨a, c, rfl, fun hl => ?_⟩
  obtain ⟨b, off, rfl, hc2⟩ := hc hl
  refine ⟨b, off, rfl, fun i y hy => ?_⟩
  have h1 := hc2 i y hy
  rw [dvl, List.getElem?_map] at hy
  obtain ⟨d, _, rfl⟩ := Option.map_eq_some_iff.1 hy
  exact K _ _ _ _ (.inr rfl) h1
theorem Dg.kp {w w' : World} {v : Value} {n : Nat} (h : Dg w v n) (K : Kp w w') : Dg w' v n := by
  obtain ⟨L, h1, h2⟩ := h; exact ⟨L, h1.kp K, h2⟩

/-- no limb -/
def Nl (u : Value) : Prop := ∀ z, u ≠ .int .u8 z ∧ u ≠ .int .u64 z
theorem Nl.bool (b : Bool) : Nl (.bool b) := fun _ => ⟨nofun, nofun⟩
theorem Nl.i64 (z : Int) : Nl (.int .i64 z) := fun _ => ⟨nofun, nofun⟩
theorem Nl.sl (a : Option Addr) (n c : Nat) : Nl (.slice a n c) := fun _ => ⟨nofun, nofun⟩
theorem Raw.nl {w : World} {v : Value} {L : List Nat} (h : Raw w v L) : Nl v := by
  obtain ⟨a, c, rfl, _⟩ := h.sl
  exact Nl.sl _ _ _
theorem Dg.nl {w : World} {v : Value} {n : Nat} (h : Dg w v n) : Nl v := by
  obtain ⟨L, h1, _⟩ := h; exact h1.nl
theorem Kp.set {w : World} {g i : Nat} {t : TypeId} {cs : Array Value} {x : Value} (h : Blk w g t cs) (hx : cs[i]? = some x) (hn : Nl x) (u : Value) : Kp w (w.setCell ⟨g, i, none⟩ u) := by
  intro b o k z hk hc
  rw [World.cell?_setCell_other]
  · exact hc
  · intro he
    injection he with e1 e2
    subst e1 e2
    have := h.at i x hx
    rw [hc] at this
    have hz := Option.some.inj this
    rcases hk with rfl | rfl
    · exact (hn z).1 hz.symm
    · exact (hn z).2 hz.symm

/-- A frame's boxes: one behind the other. -/
structure Fr (w0 w : World) (bs : List (TypeId × Array Value)) : Prop where
  b : Below w0.heap.size w0 w
  box : ∀ i t cs, bs[i]? = some (t, cs) → Blk w (w0.heap.size + i) t cs
  sz : w0.heap.size + bs.length ≤ w.heap.size
theorem Fr.nil (w : World) : Fr w w [] := ⟨Below.refl _ _, fun i t cs h => by simp at h, Nat.le_refl _⟩
theorem Fr.fresh {w0 w : World} {bs : List (TypeId × Array Value)} (h : Fr w0 w bs) (hs : w.heap.size = w0.heap.size + bs.length) (t : TypeId) (cs : Array Value) :
    Fr w0 (w.alloc (.cells cs t)) (bs ++ [(t, cs)]) ∧ (w.alloc (.cells cs t)).heap.size = w0.heap.size + (bs ++ [(t, cs)]).length := by
  have h2 : (w.alloc (.cells cs t)).heap.size = w0.heap.size + (bs ++ [(t, cs)]).length := by simp [hs]; omega
  refine ⟨⟨h.b.alloc h.b.size _, ?_, by rw [h2]; exact Nat.le_refl _⟩, h2⟩
  intro i t' cs' hi
  by_cases hl : i < bs.length
  · rw [List.getElem?_append_left hl] at hi
    exact (h.box i t' cs' hi).alloc _
  · rw [List.getElem?_append_right (by omega)] at hi
    obtain rfl : i = bs.length := by
      have := (List.getElem?_eq_some_iff.1 hi).1
      simp at this; omega
    simp at hi
    obtain ⟨rfl, rfl⟩ := hi
    rw [← hs]
    exact Blk.new w _ _
theorem Fr.one (w : World) (t : TypeId) (cs : Array Value) : Fr w (w.alloc (.cells cs t)) [(t, cs)] := ((Fr.nil w).fresh rfl t cs).1
theorem Fr.two (w : World) (t : TypeId) (cs : Array Value) (t' : TypeId) (cs' : Array Value) : Fr w ((w.alloc (.cells cs t)).alloc (.cells cs' t')) [(t, cs), (t', cs')] := by
  obtain ⟨a, b⟩ := (Fr.nil w).fresh rfl t cs
  exact (a.fresh b t' cs').1
theorem Fr.three (w : World) (t : TypeId) (cs : Array Value) (t' : TypeId) (cs' : Array Value) (t'' : TypeId) (cs'' : Array Value) : Fr w (((w.alloc (.cells cs t)).alloc (.cells cs' t')).alloc (.cells cs'' t'')) [(t, cs), (t', cs'), (t'', cs'')] := by
  obtain ⟨a, b⟩ := (Fr.nil w).fresh rfl t cs
  obtain ⟨c, d⟩ := a.fresh b t' cs'
  exact (c.fresh d t'' cs'').1
theorem Fr.call {w0 w w' : World} {bs : List (TypeId × Array Value)} (h : Fr w0 w bs) (hb : Below w.heap.size w w') : Fr w0 w' bs :=
  ⟨h.b.trans (hb.mono h.b.size), fun i t cs hi => (h.box i t cs hi).below hb, Nat.le_trans h.sz hb.size⟩
theorem Fr.alloc {w0 w : World} {bs : List (TypeId × Array Value)} (h : Fr w0 w bs) (o : Obj) : Fr w0 (w.alloc o) bs :=
  ⟨h.b.alloc h.b.size _, fun i t cs hi => (h.box i t cs hi).alloc _, by have := h.sz; simp; omega⟩
theorem Fr.drewN {w0 w : World} {bs : List (TypeId × Array Value)} (h : Fr w0 w bs) (n : Nat) : Fr w0 (w.drewN n) bs := ⟨below_drewN' h.b n, h.box, h.sz⟩
theorem Fr.drew {w0 w : World} {bs : List (TypeId × Array Value)} (h : Fr w0 w bs) : Fr w0 w.drew bs := h.drewN 1
theorem Fr.drewE {w0 w w' : World} {bs : List (TypeId × Array Value)} (h : Fr w0 w bs) (e : w' = w.drew) : Fr w0 w' bs := e ▸ h.drew
theorem Kp.drewE {w w' : World} (e : w' = w.drew) : Kp w w' := e ▸ Kp.drew w
theorem Fr.set {w0 w : World} {bs : List (TypeId × Array Value)} (h : Fr w0 w bs) (i j : Nat) {t : TypeId} {cs : Array Value} (hi : bs[i]? = some (t, cs)) (u : Value) :
    Fr w0 (w.setCell ⟨w0.heap.size + i, j, none⟩ u) (bs.set i (t, cs.setIfInBounds j u)) := by
  refine ⟨h.b.setCell (Nat.le_add_right _ _) _, ?_, by simpa using h.sz⟩
  intro k t' cs' hk
  by_cases hik : k = i
  · subst hik
    rw [List.getElem?_set_self (List.getElem?_eq_some_iff.1 hi).1] at hk
    simp at hk
    obtain ⟨rfl, rfl⟩ := hk
    exact (h.box k t cs hi).set j u
  · rw [List.getElem?_set_ne (Ne.symm hik)] at hk
    exact (h.box k t' cs' hk).far (by simp; omega) u
/-- a struct of three fields is stored -/
theorem Fr.set3 {w0 w : World} {bs : List (TypeId × Array Value)} (h : Fr w0 w bs) (i : Nat) {t : TypeId} {x y z : Value} (hi : bs[i]? = some (t, #[x, y, z])) (hn : Nl x ∧ Nl y ∧ Nl z) (a b c : Value) :
    Fr w0 (((w.setCell ⟨w0.heap.size + i, 0, none⟩ a).setCell ⟨w0.heap.size + i, 1, none⟩ b).setCell ⟨w0.heap.size + i, 2, none⟩ c) (bs.set i (t, #[a, b, c])) ∧
    Kp w (((w.setCell ⟨w0.heap.size + i, 0, none⟩ a).setCell ⟨w0.heap.size + i, 1, none⟩ b).setCell ⟨w0.heap.size + i, 2, none⟩ c) := by
  have hl := (List.getElem?_eq_some_iff.1 hi).1
  have h1 := h.set i 0 hi a
  have h2 := h1.set i 1 (by rw [List.getElem?_set_self hl]) b
  have h3 := h2.set i 2 (by rw [List.getElem?_set_self (by simpa using hl)]) c
  rw [List.set_set, List.set_set] at h3
  refine ⟨h3, ((Kp.set (i := 0) (x := x) (h.box i _ _ hi) rfl hn.1 a).trans ?_)⟩
  have k1 := h1.box i _ _ (by rw [List.getElem?_set_self hl])
  have k2 := h2.box i _ _ (by rw [List.getElem?_set_self (by simpa using hl)])
  exact (Kp.set (i := 1) (x := y) k1 rfl hn.2.1 b).trans (Kp.set (i := 2) (x := z) k2 rfl hn.2.2 c)
/-- a number's parts are stored -/
theorem Fr.st {w0 w : World} {bs : List (TypeId × Array Value)} (h : Fr w0 w bs) (i : Nat) {t : TypeId} {x : Bool} {ya : Option Addr} {yn yc : Nat} {z : Int} (hi : bs[i]? = some (t, #[.bool x, .slice ya yn yc, .int .i64 z])) (a b c : Value) :
    Fr w0 (((w.setCell ⟨w0.heap.size + i, 0, none⟩ a).setCell ⟨w0.heap.size + i, 1, none⟩ b).setCell ⟨w0.heap.size + i, 2, none⟩ c) (bs.set i (t, #[a, b, c])) ∧
    Kp w (((w.setCell ⟨w0.heap.size + i, 0, none⟩ a).setCell ⟨w0.heap.size + i, 1, none⟩ b).setCell ⟨w0.heap.size + i, 2, none⟩ c) := h.set3 i hi ⟨Nl.bool _, Nl.sl _ _ _, Nl.i64 _⟩ a b c
/-- the same, behind a call -/
theorem Fr.sc {w0 w w' : World} {bs : List (TypeId × Array Value)} {i : Nat} {a b c : Value} (h : Fr w0 w bs) {t : TypeId} {x : Bool} {ya : Option Addr} {yn yc : Nat} {z : Int} (hi : bs[i]? = some (t, #[.bool x, .slice ya yn yc, .int .i64 z]))
    (hb : Below (((w.setCell ⟨w0.heap.size + i, 0, none⟩ a).setCell ⟨w0.heap.size + i, 1, none⟩ b).setCell ⟨w0.heap.size + i, 2, none⟩ c).heap.size (((w.setCell ⟨w0.heap.size + i, 0, none⟩ a).setCell ⟨w0.heap.size + i, 1, none⟩ b).setCell ⟨w0.heap.size + i, 2, none⟩ c) w') :
    Fr w0 w' (bs.set i (t, #[a, b, c])) ∧ Kp w w' := by
  obtain ⟨h1, h2⟩ := h.st i hi a b c
  exact ⟨h1.call hb, h2.trans (Kp.below hb)⟩
theorem Fr.c3 {w0 w : World} {bs : List (TypeId × Array Value)} (h : Fr w0 w bs) (i : Nat) {t : TypeId} {x y z : Value} (hi : bs[i]? = some (t, #[x, y, z])) :
    (w.cell? ⟨w0.heap.size + i, 0, none⟩ = some x ∧ w.cell? ⟨w0.heap.size + i, 1, none⟩ = some y ∧ w.cell? ⟨w0.heap.size + i, 2, none⟩ = some z) ∧
    w.frozen? ⟨w0.heap.size + i, 0, none⟩ = false ∧ w.frozen? ⟨w0.heap.size + i, 1, none⟩ = false ∧ w.frozen? ⟨w0.heap.size + i, 2, none⟩ = false := by
  have k := h.box i _ _ hi
  exact ⟨⟨k.at 0 x rfl, k.at 1 y rfl, k.at 2 z rfl⟩, k.frozen 0, k.frozen 1, k.frozen 2⟩
theorem Fr.z3 {w0 w : World} {bs : List (TypeId × Array Value)} (h : Fr w0 w bs) {t : TypeId} {x y z : Value} (hi : bs[0]? = some (t, #[x, y, z])) :
    (w.cell? ⟨w0.heap.size, 0, none⟩ = some x ∧ w.cell? ⟨w0.heap.size, 1, none⟩ = some y ∧ w.cell? ⟨w0.heap.size, 2, none⟩ = some z) ∧
    w.frozen? ⟨w0.heap.size, 0, none⟩ = false ∧ w.frozen? ⟨w0.heap.size, 1, none⟩ = false ∧ w.frozen? ⟨w0.heap.size, 2, none⟩ = false := h.c3 0 hi

end Go.Proofs.YtobpioceopfkpaaGreatDoor

/-
  nat: Cmp, over slices.Backward: what it returns.
-/
namespace Go.Proofs.YtobpioceopfkpaaGreatDoor
open Go.RowKit Go.Shelf
attribute [local go_sem] Oper.semAt_some

/-- what has come behind k rounds, from the top down -/
def dn (N k : Nat) : List { i : Nat // i < N } := if h : 0 < N then (List.range k).map fun j => ⟨N - 1 - j, by omega⟩ else []
theorem dn_succ {N k : Nat} (h : 0 < N) : dn N (k + 1) = dn N k ++ [⟨N - 1 - k, by omega⟩] := by unfold dn; rw [dif_pos h, dif_pos h, List.range_succ, List.map_append]; rfl
theorem dn_length {N k : Nat} (h : 0 < N) : (dn N k).length = k := by unfold dn; rw [dif_pos h]; simp
theorem dn_zero (N : Nat) : dn N 0 = [] := by unfold dn; split <;> rfl
theorem dn_mem {N k : Nat} (h : 0 < N) {i : Nat} (hi : i < N) (hk : N ≤ i + k) : (⟨i, hi⟩ : { i : Nat // i < N }) ∈ dn N k := by
  unfold dn; rw [dif_pos h]
  exact List.mem_map.2 ⟨N - 1 - i, List.mem_range.2 (by omega), by congr 1; omega⟩

abbrev encI (L : List Nat) (x : { i : Nat // i < L.length }) : Array Value := #[.int .i64 ((x.1 : Nat) : Int), .int .u64 ((dg L x.1 : Nat) : Int)]

set_option maxRecDepth 100000 in
set_option maxHeartbeats 2000000 in
theorem back1_in (F : Fence) (n : Nat) (hf : F.fn 146) (hro : F.round = none) (hn : 1 ≤ n) (l Bs n₀ b off cap : Nat) (L : List Nat) (hL0 : 0 < L.length) (hreach : L.length ≤ 1000000) (hb : b < n₀) (J Jx : List { i : Nat // i < L.length } → World → Prop)
    (hY : ∀ pre x W, J pre W → pre.length < L.length → YieldAt F (n - 1) Tryz.prog l (encI L x) W fun e W' =>
      (e = .returned (.bool true) ∧ J (pre ++ [x]) W' ∧ Below n₀ W W') ∨ (e = .returned (.bool false) ∧ Jx (pre ++ [x]) W'))
    (W : World) (hBn : Bs < n₀) (hBs : W.cell? ⟨Bs, 0, none⟩ = some (.slice (some ⟨b, off, none⟩) L.length cap)) (hc : ∀ (j x : Nat), L[j]? = some x → W.cell? ⟨b, off + j, none⟩ = some (.int .u64 (x : Int))) (h0 : J [] W) :
    CallsIn F n Tryz.prog 146 #[.func (.yield l) #[] #[], .pointer (some ⟨Bs, 0, none⟩)] W fun e W' => (∃ v, e = .returned v) ∧
      ((∃ ys, ys = dn L.length L.length ∧ J ys W') ∨ (∃ pre, (∃ k, k ≤ L.length ∧ pre = dn L.length k) ∧ Jx pre W')) := by
  refine callsIn_of_wp Tryz.func146 rfl hf ?_ hro
  simp only [Tryz.ntmps146, List.size_toArray, List.length_cons, List.length_nil, Nat.reduceAdd, Nat.reduceSub, Array.replicate_succ, Array.replicate_zero, List.push_toArray, List.append_toArray, List.nil_append, List.cons_append]
  gi_wp2
  gi_loopw [3] (fun i wr => ∃ k : Nat, k ≤ L.length ∧ i = .int .i64 ((L.length : Int) - 1 - k) ∧ J (dn L.length k) wr ∧ Below n₀ W wr)
    (fun i _ => (intOf i + 1).toNat)
  case atStart => exact ⟨0, Nat.zero_le _, by simp, by rw [dn_zero]; exact h0, Below.refl _ _⟩
  case round =>
    obtain ⟨k, hk, rfl, hJs, hnx⟩ := hrel
    by_cases hlt : k < L.length
    · obtain ⟨j, hj⟩ : ∃ j, j = L.length - 1 - k := ⟨_, rfl⟩
      have hji : (L.length : Int) - 1 - k = j := by omega
      rw [hji]
      have hjl : j < L.length := by omega
      have hcx : wr.cell? ⟨b, off + j, none⟩ = some (.int .u64 (dg L j : Nat)) := (hnx.cell (p := ⟨b, off + j, none⟩) hb).trans (hc j _ (dg_get (by omega)))
      have hbx : wr.cell? ⟨Bs, 0, none⟩ = some (.slice (some ⟨b, off, none⟩) L.length cap) := (hnx.cell (p := ⟨Bs, 0, none⟩) hBn).trans hBs
      obtain ⟨fn, tmps, assign, body, hy, hR⟩ := hY _ ⟨j, hjl⟩ wr hJs (by rw [dn_length hL0]; exact hlt)
      (try dsimp only [encI] at hy)
      have HS : Hid (dn L.length (k + 1) = dn L.length k ++ [⟨j, hjl⟩]) := by
        have := dn_succ (k := k) hL0
        rw [Hid, this]
        congr 3
        exact hj.symm
      clear hj
      gi_wp2
      refine hR.mono ?_
      rintro e W3 (⟨rfl, hJ3, hk3⟩ | ⟨rfl, hJx3⟩)
      · gi_wp2
        go_roundw
        case rel => exact ⟨k + 1, by omega, by first | rfl | (congr 1 <;> omega) | skip, HS.out ▸ hJ3, hnx.trans hk3⟩
        case measure => simp [intOf] <;> omega
      · gi_wp2
        refine bodyPost_ret (results_none rfl _ _ _) rfl ?_
        exact ⟨⟨_, rfl⟩, .inr ⟨_, ⟨k + 1, by omega, HS.out.symm⟩, hJx3⟩⟩
    · obtain rfl : k = L.length := by omega
      rw [show (L.length : Int) - 1 - L.length = -1 by omega]
      gi_wp2
      go_end0
      exact ⟨⟨_, rfl⟩, .inl ⟨_, rfl, hJs⟩⟩

set_option maxRecDepth 100000 in
set_option maxHeartbeats 1000000 in
theorem back0_in (F : Fence) (n : Nat) (hf : F.fn 146) (hro : F.round = none) (l Bs cap : Nat) (a : Option Addr) (J : List { i : Nat // i < ([] : List Nat).length } → World → Prop)
    (W : World) (hBs : W.cell? ⟨Bs, 0, none⟩ = some (.slice a 0 cap)) (h0 : J [] W) :
    CallsIn F n Tryz.prog 146 #[.func (.yield l) #[] #[], .pointer (some ⟨Bs, 0, none⟩)] W fun e W' => (∃ v, e = .returned v) ∧ J [] W' := by
  refine callsIn_of_wp Tryz.func146 rfl hf ?_ hro
  simp only [Tryz.ntmps146, List.size_toArray, List.length_cons, List.length_nil, Nat.reduceAdd, Nat.reduceSub, Array.replicate_succ, Array.replicate_zero, List.push_toArray, List.append_toArray, List.nil_append, List.cons_append]
  gi_wp2
  gi_loopw [3] (fun i wr => i = .int .i64 (-1) ∧ J [] wr) (fun _ _ => 0)
  case atStart => exact ⟨rfl, h0⟩
  case round =>
    obtain ⟨rfl, hJs⟩ := hrel
    gi_wp2
    go_end0
    exact ⟨⟨_, rfl⟩, hJs⟩

/-- slices.Backward hands back a value that tells the places from the top down -/
theorem back_stops (F : Fence) (n : Nat) (hf : F.fn 146) (hro : F.round = none) (hn : 1 ≤ n) (Bs n₀ cap : Nat) (a : Option Addr) (L : List Nat) (hreach : L.length ≤ 1000000) (w : World) (hBs : Bs < n₀) (hn₀ : n₀ ≤ w.heap.size)
    (hc : w.cell? ⟨Bs, 0, none⟩ = some (.slice a L.length cap)) (hd : 0 < L.length → ∃ b off, a = some ⟨b, off, none⟩ ∧ ∀ (j x : Nat), L[j]? = some x → w.cell? ⟨b, off + j, none⟩ = some (.int .u64 (x : Int))) :
    SeqStopsK F n Tryz.prog 146 #[.pointer (some ⟨Bs, 0, none⟩)] (encI L) (Below w.heap.size) (fun ys => ys = dn L.length L.length) (fun pre => ∃ k, k ≤ L.length ∧ pre = dn L.length k) L.length w := fun l J Jx W hW _ _ hY h0 => by
  rcases Nat.eq_zero_or_pos L.length with hz | hp
  · obtain rfl : L = [] := List.eq_nil_of_length_eq_zero hz
    refine (back0_in F n hf hro l Bs cap a J W ((hW.cell (p := ⟨Bs, 0, none⟩) (Nat.lt_of_lt_of_le hBs hn₀)).trans hc) h0).mono ?_
    rintro e W' ⟨h1, h2⟩
    exact ⟨h1, .inl ⟨_, rfl, h2⟩⟩
  · obtain ⟨b, off, rfl, hd2⟩ := hd hp
    have hbl : b < w.heap.size := cell_lt (hd2 0 _ (dg_get hp))
    exact back1_in F n hf hro hn l Bs w.heap.size b off cap L hp hreach hbl J Jx hY W (Nat.lt_of_lt_of_le hBs hn₀) ((hW.cell (p := ⟨Bs, 0, none⟩) (Nat.lt_of_lt_of_le hBs hn₀)).trans hc) (fun j x hx => (hW.cell (p := ⟨b, off + j, none⟩) (cell_lt (hd2 j x hx))).trans (hd2 j x hx)) h0

set_option maxHeartbeats 1000000 in
theorem backward_any (a : Option Addr) (len cap : Nat) (w : World) :
    Calls Tryz.prog 111 #[.slice a len cap] w fun e w' => e = .returned (.func (.func 146) #[] #[.pointer (some ⟨w.heap.size, 0, none⟩)]) ∧ w' = w.alloc (.cells #[.slice a len cap] 40) := by
  go_enter Tryz.func111, Tryz.ntmps111
  go_wp2
  go_ret
  exact ⟨rfl, rfl⟩

theorem Dg.form {w : World} {v : Value} {n : Nat} (h : Dg w v n) : ∃ a k c, v = .slice a k c := by
  obtain ⟨L, h1, _⟩ := h
  obtain ⟨a, c, rfl, _⟩ := h1.sl
  exact ⟨_, _, _, rfl⟩

theorem Raw.drew {w : World} {v : Value} {L : List Nat} (h : Raw w v L) : Raw w.drew v L := ⟨h.tab, h.sl, h.digs, h.cap⟩
theorem Dg.drew {w : World} {v : Value} {n : Nat} (h : Dg w v n) : Dg w.drew v n := by obtain ⟨L, h1, h2⟩ := h; exact ⟨L, h1.drew, h2⟩

theorem Can.len_le {A L : List Nat} (h : Can A (ofd L)) (d : Digs L) : A.length ≤ L.length := by
  apply Nat.le_of_not_lt; intro hlt
  have h1 := h.top (by intro he; subst he; simp at hlt)
  have h2 := ofd_lt d
  have h3 := pow_mono (show L.length ≤ A.length - 1 by omega)
  exact Nat.lt_irrefl _ (Nat.lt_of_lt_of_le h2 (Nat.le_trans h3 h1))

/-- Cmp's memory -/
structure CmpM (x y : Value) (w wr : World) : Prop where
  x : Blk wr w.heap.size 40 #[x]
  y : Blk wr (w.heap.size + 1) 40 #[y]
  r : Blk wr (w.heap.size + 2) 3 #[.int .i64 0]
  b : Below w.heap.size w wr
theorem CmpM.below {x y : Value} {w wr w' : World} (h : CmpM x y w wr) (hb : Below wr.heap.size wr w') : CmpM x y w w' := ⟨h.x.below hb, h.y.below hb, h.r.below hb, h.b.trans (hb.mono h.b.size)⟩
theorem CmpM.alloc {x y : Value} {w wr : World} (h : CmpM x y w wr) (o : Obj) : CmpM x y w (wr.alloc o) := ⟨h.x.alloc o, h.y.alloc o, h.r.alloc o, h.b.alloc h.b.size o⟩
theorem CmpM.drew {x y : Value} {w wr : World} (h : CmpM x y w wr) : CmpM x y w wr.drew := ⟨h.x, h.y, h.r, below_drewN' h.b 1⟩
theorem CmpM.start (x y : Value) (w : World) : CmpM x y w (((w.alloc (.cells #[x] 40)).alloc (.cells #[y] 40)).alloc (.cells #[.int .i64 0] 3)) := by
  refine ⟨((Blk.new w 40 _).alloc _).alloc _, ?_, ?_, (((Below.refl _ _).alloc (Nat.le_refl _) _).alloc (by simp) _).alloc (by simp; omega) _⟩
  · have := Blk.new (w.alloc (.cells #[x] 40)) 40 #[y]
    rw [show (w.alloc (.cells #[x] 40)).heap.size = w.heap.size + 1 by simp] at this
    exact this.alloc _
  · have := Blk.new ((w.alloc (.cells #[x] 40)).alloc (.cells #[y] 40)) 3 #[.int .i64 0]
    rwa [show ((w.alloc (.cells #[x] 40)).alloc (.cells #[y] 40)).heap.size = w.heap.size + 2 by simp] at this
theorem CmpM.cells {x y : Value} {w wr : World} (h : CmpM x y w wr) : wr.cell? ⟨w.heap.size, 0, none⟩ = some x ∧ wr.cell? ⟨w.heap.size + 1, 0, none⟩ = some y ∧ wr.cell? ⟨w.heap.size + 2, 0, none⟩ = some (.int .i64 0) ∧
    wr.frozen? ⟨w.heap.size, 0, none⟩ = false ∧ wr.frozen? ⟨w.heap.size + 1, 0, none⟩ = false ∧ wr.frozen? ⟨w.heap.size + 2, 0, none⟩ = false :=
  ⟨h.x.at 0 x rfl, h.y.at 0 y rfl, h.r.at 0 (.int .i64 0) rfl, h.x.frozen 0, h.y.frozen 0, h.r.frozen 0⟩
theorem CmpM.set {x y x' y' : Value} {w wr : World} (h : CmpM x y w wr) : CmpM x' y' w ((wr.setCell ⟨w.heap.size, 0, none⟩ x').setCell ⟨w.heap.size + 1, 0, none⟩ y') :=
  ⟨(h.x.set 0 x').far (by simp) _, (h.y.far (by simp) _).set 0 y', (h.r.far (by simp) _).far (by simp) _, (h.b.setCell (Nat.le_refl _) _).setCell (Nat.le_succ _) _⟩

theorem Tab.keep {w w' : World} (h : Tab w) (hk : ∀ p u, w.cell? p = some u → w'.cell? p = some u) : Tab w' := fun j hj => hk _ _ (h j hj)
theorem Raw.keep {w w' : World} {v : Value} {L : List Nat} (h : Raw w v L) (hk : ∀ p u, w.cell? p = some u → w'.cell? p = some u) : Raw w' v L := ⟨h.tab.keep hk, h.sl.keep hk, h.digs, h.cap⟩
/-- numbers' cells are of another kind than a slice's box or an int's -/
theorem Raw.set {w : World} {v : Value} {L : List Nat} {g : Nat} {u x : Value} {t : TypeId} (h : Raw w v L) (hg : Blk w g t #[x]) (hx : ∀ k z, x = .int k z → k = .i64) : Raw (w.setCell ⟨g, 0, none⟩ u) v L := by
  have key : ∀ b o k z, (k = .u8 ∨ k = .u64) → w.cell? ⟨b, o, none⟩ = some (.int k z) → (w.setCell ⟨g, 0, none⟩ u).cell? ⟨b, o, none⟩ = some (.int k z) := by
    intro b o k z hk hc
    rw [World.cell?_setCell_other]
    · exact hc
    · intro he
      injection he with e1 e2
      subst e1 e2
      have := hg.at 0 x rfl
      rw [hc] at this
      have := hx _ _ (Option.some.inj this).symm
      rcases hk with rfl | rfl <;> cases this
  refine ⟨fun j hj => key _ _ _ _ (.inl rfl) (h.tab j hj), ?_, h.digs, h.cap⟩
  obtain ⟨a, c, rfl, hc⟩ := h.sl
  refine ⟨a, c, rfl, fun hl => ?_⟩
  obtain ⟨b, off, rfl, hc2⟩ := hc hl
  refine ⟨b, off, rfl, fun i y hy => ?_⟩
  have h1 := hc2 i y hy
  rw [dvl, List.getElem?_map] at hy
  obtain ⟨d, _, rfl⟩ := Option.map_eq_some_iff.1 hy
  exact key _ _ _ _ (.inr rfl) h1
theorem Dg.set {w : World} {v : Value} {n : Nat} {g : Nat} {u x : Value} {t : TypeId} (h : Dg w v n) (hg : Blk w g t #[x]) (hx : ∀ k z, x = .int k z → k = .i64) : Dg (w.setCell ⟨g, 0, none⟩ u) v n := by
  obtain ⟨L, h1, h2⟩ := h; exact ⟨L, h1.set hg hx, h2⟩
theorem Dg.notint {w : World} {v : Value} {n : Nat} (h : Dg w v n) : ∀ k z, v = .int k z → k = .i64 := by
  obtain ⟨L, h1, _⟩ := h
  obtain ⟨a, c, rfl, _⟩ := h1.sl
  intro k z he; cases he
theorem Raw.notint {w : World} {v : Value} {L : List Nat} (h : Raw w v L) : ∀ k z, v = .int k z → k = .i64 := by
  obtain ⟨a, c, rfl, _⟩ := h.sl
  intro k z he; cases he

/-- behind the first statement -/
def CmpE (m n : Nat) (w wx : World) : Prop := ∃ x y, CmpM x y w wx ∧ Dg wx x m ∧ Dg wx y n
theorem cmpE {m n : Nat} {u v x y : Value} {w V : World} (h : CmpM u v w V) (hu : ∀ k z, u = .int k z → k = .i64) (hv : ∀ k z, v = .int k z → k = .i64) (hx : Dg V x m) (hy : Dg V y n) : Hid (CmpE m n w ((V.setCell ⟨w.heap.size, 0, none⟩ x).setCell ⟨w.heap.size + 1, 0, none⟩ y)) :=
  ⟨x, y, h.set, (hx.set h.x hu).set (h.y.far (by simp) _) hv, (hy.set h.x hu).set (h.y.far (by simp) _) hv⟩

theorem drop_same {A B : List Nat} (hl : A.length = B.length) {i : Nat} (h : ∀ j, i ≤ j → j < A.length → dg A j = dg B j) : A.drop i = B.drop i := by
  apply List.ext_getElem?
  intro j
  rw [List.getElem?_drop, List.getElem?_drop]
  by_cases hj : i + j < A.length
  · rw [dg_get hj, dg_get (by omega), h _ (by omega) hj]
  · rw [List.getElem?_eq_none (by omega), List.getElem?_eq_none (by omega)]

theorem cmp_done {A B : List Nat} {m n : Nat} (cA : Can A m) (cB : Can B n) (hl : A.length = B.length) (h : ∀ p ∈ dn A.length A.length, dg A p.1 = dg B p.1) : cmpN m n = 0 := by
  have : A.drop 0 = B.drop 0 := drop_same hl fun j _ hj => h ⟨j, hj⟩ (dn_mem (by omega) hj (by omega))
  rw [List.drop_zero, List.drop_zero] at this
  exact cmpN_eq (by rw [← cA.val, ← cB.val, this])

theorem cmp_stop {A B : List Nat} {m n k : Nat} (cA : Can A m) (cB : Can B n) (hl : A.length = B.length) {ini : List { i : Nat // i < A.length }} {last : { i : Nat // i < A.length }} (he : dn A.length k = ini ++ [last])
    (h : ∀ p ∈ ini, dg A p.1 = dg B p.1) (hne : dg A last.1 ≠ dg B last.1) : cmpI (dg A last.1) (dg B last.1) = cmpN m n := by
  have hp : 0 < A.length := Nat.lt_of_le_of_lt (Nat.zero_le _) last.2
  have hk : k = ini.length + 1 := by
    have := congrArg List.length he
    rw [dn_length hp, List.length_append] at this
    exact this
  rw [hk, dn_succ hp] at he
  obtain ⟨e1, e2⟩ := List.append_inj' he rfl
  have e3 : last.1 = A.length - 1 - ini.length := by
    have := List.head_eq_of_cons_eq e2
    rw [← this]
  have hd : A.drop (last.1 + 1) = B.drop (last.1 + 1) := drop_same hl fun j h1 h2 => h ⟨j, h2⟩ (by rw [← e1]; exact dn_mem hp h2 (by omega))
  have hd' : ofd (A.drop (last.1 + 1)) = ofd (B.drop (last.1 + 1)) := by rw [hd]
  rcases Nat.lt_or_gt_of_ne hne with hlt | hgt
  · have := cmp_step cA.digs hd' hlt
    rw [cA.val, cB.val] at this
    rw [cmpN_lt this, cmpI_lt (by omega)]
  · have := cmp_step cB.digs hd'.symm hgt
    rw [cA.val, cB.val] at this
    rw [cmpN_gt this, cmpI_gt (by omega)]

theorem cmpI_ne {x y : Nat} {c : Int} (h : c = cmpI (x : Int) (y : Int)) (hc : ¬ c = 0) : x ≠ y := by
  rintro rfl; exact hc (h.trans (cmpI_eq rfl))
theorem cmpI_same {x y : Nat} (h : 0 = cmpI (x : Int) (y : Int)) : x = y := by
  rcases Nat.lt_trichotomy x y with h1 | h1 | h1
  · rw [cmpI_lt (by omega)] at h; omega
  · exact h1
  · rw [cmpI_gt (by omega)] at h; omega

end Go.Proofs.YtobpioceopfkpaaGreatDoor
