/-
  ref05's numbers: cut, Top, Sign, Of; ref06's Kind and Worth: what they return.
-/
import Derived.Test.YtbknkcfnhfolpaaDi
import Derived.Test.YtbknkcfnhfolpaaDe
import Derived.Test.YtbknkcfnhfolpaaDf
import Derived.Test.YtbknkcfnhfolpaaSafe
import Derived.StillTailTactics
import Derived.Deep.RegionHeld3
namespace Go.Proofs.Ytbknkcfnhfolpaa
open Go.RowKit

/-- A number by its parts. -/
def IsN (w : World) (v : Value) (neg : Bool) (m : Nat) (e : Int) : Prop := ∃ s, v = .agg #[.bool neg, s, .int .i64 e] ∧ Dg w s m
theorem IsN.below {w w' : World} {v : Value} {neg : Bool} {m : Nat} {e : Int} (h : IsN w v neg m e) (hb : Below w.heap.size w w') : IsN w' v neg m e := by
  obtain ⟨s, rfl, hs⟩ := h; exact ⟨s, rfl, hs.below hb⟩
theorem Dg.form {w : World} {v : Value} {n : Nat} (h : Dg w v n) : ∃ a k c, v = .slice a k c ∧ (n = 0 ↔ k = 0) := by
  obtain ⟨L, hL, hc⟩ := h
  obtain ⟨a, c, rfl, _⟩ := hL.form
  refine ⟨a, L.length, c, rfl, ?_⟩
  constructor
  · rintro rfl; rw [hc.zero]; rfl
  · intro h; have := hc.val; rw [List.eq_nil_of_length_eq_zero h] at this; exact this.symm

theorem quiet_same {P : Program} {f : FuncId} {args : Array Value} {w : World} {m : Nat} {v : Value} (h : Calls P f args (w.drewN m) fun e w' => e = .returned v ∧ w.drewN m = w') : Calls P f args (w.drewN m) fun e w' => e = .returned v ∧ ∃ k, w' = w.drewN k :=
  h.mono fun _ _ ⟨h1, h2⟩ => ⟨h1, m, h2.symm⟩

theorem Dg.drewN {w : World} {v : Value} {n : Nat} (h : Dg w v n) (k : Nat) : Dg (w.drewN k) v n := h

set_option maxHeartbeats 1000000 in
theorem cut_any (e : Int) (h : -2147483648 ≤ e ∧ e ≤ 2147483648) (w : World) :
    Calls Try.prog 51 #[.int .i64 e] w fun x w' => x = .returned (.int .i64 e) ∧ w = w' := by
  obtain ⟨h1, h2⟩ := h
  go_enter Try.func51, Try.ntmps51
  go_wp2
  go_ret
  exact ⟨rfl, rfl⟩

def signN (neg : Bool) (m : Nat) : Int := if m = 0 then 0 else if neg then -1 else 1
theorem signN_zero (neg : Bool) : signN neg 0 = 0 := rfl
theorem signN_pos {m : Nat} (h : m ≠ 0) : signN false m = 1 := by unfold signN; rw [if_neg h]; rfl
theorem signN_neg {m : Nat} (h : m ≠ 0) : signN true m = -1 := by unfold signN; rw [if_neg h]; rfl

set_option maxHeartbeats 1000000 in
theorem sign_any {v : Value} {neg : Bool} {m : Nat} {e : Int} {w : World} (h : IsN w v neg m e) :
    Calls Try.prog 41 #[v] w fun x w' => x = .returned (.int .i64 (signN neg m)) ∧ Below w.heap.size w w' := by
  obtain ⟨s, rfl, hs⟩ := h
  obtain ⟨a, k, c, rfl, hk⟩ := hs.form
  clear hs
  by_cases hm : m = 0
  · obtain rfl : k = 0 := hk.1 hm
    subst hm
    have HE := Lib.hid (signN_zero neg)
    clear hk
    go_enter Try.func41, Try.ntmps41
    go_wp2
    go_ret
    exact ⟨ret_i64 HE.out.symm, (Below.refl _ _).alloc (Nat.le_refl _) _⟩
  · have hk0 : k ≠ 0 := fun h => hm (hk.2 h)
    have e1 : ((k : Int) == 0) = false := by rw [beq_eq_false_iff_ne]; omega
    cases neg
    · have HE := Lib.hid (signN_pos hm)
      clear hk hm hk0
      go_enter Try.func41, Try.ntmps41
      go_wp2
      go_ret
      exact ⟨ret_i64 HE.out.symm, (Below.refl _ _).alloc (Nat.le_refl _) _⟩
    · have HE := Lib.hid (signN_neg hm)
      clear hk hm hk0
      go_enter Try.func41, Try.ntmps41
      go_wp2
      go_ret
      exact ⟨ret_i64 HE.out.symm, (Below.refl _ _).alloc (Nat.le_refl _) _⟩

set_option maxHeartbeats 1000000 in
theorem top_any {v : Value} {neg : Bool} {m : Nat} {e : Int} {w : World} (h : IsN w v neg m e) (hs : Sm m) (he : -2147483648 ≤ e ∧ e ≤ 2147483648) :
    Calls Try.prog 15 #[v] w fun x w' => x = .returned (.int .i64 ((bl m : Int) - 1 + e)) ∧ Below w.heap.size w w' := by
  obtain ⟨s, rfl, hd⟩ := h
  obtain ⟨he1, he2⟩ := he
  have hb : bl m ≤ 1000000 := hs
  have HQ := Lib.hid (fun q => quiet_same (bits_any ((hd.alloc (.cells #[.bool neg, s, .int .i64 e] 32)).drewN q) hs))
  clear hs hd
  generalize bl m = b at *
  have q1 : IntKind.i64.wrap ((b : Int) - 1) = (b : Int) - 1 := IntWalk.i64_in _ (by omega)
  have q2 : IntKind.i64.wrap ((b : Int) - 1 + e) = (b : Int) - 1 + e := IntWalk.i64_in _ (by omega)
  go_enter Try.func15, Try.ntmps15
  go_wp2_with fail
  go_quiet ((go_at_call 13; exact HQ.out _))
  go_wp2
  go_ret
  exact ⟨rfl, below_drewN' ((Below.refl _ _).alloc (Nat.le_refl _) _) _⟩

theorem still_of {P : Program} {f : FuncId} {args : Array Value} {w : World} {v : Value} (h : Calls P f args w fun e w' => e = .returned v ∧ w = w') : Calls P f args w fun e w' => e = .returned v ∧ w' = w :=
  h.mono fun _ _ ⟨h1, h2⟩ => ⟨h1, h2.symm⟩

/-- a region that draws: all but its tail only read; the world behind the draw under a name -/
theorem wp_tail {P : Program} {id : Nat} {Q : Exit → Act → World → Prop} {a : Act} {w : World} {l : List Oper} (n : Nat) (hm : P.follows .mixedOrders = true) (hB : Region.lexTailB .any l.toArray n = true)
    (h : ∀ w', Hid (w' = w.drew) → wpStill P l.toArray w' (fun a' => wpList P l.toArray Q (l.drop n) a' w') (l.take n) a) : (Code.region id l.toArray true).wp P Q a w :=
  wp_region_still_tail n hm hB (h _ rfl)
theorem wpStill_fin {P : Program} {ops : Array Oper} {w : World} {Q : Act → Prop} {a : Act} (h : Q a) : wpStill P ops w Q [] a := h

/-- the digits stay where nothing else is written -/
theorem Dg.keep {w w' : World} {v : Value} {n : Nat} (h : Dg w v n) (hk : ∀ b o z, w.cell? ⟨b, o, none⟩ = some (.int .u32 z) → w'.cell? ⟨b, o, none⟩ = some (.int .u32 z)) : Dg w' v n := by
  obtain ⟨L, hL, hc⟩ := h
  refine ⟨L, ?_, hc⟩
  obtain ⟨a, c, rfl, h⟩ := hL
  refine ⟨a, c, rfl, fun hl => ?_⟩
  obtain ⟨b, off, rfl, hx⟩ := h hl
  refine ⟨b, off, rfl, fun i u hu => ?_⟩
  have h1 := hx i u hu
  rw [dvl, List.getElem?_map] at hu
  obtain ⟨x, _, rfl⟩ := Option.map_eq_some_iff.1 hu
  exact hk _ _ _ h1

/-- a block of a number's parts is no block of digits -/
def Parts (w : World) (R : Nat) : Prop := ∃ t b s e, Blk w R t #[.bool b, s, .int .i64 e] ∧ ∃ a k c, s = .slice a k c
theorem Parts.ne {w : World} {R b o : Nat} {z : Int} (h : Parts w R) (hc : w.cell? ⟨b, o, none⟩ = some (.int .u32 z)) : b ≠ R := by
  rintro rfl
  obtain ⟨t, x, s, e, hb, a, k, c, rfl⟩ := h
  rw [hb.cell] at hc
  rcases o with _ | _ | _ | o <;> simp at hc
theorem Dg.st3 {w : World} {v : Value} {n R : Nat} (h : Dg w v n) (hp : Parts w R) (a b c : Value) : Dg (((w.setCell ⟨R, 0, none⟩ a).setCell ⟨R, 1, none⟩ b).setCell ⟨R, 2, none⟩ c) v n := by
  refine h.keep fun g o z hz => ?_
  have hne := hp.ne hz
  have key : ∀ i, (⟨R, i, none⟩ : Addr) ≠ ⟨g, o, none⟩ := fun i he => hne (by injection he with h1; exact h1.symm)
  rw [World.cell?_setCell_other _ _ _ _ (key 2), World.cell?_setCell_other _ _ _ _ (key 1), World.cell?_setCell_other _ _ _ _ (key 0)]
  exact hz

/-- What Of returns. -/
def RetOf (neg : Bool) (x : Nat) (e : Int) (w : World) (q : Ending) (w' : World) : Prop :=
  ∃ v ng m e', q = .returned v ∧ IsN w' v ng m e' ∧ Below w.heap.size w w' ∧ (x = 0 → m = 0 ∧ e' = 0) ∧ (x ≠ 0 → ng = neg ∧ m % 2 = 1 ∧ ∃ low : Nat, low < 64 ∧ e' = e + low ∧ m * 2 ^ low = x)

theorem results_agg3 {w : World} {R : Nat} {a b c : Value} (h : Blk w R 32 #[a, b, c]) : w.cell? ⟨R, 0, none⟩ = some a ∧ w.cell? ⟨R, 1, none⟩ = some b ∧ w.cell? ⟨R, 2, none⟩ = some c := ⟨h.at 0 a rfl, h.at 1 b rfl, h.at 2 c rfl⟩

theorem low_step {x low : Nat} (h : x / 2 ^ low * 2 ^ low = x) (hb : bitN x low = 0) : x / 2 ^ (low + 1) * 2 ^ (low + 1) = x := by
  have h1 := half_bit x low
  unfold bitN at hb
  rw [hb] at h1
  rw [h1] at h
  rw [show x / 2 ^ (low + 1) * 2 ^ (low + 1) = x / 2 ^ (low + 1) * 2 ^ low * 2 by rw [Nat.pow_succ 2 low, ← Nat.mul_assoc]]
  rw [Nat.add_zero, Nat.mul_comm 2] at h
  rw [Nat.mul_right_comm]
  exact h
theorem low_lt {x low : Nat} (h : x / 2 ^ low * 2 ^ low = x) (h0 : x ≠ 0) (hx : x < 18446744073709551616) : low < 64 := by
  apply Nat.lt_of_not_le; intro hl
  have : x < 2 ^ low := Nat.lt_of_lt_of_le hx (by have := Nat.pow_le_pow_right (n := 2) (by omega) hl; omega)
  rw [Nat.div_eq_of_lt this] at h
  omega

set_option maxHeartbeats 2000000 in
theorem of_any {x : Nat} {neg : Bool} {e : Int} {s : Value} {w : World} (h : Sl w s [.int .u64 (x : Int)]) (hx : x < 18446744073709551616) (he : -4000 ≤ e ∧ e ≤ 4000) :
    Calls Try.prog 40 #[.agg #[.bool neg, s, .int .i64 e]] w (RetOf neg x e w) := by
  obtain ⟨he1, he2⟩ := he
  have HS := Lib.hid h
  clear h
  go_enter Try.func40, Try.ntmps40
  go_wp2_with fail
  refine (to_any ((HS.out.alloc _).alloc _) hx).mono ?_
  rintro q w1 ⟨u, rfl, hd, hb⟩
  obtain ⟨k1, k2, B1, z1, -⟩ := new2 (Below.refl w.heap.size w) (Nat.le_refl _) hb
  clear hb HS
  obtain ⟨a, k, c, rfl, hk⟩ := hd.form
  by_cases h0 : x = 0
  · subst h0
    obtain rfl : k = 0 := hk.1 rfl
    have r0 := k2.at 0 (.bool false) rfl
    have r1 := k2.at 1 (.slice none 0 0) rfl
    have r2 := k2.at 2 (.int .i64 0) rfl
    have f0 := k2.frozen 0
    have f1 := k2.frozen 1
    have f2 := k2.frozen 2
    have K2 := Lib.hid k2
    have BB := Lib.hid B1
    clear hk hd k1 k2 B1
    go_wp2
    obtain ⟨q1, q2⟩ := fin3 K2.out BB.out (by omega) (.bool false) (.slice none 0 0) (.int .i64 0)
    generalize (World.setCell (World.setCell (World.setCell _ _ _) _ _) _ _) = W at q1 q2 ⊢
    obtain ⟨g0, g1, g2⟩ := results_agg3 q1
    exact bodyPost_ret (v := .agg #[.bool false, .slice none 0 0, .int .i64 0]) (by simp [results, Try.results40, go_sem, g0, g1, g2]) rfl ⟨_, false, 0, 0, rfl, ⟨_, rfl, Dg.nil W⟩, q2, fun _ => ⟨rfl, rfl⟩, fun h => absurd rfl h⟩
  · have hk0 : k ≠ 0 := fun h => h0 (hk.2 h)
    have e1 : ((k : Int) == 0) = false := by rw [beq_eq_false_iff_ne]; omega
    have hsm : Sm x := Nat.le_trans (bl_le (n := x) (k := 64) hx) (by decide)
    have HSM := Lib.hid hsm
    have HD := Lib.hid hd
    have H0 := Lib.hid h0
    have K1 := Lib.hid k1
    have K2 := Lib.hid k2
    have BB := Lib.hid B1
    clear hk hk0 h0 hd hsm k1 k2 B1
    go_wp2
    go_loop [4] (fun i => ∃ low : Nat, i = .int .i64 low ∧ Hid (x / 2 ^ low * 2 ^ low = x)) (fun i => 64 - (intOf i).toNat)
    case atStart => exact ⟨0, rfl, by simp [Hid]⟩
    case round =>
      obtain ⟨low, rfl, hh⟩ := hrel
      have hlow := low_lt hh.out H0.out hx
      go_wp2_with fail
      refine (bit_any HD.out HSM.out low (by omega)).mono ?_
      rintro q w2 ⟨rfl, rfl⟩
      by_cases hbit : bitN x low = 0
      · have HL := Lib.hid (low_step hh.out hbit)
        rw [hbit]
        clear hbit
        go_wp2
        go_round
        case rel => exact ⟨low + 1, by go_num, HL⟩
        case measure => simp [intOf]; omega
      · have hb1 : bitN x low = 1 := by have := bitN_lt x low; omega
        rw [hb1]
        have HO := Lib.hid hb1
        clear hbit hb1
        go_wp2_with fail
        refine (shr_any HD.out low HSM.out (by omega)).mono ?_
        rintro q w3 ⟨u, r, rfl, hu, hb⟩
        obtain ⟨ua, uk, uc, rfl, -⟩ := hu.form
        have k1 := K1.out.below hb
        have k2 := K2.out.below hb
        have BC := Lib.hid (BB.out.trans (hb.mono BB.out.size))
        have c0 := k1.at 0 (.bool neg) rfl
        have c2 := k1.at 2 (.int .i64 e) rfl
        have r0 := k2.at 0 (.bool false) rfl
        have r1 := k2.at 1 (.slice none 0 0) rfl
        have r2 := k2.at 2 (.int .i64 0) rfl
        have f0 := k2.frozen 0
        have f1 := k2.frozen 1
        have f2 := k2.frozen 2
        have KK := Lib.hid k2
        have HU := Lib.hid hu
        have K1' := Lib.hid k1
        clear hb k1 k2 hu c0 c2 r0 r1 r2 f0 f1 f2
        have q1 : IntKind.i64.wrap (e + (low : Int)) = e + (low : Int) := IntWalk.i64_in _ (by omega)
        go_wp2_with fail
        refine wp_tail 9 (by kernel_rfl) (by kernel_rfl) ?_
        intro w4 h4
        have k1 : Blk w4 w.heap.size 62 #[.bool neg, s, .int .i64 e] := by rw [h4.out]; exact K1'.out
        have k2 : Blk w4 (w.heap.size + 1) 32 #[.bool false, .slice none 0 0, .int .i64 0] := by rw [h4.out]; exact KK.out
        have BD : Hid (Below w.heap.size w w4) := by rw [h4.out]; exact below_drewN' BC.out 1
        have HU4 : Hid (Dg w4 (.slice ua uk uc) (x / 2 ^ low)) := by rw [h4.out]; exact HU.out
        have c0 := k1.at 0 (.bool neg) rfl
        have c2 := k1.at 2 (.int .i64 e) rfl
        have r0 := k2.at 0 (.bool false) rfl
        have r1 := k2.at 1 (.slice none 0 0) rfl
        have r2 := k2.at 2 (.int .i64 0) rfl
        have f0 := k2.frozen 0
        have f1 := k2.frozen 1
        have f2 := k2.frozen 2
        have KK4 := Lib.hid k2
        clear k1 k2 K1' KK
        simp only [List.take_succ_cons, List.take_zero, List.drop_succ_cons, List.drop_zero]
        repeat still_step
        still_call (still_of (cut_any e ⟨by omega, by omega⟩ _))
        repeat still_step
        refine wpStill_fin ?_
        go_wp2
        obtain ⟨p1, p2⟩ := fin3 KK4.out BD.out (by omega) (.bool neg) (.slice ua uk uc) (.int .i64 (e + low))
        have p3 := HU4.out.st3 ⟨_, _, _, _, KK4.out, _, _, _, rfl⟩ (.bool neg) (.slice ua uk uc) (.int .i64 (e + low))
        generalize (World.setCell (World.setCell (World.setCell _ _ _) _ _) _ _) = W at p1 p2 p3 ⊢
        obtain ⟨g0, g1, g2⟩ := results_agg3 p1
        exact bodyPost_ret (v := .agg #[.bool neg, .slice ua uk uc, .int .i64 (e + low)]) (by simp [results, Try.results40, go_sem, g0, g1, g2]) rfl
          ⟨_, neg, x / 2 ^ low, e + low, rfl, ⟨_, rfl, p3⟩, p2, fun h => absurd h H0.out, fun _ => ⟨rfl, HO.out, low, hlow, rfl, hh.out⟩⟩

end Go.Proofs.Ytbknkcfnhfolpaa
