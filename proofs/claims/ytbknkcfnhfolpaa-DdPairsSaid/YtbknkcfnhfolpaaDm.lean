/-
  ref06's Kind and Worth, ref07's Limit, value and Middle: what they return.
-/
import Derived.Test.YtbknkcfnhfolpaaDl
set_option exponentiation.threshold 9000
namespace Go.Proofs.Ytbknkcfnhfolpaa
open Go.RowKit Rn

/-- A number in memory, by its worth, with an odd size or 0. -/
def NO (w : World) (v : Value) (z lo : Int) : Prop := ∃ ng m e, IsN w v ng m e ∧ lo ≤ e ∧ e ≤ 2200 ∧ nv ng m e = z ∧ (m = 0 ∨ m % 2 = 1)
def RetNO (z lo : Int) (w : World) (q : Ending) (w' : World) : Prop := ∃ v, q = .returned v ∧ NO w' v z lo ∧ Below w.heap.size w w'
theorem NO.nz {w : World} {v : Value} {z lo : Int} (h : NO w v z lo) : NZ w v z lo := by
  obtain ⟨ng, m, e, h1, h2, h3, h4, _⟩ := h; exact ⟨ng, m, e, h1, h2, by omega, h4⟩

theorem expo_eq (b : Nat) : ((b : Int) / 4503599627370496 % 2048) = (expo b : Nat) := by unfold expo; omega
theorem frac_eq (b : Nat) : ((b : Int) % 4503599627370496) = (frac b : Nat) := by unfold frac; omega

set_option maxRecDepth 100000 in
set_option maxHeartbeats 2000000 in
theorem kind06_any {b : Nat} (h : b < 18446744073709551616) (w : World) :
    Calls Try.prog 28 #[.int .u64 b] w fun q w' => q = .returned (.int .i64 (kindN b)) ∧ w = w' := by
  have h1 := expo_eq b
  have h2 := frac_eq b
  unfold kindN
  have h4 := expo_lt b
  have h5 : frac b < 4503599627370496 := frac_lt b
  generalize expo b = e at *
  generalize frac b = f at *
  obtain ⟨k, hk⟩ : ∃ k, k = kindE e f := ⟨_, rfl⟩
  rw [← hk]
  have HK := Lib.hid hk
  clear hk
  go_enter Try.func28, Try.ntmps28
  by_cases he : e = 0
  · subst he
    by_cases hf : f = 0
    · subst hf
      obtain rfl : k = 0 := HK.out
      go_wp2
      go_ret
      exact ⟨rfl, rfl⟩
    · obtain rfl : k = 1 := HK.out.trans (kindE1 hf)
      have hf' : ((f : Int) == 0) = false := by rw [beq_eq_false_iff_ne]; omega
      clear HK
      go_wp2
      go_ret
      exact ⟨rfl, rfl⟩
  · have he' : ((e : Int) == 0) = false := by rw [beq_eq_false_iff_ne]; omega
    by_cases he2 : e < 2047
    · obtain rfl : k = 2 := HK.out.trans (kindE2 he he2)
      clear HK
      go_wp2
      go_ret
      exact ⟨rfl, rfl⟩
    · by_cases hf : f = 0
      · subst hf
        obtain rfl : k = 3 := HK.out.trans (kindE3 he he2)
        clear HK
        go_wp2
        go_ret
        exact ⟨rfl, rfl⟩
      · have hf' : ((f : Int) == 0) = false := by rw [beq_eq_false_iff_ne]; omega
        by_cases hf2 : 2251799813685248 ≤ f
        · obtain rfl : k = 4 := HK.out.trans (kindE4 he he2 hf hf2)
          have hg : (2251799813685248 : Int) ≤ f := by omega
          clear HK hf2 h5 hf
          go_wp2
          go_ret
          exact ⟨rfl, rfl⟩
        · obtain rfl : k = 5 := HK.out.trans (kindE5 he he2 hf hf2)
          have hg : decide ((2251799813685248 : Int) ≤ f) = false := decide_eq_false (by omega)
          have hg' : decide (2251799813685248 ≤ f) = false := decide_eq_false hf2
          clear HK hf2 h5 hf
          go_wp2
          go_ret
          exact ⟨rfl, rfl⟩

/-- what Of hands on -/
theorem of_worth {b f x : Nat} {e : Int} {neg : Bool} (hneg : neg = negW b) (hx : magn (b % 2 ^ 63) = x * 2 ^ f) (he : e = (f : Int) - 1074) (hf : f ≤ 2100) {w w' : World} {q : Ending} (h : RetOf neg x e w q w') : RetNO (val b * 2 ^ 4926) (-1074) w q w' := by
  obtain ⟨v, ng, m, e', rfl, hn, hb, h0, h1⟩ := h
  by_cases hx0 : x = 0
  · obtain ⟨rfl, rfl⟩ := h0 hx0
    refine ⟨v, rfl, ⟨ng, 0, 0, hn, by omega, by omega, ?_, .inl rfl⟩, hb⟩
    rw [nv_zero]
    have : val b = 0 := by unfold val; rw [hx, hx0, Nat.zero_mul]; unfold sg; split <;> simp
    rw [this, Int.zero_mul]
  · obtain ⟨rfl, hodd, low, hlow, rfl, hm⟩ := h1 hx0
    refine ⟨v, rfl, ⟨ng, m, e + low, hn, by omega, by omega, ?_, .inr hodd⟩, hb⟩
    unfold nv val
    rw [hx, ← hm, hneg, he, show ((f : Int) - 1074 + low + 6000).toNat = low + f + 4926 by omega, Nat.pow_add, ← Nat.mul_assoc, sg_mul, Nat.pow_add, ← Nat.mul_assoc]
    simp

/-- a number's block -/
theorem NO.form {w : World} {v : Value} {z lo : Int} (h : NO w v z lo) : ∃ ng a k c e, v = .agg #[.bool ng, .slice a k c, .int .i64 e] := by
  obtain ⟨ng, m, e, ⟨s, rfl, hs⟩, _⟩ := h
  obtain ⟨a, k, c, rfl, _⟩ := hs.form
  exact ⟨ng, a, k, c, e, rfl⟩
theorem NZ.form {w : World} {v : Value} {z lo : Int} (h : NZ w v z lo) : ∃ ng a k c e, v = .agg #[.bool ng, .slice a k c, .int .i64 e] := by
  obtain ⟨ng, m, e, ⟨s, rfl, hs⟩, _⟩ := h
  obtain ⟨a, k, c, rfl, _⟩ := hs.form
  exact ⟨ng, a, k, c, e, rfl⟩
theorem NO.st3 {w : World} {v : Value} {z lo : Int} {R : Nat} (h : NO w v z lo) (hp : Parts w R) (a b c : Value) : NO (((w.setCell ⟨R, 0, none⟩ a).setCell ⟨R, 1, none⟩ b).setCell ⟨R, 2, none⟩ c) v z lo := by
  obtain ⟨ng, m, e, ⟨s, rfl, hs⟩, h⟩ := h
  exact ⟨ng, m, e, ⟨s, rfl, hs.st3 hp a b c⟩, h⟩
theorem NZ.st3 {w : World} {v : Value} {z lo : Int} {R : Nat} (h : NZ w v z lo) (hp : Parts w R) (a b c : Value) : NZ (((w.setCell ⟨R, 0, none⟩ a).setCell ⟨R, 1, none⟩ b).setCell ⟨R, 2, none⟩ c) v z lo := by
  obtain ⟨ng, m, e, ⟨s, rfl, hs⟩, h⟩ := h
  exact ⟨ng, m, e, ⟨s, rfl, hs.st3 hp a b c⟩, h⟩
theorem NO.below {w w' : World} {v : Value} {z lo : Int} (h : NO w v z lo) (hb : Below w.heap.size w w') : NO w' v z lo := by
  obtain ⟨ng, m, e, h1, h2⟩ := h; exact ⟨ng, m, e, h1.below hb, h2⟩
theorem NZ.drew {w : World} {v : Value} {z lo : Int} (h : NZ w v z lo) : NZ w.drew v z lo := h

/-- the result's block -/
def Res (w : World) (R : Nat) : Prop := Blk w R 32 #[.bool false, .slice none 0 0, .int .i64 0]
theorem Res.parts {w : World} {R : Nat} (h : Res w R) : Parts w R := ⟨_, _, _, _, h, _, _, _, rfl⟩
theorem Res.cells {w : World} {R : Nat} (h : Res w R) : w.cell? ⟨R, 0, none⟩ = some (.bool false) ∧ w.cell? ⟨R, 1, none⟩ = some (.slice none 0 0) ∧ w.cell? ⟨R, 2, none⟩ = some (.int .i64 0) ∧ w.frozen? ⟨R, 0, none⟩ = false ∧ w.frozen? ⟨R, 1, none⟩ = false ∧ w.frozen? ⟨R, 2, none⟩ = false :=
  ⟨h.at 0 (.bool false) rfl, h.at 1 (.slice none 0 0) rfl, h.at 2 (.int .i64 0) rfl, h.frozen 0, h.frozen 1, h.frozen 2⟩

theorem Sl.lit1 (w : World) (u : Value) (t : TypeId) : Sl (w.alloc (.cells #[u] t)) (.slice (some ⟨w.heap.size, 0, none⟩) 1 1) [u] := by
  refine ⟨_, 1, rfl, fun _ => ⟨w.heap.size, 0, rfl, fun i x hx => ?_⟩⟩
  rcases i with _ | i
  · simp at hx; subst hx
    exact (Blk.new w t #[u]).at 0 u rfl
  · simp at hx

theorem Sl.lit1' (w : World) (o : Obj) (u : Value) (t : TypeId) : Sl ((w.alloc o).alloc (.cells #[u] t)) (.slice (some ⟨w.heap.size + 1, 0, none⟩) 1 1) [u] := by
  have := Sl.lit1 (w.alloc o) u t
  rwa [show (w.alloc o).heap.size = w.heap.size + 1 by simp] at this

set_option maxHeartbeats 2000000 in
theorem worth_any {b : Nat} (h : b < 18446744073709551616) (w : World) : Calls Try.prog 29 #[.int .u64 b] w (RetNO (val b * 2 ^ 4926) (-1074) w) := by
  have h1 := expo_eq b
  have h2 := frac_eq b
  have h3 := magn_expo b
  have h4 := expo_lt b
  have h5 : frac b < 4503599627370496 := frac_lt b
  have hneg : negW b = decide ((9223372036854775808 : Int) ≤ b) := by
    unfold negW
    by_cases hb : 2 ^ 63 ≤ b
    · rw [decide_eq_true (by omega), show b / 2 ^ 63 = 1 by omega]; rfl
    · rw [decide_eq_false (by omega), show b / 2 ^ 63 = 0 by omega]; rfl
  have HW : Hid (∀ x e w q w', RetOf (decide ((9223372036854775808 : Int) ≤ b)) x e w q w' → ∀ f : Nat, magn (b % 2 ^ 63) = x * 2 ^ f → e = (f : Int) - 1074 → f ≤ 2100 → RetNO (val b * 2 ^ 4926) (-1074) w q w') :=
    fun x e w q w' hr f hx he hf => of_worth hneg.symm hx he hf hr
  clear hneg
  have HM := Lib.hid h3
  clear h3
  generalize magn (b % 2 ^ 63) = M at *
  generalize expo b = e at *
  generalize frac b = f at *
  generalize val b * 2 ^ 4926 = Z at *
  go_enter Try.func29, Try.ntmps29
  by_cases he : e = 0
  · subst he
    have HX := Lib.hid (fun w q w' hr => HW.out f (-1074) w q w' hr 0 (by rw [HM.out]; simp) (by omega) (by omega))
    clear HM HW
    by_cases hn : (9223372036854775808 : Int) ≤ b
    · have hd : decide ((9223372036854775808 : Int) ≤ b) = true := decide_eq_true hn
      rw [hd] at HX
      go_wp2_with fail
      refine (of_any (Sl.lit1' _ _ _ _) (by omega) (by omega)).mono ?_
      intro q w1 hr
      obtain ⟨v, rfl, hv, hb⟩ := HX.out _ _ _ hr
      obtain ⟨k1, -, B1, -, -⟩ := new2 (Below.refl w.heap.size w) (Nat.le_refl _) hb
      clear hb HX hr
      obtain ⟨ng, a, k, c, e', rfl⟩ := hv.form
      obtain ⟨r0, r1, r2, z0, z1, z2⟩ := Res.cells k1
      have K1 := Lib.hid k1
      have BB := Lib.hid B1
      have HV := Lib.hid hv
      clear k1 B1 hv
      go_wp2
      obtain ⟨q1, q2⟩ := fin3 K1.out BB.out (Nat.le_refl _) (.bool ng) (.slice a k c) (.int .i64 e')
      have q3 := HV.out.st3 (Res.parts K1.out) (.bool ng) (.slice a k c) (.int .i64 e')
      generalize (World.setCell (World.setCell (World.setCell _ _ _) _ _) _ _) = W at q1 q2 q3 ⊢
      obtain ⟨g0, g1, g2⟩ := results_agg3 q1
      exact bodyPost_ret (v := .agg #[.bool ng, .slice a k c, .int .i64 e']) (by simp [results, Try.results29, go_sem, g0, g1, g2]) rfl ⟨_, rfl, q3, q2⟩
    · have hd : decide ((9223372036854775808 : Int) ≤ b) = false := decide_eq_false hn
      rw [hd] at HX
      go_wp2_with fail
      refine (of_any (Sl.lit1' _ _ _ _) (by omega) (by omega)).mono ?_
      intro q w1 hr
      obtain ⟨v, rfl, hv, hb⟩ := HX.out _ _ _ hr
      obtain ⟨k1, -, B1, -, -⟩ := new2 (Below.refl w.heap.size w) (Nat.le_refl _) hb
      clear hb HX hr
      obtain ⟨ng, a, k, c, e', rfl⟩ := hv.form
      obtain ⟨r0, r1, r2, z0, z1, z2⟩ := Res.cells k1
      have K1 := Lib.hid k1
      have BB := Lib.hid B1
      have HV := Lib.hid hv
      clear k1 B1 hv
      go_wp2
      obtain ⟨q1, q2⟩ := fin3 K1.out BB.out (Nat.le_refl _) (.bool ng) (.slice a k c) (.int .i64 e')
      have q3 := HV.out.st3 (Res.parts K1.out) (.bool ng) (.slice a k c) (.int .i64 e')
      generalize (World.setCell (World.setCell (World.setCell _ _ _) _ _) _ _) = W at q1 q2 q3 ⊢
      obtain ⟨g0, g1, g2⟩ := results_agg3 q1
      exact bodyPost_ret (v := .agg #[.bool ng, .slice a k c, .int .i64 e']) (by simp [results, Try.results29, go_sem, g0, g1, g2]) rfl ⟨_, rfl, q3, q2⟩
  · have he' : ((e : Int) == 0) = false := by rw [beq_eq_false_iff_ne]; omega
    have HX := Lib.hid (fun w q w' hr => HW.out (f + 4503599627370496) ((e : Int) - 1075) w q w' hr (e - 1) (by rw [HM.out, if_neg he, Nat.add_comm (2 ^ 52)]) (by omega) (by omega))
    clear HM HW
    by_cases hn : (9223372036854775808 : Int) ≤ b
    · have hd : decide ((9223372036854775808 : Int) ≤ b) = true := decide_eq_true hn
      rw [hd] at HX
      go_wp2_with fail
      refine (of_any (x := f + 4503599627370496) (Sl.lit1' _ _ _ _) (by omega) (by omega)).mono ?_
      intro q w1 hr
      obtain ⟨v, rfl, hv, hb⟩ := HX.out _ _ _ hr
      obtain ⟨k1, -, B1, -, -⟩ := new2 (Below.refl w.heap.size w) (Nat.le_refl _) hb
      clear hb HX hr
      obtain ⟨ng, a, k, c, e', rfl⟩ := hv.form
      obtain ⟨r0, r1, r2, z0, z1, z2⟩ := Res.cells k1
      have K1 := Lib.hid k1
      have BB := Lib.hid B1
      have HV := Lib.hid hv
      clear k1 B1 hv
      go_wp2
      obtain ⟨q1, q2⟩ := fin3 K1.out BB.out (Nat.le_refl _) (.bool ng) (.slice a k c) (.int .i64 e')
      have q3 := HV.out.st3 (Res.parts K1.out) (.bool ng) (.slice a k c) (.int .i64 e')
      generalize (World.setCell (World.setCell (World.setCell _ _ _) _ _) _ _) = W at q1 q2 q3 ⊢
      obtain ⟨g0, g1, g2⟩ := results_agg3 q1
      exact bodyPost_ret (v := .agg #[.bool ng, .slice a k c, .int .i64 e']) (by simp [results, Try.results29, go_sem, g0, g1, g2]) rfl ⟨_, rfl, q3, q2⟩
    · have hd : decide ((9223372036854775808 : Int) ≤ b) = false := decide_eq_false hn
      rw [hd] at HX
      go_wp2_with fail
      refine (of_any (x := f + 4503599627370496) (Sl.lit1' _ _ _ _) (by omega) (by omega)).mono ?_
      intro q w1 hr
      obtain ⟨v, rfl, hv, hb⟩ := HX.out _ _ _ hr
      obtain ⟨k1, -, B1, -, -⟩ := new2 (Below.refl w.heap.size w) (Nat.le_refl _) hb
      clear hb HX hr
      obtain ⟨ng, a, k, c, e', rfl⟩ := hv.form
      obtain ⟨r0, r1, r2, z0, z1, z2⟩ := Res.cells k1
      have K1 := Lib.hid k1
      have BB := Lib.hid B1
      have HV := Lib.hid hv
      clear k1 B1 hv
      go_wp2
      obtain ⟨q1, q2⟩ := fin3 K1.out BB.out (Nat.le_refl _) (.bool ng) (.slice a k c) (.int .i64 e')
      have q3 := HV.out.st3 (Res.parts K1.out) (.bool ng) (.slice a k c) (.int .i64 e')
      generalize (World.setCell (World.setCell (World.setCell _ _ _) _ _) _ _) = W at q1 q2 q3 ⊢
      obtain ⟨g0, g1, g2⟩ := results_agg3 q1
      exact bodyPost_ret (v := .agg #[.bool ng, .slice a k c, .int .i64 e']) (by simp [results, Try.results29, go_sem, g0, g1, g2]) rfl ⟨_, rfl, q3, q2⟩

end Go.Proofs.Ytbknkcfnhfolpaa
