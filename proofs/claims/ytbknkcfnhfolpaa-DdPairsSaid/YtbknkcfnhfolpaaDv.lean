/-
  dd's Sum, Quick, Split, Prod: what they hand back, as values.
-/
import Derived.Test.YtbknkcfnhfolpaaDd
set_option exponentiation.threshold 3000
namespace Go.Proofs.Ytbknkcfnhfolpaa
open Go.RowKit Rn

/-- the bounds under which nothing overflows -/
def Within (k : Nat) (z : Int) : Prop := z.natAbs ≤ 2 ^ k

theorem Within.up {k j : Nat} {z : Int} (h : Within k z) (hk : k ≤ j) : Within j z := Nat.le_trans h (Nat.pow_le_pow_right (by omega) hk)
theorem Within.add {k : Nat} {a b : Int} (ha : Within k a) (hb : Within k b) : Within (k + 1) (a + b) := by
  unfold Within at *; rw [Nat.pow_succ]; generalize 2 ^ k = P at *; omega
theorem Within.sub {k : Nat} {a b : Int} (ha : Within k a) (hb : Within k b) : Within (k + 1) (a - b) := by
  unfold Within at *; rw [Nat.pow_succ]; generalize 2 ^ k = P at *; omega
theorem Within.rn {k : Nat} {a : Int} (ha : Within k a) : Within k (rn a) := rn_abs_le ha

/-- '+' and '-' of words within 2^k. -/
theorem addw {k x y : Nat} {a b : Int} (hx : Num x) (hy : Num y) (ex : val x = a) (ey : val y = b) (ha : Within k a) (hb : Within k b) (hk : k ≤ 2096) : ∃ r, Ieee.double.add x y = some r ∧ Num r ∧ val r = Rn.rn (a + b) := by
  subst ex ey
  exact add_val hx hy ((ha.add hb).up (by omega))
theorem subw {k x y : Nat} {a b : Int} (hx : Num x) (hy : Num y) (ex : val x = a) (ey : val y = b) (ha : Within k a) (hb : Within k b) (hk : k ≤ 2096) : ∃ r, Ieee.double.sub x y = some r ∧ Num r ∧ val r = Rn.rn (a - b) := by
  subst ex ey
  exact sub_val hx hy ((ha.sub hb).up (by omega))

/-- SUM. -/
theorem sum_is {x y : Nat} {a b : Int} (hx : Num x) (hy : Num y) (ex : val x = a) (ey : val y = b) (ha : Within 2090 a) (hb : Within 2090 b) :
    ∃ s r, (∀ w, Calls Try.prog 18 #[.float .f64 x, .float .f64 y] w fun e w' => e = .returned (pr s r) ∧ Below w.heap.size w w') ∧ Num s ∧ Num r ∧ val s = rn (a + b) ∧ val r = a + b - rn (a + b) := by
  have ra : Rep a := ex ▸ val_rep x
  have rb : Rep b := ey ▸ val_rep y
  obtain ⟨s, h1, fs, vs⟩ := addw hx hy ex ey ha hb (by omega)
  have bs := (ha.add hb).rn
  obtain ⟨t, h2, ft, vt⟩ := subw fs hx vs ex bs (ha.up (by omega)) (by omega)
  have bt := (bs.sub (ha.up (by omega))).rn
  obtain ⟨u, h3, fu, vu⟩ := subw fs ft vs vt (bs.up (by omega)) bt (by omega)
  have bu := ((bs.up (by omega)).sub bt).rn
  obtain ⟨d, h4, fd, vd⟩ := subw hx fu ex vu (ha.up (by omega)) bu (by omega)
  have bd := ((ha.up (by omega)).sub bu).rn
  obtain ⟨e, h5, fe, ve⟩ := subw hy ft ey vt (hb.up (by omega)) bt (by omega)
  have be := ((hb.up (by omega)).sub bt).rn
  obtain ⟨r, h6, fr, vr⟩ := addw fd fe vd ve bd (be.up (by omega)) (by omega)
  exact ⟨s, r, fun w => sum_run w h1 h2 h3 h4 h5 h6, fs, fr, vs, by rw [vr, two_sum ra rb]⟩

/-- QUICK. -/
theorem quick_is {x y : Nat} {a b : Int} (hx : Num x) (hy : Num y) (ex : val x = a) (ey : val y = b) (ha : Within 2090 a) (hb : Within 2090 b) (hab : b.natAbs ≤ a.natAbs) :
    ∃ s r, (∀ w, Calls Try.prog 27 #[.float .f64 x, .float .f64 y] w fun e w' => e = .returned (pr s r) ∧ Below w.heap.size w w') ∧ Num s ∧ Num r ∧ val s = rn (a + b) ∧ val r = a + b - rn (a + b) := by
  have ra : Rep a := ex ▸ val_rep x
  have rb : Rep b := ey ▸ val_rep y
  obtain ⟨s, h1, fs, vs⟩ := addw hx hy ex ey ha hb (by omega)
  have bs := (ha.add hb).rn
  obtain ⟨t, h2, ft, vt⟩ := subw fs hx vs ex bs (ha.up (by omega)) (by omega)
  have bt := (bs.sub (ha.up (by omega))).rn
  obtain ⟨r, h3, fr, vr⟩ := subw hy ft ey vt (hb.up (by omega)) bt (by omega)
  exact ⟨s, r, fun w => quick_run w h1 h2 h3, fs, fr, vs, by rw [vr, quick_sum ra rb hab]⟩

theorem splitter_fin : Num splitter := by
  refine ⟨by decide, by decide⟩

theorem splitter_val : val splitter = 134217729 * 2 ^ 1074 := by
  have h1 : negW splitter = false := by decide
  have h2 : magn (splitter % 2 ^ 63) = 134217729 * 2 ^ 1074 := by
    have := magn_build 1049 (134217729 * 2 ^ 25) (.inr ⟨by decide, by decide⟩)
    rw [show 1049 * 2 ^ 52 + 134217729 * 2 ^ 25 = splitter % 2 ^ 63 by decide] at this
    rw [this, Nat.mul_assoc, ← Nat.pow_add]
  unfold val
  rw [h1, h2]
  exact Int.natCast_mul ..

/-- SPLIT. -/
theorem split_val {x : Nat} {m : Int} {e : Nat} (hx : Num x) (ex : val x = m * 2 ^ e) (hm : Norm m) (he : e ≤ 2000) :
    ∃ h l, IsSplit x h l ∧ Num h ∧ Num l ∧ val h = up m * 2 ^ e ∧ val l = (m - up m) * 2 ^ e := by
  have bm : m.natAbs ≤ 2 ^ 53 := by rcases hm with h | h <;> omega
  have hw : ∀ {k : Nat} {z : Int}, z.natAbs ≤ 2 ^ k → Within (k + e) (z * 2 ^ e) := by
    intro k z h
    unfold Within
    rw [Int.natAbs_mul, Int.natAbs_pow, Nat.pow_add]; exact Nat.mul_le_mul_right _ h
  have ba := (hw bm).up (j := 2053) (by omega)
  have bc : Within 2081 (134217729 * m * 2 ^ e) := (hw (k := 81) (by omega)).up (by omega)
  obtain ⟨c, h1, fc, vc⟩ := mul_val (z := 134217729 * m * 2 ^ e) splitter_fin hx (by
    rw [splitter_val, ex, Int.mul_assoc, Int.mul_comm (2 ^ 1074), ← Int.mul_assoc, ← Int.mul_assoc]) (bc.up (by omega))
  rw [rn_scale] at vc
  have bc' : Within 2081 (rn (134217729 * m) * 2 ^ e) := by rw [← rn_scale]; exact bc.rn
  obtain ⟨t, h2, ft, vt⟩ := subw fc hx vc ex bc' (ba.up (by omega)) (by omega)
  have bt := (bc'.sub (ba.up (by omega))).rn
  rw [← Int.sub_mul, rn_scale] at vt bt
  obtain ⟨h, h3, fh, vh⟩ := subw fc ft vc vt (bc'.up (by omega)) bt (by omega)
  have bh := ((bc'.up (by omega)).sub bt).rn
  rw [← Int.sub_mul, rn_scale] at vh bh
  obtain ⟨l, h4, fl, vl⟩ := subw hx fh ex vh (ba.up (by omega)) bh (by omega)
  rw [← Int.sub_mul, rn_scale] at vl
  exact ⟨h, l, ⟨c, t, h1, h2, h3, h4⟩, fh, fl, vh, by rw [vl]; congr 1; exact down_rep hm⟩

theorem mul_scaled {x y : Nat} {a b : Int} {d e f : Nat} (hx : Num x) (hy : Num y) (ex : val x = a * 2 ^ d) (ey : val y = b * 2 ^ e) (hf : d + e = 1074 + f) (hb : (a * b).natAbs ≤ 2 ^ 108) (hf' : f ≤ 1980) :
    ∃ r, Ieee.double.mul x y = some r ∧ Num r ∧ val r = rn (a * b) * 2 ^ f := by
  obtain ⟨r, h1, h2, h3⟩ := mul_val (z := a * b * 2 ^ f) hx hy (by
    rw [ex, ey, Int.mul_assoc, Int.mul_assoc (a * b), ← Int.pow_add, Nat.add_comm f, ← hf, Int.pow_add, Int.mul_left_comm (2 ^ d), ← Int.mul_assoc, ← Int.mul_assoc])
    (by
      rw [Int.natAbs_mul, Int.natAbs_pow]
      exact Nat.le_trans (Nat.mul_le_mul_right _ hb) (by rw [show (2 : Int).natAbs = 2 from rfl, ← Nat.pow_add]; exact Nat.pow_le_pow_right (by omega) (by omega)))
  exact ⟨r, h1, h2, by rw [h3, rn_scale]⟩

/-- PROD. -/
theorem prod_is {x y : Nat} {m n : Int} {d e f : Nat} (hx : Num x) (hy : Num y) (ex : val x = m * 2 ^ d) (ey : val y = n * 2 ^ e) (hm : Norm m) (hn : Norm n) (hd : d ≤ 2000) (he : e ≤ 2000) (hf : d + e = 1074 + f) (hf' : f ≤ 1980) :
    ∃ s r, (∀ w, Calls Try.prog 16 #[.float .f64 x, .float .f64 y] w fun e w' => e = .returned (pr s r) ∧ Below w.heap.size w w') ∧ Num s ∧ Num r ∧ val s = rn (m * n) * 2 ^ f ∧ val r = (m * n - rn (m * n)) * 2 ^ f := by
  obtain ⟨xh, xl, sx, fxh, fxl, vxh, vxl⟩ := split_val hx ex hm hd
  obtain ⟨yh, yl, sy, fyh, fyl, vyh, vyl⟩ := split_val hy ey hn he
  obtain ⟨p1, p2, p3, p4, p5, p6, p7, p8⟩ := prod_rest hm hn
  obtain ⟨k, k1, k2, k3⟩ := up_norm hm
  obtain ⟨j, j1, j2, j3⟩ := up_norm hn
  have bm : m.natAbs ≤ 2 ^ 53 := by rcases hm with h | h <;> omega
  have bn : n.natAbs ≤ 2 ^ 53 := by rcases hn with h | h <;> omega
  have bum : (up m).natAbs ≤ 2 ^ 53 := by omega
  have bun : (up n).natAbs ≤ 2 ^ 53 := by omega
  have q0 := mul_abs_le bm bn
  have q1 := mul_abs_le bum bun
  have q2 := mul_abs_le bum (Nat.le_trans j3 (by omega : 2 ^ 26 ≤ 2 ^ 53))
  have q3 := mul_abs_le (Nat.le_trans k3 (by omega : 2 ^ 26 ≤ 2 ^ 53)) bun
  have q4 := mul_abs_le (Nat.le_trans k3 (by omega : 2 ^ 26 ≤ 2 ^ 53)) (Nat.le_trans j3 (by omega : 2 ^ 26 ≤ 2 ^ 53))
  have e106 : 2 ^ 53 * 2 ^ 53 = 2 ^ 106 := by decide
  rw [e106] at q0 q1 q2 q3 q4
  obtain ⟨p, h0, fp, vp⟩ := mul_scaled hx hy ex ey hf (by omega) hf'
  obtain ⟨a, h1, fa, va⟩ := mul_scaled fxh fyh vxh vyh hf (by omega) hf'
  obtain ⟨b, h3, fb, vb⟩ := mul_scaled fxh fyl vxh vyl hf (by omega) hf'
  obtain ⟨c, h5, fc, vc⟩ := mul_scaled fxl fyh vxl vyh hf (by omega) hf'
  obtain ⟨g, h7, fg, vg⟩ := mul_scaled fxl fyl vxl vyl hf (by omega) hf'
  have bp := rn_abs_le q0
  rw [p1] at va; rw [p2] at vb; rw [p3] at vc; rw [p4] at vg
  clear vxh vxl vyh vyl ex ey
  generalize up m * up n = A at *
  generalize up m * (n - up n) = B at *
  generalize (m - up m) * up n = C at *
  generalize (m - up m) * (n - up n) = D at *
  generalize rn (m * n) = R at *
  have hw : ∀ {z : Int}, z.natAbs ≤ 2 ^ 109 → Within 2090 (z * 2 ^ f) := by
    intro z h
    unfold Within
    rw [Int.natAbs_mul, Int.natAbs_pow]
    exact Nat.le_trans (Nat.mul_le_mul_right _ h) (by rw [show (2 : Int).natAbs = 2 from rfl, ← Nat.pow_add]; exact Nat.pow_le_pow_right (by omega) (by omega))
  obtain ⟨r1, h2, f1, v1⟩ := subw fa fp va vp (hw (by omega)) (hw (by omega)) (by omega)
  rw [← Int.sub_mul, rn_scale, p5] at v1
  obtain ⟨r2, h4, f2, v2⟩ := addw f1 fb v1 vb (hw (by omega)) (hw (by omega)) (by omega)
  rw [← Int.add_mul, rn_scale, p6] at v2
  obtain ⟨r3, h6, f3, v3⟩ := addw f2 fc v2 vc (hw (by omega)) (hw (by omega)) (by omega)
  rw [← Int.add_mul, rn_scale, p7] at v3
  obtain ⟨r4, h8, f4, v4⟩ := addw f3 fg v3 vg (hw (by omega)) (hw (by omega)) (by omega)
  rw [← Int.add_mul, rn_scale, p8] at v4
  exact ⟨p, r4, fun w => prod_run w h0 sx sy h1 h2 h3 h4 h5 h6 h7 h8, fp, f4, vp, v4⟩

end Go.Proofs.Ytbknkcfnhfolpaa
