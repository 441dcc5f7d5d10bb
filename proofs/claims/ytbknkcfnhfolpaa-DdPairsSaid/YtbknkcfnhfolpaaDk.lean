/-
  ref05's Add and Cmp: what they return.
-/
import Derived.Test.YtbknkcfnhfolpaaDj
import Derived.Deep.DeepCutAuto
set_option exponentiation.threshold 3000
namespace Go.Proofs.Ytbknkcfnhfolpaa
open Go.RowKit Rn

/-- what a number is worth, in units of 2^-6000 -/
def nv (neg : Bool) (m : Nat) (e : Int) : Int := sg neg (m * 2 ^ (e + 6000).toNat)

theorem nv_low {neg : Bool} {m : Nat} {e low : Int} (h1 : -6000 ≤ low) (h2 : low ≤ e) : nv neg m e = nv neg (m * 2 ^ (e - low).toNat) low := by
  unfold nv
  rw [Nat.mul_assoc, ← Nat.pow_add, show (e - low).toNat + (low + 6000).toNat = (e + 6000).toNat by omega]
theorem nv_zero (neg : Bool) (e : Int) : nv neg 0 e = 0 := by unfold nv sg; split <;> simp
theorem nv_same (neg : Bool) (x y : Nat) (e : Int) : nv neg x e + nv neg y e = nv neg (x + y) e := by
  unfold nv; rw [Nat.add_mul]; unfold sg; split <;> simp <;> omega
theorem nv_diff {a b : Bool} {x y : Nat} {e : Int} (h : a ≠ b) (hy : y ≤ x) : nv a x e + nv b y e = nv a (x - y) e := by
  unfold nv
  rw [Nat.sub_mul]
  have := Nat.mul_le_mul_right (2 ^ (e + 6000).toNat) hy
  generalize x * 2 ^ (e + 6000).toNat = p at *
  generalize y * 2 ^ (e + 6000).toNat = q at *
  unfold sg
  cases a <;> cases b <;> simp at h ⊢ <;> omega
theorem nv_abs (neg : Bool) (m : Nat) (e : Int) : (nv neg m e).natAbs = m * 2 ^ (e + 6000).toNat := sg_natAbs _ _

/-- a size at which nothing runs out -/
def Bz (z : Int) : Prop := bl z.natAbs ≤ 100000
theorem Bz.sm {neg : Bool} {m : Nat} {e low : Int} (h : Bz (nv neg m e)) (h1 : -6000 ≤ low) (h2 : low ≤ e) : Sm (m * 2 ^ (e - low).toNat) := by
  rw [nv_low h1 h2] at h
  unfold Bz at h
  rw [nv_abs] at h
  have h3 : m * 2 ^ (e - low).toNat ≤ m * 2 ^ (e - low).toNat * 2 ^ (low + 6000).toNat := Nat.le_mul_of_pos_right _ (Nat.two_pow_pos _)
  have h4 : Sm (m * 2 ^ (e - low).toNat * 2 ^ (low + 6000).toNat) := Nat.le_trans h (by decide)
  exact h4.mono h3

/-- A number in memory, by its worth. -/
def NZ (w : World) (v : Value) (z lo : Int) : Prop := ∃ ng m e, IsN w v ng m e ∧ lo ≤ e ∧ e ≤ 6000 ∧ nv ng m e = z
theorem NZ.below {w w' : World} {v : Value} {z lo : Int} (h : NZ w v z lo) (hb : Below w.heap.size w w') : NZ w' v z lo := by
  obtain ⟨ng, m, e, h1, h2⟩ := h; exact ⟨ng, m, e, h1.below hb, h2⟩
theorem IsN.alloc {w : World} {v : Value} {neg : Bool} {m : Nat} {e : Int} (h : IsN w v neg m e) (o : Obj) : IsN (w.alloc o) v neg m e := by
  obtain ⟨s, rfl, hs⟩ := h; exact ⟨s, rfl, hs.alloc o⟩
theorem NZ.alloc {w : World} {v : Value} {z lo : Int} (h : NZ w v z lo) (o : Obj) : NZ (w.alloc o) v z lo := by
  obtain ⟨ng, m, e, h1, h2⟩ := h; exact ⟨ng, m, e, h1.alloc o, h2⟩
def RetNZ (z lo : Int) (w : World) (q : Ending) (w' : World) : Prop := ∃ v, q = .returned v ∧ NZ w' v z lo ∧ Below w.heap.size w w'

theorem Dg.drew {w : World} {v : Value} {n : Nat} (h : Dg w v n) : Dg w.drew v n := h

theorem st3_far {w : World} {R g o : Nat} {a b c u : Value} (h : R ≠ g) (hc : w.cell? ⟨g, o, none⟩ = some u) : (((w.setCell ⟨R, 0, none⟩ a).setCell ⟨R, 1, none⟩ b).setCell ⟨R, 2, none⟩ c).cell? ⟨g, o, none⟩ = some u := by
  have key : ∀ i, (⟨R, i, none⟩ : Addr) ≠ ⟨g, o, none⟩ := fun i he => h (by injection he)
  rw [World.cell?_setCell_other _ _ _ _ (key 2), World.cell?_setCell_other _ _ _ _ (key 1), World.cell?_setCell_other _ _ _ _ (key 0)]
  exact hc

/-- Add's memory -/
structure AddM (na nb : Bool) (sa sb : Value) (ea eb : Int) (ma mb : Nat) (w wr : World) : Prop where
  x : Blk wr w.heap.size 32 #[.bool na, sa, .int .i64 ea]
  y : Blk wr (w.heap.size + 1) 32 #[.bool nb, sb, .int .i64 eb]
  r : Blk wr (w.heap.size + 2) 32 #[.bool false, .slice none 0 0, .int .i64 0]
  a : Dg wr sa ma
  c : Dg wr sb mb
  b : Below w.heap.size w wr
theorem AddM.below {na nb : Bool} {sa sb : Value} {ea eb : Int} {ma mb : Nat} {w wr w' : World} (h : AddM na nb sa sb ea eb ma mb w wr) (hb : Below wr.heap.size wr w') : AddM na nb sa sb ea eb ma mb w w' :=
  ⟨h.x.below hb, h.y.below hb, h.r.below hb, h.a.below hb, h.c.below hb, h.b.trans (hb.mono h.b.size)⟩
theorem AddM.drew {na nb : Bool} {sa sb : Value} {ea eb : Int} {ma mb : Nat} {w wr : World} (h : AddM na nb sa sb ea eb ma mb w wr) : AddM na nb sa sb ea eb ma mb w wr.drew :=
  ⟨h.x, h.y, h.r, h.a, h.c, below_drewN' h.b 1⟩
theorem AddM.start {na nb : Bool} {sa sb : Value} {ea eb : Int} {ma mb : Nat} {w : World} (ha : Dg w sa ma) (hc : Dg w sb mb) :
    AddM na nb sa sb ea eb ma mb w (((w.alloc (.cells #[.bool na, sa, .int .i64 ea] 32)).alloc (.cells #[.bool nb, sb, .int .i64 eb] 32)).alloc (.cells #[.bool false, .slice none 0 0, .int .i64 0] 32)) := by
  refine ⟨((Blk.new w 32 _).alloc _).alloc _, ?_, ?_, ((ha.alloc _).alloc _).alloc _, ((hc.alloc _).alloc _).alloc _, (((Below.refl _ _).alloc (Nat.le_refl _) _).alloc (by simp) _).alloc (by simp; omega) _⟩
  · have := Blk.new (w.alloc (.cells #[.bool na, sa, .int .i64 ea] 32)) 32 #[.bool nb, sb, .int .i64 eb]
    rw [show (w.alloc (.cells #[.bool na, sa, .int .i64 ea] 32)).heap.size = w.heap.size + 1 by simp] at this
    exact this.alloc _
  · have := Blk.new ((w.alloc (.cells #[.bool na, sa, .int .i64 ea] 32)).alloc (.cells #[.bool nb, sb, .int .i64 eb] 32)) 32 #[.bool false, .slice none 0 0, .int .i64 0]
    rw [show ((w.alloc (.cells #[.bool na, sa, .int .i64 ea] 32)).alloc (.cells #[.bool nb, sb, .int .i64 eb] 32)).heap.size = w.heap.size + 2 by simp] at this
    exact this

theorem AddM.cells {na nb : Bool} {sa sb : Value} {ea eb : Int} {ma mb : Nat} {w wr : World} (h : AddM na nb sa sb ea eb ma mb w wr) :
    wr.cell? ⟨w.heap.size, 1, none⟩ = some sa ∧ wr.cell? ⟨w.heap.size, 2, none⟩ = some (.int .i64 ea) ∧ wr.cell? ⟨w.heap.size + 1, 1, none⟩ = some sb ∧ wr.cell? ⟨w.heap.size + 1, 2, none⟩ = some (.int .i64 eb) :=
  ⟨h.x.at 1 sa rfl, h.x.at 2 (.int .i64 ea) rfl, h.y.at 1 sb rfl, h.y.at 2 (.int .i64 eb) rfl⟩

theorem AddM.rcells {na nb : Bool} {sa sb : Value} {ea eb : Int} {ma mb : Nat} {w wr : World} (h : AddM na nb sa sb ea eb ma mb w wr) :
    wr.cell? ⟨w.heap.size + 2, 0, none⟩ = some (.bool false) ∧ wr.cell? ⟨w.heap.size + 2, 1, none⟩ = some (.slice none 0 0) ∧ wr.cell? ⟨w.heap.size + 2, 2, none⟩ = some (.int .i64 0) ∧ wr.frozen? ⟨w.heap.size + 2, 0, none⟩ = false ∧ wr.frozen? ⟨w.heap.size + 2, 1, none⟩ = false ∧ wr.frozen? ⟨w.heap.size + 2, 2, none⟩ = false :=
  ⟨h.r.at 0 (.bool false) rfl, h.r.at 1 (.slice none 0 0) rfl, h.r.at 2 (.int .i64 0) rfl, h.r.frozen 0, h.r.frozen 1, h.r.frozen 2⟩

/-- what is stored at the end -/
theorem AddM.fin {na nb : Bool} {sa sb : Value} {ea eb : Int} {ma mb : Nat} {w wr : World} (h : AddM na nb sa sb ea eb ma mb w wr) {ng : Bool} {s : Value} {e : Int} {m : Nat} (hd : Dg wr s m) :
    Blk (((wr.setCell ⟨w.heap.size + 2, 0, none⟩ (.bool ng)).setCell ⟨w.heap.size + 2, 1, none⟩ s).setCell ⟨w.heap.size + 2, 2, none⟩ (.int .i64 e)) (w.heap.size + 2) 32 #[.bool ng, s, .int .i64 e] ∧
    Below w.heap.size w (((wr.setCell ⟨w.heap.size + 2, 0, none⟩ (.bool ng)).setCell ⟨w.heap.size + 2, 1, none⟩ s).setCell ⟨w.heap.size + 2, 2, none⟩ (.int .i64 e)) ∧
    IsN (((wr.setCell ⟨w.heap.size + 2, 0, none⟩ (.bool ng)).setCell ⟨w.heap.size + 2, 1, none⟩ s).setCell ⟨w.heap.size + 2, 2, none⟩ (.int .i64 e)) (.agg #[.bool ng, s, .int .i64 e]) ng m e := by
  obtain ⟨p1, p2⟩ := fin3 h.r h.b (by omega) (.bool ng) s (.int .i64 e)
  exact ⟨p1, p2, _, rfl, hd.st3 ⟨_, _, _, _, h.r, _, _, _, rfl⟩ _ _ _⟩

set_option maxHeartbeats 4000000 in
theorem add_zero1 {na nb : Bool} {sa sb : Value} {ea eb : Int} {mb : Nat} {w : World} (ha : Dg w sa 0) (hc : Dg w sb mb) :
    Calls Try.prog 20 #[.agg #[.bool na, sa, .int .i64 ea], .agg #[.bool nb, sb, .int .i64 eb]] w fun q w' => q = .returned (.agg #[.bool nb, sb, .int .i64 eb]) ∧ Dg w' sb mb ∧ Below w.heap.size w w' := by
  have HA := Lib.hid ha
  have HB := Lib.hid hc
  obtain ⟨a, k, c, rfl, hk⟩ := ha.form
  obtain ⟨a', k', c', rfl, hk'⟩ := hc.form
  obtain rfl : k = 0 := hk.1 rfl
  clear ha hc hk hk'
  go_enter Try.func20, Try.ntmps20
  go_wp2
  exact bodyPost_ret (v := .agg #[.bool nb, .slice a' k' c', .int .i64 eb]) (by simp [results, Try.results20, go_sem]) rfl
    ⟨rfl, ((HB.out.alloc _).alloc _).alloc _, (((Below.refl _ _).alloc (Nat.le_refl _) _).alloc (by simp) _).alloc (by simp; omega) _⟩

set_option maxHeartbeats 4000000 in
theorem add_zero2 {na nb : Bool} {sa sb : Value} {ea eb : Int} {ma : Nat} {w : World} (ha : Dg w sa ma) (h0 : ma ≠ 0) (hc : Dg w sb 0) :
    Calls Try.prog 20 #[.agg #[.bool na, sa, .int .i64 ea], .agg #[.bool nb, sb, .int .i64 eb]] w fun q w' => q = .returned (.agg #[.bool na, sa, .int .i64 ea]) ∧ Dg w' sa ma ∧ Below w.heap.size w w' := by
  have HA := Lib.hid ha
  obtain ⟨a, k, c, rfl, hk⟩ := ha.form
  obtain ⟨a', k', c', rfl, hk'⟩ := hc.form
  obtain rfl : k' = 0 := hk'.1 rfl
  have hk0 : k ≠ 0 := fun h => h0 (hk.2 h)
  have e1 : ((k : Int) == 0) = false := by rw [beq_eq_false_iff_ne]; omega
  clear ha hc hk hk' hk0 h0
  go_enter Try.func20, Try.ntmps20
  go_wp2
  exact bodyPost_ret (v := .agg #[.bool na, .slice a k c, .int .i64 ea]) (by simp [results, Try.results20, go_sem]) rfl
    ⟨rfl, ((HA.out.alloc _).alloc _).alloc _, (((Below.refl _ _).alloc (Nat.le_refl _) _).alloc (by simp) _).alloc (by simp; omega) _⟩

/-- both are not 0: the places are made one -/
structure AddL (na nb : Bool) (sa sb : Value) (ea eb : Int) (ma mb : Nat) (x y : Nat) (w wr : World) (s t : Value) : Prop where
  m : AddM na nb sa sb ea eb ma mb w wr
  s : Dg wr s x
  t : Dg wr t y
theorem AddL.below {na nb : Bool} {sa sb : Value} {ea eb : Int} {ma mb x y : Nat} {w wr w' : World} {s t : Value} (h : AddL na nb sa sb ea eb ma mb x y w wr s t) (hb : Below wr.heap.size wr w') : AddL na nb sa sb ea eb ma mb x y w w' s t :=
  ⟨h.m.below hb, h.s.below hb, h.t.below hb⟩

set_option maxHeartbeats 8000000 in
theorem add_some {na nb : Bool} {sa sb : Value} {ea eb : Int} {ma mb : Nat} {w : World} (ha : Dg w sa ma) (hc : Dg w sb mb) (h0 : ma ≠ 0) (k0 : mb ≠ 0) (hea : -6000 ≤ ea ∧ ea ≤ 6000) (heb : -6000 ≤ eb ∧ eb ≤ 6000)
    (la : Sm (ma * 2 ^ (ea - min ea eb).toNat)) (lb : Sm (mb * 2 ^ (eb - min ea eb).toNat)) :
    Calls Try.prog 20 #[.agg #[.bool na, sa, .int .i64 ea], .agg #[.bool nb, sb, .int .i64 eb]] w (RetNZ (nv na ma ea + nv nb mb eb) (min ea eb) w) := by
  have ST := Lib.hid (AddM.start (na := na) (nb := nb) (ea := ea) (eb := eb) ha hc)
  obtain ⟨a, k, c, rfl, hk⟩ := ha.form
  obtain ⟨a', k', c', rfl, hk'⟩ := hc.form
  have hk0 : k ≠ 0 := fun h => h0 (hk.2 h)
  have hk0' : k' ≠ 0 := fun h => k0 (hk'.2 h)
  have e1 : ((k : Int) == 0) = false := by rw [beq_eq_false_iff_ne]; omega
  have e2 : ((k' : Int) == 0) = false := by rw [beq_eq_false_iff_ne]; omega
  obtain ⟨ea1, ea2⟩ := hea
  obtain ⟨eb1, eb2⟩ := heb
  clear ha hc hk hk' hk0 hk0' h0 k0
  obtain ⟨low, hlow, hor⟩ : ∃ low, min ea eb = low ∧ (low = eb ∧ eb < ea ∨ low = ea ∧ ¬ eb < ea) := ⟨_, rfl, by omega⟩
  rw [hlow] at la lb ⊢
  have hl1 : low ≤ ea := by omega
  have hl2 : low ≤ eb := by omega
  have hl3 : -6000 ≤ low := by omega
  obtain ⟨p, hp⟩ := Int.eq_ofNat_of_zero_le (a := ea - low) (by omega)
  obtain ⟨q, hq⟩ := Int.eq_ofNat_of_zero_le (a := eb - low) (by omega)
  have hsum : nv na ma ea + nv nb mb eb = nv na (ma * 2 ^ p) low + nv nb (mb * 2 ^ q) low := by
    rw [nv_low hl3 hl1, nv_low hl3 hl2, hp, hq]; rfl
  rw [hp] at la; rw [hq] at lb
  rw [Int.toNat_natCast] at la lb
  rw [hsum]
  have hpb : p ≤ 12000 := by omega
  have hqb : q ≤ 12000 := by omega
  have LA := Lib.hid la
  have LB := Lib.hid lb
  have HP := Lib.hid hp
  have HQ := Lib.hid hq
  clear hlow hsum hl1 hl2 la lb hp hq
  go_enter Try.func20, Try.ntmps20
  go_upto_region 1 with (fail)
  generalize (World.alloc (World.alloc (World.alloc _ _) _) _) = w1 at ST ⊢
  have x0 := ST.out.x.at 0 (.bool na) rfl
  have x1 := ST.out.x.at 1 (.slice a k c) rfl
  have x2 := ST.out.x.at 2 (.int .i64 ea) rfl
  have y0 := ST.out.y.at 0 (.bool nb) rfl
  have y1 := ST.out.y.at 1 (.slice a' k' c') rfl
  have y2 := ST.out.y.at 2 (.int .i64 eb) rfl
  have wp : IntKind.i64.wrap (ea - low) = (p : Int) := by rw [HP.out]; exact IntWalk.i64_in _ (by omega)
  have wq : IntKind.i64.wrap (eb - low) = (q : Int) := by rw [HQ.out]; exact IntWalk.i64_in _ (by omega)
  have zp : ea - low = (p : Int) := HP.out
  have zq : eb - low = (q : Int) := HQ.out
  rcases hor with ⟨hl, hlt⟩ | ⟨hl, hlt⟩
  · subst hl
    obtain rfl : q = 0 := by omega
    clear wp wq zp zq
    have zp : ea - low = (p : Int) := HP.out
    have CA : Hid (∀ w (h : Dg w (.slice a k c) ma), Calls Try.prog 35 #[(.slice a k c), .int .i64 p] w fun e w' => ∃ u, e = .returned u ∧ Dg w' u (ma * 2 ^ p) ∧ Below w.heap.size w w') := fun w h => shl_any h p LA.out (by omega)
    have CB : Hid (∀ w (h : Dg w (.slice a' k' c') mb), Calls Try.prog 35 #[(.slice a' k' c'), .int .i64 0] w fun e w' => ∃ u, e = .returned u ∧ Dg w' u (mb * 2 ^ 0) ∧ Below w.heap.size w w') := fun w h => shl_any h 0 LB.out (by omega)
    have w0 : IntKind.i64.wrap 0 = 0 := rfl
    have w1' : IntKind.i64.wrap (p : Int) = p := IntWalk.i64_in _ (by omega)
    go_upto_region 8 with (fail)
    go_cut [6, 7] (fun s t wx => Hid (AddL na nb (.slice a k c) (.slice a' k' c') ea low ma mb (ma * 2 ^ p) (mb * 2 ^ 0) w wx s t))
    case first =>
      go_region_held3 (fun w' => w'.cell? ⟨w.heap.size, 1, none⟩ = some (.slice a k c) ∧ w'.cell? ⟨w.heap.size, 2, none⟩ = some (.int .i64 ea) ∧ w'.cell? ⟨w.heap.size + 1, 1, none⟩ = some (.slice a' k' c') ∧ w'.cell? ⟨w.heap.size + 1, 2, none⟩ = some (.int .i64 low)) (first | exact ⟨x1, x2, y1, y2⟩ | exact FA.out | exact FB.out | exact FC.out) (first | (go_at_call 35; (with_reducible refine (CB.out _ SA.out.1.c).mono ?_); rintro r w3 ⟨t, rfl, hd, hb⟩; have HL := Lib.hid (AddL.mk (SA.out.1.below hb) (SA.out.2.below hb) hd); have FC := Lib.hid (HL.out.m.cells)) | (go_at_call 35; (with_reducible refine (CA.out _ SB.out.1.a).mono ?_); rintro r w3 ⟨s, rfl, hd, hb⟩; have HL := Lib.hid (AddL.mk (SB.out.1.below hb) hd (SB.out.2.below hb)); have FC := Lib.hid (HL.out.m.cells)) | (go_at_call 35; (with_reducible refine (CA.out _ ST.out.drew.a).mono ?_); rintro r w2 ⟨s, rfl, hd, hb⟩; have SA := Lib.hid (And.intro (ST.out.drew.below hb) hd); have FA := Lib.hid SA.out.1.cells) | (go_at_call 35; (with_reducible refine (CB.out _ ST.out.drew.c).mono ?_); rintro r w2 ⟨t, rfl, hd, hb⟩; have SB := Lib.hid (And.intro (ST.out.drew.below hb) hd); have FB := Lib.hid SB.out.1.cells))
      all_goals go_wp2_with fail
      all_goals go_meet
      all_goals exact HL
    case rest =>
      clear x0 x1 x2 y0 y1 y2 CA CB w0 w1' ST
      generalize ma * 2 ^ p = x at *
      generalize mb * 2 ^ 0 = y at *
      have HC := hcut
      clear hcut
      obtain ⟨s1, s2, s3, rfl, -⟩ := HC.out.s.form
      obtain ⟨t1, t2, t3, rfl, -⟩ := HC.out.t.form
      have x0 := HC.out.m.x.at 0 (.bool na) rfl
      have y0 := HC.out.m.y.at 0 (.bool nb) rfl
      by_cases hn : na = nb
      · subst hn
        have HADD : Hid (∀ w (h : Dg w (.slice s1 s2 s3) x) (k : Dg w (.slice t1 t2 t3) y), Calls Try.prog 36 #[.slice s1 s2 s3, .slice t1 t2 t3] w fun e w' => ∃ u, e = .returned u ∧ Dg w' u (x + y) ∧ Below w.heap.size w w') := fun w h k => add_any h k LA.out LB.out
        have HF := Lib.hid (HC.out.m.drew)
        have f1 := HF.out.x.at 0 (.bool na) rfl
        have f2 := HC.out.m.x.at 0 (.bool na) rfl
        go_wp2_with fail
        go_region_held3 (fun w' => w'.cell? ⟨w.heap.size, 0, none⟩ = some (.bool na)) (first | exact f2 | exact f1 | exact FD.out | exact st3_far (by omega) FD.out) (first | (go_at_call 36; (with_reducible refine (HADD.out _ HC.out.s.drew HC.out.t.drew).mono ?_); rintro r w3 ⟨u, rfl, hd, hb⟩; obtain ⟨ua, uk, uc, rfl, -⟩ := hd.form; have HM := Lib.hid (HF.out.below hb); have HU := Lib.hid hd; have FD := Lib.hid (HM.out.x.at 0 (.bool na) rfl); obtain ⟨r0, r1, r2, z0, z1, z2⟩ := HM.out.rcells))
        go_wp2
        obtain ⟨p1, p2, p3⟩ := HM.out.fin (ng := na) (e := low) HU.out
        generalize (World.setCell (World.setCell (World.setCell _ _ _) _ _) _ _) = W at p1 p2 p3 ⊢
        obtain ⟨g0, g1, g2⟩ := results_agg3 p1
        exact bodyPost_ret (v := .agg #[.bool na, .slice ua uk uc, .int .i64 low]) (by simp [results, Try.results20, go_sem, g0, g1, g2]) rfl ⟨_, rfl, ⟨na, x + y, low, p3, Int.le_refl _, by omega, (nv_same _ _ _ _).symm⟩, p2⟩
      · have hne : (na == nb) = false := by cases na <;> cases nb <;> simp_all
        have HNE := Lib.hid hn
        clear hn
        go_wp2_with fail
        refine (cmp_any HC.out.s HC.out.t LA.out).mono ?_
        rintro r w4 ⟨rfl, hb4⟩
        have HC' := Lib.hid (HC.out.below hb4)
        clear HC hb4 x0 y0
        have HC := HC'
        clear HC'
        have x0 := HC.out.m.x.at 0 (.bool na) rfl
        have y0 := HC.out.m.y.at 0 (.bool nb) rfl
        by_cases hxy : y ≤ x
        · have hcm : Hid (cmpN x y = 0 ∨ cmpN x y = 1) := by
            rcases Nat.lt_or_eq_of_le hxy with h | h
            · exact .inr (cmpN_gt h)
            · exact .inl (cmpN_eq h.symm)
          have HSUB : Hid (∀ w (h : Dg w (.slice s1 s2 s3) x) (k : Dg w (.slice t1 t2 t3) y), Calls Try.prog 38 #[.slice s1 s2 s3, .slice t1 t2 t3] w fun e w' => ∃ u, e = .returned u ∧ Dg w' u (x - y) ∧ Below w.heap.size w w') := fun w h k => sub_any h k LA.out hxy
          have HEQ := Lib.hid (nv_diff (e := low) HNE.out hxy).symm
          clear hxy
          rcases hcm.out with h | h
          all_goals
            rw [h]
            clear h hcm
            have HF := Lib.hid (HC.out.m.drew)
            have f1 := HF.out.x.at 0 (.bool na) rfl
            have f2 := HC.out.m.x.at 0 (.bool na) rfl
            go_wp2_with fail
            go_region_held3 (fun w' => w'.cell? ⟨w.heap.size, 0, none⟩ = some (.bool na)) (first | exact f2 | exact f1 | exact FD.out | exact st3_far (by omega) FD.out) (first | (go_at_call 38; (with_reducible refine (HSUB.out _ HC.out.s.drew HC.out.t.drew).mono ?_); rintro r w3 ⟨u, rfl, hd, hb⟩; obtain ⟨ua, uk, uc, rfl, -⟩ := hd.form; have HM := Lib.hid (HF.out.below hb); have HU := Lib.hid hd; have FD := Lib.hid (HM.out.x.at 0 (.bool na) rfl); obtain ⟨r0, r1, r2, z0, z1, z2⟩ := HM.out.rcells))
            go_wp2
            obtain ⟨p1, p2, p3⟩ := HM.out.fin (ng := na) (e := low) HU.out
            generalize (World.setCell (World.setCell (World.setCell _ _ _) _ _) _ _) = W at p1 p2 p3 ⊢
            obtain ⟨g0, g1, g2⟩ := results_agg3 p1
            exact bodyPost_ret (v := .agg #[.bool na, .slice ua uk uc, .int .i64 low]) (by simp [results, Try.results20, go_sem, g0, g1, g2]) rfl ⟨_, rfl, ⟨na, x - y, low, p3, Int.le_refl _, by omega, HEQ.out⟩, p2⟩
        · have hcm : cmpN x y = -1 := cmpN_lt (by omega)
          have hyx : x ≤ y := by omega
          have HSUB : Hid (∀ w (h : Dg w (.slice t1 t2 t3) y) (k : Dg w (.slice s1 s2 s3) x), Calls Try.prog 38 #[.slice t1 t2 t3, .slice s1 s2 s3] w fun e w' => ∃ u, e = .returned u ∧ Dg w' u (y - x) ∧ Below w.heap.size w w') := fun w h k => sub_any h k LB.out hyx
          have HEQ := Lib.hid ((Int.add_comm _ _).trans (nv_diff (e := low) (fun h => HNE.out h.symm) hyx)).symm
          clear hxy hyx
          rw [hcm]
          clear hcm
          have HF := Lib.hid (HC.out.m.drew)
          have f1 := HF.out.y.at 0 (.bool nb) rfl
          have f2 := HC.out.m.y.at 0 (.bool nb) rfl
          go_wp2_with fail
          go_region_held3 (fun w' => w'.cell? ⟨w.heap.size + 1, 0, none⟩ = some (.bool nb)) (first | exact f2 | exact f1 | exact FD.out | exact st3_far (by omega) FD.out) (first | (go_at_call 38; (with_reducible refine (HSUB.out _ HC.out.t.drew HC.out.s.drew).mono ?_); rintro r w3 ⟨u, rfl, hd, hb⟩; obtain ⟨ua, uk, uc, rfl, -⟩ := hd.form; have HM := Lib.hid (HF.out.below hb); have HU := Lib.hid hd; have FD := Lib.hid (HM.out.y.at 0 (.bool nb) rfl); obtain ⟨r0, r1, r2, z0, z1, z2⟩ := HM.out.rcells))
          go_wp2
          obtain ⟨p1, p2, p3⟩ := HM.out.fin (ng := nb) (e := low) HU.out
          generalize (World.setCell (World.setCell (World.setCell _ _ _) _ _) _ _) = W at p1 p2 p3 ⊢
          obtain ⟨g0, g1, g2⟩ := results_agg3 p1
          exact bodyPost_ret (v := .agg #[.bool nb, .slice ua uk uc, .int .i64 low]) (by simp [results, Try.results20, go_sem, g0, g1, g2]) rfl ⟨_, rfl, ⟨nb, y - x, low, p3, Int.le_refl _, by omega, HEQ.out⟩, p2⟩
  · subst hl
    obtain rfl : p = 0 := by omega
    clear wp wq zp zq
    have zq : eb - low = (q : Int) := HQ.out
    have CA : Hid (∀ w (h : Dg w (.slice a k c) ma), Calls Try.prog 35 #[(.slice a k c), .int .i64 0] w fun e w' => ∃ u, e = .returned u ∧ Dg w' u (ma * 2 ^ 0) ∧ Below w.heap.size w w') := fun w h => shl_any h 0 LA.out (by omega)
    have CB : Hid (∀ w (h : Dg w (.slice a' k' c') mb), Calls Try.prog 35 #[(.slice a' k' c'), .int .i64 q] w fun e w' => ∃ u, e = .returned u ∧ Dg w' u (mb * 2 ^ q) ∧ Below w.heap.size w w') := fun w h => shl_any h q LB.out (by omega)
    have w0 : IntKind.i64.wrap 0 = 0 := rfl
    have w1' : IntKind.i64.wrap (q : Int) = q := IntWalk.i64_in _ (by omega)
    go_upto_region 8 with (fail)
    go_cut [6, 7] (fun s t wx => Hid (AddL na nb (.slice a k c) (.slice a' k' c') low eb ma mb (ma * 2 ^ 0) (mb * 2 ^ q) w wx s t))
    case first =>
      go_region_held3 (fun w' => w'.cell? ⟨w.heap.size, 1, none⟩ = some (.slice a k c) ∧ w'.cell? ⟨w.heap.size, 2, none⟩ = some (.int .i64 low) ∧ w'.cell? ⟨w.heap.size + 1, 1, none⟩ = some (.slice a' k' c') ∧ w'.cell? ⟨w.heap.size + 1, 2, none⟩ = some (.int .i64 eb)) (first | exact ⟨x1, x2, y1, y2⟩ | exact FA.out | exact FB.out | exact FC.out) (first | (go_at_call 35; (with_reducible refine (CB.out _ SA.out.1.c).mono ?_); rintro r w3 ⟨t, rfl, hd, hb⟩; have HL := Lib.hid (AddL.mk (SA.out.1.below hb) (SA.out.2.below hb) hd); have FC := Lib.hid (HL.out.m.cells)) | (go_at_call 35; (with_reducible refine (CA.out _ SB.out.1.a).mono ?_); rintro r w3 ⟨s, rfl, hd, hb⟩; have HL := Lib.hid (AddL.mk (SB.out.1.below hb) hd (SB.out.2.below hb)); have FC := Lib.hid (HL.out.m.cells)) | (go_at_call 35; (with_reducible refine (CA.out _ ST.out.drew.a).mono ?_); rintro r w2 ⟨s, rfl, hd, hb⟩; have SA := Lib.hid (And.intro (ST.out.drew.below hb) hd); have FA := Lib.hid SA.out.1.cells) | (go_at_call 35; (with_reducible refine (CB.out _ ST.out.drew.c).mono ?_); rintro r w2 ⟨t, rfl, hd, hb⟩; have SB := Lib.hid (And.intro (ST.out.drew.below hb) hd); have FB := Lib.hid SB.out.1.cells))
      all_goals go_wp2_with fail
      all_goals go_meet
      all_goals exact HL
    case rest =>
      clear x0 x1 x2 y0 y1 y2 CA CB w0 w1' ST
      generalize ma * 2 ^ 0 = x at *
      generalize mb * 2 ^ q = y at *
      have HC := hcut
      clear hcut
      obtain ⟨s1, s2, s3, rfl, -⟩ := HC.out.s.form
      obtain ⟨t1, t2, t3, rfl, -⟩ := HC.out.t.form
      have x0 := HC.out.m.x.at 0 (.bool na) rfl
      have y0 := HC.out.m.y.at 0 (.bool nb) rfl
      by_cases hn : na = nb
      · subst hn
        have HADD : Hid (∀ w (h : Dg w (.slice s1 s2 s3) x) (k : Dg w (.slice t1 t2 t3) y), Calls Try.prog 36 #[.slice s1 s2 s3, .slice t1 t2 t3] w fun e w' => ∃ u, e = .returned u ∧ Dg w' u (x + y) ∧ Below w.heap.size w w') := fun w h k => add_any h k LA.out LB.out
        have HF := Lib.hid (HC.out.m.drew)
        have f1 := HF.out.x.at 0 (.bool na) rfl
        have f2 := HC.out.m.x.at 0 (.bool na) rfl
        go_wp2_with fail
        go_region_held3 (fun w' => w'.cell? ⟨w.heap.size, 0, none⟩ = some (.bool na)) (first | exact f2 | exact f1 | exact FD.out | exact st3_far (by omega) FD.out) (first | (go_at_call 36; (with_reducible refine (HADD.out _ HC.out.s.drew HC.out.t.drew).mono ?_); rintro r w3 ⟨u, rfl, hd, hb⟩; obtain ⟨ua, uk, uc, rfl, -⟩ := hd.form; have HM := Lib.hid (HF.out.below hb); have HU := Lib.hid hd; have FD := Lib.hid (HM.out.x.at 0 (.bool na) rfl); obtain ⟨r0, r1, r2, z0, z1, z2⟩ := HM.out.rcells))
        go_wp2
        obtain ⟨p1, p2, p3⟩ := HM.out.fin (ng := na) (e := low) HU.out
        generalize (World.setCell (World.setCell (World.setCell _ _ _) _ _) _ _) = W at p1 p2 p3 ⊢
        obtain ⟨g0, g1, g2⟩ := results_agg3 p1
        exact bodyPost_ret (v := .agg #[.bool na, .slice ua uk uc, .int .i64 low]) (by simp [results, Try.results20, go_sem, g0, g1, g2]) rfl ⟨_, rfl, ⟨na, x + y, low, p3, Int.le_refl _, by omega, (nv_same _ _ _ _).symm⟩, p2⟩
      · have hne : (na == nb) = false := by cases na <;> cases nb <;> simp_all
        have HNE := Lib.hid hn
        clear hn
        go_wp2_with fail
        refine (cmp_any HC.out.s HC.out.t LA.out).mono ?_
        rintro r w4 ⟨rfl, hb4⟩
        have HC' := Lib.hid (HC.out.below hb4)
        clear HC hb4 x0 y0
        have HC := HC'
        clear HC'
        have x0 := HC.out.m.x.at 0 (.bool na) rfl
        have y0 := HC.out.m.y.at 0 (.bool nb) rfl
        by_cases hxy : y ≤ x
        · have hcm : Hid (cmpN x y = 0 ∨ cmpN x y = 1) := by
            rcases Nat.lt_or_eq_of_le hxy with h | h
            · exact .inr (cmpN_gt h)
            · exact .inl (cmpN_eq h.symm)
          have HSUB : Hid (∀ w (h : Dg w (.slice s1 s2 s3) x) (k : Dg w (.slice t1 t2 t3) y), Calls Try.prog 38 #[.slice s1 s2 s3, .slice t1 t2 t3] w fun e w' => ∃ u, e = .returned u ∧ Dg w' u (x - y) ∧ Below w.heap.size w w') := fun w h k => sub_any h k LA.out hxy
          have HEQ := Lib.hid (nv_diff (e := low) HNE.out hxy).symm
          clear hxy
          rcases hcm.out with h | h
          all_goals
            rw [h]
            clear h hcm
            have HF := Lib.hid (HC.out.m.drew)
            have f1 := HF.out.x.at 0 (.bool na) rfl
            have f2 := HC.out.m.x.at 0 (.bool na) rfl
            go_wp2_with fail
            go_region_held3 (fun w' => w'.cell? ⟨w.heap.size, 0, none⟩ = some (.bool na)) (first | exact f2 | exact f1 | exact FD.out | exact st3_far (by omega) FD.out) (first | (go_at_call 38; (with_reducible refine (HSUB.out _ HC.out.s.drew HC.out.t.drew).mono ?_); rintro r w3 ⟨u, rfl, hd, hb⟩; obtain ⟨ua, uk, uc, rfl, -⟩ := hd.form; have HM := Lib.hid (HF.out.below hb); have HU := Lib.hid hd; have FD := Lib.hid (HM.out.x.at 0 (.bool na) rfl); obtain ⟨r0, r1, r2, z0, z1, z2⟩ := HM.out.rcells))
            go_wp2
            obtain ⟨p1, p2, p3⟩ := HM.out.fin (ng := na) (e := low) HU.out
            generalize (World.setCell (World.setCell (World.setCell _ _ _) _ _) _ _) = W at p1 p2 p3 ⊢
            obtain ⟨g0, g1, g2⟩ := results_agg3 p1
            exact bodyPost_ret (v := .agg #[.bool na, .slice ua uk uc, .int .i64 low]) (by simp [results, Try.results20, go_sem, g0, g1, g2]) rfl ⟨_, rfl, ⟨na, x - y, low, p3, Int.le_refl _, by omega, HEQ.out⟩, p2⟩
        · have hcm : cmpN x y = -1 := cmpN_lt (by omega)
          have hyx : x ≤ y := by omega
          have HSUB : Hid (∀ w (h : Dg w (.slice t1 t2 t3) y) (k : Dg w (.slice s1 s2 s3) x), Calls Try.prog 38 #[.slice t1 t2 t3, .slice s1 s2 s3] w fun e w' => ∃ u, e = .returned u ∧ Dg w' u (y - x) ∧ Below w.heap.size w w') := fun w h k => sub_any h k LB.out hyx
          have HEQ := Lib.hid ((Int.add_comm _ _).trans (nv_diff (e := low) (fun h => HNE.out h.symm) hyx)).symm
          clear hxy hyx
          rw [hcm]
          clear hcm
          have HF := Lib.hid (HC.out.m.drew)
          have f1 := HF.out.y.at 0 (.bool nb) rfl
          have f2 := HC.out.m.y.at 0 (.bool nb) rfl
          go_wp2_with fail
          go_region_held3 (fun w' => w'.cell? ⟨w.heap.size + 1, 0, none⟩ = some (.bool nb)) (first | exact f2 | exact f1 | exact FD.out | exact st3_far (by omega) FD.out) (first | (go_at_call 38; (with_reducible refine (HSUB.out _ HC.out.t.drew HC.out.s.drew).mono ?_); rintro r w3 ⟨u, rfl, hd, hb⟩; obtain ⟨ua, uk, uc, rfl, -⟩ := hd.form; have HM := Lib.hid (HF.out.below hb); have HU := Lib.hid hd; have FD := Lib.hid (HM.out.y.at 0 (.bool nb) rfl); obtain ⟨r0, r1, r2, z0, z1, z2⟩ := HM.out.rcells))
          go_wp2
          obtain ⟨p1, p2, p3⟩ := HM.out.fin (ng := nb) (e := low) HU.out
          generalize (World.setCell (World.setCell (World.setCell _ _ _) _ _) _ _) = W at p1 p2 p3 ⊢
          obtain ⟨g0, g1, g2⟩ := results_agg3 p1
          exact bodyPost_ret (v := .agg #[.bool nb, .slice ua uk uc, .int .i64 low]) (by simp [results, Try.results20, go_sem, g0, g1, g2]) rfl ⟨_, rfl, ⟨nb, y - x, low, p3, Int.le_refl _, by omega, HEQ.out⟩, p2⟩

end Go.Proofs.Ytbknkcfnhfolpaa
