/-
  The law's within: what it returns.
-/
import Derived.Test.YtbknkcfnhfolpaaProdsW
set_option exponentiation.threshold 9000
namespace Go.Proofs.Ytbknkcfnhfolpaa
open Go.RowKit Rn

theorem WhM.alloc {x y : Nat} {ng : Bool} {a : Option Addr} {k c : Nat} {e z lo : Int} {w wr : World} (h : WhM x y ng a k c e z lo w wr) (o : Obj) : WhM x y ng a k c e z lo w (wr.alloc o) := ⟨h.p.alloc o, h.n.alloc o, h.v.alloc o, h.b.alloc h.b.size o⟩

theorem wh_st3 {V : World} {R g k : Nat} {u0 u1 v0 v1 v2 a b c : Value} (h1 : R ≠ g) (h2 : R ≠ k)
    (H : V.cell? ⟨g, 0, none⟩ = some u0 ∧ V.cell? ⟨g, 1, none⟩ = some u1 ∧ V.cell? ⟨k, 0, none⟩ = some v0 ∧ V.cell? ⟨k, 1, none⟩ = some v1 ∧ V.cell? ⟨k, 2, none⟩ = some v2) :
    (((V.setCell ⟨R, 0, none⟩ a).setCell ⟨R, 1, none⟩ b).setCell ⟨R, 2, none⟩ c).cell? ⟨g, 0, none⟩ = some u0 ∧ (((V.setCell ⟨R, 0, none⟩ a).setCell ⟨R, 1, none⟩ b).setCell ⟨R, 2, none⟩ c).cell? ⟨g, 1, none⟩ = some u1 ∧ (((V.setCell ⟨R, 0, none⟩ a).setCell ⟨R, 1, none⟩ b).setCell ⟨R, 2, none⟩ c).cell? ⟨k, 0, none⟩ = some v0 ∧
    (((V.setCell ⟨R, 0, none⟩ a).setCell ⟨R, 1, none⟩ b).setCell ⟨R, 2, none⟩ c).cell? ⟨k, 1, none⟩ = some v1 ∧ (((V.setCell ⟨R, 0, none⟩ a).setCell ⟨R, 1, none⟩ b).setCell ⟨R, 2, none⟩ c).cell? ⟨k, 2, none⟩ = some v2 :=
  ⟨st3_far h1 H.1, st3_far h1 H.2.1, st3_far h2 H.2.2.1, st3_far h2 H.2.2.2.1, st3_far h2 H.2.2.2.2⟩
theorem wh_alloc {V : World} {g k : Nat} {u0 u1 v0 v1 v2 : Value} {o : Obj}
    (H : V.cell? ⟨g, 0, none⟩ = some u0 ∧ V.cell? ⟨g, 1, none⟩ = some u1 ∧ V.cell? ⟨k, 0, none⟩ = some v0 ∧ V.cell? ⟨k, 1, none⟩ = some v1 ∧ V.cell? ⟨k, 2, none⟩ = some v2) :
    (V.alloc o).cell? ⟨g, 0, none⟩ = some u0 ∧ (V.alloc o).cell? ⟨g, 1, none⟩ = some u1 ∧ (V.alloc o).cell? ⟨k, 0, none⟩ = some v0 ∧ (V.alloc o).cell? ⟨k, 1, none⟩ = some v1 ∧ (V.alloc o).cell? ⟨k, 2, none⟩ = some v2 :=
  have key : ∀ {p u}, V.cell? p = some u → (V.alloc o).cell? p = some u := fun h => (World.cell?_alloc_lt _ _ _ (cell_lt h)).trans h
  ⟨key H.1, key H.2.1, key H.2.2.1, key H.2.2.2.1, key H.2.2.2.2⟩
theorem wh_drew {V : World} {g k : Nat} {u0 u1 v0 v1 v2 : Value}
    (H : V.cell? ⟨g, 0, none⟩ = some u0 ∧ V.cell? ⟨g, 1, none⟩ = some u1 ∧ V.cell? ⟨k, 0, none⟩ = some v0 ∧ V.cell? ⟨k, 1, none⟩ = some v1 ∧ V.cell? ⟨k, 2, none⟩ = some v2) :
    V.drew.cell? ⟨g, 0, none⟩ = some u0 ∧ V.drew.cell? ⟨g, 1, none⟩ = some u1 ∧ V.drew.cell? ⟨k, 0, none⟩ = some v0 ∧ V.drew.cell? ⟨k, 1, none⟩ = some v1 ∧ V.drew.cell? ⟨k, 2, none⟩ = some v2 := H

/-- two numbers in two blocks -/
structure TwoN (g k : Nat) (z1 z2 lo : Int) (n1 n2 : Bool) (a1 a2 : Option Addr) (k1 k2 c1 c2 : Nat) (e1 e2 : Int) (w wr : World) : Prop where
  b1 : Blk wr g 32 #[.bool n1, .slice a1 k1 c1, .int .i64 e1]
  v1 : NZ wr (.agg #[.bool n1, .slice a1 k1 c1, .int .i64 e1]) z1 lo
  b2 : Blk wr k 32 #[.bool n2, .slice a2 k2 c2, .int .i64 e2]
  v2 : NZ wr (.agg #[.bool n2, .slice a2 k2 c2, .int .i64 e2]) z2 lo
  b : Below w.heap.size w wr
  ne : g ≠ k
  lg : w.heap.size ≤ g
  lk : w.heap.size ≤ k
/-- the difference's block, wherever it lies -/
def OffAt (n2 : Bool) (a2 : Option Addr) (k2 c2 : Nat) (e2 z1 z2 lo : Int) (w : World) (s : Value) (wx : World) : Prop :=
  ∃ g n1 a1 k1 c1 e1, s = .pointer (some ⟨g, 0, none⟩) ∧ TwoN g (w.heap.size + 1) z1 z2 lo n1 n2 a1 a2 k1 k2 c1 c2 e1 e2 w wx

theorem NZ.low {w : World} {v : Value} {z lo lo' : Int} (h : NZ w v z lo) (hl : lo' ≤ lo) : NZ w v z lo' := by
  obtain ⟨ng, m, e, h1, h2, h3⟩ := h; exact ⟨ng, m, e, h1, by omega, h3⟩

theorem off0 {x y : Nat} {n1 n2 : Bool} {a1 a2 : Option Addr} {k1 k2 c1 c2 : Nat} {e1 e2 z1 z2 lo : Int} {w V : World} (h : WhM x y n2 a2 k2 c2 e2 z2 lo w V) (u : NZ V (.agg #[.bool n1, .slice a1 k1 c1, .int .i64 e1]) z1 lo) {g : Nat} (hg : Res V g) (h1 : w.heap.size ≤ g) (hne : g ≠ w.heap.size + 1) :
    Hid (OffAt n2 a2 k2 c2 e2 z1 z2 lo w (.pointer (some ⟨g, 0, none⟩)) (((V.setCell ⟨g, 0, none⟩ (.bool n1)).setCell ⟨g, 1, none⟩ (.slice a1 k1 c1)).setCell ⟨g, 2, none⟩ (.int .i64 e1))) := by
  obtain ⟨p1, p2⟩ := fin3 hg h.b h1 (.bool n1) (.slice a1 k1 c1) (.int .i64 e1)
  exact ⟨g, n1, a1, k1, c1, e1, rfl, p1, u.st3 hg.parts _ _ _, ((h.n.far (Ne.symm hne) _).far (Ne.symm hne) _).far (Ne.symm hne) _, h.v.st3 hg.parts _ _ _, p2, hne, h1, by omega⟩
theorem off1 {x y : Nat} {n1 n2 : Bool} {a1 a2 : Option Addr} {k1 k2 c1 c2 : Nat} {e1 e2 z1 z2 lo : Int} {w V : World} (h : WhM x y n2 a2 k2 c2 e2 z2 lo w V) (u : NZ V (.agg #[.bool n1, .slice a1 k1 c1, .int .i64 e1]) z1 lo) :
    Hid (OffAt n2 a2 k2 c2 e2 z1 z2 lo w (.pointer (some ⟨V.heap.size, 0, none⟩)) (V.alloc (.cells #[.bool n1, .slice a1 k1 c1, .int .i64 e1] 32))) := by
  have hl := h.n.lt
  exact ⟨V.heap.size, n1, a1, k1, c1, e1, rfl, Blk.new _ _ _, u.alloc _, h.n.alloc _, h.v.alloc _, h.b.alloc h.b.size _, by omega, by omega, by omega⟩

/-- the signs struck, the place lowered -/
theorem TwoN.fin {g k : Nat} {z1 z2 lo : Int} {n1 n2 : Bool} {a1 a2 : Option Addr} {k1 k2 c1 c2 : Nat} {e1 e2 : Int} {w V : World} (h : TwoN g k z1 z2 lo n1 n2 a1 a2 k1 k2 c1 c2 e1 e2 w V) {bits : Nat} (hlo : -6000 ≤ lo - bits) {Y : Int} (hY : z2.natAbs = Y.natAbs * 2 ^ bits) (hY0 : 0 ≤ Y) :
    NZ (((V.setCell ⟨g, 0, none⟩ (.bool false)).setCell ⟨k, 0, none⟩ (.bool false)).setCell ⟨k, 2, none⟩ (.int .i64 (e2 - bits))) (.agg #[.bool false, .slice a1 k1 c1, .int .i64 e1]) z1.natAbs (lo - bits) ∧
    NZ (((V.setCell ⟨g, 0, none⟩ (.bool false)).setCell ⟨k, 0, none⟩ (.bool false)).setCell ⟨k, 2, none⟩ (.int .i64 (e2 - bits))) (.agg #[.bool false, .slice a2 k2 c2, .int .i64 (e2 - bits)]) Y (lo - bits) ∧
    Below w.heap.size w (((V.setCell ⟨g, 0, none⟩ (.bool false)).setCell ⟨k, 0, none⟩ (.bool false)).setCell ⟨k, 2, none⟩ (.int .i64 (e2 - bits))) := by
  obtain ⟨b1, v1, b2, v2, b, ne, lg, lk⟩ := h
  have q1 : Parts V g := ⟨_, _, _, _, b1, _, _, _, rfl⟩
  have q2 : Parts V k := ⟨_, _, _, _, b2, _, _, _, rfl⟩
  have keep : ∀ p o z, V.cell? ⟨p, o, none⟩ = some (.int .u32 z) → (((V.setCell ⟨g, 0, none⟩ (.bool false)).setCell ⟨k, 0, none⟩ (.bool false)).setCell ⟨k, 2, none⟩ (.int .i64 (e2 - bits))).cell? ⟨p, o, none⟩ = some (.int .u32 z) := by
    intro p o z hz
    have n1 := q1.ne hz
    have n2 := q2.ne hz
    rw [World.cell?_setCell_other _ _ _ _ (fun he => n2 (by injection he with h; exact h.symm)), World.cell?_setCell_other _ _ _ _ (fun he => n2 (by injection he with h; exact h.symm)), World.cell?_setCell_other _ _ _ _ (fun he => n1 (by injection he with h; exact h.symm))]
    exact hz
  refine ⟨?_, ?_, ((b.setCell lg _).setCell lk _).setCell lk _⟩
  · obtain ⟨ng, m, e, ⟨s, he, hs⟩, h1, h2, h3⟩ := v1
    injection he with he
    simp at he
    obtain ⟨rfl, rfl, rfl⟩ := he
    refine ⟨false, m, e1, ⟨_, rfl, hs.keep keep⟩, by omega, h2, ?_⟩
    rw [← h3, nv_abs]
    unfold nv sg; rw [if_neg (by decide)]
  · obtain ⟨ng, m, e, ⟨s, he, hs⟩, h1, h2, h3⟩ := v2
    injection he with he
    simp at he
    obtain ⟨rfl, rfl, rfl⟩ := he
    refine ⟨false, m, e2 - bits, ⟨_, rfl, hs.keep keep⟩, by omega, by omega, ?_⟩
    have h4 := nv_abs n2 m e2
    rw [h3, hY, show (e2 + 6000).toNat = (e2 - bits + 6000).toNat + bits by omega, Nat.pow_add, ← Nat.mul_assoc] at h4
    have h5 := Nat.eq_of_mul_eq_mul_right (Nat.two_pow_pos bits) h4
    unfold nv sg; rw [if_neg (by decide), ← h5]
    omega


open ddProds in
set_option maxRecDepth 100000 in
set_option maxHeartbeats 16000000 in
theorem within_any {x y bits : Nat} {v : Value} {w : World} {z lo Y : Int} (h : NZ w v z lo) (hlo : -3000 ≤ lo) (hlo2 : lo ≤ -1074) (hb : bits ≤ 200) (hx : Num x) (hy : Num y) (hz : Bz z) (hD : Bz ((val x + val y) * 2 ^ 4926 - z))
    (hY : z.natAbs = Y.natAbs * 2 ^ bits) (hY0 : 0 ≤ Y) (hle : (((val x + val y) * 2 ^ 4926 - z).natAbs : Int) ≤ Y) :
    Calls Try.prog 23 #[.agg #[.float .f64 x, .float .f64 y], v, .int .i64 bits] w fun q w' => q = .returned (.bool true) ∧ Below w.heap.size w w' := by
  obtain ⟨ng, m, e, ⟨s, rfl, hs⟩, h1, h2, h3⟩ := h
  obtain ⟨a, k, c, rfl, -⟩ := hs.form
  have hneg : NZ w (.agg #[.bool (!ng), .slice a k c, .int .i64 e]) (-z) lo := ⟨!ng, m, e, ⟨_, rfl, hs⟩, h1, h2, by rw [← h3]; unfold nv sg; cases ng <;> simp⟩
  have HM := Lib.hid (WhM.start (x := x) (y := y) hneg)
  have FX : Hid (∀ w, Calls Try.prog 31 #[.float .f64 x] w fun q w' => q = .returned (.bool true) ∧ w = w') := fun w => num_kind hx ▸ finite_any hx.1 w
  have FY : Hid (∀ w, Calls Try.prog 31 #[.float .f64 y] w fun q w' => q = .returned (.bool true) ∧ w = w') := fun w => num_kind hy ▸ finite_any hy.1 w
  have WX : Hid (∀ w, Calls Try.prog 11 #[.float .f64 x] w (RetNO (val x * 2 ^ 4926) (-1074) w)) := fun w => lworth_any hx.1 w
  have WY : Hid (∀ w, Calls Try.prog 11 #[.float .f64 y] w (RetNO (val y * 2 ^ 4926) (-1074) w)) := fun w => lworth_any hy.1 w
  have CA : Hid (∀ w u t, NO w u (val x * 2 ^ 4926) (-1074) → NO w t (val y * 2 ^ 4926) (-1074) → Calls Try.prog 20 #[u, t] w (RetNZ ((val x + val y) * 2 ^ 4926) (-1074) w)) := fun w u t h1 h2 => by
    rw [Int.add_mul]; exact add_any' h1.nz h2.nz (by omega) (bz_val hx) (bz_val hy)
  have hnz : Bz (-z) := by unfold Bz at *; rwa [Int.natAbs_neg]
  have CD : Hid (∀ w u, NZ w u ((val x + val y) * 2 ^ 4926) (-1074) → NZ w (.agg #[.bool (!ng), .slice a k c, .int .i64 e]) (-z) lo → Calls Try.prog 20 #[u, .agg #[.bool (!ng), .slice a k c, .int .i64 e]] w (RetNZ ((val x + val y) * 2 ^ 4926 - z) lo w)) := fun w u h1 h2 => by
    rw [Int.sub_eq_add_neg]; exact add_any' (h1.low hlo2) h2 (by omega) (bz_add (val_le hx) (val_le hy)) hnz
  have CC : Hid (∀ w u t, NZ w u (((val x + val y) * 2 ^ 4926 - z).natAbs : Int) (lo - bits) → NZ w t Y (lo - bits) → Calls Try.prog 32 #[u, t] w fun q w' => q = .returned (.int .i64 (cmpZ (((val x + val y) * 2 ^ 4926 - z).natAbs : Int) Y)) ∧ Below w.heap.size w w') := fun w u t h1 h2 => by
    refine cmp_any' h1 h2 (by omega) (by unfold Bz at *; simpa using hD) ?_
    unfold Bz at *
    refine Nat.le_trans (bl_le (k := bl z.natAbs) ?_) hz
    have := lt_bl z.natAbs
    have h5 := Nat.le_mul_of_pos_right Y.natAbs (Nat.two_pow_pos bits)
    omega
  have HLE : Hid (cmpZ (((val x + val y) * 2 ^ 4926 - z).natAbs : Int) Y ≤ 0) := cmpZ_le.2 hle
  have HFIN : Hid (∀ V g n1 a1 k1 c1 e1, TwoN g (w.heap.size + 1) ((val x + val y) * 2 ^ 4926 - z) (-z) lo n1 (!ng) a1 a k1 k c1 c e1 e w V → _) := fun V g n1 a1 k1 c1 e1 H => TwoN.fin H (bits := bits) (by omega) (Y := Y) (by rw [Int.natAbs_neg]; exact hY) hY0
  clear hs h3 hneg hx hy hz hD hY hY0 hle hnz
  generalize (val x + val y) * 2 ^ 4926 - z = D at *
  generalize (val x + val y) * 2 ^ 4926 = S at *
  generalize val x * 2 ^ 4926 = ZX at *
  generalize val y * 2 ^ 4926 = ZY at *
  generalize cmpZ (D.natAbs : Int) Y = R at *
  have qq : IntKind.i64.wrap (e - (bits : Int)) = e - bits := IntWalk.i64_in _ (by omega)
  go_enter Try.func23, Try.ntmps23
  go_wp2_with fail
  refine (FX.out _).mono ?_
  rintro q w2 ⟨rfl, rfl⟩
  go_wp2_with fail
  refine (FY.out _).mono ?_
  rintro q w2 ⟨rfl, rfl⟩
  go_upto_region 4 with (fail)
  generalize (World.alloc (World.alloc _ _) _) = w1 at HM ⊢
  go_cut [7] (fun s wx => Hid (OffAt (!ng) a k c e D (-z) lo w s wx))
  case first =>
    have F0 := Lib.hid HM.out.cells
    have F1 := Lib.hid HM.out.drew.cells
    obtain ⟨x0, x1, x2, x3, x4⟩ := F0.out
    go_region_held3 (fun w' => w'.cell? ⟨w.heap.size, 0, none⟩ = some (.float .f64 x) ∧ w'.cell? ⟨w.heap.size, 1, none⟩ = some (.float .f64 y) ∧ w'.cell? ⟨w.heap.size + 1, 0, none⟩ = some (.bool (!ng)) ∧ w'.cell? ⟨w.heap.size + 1, 1, none⟩ = some (.slice a k c) ∧ w'.cell? ⟨w.heap.size + 1, 2, none⟩ = some (.int .i64 e)) (first | with_reducible exact F0.out | with_reducible exact wh_alloc F0.out | with_reducible exact F1.out | with_reducible exact wh_alloc F1.out | with_reducible exact FF1.out | with_reducible exact wh_alloc FF1.out | with_reducible exact FF2.out | with_reducible exact wh_alloc FF2.out | with_reducible exact FF3.out | with_reducible exact wh_alloc FF3.out | with_reducible exact FF4.out | with_reducible exact wh_alloc FF4.out | with_reducible exact wh_drew (wh_alloc F0.out) | with_reducible exact wh_st3 (by omega) (by omega) FF4.out) (first | (have R := SY3.out; go_at_call 20; (with_reducible refine (CD.out _ _ HS3.out R.1.v).mono ?_); rintro q v4 ⟨u4, rfl, hu4, hb0⟩; (with_reducible have hb : Below (v3).heap.size (v3) v4 := hb0); have SY4 := Lib.hid (And.intro (WhM.below R.1 hb) (Res.below R.2 hb)); have FF4 := Lib.hid SY4.out.1.cells; obtain ⟨n1, a1, k1, c1, e1, rfl⟩ := hu4.form; have HD4 := Lib.hid hu4; obtain ⟨r0, r1, r2, z0, z1, z2⟩ := Res.cells SY4.out.2; have l1 := Blk.lt SY4.out.2; have gg := SY4.out.1.n.lt; clear hb hb0 R) | (have R := SN3.out; go_at_call 20; (with_reducible refine (CD.out _ _ (NZ.alloc HS3.out _) (WhM.alloc R _).v).mono ?_); rintro q v4 ⟨u4, rfl, hu4, hb0⟩; (with_reducible have hb : Below ((v3.alloc (.cells #[.bool false, .slice none 0 0, .int .i64 0] 32))).heap.size ((v3.alloc (.cells #[.bool false, .slice none 0 0, .int .i64 0] 32))) v4 := hb0); have SY4 := Lib.hid (And.intro (WhM.below (WhM.alloc R _) hb) (res1 hb)); have FF4 := Lib.hid SY4.out.1.cells; have gz := R.n.lt; obtain ⟨n1, a1, k1, c1, e1, rfl⟩ := hu4.form; have HD4 := Lib.hid hu4; obtain ⟨r0, r1, r2, z0, z1, z2⟩ := Res.cells SY4.out.2; have l1 := Blk.lt SY4.out.2; have gg := SY4.out.1.n.lt; clear hb hb0 R) | (have R := SN3.out; go_at_call 20; (with_reducible refine (CD.out _ _ HS3.out R.v).mono ?_); rintro q v4 ⟨u4, rfl, hu4, hb0⟩; (with_reducible have hb : Below (v3).heap.size (v3) v4 := hb0); have SN4 := Lib.hid (WhM.below R hb); have FF4 := Lib.hid SN4.out.cells; obtain ⟨n1, a1, k1, c1, e1, rfl⟩ := hu4.form; have HD4 := Lib.hid hu4; clear hb hb0 R) | (have R := SY2.out; go_at_call 20; (with_reducible refine (CA.out _ _ _ HU2.out HT2.out).mono ?_); rintro q v3 ⟨u3, rfl, hu3, hb0⟩; (with_reducible have hb : Below (v2).heap.size (v2) v3 := hb0); have SY3 := Lib.hid (And.intro (WhM.below R.1 hb) (Res.below R.2 hb)); have FF3 := Lib.hid SY3.out.1.cells; have HS3 := Lib.hid hu3; clear hb hb0 R) | (have R := SN2.out; go_at_call 20; (with_reducible refine (CA.out _ _ _ (NO.alloc HU2.out _) (NO.alloc HT2.out _)).mono ?_); rintro q v3 ⟨u3, rfl, hu3, hb0⟩; (with_reducible have hb : Below ((v2.alloc (.cells #[.bool false, .slice none 0 0, .int .i64 0] 32))).heap.size ((v2.alloc (.cells #[.bool false, .slice none 0 0, .int .i64 0] 32))) v3 := hb0); have SY3 := Lib.hid (And.intro (WhM.below (WhM.alloc R _) hb) (res1 hb)); have FF3 := Lib.hid SY3.out.1.cells; have gz := R.n.lt; have HS3 := Lib.hid hu3; clear hb hb0 R) | (have R := SN2.out; go_at_call 20; (with_reducible refine (CA.out _ _ _ HU2.out HT2.out).mono ?_); rintro q v3 ⟨u3, rfl, hu3, hb0⟩; (with_reducible have hb : Below (v2).heap.size (v2) v3 := hb0); have SN3 := Lib.hid (WhM.below R hb); have FF3 := Lib.hid SN3.out.cells; have HS3 := Lib.hid hu3; clear hb hb0 R) | (have R := SY1.out; go_at_call 11; (with_reducible refine (WY.out _).mono ?_); rintro q v2 ⟨u2, rfl, hu2, hb0⟩; (with_reducible have hb : Below (v1).heap.size (v1) v2 := hb0); have SY2 := Lib.hid (And.intro (WhM.below R.1 hb) (Res.below R.2 hb)); have FF2 := Lib.hid SY2.out.1.cells; have HU2 := Lib.hid (NO.below HU1.out hb); have HT2 := Lib.hid hu2; clear hb hb0 R) | (have R := SN1.out; go_at_call 11; (with_reducible refine (WY.out _).mono ?_); rintro q v2 ⟨u2, rfl, hu2, hb0⟩; (with_reducible have hb : Below ((v1.alloc (.cells #[.bool false, .slice none 0 0, .int .i64 0] 32))).heap.size ((v1.alloc (.cells #[.bool false, .slice none 0 0, .int .i64 0] 32))) v2 := hb0); have SY2 := Lib.hid (And.intro (WhM.below (WhM.alloc R _) hb) (res1 hb)); have FF2 := Lib.hid SY2.out.1.cells; have gz := R.n.lt; have HU2 := Lib.hid (NO.below (NO.alloc HU1.out _) hb); have HT2 := Lib.hid hu2; clear hb hb0 R) | (have R := SN1.out; go_at_call 11; (with_reducible refine (WY.out _).mono ?_); rintro q v2 ⟨u2, rfl, hu2, hb0⟩; (with_reducible have hb : Below (v1).heap.size (v1) v2 := hb0); have SN2 := Lib.hid (WhM.below R hb); have FF2 := Lib.hid SN2.out.cells; have HU2 := Lib.hid (NO.below HU1.out hb); have HT2 := Lib.hid hu2; clear hb hb0 R) | (have R := HM.out; go_at_call 11; (with_reducible refine (WX.out _).mono ?_); rintro q v1 ⟨u1, rfl, hu1, hb0⟩; (with_reducible have hb : Below (((w1.alloc (.cells #[.bool false, .slice none 0 0, .int .i64 0] 32))).drew).heap.size (((w1.alloc (.cells #[.bool false, .slice none 0 0, .int .i64 0] 32))).drew) v1 := hb0); have SY1 := Lib.hid (And.intro (WhM.below (WhM.drew (WhM.alloc R _)) hb) (res1d hb)); have FF1 := Lib.hid SY1.out.1.cells; have gz := R.n.lt; have HU1 := Lib.hid hu1; clear hb hb0 R) | (have R := HM.out; go_at_call 11; (with_reducible refine (WX.out _).mono ?_); rintro q v1 ⟨u1, rfl, hu1, hb0⟩; (with_reducible have hb : Below ((w1).drew).heap.size ((w1).drew) v1 := hb0); have SN1 := Lib.hid (WhM.below (WhM.drew R) hb); have FF1 := Lib.hid SN1.out.cells; have HU1 := Lib.hid hu1; clear hb hb0 R))
    all_goals go_wp2_with fail
    all_goals go_meet
    all_goals (first | (have K := SY4.out; with_reducible exact off0 K.1 HD4.out K.2 (by omega) (by omega)) | (have K := SN4.out; with_reducible exact off1 K HD4.out))
  case rest =>
    obtain ⟨g, n1, a1, k1, c1, e1, rfl, hh⟩ := hcut.out
    have HH := Lib.hid hh
    have p0 := hh.b1.at 0 (.bool n1) rfl
    have p1 := hh.b1.at 1 (.slice a1 k1 c1) rfl
    have p2 := hh.b1.at 2 (.int .i64 e1) rfl
    have p3 := hh.b1.frozen 0
    have q0 := hh.b2.at 0 (.bool (!ng)) rfl
    have q1 := hh.b2.at 1 (.slice a k c) rfl
    have q2 := hh.b2.at 2 (.int .i64 e) rfl
    have q3 := hh.b2.frozen 0
    have q4 := hh.b2.frozen 2
    have ne1 := hh.ne
    have ne2 := ne1.symm
    have HN := Lib.hid (HFIN.out _ _ _ _ _ _ _ hh)
    clear hcut hh HM HFIN WX WY CA CD FX FY
    go_wp2_with fail
    refine (CC.out _ _ _ HN.out.1 HN.out.2.1).mono ?_
    rintro q w4 ⟨rfl, hb⟩
    have HB := Lib.hid (HN.out.2.2.trans (hb.mono HN.out.2.2.size))
    clear hb HN HH p0 p1 p2 p3 q0 q1 q2 q3 q4 CC
    have hd : decide (R ≤ 0) = true := decide_eq_true HLE.out
    go_wp2
    go_ret
    exact ⟨rfl, HB.out⟩

end Go.Proofs.Ytbknkcfnhfolpaa
