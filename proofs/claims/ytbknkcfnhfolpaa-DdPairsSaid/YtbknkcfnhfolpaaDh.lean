/-
  ref01's To (of one limb) and ref02's Mul: what they return.
-/
import Derived.Test.YtbknkcfnhfolpaaDg
namespace Go.Proofs.Ytbknkcfnhfolpaa
open Go.RowKit

/-- To's digits so far -/
structure Tos (x : Nat) (w wr : World) (out : Value) (O : List Nat) (k y : Nat) : Prop where
  own : wr.ownsRow w.heap.size 52 1 out k (dvl O)
  digs : Digs O
  sum : ofd O + 65536 ^ k * y = x
  b : Below w.heap.size w wr

theorem Tos.step {x : Nat} {w wr : World} {out : Value} {O : List Nat} {k y : Nat} (h : Tos x w wr out O k y) {w1 : World} {v1 : Value} {z : Int}
    (hO : Hid (w1.ownsRow w.heap.size 52 1 v1 (k + 1) (dvl O ++ [.int .u32 z]))) (hb : Below w.heap.size w w1) (hz : z = ((y % 65536 : Nat) : Int)) :
    Tos x w w1 v1 (O ++ [y % 65536]) (k + 1) (y / 65536) := by
  obtain ⟨h1, h2, h3, _⟩ := h
  refine ⟨own_snoc _ hO hz, h2.snoc (Nat.mod_lt _ (by omega)), ?_, hb⟩
  rw [ofd_snoc, own_len h1, Nat.pow_succ]
  have e : 65536 ^ k * (y % 65536) + 65536 ^ k * 65536 * (y / 65536) = 65536 ^ k * y := by
    rw [Nat.mul_assoc, ← Nat.mul_add, Nat.add_comm, Nat.div_add_mod]
  omega

theorem Tos.fin {x y : Nat} {w wr : World} {out : Value} {O : List Nat} (h : Tos x w wr out O 4 y) (hx : x < 2 ^ 64) : ofd O = x := by
  have := h.sum
  omega

set_option maxHeartbeats 2000000 in
theorem to_any {x : Nat} {v : Value} {w : World} (h : Sl w v [.int .u64 (x : Int)]) (hx : x < 18446744073709551616) :
    Calls Try.prog 48 #[v] w fun e w' => ∃ u, e = .returned u ∧ Dg w' u x ∧ Below w.heap.size w w' := by
  obtain ⟨a, c, rfl, hcell⟩ := h
  obtain ⟨b, off, rfl, hc⟩ := hcell (by simp)
  have hc1 : w.cell? ⟨b, off, none⟩ = some (.int .u64 (x : Int)) := hc 0 _ rfl
  clear hcell hc
  go_enter Try.func48, Try.ntmps48
  go_wp2
  go_loopw [3, 4] (fun out i wr => (out = .slice none 0 0 ∧ i = .int .i64 0 ∧ w = wr) ∨ (i = .int .i64 1 ∧ ∃ O y, Tos x w wr out O 4 y)) (fun _ i _ => 1 - (intOf i).toNat)
  case atStart => exact .inl ⟨rfl, rfl, rfl⟩
  case round =>
    rcases hrel with ⟨rfl, rfl, rfl⟩ | ⟨rfl, O, y, hh⟩
    · go_wp2
      go_loopw [3, 5, 6] (fun out z i w1 => ∃ (k y : Nat) (O : List Nat), i = .int .i64 k ∧ z = .int .u64 y ∧ k ≤ 4 ∧ y < 18446744073709551616 ∧ Hid (Tos x w w1 out O k y)) (fun _ _ i _ => 4 - (intOf i).toNat)
      case atStart => exact ⟨0, x, [], rfl, rfl, by omega, hx, World.ownsRow_nil _ _ _ _, Digs.nil, by simp [ofd], Below.refl _ _⟩
      case round =>
        obtain ⟨k, y, O, rfl, rfl, hk, hy, hh⟩ := hrel
        have hO := hh.out.own
        have hb := hh.out.b
        by_cases hlt : k < 4
        · go_wp2_with (at_builtin; refine wpList_app1 rfl (.tmp 21) (.tmp 25) 30 rfl w.heap.size 52 (.int .u32 0) 4 Try.underlying30 Try.info52 rfl (by decide) _ _ _ rfl _ 1 rfl rfl hO hb hb.size (by omega) ?_)
          intro v1 w1 hown1 hb1 _
          have HH := Lib.hid (hh.out.step hown1 hb1 (by omega))
          clear hown1 hb1 hO hb
          go_wp2
          go_roundw
          case rel => exact ⟨k + 1, y / 65536, _, by go_num, by go_num, by omega, by omega, HH⟩
          case measure => simp [intOf]; omega
        · obtain rfl : k = 4 := by omega
          clear hO hb
          go_wp2
          go_roundw
          case rel => exact .inr ⟨rfl, _, _, hh.out⟩
          case measure => simp [intOf]
    · have HH := Lib.hid hh
      clear hh
      go_wp2_with fail
      refine (norm_any (Sl.of_own HH.out.own) HH.out.digs (by rw [own_len HH.out.own]; decide) (Capd.of_own HH.out.own)).mono ?_
      rintro e w2 ⟨u, rfl, hd2, hb2⟩
      have HG : Hid (Dg w2 u x ∧ Below w.heap.size w w2) := ⟨by rw [← HH.out.fin hx]; exact hd2, HH.out.b.trans (hb2.mono HH.out.b.size)⟩
      clear hd2 hb2
      go_wp2
      go_ret
      exact ⟨_, rfl, HG.out.1, HG.out.2⟩

/-- Mul's invariant, inside a row -/
structure Muls (K : List Nat) (T n a i N : Nat) (w wr : World) (out : Value) (O : List Nat) (k c : Nat) : Prop where
  own : wr.ownsRow w.heap.size 52 1 out N (dvl O)
  digs : Digs O
  sum : ofd O + 65536 ^ (i + k) * c = T * n + 65536 ^ i * a * ofd (K.take k)
  b : Below w.heap.size w wr

theorem col_mul {O O' Q R x y a d B S c s : Nat} (hs : O' + Q * R * x = O + Q * R * y) (h : O + Q * R * c = S + Q * a * B) (hsum : s = x + c + a * d) (hy : y = s % 65536) : O' + Q * R * 65536 * (s / 65536) = S + Q * a * (B + R * d) := by
  have h1 : Q * R * y + Q * R * 65536 * (s / 65536) = Q * R * s := by
    rw [hy, Nat.mul_assoc (Q * R), ← Nat.mul_add, Nat.add_comm, Nat.div_add_mod]
  have h2 : Q * R * s = Q * R * x + Q * R * c + Q * R * (a * d) := by rw [hsum, Nat.mul_add, Nat.mul_add]
  have h3 : Q * a * (B + R * d) = Q * a * B + Q * R * (a * d) := by
    rw [Nat.mul_add]; congr 1
    rw [Nat.mul_assoc, Nat.mul_assoc, Nat.mul_left_comm a R d]
  omega

theorem Muls.step {K : List Nat} {T n a i N g cap : Nat} {w wr : World} {O : List Nat} {k c : Nat} (h : Muls K T n a i N w wr (.slice (some ⟨g, 0, none⟩) N cap) O k c) (hk : i + k < N) (hg : w.heap.size ≤ g) (s : Nat) (u : Value)
    (hs : s = dg O (i + k) + c + a * dg K k) (hu : u = .int .u32 ((s % 65536 : Nat) : Int)) : Muls K T n a i N w (wr.setCell ⟨g, i + k, none⟩ u) (.slice (some ⟨g, 0, none⟩) N cap) (O.set (i + k) (s % 65536)) (k + 1) (s / 65536) := by
  subst hu
  refine ⟨?_, h.digs.set (Nat.mod_lt _ (by omega)), ?_, h.b.setCell hg _⟩
  · rw [← dvl_set]; exact (h.own.stored (i + k) _).1
  · have h1 := ofd_set O (i + k) (s % 65536) (by rw [own_len h.own]; exact hk)
    have h2 := h.sum
    rw [Nat.pow_add] at h1 h2
    rw [take_dg, ← Nat.add_assoc, Nat.pow_succ, Nat.pow_add]
    exact col_mul h1 h2 hs rfl

end Go.Proofs.Ytbknkcfnhfolpaa
