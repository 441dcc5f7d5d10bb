/-
  ref01's Norm, Double, Bits, Bit: what they return.
-/
import Derived.Test.YtbknkcfnhfolpaaNat
import Derived.Test.YtbknkcfnhfolpaaRows
namespace Go.Proofs.Ytbknkcfnhfolpaa
open Go.RowKit

theorem Try.info52 : (Try.prog.info? 52).map (fun i => (i.zero, i.size, i.bytes)) = some (some (.int .u32 0), 1, 4) := by kernel_rfl

/-- A size at which nothing runs out. -/
def Sm (n : Nat) : Prop := bl n ≤ 1000000
theorem Sm.len {L : List Nat} {n : Nat} (h : Sm n) (hc : Can L n) : L.length ≤ 62501 := by
  by_cases hn : n = 0
  · subst hn; rw [hc.zero]; simp
  · have := (bl_digits hc hn).1
    unfold Sm at h
    omega

theorem ownsRow_len {w : World} {B : Nat} {e : TypeId} {v : Value} {n : Nat} {xs : List Value} (h : w.ownsRow B e 1 v n xs) : xs.length = n := by have := h.1; omega
theorem own_len {w : World} {B : Nat} {e : TypeId} {v : Value} {n : Nat} {xs : List Nat} (h : w.ownsRow B e 1 v n (dvl xs)) : xs.length = n := by
  have := ownsRow_len h; rwa [dvl_length] at this
theorem own_snoc {w : World} {B : Nat} {e : TypeId} {v : Value} {n : Nat} {xs : List Nat} {z : Int} (d : Nat) (h : Hid (w.ownsRow B e 1 v n (dvl xs ++ [.int .u32 z]))) (hz : z = (d : Int)) : w.ownsRow B e 1 v n (dvl (xs ++ [d])) := by
  subst hz; rw [dvl_app]; exact h.out

/-- Double's invariant -/
structure Dbl (L : List Nat) (more : Nat) (w wr : World) (out : Value) (O : List Nat) (k c : Nat) : Prop where
  own : wr.ownsRow w.heap.size 52 1 out k (dvl O)
  digs : Digs O
  sum : ofd O + 65536 ^ k * c = 2 * ofd (L.take k) + more
  top : k ≤ L.length ∨ (k = L.length + 1 ∧ c = 0 ∧ 65536 ^ (k - 1) ≤ ofd O)
  b : Below w.heap.size w wr

theorem Digs.nil : Digs [] := by intro d h; simp at h

theorem Dbl.start (L : List Nat) (more : Nat) (w : World) : Dbl L more w w (.slice none 0 0) [] 0 more :=
  ⟨World.ownsRow_nil _ _ _ _, Digs.nil, by simp [ofd], .inl (Nat.zero_le _), Below.refl _ _⟩

theorem Dbl.step {L : List Nat} {more : Nat} {w wr : World} {out : Value} {O : List Nat} {k c : Nat} (h : Dbl L more w wr out O k c) {w1 : World} {v1 : Value} {z : Int} (s : Nat)
    (hO : Hid (w1.ownsRow w.heap.size 52 1 v1 (k + 1) (dvl O ++ [.int .u32 z]))) (hb : Below w.heap.size w w1) (hz : z = ((s % 65536 : Nat) : Int)) (hs : s = c + 2 * dg L k) (hend : L.length ≤ k → k = L.length ∧ 0 < c ∧ s / 65536 = 0 ∧ s < 65536) :
    Dbl L more w w1 v1 (O ++ [s % 65536]) (k + 1) (s / 65536) := by
  obtain ⟨h1, h2, h3, h4, _⟩ := h
  refine ⟨own_snoc _ hO hz, h2.snoc (Nat.mod_lt _ (by omega)), ?_, ?_, hb⟩
  · rw [ofd_snoc, own_len h1, take_dg, Nat.pow_succ]
    have := col_add (A := 2 * ofd (L.take k)) (B := more) h3 hs
    rw [show 65536 ^ k * (2 * dg L k) = 2 * (65536 ^ k * dg L k) by rw [Nat.mul_left_comm]] at this
    omega
  · by_cases hk : k < L.length
    · exact .inl hk
    · obtain ⟨e1, e2, e3, e4⟩ := hend (by omega)
      refine .inr ⟨by omega, e3, ?_⟩
      rw [ofd_snoc, own_len h1, Nat.add_sub_cancel]
      have : dg L k = 0 := dg_out (by omega)
      have h5 : 65536 ^ k * 1 ≤ 65536 ^ k * (s % 65536) := Nat.mul_le_mul_left _ (by omega)
      omega

theorem Dbl.fin {L : List Nat} {more n : Nat} {w wr : World} {out : Value} {O : List Nat} {k : Nat} (hc : Can L n) (h : Dbl L more w wr out O k 0) (hk : L.length ≤ k) : Dg wr out (2 * n + more) := by
  obtain ⟨h1, h2, h3, h4, _⟩ := h
  refine ⟨O, Sl.of_own h1, Can.mk_top h2 ?_ ?_⟩
  · rw [take_all hk, hc.val] at h3; omega
  · rw [take_all hk, hc.val] at h3
    rw [own_len h1]
    intro h0
    rcases h4 with h4 | ⟨_, _, h4⟩
    · have e : k = L.length := by omega
      have := hc.top (by intro hl; rw [hl] at e; simp at e; omega)
      rw [← e] at this
      omega
    · omega

set_option maxHeartbeats 1000000 in
theorem double_any {n more : Nat} {v : Value} {w : World} (h : Dg w v n) (hs : Sm n) (hm : more ≤ 1) :
    Calls Try.prog 46 #[v, .int .u32 (more : Int)] w fun e w' => ∃ u, e = .returned u ∧ Dg w' u (2 * n + more) ∧ Below w.heap.size w w' := by
  obtain ⟨L, hL, hc⟩ := h
  have hlen := hs.len hc
  obtain ⟨a, c, rfl, hcell⟩ := hL.form
  have HC := Lib.hid hcell
  have HD := Lib.hid hc
  clear hcell hc hs hL
  go_enter Try.func46, Try.ntmps46
  go_wp2
  go_loopw [5, 6, 7] (fun out cc i wr => ∃ (k c : Nat) (O : List Nat), i = .int .i64 k ∧ cc = .int .u32 c ∧ k ≤ L.length + 1 ∧ c ≤ 1 ∧ Hid (Dbl L more w wr out O k c)) (fun _ _ i _ => L.length + 1 - (intOf i).toNat)
  case atStart => exact ⟨0, more, [], rfl, rfl, by omega, hm, Dbl.start _ _ _⟩
  case round =>
    obtain ⟨k, cc, O, rfl, rfl, hk, hcc, hh⟩ := hrel
    have hO := hh.out.own
    have hb := hh.out.b
    by_cases hlt : k < L.length
    · have hd := dg_lt HD.out.digs k
      obtain ⟨b, off, rfl, hc2⟩ := HC.out (by omega)
      have hc3 : wr.cell? ⟨b, off + k, none⟩ = some (.int .u32 (dg L k : Nat)) := cell_below hb (Nat.le_refl _) (hc2 k _ (dg_get hlt))
      clear hc2
      generalize hD : dg L k = d at hd hc3
      have HDD := Lib.hid hD
      clear hD
      go_wp2_with (at_builtin; refine wpList_app1 rfl (.tmp 32) (.tmp 35) 30 rfl w.heap.size 52 (.int .u32 0) 4 Try.underlying30 Try.info52 rfl (by decide) _ _ _ rfl _ 1 rfl rfl hO hb hb.size (by omega) ?_)
      intro v1 w1 hown1 hb1 _
      have HH := Lib.hid (hh.out.step (cc + 2 * d) hown1 hb1 (by omega) (by rw [HDD.out]) (fun _ => by omega))
      clear hown1 hb1 hO hb
      go_wp2
      go_roundw
      case rel => exact ⟨k + 1, (cc + 2 * d) / 65536, _, by go_num, by go_num, by omega, by omega, HH⟩
      case measure => simp [intOf]; omega
    · have hge : L.length ≤ k := by omega
      by_cases hc0 : 0 < cc
      · have hk2 : k = L.length := by rcases hh.out.top with h | ⟨_, h, _⟩ <;> omega
        have HK := Lib.hid hk2
        clear hk2
        go_wp2_with (at_builtin; refine wpList_app1 rfl (.tmp 32) (.tmp 35) 30 rfl w.heap.size 52 (.int .u32 0) 4 Try.underlying30 Try.info52 rfl (by decide) _ _ _ rfl _ 1 rfl rfl hO hb hb.size (by omega) ?_)
        intro v1 w1 hown1 hb1 _
        have HH := Lib.hid (hh.out.step cc hown1 hb1 (by omega) (by rw [dg_out hge]; omega) (fun _ => ⟨HK.out, hc0, by omega, by omega⟩))
        clear hown1 hb1 hO hb
        go_wp2
        go_roundw
        case rel => exact ⟨k + 1, cc / 65536, _, by go_num, by go_num, by have := HK.out; omega, by omega, HH⟩
        case measure => simp [intOf]; have := HK.out; omega
      · obtain rfl : cc = 0 := by omega
        have HF := Lib.hid (Dbl.fin HD.out hh.out hge)
        clear hO
        go_wp2
        go_ret
        exact ⟨_, rfl, HF.out, hb⟩

end Go.Proofs.Ytbknkcfnhfolpaa
