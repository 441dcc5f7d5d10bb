/-
  ref01's Add: what it returns.
-/
import Derived.Test.YtbknkcfnhfolpaaDc
namespace Go.Proofs.Ytbknkcfnhfolpaa
open Go.RowKit

/-- Add's invariant -/
structure Adds (L K : List Nat) (w wr : World) (out : Value) (O : List Nat) (k c : Nat) : Prop where
  own : wr.ownsRow w.heap.size 52 1 out k (dvl O)
  digs : Digs O
  sum : ofd O + 65536 ^ k * c = ofd (L.take k) + ofd (K.take k)
  top : k ≤ max L.length K.length ∨ (k = max L.length K.length + 1 ∧ c = 0 ∧ 65536 ^ (k - 1) ≤ ofd O)
  b : Below w.heap.size w wr

theorem Adds.start (L K : List Nat) (w : World) : Adds L K w w (.slice none 0 0) [] 0 0 :=
  ⟨World.ownsRow_nil _ _ _ _, Digs.nil, by simp [ofd], .inl (Nat.zero_le _), Below.refl _ _⟩

theorem Adds.step {L K : List Nat} {w wr : World} {out : Value} {O : List Nat} {k c : Nat} (h : Adds L K w wr out O k c) {w1 : World} {v1 : Value} {z : Int} (s : Nat)
    (hO : Hid (w1.ownsRow w.heap.size 52 1 v1 (k + 1) (dvl O ++ [.int .u32 z]))) (hb : Below w.heap.size w w1) (hz : z = ((s % 65536 : Nat) : Int)) (hs : s = c + (dg L k + dg K k)) (hend : max L.length K.length ≤ k → k = max L.length K.length ∧ 0 < c ∧ s / 65536 = 0 ∧ s < 65536) :
    Adds L K w w1 v1 (O ++ [s % 65536]) (k + 1) (s / 65536) := by
  obtain ⟨h1, h2, h3, h4, _⟩ := h
  refine ⟨own_snoc _ hO hz, h2.snoc (Nat.mod_lt _ (by omega)), ?_, ?_, hb⟩
  · rw [ofd_snoc, own_len h1, take_dg, take_dg, Nat.pow_succ]
    have := col_add h3 hs
    rw [Nat.mul_add] at this
    omega
  · by_cases hk : k < max L.length K.length
    · exact .inl hk
    · obtain ⟨e1, e2, e3, e4⟩ := hend (by omega)
      refine .inr ⟨by omega, e3, ?_⟩
      rw [ofd_snoc, own_len h1, Nat.add_sub_cancel]
      have : dg L k = 0 := dg_out (by omega)
      have : dg K k = 0 := dg_out (by omega)
      have h5 : 65536 ^ k * 1 ≤ 65536 ^ k * (s % 65536) := Nat.mul_le_mul_left _ (by omega)
      omega

theorem Adds.fin {L K : List Nat} {m n : Nat} {w wr : World} {out : Value} {O : List Nat} {k : Nat} (hc : Can L m) (kc : Can K n) (h : Adds L K w wr out O k 0) (hk : max L.length K.length ≤ k) : Dg wr out (m + n) := by
  obtain ⟨h1, h2, h3, h4, _⟩ := h
  rw [take_all (by omega), take_all (by omega), hc.val, kc.val] at h3
  refine ⟨O, Sl.of_own h1, Can.mk_top h2 (by omega) ?_⟩
  rw [own_len h1]
  intro h0
  rcases h4 with h4 | ⟨_, _, h4⟩
  · have e : k = max L.length K.length := by omega
    by_cases hlk : L.length ≤ K.length
    · have := kc.top (by intro hl; have hl0 : K.length = 0 := by rw [hl]; rfl
                         omega)
      rw [show K.length = k by omega] at this
      omega
    · have := hc.top (by intro hl; have hl0 : L.length = 0 := by rw [hl]; rfl
                         omega)
      rw [show L.length = k by omega] at this
      omega
  · omega

set_option maxHeartbeats 4000000 in
theorem add_any {m n : Nat} {u v : Value} {w : World} (h : Dg w u m) (k : Dg w v n) (hs : Sm m) (ks : Sm n) :
    Calls Try.prog 36 #[u, v] w fun e w' => ∃ u, e = .returned u ∧ Dg w' u (m + n) ∧ Below w.heap.size w w' := by
  obtain ⟨L, hL, hc⟩ := h
  obtain ⟨K, hK, kc⟩ := k
  have hlen := hs.len hc
  have klen := ks.len kc
  obtain ⟨a, c, rfl, hcell⟩ := hL.form
  obtain ⟨a', c', rfl, kcell⟩ := hK.form
  have HC := Lib.hid hcell
  have HK := Lib.hid kcell
  have HL := Lib.hid hc
  have HM := Lib.hid kc
  clear hcell kcell hL hK hc kc hs ks
  go_enter Try.func36, Try.ntmps36
  go_wp2
  go_loopw [5, 6, 7] (fun out cc i wr => ∃ (k c : Nat) (O : List Nat), i = .int .i64 k ∧ cc = .int .u32 c ∧ k ≤ max L.length K.length + 1 ∧ c ≤ 1 ∧ Hid (Adds L K w wr out O k c)) (fun _ _ i _ => max L.length K.length + 1 - (intOf i).toNat)
  case atStart => exact ⟨0, 0, [], rfl, rfl, by omega, by omega, Adds.start _ _ _⟩
  case round =>
    obtain ⟨k, cc, O, rfl, rfl, hk, hcc, hh⟩ := hrel
    have hO := hh.out.own
    have hb := hh.out.b
    by_cases h1 : k < L.length
    · by_cases h2 : k < K.length
      · have d1 := dg_lt HL.out.digs k
        obtain ⟨b1, o1, rfl, hc1⟩ := HC.out (by omega)
        have x1 : wr.cell? ⟨b1, o1 + k, none⟩ = some (.int .u32 (dg L k : Nat)) := cell_below hb (Nat.le_refl _) (hc1 k _ (dg_get h1))
        clear hc1
        generalize hD1 : dg L k = y1 at d1 x1
        have HD1 := Lib.hid hD1
        clear hD1
        have d2 := dg_lt HM.out.digs k
        obtain ⟨b2, o2, rfl, hc2⟩ := HK.out (by omega)
        have x2 : wr.cell? ⟨b2, o2 + k, none⟩ = some (.int .u32 (dg K k : Nat)) := cell_below hb (Nat.le_refl _) (hc2 k _ (dg_get h2))
        clear hc2
        generalize hD2 : dg K k = y2 at d2 x2
        have HD2 := Lib.hid hD2
        clear hD2
        go_wp2_with (at_builtin; refine wpList_app1 rfl (.tmp 46) (.tmp 49) 30 rfl w.heap.size 52 (.int .u32 0) 4 Try.underlying30 Try.info52 rfl (by decide) _ _ _ rfl _ 1 rfl rfl hO hb hb.size (by omega) ?_)
        intro v1 w1 hown1 hb1 _
        have HH := Lib.hid (hh.out.step (cc + y1 + y2) hown1 hb1 (by omega) (by rw [HD1.out, HD2.out]; omega) (fun _ => by omega))
        clear hown1 hb1 hO hb
        go_wp2
        go_roundw
        case rel => exact ⟨k + 1, (cc + y1 + y2) / 65536, _, by go_num, by go_num, by omega, by omega, HH⟩
        case measure => simp [intOf]; omega
      · have z2 : dg K k = 0 := dg_out (by omega)
        have HZ := Lib.hid z2
        clear z2
        have g2 : decide (k < K.length) = false := decide_eq_false h2
        have d1 := dg_lt HL.out.digs k
        obtain ⟨b1, o1, rfl, hc1⟩ := HC.out (by omega)
        have x1 : wr.cell? ⟨b1, o1 + k, none⟩ = some (.int .u32 (dg L k : Nat)) := cell_below hb (Nat.le_refl _) (hc1 k _ (dg_get h1))
        clear hc1
        generalize hD1 : dg L k = y1 at d1 x1
        have HD1 := Lib.hid hD1
        clear hD1
        go_wp2_with (at_builtin; refine wpList_app1 rfl (.tmp 46) (.tmp 49) 30 rfl w.heap.size 52 (.int .u32 0) 4 Try.underlying30 Try.info52 rfl (by decide) _ _ _ rfl _ 1 rfl rfl hO hb hb.size (by omega) ?_)
        intro v1 w1 hown1 hb1 _
        have HH := Lib.hid (hh.out.step (cc + y1) hown1 hb1 (by omega) (by rw [HD1.out, HZ.out]; omega) (fun _ => by omega))
        clear hown1 hb1 hO hb
        go_wp2
        go_roundw
        case rel => exact ⟨k + 1, (cc + y1) / 65536, _, by go_num, by go_num, by omega, by omega, HH⟩
        case measure => simp [intOf]; omega
    · have g1 : decide (k < L.length) = false := decide_eq_false h1
      by_cases h2 : k < K.length
      · have z1 : dg L k = 0 := dg_out (by omega)
        have HZ := Lib.hid z1
        clear z1
        have d2 := dg_lt HM.out.digs k
        obtain ⟨b2, o2, rfl, hc2⟩ := HK.out (by omega)
        have x2 : wr.cell? ⟨b2, o2 + k, none⟩ = some (.int .u32 (dg K k : Nat)) := cell_below hb (Nat.le_refl _) (hc2 k _ (dg_get h2))
        clear hc2
        generalize hD2 : dg K k = y2 at d2 x2
        have HD2 := Lib.hid hD2
        clear hD2
        go_wp2_with (at_builtin; refine wpList_app1 rfl (.tmp 46) (.tmp 49) 30 rfl w.heap.size 52 (.int .u32 0) 4 Try.underlying30 Try.info52 rfl (by decide) _ _ _ rfl _ 1 rfl rfl hO hb hb.size (by omega) ?_)
        intro v1 w1 hown1 hb1 _
        have HH := Lib.hid (hh.out.step (cc + y2) hown1 hb1 (by omega) (by rw [HZ.out, HD2.out]; omega) (fun _ => by omega))
        clear hown1 hb1 hO hb
        go_wp2
        go_roundw
        case rel => exact ⟨k + 1, (cc + y2) / 65536, _, by go_num, by go_num, by omega, by omega, HH⟩
        case measure => simp [intOf]; omega
      · have g2 : decide (k < K.length) = false := decide_eq_false h2
        by_cases h3 : 0 < cc
        · have z1 : dg L k = 0 := dg_out (by omega)
          have z2 : dg K k = 0 := dg_out (by omega)
          have hkk : k = max L.length K.length := by rcases hh.out.top with h | ⟨_, h, _⟩ <;> omega
          have HZ1 := Lib.hid z1
          have HZ2 := Lib.hid z2
          have HKK := Lib.hid hkk
          clear z1 z2 hkk
          go_wp2_with (at_builtin; refine wpList_app1 rfl (.tmp 46) (.tmp 49) 30 rfl w.heap.size 52 (.int .u32 0) 4 Try.underlying30 Try.info52 rfl (by decide) _ _ _ rfl _ 1 rfl rfl hO hb hb.size (by omega) ?_)
          intro v1 w1 hown1 hb1 _
          have HH := Lib.hid (hh.out.step (cc) hown1 hb1 (by omega) (by rw [HZ1.out, HZ2.out]; omega) (fun _ => ⟨HKK.out, h3, by omega, by omega⟩))
          clear hown1 hb1 hO hb
          go_wp2
          go_roundw
          case rel => exact ⟨k + 1, (cc) / 65536, _, by go_num, by go_num, by have := HKK.out; omega, by omega, HH⟩
          case measure => simp [intOf]; have := HKK.out; omega
        · obtain rfl : cc = 0 := by omega
          have HF := Lib.hid (Adds.fin HL.out HM.out hh.out (by omega))
          clear hO
          go_wp2
          go_ret
          exact ⟨_, rfl, HF.out, hb⟩

end Go.Proofs.Ytbknkcfnhfolpaa
