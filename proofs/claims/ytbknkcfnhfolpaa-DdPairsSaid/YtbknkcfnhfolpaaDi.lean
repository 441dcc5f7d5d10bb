/-
  ref02's Mul: what it returns.
-/
import Derived.Test.YtbknkcfnhfolpaaDh
namespace Go.Proofs.Ytbknkcfnhfolpaa
open Go.RowKit

/-- between rows -/
structure Mulo (L : List Nat) (n i N : Nat) (w wr : World) (out : Value) (O : List Nat) : Prop where
  own : wr.ownsRow w.heap.size 52 1 out N (dvl O)
  digs : Digs O
  sum : ofd O = ofd (L.take i) * n
  b : Below w.heap.size w wr

theorem Mulo.into {L : List Nat} {n i N : Nat} {w wr : World} {out : Value} {O : List Nat} (h : Mulo L n i N w wr out O) (K : List Nat) (a : Nat) : Muls K (ofd (L.take i)) n a i N w wr out O 0 0 :=
  ⟨h.own, h.digs, by rw [h.sum]; simp [ofd], h.b⟩

theorem Muls.out {L K : List Nat} {n i N : Nat} {w wr : World} {out : Value} {O : List Nat} {k : Nat} (hv : ofd K = n) (h : Muls K (ofd (L.take i)) n (dg L i) i N w wr out O k 0) (hk : K.length ≤ k) : Mulo L n (i + 1) N w wr out O :=
  ⟨h.own, h.digs, by have := h.sum; rw [take_all hk, hv] at this; rw [take_dg, Nat.add_mul]; omega, h.b⟩

theorem Muls.drewN {K : List Nat} {T n a i N : Nat} {w wr : World} {out : Value} {O : List Nat} {k c : Nat} (h : Muls K T n a i N w wr out O k c) (q : Nat) : Muls K T n a i N w (wr.drewN q) out O k c :=
  ⟨h.own, h.digs, h.sum, below_drewN' h.b q⟩

/-- behind the last column nothing is left -/
theorem Muls.last {L K : List Nat} {n i N : Nat} {w wr : World} {out : Value} {O : List Nat} {k c : Nat} (hl : Digs L) (hk : Digs K) (hv : ofd K = n) (h : Muls K (ofd (L.take i)) n (dg L i) i N w wr out O k c) (hk2 : k = K.length + 1) : c = 0 := by
  have h1 := h.sum
  rw [take_all (xs := K) (by omega), hv] at h1
  have h2 : ofd (L.take (i + 1)) * n = ofd (L.take i) * n + 65536 ^ i * dg L i * n := by rw [take_dg, Nat.add_mul]
  have h3 := ofd_take_lt hl (i + 1)
  have h4 := ofd_lt hk
  rw [hv] at h4
  have h5 : ofd (L.take (i + 1)) * n < 65536 ^ (i + 1) * 65536 ^ K.length := Nat.mul_lt_mul_of_lt_of_le h3 (Nat.le_of_lt h4) (Nat.pow_pos (by omega))
  rw [← Nat.pow_add, show i + 1 + K.length = i + k by omega] at h5
  apply Nat.eq_zero_of_not_pos
  intro hc
  have h6 : 65536 ^ (i + k) * 1 ≤ 65536 ^ (i + k) * c := Nat.mul_le_mul_left _ hc
  omega

theorem mulbound {x c a d : Nat} (hx : x < 65536) (hc : c < 65536) (ha : a < 65536) (hd : d < 65536) : x + c + a * d < 4294967296 := by
  have : a * d ≤ 65535 * 65535 := Nat.mul_le_mul (by omega) (by omega)
  omega

set_option maxHeartbeats 4000000 in
theorem mul_any {m n : Nat} {u v : Value} {w : World} (h : Dg w u m) (k : Dg w v n) (hs : Sm m) (ks : Sm n) :
    Calls Try.prog 33 #[u, v] w fun e w' => ∃ u, e = .returned u ∧ Dg w' u (m * n) ∧ Below w.heap.size w w' := by
  obtain ⟨L, hL, hc⟩ := h
  obtain ⟨K, hK, kc⟩ := k
  have hlen := hs.len hc
  have klen := ks.len kc
  obtain ⟨a, c, rfl, hcell⟩ := hL.form
  obtain ⟨a', c', rfl, kcell⟩ := hK.form
  have HL := Lib.hid hc
  have HM := Lib.hid kc
  have HK := Lib.hid kcell
  have HC := Lib.hid hcell
  clear hcell kcell hL hK hc kc hs ks
  go_enter Try.func33, Try.ntmps33
  go_wp2_with (refine wpList_mk (w0 := w) rfl (.tmp 15) 30 rfl w.heap.size 52 (.int .u32 0) 4 Try.underlying30 Try.info52 rfl (by decide) _ _ (L.length + K.length + 1) rfl (by omega) (by omega) (Below.refl _ _) (Nat.le_refl _) ?_)
  intro w1 ho1 hb1 hB1
  have hS : Hid (Mulo L n 0 (L.length + K.length + 1) w w1 (.slice (some ⟨w.heap.size, 0, none⟩) (L.length + K.length + 1) (L.length + K.length + 1)) (List.replicate (L.length + K.length + 1) 0)) := by
    refine ⟨?_, ?_, by rw [ofd_zeros]; simp [ofd], hb1⟩
    · have e : dvl (List.replicate (L.length + K.length + 1) 0) = List.replicate (L.length + K.length + 1) (Value.int .u32 0) := by simp [dvl]
      rw [e]; exact ho1.out
    · intro d hd
      obtain ⟨_, rfl⟩ := List.mem_replicate.1 hd
      decide
  clear ho1 hb1 hB1
  obtain ⟨N, hN⟩ : ∃ N, N = L.length + K.length + 1 := ⟨_, rfl⟩
  rw [← hN] at hS ⊢
  have hN2 : L.length + K.length + 1 ≤ N := by omega
  have hN3 : N ≤ L.length + K.length + 1 := by omega
  clear hN
  obtain ⟨g, hg⟩ : ∃ g, g = w.heap.size := ⟨_, rfl⟩
  rw [← hg] at hS ⊢
  have hg2 : w.heap.size ≤ g := by omega
  clear hg
  go_wp2
  go_loopw [6] (fun i wr => ∃ (k : Nat) (O : List Nat), i = .int .i64 k ∧ k ≤ L.length ∧ Hid (Mulo L n k N w wr (.slice (some ⟨g, 0, none⟩) N N) O)) (fun i _ => L.length - (intOf i).toNat)
  case atStart => exact ⟨0, _, rfl, Nat.zero_le _, hS⟩
  case round =>
    obtain ⟨i, O, rfl, hi, hh⟩ := hrel
    by_cases hlt : i < L.length
    · have da := dg_lt HL.out.digs i
      obtain ⟨b1, o1, rfl, hc1⟩ := HC.out (by omega)
      have ca := Lib.hid (hc1 i _ (dg_get hlt))
      clear hc1
      have hS1 := Lib.hid (hh.out.into K (dg L i))
      clear hh hS
      go_wp2
      go_loopw [7, 8] (fun cc j wr => ∃ (k c : Nat) (O : List Nat), j = .int .i64 k ∧ cc = .int .u32 c ∧ k ≤ K.length + 1 ∧ c < 65536 ∧ Hid (k = K.length + 1 → c = 0) ∧ Hid (Muls K (ofd (L.take i)) n (dg L i) i N w wr (.slice (some ⟨g, 0, none⟩) N N) O k c)) (fun _ j _ => K.length + 1 - (intOf j).toNat)
      case atStart => exact ⟨0, 0, O, rfl, rfl, by omega, by omega, fun _ => rfl, hS1⟩
      case round =>
        obtain ⟨k, cc, O, rfl, rfl, hk, hcc, hend, hh⟩ := hrel
        clear hS1
        by_cases h2 : k < K.length
        · have hx : wr.cell? ⟨g, i + k, none⟩ = some (.int .u32 (dg O (i + k) : Nat)) := by
            rw [hh.out.own.cellAt (i + k) (by omega)]
            exact dvl_get (dg_get (by rw [own_len hh.out.own]; omega))
          have hfz := hh.out.own.frozenAt (i + k)
          have hdx := dg_lt hh.out.digs (i + k)
          have d2 := dg_lt HM.out.digs k
          obtain ⟨b2, o2, rfl, hc2⟩ := HK.out (by omega)
          have x2 : wr.cell? ⟨b2, o2 + k, none⟩ = some (.int .u32 (dg K k : Nat)) := cell_below hh.out.b (Nat.le_refl _) (hc2 k _ (dg_get h2))
          have x1 : wr.cell? ⟨b1, o1 + i, none⟩ = some (.int .u32 (dg L i : Nat)) := cell_below hh.out.b (Nat.le_refl _) ca.out
          clear hc2
          have hbd := mulbound hdx hcc da d2
          have HST := Lib.hid (fun q u hu => (hh.out.drewN q).step (by omega) hg2 (dg O (i + k) + cc + dg L i * dg K k) u rfl hu)
          have HLA := Lib.hid (fun wr' O' c' (h : Muls K (ofd (L.take i)) n (dg L i) i N w wr' (.slice (some ⟨g, 0, none⟩) N N) O' (k + 1) c') (h1 : k + 1 = K.length + 1) => h.last HL.out.digs HM.out.digs HM.out.val h1)
          generalize dg O (i + k) = x at *
          generalize dg K k = d at *
          generalize hA : dg L i = y at *
          have HA := Lib.hid hA
          clear hA
          obtain ⟨p, hp⟩ : ∃ p, y * d = p := ⟨_, rfl⟩
          rw [hp] at hbd HST
          have hp2 : (y : Int) * d = p := by rw [← hp]; simp
          have hw1 : IntKind.u32.wrap ((y : Int) * d) = p := by rw [hp2]; exact IntWalk.u32_in _ (by omega)
          have HP := Lib.hid hp
          clear hp
          go_wp2
          go_quiet (fail)
          go_wp2
          have HH := Lib.hid (fun q => HST.out q (.int .u32 (((x : Int) + cc + p) % 65536)) (by congr 1))
          have hend : Hid (k + 1 = K.length + 1 → (x + cc + p) / 65536 = 0) := fun h1 => HLA.out _ _ _ (HH.out 0) h1
          clear HST HLA hfz hx x1 x2 hw1 hp2
          go_roundw
          case rel => exact ⟨k + 1, (x + cc + p) / 65536, _, by go_num, by go_num, by omega, by omega, hend, HH.out _⟩
          case measure => simp [intOf]; omega
        · have g2 : decide (k < K.length) = false := decide_eq_false h2
          by_cases h3 : 0 < cc
          · have hkk : k = K.length := by
              have h4 := hend.out
              omega
            have hx : wr.cell? ⟨g, i + k, none⟩ = some (.int .u32 (dg O (i + k) : Nat)) := by
              rw [hh.out.own.cellAt (i + k) (by omega)]
              exact dvl_get (dg_get (by rw [own_len hh.out.own]; omega))
            have hfz := hh.out.own.frozenAt (i + k)
            have hdx := dg_lt hh.out.digs (i + k)
            have z2 : dg K k = 0 := dg_out (by omega)
            have HST := Lib.hid (fun u hu => hh.out.step (by omega) hg2 (dg O (i + k) + cc) u (by rw [z2]; omega) hu)
            have HLA := Lib.hid (fun wr' O' c' (h : Muls K (ofd (L.take i)) n (dg L i) i N w wr' (.slice (some ⟨g, 0, none⟩) N N) O' (k + 1) c') (h1 : k + 1 = K.length + 1) => h.last HL.out.digs HM.out.digs HM.out.val h1)
            generalize dg O (i + k) = x at *
            have HKK := Lib.hid hkk
            clear hkk z2
            go_wp2
            have HH := Lib.hid (HST.out (.int .u32 (((x : Int) + cc) % 65536)) (by congr 1))
            have hend : Hid (k + 1 = K.length + 1 → (x + cc) / 65536 = 0) := fun h1 => HLA.out _ _ _ HH.out h1
            have hk1 : k + 1 ≤ K.length + 1 := by have := HKK.out; omega
            clear HST HLA hfz hx
            go_roundw
            case rel => exact ⟨k + 1, (x + cc) / 65536, _, by go_num, by go_num, hk1, by omega, hend, HH⟩
            case measure => simp [intOf]; have := HKK.out; omega
          · obtain rfl : cc = 0 := by omega
            have hO := Lib.hid (Muls.out HM.out.val hh.out (by omega))
            clear hh hend
            go_wp2
            go_roundw
            case rel => exact ⟨i + 1, O, by go_num, by omega, hO⟩
            case measure => simp [intOf]; omega
    · obtain rfl : i = L.length := by omega
      have HE : Hid (ofd O = m * n) := by have := hh.out.sum; rw [take_all (Nat.le_refl _), HL.out.val] at this; exact this
      have hlt' : ¬ L.length < L.length := hlt
      go_wp2_with fail
      refine (norm_any (Sl.of_own hh.out.own) hh.out.digs (by rw [own_len hh.out.own]; omega) (Capd.of_own hh.out.own)).mono ?_
      rintro e w2 ⟨u, rfl, hd2, hb2⟩
      have HG : Hid (Dg w2 u (m * n) ∧ Below w.heap.size w w2) := ⟨by rw [← HE.out]; exact hd2, hh.out.b.trans (hb2.mono hh.out.b.size)⟩
      clear hd2 hb2
      go_wp2
      go_ret
      exact ⟨_, rfl, HG.out.1, HG.out.2⟩

end Go.Proofs.Ytbknkcfnhfolpaa
