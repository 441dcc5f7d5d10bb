/-
  cascade.Go at numbers, asked with the closure of CascadeGoes, with a budget.
-/
import Derived.Test.YtpofnljcjoplnaaGoes
namespace Go.Proofs.Ytpofnljcjoplnaa
open Go.ChangeShapes Go.WideShapes Go.ChangeAt Go.RowKit

/-- What Go leaves, with a budget. -/
def BudEnd (B C D most tok A T : Nat) (xs : List Int) (at_ : Int) (w : World) (e : Ending) (w' : World) : Prop :=
  GoEnd A T w.heap.size (fun i => i = C) xs tok at_ w e w' ∧ Bud w' B C D most (tok - (endsOut xs.length tok at_).1) true

set_option maxHeartbeats 4000000 in
theorem go27_bud (B C D most tok : Nat) (A T : Nat) (at_ : Int) (va : Value) (xs : List Int) (w : World) (hl : xs.length ≤ 60) (hva : Sl w va (xs.map (.int .i64))) (hA : Blk w A 23 #[.slice none 0 0]) (hT : w.cell? ⟨T, 0, none⟩ = some (.int .i64 at_)) (hAT : A ≠ T) (hbud : Bud w B C D most tok true) :
    Calls Try.prog 27 #[va, .pointer (some ⟨B, 0, none⟩), .func (.func 28) #[] #[.pointer (some ⟨A, 0, none⟩), .pointer (some ⟨T, 0, none⟩)]] w (BudEnd B C D most tok A T xs at_ w) := by
  obtain ⟨a, c, rfl, hva⟩ := hva
  simp only [List.length_map] at hva ⊢
  have hli : (xs.length : Int) ≤ 60 := by omega
  have hBw := hbud.ltB
  have hCw := hbud.ltC
  have hDw := hbud.ltD
  have nAB : A ≠ B := by rintro rfl; have h1 := hbud.hB; simp only [Blk] at hA; rw [hA] at h1; cases h1
  have nAC : A ≠ C := by rintro rfl; obtain ⟨_, _, _, h1, _⟩ := hbud.hC; simp only [Blk] at hA; rw [hA] at h1; cases h1
  have nAD : A ≠ D := by rintro rfl; obtain ⟨_, _, h1⟩ := hbud.hD; simp only [Blk] at hA; rw [hA] at h1; cases h1
  have nT : T ≠ C := by
    rintro rfl
    obtain ⟨_, _, _, h1, _⟩ := hbud.hC
    simp [World.cell?, h1] at hT
  have nb : ∀ b off u, w.cell? ⟨b, off, none⟩ = some u → b ≠ C := by
    rintro b off u hc rfl
    obtain ⟨_, _, _, h1, _⟩ := hbud.hC
    simp [World.cell?, h1] at hc
  have hneBC := hbud.neBC
  have hneCD := hbud.ne
  have HNB := Lib.hid nb
  clear nb
  have HBUD := Lib.hid hbud
  have hAw := hA.lt
  have hTw := cell_lt hT
  have HV := Lib.hid hva
  have HA := Lib.hid hA
  have HT := Lib.hid hT
  have hfn := fun W => func64 (.func 28) (.pointer (some ⟨A, 0, none⟩)) (.pointer (some ⟨T, 0, none⟩)) W
  have hinv : Hid (GoInv A T (fun i => i = C) xs at_ w ((w.alloc (.cells #[.int .i64 0, .int .i64 0, .int .i64 0, .int .i64 0] 61)).alloc (.cells #[.int .i64 0, .int .i64 0, .int .i64 0, .int .i64 2] 61)) 0) := by
    have e2 := heap_alloc_new (w.alloc (.cells #[.int .i64 0, .int .i64 0, .int .i64 0, .int .i64 0] 61)) (.cells #[.int .i64 0, .int .i64 0, .int .i64 0, .int .i64 2] 61)
    simp only [World.size_alloc] at e2
    have hb : Below w.heap.size w ((w.alloc (.cells #[.int .i64 0, .int .i64 0, .int .i64 0, .int .i64 0] 61)).alloc (.cells #[.int .i64 0, .int .i64 0, .int .i64 0, .int .i64 2] 61)) := ((Below.refl _ _).alloc (Nat.le_refl _) _).alloc (by simp) _
    exact ⟨Nat.zero_le _, by omega, (Below.heap_alloc _ _ _ (by simp)).trans (heap_alloc_new w _), ⟨0, e2, fun _ => rfl, by omega⟩, ⟨_, (Chg.of_below (S := fun _ => False) hb).blk hA id, World.ownsRow_nil _ _ _ _⟩, Chg.of_below hb, cell_below hb (Nat.le_refl _) hT⟩
  have hbud0 : Hid (Bud ((w.alloc (.cells #[.int .i64 0, .int .i64 0, .int .i64 0, .int .i64 0] 61)).alloc (.cells #[.int .i64 0, .int .i64 0, .int .i64 0, .int .i64 2] 61)) B C D most (tok - 0) true) :=
    hbud.keep (Chg.of_below (S := fun _ => False) (((Below.refl _ _).alloc (Nat.le_refl _) _).alloc (by simp) _)) id id id
  clear hva hA hT hbud
  go_enter Try.func27, Try.ntmps27
  go_wp2
  generalize (w.alloc (.cells #[.int .i64 0, .int .i64 0, .int .i64 0, .int .i64 0] 61)).alloc (.cells #[.int .i64 0, .int .i64 0, .int .i64 0, .int .i64 2] 61) = w0 at hinv hbud0 ⊢
  go_loopw [19] (fun i wr => ∃ k : Nat, i = .int .i64 k ∧ Hid (GoInv A T (fun i => i = C) xs at_ w wr k) ∧ k ≤ tok ∧ Hid (Bud wr B C D most (tok - k) true)) (fun i _ => xs.length - (intOf i).toNat)
  case atStart => exact ⟨0, rfl, hinv, Nat.zero_le _, hbud0⟩
  case round =>
    obtain ⟨k, rfl, hi, hkt, hbk⟩ := hrel
    have hk := hi.out.le
    by_cases hlt : k < xs.length
    · have hki : (k : Int) < xs.length := by omega
      obtain ⟨b, off, rfl, hc⟩ := HV.out (by omega)
      have hx : Hid (xs[k]? = some xs[k]) := by simp [Hid, hlt]
      have cw : w.cell? ⟨b, off + k, none⟩ = some (.int .i64 xs[k]) := hc k _ (by simp [hlt])
      have cx : _ := hi.out.chg.cell cw (by have h1 := blk_ne HA.out (by simp) cw; have h2 := HNB.out _ _ _ cw; simp [h1, h2])
      have hbC : b ≠ C := HNB.out _ _ _ cw
      clear cw hc HV
      generalize xs[k] = x at cx hx
      obtain ⟨bits, hR, hb0, hb1⟩ := hi.out.r
      obtain ⟨v, hA1, hown⟩ := hi.out.a
      have hT1 := hi.out.t
      have hsz := hi.out.chg.size
      have hRlt := hR.lt
      by_cases hspent : tok = k
      · have hz : Hid (decide (0 < tok - k) = false) := by simp [Hid]; omega
        have HSP := Lib.hid hspent
        clear hspent
        go_wp2_with fail
        refine (take_bud hbk.out).mono ?_
        rw [hz.out]
        rintro e wt ⟨rfl, hbt, hct, _⟩
        have hR : Blk wt _ _ _ := hct.blk hR (by omega)
        have h00 : Blk wt _ _ _ := hct.blk hi.out.r0 (by omega)
        have hA1 : Blk wt _ _ _ := hct.blk hA1 nAC
        have hown := own_chg hown hct (by rintro g hg rfl; have := (hown.lt g hg).1; omega)
        have hT1 : wt.cell? ⟨T, 0, none⟩ = _ := hct.cell hT1 nT
        have hct0 : Chg (fun i => i = A ∨ (fun i => i = C) i) w wt := hi.out.chg.then hct (fun i _ h => .inr h)
  
        have hbt' : Bud wt B C D most (tok - k) true := by have := HSP.out; rwa [show tok - k - 1 = tok - k by omega] at hbt
        have c0 := hR.at 0 _ rfl
        have c1 := hR.at 1 _ rfl
        have c2 := hR.at 2 _ rfl
        have c3 := hR.at 3 _ rfl
        have f3 := hR.frozen 3
        have d0 := h00.at 0 _ rfl
        have d1 := h00.at 1 _ rfl
        have d2 := h00.at 2 _ rfl
        have d3 := h00.at 3 _ rfl
        have g0 := h00.frozen 0
        have g1 := h00.frozen 1
        have g2 := h00.frozen 2
        have g3 := h00.frozen 3
        have hn0 := own_ne hown h00 (by decide)
        have hnR := own_ne hown hR (by decide)
        have H := Lib.hid (And.intro hA1 (And.intro hown (And.intro hct0 (And.intro hT1 (And.intro h00 (And.intro hR (And.intro hb0 (And.intro hb1 (And.intro hnR (And.intro hn0 (And.intro hi.out.no hbt')))))))))))
        clear hA1 hown hct0 hT1 h00 hR hb0 hb1 hnR hn0 hi hbt hbt' hct
        go_wp2
        obtain ⟨hA2, hown2, hcw, hT2, h01, hR1, hb0, hb1, hnR, hn0, hno, hbt'⟩ := H.out
        have q1 : Blk (wt.setCell ⟨w.heap.size + 1, 3, none⟩ (.int .i64 1)) (w.heap.size + 1) 61 _ ∧ Chg (· = w.heap.size + 1) wt (wt.setCell ⟨w.heap.size + 1, 3, none⟩ (.int .i64 1)) :=
          ⟨hR1.set 3 _, by
            have h0 : Chg (· = w.heap.size + 1) wt wt := Chg.refl _ _
            exact h0.setCell (p := ⟨w.heap.size + 1, 3, none⟩) (.inl rfl) _⟩
        have q2 := fin4 (q1.2.blk h01 (by omega)) (.int .i64 k) (.int .i64 bits) (.int .i64 k) (.int .i64 1)
        have r0 := q2.1.at 0 _ rfl
        have r1 := q2.1.at 1 _ rfl
        have r2 := q2.1.at 2 _ rfl
        have r3 := q2.1.at 3 _ rfl
        have hW := (q1.2.mono (T := fun i => i = w.heap.size ∨ i = w.heap.size + 1) (fun _ _ h => .inr h)).trans (q2.2.mono (fun _ _ h => .inl h))
        clear q1 q2 f3 g0 g1 g2 g3 c0 c1 c2 c3 d0 d1 d2 d3
        generalize (((((wt.setCell ⟨w.heap.size + 1, 3, none⟩ (.int .i64 1)).setCell ⟨w.heap.size, 0, none⟩ (.int .i64 k)).setCell ⟨w.heap.size, 1, none⟩ (.int .i64 bits)).setCell ⟨w.heap.size, 2, none⟩ (.int .i64 k)).setCell ⟨w.heap.size, 3, none⟩ (.int .i64 1)) = W at r0 r1 r2 r3 hW ⊢
        refine bodyPost_ret (v := .tuple #[.agg #[.int .i64 k, .int .i64 bits, .int .i64 k, .int .i64 1], .int .i64 0]) (by simp [results, Try.results27, go_sem, r0, r1, r2, r3]) rfl ?_
        have he : endsOut xs.length tok at_ = (k, 1) := by rw [HSP.out]; exact endsOut_spent hno hlt
        exact ⟨goEnd_of rfl he rfl hk hb0 hb1 hA2 hown2 hcw hT2 hAw hTw hnR hn0 hW, by rw [he]; exact hbt'.keep hW (by omega) (by omega) (by omega)⟩
      have hpos : Hid (decide (0 < tok - k) = true) := by simp [Hid]; omega
      go_wp2_with fail
      refine (take_bud hbk.out).mono ?_
      rw [hpos.out]
      rintro e wt ⟨rfl, hbt, hct, _⟩
      have hR : Blk wt _ _ _ := hct.blk hR (by omega)
      have h00 : Blk wt _ _ _ := hct.blk hi.out.r0 (by omega)
      have hA1 : Blk wt _ _ _ := hct.blk hA1 nAC
      have hown := own_chg hown hct (by rintro g hg rfl; have := (hown.lt g hg).1; omega)
      have hT1 : wt.cell? ⟨T, 0, none⟩ = _ := hct.cell hT1 nT
      have cx := hct.cell cx hbC
      have hct0 : Chg (fun i => i = A ∨ (fun i => i = C) i) w wt := hi.out.chg.then hct (fun i _ h => .inr h)
      have hsz : w.heap.size ≤ wt.heap.size := hct0.size
      have hRlt := hR.lt
      have c0 := hR.cell 0
      have c1 := hR.cell 1
      have c2 := hR.cell 2
      have c3 := hR.cell 3
      simp only [List.getElem?_toArray, List.getElem?_cons_zero, List.getElem?_cons_succ] at c0 c1 c2 c3
      go_wp2_with fail
      refine (try28 A T w.heap.size k x at_ v (xs.take k) wt (by simp; omega) (by omega) hA1 hT1 hAT hAw hTw hsz hown).mono ?_
      rintro e w1 ⟨v1, rfl, hA2, hown2, hc2⟩
      have hRn := own_ne hown hR (by decide)
      have hR1 := hc2.blk hR (by rintro (h | h); omega; exact hRn h)
      have h01 := hc2.blk h00 (by rintro (h | h); omega; exact own_ne hown h00 (by decide) h)
      have hT2 := hc2.cell hT1 (by rintro (h | h); exact hAT h.symm; (have := (hown.lt T h.symm).1; omega))
      have hcw : Chg (fun i => i = A ∨ (fun i => i = C) i) w w1 := hct0.then hc2 (fun i hi' h => by rcases h with h | h; exact .inl h; (have := (hown.lt i h.symm).1; omega))
      have c0 := hR1.cell 0
      have c1 := hR1.cell 1
      have c2 := hR1.cell 2
      have c3 := hR1.cell 3
      have f0 := hR1.frozen 0
      have f1 := hR1.frozen 1
      have f2 := hR1.frozen 2
      have f3 := hR1.frozen 3
      have d0 := h01.cell 0
      have d1 := h01.cell 1
      have d2 := h01.cell 2
      have d3 := h01.cell 3
      have g0 := h01.frozen 0
      have g1 := h01.frozen 1
      have g2 := h01.frozen 2
      have g3 := h01.frozen 3
      have hb1 := hbt.keep hc2 (by rintro (h | h); omega; (have := (hown.lt B h.symm).1; omega)) (by rintro (h | h); omega; (have := (hown.lt C h.symm).1; omega)) (by rintro (h | h); omega; (have := (hown.lt D h.symm).1; omega))
      have HB1 := Lib.hid hb1
      simp only [List.getElem?_toArray, List.getElem?_cons_zero, List.getElem?_cons_succ] at c0 c1 c2 c3 d0 d1 d2 d3
      have hx1 : (xs.take k ++ [x]) = xs.take (k + 1) := by rw [List.take_add_one, hx.out]; rfl
      rw [hx1] at hown2
      have hx2 : xs[k + 1 - 1]? = some x := hx.out
      have hnR := own_ne hown2 hR1 (by decide)
      have hn0 := own_ne hown2 h01 (by decide)
      have hT2 : w1.cell? ⟨T, 0, none⟩ = some (.int .i64 at_) := hT2
      have H := Lib.hid (And.intro hA2 (And.intro hown2 (And.intro hcw (And.intro hT2 (And.intro hR1 (And.intro h01 (And.intro hx2 (And.intro hnR hn0))))))))
      have hno := Lib.hid hi.out.no
      clear hA2 hown2 hcw hT2 hR1 h01 hx1 hx2 hnR hn0 hc2 hRn hT1 hA1 hown hR hb0 hb1 hi
      by_cases hat : (k : Int) = at_
      · have t0 : ((k : Int) == at_) = true := by simp [hat]
        have HAT := Lib.hid hat
        clear hat
        rw [t0]
        go_wp2
        obtain ⟨hA2, hown2, hcw, hT2, hR1, h01, hx2, hnR, hn0⟩ := H.out
        have q1 := fin4 hR1 (.int .i64 (k + 1)) (.int .i64 x) (.int .i64 (k + 1)) (.int .i64 0)
        have q2 := fin4 (q1.2.blk h01 (by omega)) (.int .i64 (k + 1)) (.int .i64 x) (.int .i64 (k + 1)) (.int .i64 0)
        have r0 := q2.1.at 0 _ rfl
        have r1 := q2.1.at 1 _ rfl
        have r2 := q2.1.at 2 _ rfl
        have r3 := q2.1.at 3 _ rfl
        have hW := (q1.2.mono (T := fun i => i = w.heap.size ∨ i = w.heap.size + 1) (fun _ _ h => .inr h)).trans (q2.2.mono (fun _ _ h => .inl h))
        clear q1 q2 f0 f1 f2 f3 g0 g1 g2 g3 c0 c1 c2 c3 d0 d1 d2 d3
        generalize ((((((((w1.setCell ⟨w.heap.size + 1, 0, none⟩ (.int .i64 (k + 1))).setCell ⟨w.heap.size + 1, 1, none⟩ (.int .i64 x)).setCell ⟨w.heap.size + 1, 2, none⟩ (.int .i64 (k + 1))).setCell ⟨w.heap.size + 1, 3, none⟩ (.int .i64 0)).setCell ⟨w.heap.size, 0, none⟩ (.int .i64 (k + 1))).setCell ⟨w.heap.size, 1, none⟩ (.int .i64 x)).setCell ⟨w.heap.size, 2, none⟩ (.int .i64 (k + 1))).setCell ⟨w.heap.size, 3, none⟩ (.int .i64 0)) = W at r0 r1 r2 r3 hW ⊢
        refine bodyPost_ret (v := .tuple #[.agg #[.int .i64 (k + 1), .int .i64 x, .int .i64 (k + 1), .int .i64 0], .int .i64 0]) (by simp [results, Try.results27, go_sem, r0, r1, r2, r3]) rfl ?_
        have he : endsOut xs.length tok at_ = (k + 1, 0) := by rw [← HAT.out]; exact endsOut_hit hlt (.inr (by omega))
        exact ⟨goEnd_of rfl he (by simp) hlt (by omega) (fun _ => hx2) hA2 hown2 hcw hT2 hAw hTw hnR hn0 hW, by rw [he]; exact HB1.out.keep hW (by omega) (by omega) (by omega)⟩
      · have t0 : ((k : Int) == at_) = false := by simp [hat]
        rw [t0]
        obtain ⟨hA2, hown2, hcw, hT2, hR1, h01, hx2, hnR, hn0⟩ := H.out
        have hI := Lib.hid (goInv_next hlt hno.out hat hx2 hA2 hown2 hcw hT2 h01 hAw hTw hnR (fin3 hR1 (.int .i64 (k + 1 : Nat)) (.int .i64 x) (.int .i64 (k + 1 : Nat))))
        rw [show ((k + 1 : Nat) : Int) = (k : Int) + 1 from by omega] at hI
        have hB2 := Lib.hid (HB1.out.keep (fin3 hR1 (.int .i64 (k + 1 : Nat)) (.int .i64 x) (.int .i64 (k + 1 : Nat))).2 (by omega) (by omega) (by omega))
        rw [show ((k + 1 : Nat) : Int) = (k : Int) + 1 from by omega] at hB2
        clear hA2 hown2 hcw hT2 hR1 h01 hx2 hnR hn0 hat
        go_wp2
        go_roundw
        case rel => exact ⟨k + 1, by go_num, hI, by omega, hB2⟩
        case measure => simp [intOf]; omega
    · obtain rfl : k = xs.length := by omega
      have hge : (xs.length : Int) ≤ xs.length := by omega
      obtain ⟨bits, hR1, hb0, hb1⟩ := hi.out.r
      obtain ⟨v, hA1, hown⟩ := hi.out.a
      have hT1 := hi.out.t
      have h01 := hi.out.r0
      have c0 := hR1.at 0 _ rfl
      have c1 := hR1.at 1 _ rfl
      have c2 := hR1.at 2 _ rfl
      have c3 := hR1.at 3 _ rfl
      have d0 := h01.at 0 _ rfl
      have d1 := h01.at 1 _ rfl
      have d2 := h01.at 2 _ rfl
      have d3 := h01.at 3 _ rfl
      have g0 := h01.frozen 0
      have g1 := h01.frozen 1
      have g2 := h01.frozen 2
      have g3 := h01.frozen 3
      have hn0 := own_ne hown h01 (by decide)
      have hnR := own_ne hown hR1 (by decide)
      have H := Lib.hid (And.intro hA1 (And.intro hown (And.intro hi.out.chg (And.intro hT1 (And.intro h01 (And.intro hb0 (And.intro hb1 (And.intro hnR (And.intro hn0 hi.out.no)))))))))
      clear hA1 hown hT1 h01 hb0 hb1 hnR hn0 hi hR1
      go_wp2
      obtain ⟨hA2, hown2, hcw, hT2, h01, hb0, hb1, hnR, hn0, hno⟩ := H.out
      have q2 := fin4 h01 (.int .i64 xs.length) (.int .i64 bits) (.int .i64 xs.length) (.int .i64 2)
      have r0 := q2.1.at 0 _ rfl
      have r1 := q2.1.at 1 _ rfl
      have r2 := q2.1.at 2 _ rfl
      have r3 := q2.1.at 3 _ rfl
      have hW := q2.2.mono (T := fun i => i = w.heap.size ∨ i = w.heap.size + 1) (fun _ _ h => .inl h)
      clear q2 g0 g1 g2 g3 c0 c1 c2 c3 d0 d1 d2 d3
      generalize ((((wr.setCell ⟨w.heap.size, 0, none⟩ (.int .i64 xs.length)).setCell ⟨w.heap.size, 1, none⟩ (.int .i64 bits)).setCell ⟨w.heap.size, 2, none⟩ (.int .i64 xs.length)).setCell ⟨w.heap.size, 3, none⟩ (.int .i64 2)) = W at r0 r1 r2 r3 hW ⊢
      refine bodyPost_ret (v := .tuple #[.agg #[.int .i64 xs.length, .int .i64 bits, .int .i64 xs.length, .int .i64 2], .int .i64 0]) (by simp [results, Try.results27, go_sem, r0, r1, r2, r3]) rfl ?_
      have he : endsOut xs.length tok at_ = (xs.length, 2) := endsOut_done hno (.inr (by omega))
      exact ⟨goEnd_of rfl he rfl (Nat.le_refl _) hb0 hb1 hA2 hown2 hcw hT2 hAw hTw hnR hn0 hW, by rw [he]; exact hbk.out.keep hW (by omega) (by omega) (by omega)⟩
end Go.Proofs.Ytpofnljcjoplnaa
