/-
  exps: Split, Exp, of what is not below 0 and below ln 2. Printed by gen_ef.py.
-/
import Derived.Test.YtobpioceopfkpaaGreatDoorM27
import Derived.Test.YtobpioceopfkpaaGreatDoorM28
import Derived.Test.YtobpioceopfkpaaGreatDoorM14
import Derived.Test.YtobpioceopfkpaaGreatDoorM13
import Derived.Test.YtobpioceopfkpaaGreatDoorM18
import Derived.BigQuiet
import Derived.Deep.RegionHeld3
import Derived.Deep.DeepCutAuto
namespace Go.Proofs.YtobpioceopfkpaaGreatDoor
open Go.RowKit

/-- behind floor and ceil -/
def SpI (w wx : World) (v v' : Value) (l h c d : Nat) (vc vd : Value) : Prop := ∃ (g1 g2 : Nat) (al : Option Addr) (kl cl : Nat) (ah : Option Addr) (kh ch : Nat), v = .pointer (some ⟨g1, 0, none⟩) ∧ v' = .pointer (some ⟨g2, 0, none⟩) ∧
  Fx w wx [(g1, 221, #[.bool false, .slice al kl cl])] ∧ Fx w wx [(g2, 221, #[.bool false, .slice ah kh ch])] ∧ Dg wx (.slice al kl cl) l ∧ Dg wx (.slice ah kh ch) h ∧ Dg wx vc c ∧ Dg wx vd d

set_option maxRecDepth 100000 in
set_option maxHeartbeats 4000000 in
theorem Split_r {w : World} {u : Value} {i : In} (hu : Iv w u i) (s1 : Sd i.lo) (s2 : Sd i.hi) (hc : CmpD i.lo i.hi ≤ 0) (t1 : topN (bareN i.lo) < 12) (t2 : topN (bareN i.hi) < 12) (n1 : 0 ≤ signN i.lo) (n2 : 0 ≤ signN i.hi)
    (s : Nat) (hs : 8 ≤ s ∧ s ≤ 8900) {l h c d : Nat} (hl : unitsN i.lo s false = l) (hh : unitsN i.hi s true = h) (ec : (atanhP 1 3 s).lo + (atanhP 1 3 s).lo = c) (ed : (atanhP 1 3 s).hi + (atanhP 1 3 s).hi = d)
    (b1 : bl (atanhP 1 3 s).lo ≤ 60000) (b2 : bl (atanhP 1 3 s).hi ≤ 60000) (hld : l < d) (hho : h ≤ 2 ^ s) (bl' : bl l ≤ 60000) (bc : bl c ≤ 60000) (bd : bl d ≤ 60000) :
    Calls Tryz.prog 133 #[u, .int .i64 (s : Int)] w fun e w' => ∃ x y, e = .returned (.tuple #[.int .i64 0, x, y, .int .i64 0]) ∧ Dg w' x l ∧ Dg w' y h ∧ Below w.heap.size w w' := by
  have bh : bl h ≤ 10000 := Nat.le_trans (bl_pow_le (s := s) (k := 1) (by omega) (by decide)) (by omega)
  have bo : bl (2 ^ s) ≤ 10000 := Nat.le_trans (bl_pow_le (s := s) (k := 1) (by omega) (by decide)) (by omega)
  have bz1 : bl 1 ≤ 64 := bl64 (by decide)
  have bz : bl 0 = 0 := rfl
  have C2 := Lib.hid (fun w (t : Tab w) => Ln2_r t s (by omega) (Nat.le_trans b1 (by decide)) (Nat.le_trans b2 (by decide)))
  rw [ec, ed] at C2
  obtain ⟨⟨n, m, e⟩, ⟨n', m', e'⟩⟩ := i
  simp only at s1 s2 hc t1 t2 n1 n2 hl hh
  have CX := Lib.hid (fun w u (h : Cy w u ⟨n, m, e⟩) => Xright_r h.ry s1 t1)
  have CY := Lib.hid (fun w u (h : Cy w u ⟨n', m', e'⟩) => Xright_r h.ry s2 t2)
  have CC := Lib.hid (fun w u v (h : Cy w u ⟨n, m, e⟩) (k : Cy w v ⟨n', m', e'⟩) => Cmp_d h.ry k.ry)
  have CF := Lib.hid (fun w u (h : Cy w u ⟨n, m, e⟩) => Floor_r h.ry s1 s (by omega) false (decide_eq_false (by omega)))
  have CG := Lib.hid (fun w u (h : Cy w u ⟨n', m', e'⟩) => Ceil_r h.ry s2 s (by omega) false (decide_eq_false (by omega)))
  rw [hl] at CF
  rw [show (!false) = true from rfl, hh] at CG
  have e0 : l / d = 0 := Nat.div_eq_of_lt hld
  have e1 : l % d = l := Nat.mod_eq_of_lt hld
  have CD := Lib.hid (fun w u v (hu : Dg w u l) (hv : Dg w v d) => Div_r (hu.rd (Nat.le_trans bl' (by decide))) (hv.rd (Nat.le_trans bd (by decide))) (by omega) (.inr hld) (Nat.le_trans bl' (by decide)) (Nat.le_trans bd (by decide)))
  rw [e0, e1] at CD
  have CM : Hid (∀ w u, Dg w u 0 → Calls Tryz.prog 126 #[u] w fun e w' => e = .returned (.tuple #[.int .u64 0, .bool true]) ∧ Below w.heap.size w w') := fun w u h => small_r (h.rd (by omega))
  have CU := Lib.hid (fun w u v (h : Dg w u 0) (k : Dg w v c) => mul_s (h.rd (by omega)) (k.rd (Nat.le_trans bc (by decide))) (by omega))
  rw [Nat.zero_mul] at CU
  have CN := Lib.hid (fun w u v (hu : Nm w u false h) (hv : Dg w v 0) => Minus_m hu (hv.rd (by omega)) (Nat.zero_le _) (Nat.le_trans bh (by decide)))
  rw [Nat.sub_zero] at CN
  have CL := Lib.hid (fun w u (h : Dg w u 1) => shl_s (h.rd (by omega)) s (by omega))
  rw [Nat.one_mul] at CL
  have CP := Lib.hid (fun w u v (hu : Dg w u h) (hv : Dg w v (2 ^ s)) => cmp_r (hu.rd (Nat.le_trans bh (by decide))) (hv.rd (Nat.le_trans bo (by decide))))
  have z3 : decide (0 < cmpN h (2 ^ s)) = false := decide_eq_false (by unfold cmpN; split; omega; split <;> omega)
  generalize cmpN h (2 ^ s) = cc at *
  generalize 2 ^ s = o at *
  generalize CmpD ⟨n, m, e⟩ ⟨n', m', e'⟩ = c0 at *
  have z1 : decide ((s : Int) < 8) = false := decide_eq_false (by omega)
  have z2 : decide ((8900 : Int) < (s : Int)) = false := decide_eq_false (by omega)
  have z4 : decide (0 < c0) = false := decide_eq_false (by omega)
  have z5 : decide (s < 8) = false := decide_eq_false (by omega)
  have z6 : decide (8900 < s) = false := decide_eq_false (by omega)
  obtain ⟨a1, k1, c1, a2, k2, c2, rfl, hx, hy⟩ := hu.fm
  have HX := Lib.hid hx
  have HY := Lib.hid hy
  clear hu hx hy s1 s2 hc hs t1 t2 n1 n2 hl hh ec ed b1 b2 hld hho bl' bc bd bh bo bz1 bz e0 e1
  go_enter Tryz.func133, Tryz.ntmps133
  have F0 := Lib.hid (Fx.one w 92 #[.bool n, .slice a1 k1 c1, .int .i64 e, .bool n', .slice a2 k2 c2, .int .i64 e'] rfl)
  have X0 := Lib.hid (HX.out.alloc (.cells #[.bool n, .slice a1 k1 c1, .int .i64 e, .bool n', .slice a2 k2 c2, .int .i64 e'] 92))
  have Y0 := Lib.hid (HY.out.alloc (.cells #[.bool n, .slice a1 k1 c1, .int .i64 e, .bool n', .slice a2 k2 c2, .int .i64 e'] 92))
  clear HX HY
  go_upto_region 1 with (fail)
  generalize World.alloc _ _ = w0 at F0 X0 Y0 ⊢
  have c0_0 := F0.out.c6 0 rfl
  go_wp2_with fail
  clear c0_0
  refine (CX.out _ _ X0.out).mono ?_
  rintro q w1 ⟨rfl, hb⟩
  have F1 := Lib.hid (F0.out.call hb)
  have X1 := Lib.hid (X0.out.below hb)
  have Y1 := Lib.hid (Y0.out.below hb)
  clear F0 X0 Y0
  clear hb
  have c0_1 := F1.out.c6 0 rfl
  go_wp2_with fail
  clear c0_1
  refine (CY.out _ _ Y1.out).mono ?_
  rintro q w2 ⟨rfl, hb⟩
  have F2 := Lib.hid (F1.out.call hb)
  have X2 := Lib.hid (X1.out.below hb)
  have Y2 := Lib.hid (Y1.out.below hb)
  clear F1 X1 Y1
  clear hb
  have c0_2 := F2.out.c6 0 rfl
  go_wp2_with fail
  clear c0_2
  refine (CC.out _ _ _ X2.out Y2.out).mono ?_
  rintro q w3 ⟨rfl, hb⟩
  have F3 := Lib.hid (F2.out.call hb)
  have X3 := Lib.hid (X2.out.below hb)
  have Y3 := Lib.hid (Y2.out.below hb)
  clear F2 X2 Y2
  clear hb
  have c0_3 := F3.out.c6 0 rfl
  go_wp2_with fail
  clear c0_3
  refine (C2.out _ X3.out.tab).mono ?_
  rintro q w4 ⟨x, y, rfl, hx, hy, hb⟩
  have F4 := Lib.hid (F3.out.call hb)
  have X4 := Lib.hid (X3.out.below hb)
  have Y4 := Lib.hid (Y3.out.below hb)
  clear F3 X3 Y3
  have C4 := Lib.hid (hx)
  have D4 := Lib.hid (hy)
  clear hb
  have c0_4 := F4.out.c6 0 rfl
  obtain ⟨a3, k3, c3, rfl⟩ := C4.out.form
  obtain ⟨a4, k4, c4, rfl⟩ := D4.out.form
  go_upto_region 4 with (fail)
  clear c0_4
  go_cut [11, 12] (fun p q wx => Hid (SpI w wx p q l h c d (.slice a3 k3 c3) (.slice a4 k4 c4)))
  case first =>
    have FCD := Lib.hid ((F4.out.drew.c6 0 rfl).1)
    refine wp_region_held_drew (S := fun w' => w'.cell? ⟨w.heap.size, 0, none⟩ = some (.bool n) ∧ w'.cell? ⟨w.heap.size, 1, none⟩ = some (.slice a1 k1 c1) ∧ w'.cell? ⟨w.heap.size, 2, none⟩ = some (.int .i64 e) ∧ w'.cell? ⟨w.heap.size, 3, none⟩ = some (.bool n') ∧ w'.cell? ⟨w.heap.size, 4, none⟩ = some (.slice a2 k2 c2) ∧ w'.cell? ⟨w.heap.size, 5, none⟩ = some (.int .i64 e')) (by kernel_rfl) FCD.out (fun hHeld => ?_)
    clear FCD
    have F5 := Lib.hid (F4.out.drew)
    have X5 := Lib.hid (X4.out.drew)
    have Y5 := Lib.hid (Y4.out.drew)
    have C5 := Lib.hid (C4.out.drew)
    have D5 := Lib.hid (D4.out.drew)
    clear F4 X4 Y4 C4 D4
    generalize World.drew w4 = W0 at F5 X5 Y5 C5 D5 hHeld ⊢
    refine wpAnyH_take (i := 0) (oi := ⟨some 64, _, _, _, _, _⟩) (v := ?_) rfl (by kernel_rfl) (by kernel_rfl) (by kernel_rfl) (fun _ _ _ h => h) (Or.inl ⟨by rfl, ?_⟩) (by assumption) ?_
    rotate_left
    · (intro w hSw; (try dsimp only at hSw); go_simp); try with_reducible rfl
    try simp only [Act.put, List.setIfInBounds_toArray, List.set_cons_zero, List.set_cons_succ]
    refine wpAnyH_take (i := 1) (oi := ⟨some 65, _, _, _, _, _⟩) (v := ?_) rfl (by kernel_rfl) (by kernel_rfl) (by kernel_rfl) (fun _ _ _ h => h) (Or.inl ⟨by rfl, ?_⟩) (by assumption) ?_
    rotate_left
    · (intro w hSw; (try dsimp only at hSw); go_simp); try with_reducible rfl
    try simp only [Act.put, List.setIfInBounds_toArray, List.set_cons_zero, List.set_cons_succ]
    refine wpAnyH_take (i := 2) (oi := ⟨some 66, _, _, _, _, _⟩) (v := ?_) rfl (by kernel_rfl) (by kernel_rfl) (by kernel_rfl) (fun _ _ _ h => h) (Or.inl ⟨by rfl, ?_⟩) (by assumption) ?_
    rotate_left
    · (intro w hSw; (try dsimp only at hSw); go_simp); try with_reducible rfl
    try simp only [Act.put, List.setIfInBounds_toArray, List.set_cons_zero, List.set_cons_succ]
    refine wpAnyH_take (i := 4) (oi := ⟨some 68, _, _, _, _, _⟩) (v := ?_) rfl (by kernel_rfl) (by kernel_rfl) (by kernel_rfl) (fun _ _ _ h => h) (Or.inl ⟨by rfl, ?_⟩) (by assumption) ?_
    rotate_left
    · (intro w hSw; (try dsimp only at hSw); go_simp); try with_reducible rfl
    try simp only [Act.put, List.setIfInBounds_toArray, List.set_cons_zero, List.set_cons_succ]
    refine wpAnyH_take (i := 5) (oi := ⟨some 69, _, _, _, _, _⟩) (v := ?_) rfl (by kernel_rfl) (by kernel_rfl) (by kernel_rfl) (fun _ _ _ h => h) (Or.inl ⟨by rfl, ?_⟩) (by assumption) ?_
    rotate_left
    · (intro w hSw; (try dsimp only at hSw); go_simp); try with_reducible rfl
    try simp only [Act.put, List.setIfInBounds_toArray, List.set_cons_zero, List.set_cons_succ]
    refine wpAnyH_take (i := 6) (oi := ⟨some 70, _, _, _, _, _⟩) (v := ?_) rfl (by kernel_rfl) (by kernel_rfl) (by kernel_rfl) (fun _ _ _ h => h) (Or.inl ⟨by rfl, ?_⟩) (by assumption) ?_
    rotate_left
    · (intro w hSw; (try dsimp only at hSw); go_simp); try with_reducible rfl
    try simp only [Act.put, List.setIfInBounds_toArray, List.set_cons_zero, List.set_cons_succ]
    refine wpAnyH_ready (rs := [3, 8, 9]) (by kernel_rfl) (by simp) ?_
    refine AllReadyH.cons (o := _) rfl (fun K hK => ?_) ?_
    · skip
      go_simp
      go_at_call 163
      with_reducible refine (CF.out _ _ X5.out).mono ?_
      rintro q w6 ⟨u, rfl, ⟨b1, x1, y1, rfl, hu⟩, hb⟩
      have F6 := Lib.hid (F5.out.call hb)
      have X6 := Lib.hid (X5.out.below hb)
      have Y6 := Lib.hid (Y5.out.below hb)
      have C6 := Lib.hid (C5.out.below hb)
      have D6 := Lib.hid (D5.out.below hb)
      clear F5 X5 Y5 C5 D5
      have L6 := Lib.hid hu
      clear hu hb
      try go_wp2_with fail
      refine hK.out _ _ ((F6.out.c6 0 rfl).1) (fun hHeld' => ?_)
      clear hK K hHeld
      have hHeld := hHeld'
      clear hHeld'
      try simp only [Act.put, List.setIfInBounds_toArray, List.set_cons_zero, List.set_cons_succ]
      refine wpAnyH_ready (rs := [7, 8, 9]) (by kernel_rfl) (by simp) ?_
      refine AllReadyH.cons (o := _) rfl (fun K hK => ?_) ?_
      · skip
        go_simp
        go_at_call 164
        with_reducible refine (CG.out _ _ Y6.out).mono ?_
        rintro q w7 ⟨u, rfl, ⟨b2, x2, y2, rfl, hu⟩, hb⟩
        have F7 := Lib.hid (F6.out.call hb)
        have X7 := Lib.hid (X6.out.below hb)
        have Y7 := Lib.hid (Y6.out.below hb)
        have C7 := Lib.hid (C6.out.below hb)
        have D7 := Lib.hid (D6.out.below hb)
        have L7 := Lib.hid (L6.out.below hb)
        clear F6 X6 Y6 C6 D6 L6
        have H7 := Lib.hid hu
        clear hu hb
        try go_wp2_with fail
        refine hK.out _ _ ((F7.out.c6 0 rfl).1) (fun hHeld' => ?_)
        clear hK K hHeld
        have hHeld := hHeld'
        clear hHeld'
        try simp only [Act.put, List.setIfInBounds_toArray, List.set_cons_zero, List.set_cons_succ]
        refine wpAnyH_ready (rs := [8, 9]) (by kernel_rfl) (by simp) ?_
        refine AllReadyH.cons (o := _) rfl (fun K hK => ?_) ?_
        · skip
          go_simp
          have F8 := Lib.hid (F7.out.new 221 #[.bool false, .slice none 0 0] rfl)
          have X8 := Lib.hid (X7.out.alloc (.cells #[.bool false, .slice none 0 0] 221))
          have Y8 := Lib.hid (Y7.out.alloc (.cells #[.bool false, .slice none 0 0] 221))
          have C8 := Lib.hid (C7.out.alloc (.cells #[.bool false, .slice none 0 0] 221))
          have D8 := Lib.hid (D7.out.alloc (.cells #[.bool false, .slice none 0 0] 221))
          have L8 := Lib.hid (L7.out.alloc (.cells #[.bool false, .slice none 0 0] 221))
          have H8 := Lib.hid (H7.out.alloc (.cells #[.bool false, .slice none 0 0] 221))
          clear F7 X7 Y7 C7 D7 L7 H7
          obtain ⟨g3, hg3⟩ : ∃ g, g = (World.heap w7).size := ⟨_, rfl⟩
          rw [← hg3] at F8 ⊢
          have hzg3 : (World.heap (World.alloc w7 (.cells #[.bool false, .slice none 0 0] 221))).size = g3 + 1 := by rw [hg3]; simp
          clear hg3
          simp only [List.nil_append, List.cons_append] at F8
          generalize World.alloc w7 _ = W8 at hzg3 F8 X8 Y8 C8 D8 L8 H8 ⊢
          clear hzg3
          refine hK.out _ _ ((F8.out.c6 0 rfl).1) (fun hHeld' => ?_)
          clear hK K hHeld
          have hHeld := hHeld'
          clear hHeld'
          try simp only [Act.put, List.setIfInBounds_toArray, List.set_cons_zero, List.set_cons_succ]
          refine wpAnyH_ready (rs := [9]) (by kernel_rfl) (by simp) ?_
          refine AllReadyH.cons (o := _) rfl (fun K hK => ?_) ?_
          · skip
            go_simp
            have F9 := Lib.hid (F8.out.new 221 #[.bool false, .slice none 0 0] rfl)
            have X9 := Lib.hid (X8.out.alloc (.cells #[.bool false, .slice none 0 0] 221))
            have Y9 := Lib.hid (Y8.out.alloc (.cells #[.bool false, .slice none 0 0] 221))
            have C9 := Lib.hid (C8.out.alloc (.cells #[.bool false, .slice none 0 0] 221))
            have D9 := Lib.hid (D8.out.alloc (.cells #[.bool false, .slice none 0 0] 221))
            have L9 := Lib.hid (L8.out.alloc (.cells #[.bool false, .slice none 0 0] 221))
            have H9 := Lib.hid (H8.out.alloc (.cells #[.bool false, .slice none 0 0] 221))
            clear F8 X8 Y8 C8 D8 L8 H8
            obtain ⟨g4, hg4⟩ : ∃ g, g = (World.heap W8).size := ⟨_, rfl⟩
            rw [← hg4] at F9 ⊢
            have hzg4 : (World.heap (World.alloc W8 (.cells #[.bool false, .slice none 0 0] 221))).size = g4 + 1 := by rw [hg4]; simp
            clear hg4
            simp only [List.nil_append, List.cons_append] at F9
            generalize World.alloc W8 _ = W9 at hzg4 F9 X9 Y9 C9 D9 L9 H9 ⊢
            clear hzg4
            refine hK.out _ _ ((F9.out.c6 0 rfl).1) (fun hHeld' => ?_)
            clear hK K hHeld
            have hHeld := hHeld'
            clear hHeld'
            try simp only [Act.put, List.setIfInBounds_toArray, List.set_cons_zero, List.set_cons_succ]
            refine wpAnyH_ready (rs := [10]) (by kernel_rfl) (by simp) ?_
            refine AllReadyH.cons (o := _) rfl (fun K hK => ?_) ?_
            · skip
              have cc0 := F9.out.c2 1 rfl
              go_simp
              clear cc0
              obtain ⟨f, p⟩ := F9.out.s2 1 rfl (.bool false) (.slice b1 x1 y1) rfl rfl
              generalize (World.setCell (World.setCell _ _ _) _ _) = W at f p ⊢
              have F10 := Lib.hid (f)
              have X10 := Lib.hid (X9.out.kp p)
              have Y10 := Lib.hid (Y9.out.kp p)
              have C10 := Lib.hid (C9.out.kp p)
              have D10 := Lib.hid (D9.out.kp p)
              have L10 := Lib.hid (L9.out.kp p)
              have H10 := Lib.hid (H9.out.kp p)
              clear F9 X9 Y9 C9 D9 L9 H9
              clear f p
              simp only [List.set_cons_zero, List.set_cons_succ] at F10
              refine hK.out _ _ ((F10.out.c6 0 rfl).1) (fun hHeld' => ?_)
              clear hK K hHeld
              have hHeld := hHeld'
              clear hHeld'
              try simp only [Act.put, List.setIfInBounds_toArray, List.set_cons_zero, List.set_cons_succ]
              refine wpAnyH_ready (rs := [11]) (by kernel_rfl) (by simp) ?_
              refine AllReadyH.cons (o := _) rfl (fun K hK => ?_) ?_
              · skip
                have cc0 := F10.out.c2 2 rfl
                go_simp
                clear cc0
                obtain ⟨f, p⟩ := F10.out.s2 2 rfl (.bool false) (.slice b2 x2 y2) rfl rfl
                generalize (World.setCell (World.setCell _ _ _) _ _) = W at f p ⊢
                have F11 := Lib.hid (f)
                have X11 := Lib.hid (X10.out.kp p)
                have Y11 := Lib.hid (Y10.out.kp p)
                have C11 := Lib.hid (C10.out.kp p)
                have D11 := Lib.hid (D10.out.kp p)
                have L11 := Lib.hid (L10.out.kp p)
                have H11 := Lib.hid (H10.out.kp p)
                clear F10 X10 Y10 C10 D10 L10 H10
                clear f p
                simp only [List.set_cons_zero, List.set_cons_succ] at F11
                refine hK.out _ _ ((F11.out.c6 0 rfl).1) (fun hHeld' => ?_)
                clear hK K hHeld
                have hHeld := hHeld'
                clear hHeld'
                try simp only [Act.put, List.setIfInBounds_toArray, List.set_cons_zero, List.set_cons_succ]
                refine wpAnyH_done (by kernel_rfl) ?_ _
                go_wp2_with fail
                go_meet
                exact ⟨_, _, _, _, _, _, _, _, rfl, rfl, F11.out.fz.one_fx 1 rfl rfl, F11.out.fz.one_fx 2 rfl rfl, L11.out, H11.out, C11.out, D11.out⟩
              exact AllReadyH.nil
            exact AllReadyH.nil
          exact AllReadyH.nil
        refine AllReadyH.cons (o := _) rfl (fun K hK => ?_) ?_
        · skip
          go_simp
          have F8 := Lib.hid (F7.out.new 221 #[.bool false, .slice none 0 0] rfl)
          have X8 := Lib.hid (X7.out.alloc (.cells #[.bool false, .slice none 0 0] 221))
          have Y8 := Lib.hid (Y7.out.alloc (.cells #[.bool false, .slice none 0 0] 221))
          have C8 := Lib.hid (C7.out.alloc (.cells #[.bool false, .slice none 0 0] 221))
          have D8 := Lib.hid (D7.out.alloc (.cells #[.bool false, .slice none 0 0] 221))
          have L8 := Lib.hid (L7.out.alloc (.cells #[.bool false, .slice none 0 0] 221))
          have H8 := Lib.hid (H7.out.alloc (.cells #[.bool false, .slice none 0 0] 221))
          clear F7 X7 Y7 C7 D7 L7 H7
          obtain ⟨g7, hg7⟩ : ∃ g, g = (World.heap w7).size := ⟨_, rfl⟩
          rw [← hg7] at F8 ⊢
          have hzg7 : (World.heap (World.alloc w7 (.cells #[.bool false, .slice none 0 0] 221))).size = g7 + 1 := by rw [hg7]; simp
          clear hg7
          simp only [List.nil_append, List.cons_append] at F8
          generalize World.alloc w7 _ = W8 at hzg7 F8 X8 Y8 C8 D8 L8 H8 ⊢
          clear hzg7
          refine hK.out _ _ ((F8.out.c6 0 rfl).1) (fun hHeld' => ?_)
          clear hK K hHeld
          have hHeld := hHeld'
          clear hHeld'
          try simp only [Act.put, List.setIfInBounds_toArray, List.set_cons_zero, List.set_cons_succ]
          refine wpAnyH_ready (rs := [8]) (by kernel_rfl) (by simp) ?_
          refine AllReadyH.cons (o := _) rfl (fun K hK => ?_) ?_
          · skip
            go_simp
            have F9 := Lib.hid (F8.out.new 221 #[.bool false, .slice none 0 0] rfl)
            have X9 := Lib.hid (X8.out.alloc (.cells #[.bool false, .slice none 0 0] 221))
            have Y9 := Lib.hid (Y8.out.alloc (.cells #[.bool false, .slice none 0 0] 221))
            have C9 := Lib.hid (C8.out.alloc (.cells #[.bool false, .slice none 0 0] 221))
            have D9 := Lib.hid (D8.out.alloc (.cells #[.bool false, .slice none 0 0] 221))
            have L9 := Lib.hid (L8.out.alloc (.cells #[.bool false, .slice none 0 0] 221))
            have H9 := Lib.hid (H8.out.alloc (.cells #[.bool false, .slice none 0 0] 221))
            clear F8 X8 Y8 C8 D8 L8 H8
            obtain ⟨g8, hg8⟩ : ∃ g, g = (World.heap W8).size := ⟨_, rfl⟩
            rw [← hg8] at F9 ⊢
            have hzg8 : (World.heap (World.alloc W8 (.cells #[.bool false, .slice none 0 0] 221))).size = g8 + 1 := by rw [hg8]; simp
            clear hg8
            simp only [List.nil_append, List.cons_append] at F9
            generalize World.alloc W8 _ = W9 at hzg8 F9 X9 Y9 C9 D9 L9 H9 ⊢
            clear hzg8
            refine hK.out _ _ ((F9.out.c6 0 rfl).1) (fun hHeld' => ?_)
            clear hK K hHeld
            have hHeld := hHeld'
            clear hHeld'
            try simp only [Act.put, List.setIfInBounds_toArray, List.set_cons_zero, List.set_cons_succ]
            refine wpAnyH_ready (rs := [10]) (by kernel_rfl) (by simp) ?_
            refine AllReadyH.cons (o := _) rfl (fun K hK => ?_) ?_
            · skip
              have cc0 := F9.out.c2 2 rfl
              go_simp
              clear cc0
              obtain ⟨f, p⟩ := F9.out.s2 2 rfl (.bool false) (.slice b1 x1 y1) rfl rfl
              generalize (World.setCell (World.setCell _ _ _) _ _) = W at f p ⊢
              have F10 := Lib.hid (f)
              have X10 := Lib.hid (X9.out.kp p)
              have Y10 := Lib.hid (Y9.out.kp p)
              have C10 := Lib.hid (C9.out.kp p)
              have D10 := Lib.hid (D9.out.kp p)
              have L10 := Lib.hid (L9.out.kp p)
              have H10 := Lib.hid (H9.out.kp p)
              clear F9 X9 Y9 C9 D9 L9 H9
              clear f p
              simp only [List.set_cons_zero, List.set_cons_succ] at F10
              refine hK.out _ _ ((F10.out.c6 0 rfl).1) (fun hHeld' => ?_)
              clear hK K hHeld
              have hHeld := hHeld'
              clear hHeld'
              try simp only [Act.put, List.setIfInBounds_toArray, List.set_cons_zero, List.set_cons_succ]
              refine wpAnyH_ready (rs := [11]) (by kernel_rfl) (by simp) ?_
              refine AllReadyH.cons (o := _) rfl (fun K hK => ?_) ?_
              · skip
                have cc0 := F10.out.c2 1 rfl
                go_simp
                clear cc0
                obtain ⟨f, p⟩ := F10.out.s2 1 rfl (.bool false) (.slice b2 x2 y2) rfl rfl
                generalize (World.setCell (World.setCell _ _ _) _ _) = W at f p ⊢
                have F11 := Lib.hid (f)
                have X11 := Lib.hid (X10.out.kp p)
                have Y11 := Lib.hid (Y10.out.kp p)
                have C11 := Lib.hid (C10.out.kp p)
                have D11 := Lib.hid (D10.out.kp p)
                have L11 := Lib.hid (L10.out.kp p)
                have H11 := Lib.hid (H10.out.kp p)
                clear F10 X10 Y10 C10 D10 L10 H10
                clear f p
                simp only [List.set_cons_zero, List.set_cons_succ] at F11
                refine hK.out _ _ ((F11.out.c6 0 rfl).1) (fun hHeld' => ?_)
                clear hK K hHeld
                have hHeld := hHeld'
                clear hHeld'
                try simp only [Act.put, List.setIfInBounds_toArray, List.set_cons_zero, List.set_cons_succ]
                refine wpAnyH_done (by kernel_rfl) ?_ _
                go_wp2_with fail
                go_meet
                exact ⟨_, _, _, _, _, _, _, _, rfl, rfl, F11.out.fz.one_fx 2 rfl rfl, F11.out.fz.one_fx 1 rfl rfl, L11.out, H11.out, C11.out, D11.out⟩
              exact AllReadyH.nil
            exact AllReadyH.nil
          exact AllReadyH.nil
        exact AllReadyH.nil
      refine AllReadyH.cons (o := _) rfl (fun K hK => ?_) ?_
      · skip
        go_simp
        have F7 := Lib.hid (F6.out.new 221 #[.bool false, .slice none 0 0] rfl)
        have X7 := Lib.hid (X6.out.alloc (.cells #[.bool false, .slice none 0 0] 221))
        have Y7 := Lib.hid (Y6.out.alloc (.cells #[.bool false, .slice none 0 0] 221))
        have C7 := Lib.hid (C6.out.alloc (.cells #[.bool false, .slice none 0 0] 221))
        have D7 := Lib.hid (D6.out.alloc (.cells #[.bool false, .slice none 0 0] 221))
        have L7 := Lib.hid (L6.out.alloc (.cells #[.bool false, .slice none 0 0] 221))
        clear F6 X6 Y6 C6 D6 L6
        obtain ⟨g11, hg11⟩ : ∃ g, g = (World.heap w6).size := ⟨_, rfl⟩
        rw [← hg11] at F7 ⊢
        have hzg11 : (World.heap (World.alloc w6 (.cells #[.bool false, .slice none 0 0] 221))).size = g11 + 1 := by rw [hg11]; simp
        clear hg11
        simp only [List.nil_append, List.cons_append] at F7
        generalize World.alloc w6 _ = W7 at hzg11 F7 X7 Y7 C7 D7 L7 ⊢
        clear hzg11
        refine hK.out _ _ ((F7.out.c6 0 rfl).1) (fun hHeld' => ?_)
        clear hK K hHeld
        have hHeld := hHeld'
        clear hHeld'
        try simp only [Act.put, List.setIfInBounds_toArray, List.set_cons_zero, List.set_cons_succ]
        refine wpAnyH_ready (rs := [7, 9]) (by kernel_rfl) (by simp) ?_
        refine AllReadyH.cons (o := _) rfl (fun K hK => ?_) ?_
        · skip
          go_simp
          go_at_call 164
          with_reducible refine (CG.out _ _ Y7.out).mono ?_
          rintro q w8 ⟨u, rfl, ⟨b12, x12, y12, rfl, hu⟩, hb⟩
          have F8 := Lib.hid (F7.out.call hb)
          have X8 := Lib.hid (X7.out.below hb)
          have Y8 := Lib.hid (Y7.out.below hb)
          have C8 := Lib.hid (C7.out.below hb)
          have D8 := Lib.hid (D7.out.below hb)
          have L8 := Lib.hid (L7.out.below hb)
          clear F7 X7 Y7 C7 D7 L7
          have H8 := Lib.hid hu
          clear hu hb
          try go_wp2_with fail
          refine hK.out _ _ ((F8.out.c6 0 rfl).1) (fun hHeld' => ?_)
          clear hK K hHeld
          have hHeld := hHeld'
          clear hHeld'
          try simp only [Act.put, List.setIfInBounds_toArray, List.set_cons_zero, List.set_cons_succ]
          refine wpAnyH_ready (rs := [9]) (by kernel_rfl) (by simp) ?_
          refine AllReadyH.cons (o := _) rfl (fun K hK => ?_) ?_
          · skip
            go_simp
            have F9 := Lib.hid (F8.out.new 221 #[.bool false, .slice none 0 0] rfl)
            have X9 := Lib.hid (X8.out.alloc (.cells #[.bool false, .slice none 0 0] 221))
            have Y9 := Lib.hid (Y8.out.alloc (.cells #[.bool false, .slice none 0 0] 221))
            have C9 := Lib.hid (C8.out.alloc (.cells #[.bool false, .slice none 0 0] 221))
            have D9 := Lib.hid (D8.out.alloc (.cells #[.bool false, .slice none 0 0] 221))
            have L9 := Lib.hid (L8.out.alloc (.cells #[.bool false, .slice none 0 0] 221))
            have H9 := Lib.hid (H8.out.alloc (.cells #[.bool false, .slice none 0 0] 221))
            clear F8 X8 Y8 C8 D8 L8 H8
            obtain ⟨g13, hg13⟩ : ∃ g, g = (World.heap w8).size := ⟨_, rfl⟩
            rw [← hg13] at F9 ⊢
            have hzg13 : (World.heap (World.alloc w8 (.cells #[.bool false, .slice none 0 0] 221))).size = g13 + 1 := by rw [hg13]; simp
            clear hg13
            simp only [List.nil_append, List.cons_append] at F9
            generalize World.alloc w8 _ = W9 at hzg13 F9 X9 Y9 C9 D9 L9 H9 ⊢
            clear hzg13
            refine hK.out _ _ ((F9.out.c6 0 rfl).1) (fun hHeld' => ?_)
            clear hK K hHeld
            have hHeld := hHeld'
            clear hHeld'
            try simp only [Act.put, List.setIfInBounds_toArray, List.set_cons_zero, List.set_cons_succ]
            refine wpAnyH_ready (rs := [10]) (by kernel_rfl) (by simp) ?_
            refine AllReadyH.cons (o := _) rfl (fun K hK => ?_) ?_
            · skip
              have cc0 := F9.out.c2 1 rfl
              go_simp
              clear cc0
              obtain ⟨f, p⟩ := F9.out.s2 1 rfl (.bool false) (.slice b1 x1 y1) rfl rfl
              generalize (World.setCell (World.setCell _ _ _) _ _) = W at f p ⊢
              have F10 := Lib.hid (f)
              have X10 := Lib.hid (X9.out.kp p)
              have Y10 := Lib.hid (Y9.out.kp p)
              have C10 := Lib.hid (C9.out.kp p)
              have D10 := Lib.hid (D9.out.kp p)
              have L10 := Lib.hid (L9.out.kp p)
              have H10 := Lib.hid (H9.out.kp p)
              clear F9 X9 Y9 C9 D9 L9 H9
              clear f p
              simp only [List.set_cons_zero, List.set_cons_succ] at F10
              refine hK.out _ _ ((F10.out.c6 0 rfl).1) (fun hHeld' => ?_)
              clear hK K hHeld
              have hHeld := hHeld'
              clear hHeld'
              try simp only [Act.put, List.setIfInBounds_toArray, List.set_cons_zero, List.set_cons_succ]
              refine wpAnyH_ready (rs := [11]) (by kernel_rfl) (by simp) ?_
              refine AllReadyH.cons (o := _) rfl (fun K hK => ?_) ?_
              · skip
                have cc0 := F10.out.c2 2 rfl
                go_simp
                clear cc0
                obtain ⟨f, p⟩ := F10.out.s2 2 rfl (.bool false) (.slice b12 x12 y12) rfl rfl
                generalize (World.setCell (World.setCell _ _ _) _ _) = W at f p ⊢
                have F11 := Lib.hid (f)
                have X11 := Lib.hid (X10.out.kp p)
                have Y11 := Lib.hid (Y10.out.kp p)
                have C11 := Lib.hid (C10.out.kp p)
                have D11 := Lib.hid (D10.out.kp p)
                have L11 := Lib.hid (L10.out.kp p)
                have H11 := Lib.hid (H10.out.kp p)
                clear F10 X10 Y10 C10 D10 L10 H10
                clear f p
                simp only [List.set_cons_zero, List.set_cons_succ] at F11
                refine hK.out _ _ ((F11.out.c6 0 rfl).1) (fun hHeld' => ?_)
                clear hK K hHeld
                have hHeld := hHeld'
                clear hHeld'
                try simp only [Act.put, List.setIfInBounds_toArray, List.set_cons_zero, List.set_cons_succ]
                refine wpAnyH_done (by kernel_rfl) ?_ _
                go_wp2_with fail
                go_meet
                exact ⟨_, _, _, _, _, _, _, _, rfl, rfl, F11.out.fz.one_fx 1 rfl rfl, F11.out.fz.one_fx 2 rfl rfl, L11.out, H11.out, C11.out, D11.out⟩
              exact AllReadyH.nil
            exact AllReadyH.nil
          exact AllReadyH.nil
        refine AllReadyH.cons (o := _) rfl (fun K hK => ?_) ?_
        · skip
          go_simp
          have F8 := Lib.hid (F7.out.new 221 #[.bool false, .slice none 0 0] rfl)
          have X8 := Lib.hid (X7.out.alloc (.cells #[.bool false, .slice none 0 0] 221))
          have Y8 := Lib.hid (Y7.out.alloc (.cells #[.bool false, .slice none 0 0] 221))
          have C8 := Lib.hid (C7.out.alloc (.cells #[.bool false, .slice none 0 0] 221))
          have D8 := Lib.hid (D7.out.alloc (.cells #[.bool false, .slice none 0 0] 221))
          have L8 := Lib.hid (L7.out.alloc (.cells #[.bool false, .slice none 0 0] 221))
          clear F7 X7 Y7 C7 D7 L7
          obtain ⟨g16, hg16⟩ : ∃ g, g = (World.heap W7).size := ⟨_, rfl⟩
          rw [← hg16] at F8 ⊢
          have hzg16 : (World.heap (World.alloc W7 (.cells #[.bool false, .slice none 0 0] 221))).size = g16 + 1 := by rw [hg16]; simp
          clear hg16
          simp only [List.nil_append, List.cons_append] at F8
          generalize World.alloc W7 _ = W8 at hzg16 F8 X8 Y8 C8 D8 L8 ⊢
          clear hzg16
          refine hK.out _ _ ((F8.out.c6 0 rfl).1) (fun hHeld' => ?_)
          clear hK K hHeld
          have hHeld := hHeld'
          clear hHeld'
          try simp only [Act.put, List.setIfInBounds_toArray, List.set_cons_zero, List.set_cons_succ]
          refine wpAnyH_ready (rs := [7]) (by kernel_rfl) (by simp) ?_
          refine AllReadyH.cons (o := _) rfl (fun K hK => ?_) ?_
          · skip
            go_simp
            go_at_call 164
            with_reducible refine (CG.out _ _ Y8.out).mono ?_
            rintro q w9 ⟨u, rfl, ⟨b17, x17, y17, rfl, hu⟩, hb⟩
            have F9 := Lib.hid (F8.out.call hb)
            have X9 := Lib.hid (X8.out.below hb)
            have Y9 := Lib.hid (Y8.out.below hb)
            have C9 := Lib.hid (C8.out.below hb)
            have D9 := Lib.hid (D8.out.below hb)
            have L9 := Lib.hid (L8.out.below hb)
            clear F8 X8 Y8 C8 D8 L8
            have H9 := Lib.hid hu
            clear hu hb
            try go_wp2_with fail
            refine hK.out _ _ ((F9.out.c6 0 rfl).1) (fun hHeld' => ?_)
            clear hK K hHeld
            have hHeld := hHeld'
            clear hHeld'
            try simp only [Act.put, List.setIfInBounds_toArray, List.set_cons_zero, List.set_cons_succ]
            refine wpAnyH_ready (rs := [10]) (by kernel_rfl) (by simp) ?_
            refine AllReadyH.cons (o := _) rfl (fun K hK => ?_) ?_
            · skip
              have cc0 := F9.out.c2 1 rfl
              go_simp
              clear cc0
              obtain ⟨f, p⟩ := F9.out.s2 1 rfl (.bool false) (.slice b1 x1 y1) rfl rfl
              generalize (World.setCell (World.setCell _ _ _) _ _) = W at f p ⊢
              have F10 := Lib.hid (f)
              have X10 := Lib.hid (X9.out.kp p)
              have Y10 := Lib.hid (Y9.out.kp p)
              have C10 := Lib.hid (C9.out.kp p)
              have D10 := Lib.hid (D9.out.kp p)
              have L10 := Lib.hid (L9.out.kp p)
              have H10 := Lib.hid (H9.out.kp p)
              clear F9 X9 Y9 C9 D9 L9 H9
              clear f p
              simp only [List.set_cons_zero, List.set_cons_succ] at F10
              refine hK.out _ _ ((F10.out.c6 0 rfl).1) (fun hHeld' => ?_)
              clear hK K hHeld
              have hHeld := hHeld'
              clear hHeld'
              try simp only [Act.put, List.setIfInBounds_toArray, List.set_cons_zero, List.set_cons_succ]
              refine wpAnyH_ready (rs := [11]) (by kernel_rfl) (by simp) ?_
              refine AllReadyH.cons (o := _) rfl (fun K hK => ?_) ?_
              · skip
                have cc0 := F10.out.c2 2 rfl
                go_simp
                clear cc0
                obtain ⟨f, p⟩ := F10.out.s2 2 rfl (.bool false) (.slice b17 x17 y17) rfl rfl
                generalize (World.setCell (World.setCell _ _ _) _ _) = W at f p ⊢
                have F11 := Lib.hid (f)
                have X11 := Lib.hid (X10.out.kp p)
                have Y11 := Lib.hid (Y10.out.kp p)
                have C11 := Lib.hid (C10.out.kp p)
                have D11 := Lib.hid (D10.out.kp p)
                have L11 := Lib.hid (L10.out.kp p)
                have H11 := Lib.hid (H10.out.kp p)
                clear F10 X10 Y10 C10 D10 L10 H10
                clear f p
                simp only [List.set_cons_zero, List.set_cons_succ] at F11
                refine hK.out _ _ ((F11.out.c6 0 rfl).1) (fun hHeld' => ?_)
                clear hK K hHeld
                have hHeld := hHeld'
                clear hHeld'
                try simp only [Act.put, List.setIfInBounds_toArray, List.set_cons_zero, List.set_cons_succ]
                refine wpAnyH_done (by kernel_rfl) ?_ _
                go_wp2_with fail
                go_meet
                exact ⟨_, _, _, _, _, _, _, _, rfl, rfl, F11.out.fz.one_fx 1 rfl rfl, F11.out.fz.one_fx 2 rfl rfl, L11.out, H11.out, C11.out, D11.out⟩
              exact AllReadyH.nil
            exact AllReadyH.nil
          exact AllReadyH.nil
        exact AllReadyH.nil
      refine AllReadyH.cons (o := _) rfl (fun K hK => ?_) ?_
      · skip
        go_simp
        have F7 := Lib.hid (F6.out.new 221 #[.bool false, .slice none 0 0] rfl)
        have X7 := Lib.hid (X6.out.alloc (.cells #[.bool false, .slice none 0 0] 221))
        have Y7 := Lib.hid (Y6.out.alloc (.cells #[.bool false, .slice none 0 0] 221))
        have C7 := Lib.hid (C6.out.alloc (.cells #[.bool false, .slice none 0 0] 221))
        have D7 := Lib.hid (D6.out.alloc (.cells #[.bool false, .slice none 0 0] 221))
        have L7 := Lib.hid (L6.out.alloc (.cells #[.bool false, .slice none 0 0] 221))
        clear F6 X6 Y6 C6 D6 L6
        obtain ⟨g20, hg20⟩ : ∃ g, g = (World.heap w6).size := ⟨_, rfl⟩
        rw [← hg20] at F7 ⊢
        have hzg20 : (World.heap (World.alloc w6 (.cells #[.bool false, .slice none 0 0] 221))).size = g20 + 1 := by rw [hg20]; simp
        clear hg20
        simp only [List.nil_append, List.cons_append] at F7
        generalize World.alloc w6 _ = W7 at hzg20 F7 X7 Y7 C7 D7 L7 ⊢
        clear hzg20
        refine hK.out _ _ ((F7.out.c6 0 rfl).1) (fun hHeld' => ?_)
        clear hK K hHeld
        have hHeld := hHeld'
        clear hHeld'
        try simp only [Act.put, List.setIfInBounds_toArray, List.set_cons_zero, List.set_cons_succ]
        refine wpAnyH_ready (rs := [7, 8]) (by kernel_rfl) (by simp) ?_
        refine AllReadyH.cons (o := _) rfl (fun K hK => ?_) ?_
        · skip
          go_simp
          go_at_call 164
          with_reducible refine (CG.out _ _ Y7.out).mono ?_
          rintro q w8 ⟨u, rfl, ⟨b21, x21, y21, rfl, hu⟩, hb⟩
          have F8 := Lib.hid (F7.out.call hb)
          have X8 := Lib.hid (X7.out.below hb)
          have Y8 := Lib.hid (Y7.out.below hb)
          have C8 := Lib.hid (C7.out.below hb)
          have D8 := Lib.hid (D7.out.below hb)
          have L8 := Lib.hid (L7.out.below hb)
          clear F7 X7 Y7 C7 D7 L7
          have H8 := Lib.hid hu
          clear hu hb
          try go_wp2_with fail
          refine hK.out _ _ ((F8.out.c6 0 rfl).1) (fun hHeld' => ?_)
          clear hK K hHeld
          have hHeld := hHeld'
          clear hHeld'
          try simp only [Act.put, List.setIfInBounds_toArray, List.set_cons_zero, List.set_cons_succ]
          refine wpAnyH_ready (rs := [8]) (by kernel_rfl) (by simp) ?_
          refine AllReadyH.cons (o := _) rfl (fun K hK => ?_) ?_
          · skip
            go_simp
            have F9 := Lib.hid (F8.out.new 221 #[.bool false, .slice none 0 0] rfl)
            have X9 := Lib.hid (X8.out.alloc (.cells #[.bool false, .slice none 0 0] 221))
            have Y9 := Lib.hid (Y8.out.alloc (.cells #[.bool false, .slice none 0 0] 221))
            have C9 := Lib.hid (C8.out.alloc (.cells #[.bool false, .slice none 0 0] 221))
            have D9 := Lib.hid (D8.out.alloc (.cells #[.bool false, .slice none 0 0] 221))
            have L9 := Lib.hid (L8.out.alloc (.cells #[.bool false, .slice none 0 0] 221))
            have H9 := Lib.hid (H8.out.alloc (.cells #[.bool false, .slice none 0 0] 221))
            clear F8 X8 Y8 C8 D8 L8 H8
            obtain ⟨g22, hg22⟩ : ∃ g, g = (World.heap w8).size := ⟨_, rfl⟩
            rw [← hg22] at F9 ⊢
            have hzg22 : (World.heap (World.alloc w8 (.cells #[.bool false, .slice none 0 0] 221))).size = g22 + 1 := by rw [hg22]; simp
            clear hg22
            simp only [List.nil_append, List.cons_append] at F9
            generalize World.alloc w8 _ = W9 at hzg22 F9 X9 Y9 C9 D9 L9 H9 ⊢
            clear hzg22
            refine hK.out _ _ ((F9.out.c6 0 rfl).1) (fun hHeld' => ?_)
            clear hK K hHeld
            have hHeld := hHeld'
            clear hHeld'
            try simp only [Act.put, List.setIfInBounds_toArray, List.set_cons_zero, List.set_cons_succ]
            refine wpAnyH_ready (rs := [10]) (by kernel_rfl) (by simp) ?_
            refine AllReadyH.cons (o := _) rfl (fun K hK => ?_) ?_
            · skip
              have cc0 := F9.out.c2 2 rfl
              go_simp
              clear cc0
              obtain ⟨f, p⟩ := F9.out.s2 2 rfl (.bool false) (.slice b1 x1 y1) rfl rfl
              generalize (World.setCell (World.setCell _ _ _) _ _) = W at f p ⊢
              have F10 := Lib.hid (f)
              have X10 := Lib.hid (X9.out.kp p)
              have Y10 := Lib.hid (Y9.out.kp p)
              have C10 := Lib.hid (C9.out.kp p)
              have D10 := Lib.hid (D9.out.kp p)
              have L10 := Lib.hid (L9.out.kp p)
              have H10 := Lib.hid (H9.out.kp p)
              clear F9 X9 Y9 C9 D9 L9 H9
              clear f p
              simp only [List.set_cons_zero, List.set_cons_succ] at F10
              refine hK.out _ _ ((F10.out.c6 0 rfl).1) (fun hHeld' => ?_)
              clear hK K hHeld
              have hHeld := hHeld'
              clear hHeld'
              try simp only [Act.put, List.setIfInBounds_toArray, List.set_cons_zero, List.set_cons_succ]
              refine wpAnyH_ready (rs := [11]) (by kernel_rfl) (by simp) ?_
              refine AllReadyH.cons (o := _) rfl (fun K hK => ?_) ?_
              · skip
                have cc0 := F10.out.c2 1 rfl
                go_simp
                clear cc0
                obtain ⟨f, p⟩ := F10.out.s2 1 rfl (.bool false) (.slice b21 x21 y21) rfl rfl
                generalize (World.setCell (World.setCell _ _ _) _ _) = W at f p ⊢
                have F11 := Lib.hid (f)
                have X11 := Lib.hid (X10.out.kp p)
                have Y11 := Lib.hid (Y10.out.kp p)
                have C11 := Lib.hid (C10.out.kp p)
                have D11 := Lib.hid (D10.out.kp p)
                have L11 := Lib.hid (L10.out.kp p)
                have H11 := Lib.hid (H10.out.kp p)
                clear F10 X10 Y10 C10 D10 L10 H10
                clear f p
                simp only [List.set_cons_zero, List.set_cons_succ] at F11
                refine hK.out _ _ ((F11.out.c6 0 rfl).1) (fun hHeld' => ?_)
                clear hK K hHeld
                have hHeld := hHeld'
                clear hHeld'
                try simp only [Act.put, List.setIfInBounds_toArray, List.set_cons_zero, List.set_cons_succ]
                refine wpAnyH_done (by kernel_rfl) ?_ _
                go_wp2_with fail
                go_meet
                exact ⟨_, _, _, _, _, _, _, _, rfl, rfl, F11.out.fz.one_fx 2 rfl rfl, F11.out.fz.one_fx 1 rfl rfl, L11.out, H11.out, C11.out, D11.out⟩
              exact AllReadyH.nil
            exact AllReadyH.nil
          exact AllReadyH.nil
        refine AllReadyH.cons (o := _) rfl (fun K hK => ?_) ?_
        · skip
          go_simp
          have F8 := Lib.hid (F7.out.new 221 #[.bool false, .slice none 0 0] rfl)
          have X8 := Lib.hid (X7.out.alloc (.cells #[.bool false, .slice none 0 0] 221))
          have Y8 := Lib.hid (Y7.out.alloc (.cells #[.bool false, .slice none 0 0] 221))
          have C8 := Lib.hid (C7.out.alloc (.cells #[.bool false, .slice none 0 0] 221))
          have D8 := Lib.hid (D7.out.alloc (.cells #[.bool false, .slice none 0 0] 221))
          have L8 := Lib.hid (L7.out.alloc (.cells #[.bool false, .slice none 0 0] 221))
          clear F7 X7 Y7 C7 D7 L7
          obtain ⟨g25, hg25⟩ : ∃ g, g = (World.heap W7).size := ⟨_, rfl⟩
          rw [← hg25] at F8 ⊢
          have hzg25 : (World.heap (World.alloc W7 (.cells #[.bool false, .slice none 0 0] 221))).size = g25 + 1 := by rw [hg25]; simp
          clear hg25
          simp only [List.nil_append, List.cons_append] at F8
          generalize World.alloc W7 _ = W8 at hzg25 F8 X8 Y8 C8 D8 L8 ⊢
          clear hzg25
          refine hK.out _ _ ((F8.out.c6 0 rfl).1) (fun hHeld' => ?_)
          clear hK K hHeld
          have hHeld := hHeld'
          clear hHeld'
          try simp only [Act.put, List.setIfInBounds_toArray, List.set_cons_zero, List.set_cons_succ]
          refine wpAnyH_ready (rs := [7]) (by kernel_rfl) (by simp) ?_
          refine AllReadyH.cons (o := _) rfl (fun K hK => ?_) ?_
          · skip
            go_simp
            go_at_call 164
            with_reducible refine (CG.out _ _ Y8.out).mono ?_
            rintro q w9 ⟨u, rfl, ⟨b26, x26, y26, rfl, hu⟩, hb⟩
            have F9 := Lib.hid (F8.out.call hb)
            have X9 := Lib.hid (X8.out.below hb)
            have Y9 := Lib.hid (Y8.out.below hb)
            have C9 := Lib.hid (C8.out.below hb)
            have D9 := Lib.hid (D8.out.below hb)
            have L9 := Lib.hid (L8.out.below hb)
            clear F8 X8 Y8 C8 D8 L8
            have H9 := Lib.hid hu
            clear hu hb
            try go_wp2_with fail
            refine hK.out _ _ ((F9.out.c6 0 rfl).1) (fun hHeld' => ?_)
            clear hK K hHeld
            have hHeld := hHeld'
            clear hHeld'
            try simp only [Act.put, List.setIfInBounds_toArray, List.set_cons_zero, List.set_cons_succ]
            refine wpAnyH_ready (rs := [10]) (by kernel_rfl) (by simp) ?_
            refine AllReadyH.cons (o := _) rfl (fun K hK => ?_) ?_
            · skip
              have cc0 := F9.out.c2 2 rfl
              go_simp
              clear cc0
              obtain ⟨f, p⟩ := F9.out.s2 2 rfl (.bool false) (.slice b1 x1 y1) rfl rfl
              generalize (World.setCell (World.setCell _ _ _) _ _) = W at f p ⊢
              have F10 := Lib.hid (f)
              have X10 := Lib.hid (X9.out.kp p)
              have Y10 := Lib.hid (Y9.out.kp p)
              have C10 := Lib.hid (C9.out.kp p)
              have D10 := Lib.hid (D9.out.kp p)
              have L10 := Lib.hid (L9.out.kp p)
              have H10 := Lib.hid (H9.out.kp p)
              clear F9 X9 Y9 C9 D9 L9 H9
              clear f p
              simp only [List.set_cons_zero, List.set_cons_succ] at F10
              refine hK.out _ _ ((F10.out.c6 0 rfl).1) (fun hHeld' => ?_)
              clear hK K hHeld
              have hHeld := hHeld'
              clear hHeld'
              try simp only [Act.put, List.setIfInBounds_toArray, List.set_cons_zero, List.set_cons_succ]
              refine wpAnyH_ready (rs := [11]) (by kernel_rfl) (by simp) ?_
              refine AllReadyH.cons (o := _) rfl (fun K hK => ?_) ?_
              · skip
                have cc0 := F10.out.c2 1 rfl
                go_simp
                clear cc0
                obtain ⟨f, p⟩ := F10.out.s2 1 rfl (.bool false) (.slice b26 x26 y26) rfl rfl
                generalize (World.setCell (World.setCell _ _ _) _ _) = W at f p ⊢
                have F11 := Lib.hid (f)
                have X11 := Lib.hid (X10.out.kp p)
                have Y11 := Lib.hid (Y10.out.kp p)
                have C11 := Lib.hid (C10.out.kp p)
                have D11 := Lib.hid (D10.out.kp p)
                have L11 := Lib.hid (L10.out.kp p)
                have H11 := Lib.hid (H10.out.kp p)
                clear F10 X10 Y10 C10 D10 L10 H10
                clear f p
                simp only [List.set_cons_zero, List.set_cons_succ] at F11
                refine hK.out _ _ ((F11.out.c6 0 rfl).1) (fun hHeld' => ?_)
                clear hK K hHeld
                have hHeld := hHeld'
                clear hHeld'
                try simp only [Act.put, List.setIfInBounds_toArray, List.set_cons_zero, List.set_cons_succ]
                refine wpAnyH_done (by kernel_rfl) ?_ _
                go_wp2_with fail
                go_meet
                exact ⟨_, _, _, _, _, _, _, _, rfl, rfl, F11.out.fz.one_fx 2 rfl rfl, F11.out.fz.one_fx 1 rfl rfl, L11.out, H11.out, C11.out, D11.out⟩
              exact AllReadyH.nil
            exact AllReadyH.nil
          exact AllReadyH.nil
        exact AllReadyH.nil
      exact AllReadyH.nil
    refine AllReadyH.cons (o := _) rfl (fun K hK => ?_) ?_
    · skip
      go_simp
      have F6 := Lib.hid (F5.out.new 221 #[.bool false, .slice none 0 0] rfl)
      have X6 := Lib.hid (X5.out.alloc (.cells #[.bool false, .slice none 0 0] 221))
      have Y6 := Lib.hid (Y5.out.alloc (.cells #[.bool false, .slice none 0 0] 221))
      have C6 := Lib.hid (C5.out.alloc (.cells #[.bool false, .slice none 0 0] 221))
      have D6 := Lib.hid (D5.out.alloc (.cells #[.bool false, .slice none 0 0] 221))
      clear F5 X5 Y5 C5 D5
      obtain ⟨g29, hg29⟩ : ∃ g, g = (World.heap W0).size := ⟨_, rfl⟩
      rw [← hg29] at F6 ⊢
      have hzg29 : (World.heap (World.alloc W0 (.cells #[.bool false, .slice none 0 0] 221))).size = g29 + 1 := by rw [hg29]; simp
      clear hg29
      simp only [List.nil_append, List.cons_append] at F6
      generalize World.alloc W0 _ = W6 at hzg29 F6 X6 Y6 C6 D6 ⊢
      clear hzg29
      refine hK.out _ _ ((F6.out.c6 0 rfl).1) (fun hHeld' => ?_)
      clear hK K hHeld
      have hHeld := hHeld'
      clear hHeld'
      try simp only [Act.put, List.setIfInBounds_toArray, List.set_cons_zero, List.set_cons_succ]
      refine wpAnyH_ready (rs := [3, 9]) (by kernel_rfl) (by simp) ?_
      refine AllReadyH.cons (o := _) rfl (fun K hK => ?_) ?_
      · skip
        go_simp
        go_at_call 163
        with_reducible refine (CF.out _ _ X6.out).mono ?_
        rintro q w7 ⟨u, rfl, ⟨b30, x30, y30, rfl, hu⟩, hb⟩
        have F7 := Lib.hid (F6.out.call hb)
        have X7 := Lib.hid (X6.out.below hb)
        have Y7 := Lib.hid (Y6.out.below hb)
        have C7 := Lib.hid (C6.out.below hb)
        have D7 := Lib.hid (D6.out.below hb)
        clear F6 X6 Y6 C6 D6
        have L7 := Lib.hid hu
        clear hu hb
        try go_wp2_with fail
        refine hK.out _ _ ((F7.out.c6 0 rfl).1) (fun hHeld' => ?_)
        clear hK K hHeld
        have hHeld := hHeld'
        clear hHeld'
        try simp only [Act.put, List.setIfInBounds_toArray, List.set_cons_zero, List.set_cons_succ]
        refine wpAnyH_ready (rs := [7, 9]) (by kernel_rfl) (by simp) ?_
        refine AllReadyH.cons (o := _) rfl (fun K hK => ?_) ?_
        · skip
          go_simp
          go_at_call 164
          with_reducible refine (CG.out _ _ Y7.out).mono ?_
          rintro q w8 ⟨u, rfl, ⟨b31, x31, y31, rfl, hu⟩, hb⟩
          have F8 := Lib.hid (F7.out.call hb)
          have X8 := Lib.hid (X7.out.below hb)
          have Y8 := Lib.hid (Y7.out.below hb)
          have C8 := Lib.hid (C7.out.below hb)
          have D8 := Lib.hid (D7.out.below hb)
          have L8 := Lib.hid (L7.out.below hb)
          clear F7 X7 Y7 C7 D7 L7
          have H8 := Lib.hid hu
          clear hu hb
          try go_wp2_with fail
          refine hK.out _ _ ((F8.out.c6 0 rfl).1) (fun hHeld' => ?_)
          clear hK K hHeld
          have hHeld := hHeld'
          clear hHeld'
          try simp only [Act.put, List.setIfInBounds_toArray, List.set_cons_zero, List.set_cons_succ]
          refine wpAnyH_ready (rs := [9]) (by kernel_rfl) (by simp) ?_
          refine AllReadyH.cons (o := _) rfl (fun K hK => ?_) ?_
          · skip
            go_simp
            have F9 := Lib.hid (F8.out.new 221 #[.bool false, .slice none 0 0] rfl)
            have X9 := Lib.hid (X8.out.alloc (.cells #[.bool false, .slice none 0 0] 221))
            have Y9 := Lib.hid (Y8.out.alloc (.cells #[.bool false, .slice none 0 0] 221))
            have C9 := Lib.hid (C8.out.alloc (.cells #[.bool false, .slice none 0 0] 221))
            have D9 := Lib.hid (D8.out.alloc (.cells #[.bool false, .slice none 0 0] 221))
            have L9 := Lib.hid (L8.out.alloc (.cells #[.bool false, .slice none 0 0] 221))
            have H9 := Lib.hid (H8.out.alloc (.cells #[.bool false, .slice none 0 0] 221))
            clear F8 X8 Y8 C8 D8 L8 H8
            obtain ⟨g32, hg32⟩ : ∃ g, g = (World.heap w8).size := ⟨_, rfl⟩
            rw [← hg32] at F9 ⊢
            have hzg32 : (World.heap (World.alloc w8 (.cells #[.bool false, .slice none 0 0] 221))).size = g32 + 1 := by rw [hg32]; simp
            clear hg32
            simp only [List.nil_append, List.cons_append] at F9
            generalize World.alloc w8 _ = W9 at hzg32 F9 X9 Y9 C9 D9 L9 H9 ⊢
            clear hzg32
            refine hK.out _ _ ((F9.out.c6 0 rfl).1) (fun hHeld' => ?_)
            clear hK K hHeld
            have hHeld := hHeld'
            clear hHeld'
            try simp only [Act.put, List.setIfInBounds_toArray, List.set_cons_zero, List.set_cons_succ]
            refine wpAnyH_ready (rs := [10]) (by kernel_rfl) (by simp) ?_
            refine AllReadyH.cons (o := _) rfl (fun K hK => ?_) ?_
            · skip
              have cc0 := F9.out.c2 1 rfl
              go_simp
              clear cc0
              obtain ⟨f, p⟩ := F9.out.s2 1 rfl (.bool false) (.slice b30 x30 y30) rfl rfl
              generalize (World.setCell (World.setCell _ _ _) _ _) = W at f p ⊢
              have F10 := Lib.hid (f)
              have X10 := Lib.hid (X9.out.kp p)
              have Y10 := Lib.hid (Y9.out.kp p)
              have C10 := Lib.hid (C9.out.kp p)
              have D10 := Lib.hid (D9.out.kp p)
              have L10 := Lib.hid (L9.out.kp p)
              have H10 := Lib.hid (H9.out.kp p)
              clear F9 X9 Y9 C9 D9 L9 H9
              clear f p
              simp only [List.set_cons_zero, List.set_cons_succ] at F10
              refine hK.out _ _ ((F10.out.c6 0 rfl).1) (fun hHeld' => ?_)
              clear hK K hHeld
              have hHeld := hHeld'
              clear hHeld'
              try simp only [Act.put, List.setIfInBounds_toArray, List.set_cons_zero, List.set_cons_succ]
              refine wpAnyH_ready (rs := [11]) (by kernel_rfl) (by simp) ?_
              refine AllReadyH.cons (o := _) rfl (fun K hK => ?_) ?_
              · skip
                have cc0 := F10.out.c2 2 rfl
                go_simp
                clear cc0
                obtain ⟨f, p⟩ := F10.out.s2 2 rfl (.bool false) (.slice b31 x31 y31) rfl rfl
                generalize (World.setCell (World.setCell _ _ _) _ _) = W at f p ⊢
                have F11 := Lib.hid (f)
                have X11 := Lib.hid (X10.out.kp p)
                have Y11 := Lib.hid (Y10.out.kp p)
                have C11 := Lib.hid (C10.out.kp p)
                have D11 := Lib.hid (D10.out.kp p)
                have L11 := Lib.hid (L10.out.kp p)
                have H11 := Lib.hid (H10.out.kp p)
                clear F10 X10 Y10 C10 D10 L10 H10
                clear f p
                simp only [List.set_cons_zero, List.set_cons_succ] at F11
                refine hK.out _ _ ((F11.out.c6 0 rfl).1) (fun hHeld' => ?_)
                clear hK K hHeld
                have hHeld := hHeld'
                clear hHeld'
                try simp only [Act.put, List.setIfInBounds_toArray, List.set_cons_zero, List.set_cons_succ]
                refine wpAnyH_done (by kernel_rfl) ?_ _
                go_wp2_with fail
                go_meet
                exact ⟨_, _, _, _, _, _, _, _, rfl, rfl, F11.out.fz.one_fx 1 rfl rfl, F11.out.fz.one_fx 2 rfl rfl, L11.out, H11.out, C11.out, D11.out⟩
              exact AllReadyH.nil
            exact AllReadyH.nil
          exact AllReadyH.nil
        refine AllReadyH.cons (o := _) rfl (fun K hK => ?_) ?_
        · skip
          go_simp
          have F8 := Lib.hid (F7.out.new 221 #[.bool false, .slice none 0 0] rfl)
          have X8 := Lib.hid (X7.out.alloc (.cells #[.bool false, .slice none 0 0] 221))
          have Y8 := Lib.hid (Y7.out.alloc (.cells #[.bool false, .slice none 0 0] 221))
          have C8 := Lib.hid (C7.out.alloc (.cells #[.bool false, .slice none 0 0] 221))
          have D8 := Lib.hid (D7.out.alloc (.cells #[.bool false, .slice none 0 0] 221))
          have L8 := Lib.hid (L7.out.alloc (.cells #[.bool false, .slice none 0 0] 221))
          clear F7 X7 Y7 C7 D7 L7
          obtain ⟨g35, hg35⟩ : ∃ g, g = (World.heap w7).size := ⟨_, rfl⟩
          rw [← hg35] at F8 ⊢
          have hzg35 : (World.heap (World.alloc w7 (.cells #[.bool false, .slice none 0 0] 221))).size = g35 + 1 := by rw [hg35]; simp
          clear hg35
          simp only [List.nil_append, List.cons_append] at F8
          generalize World.alloc w7 _ = W8 at hzg35 F8 X8 Y8 C8 D8 L8 ⊢
          clear hzg35
          refine hK.out _ _ ((F8.out.c6 0 rfl).1) (fun hHeld' => ?_)
          clear hK K hHeld
          have hHeld := hHeld'
          clear hHeld'
          try simp only [Act.put, List.setIfInBounds_toArray, List.set_cons_zero, List.set_cons_succ]
          refine wpAnyH_ready (rs := [7]) (by kernel_rfl) (by simp) ?_
          refine AllReadyH.cons (o := _) rfl (fun K hK => ?_) ?_
          · skip
            go_simp
            go_at_call 164
            with_reducible refine (CG.out _ _ Y8.out).mono ?_
            rintro q w9 ⟨u, rfl, ⟨b36, x36, y36, rfl, hu⟩, hb⟩
            have F9 := Lib.hid (F8.out.call hb)
            have X9 := Lib.hid (X8.out.below hb)
            have Y9 := Lib.hid (Y8.out.below hb)
            have C9 := Lib.hid (C8.out.below hb)
            have D9 := Lib.hid (D8.out.below hb)
            have L9 := Lib.hid (L8.out.below hb)
            clear F8 X8 Y8 C8 D8 L8
            have H9 := Lib.hid hu
            clear hu hb
            try go_wp2_with fail
            refine hK.out _ _ ((F9.out.c6 0 rfl).1) (fun hHeld' => ?_)
            clear hK K hHeld
            have hHeld := hHeld'
            clear hHeld'
            try simp only [Act.put, List.setIfInBounds_toArray, List.set_cons_zero, List.set_cons_succ]
            refine wpAnyH_ready (rs := [10]) (by kernel_rfl) (by simp) ?_
            refine AllReadyH.cons (o := _) rfl (fun K hK => ?_) ?_
            · skip
              have cc0 := F9.out.c2 1 rfl
              go_simp
              clear cc0
              obtain ⟨f, p⟩ := F9.out.s2 1 rfl (.bool false) (.slice b30 x30 y30) rfl rfl
              generalize (World.setCell (World.setCell _ _ _) _ _) = W at f p ⊢
              have F10 := Lib.hid (f)
              have X10 := Lib.hid (X9.out.kp p)
              have Y10 := Lib.hid (Y9.out.kp p)
              have C10 := Lib.hid (C9.out.kp p)
              have D10 := Lib.hid (D9.out.kp p)
              have L10 := Lib.hid (L9.out.kp p)
              have H10 := Lib.hid (H9.out.kp p)
              clear F9 X9 Y9 C9 D9 L9 H9
              clear f p
              simp only [List.set_cons_zero, List.set_cons_succ] at F10
              refine hK.out _ _ ((F10.out.c6 0 rfl).1) (fun hHeld' => ?_)
              clear hK K hHeld
              have hHeld := hHeld'
              clear hHeld'
              try simp only [Act.put, List.setIfInBounds_toArray, List.set_cons_zero, List.set_cons_succ]
              refine wpAnyH_ready (rs := [11]) (by kernel_rfl) (by simp) ?_
              refine AllReadyH.cons (o := _) rfl (fun K hK => ?_) ?_
              · skip
                have cc0 := F10.out.c2 2 rfl
                go_simp
                clear cc0
                obtain ⟨f, p⟩ := F10.out.s2 2 rfl (.bool false) (.slice b36 x36 y36) rfl rfl
                generalize (World.setCell (World.setCell _ _ _) _ _) = W at f p ⊢
                have F11 := Lib.hid (f)
                have X11 := Lib.hid (X10.out.kp p)
                have Y11 := Lib.hid (Y10.out.kp p)
                have C11 := Lib.hid (C10.out.kp p)
                have D11 := Lib.hid (D10.out.kp p)
                have L11 := Lib.hid (L10.out.kp p)
                have H11 := Lib.hid (H10.out.kp p)
                clear F10 X10 Y10 C10 D10 L10 H10
                clear f p
                simp only [List.set_cons_zero, List.set_cons_succ] at F11
                refine hK.out _ _ ((F11.out.c6 0 rfl).1) (fun hHeld' => ?_)
                clear hK K hHeld
                have hHeld := hHeld'
                clear hHeld'
                try simp only [Act.put, List.setIfInBounds_toArray, List.set_cons_zero, List.set_cons_succ]
                refine wpAnyH_done (by kernel_rfl) ?_ _
                go_wp2_with fail
                go_meet
                exact ⟨_, _, _, _, _, _, _, _, rfl, rfl, F11.out.fz.one_fx 1 rfl rfl, F11.out.fz.one_fx 2 rfl rfl, L11.out, H11.out, C11.out, D11.out⟩
              exact AllReadyH.nil
            exact AllReadyH.nil
          exact AllReadyH.nil
        exact AllReadyH.nil
      refine AllReadyH.cons (o := _) rfl (fun K hK => ?_) ?_
      · skip
        go_simp
        have F7 := Lib.hid (F6.out.new 221 #[.bool false, .slice none 0 0] rfl)
        have X7 := Lib.hid (X6.out.alloc (.cells #[.bool false, .slice none 0 0] 221))
        have Y7 := Lib.hid (Y6.out.alloc (.cells #[.bool false, .slice none 0 0] 221))
        have C7 := Lib.hid (C6.out.alloc (.cells #[.bool false, .slice none 0 0] 221))
        have D7 := Lib.hid (D6.out.alloc (.cells #[.bool false, .slice none 0 0] 221))
        clear F6 X6 Y6 C6 D6
        obtain ⟨g39, hg39⟩ : ∃ g, g = (World.heap W6).size := ⟨_, rfl⟩
        rw [← hg39] at F7 ⊢
        have hzg39 : (World.heap (World.alloc W6 (.cells #[.bool false, .slice none 0 0] 221))).size = g39 + 1 := by rw [hg39]; simp
        clear hg39
        simp only [List.nil_append, List.cons_append] at F7
        generalize World.alloc W6 _ = W7 at hzg39 F7 X7 Y7 C7 D7 ⊢
        clear hzg39
        refine hK.out _ _ ((F7.out.c6 0 rfl).1) (fun hHeld' => ?_)
        clear hK K hHeld
        have hHeld := hHeld'
        clear hHeld'
        try simp only [Act.put, List.setIfInBounds_toArray, List.set_cons_zero, List.set_cons_succ]
        refine wpAnyH_ready (rs := [3]) (by kernel_rfl) (by simp) ?_
        refine AllReadyH.cons (o := _) rfl (fun K hK => ?_) ?_
        · skip
          go_simp
          go_at_call 163
          with_reducible refine (CF.out _ _ X7.out).mono ?_
          rintro q w8 ⟨u, rfl, ⟨b40, x40, y40, rfl, hu⟩, hb⟩
          have F8 := Lib.hid (F7.out.call hb)
          have X8 := Lib.hid (X7.out.below hb)
          have Y8 := Lib.hid (Y7.out.below hb)
          have C8 := Lib.hid (C7.out.below hb)
          have D8 := Lib.hid (D7.out.below hb)
          clear F7 X7 Y7 C7 D7
          have L8 := Lib.hid hu
          clear hu hb
          try go_wp2_with fail
          refine hK.out _ _ ((F8.out.c6 0 rfl).1) (fun hHeld' => ?_)
          clear hK K hHeld
          have hHeld := hHeld'
          clear hHeld'
          try simp only [Act.put, List.setIfInBounds_toArray, List.set_cons_zero, List.set_cons_succ]
          refine wpAnyH_ready (rs := [7]) (by kernel_rfl) (by simp) ?_
          refine AllReadyH.cons (o := _) rfl (fun K hK => ?_) ?_
          · skip
            go_simp
            go_at_call 164
            with_reducible refine (CG.out _ _ Y8.out).mono ?_
            rintro q w9 ⟨u, rfl, ⟨b41, x41, y41, rfl, hu⟩, hb⟩
            have F9 := Lib.hid (F8.out.call hb)
            have X9 := Lib.hid (X8.out.below hb)
            have Y9 := Lib.hid (Y8.out.below hb)
            have C9 := Lib.hid (C8.out.below hb)
            have D9 := Lib.hid (D8.out.below hb)
            have L9 := Lib.hid (L8.out.below hb)
            clear F8 X8 Y8 C8 D8 L8
            have H9 := Lib.hid hu
            clear hu hb
            try go_wp2_with fail
            refine hK.out _ _ ((F9.out.c6 0 rfl).1) (fun hHeld' => ?_)
            clear hK K hHeld
            have hHeld := hHeld'
            clear hHeld'
            try simp only [Act.put, List.setIfInBounds_toArray, List.set_cons_zero, List.set_cons_succ]
            refine wpAnyH_ready (rs := [10]) (by kernel_rfl) (by simp) ?_
            refine AllReadyH.cons (o := _) rfl (fun K hK => ?_) ?_
            · skip
              have cc0 := F9.out.c2 1 rfl
              go_simp
              clear cc0
              obtain ⟨f, p⟩ := F9.out.s2 1 rfl (.bool false) (.slice b40 x40 y40) rfl rfl
              generalize (World.setCell (World.setCell _ _ _) _ _) = W at f p ⊢
              have F10 := Lib.hid (f)
              have X10 := Lib.hid (X9.out.kp p)
              have Y10 := Lib.hid (Y9.out.kp p)
              have C10 := Lib.hid (C9.out.kp p)
              have D10 := Lib.hid (D9.out.kp p)
              have L10 := Lib.hid (L9.out.kp p)
              have H10 := Lib.hid (H9.out.kp p)
              clear F9 X9 Y9 C9 D9 L9 H9
              clear f p
              simp only [List.set_cons_zero, List.set_cons_succ] at F10
              refine hK.out _ _ ((F10.out.c6 0 rfl).1) (fun hHeld' => ?_)
              clear hK K hHeld
              have hHeld := hHeld'
              clear hHeld'
              try simp only [Act.put, List.setIfInBounds_toArray, List.set_cons_zero, List.set_cons_succ]
              refine wpAnyH_ready (rs := [11]) (by kernel_rfl) (by simp) ?_
              refine AllReadyH.cons (o := _) rfl (fun K hK => ?_) ?_
              · skip
                have cc0 := F10.out.c2 2 rfl
                go_simp
                clear cc0
                obtain ⟨f, p⟩ := F10.out.s2 2 rfl (.bool false) (.slice b41 x41 y41) rfl rfl
                generalize (World.setCell (World.setCell _ _ _) _ _) = W at f p ⊢
                have F11 := Lib.hid (f)
                have X11 := Lib.hid (X10.out.kp p)
                have Y11 := Lib.hid (Y10.out.kp p)
                have C11 := Lib.hid (C10.out.kp p)
                have D11 := Lib.hid (D10.out.kp p)
                have L11 := Lib.hid (L10.out.kp p)
                have H11 := Lib.hid (H10.out.kp p)
                clear F10 X10 Y10 C10 D10 L10 H10
                clear f p
                simp only [List.set_cons_zero, List.set_cons_succ] at F11
                refine hK.out _ _ ((F11.out.c6 0 rfl).1) (fun hHeld' => ?_)
                clear hK K hHeld
                have hHeld := hHeld'
                clear hHeld'
                try simp only [Act.put, List.setIfInBounds_toArray, List.set_cons_zero, List.set_cons_succ]
                refine wpAnyH_done (by kernel_rfl) ?_ _
                go_wp2_with fail
                go_meet
                exact ⟨_, _, _, _, _, _, _, _, rfl, rfl, F11.out.fz.one_fx 1 rfl rfl, F11.out.fz.one_fx 2 rfl rfl, L11.out, H11.out, C11.out, D11.out⟩
              exact AllReadyH.nil
            exact AllReadyH.nil
          exact AllReadyH.nil
        exact AllReadyH.nil
      exact AllReadyH.nil
    refine AllReadyH.cons (o := _) rfl (fun K hK => ?_) ?_
    · skip
      go_simp
      have F6 := Lib.hid (F5.out.new 221 #[.bool false, .slice none 0 0] rfl)
      have X6 := Lib.hid (X5.out.alloc (.cells #[.bool false, .slice none 0 0] 221))
      have Y6 := Lib.hid (Y5.out.alloc (.cells #[.bool false, .slice none 0 0] 221))
      have C6 := Lib.hid (C5.out.alloc (.cells #[.bool false, .slice none 0 0] 221))
      have D6 := Lib.hid (D5.out.alloc (.cells #[.bool false, .slice none 0 0] 221))
      clear F5 X5 Y5 C5 D5
      obtain ⟨g44, hg44⟩ : ∃ g, g = (World.heap W0).size := ⟨_, rfl⟩
      rw [← hg44] at F6 ⊢
      have hzg44 : (World.heap (World.alloc W0 (.cells #[.bool false, .slice none 0 0] 221))).size = g44 + 1 := by rw [hg44]; simp
      clear hg44
      simp only [List.nil_append, List.cons_append] at F6
      generalize World.alloc W0 _ = W6 at hzg44 F6 X6 Y6 C6 D6 ⊢
      clear hzg44
      refine hK.out _ _ ((F6.out.c6 0 rfl).1) (fun hHeld' => ?_)
      clear hK K hHeld
      have hHeld := hHeld'
      clear hHeld'
      try simp only [Act.put, List.setIfInBounds_toArray, List.set_cons_zero, List.set_cons_succ]
      refine wpAnyH_ready (rs := [3, 8]) (by kernel_rfl) (by simp) ?_
      refine AllReadyH.cons (o := _) rfl (fun K hK => ?_) ?_
      · skip
        go_simp
        go_at_call 163
        with_reducible refine (CF.out _ _ X6.out).mono ?_
        rintro q w7 ⟨u, rfl, ⟨b45, x45, y45, rfl, hu⟩, hb⟩
        have F7 := Lib.hid (F6.out.call hb)
        have X7 := Lib.hid (X6.out.below hb)
        have Y7 := Lib.hid (Y6.out.below hb)
        have C7 := Lib.hid (C6.out.below hb)
        have D7 := Lib.hid (D6.out.below hb)
        clear F6 X6 Y6 C6 D6
        have L7 := Lib.hid hu
        clear hu hb
        try go_wp2_with fail
        refine hK.out _ _ ((F7.out.c6 0 rfl).1) (fun hHeld' => ?_)
        clear hK K hHeld
        have hHeld := hHeld'
        clear hHeld'
        try simp only [Act.put, List.setIfInBounds_toArray, List.set_cons_zero, List.set_cons_succ]
        refine wpAnyH_ready (rs := [7, 8]) (by kernel_rfl) (by simp) ?_
        refine AllReadyH.cons (o := _) rfl (fun K hK => ?_) ?_
        · skip
          go_simp
          go_at_call 164
          with_reducible refine (CG.out _ _ Y7.out).mono ?_
          rintro q w8 ⟨u, rfl, ⟨b46, x46, y46, rfl, hu⟩, hb⟩
          have F8 := Lib.hid (F7.out.call hb)
          have X8 := Lib.hid (X7.out.below hb)
          have Y8 := Lib.hid (Y7.out.below hb)
          have C8 := Lib.hid (C7.out.below hb)
          have D8 := Lib.hid (D7.out.below hb)
          have L8 := Lib.hid (L7.out.below hb)
          clear F7 X7 Y7 C7 D7 L7
          have H8 := Lib.hid hu
          clear hu hb
          try go_wp2_with fail
          refine hK.out _ _ ((F8.out.c6 0 rfl).1) (fun hHeld' => ?_)
          clear hK K hHeld
          have hHeld := hHeld'
          clear hHeld'
          try simp only [Act.put, List.setIfInBounds_toArray, List.set_cons_zero, List.set_cons_succ]
          refine wpAnyH_ready (rs := [8]) (by kernel_rfl) (by simp) ?_
          refine AllReadyH.cons (o := _) rfl (fun K hK => ?_) ?_
          · skip
            go_simp
            have F9 := Lib.hid (F8.out.new 221 #[.bool false, .slice none 0 0] rfl)
            have X9 := Lib.hid (X8.out.alloc (.cells #[.bool false, .slice none 0 0] 221))
            have Y9 := Lib.hid (Y8.out.alloc (.cells #[.bool false, .slice none 0 0] 221))
            have C9 := Lib.hid (C8.out.alloc (.cells #[.bool false, .slice none 0 0] 221))
            have D9 := Lib.hid (D8.out.alloc (.cells #[.bool false, .slice none 0 0] 221))
            have L9 := Lib.hid (L8.out.alloc (.cells #[.bool false, .slice none 0 0] 221))
            have H9 := Lib.hid (H8.out.alloc (.cells #[.bool false, .slice none 0 0] 221))
            clear F8 X8 Y8 C8 D8 L8 H8
            obtain ⟨g47, hg47⟩ : ∃ g, g = (World.heap w8).size := ⟨_, rfl⟩
            rw [← hg47] at F9 ⊢
            have hzg47 : (World.heap (World.alloc w8 (.cells #[.bool false, .slice none 0 0] 221))).size = g47 + 1 := by rw [hg47]; simp
            clear hg47
            simp only [List.nil_append, List.cons_append] at F9
            generalize World.alloc w8 _ = W9 at hzg47 F9 X9 Y9 C9 D9 L9 H9 ⊢
            clear hzg47
            refine hK.out _ _ ((F9.out.c6 0 rfl).1) (fun hHeld' => ?_)
            clear hK K hHeld
            have hHeld := hHeld'
            clear hHeld'
            try simp only [Act.put, List.setIfInBounds_toArray, List.set_cons_zero, List.set_cons_succ]
            refine wpAnyH_ready (rs := [10]) (by kernel_rfl) (by simp) ?_
            refine AllReadyH.cons (o := _) rfl (fun K hK => ?_) ?_
            · skip
              have cc0 := F9.out.c2 2 rfl
              go_simp
              clear cc0
              obtain ⟨f, p⟩ := F9.out.s2 2 rfl (.bool false) (.slice b45 x45 y45) rfl rfl
              generalize (World.setCell (World.setCell _ _ _) _ _) = W at f p ⊢
              have F10 := Lib.hid (f)
              have X10 := Lib.hid (X9.out.kp p)
              have Y10 := Lib.hid (Y9.out.kp p)
              have C10 := Lib.hid (C9.out.kp p)
              have D10 := Lib.hid (D9.out.kp p)
              have L10 := Lib.hid (L9.out.kp p)
              have H10 := Lib.hid (H9.out.kp p)
              clear F9 X9 Y9 C9 D9 L9 H9
              clear f p
              simp only [List.set_cons_zero, List.set_cons_succ] at F10
              refine hK.out _ _ ((F10.out.c6 0 rfl).1) (fun hHeld' => ?_)
              clear hK K hHeld
              have hHeld := hHeld'
              clear hHeld'
              try simp only [Act.put, List.setIfInBounds_toArray, List.set_cons_zero, List.set_cons_succ]
              refine wpAnyH_ready (rs := [11]) (by kernel_rfl) (by simp) ?_
              refine AllReadyH.cons (o := _) rfl (fun K hK => ?_) ?_
              · skip
                have cc0 := F10.out.c2 1 rfl
                go_simp
                clear cc0
                obtain ⟨f, p⟩ := F10.out.s2 1 rfl (.bool false) (.slice b46 x46 y46) rfl rfl
                generalize (World.setCell (World.setCell _ _ _) _ _) = W at f p ⊢
                have F11 := Lib.hid (f)
                have X11 := Lib.hid (X10.out.kp p)
                have Y11 := Lib.hid (Y10.out.kp p)
                have C11 := Lib.hid (C10.out.kp p)
                have D11 := Lib.hid (D10.out.kp p)
                have L11 := Lib.hid (L10.out.kp p)
                have H11 := Lib.hid (H10.out.kp p)
                clear F10 X10 Y10 C10 D10 L10 H10
                clear f p
                simp only [List.set_cons_zero, List.set_cons_succ] at F11
                refine hK.out _ _ ((F11.out.c6 0 rfl).1) (fun hHeld' => ?_)
                clear hK K hHeld
                have hHeld := hHeld'
                clear hHeld'
                try simp only [Act.put, List.setIfInBounds_toArray, List.set_cons_zero, List.set_cons_succ]
                refine wpAnyH_done (by kernel_rfl) ?_ _
                go_wp2_with fail
                go_meet
                exact ⟨_, _, _, _, _, _, _, _, rfl, rfl, F11.out.fz.one_fx 2 rfl rfl, F11.out.fz.one_fx 1 rfl rfl, L11.out, H11.out, C11.out, D11.out⟩
              exact AllReadyH.nil
            exact AllReadyH.nil
          exact AllReadyH.nil
        refine AllReadyH.cons (o := _) rfl (fun K hK => ?_) ?_
        · skip
          go_simp
          have F8 := Lib.hid (F7.out.new 221 #[.bool false, .slice none 0 0] rfl)
          have X8 := Lib.hid (X7.out.alloc (.cells #[.bool false, .slice none 0 0] 221))
          have Y8 := Lib.hid (Y7.out.alloc (.cells #[.bool false, .slice none 0 0] 221))
          have C8 := Lib.hid (C7.out.alloc (.cells #[.bool false, .slice none 0 0] 221))
          have D8 := Lib.hid (D7.out.alloc (.cells #[.bool false, .slice none 0 0] 221))
          have L8 := Lib.hid (L7.out.alloc (.cells #[.bool false, .slice none 0 0] 221))
          clear F7 X7 Y7 C7 D7 L7
          obtain ⟨g50, hg50⟩ : ∃ g, g = (World.heap w7).size := ⟨_, rfl⟩
          rw [← hg50] at F8 ⊢
          have hzg50 : (World.heap (World.alloc w7 (.cells #[.bool false, .slice none 0 0] 221))).size = g50 + 1 := by rw [hg50]; simp
          clear hg50
          simp only [List.nil_append, List.cons_append] at F8
          generalize World.alloc w7 _ = W8 at hzg50 F8 X8 Y8 C8 D8 L8 ⊢
          clear hzg50
          refine hK.out _ _ ((F8.out.c6 0 rfl).1) (fun hHeld' => ?_)
          clear hK K hHeld
          have hHeld := hHeld'
          clear hHeld'
          try simp only [Act.put, List.setIfInBounds_toArray, List.set_cons_zero, List.set_cons_succ]
          refine wpAnyH_ready (rs := [7]) (by kernel_rfl) (by simp) ?_
          refine AllReadyH.cons (o := _) rfl (fun K hK => ?_) ?_
          · skip
            go_simp
            go_at_call 164
            with_reducible refine (CG.out _ _ Y8.out).mono ?_
            rintro q w9 ⟨u, rfl, ⟨b51, x51, y51, rfl, hu⟩, hb⟩
            have F9 := Lib.hid (F8.out.call hb)
            have X9 := Lib.hid (X8.out.below hb)
            have Y9 := Lib.hid (Y8.out.below hb)
            have C9 := Lib.hid (C8.out.below hb)
            have D9 := Lib.hid (D8.out.below hb)
            have L9 := Lib.hid (L8.out.below hb)
            clear F8 X8 Y8 C8 D8 L8
            have H9 := Lib.hid hu
            clear hu hb
            try go_wp2_with fail
            refine hK.out _ _ ((F9.out.c6 0 rfl).1) (fun hHeld' => ?_)
            clear hK K hHeld
            have hHeld := hHeld'
            clear hHeld'
            try simp only [Act.put, List.setIfInBounds_toArray, List.set_cons_zero, List.set_cons_succ]
            refine wpAnyH_ready (rs := [10]) (by kernel_rfl) (by simp) ?_
            refine AllReadyH.cons (o := _) rfl (fun K hK => ?_) ?_
            · skip
              have cc0 := F9.out.c2 2 rfl
              go_simp
              clear cc0
              obtain ⟨f, p⟩ := F9.out.s2 2 rfl (.bool false) (.slice b45 x45 y45) rfl rfl
              generalize (World.setCell (World.setCell _ _ _) _ _) = W at f p ⊢
              have F10 := Lib.hid (f)
              have X10 := Lib.hid (X9.out.kp p)
              have Y10 := Lib.hid (Y9.out.kp p)
              have C10 := Lib.hid (C9.out.kp p)
              have D10 := Lib.hid (D9.out.kp p)
              have L10 := Lib.hid (L9.out.kp p)
              have H10 := Lib.hid (H9.out.kp p)
              clear F9 X9 Y9 C9 D9 L9 H9
              clear f p
              simp only [List.set_cons_zero, List.set_cons_succ] at F10
              refine hK.out _ _ ((F10.out.c6 0 rfl).1) (fun hHeld' => ?_)
              clear hK K hHeld
              have hHeld := hHeld'
              clear hHeld'
              try simp only [Act.put, List.setIfInBounds_toArray, List.set_cons_zero, List.set_cons_succ]
              refine wpAnyH_ready (rs := [11]) (by kernel_rfl) (by simp) ?_
              refine AllReadyH.cons (o := _) rfl (fun K hK => ?_) ?_
              · skip
                have cc0 := F10.out.c2 1 rfl
                go_simp
                clear cc0
                obtain ⟨f, p⟩ := F10.out.s2 1 rfl (.bool false) (.slice b51 x51 y51) rfl rfl
                generalize (World.setCell (World.setCell _ _ _) _ _) = W at f p ⊢
                have F11 := Lib.hid (f)
                have X11 := Lib.hid (X10.out.kp p)
                have Y11 := Lib.hid (Y10.out.kp p)
                have C11 := Lib.hid (C10.out.kp p)
                have D11 := Lib.hid (D10.out.kp p)
                have L11 := Lib.hid (L10.out.kp p)
                have H11 := Lib.hid (H10.out.kp p)
                clear F10 X10 Y10 C10 D10 L10 H10
                clear f p
                simp only [List.set_cons_zero, List.set_cons_succ] at F11
                refine hK.out _ _ ((F11.out.c6 0 rfl).1) (fun hHeld' => ?_)
                clear hK K hHeld
                have hHeld := hHeld'
                clear hHeld'
                try simp only [Act.put, List.setIfInBounds_toArray, List.set_cons_zero, List.set_cons_succ]
                refine wpAnyH_done (by kernel_rfl) ?_ _
                go_wp2_with fail
                go_meet
                exact ⟨_, _, _, _, _, _, _, _, rfl, rfl, F11.out.fz.one_fx 2 rfl rfl, F11.out.fz.one_fx 1 rfl rfl, L11.out, H11.out, C11.out, D11.out⟩
              exact AllReadyH.nil
            exact AllReadyH.nil
          exact AllReadyH.nil
        exact AllReadyH.nil
      refine AllReadyH.cons (o := _) rfl (fun K hK => ?_) ?_
      · skip
        go_simp
        have F7 := Lib.hid (F6.out.new 221 #[.bool false, .slice none 0 0] rfl)
        have X7 := Lib.hid (X6.out.alloc (.cells #[.bool false, .slice none 0 0] 221))
        have Y7 := Lib.hid (Y6.out.alloc (.cells #[.bool false, .slice none 0 0] 221))
        have C7 := Lib.hid (C6.out.alloc (.cells #[.bool false, .slice none 0 0] 221))
        have D7 := Lib.hid (D6.out.alloc (.cells #[.bool false, .slice none 0 0] 221))
        clear F6 X6 Y6 C6 D6
        obtain ⟨g54, hg54⟩ : ∃ g, g = (World.heap W6).size := ⟨_, rfl⟩
        rw [← hg54] at F7 ⊢
        have hzg54 : (World.heap (World.alloc W6 (.cells #[.bool false, .slice none 0 0] 221))).size = g54 + 1 := by rw [hg54]; simp
        clear hg54
        simp only [List.nil_append, List.cons_append] at F7
        generalize World.alloc W6 _ = W7 at hzg54 F7 X7 Y7 C7 D7 ⊢
        clear hzg54
        refine hK.out _ _ ((F7.out.c6 0 rfl).1) (fun hHeld' => ?_)
        clear hK K hHeld
        have hHeld := hHeld'
        clear hHeld'
        try simp only [Act.put, List.setIfInBounds_toArray, List.set_cons_zero, List.set_cons_succ]
        refine wpAnyH_ready (rs := [3]) (by kernel_rfl) (by simp) ?_
        refine AllReadyH.cons (o := _) rfl (fun K hK => ?_) ?_
        · skip
          go_simp
          go_at_call 163
          with_reducible refine (CF.out _ _ X7.out).mono ?_
          rintro q w8 ⟨u, rfl, ⟨b55, x55, y55, rfl, hu⟩, hb⟩
          have F8 := Lib.hid (F7.out.call hb)
          have X8 := Lib.hid (X7.out.below hb)
          have Y8 := Lib.hid (Y7.out.below hb)
          have C8 := Lib.hid (C7.out.below hb)
          have D8 := Lib.hid (D7.out.below hb)
          clear F7 X7 Y7 C7 D7
          have L8 := Lib.hid hu
          clear hu hb
          try go_wp2_with fail
          refine hK.out _ _ ((F8.out.c6 0 rfl).1) (fun hHeld' => ?_)
          clear hK K hHeld
          have hHeld := hHeld'
          clear hHeld'
          try simp only [Act.put, List.setIfInBounds_toArray, List.set_cons_zero, List.set_cons_succ]
          refine wpAnyH_ready (rs := [7]) (by kernel_rfl) (by simp) ?_
          refine AllReadyH.cons (o := _) rfl (fun K hK => ?_) ?_
          · skip
            go_simp
            go_at_call 164
            with_reducible refine (CG.out _ _ Y8.out).mono ?_
            rintro q w9 ⟨u, rfl, ⟨b56, x56, y56, rfl, hu⟩, hb⟩
            have F9 := Lib.hid (F8.out.call hb)
            have X9 := Lib.hid (X8.out.below hb)
            have Y9 := Lib.hid (Y8.out.below hb)
            have C9 := Lib.hid (C8.out.below hb)
            have D9 := Lib.hid (D8.out.below hb)
            have L9 := Lib.hid (L8.out.below hb)
            clear F8 X8 Y8 C8 D8 L8
            have H9 := Lib.hid hu
            clear hu hb
            try go_wp2_with fail
            refine hK.out _ _ ((F9.out.c6 0 rfl).1) (fun hHeld' => ?_)
            clear hK K hHeld
            have hHeld := hHeld'
            clear hHeld'
            try simp only [Act.put, List.setIfInBounds_toArray, List.set_cons_zero, List.set_cons_succ]
            refine wpAnyH_ready (rs := [10]) (by kernel_rfl) (by simp) ?_
            refine AllReadyH.cons (o := _) rfl (fun K hK => ?_) ?_
            · skip
              have cc0 := F9.out.c2 2 rfl
              go_simp
              clear cc0
              obtain ⟨f, p⟩ := F9.out.s2 2 rfl (.bool false) (.slice b55 x55 y55) rfl rfl
              generalize (World.setCell (World.setCell _ _ _) _ _) = W at f p ⊢
              have F10 := Lib.hid (f)
              have X10 := Lib.hid (X9.out.kp p)
              have Y10 := Lib.hid (Y9.out.kp p)
              have C10 := Lib.hid (C9.out.kp p)
              have D10 := Lib.hid (D9.out.kp p)
              have L10 := Lib.hid (L9.out.kp p)
              have H10 := Lib.hid (H9.out.kp p)
              clear F9 X9 Y9 C9 D9 L9 H9
              clear f p
              simp only [List.set_cons_zero, List.set_cons_succ] at F10
              refine hK.out _ _ ((F10.out.c6 0 rfl).1) (fun hHeld' => ?_)
              clear hK K hHeld
              have hHeld := hHeld'
              clear hHeld'
              try simp only [Act.put, List.setIfInBounds_toArray, List.set_cons_zero, List.set_cons_succ]
              refine wpAnyH_ready (rs := [11]) (by kernel_rfl) (by simp) ?_
              refine AllReadyH.cons (o := _) rfl (fun K hK => ?_) ?_
              · skip
                have cc0 := F10.out.c2 1 rfl
                go_simp
                clear cc0
                obtain ⟨f, p⟩ := F10.out.s2 1 rfl (.bool false) (.slice b56 x56 y56) rfl rfl
                generalize (World.setCell (World.setCell _ _ _) _ _) = W at f p ⊢
                have F11 := Lib.hid (f)
                have X11 := Lib.hid (X10.out.kp p)
                have Y11 := Lib.hid (Y10.out.kp p)
                have C11 := Lib.hid (C10.out.kp p)
                have D11 := Lib.hid (D10.out.kp p)
                have L11 := Lib.hid (L10.out.kp p)
                have H11 := Lib.hid (H10.out.kp p)
                clear F10 X10 Y10 C10 D10 L10 H10
                clear f p
                simp only [List.set_cons_zero, List.set_cons_succ] at F11
                refine hK.out _ _ ((F11.out.c6 0 rfl).1) (fun hHeld' => ?_)
                clear hK K hHeld
                have hHeld := hHeld'
                clear hHeld'
                try simp only [Act.put, List.setIfInBounds_toArray, List.set_cons_zero, List.set_cons_succ]
                refine wpAnyH_done (by kernel_rfl) ?_ _
                go_wp2_with fail
                go_meet
                exact ⟨_, _, _, _, _, _, _, _, rfl, rfl, F11.out.fz.one_fx 2 rfl rfl, F11.out.fz.one_fx 1 rfl rfl, L11.out, H11.out, C11.out, D11.out⟩
              exact AllReadyH.nil
            exact AllReadyH.nil
          exact AllReadyH.nil
        exact AllReadyH.nil
      exact AllReadyH.nil
    exact AllReadyH.nil
  case rest =>
    obtain ⟨g1, g2, al, kl, cl, ah, kh, ch, rfl, rfl, hF, hG, hL, hH, hC, hD⟩ := hcut.out
    have F200 := Lib.hid hF
    have G200 := Lib.hid hG
    have L200 := Lib.hid hL
    have H200 := Lib.hid hH
    have C200 := Lib.hid hC
    have D200 := Lib.hid hD
    clear hF hG hL hH hC hD hcut F4 X4 Y4 C4 D4
    have c0_200 := F200.out.c2 0 rfl
    go_upto_region 6 with (fail)
    clear c0_200
    have F201 := Lib.hid (F200.out.new 221 #[.bool false, .slice none 0 0] rfl)
    have G201 := Lib.hid (G200.out.alloc (.cells #[.bool false, .slice none 0 0] 221))
    have L201 := Lib.hid (L200.out.alloc (.cells #[.bool false, .slice none 0 0] 221))
    have H201 := Lib.hid (H200.out.alloc (.cells #[.bool false, .slice none 0 0] 221))
    have C201 := Lib.hid (C200.out.alloc (.cells #[.bool false, .slice none 0 0] 221))
    have D201 := Lib.hid (D200.out.alloc (.cells #[.bool false, .slice none 0 0] 221))
    clear F200 G200 L200 H200 C200 D200
    obtain ⟨g3, hg3⟩ : ∃ g, g = (World.heap wc).size := ⟨_, rfl⟩
    rw [← hg3] at F201 ⊢
    have hzg3 : (World.heap (World.alloc wc (.cells #[.bool false, .slice none 0 0] 221))).size = g3 + 1 := by rw [hg3]; simp
    clear hg3
    simp only [List.nil_append, List.cons_append] at F201
    generalize World.alloc wc _ = W201 at hzg3 F201 G201 L201 H201 C201 D201 ⊢
    have F202 := Lib.hid (F201.out.new 221 #[.bool false, .slice none 0 0] rfl)
    have G202 := Lib.hid (G201.out.alloc (.cells #[.bool false, .slice none 0 0] 221))
    have L202 := Lib.hid (L201.out.alloc (.cells #[.bool false, .slice none 0 0] 221))
    have H202 := Lib.hid (H201.out.alloc (.cells #[.bool false, .slice none 0 0] 221))
    have C202 := Lib.hid (C201.out.alloc (.cells #[.bool false, .slice none 0 0] 221))
    have D202 := Lib.hid (D201.out.alloc (.cells #[.bool false, .slice none 0 0] 221))
    clear F201 G201 L201 H201 C201 D201
    rw [hzg3] at F202
    clear hzg3
    simp only [List.nil_append, List.cons_append] at F202
    generalize World.alloc W201 _ = W202 at F202 G202 L202 H202 C202 D202 ⊢
    have c0_202 := F202.out.c2 0 rfl
    have c1_202 := F202.out.c2 1 rfl
    have c2_202 := F202.out.c2 2 rfl
    go_wp2_with fail
    clear c0_202 c1_202 c2_202
    refine (CD.out _ _ _ L202.out D202.out).mono ?_
    rintro q w203 ⟨x, y, rfl, hx, hy, hb⟩
    have F203 := Lib.hid (F202.out.call hb)
    have G203 := Lib.hid (G202.out.call hb)
    have L203 := Lib.hid (L202.out.below hb)
    have H203 := Lib.hid (H202.out.below hb)
    have C203 := Lib.hid (C202.out.below hb)
    have D203 := Lib.hid (D202.out.below hb)
    clear F202 G202 L202 H202 C202 D202
    have P203 := Lib.hid (hx)
    have Q203 := Lib.hid (hy)
    clear hb
    have c0_203 := F203.out.c2 0 rfl
    have c1_203 := F203.out.c2 1 rfl
    have c2_203 := F203.out.c2 2 rfl
    obtain ⟨a5, k5, c5, rfl⟩ := P203.out.form
    obtain ⟨a6, k6, c6, rfl⟩ := Q203.out.form
    clear L203 D203
    go_wp2_with fail
    clear c0_203 c1_203 c2_203
    refine (CM.out _ _ P203.out).mono ?_
    rintro q w204 ⟨rfl, hb⟩
    have F204 := Lib.hid (F203.out.call hb)
    have G204 := Lib.hid (G203.out.call hb)
    have H204 := Lib.hid (H203.out.below hb)
    have C204 := Lib.hid (C203.out.below hb)
    have P204 := Lib.hid (P203.out.below hb)
    have Q204 := Lib.hid (Q203.out.below hb)
    clear F203 G203 H203 C203 P203 Q203
    clear hb
    have c0_204 := F204.out.c2 0 rfl
    have c1_204 := F204.out.c2 1 rfl
    have c2_204 := F204.out.c2 2 rfl
    go_wp2_with fail
    clear c0_204 c1_204 c2_204
    refine (CU.out _ _ _ P204.out C204.out).mono ?_
    rintro q w205 ⟨u, rfl, hu, hb⟩
    have F205 := Lib.hid (F204.out.call hb)
    have G205 := Lib.hid (G204.out.call hb)
    have H205 := Lib.hid (H204.out.below hb)
    have C205 := Lib.hid (C204.out.below hb)
    have P205 := Lib.hid (P204.out.below hb)
    have Q205 := Lib.hid (Q204.out.below hb)
    clear F204 G204 H204 C204 P204 Q204
    have R205 := Lib.hid (hu)
    clear hb
    have c0_205 := F205.out.c2 0 rfl
    have c1_205 := F205.out.c2 1 rfl
    have c2_205 := F205.out.c2 2 rfl
    clear P205 C205
    obtain ⟨a7, k7, c7, rfl⟩ := R205.out.form
    have e0 := G205.out.c2 0 rfl
    go_wp2_with fail
    clear e0
    clear c0_205 c1_205 c2_205
    refine (CN.out _ _ _ ⟨_, _, _, rfl, H205.out⟩ R205.out).mono ?_
    rintro q w206 ⟨u, rfl, ⟨a8, k8, c8, rfl, hu⟩, hb⟩
    have F206 := Lib.hid (F205.out.call hb)
    have G206 := Lib.hid (G205.out.call hb)
    have H206 := Lib.hid (H205.out.below hb)
    have Q206 := Lib.hid (Q205.out.below hb)
    have R206 := Lib.hid (R205.out.below hb)
    clear F205 G205 H205 Q205 R205
    have V206 := Lib.hid (hu)
    clear hb
    have c0_206 := F206.out.c2 0 rfl
    have c1_206 := F206.out.c2 1 rfl
    have c2_206 := F206.out.c2 2 rfl
    clear R206 G206 H206
    go_upto_region 18 with (fail)
    clear c0_206 c1_206 c2_206
    obtain ⟨f0, p0⟩ := F206.out.s2 1 rfl (.bool false) (.slice a6 k6 c6) rfl rfl
    obtain ⟨f1, p1⟩ := f0.s2 2 rfl (.bool false) (.slice a8 k8 c8) rfl rfl
    have p := p0.trans p1
    clear f0 p0 p1
    generalize World.setCell (World.setCell (World.setCell (World.setCell _ _ _) _ _) _ _) _ _ = W at f1 p ⊢
    have F207 := Lib.hid (f1)
    have Q207 := Lib.hid (Q206.out.kp p)
    have V207 := Lib.hid (V206.out.kp p)
    clear F206 Q206 V206
    clear f1 p
    simp only [List.set_cons_zero, List.set_cons_succ] at F207
    have c0_207 := F207.out.c2 0 rfl
    have c1_207 := F207.out.c2 1 rfl
    have c2_207 := F207.out.c2 2 rfl
    go_wp2_with fail
    clear c0_207 c1_207 c2_207
    refine (of_any (n := 1) (by decide) V207.out.tab).mono ?_
    rintro q w208 ⟨u, rfl, hu, hb⟩
    have F208 := Lib.hid (F207.out.call hb)
    have Q208 := Lib.hid (Q207.out.below hb)
    have V208 := Lib.hid (V207.out.below hb)
    clear F207 Q207 V207
    have O208 := Lib.hid (hu)
    clear hb
    have c0_208 := F208.out.c2 0 rfl
    have c1_208 := F208.out.c2 1 rfl
    have c2_208 := F208.out.c2 2 rfl
    go_wp2_with fail
    clear c0_208 c1_208 c2_208
    refine (CL.out _ _ O208.out).mono ?_
    rintro q w209 ⟨u, rfl, hu, hb⟩
    have F209 := Lib.hid (F208.out.call hb)
    have Q209 := Lib.hid (Q208.out.below hb)
    have V209 := Lib.hid (V208.out.below hb)
    have O209 := Lib.hid (O208.out.below hb)
    clear F208 Q208 V208 O208
    have W209 := Lib.hid (hu)
    clear hb
    have c0_209 := F209.out.c2 0 rfl
    have c1_209 := F209.out.c2 1 rfl
    have c2_209 := F209.out.c2 2 rfl
    clear O209
    obtain ⟨a9, k9, c9, rfl⟩ := W209.out.form
    go_wp2_with fail
    clear c0_209 c1_209 c2_209
    refine (CP.out _ _ _ V209.out W209.out).mono ?_
    rintro q w210 ⟨rfl, hb⟩
    have F210 := Lib.hid (F209.out.call hb)
    have Q210 := Lib.hid (Q209.out.below hb)
    have V210 := Lib.hid (V209.out.below hb)
    have W210 := Lib.hid (W209.out.below hb)
    clear F209 Q209 V209 W209
    clear hb
    have c0_210 := F210.out.c2 0 rfl
    have c1_210 := F210.out.c2 1 rfl
    have c2_210 := F210.out.c2 2 rfl
    go_upto_region 21 with (fail)
    go_quiet (fail)
    go_wp2
    refine bodyPost_ret (v := .tuple #[.int .i64 0, .slice a6 k6 c6, .slice a8 k8 c8, .int .i64 0]) (by simp [results, Tryz.results133, go_sem]) rfl ?_
    exact ⟨_, _, rfl, Q210.out.drewN _, V210.out.drewN _, (F210.out.drewN _).b⟩

set_option maxRecDepth 100000 in
set_option maxHeartbeats 4000000 in
theorem XExp_r {w : World} {u : Value} {i : In} (hu : Iv w u i) (s : Nat) (hs : 8 ≤ s ∧ s ≤ 8900) {l h : Nat}
    (cs : ∀ w u, Iv w u i → Calls Tryz.prog 133 #[u, .int .i64 (s : Int)] w fun e w' => ∃ x y, e = .returned (.tuple #[.int .i64 0, x, y, .int .i64 0]) ∧ Dg w' x l ∧ Dg w' y h ∧ Below w.heap.size w w')
    (hlh : l ≤ h) (hho : h ≤ 2 ^ s) (b1 : bl (expP l h s).lo ≤ 30000) (b2 : bl (expP l h s).hi ≤ 30000) :
    Calls Tryz.prog 93 #[u, .int .i64 (s : Int)] w fun e w' => ∃ r, e = .returned (.tuple #[r, .int .i64 0]) ∧ Iv w' r (withinN (expP l h s).lo (expP l h s).hi (-(s : Int)) false) ∧ Below w.heap.size w w' := by
  have bh : bl h ≤ 10000 := Nat.le_trans (bl_pow_le (s := s) (k := 1) (by omega) (by decide)) (by omega)
  have bl' : bl l ≤ 10000 := Nat.le_trans (bl_mono hlh) bh
  have CS := Lib.hid cs
  have CE := Lib.hid (fun w u v (hu : Dg w u l) (hv : Dg w v h) => SExp_r (hu.rd (Nat.le_trans bl' (by decide))) (hv.rd (Nat.le_trans bh (by decide))) s (by omega) hlh hho)
  have CW := Lib.hid (fun w u v (hu : Dg w u (expP l h s).lo) (hv : Dg w v (expP l h s).hi) => Within_r (hu.rd (Nat.le_trans b1 (by decide))) (hv.rd (Nat.le_trans b2 (by decide))) false (s : Int) (-(s : Int)) (by omega) (by omega) b1 b2)
  generalize withinN (expP l h s).lo (expP l h s).hi (-(s : Int)) false = I at *
  generalize (expP l h s).lo = lo at *
  generalize (expP l h s).hi = hi at *
  have q1 : IntKind.i64.wrap ((s : Int) - 0) = (s : Int) := by have := IntWalk.i64_in ((s : Int) - 0) (by omega); omega
  have q2 : IntKind.i64.wrap (s : Int) = (s : Int) := by have := IntWalk.i64_in (s : Int) (by omega); omega
  obtain ⟨⟨tn, tm, te⟩, ⟨tn', tm', te'⟩⟩ := I
  obtain ⟨⟨n, m, e⟩, ⟨n', m', e'⟩⟩ := i
  obtain ⟨a1, k1, c1, a2, k2, c2, rfl, hx, hy⟩ := hu.fm
  have HU := Lib.hid hu
  clear hu hx hy cs hlh hho b1 b2 bh bl' hs
  go_enter Tryz.func93, Tryz.ntmps93
  have F0 := Lib.hid (Fx.two w 92 #[.bool n, .slice a1 k1 c1, .int .i64 e, .bool n', .slice a2 k2 c2, .int .i64 e'] 92 #[.bool false, .slice none 0 0, .int .i64 0, .bool false, .slice none 0 0, .int .i64 0] rfl rfl)
  have U0 := Lib.hid ((HU.out.alloc (.cells #[.bool n, .slice a1 k1 c1, .int .i64 e, .bool n', .slice a2 k2 c2, .int .i64 e'] 92)).alloc (.cells #[.bool false, .slice none 0 0, .int .i64 0, .bool false, .slice none 0 0, .int .i64 0] 92))
  clear HU
  go_upto_region 1 with (fail)
  generalize World.alloc (World.alloc _ _) _ = w0 at F0 U0 ⊢
  have c0_0 := F0.out.c6 0 rfl
  have c1_0 := F0.out.c6 1 rfl
  go_wp2_with fail
  clear c0_0 c1_0
  refine (CS.out _ _ U0.out).mono ?_
  rintro q w1 ⟨x, y, rfl, hx, hy, hb⟩
  have F1 := Lib.hid (F0.out.call hb)
  have U1 := Lib.hid (U0.out.below hb)
  clear F0 U0
  have P1 := Lib.hid (hx)
  have Q1 := Lib.hid (hy)
  clear hb
  have c0_1 := F1.out.c6 0 rfl
  have c1_1 := F1.out.c6 1 rfl
  obtain ⟨a5, k5, c5, rfl⟩ := P1.out.form
  obtain ⟨a6, k6, c6, rfl⟩ := Q1.out.form
  clear U1
  go_wp2_with fail
  clear c0_1 c1_1
  refine (CE.out _ _ _ P1.out Q1.out).mono ?_
  rintro q w2 ⟨x, y, rfl, hx, hy, hb⟩
  have F2 := Lib.hid (F1.out.call hb)
  have P2 := Lib.hid (P1.out.below hb)
  have Q2 := Lib.hid (Q1.out.below hb)
  clear F1 P1 Q1
  have V2 := Lib.hid (hx)
  have Y2 := Lib.hid (hy)
  clear hb
  have c0_2 := F2.out.c6 0 rfl
  have c1_2 := F2.out.c6 1 rfl
  obtain ⟨a7, k7, c7, rfl⟩ := V2.out.form
  obtain ⟨a8, k8, c8, rfl⟩ := Y2.out.form
  clear P2 Q2
  go_wp2_with fail
  clear c0_2 c1_2
  refine (CW.out _ _ _ V2.out Y2.out).mono ?_
  rintro q w3 ⟨u, rfl, hu, hb⟩
  have F3 := Lib.hid (F2.out.call hb)
  have V3 := Lib.hid (V2.out.below hb)
  have Y3 := Lib.hid (Y2.out.below hb)
  clear F2 V2 Y2
  have J3 := Lib.hid (hu)
  clear hb
  have c0_3 := F3.out.c6 0 rfl
  have c1_3 := F3.out.c6 1 rfl
  clear V3 Y3
  obtain ⟨b9, e9, d9, b0, e0, d0, rfl, h1, h2⟩ := J3.out.fm
  clear h1 h2
  go_upto_region 6 with (fail)
  clear c0_3 c1_3
  have F4 := Lib.hid (F3.out.new 92 #[.bool tn, .slice b9 e9 d9, .int .i64 te, .bool tn', .slice b0 e0 d0, .int .i64 te'] rfl)
  have J4 := Lib.hid (J3.out.alloc (.cells #[.bool tn, .slice b9 e9 d9, .int .i64 te, .bool tn', .slice b0 e0 d0, .int .i64 te'] 92))
  clear F3 J3
  obtain ⟨g2, hg2⟩ : ∃ g, g = (World.heap w3).size := ⟨_, rfl⟩
  rw [← hg2] at F4 ⊢
  clear hg2
  simp only [List.nil_append, List.cons_append] at F4
  generalize World.alloc w3 _ = W4 at F4 J4 ⊢
  have c0_4 := F4.out.c6 0 rfl
  have c1_4 := F4.out.c6 1 rfl
  have c2_4 := F4.out.c6 2 rfl
  go_wp2
  obtain ⟨f0, p0⟩ := F4.out.s6 1 rfl (.bool tn) (.slice b9 e9 d9) (.int .i64 te) (.bool tn') (.slice b0 e0 d0) (.int .i64 te') rfl rfl rfl rfl rfl rfl
  have p := p0
  have f := f0
  clear f0 p0
  generalize (World.setCell (World.setCell (World.setCell (World.setCell (World.setCell (World.setCell _ _ _) _ _) _ _) _ _) _ _) _ _) = W at f p ⊢
  have g1 := f.c6 1 rfl
  refine bodyPost_ret (v := .tuple #[.agg #[.bool tn, .slice b9 e9 d9, .int .i64 te, .bool tn', .slice b0 e0 d0, .int .i64 te'], .int .i64 0]) (by simp [results, Tryz.results93, go_sem, g1]) rfl ?_
  exact ⟨_, rfl, J4.out.kp p, f.b⟩

end Go.Proofs.YtobpioceopfkpaaGreatDoor
