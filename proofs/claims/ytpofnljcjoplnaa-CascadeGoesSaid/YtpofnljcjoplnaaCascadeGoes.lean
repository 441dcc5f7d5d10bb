/-
  CascadeGoes returns true, whatever its plan and its two numbers.
-/
import Derived.Test.YtpofnljcjoplnaaGoes2
import Derived.Test.YtpofnljcjoplnaaArgs
namespace Go.Proofs.Ytpofnljcjoplnaa.cascadeGoes
open Go.ChangeShapes Go.WideShapes Go.ChangeAt Go.RowKit

theorem bud_below {w w' : World} {B C D most left : Nat} {opn : Bool} (h : Bud w B C D most left opn) (hb : Below w.heap.size w w') : Bud w' B C D most left opn :=
  h.keep (Chg.of_below (S := fun _ => False) hb) id id id

theorem walk_long (a : Option Addr) (len cap : Nat) (t u : Int) (h : 60 < len) (w : World) :
    Calls Try.prog 9 #[.slice a len cap, .int .i64 t, .int .i64 u] w fun e w' => e = .returned (.bool true) ∧ Below w.heap.size w w' := by
  go_enter Try.func9, Try.ntmps9
  go_wp2_with fail
  refine (alive10 _).mono ?_
  rintro e w1 ⟨rfl, hw1⟩
  have hb : Hid (Below w.heap.size w w1) := ((Below.refl _ _).alloc (Nat.le_refl _) _).trans (hw1.mono (by simp))
  clear hw1
  go_wp2
  go_ret
  exact ⟨rfl, hb.out⟩

/-- Go without a try. -/
theorem go30_no (v b : Value) (w : World) : Calls Try.prog 30 #[v, b, .nilFunc] w fun e w' => e = .returned (.tuple #[.agg #[.string ⟨#[]⟩, .int .i64 0, .int .i64 0, .int .i64 0], .int .i64 1]) ∧ Below w.heap.size w w' := by
  have hfn : ∀ w, (binOp .eql 70 .nilFunc .nilFunc).run Try.prog w = .ok (.bool true) w := fun w => by kernel_rfl
  go_enter Try.func30, Try.ntmps30
  go_wp2
  refine bodyPost_ret (v := .tuple #[.agg #[.string ⟨#[]⟩, .int .i64 0, .int .i64 0, .int .i64 0], .int .i64 1]) (by simp [results, Try.results30, go_sem]) rfl ⟨rfl, ?_⟩
  exact ((Below.refl _ _).alloc (Nat.le_refl _) _).alloc (by simp) _

theorem sl_take {w : World} {a : Option Addr} {cap n : Nat} {xs : List Int} {f : Int → Value} (h : Sl w (.slice a xs.length cap) (xs.map f)) (hn : n ≤ xs.length) : Sl w (.slice a n cap) ((xs.take n).map f) := by
  obtain ⟨_, _, he, hc⟩ := h
  simp only [List.length_map, Value.slice.injEq] at he hc
  obtain ⟨rfl, _, rfl⟩ := he
  have hl : ((xs.take n).map f).length = n := by simp; omega
  refine ⟨a, cap, by rw [hl], fun h0 => ?_⟩
  rw [hl] at h0
  obtain ⟨b, off, rfl, hc2⟩ := hc (by omega)
  refine ⟨b, off, rfl, fun i u hu => hc2 i u ?_⟩
  rw [List.getElem?_map, List.getElem?_take] at hu
  rw [List.getElem?_map]
  split at hu
  · exact hu
  · cases hu

theorem endsOut_le (len : Nat) (t u : Int) : 0 ≤ t → ((endsOut len t u).1 : Int) ≤ t := by
  intro h
  simp only [endsOut]
  by_cases h1 : 0 ≤ t ∧ t < len
  · simp only [if_pos h1]
    split
    · simp only; omega
    · simp only; omega
  · simp only [if_neg h1]
    split
    · simp only; omega
    · simp only; omega

set_option maxHeartbeats 4000000 in
theorem walk_neg (a : Option Addr) (cap : Nat) (xs : List Int) (t u : Int) (w : World) (h : xs.length ≤ 60) (hcap : xs.length ≤ cap) (ht : t < 0) (hsl : Sl w (.slice a xs.length cap) (xs.map (.int .i64))) :
    Calls Try.prog 9 #[.slice a xs.length cap, .int .i64 t, .int .i64 u] w fun e w' => e = .returned (.bool true) ∧ Below w.heap.size w w' := by
  have hli : (xs.length : Int) ≤ 60 := by omega
  have hmf : ∀ (fn : Fn) (first cap : Array Value) (w : World), (Instr.makeFunc fn first cap).run Try.prog w = .ok (.func fn first cap) w := fun _ _ _ _ => rfl
  have HS := Lib.hid hsl
  clear hsl
  go_enter Try.func9, Try.ntmps9
  go_wp2_with fail
  refine (alive10 _).mono ?_
  rintro e w1 ⟨rfl, hw1⟩
  have hT : w1.cell? ⟨w.heap.size, 0, none⟩ = some (.int .i64 u) := (hw1.cell (p := ⟨w.heap.size, 0, none⟩) (by simp)).trans (World.cell?_alloc_at _ _ _ _ rfl)
  have hb : Hid (Below w.heap.size w w1) := ((Below.refl _ _).alloc (Nat.le_refl _) _).trans (hw1.mono (by simp))
  have hz : w.heap.size < w1.heap.size := by have := hw1.size; simp at this; omega
  clear hw1
  go_wp2_with fail
  refine (go27_nil w1.heap.size w.heap.size u _ xs _ h ((HS.out.below hb.out).alloc _) (heap_alloc_new w1 _) ((World.cell?_alloc_past _ _ _ hz).trans hT) (by omega)).mono ?_
  rintro e w2 ⟨n, end_, bits, v, he, rfl, hn, hb0, hb1, hA, hown, hcw, hT2⟩
  have hAl := hA.lt
  have hTl := cell_lt hT2
  simp only at hTl
  have hni : (n : Int) ≤ xs.length := by omega
  have hnc : n ≤ cap := by omega
  have hsame : sameB (xs.take n) (xs.take n) = true := by simp [sameB]
  have HSM := Lib.hid hsame
  clear hsame
  have hbw0 : Below w.heap.size w w2 := Chg.below (hb.out.alloc hb.out.size _) (by have := hb.out.size; simp; omega) hcw (fun i hi => by simp only [or_false] at hi; omega)
  have hsl2 : Sl w2 (.slice a n cap) ((xs.take n).map (.int .i64)) := sl_take (HS.out.below (hbw0.mono (Nat.le_refl _))) hn
  have hA0 : w2.cell? ⟨w1.heap.size, 0, none⟩ = some v := hA.at 0 _ rfl
  have hbw := Lib.hid hbw0
  have hso : Sl w2 v ((xs.take n).map (.int .i64)) := Sl.of_own hown
  have HE := Lib.hid he
  have HB := Lib.hid (And.intro hb0 hb1)
  have HSL := Lib.hid hsl2
  have HSO := Lib.hid hso
  clear he hb0 hb1 hsl2 hso hA hown hcw hb hT
  have hq : ∀ m : Nat, Calls Try.prog 13 #[v, .slice a n cap] ((w2.alloc (.cells #[.int .i64 n, .int .i64 bits, .int .i64 n, .int .i64 end_] 61)).drewN m) fun e w'' => e = .returned (.bool true) ∧ ∃ k, w'' = (w2.alloc (.cells #[.int .i64 n, .int .i64 bits, .int .i64 n, .int .i64 end_] 61)).drewN k := fun m =>
    Calls.quiet_of (by
      have := same_any v (.slice a n cap) (xs.take n) (xs.take n) ((w2.alloc (.cells #[.int .i64 n, .int .i64 bits, .int .i64 n, .int .i64 end_] 61)).drewN m) ((HSO.out.alloc _).drewN _) ((HSL.out.alloc _).drewN _) (by simp; omega)
      rw [HSM.out] at this
      exact this)
  have HQ := Lib.hid hq
  have hx := fun m => below_drewN' (hbw.out.alloc hbw.out.size (.cells #[.int .i64 n, .int .i64 bits, .int .i64 n, .int .i64 end_] 61)) m
  have hX := Lib.hid hx
  clear hx
  clear hq
  go_wp2_with fail
  refine (ends29 xs.length (-1) u _ h).mono ?_
  rw [HE.out]
  rintro e w' ⟨rfl, rfl⟩
  go_wp2_with fail
  go_quiet ((go_at_call 13; exact HQ.out _))
  go_wp2_with fail
  by_cases hn0 : n = 0
  · have hb0 := HB.out.1 hn0
    have t1 : decide (0 < (n : Int)) = false := by simp; omega
    have t2 : ((n : Int) == 0) = true := by simp; omega
    have t3 : decide (0 < n) = false := by simp; omega
    have t4 : ¬ 0 < n := by omega
    clear hn0
    subst hb0
    go_quiet (fail)
    go_wp2_with fail
    refine (go30_no _ _ _).mono ?_
    rintro e w3 ⟨rfl, hb3⟩
    have hE : Hid (Below w.heap.size w w3) := (hX.out _).trans (hb3.mono (hX.out _).size)
    clear hb3
    go_wp2
    go_ret
    exact ⟨rfl, hE.out.alloc hE.out.size _⟩
  · have t1 : decide (0 < (n : Int)) = true := by simp; omega
    have t2 : ((n : Int) == 0) = false := by simp; omega
    have t3 : decide (0 < n) = true := by simp; omega
    have hx := HB.out.2 (by omega)
    obtain ⟨_, _, he, hcell⟩ := HSL.out
    have hlen : ((xs.take n).map (Value.int IntKind.i64)).length = n := by simp; omega
    rw [hlen] at he hcell
    simp only [Value.slice.injEq] at he
    obtain ⟨rfl, _, rfl⟩ := he
    obtain ⟨b, off, rfl, hc2⟩ := hcell (by omega)
    have hc : w2.cell? ⟨b, off + (n - 1), none⟩ = some (.int .i64 bits) := hc2 (n - 1) _ (by
      rw [List.getElem?_map, List.getElem?_take, if_pos (by omega), hx]; rfl)
    have hbl := cell_lt hc
    simp only at hbl
    have hi1 : ((n : Int) - 1).toNat = n - 1 := by omega
    have hi2 : 0 ≤ (n : Int) - 1 := by omega
    have hi3 : (n : Int) - 1 < xs.length := by omega
    clear hx hc2 hcell hlen hn0
    go_quiet (fail)
    go_wp2_with fail
    refine (go30_no _ _ _).mono ?_
    rintro e w3 ⟨rfl, hb3⟩
    have hE : Hid (Below w.heap.size w w3) := (hX.out _).trans (hb3.mono (hX.out _).size)
    clear hb3
    go_wp2
    go_ret
    exact ⟨rfl, hE.out.alloc hE.out.size _⟩
set_option maxHeartbeats 4000000 in
theorem walk_big (a : Option Addr) (cap : Nat) (xs : List Int) (t u : Int) (w : World) (h : xs.length ≤ 60) (hcap : xs.length ≤ cap) (ht : 4096 < t) (hsl : Sl w (.slice a xs.length cap) (xs.map (.int .i64))) :
    Calls Try.prog 9 #[.slice a xs.length cap, .int .i64 t, .int .i64 u] w fun e w' => e = .returned (.bool true) ∧ Below w.heap.size w w' := by
  have hli : (xs.length : Int) ≤ 60 := by omega
  have hmf : ∀ (fn : Fn) (first cap : Array Value) (w : World), (Instr.makeFunc fn first cap).run Try.prog w = .ok (.func fn first cap) w := fun _ _ _ _ => rfl
  have HS := Lib.hid hsl
  clear hsl
  have ht0 : ¬ t < 0 := by omega
  go_enter Try.func9, Try.ntmps9
  go_wp2_with fail
  refine (alive10 _).mono ?_
  rintro e w1 ⟨rfl, hw1⟩
  have hT : w1.cell? ⟨w.heap.size, 0, none⟩ = some (.int .i64 u) := (hw1.cell (p := ⟨w.heap.size, 0, none⟩) (by simp)).trans (World.cell?_alloc_at _ _ _ _ rfl)
  have hb : Hid (Below w.heap.size w w1) := ((Below.refl _ _).alloc (Nat.le_refl _) _).trans (hw1.mono (by simp))
  have hz : w.heap.size < w1.heap.size := by have := hw1.size; simp at this; omega
  clear hw1
  go_wp2_with fail
  refine (go27_nil w1.heap.size w.heap.size u _ xs _ h ((HS.out.below hb.out).alloc _) (heap_alloc_new w1 _) ((World.cell?_alloc_past _ _ _ hz).trans hT) (by omega)).mono ?_
  rintro e w2 ⟨n, end_, bits, v, he, rfl, hn, hb0, hb1, hA, hown, hcw, hT2⟩
  have hAl := hA.lt
  have hTl := cell_lt hT2
  simp only at hTl
  have hni : (n : Int) ≤ xs.length := by omega
  have hnc : n ≤ cap := by omega
  have hsame : sameB (xs.take n) (xs.take n) = true := by simp [sameB]
  have HSM := Lib.hid hsame
  clear hsame
  have hbw0 : Below w.heap.size w w2 := Chg.below (hb.out.alloc hb.out.size _) (by have := hb.out.size; simp; omega) hcw (fun i hi => by simp only [or_false] at hi; omega)
  have hsl2 : Sl w2 (.slice a n cap) ((xs.take n).map (.int .i64)) := sl_take (HS.out.below (hbw0.mono (Nat.le_refl _))) hn
  have hA0 : w2.cell? ⟨w1.heap.size, 0, none⟩ = some v := hA.at 0 _ rfl
  have hbw := Lib.hid hbw0
  have hso : Sl w2 v ((xs.take n).map (.int .i64)) := Sl.of_own hown
  have HE := Lib.hid he
  have HB := Lib.hid (And.intro hb0 hb1)
  have HSL := Lib.hid hsl2
  have HSO := Lib.hid hso
  clear he hb0 hb1 hsl2 hso hA hown hcw hb hT
  have hq : ∀ m : Nat, Calls Try.prog 13 #[v, .slice a n cap] ((w2.alloc (.cells #[.int .i64 n, .int .i64 bits, .int .i64 n, .int .i64 end_] 61)).drewN m) fun e w'' => e = .returned (.bool true) ∧ ∃ k, w'' = (w2.alloc (.cells #[.int .i64 n, .int .i64 bits, .int .i64 n, .int .i64 end_] 61)).drewN k := fun m =>
    Calls.quiet_of (by
      have := same_any v (.slice a n cap) (xs.take n) (xs.take n) ((w2.alloc (.cells #[.int .i64 n, .int .i64 bits, .int .i64 n, .int .i64 end_] 61)).drewN m) ((HSO.out.alloc _).drewN _) ((HSL.out.alloc _).drewN _) (by simp; omega)
      rw [HSM.out] at this
      exact this)
  have HQ := Lib.hid hq
  have hx := fun m => below_drewN' (hbw.out.alloc hbw.out.size (.cells #[.int .i64 n, .int .i64 bits, .int .i64 n, .int .i64 end_] 61)) m
  have hX := Lib.hid hx
  clear hx
  clear hq
  go_wp2_with fail
  refine (ends29 xs.length (-1) u _ h).mono ?_
  rw [HE.out]
  rintro e w' ⟨rfl, rfl⟩
  go_wp2_with fail
  go_quiet ((go_at_call 13; exact HQ.out _))
  go_wp2_with fail
  by_cases hn0 : n = 0
  · have hb0 := HB.out.1 hn0
    have t1 : decide (0 < (n : Int)) = false := by simp; omega
    have t2 : ((n : Int) == 0) = true := by simp; omega
    have t3 : decide (0 < n) = false := by simp; omega
    have t4 : ¬ 0 < n := by omega
    clear hn0
    subst hb0
    go_quiet (fail)
    go_wp2_with fail
    refine (go30_no _ _ _).mono ?_
    rintro e w3 ⟨rfl, hb3⟩
    have hE : Hid (Below w.heap.size w w3) := (hX.out _).trans (hb3.mono (hX.out _).size)
    clear hb3
    go_wp2
    go_ret
    exact ⟨rfl, hE.out.alloc hE.out.size _⟩
  · have t1 : decide (0 < (n : Int)) = true := by simp; omega
    have t2 : ((n : Int) == 0) = false := by simp; omega
    have t3 : decide (0 < n) = true := by simp; omega
    have hx := HB.out.2 (by omega)
    obtain ⟨_, _, he, hcell⟩ := HSL.out
    have hlen : ((xs.take n).map (Value.int IntKind.i64)).length = n := by simp; omega
    rw [hlen] at he hcell
    simp only [Value.slice.injEq] at he
    obtain ⟨rfl, _, rfl⟩ := he
    obtain ⟨b, off, rfl, hc2⟩ := hcell (by omega)
    have hc : w2.cell? ⟨b, off + (n - 1), none⟩ = some (.int .i64 bits) := hc2 (n - 1) _ (by
      rw [List.getElem?_map, List.getElem?_take, if_pos (by omega), hx]; rfl)
    have hbl := cell_lt hc
    simp only at hbl
    have hi1 : ((n : Int) - 1).toNat = n - 1 := by omega
    have hi2 : 0 ≤ (n : Int) - 1 := by omega
    have hi3 : (n : Int) - 1 < xs.length := by omega
    clear hx hc2 hcell hlen hn0
    go_quiet (fail)
    go_wp2_with fail
    refine (go30_no _ _ _).mono ?_
    rintro e w3 ⟨rfl, hb3⟩
    have hE : Hid (Below w.heap.size w w3) := (hX.out _).trans (hb3.mono (hX.out _).size)
    clear hb3
    go_wp2
    go_ret
    exact ⟨rfl, hE.out.alloc hE.out.size _⟩
set_option maxHeartbeats 4000000 in
theorem walk_bud (a : Option Addr) (cap : Nat) (xs : List Int) (t : Nat) (u : Int) (w : World) (h : xs.length ≤ 60) (hcap : xs.length ≤ cap) (ht : t ≤ 4096) (hsl : Sl w (.slice a xs.length cap) (xs.map (.int .i64))) :
    Calls Try.prog 9 #[.slice a xs.length cap, .int .i64 t, .int .i64 u] w fun e w' => e = .returned (.bool true) ∧ Below w.heap.size w w' := by
  have hli : (xs.length : Int) ≤ 60 := by omega
  have hmf : ∀ (fn : Fn) (first cap : Array Value) (w : World), (Instr.makeFunc fn first cap).run Try.prog w = .ok (.func fn first cap) w := fun _ _ _ _ => rfl
  have HS := Lib.hid hsl
  clear hsl
  have hti : (t : Int) ≤ 4096 := by omega
  have ht0 : ¬ (t : Int) < 0 := by omega
  go_enter Try.func9, Try.ntmps9
  go_wp2_with fail
  refine (alive10 _).mono ?_
  rintro e w1 ⟨rfl, hw1⟩
  have hT : w1.cell? ⟨w.heap.size, 0, none⟩ = some (.int .i64 u) := (hw1.cell (p := ⟨w.heap.size, 0, none⟩) (by simp)).trans (World.cell?_alloc_at _ _ _ _ rfl)
  have hb : Hid (Below w.heap.size w w1) := ((Below.refl _ _).alloc (Nat.le_refl _) _).trans (hw1.mono (by simp))
  have hz : w.heap.size < w1.heap.size := by have := hw1.size; simp at this; omega
  clear hw1
  go_wp2_with fail
  refine (new_yes t _ (by omega)).mono ?_
  rintro e wn ⟨B, C, D, rfl, hbud, q1, q2, q3, hwn⟩
  have hT : wn.cell? ⟨w.heap.size, 0, none⟩ = some (.int .i64 u) := (hwn.cell (p := ⟨w.heap.size, 0, none⟩) hz).trans hT
  have hb : Hid (Below w.heap.size w wn) := hb.out.trans (hwn.mono (by omega))
  have hz : w.heap.size < wn.heap.size := by have := hwn.size; omega
  have hBl := hbud.ltB
  have hCl := hbud.ltC
  have hDl := hbud.ltD
  have HBW := Lib.hid hbud
  clear hbud hwn
  go_wp2_with fail
  refine (go27_bud B C D t t wn.heap.size w.heap.size u _ xs _ h ((HS.out.below hb.out).alloc _) (heap_alloc_new wn _) ((World.cell?_alloc_past _ _ _ hz).trans hT) (by omega) (bud_below HBW.out ((Below.refl _ _).alloc (Nat.le_refl _) _))).mono ?_
  rintro e w2 ⟨⟨n, end_, bits, v, he, rfl, hn, hb0, hb1, hA, hown, hcw, hT2⟩, hbud2⟩
  rw [he] at hbud2
  have hAl := hA.lt
  have hTl := cell_lt hT2
  simp only at hTl
  have hni : (n : Int) ≤ xs.length := by omega
  have hnc : n ≤ cap := by omega
  have hnt : n ≤ t := by have := endsOut_le xs.length t u; rw [he] at this; simp only at this; omega
  have t5 : Hid ((((t - n : Nat) : Int) != (t : Int) - (n : Int)) = false) := by simp [Hid]; omega
  have hsame : sameB (xs.take n) (xs.take n) = true := by simp [sameB]
  have HSM := Lib.hid hsame
  clear hsame
  have hbw0 : Below w.heap.size w w2 := Chg.below (hb.out.alloc hb.out.size _) (by have := hb.out.size; simp; omega) hcw (fun i hi => by rcases hi with rfl | rfl <;> omega)
  have hsl2 : Sl w2 (.slice a n cap) ((xs.take n).map (.int .i64)) := sl_take (HS.out.below (hbw0.mono (Nat.le_refl _))) hn
  have hA0 : w2.cell? ⟨wn.heap.size, 0, none⟩ = some v := hA.at 0 _ rfl
  have hbw := Lib.hid hbw0
  have hso : Sl w2 v ((xs.take n).map (.int .i64)) := Sl.of_own hown
  have HE := Lib.hid he
  have HBU := Lib.hid hbud2
  clear hbud2
  have HB := Lib.hid (And.intro hb0 hb1)
  have HSL := Lib.hid hsl2
  have HSO := Lib.hid hso
  clear he hb0 hb1 hsl2 hso hA hown hcw hb hT
  have hq : ∀ m : Nat, Calls Try.prog 13 #[v, .slice a n cap] ((w2.alloc (.cells #[.int .i64 n, .int .i64 bits, .int .i64 n, .int .i64 end_] 61)).drewN m) fun e w'' => e = .returned (.bool true) ∧ ∃ k, w'' = (w2.alloc (.cells #[.int .i64 n, .int .i64 bits, .int .i64 n, .int .i64 end_] 61)).drewN k := fun m =>
    Calls.quiet_of (by
      have := same_any v (.slice a n cap) (xs.take n) (xs.take n) ((w2.alloc (.cells #[.int .i64 n, .int .i64 bits, .int .i64 n, .int .i64 end_] 61)).drewN m) ((HSO.out.alloc _).drewN _) ((HSL.out.alloc _).drewN _) (by simp; omega)
      rw [HSM.out] at this
      exact this)
  have HQ := Lib.hid hq
  have hx := fun m => below_drewN' (hbw.out.alloc hbw.out.size (.cells #[.int .i64 n, .int .i64 bits, .int .i64 n, .int .i64 end_] 61)) m
  have hX := Lib.hid hx
  clear hx
  clear hq
  go_wp2_with fail
  refine (ends29 xs.length t u _ h).mono ?_
  rw [HE.out]
  rintro e w' ⟨rfl, rfl⟩
  go_wp2_with fail
  go_quiet ((go_at_call 13; exact HQ.out _))
  go_wp2_with fail
  by_cases hn0 : n = 0
  · have hb0 := HB.out.1 hn0
    have t1 : decide (0 < (n : Int)) = false := by simp; omega
    have t2 : ((n : Int) == 0) = true := by simp; omega
    have t3 : decide (0 < n) = false := by simp; omega
    have t4 : ¬ 0 < n := by omega
    clear hn0
    subst hb0
    have hf := t5.out
    go_quiet (fail)
    go_wp2_with fail
    refine (left_bud ((bud_below HBU.out ((Below.refl _ _).alloc (Nat.le_refl _) _)).keep (Chg.of_below (S := fun _ => False) (below_drewN' (Below.refl _ _) _)) id id id)).mono ?_
    rintro e w' ⟨rfl, rfl⟩
    go_wp2_with fail
    refine (go30_no _ _ _).mono ?_
    rintro e w3 ⟨rfl, hb3⟩
    have hE : Hid (Below w.heap.size w w3) := (hX.out _).trans (hb3.mono (hX.out _).size)
    clear hb3
    go_wp2
    go_ret
    exact ⟨rfl, hE.out.alloc hE.out.size _⟩
  · have t1 : decide (0 < (n : Int)) = true := by simp; omega
    have t2 : ((n : Int) == 0) = false := by simp; omega
    have t3 : decide (0 < n) = true := by simp; omega
    have hx := HB.out.2 (by omega)
    obtain ⟨_, _, he, hcell⟩ := HSL.out
    have hlen : ((xs.take n).map (Value.int IntKind.i64)).length = n := by simp; omega
    rw [hlen] at he hcell
    simp only [Value.slice.injEq] at he
    obtain ⟨rfl, _, rfl⟩ := he
    obtain ⟨b, off, rfl, hc2⟩ := hcell (by omega)
    have hc : w2.cell? ⟨b, off + (n - 1), none⟩ = some (.int .i64 bits) := hc2 (n - 1) _ (by
      rw [List.getElem?_map, List.getElem?_take, if_pos (by omega), hx]; rfl)
    have hbl := cell_lt hc
    simp only at hbl
    have hi1 : ((n : Int) - 1).toNat = n - 1 := by omega
    have hi2 : 0 ≤ (n : Int) - 1 := by omega
    have hi3 : (n : Int) - 1 < xs.length := by omega
    clear hx hc2 hcell hlen hn0
    have hf := t5.out
    go_quiet (fail)
    go_wp2_with fail
    refine (left_bud ((bud_below HBU.out ((Below.refl _ _).alloc (Nat.le_refl _) _)).keep (Chg.of_below (S := fun _ => False) (below_drewN' (Below.refl _ _) _)) id id id)).mono ?_
    rintro e w' ⟨rfl, rfl⟩
    go_wp2_with fail
    refine (go30_no _ _ _).mono ?_
    rintro e w3 ⟨rfl, hb3⟩
    have hE : Hid (Below w.heap.size w w3) := (hX.out _).trans (hb3.mono (hX.out _).size)
    clear hb3
    go_wp2
    go_ret
    exact ⟨rfl, hE.out.alloc hE.out.size _⟩
theorem walk (w : World) (a0 : Option Addr) (len0 cap0 : Nat) (z0 : List Int) (w0 : IsRow .i64 w a0 len0 cap0 z0) (a1 : Int) (w1 : (Lit.int .i64 a1).wf = true) (a2 : Int) (_w2 : (Lit.int .i64 a2).wf = true) :
    Calls Try.prog 9 #[.slice a0 len0 cap0, .int .i64 a1, .int .i64 a2] w fun e w' => e = .returned (.bool true) ∧ Below w.heap.size w w' := by
  have hcap : len0 ≤ cap0 := by
    rcases w0 with ⟨_, rfl, rfl, _⟩ | ⟨_, _, h, _⟩
    · exact Nat.le_refl _
    · exact h
  obtain ⟨xs, rfl, hs, _⟩ := w0.sl
  by_cases h : 60 < xs.length
  · exact walk_long a0 _ cap0 a1 a2 h w
  · by_cases h1 : a1 < 0
    · exact walk_neg a0 cap0 xs a1 a2 w (by omega) hcap h1 hs
    · by_cases h2 : 4096 < a1
      · exact walk_big a0 cap0 xs a1 a2 w (by omega) hcap h2 hs
      · obtain ⟨t, rfl⟩ := Int.eq_ofNat_of_zero_le (by omega : 0 ≤ a1)
        exact walk_bud a0 cap0 xs t a2 w (by omega) hcap (by omega) hs

/-! ### The statement's frame, as the guide's skeleton writes it -/
theorem own : ownKnob Try.prog.godebug = none := by kernel_rfl
theorem laidOut : laidOutB Try.prog = true := by kernel_rfl
set_option linter.unusedVariables false
set_option maxRecDepth 100000 in
theorem lifted (os : Os) (started : os.Started) (H : Type) (enc : TypeId × Value → H) :
    ReturnsInHanded {} Try.checked os 9 .any (Rows.cascadeGoesSpec.pre6 enc Try.prog Try.f9 Rows.cascadeGoesRow.domain false) (Rows.cascadeGoesSpec.post enc Try.prog Try.f9 false true false false) := by
  refine returnsInHanded_of_change (C := Try.checked) own started (by kernel_rfl) Try.func9
    (ChangeSpec.witness6 (enc := enc) (C := Try.checked) false ⟨#[], #[.slice none 0 0, .int .i64 0, .int .i64 0], []⟩ 8 (by kernel_rfl) (by kernel_rfl) (by kernel_rfl) (by kernel_rfl)) ?_
  intro W base args ds gs before hval0 hW hcnd _
  have hval : ∀ (j : Nat) t v, Try.f9.params[j]? = some t → args[j]? = some v → Value.okWide Try.prog W .any base t v := hval0
  have hW' := hW
  obtain ⟨p, q, hA0, hV, rfl, hfz, hnd⟩ := hW
  have hA : DataW.TrodAll enc Try.prog W 0 (fun _ => true) true Try.f9.params.toList args.toList ds p := hA0
  rw [Try.params9] at hA hval
  obtain ⟨v0, vs0, d0, ds0, p0, q0, hargs, rfl, rfl, h0, r0⟩ := trodAll_cons hA
  obtain ⟨v1, vs1, d1, ds1, p1, q1, rfl, rfl, rfl, h1, r1⟩ := trodAll_cons r0
  obtain ⟨v2, vs2, d2, ds2, p2, q2, rfl, rfl, rfl, h2, r2⟩ := trodAll_cons r1
  obtain ⟨rfl, rfl, rfl⟩ := trodAll_nil r2
  obtain rfl : args = #[v0, v1, v2] := by cases args; simp_all
  obtain ⟨rfl, rfl⟩ := trodVars_none hV
  obtain ⟨a0, len0, cap0, rfl⟩ := okWide_slice Try.underlying23 (hval 0 23 v0 rfl rfl)
  have k0 := h0
  have lt0 : ∀ x ∈ p0, x.block < W.heap.size := by obtain ⟨m, hm⟩ := k0; exact DataW.trod_lt m _ _ _ hm
  obtain ⟨z0, w0⟩ : ∃ zs, IsRow .i64 W a0 len0 cap0 zs := by
    obtain ⟨fuel, hf⟩ := h0
    rcases open_ints Try.underlying23 Try.underlying3 (by kernel_rfl) hf with ⟨hcs, _⟩ | ⟨x, l, c, zs, hcs, _, hl, hm, hz, _, hcell, hwz⟩
    · simp [Value.cells] at hcs
      obtain ⟨rfl, rfl, rfl⟩ := hcs
      exact ⟨[], .inl ⟨rfl, rfl, rfl, rfl⟩⟩
    · simp [Value.cells] at hcs
      obtain ⟨rfl, rfl, rfl⟩ := hcs
      exact ⟨zs, .inr ⟨_, rfl, hl, hm, by simpa using hz, hcell, hwz⟩⟩
  obtain ⟨a1, rfl, rfl, rfl, w1⟩ := open_int Try.underlying3 (hval 1 3 v1 rfl rfl) h1
  obtain ⟨a2, rfl, rfl, rfl, w2⟩ := open_int Try.underlying3 (hval 2 3 v2 rfl rfl) h2
  clear hA0 hval0
  refine (walk W a0 len0 cap0 z0 w0 a1 w1 a2 w2).mono fun e W' ⟨he, bel⟩ => ?_
  subst he
  exact ⟨_, rfl, _, _, _, [], _, [], hW', trodAll_mk1 (shut_bool Try.underlying4 _), (trodAll_cons_mk (Below.trod laidOut (by kernel_rfl) (of_decide_eq_true (by kernel_rfl)) k0 bel lt0) (trodAll_cons_mk (shut_int Try.underlying3 w1) (trodAll_cons_mk (shut_int Try.underlying3 w2) trodAll_mk0))), rfl, bel.frame _, fun h => by cases h⟩

theorem over : Rows.cascadeGoesRow.holds Try.pinned (OpenSpec.ofChange Rows.cascadeGoesSpec) :=
  OpenClaim.holds_of_wide 9 Try.f9 rfl rfl rfl rfl rfl rfl rfl ⟨rfl, rfl, rfl, rfl, rfl⟩ rfl rfl rfl rfl rfl (by kernel_rfl) Try.func9 (by kernel_rfl)
    (of_decide_eq_true (by kernel_rfl)) (by unfold Func.isWrapper; first | (rw [if_pos (by decide +kernel)]; kernel_rfl) | (rw [if_neg (by decide +kernel)]; exact ⟨rfl, rfl⟩))
    (fun os started H enc _ => lifted os started H enc)

theorem proved : Rows.CascadeGoesSaid := over
#print axioms proved
end Go.Proofs.Ytpofnljcjoplnaa.cascadeGoes
