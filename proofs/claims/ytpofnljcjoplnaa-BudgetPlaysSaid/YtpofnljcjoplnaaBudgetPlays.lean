/-
  BudgetPlays returns true, whatever its number and its list of calls.
-/
import Derived.Test.YtpofnljcjoplnaaBudgetTwo
import Derived.Deep.RegionWith
import Derived.Deep.DeepCutAuto
import Derived.Deep.SlicePairs
namespace Go.Proofs.Ytpofnljcjoplnaa.budgetPlays
open Go.ChangeShapes Go.WideShapes Go.ChangeAt Go.RowKit
set_option linter.unusedVariables false

/-- The document's budget behind a call: how many are left, whether it is open, and what is told. -/
def doP (most left : Nat) (opn : Bool) (k n : Int) : Nat × Bool × Nat :=
  if k = 0 then (if opn = true ∧ 0 < left then (left - 1, opn, 1) else (left, opn, 0))
  else if k = 1 then (if opn = true ∧ 0 < n then (left - min n.toNat left, opn, min n.toNat left) else (left, opn, 0))
  else if k = 2 then (if left < most then (left + 1, opn, 1) else (left, opn, 0))
  else if k = 3 then (if opn = true then (left, false, 1) else (left, opn, 0))
  else (left, opn, 0)

def DoPost (most : Nat) (r : Nat × Bool × Nat) (w : World) (e : Ending) (w' : World) : Prop :=
  e = .returned (.tuple #[.agg #[.int .i64 most, .int .i64 r.1, .bool r.2.1], .int .i64 r.2.2]) ∧ Below w.heap.size w w'

theorem below3 (w : World) (a b c : Obj) : Below w.heap.size w (((w.alloc a).alloc b).alloc c) := (((Below.refl _ _).alloc (Nat.le_refl _) _).alloc (by simp) _).alloc (by simp; omega) _

set_option maxHeartbeats 1000000 in
theorem do0_t (most left : Nat) (n : Int) (w : World) (hm : most ≤ 4096) (hl : left ≤ most) (h : 0 < left) :
    Calls Try.prog 19 #[.agg #[.int .i64 most, .int .i64 left, .bool true], .agg #[.int .i64 0, .int .i64 n]] w (DoPost most (left - 1, true, 1) w) := by
  have hmi : (most : Int) ≤ 4096 := by omega
  have hli : (left : Int) ≤ 4096 := by omega
  have h2 : (0 : Int) < left := by omega
  have HX := Lib.hid (show ((left - 1 : Nat) : Int) = (left : Int) - 1 by omega)
  go_enter Try.func19, Try.ntmps19
  go_wp2
  refine bodyPost_ret (v := .tuple #[.agg #[.int .i64 most, .int .i64 ((left : Int) - 1), .bool true], .int .i64 1]) (by simp [results, Try.results19, go_sem]) rfl ⟨by rw [HX.out]; rfl, below3 _ _ _ _⟩

set_option maxHeartbeats 1000000 in
theorem do0_e (most left : Nat) (n : Int) (w : World) (hm : most ≤ 4096) (hl : left ≤ most) (h : left = 0) :
    Calls Try.prog 19 #[.agg #[.int .i64 most, .int .i64 left, .bool true], .agg #[.int .i64 0, .int .i64 n]] w (DoPost most (left, true, 0) w) := by
  have hmi : (most : Int) ≤ 4096 := by omega
  have hli : (left : Int) ≤ 4096 := by omega
  subst h
  go_enter Try.func19, Try.ntmps19
  go_wp2
  refine bodyPost_ret (v := .tuple #[.agg #[.int .i64 most, .int .i64 0, .bool true], .int .i64 0]) (by simp [results, Try.results19, go_sem]) rfl ⟨rfl, below3 _ _ _ _⟩

set_option maxHeartbeats 1000000 in
theorem do0_f (most left : Nat) (n : Int) (w : World) (hm : most ≤ 4096) (hl : left ≤ most) :
    Calls Try.prog 19 #[.agg #[.int .i64 most, .int .i64 left, .bool false], .agg #[.int .i64 0, .int .i64 n]] w (DoPost most (left, false, 0) w) := by
  have hmi : (most : Int) ≤ 4096 := by omega
  have hli : (left : Int) ≤ 4096 := by omega
  go_enter Try.func19, Try.ntmps19
  go_wp2
  refine bodyPost_ret (v := .tuple #[.agg #[.int .i64 most, .int .i64 left, .bool false], .int .i64 0]) (by simp [results, Try.results19, go_sem]) rfl ⟨rfl, below3 _ _ _ _⟩

set_option maxHeartbeats 1000000 in
theorem do1_lt (most left : Nat) (n : Int) (w : World) (hm : most ≤ 4096) (hl : left ≤ most) (t : Nat) (hn : n = t) (h0 : 0 < t) (h : t ≤ left) :
    Calls Try.prog 19 #[.agg #[.int .i64 most, .int .i64 left, .bool true], .agg #[.int .i64 1, .int .i64 n]] w (DoPost most (left - t, true, t) w) := by
  have hmi : (most : Int) ≤ 4096 := by omega
  have hli : (left : Int) ≤ 4096 := by omega
  subst hn
  have h2 : (t : Int) ≤ left := by omega
  have h3 : (0 : Int) < t := by omega
  have HX := Lib.hid (show ((left - t : Nat) : Int) = (left : Int) - t by omega)
  go_enter Try.func19, Try.ntmps19
  go_wp2
  refine bodyPost_ret (v := .tuple #[.agg #[.int .i64 most, .int .i64 ((left : Int) - t), .bool true], .int .i64 t]) (by simp [results, Try.results19, go_sem]) rfl ⟨by rw [HX.out], below3 _ _ _ _⟩

set_option maxHeartbeats 1000000 in
theorem do1_gt (most left : Nat) (n : Int) (w : World) (hm : most ≤ 4096) (hl : left ≤ most) (h0 : 0 < n) (h : left < n) :
    Calls Try.prog 19 #[.agg #[.int .i64 most, .int .i64 left, .bool true], .agg #[.int .i64 1, .int .i64 n]] w (DoPost most (left - left, true, left) w) := by
  have hmi : (most : Int) ≤ 4096 := by omega
  have hli : (left : Int) ≤ 4096 := by omega
  have HX := Lib.hid (show ((left - left : Nat) : Int) = 0 by omega)
  go_enter Try.func19, Try.ntmps19
  go_wp2
  refine bodyPost_ret (v := .tuple #[.agg #[.int .i64 most, .int .i64 0, .bool true], .int .i64 left]) (by simp [results, Try.results19, go_sem]) rfl ⟨by rw [HX.out], below3 _ _ _ _⟩

set_option maxHeartbeats 1000000 in
theorem do1_no (most left : Nat) (n : Int) (w : World) (hm : most ≤ 4096) (hl : left ≤ most) (h0 : n ≤ 0) :
    Calls Try.prog 19 #[.agg #[.int .i64 most, .int .i64 left, .bool true], .agg #[.int .i64 1, .int .i64 n]] w (DoPost most (left, true, 0) w) := by
  have hmi : (most : Int) ≤ 4096 := by omega
  have hli : (left : Int) ≤ 4096 := by omega
  go_enter Try.func19, Try.ntmps19
  go_wp2
  refine bodyPost_ret (v := .tuple #[.agg #[.int .i64 most, .int .i64 left, .bool true], .int .i64 0]) (by simp [results, Try.results19, go_sem]) rfl ⟨rfl, below3 _ _ _ _⟩

set_option maxHeartbeats 1000000 in
theorem do1_f (most left : Nat) (n : Int) (w : World) (hm : most ≤ 4096) (hl : left ≤ most) :
    Calls Try.prog 19 #[.agg #[.int .i64 most, .int .i64 left, .bool false], .agg #[.int .i64 1, .int .i64 n]] w (DoPost most (left, false, 0) w) := by
  have hmi : (most : Int) ≤ 4096 := by omega
  have hli : (left : Int) ≤ 4096 := by omega
  go_enter Try.func19, Try.ntmps19
  go_wp2
  refine bodyPost_ret (v := .tuple #[.agg #[.int .i64 most, .int .i64 left, .bool false], .int .i64 0]) (by simp [results, Try.results19, go_sem]) rfl ⟨rfl, below3 _ _ _ _⟩

set_option maxHeartbeats 1000000 in
theorem do2_lt_true (most left : Nat) (n : Int) (w : World) (hm : most ≤ 4096) (hl : left ≤ most) (h : left < most) :
    Calls Try.prog 19 #[.agg #[.int .i64 most, .int .i64 left, .bool true], .agg #[.int .i64 2, .int .i64 n]] w (DoPost most (left + 1, true, 1) w) := by
  have hmi : (most : Int) ≤ 4096 := by omega
  have hli : (left : Int) ≤ 4096 := by omega
  have h2 : (left : Int) < most := by omega
  have HX := Lib.hid (show ((left + 1 : Nat) : Int) = (left : Int) + 1 by omega)
  go_enter Try.func19, Try.ntmps19
  go_wp2
  refine bodyPost_ret (v := .tuple #[.agg #[.int .i64 most, .int .i64 ((left : Int) + 1), .bool true], .int .i64 1]) (by simp [results, Try.results19, go_sem]) rfl ⟨by rw [HX.out]; rfl, below3 _ _ _ _⟩

set_option maxHeartbeats 1000000 in
theorem do2_no_true (most left : Nat) (n : Int) (w : World) (hm : most ≤ 4096) (hl : left ≤ most) (h : most = left) :
    Calls Try.prog 19 #[.agg #[.int .i64 most, .int .i64 left, .bool true], .agg #[.int .i64 2, .int .i64 n]] w (DoPost most (left, true, 0) w) := by
  have hmi : (most : Int) ≤ 4096 := by omega
  have hli : (left : Int) ≤ 4096 := by omega
  subst h
  have h2 : ¬ (most : Int) < most := by omega
  go_enter Try.func19, Try.ntmps19
  go_wp2
  refine bodyPost_ret (v := .tuple #[.agg #[.int .i64 most, .int .i64 most, .bool true], .int .i64 0]) (by simp [results, Try.results19, go_sem]) rfl ⟨rfl, below3 _ _ _ _⟩

set_option maxHeartbeats 1000000 in
theorem do2_lt_false (most left : Nat) (n : Int) (w : World) (hm : most ≤ 4096) (hl : left ≤ most) (h : left < most) :
    Calls Try.prog 19 #[.agg #[.int .i64 most, .int .i64 left, .bool false], .agg #[.int .i64 2, .int .i64 n]] w (DoPost most (left + 1, false, 1) w) := by
  have hmi : (most : Int) ≤ 4096 := by omega
  have hli : (left : Int) ≤ 4096 := by omega
  have h2 : (left : Int) < most := by omega
  have HX := Lib.hid (show ((left + 1 : Nat) : Int) = (left : Int) + 1 by omega)
  go_enter Try.func19, Try.ntmps19
  go_wp2
  refine bodyPost_ret (v := .tuple #[.agg #[.int .i64 most, .int .i64 ((left : Int) + 1), .bool false], .int .i64 1]) (by simp [results, Try.results19, go_sem]) rfl ⟨by rw [HX.out]; rfl, below3 _ _ _ _⟩

set_option maxHeartbeats 1000000 in
theorem do2_no_false (most left : Nat) (n : Int) (w : World) (hm : most ≤ 4096) (hl : left ≤ most) (h : most = left) :
    Calls Try.prog 19 #[.agg #[.int .i64 most, .int .i64 left, .bool false], .agg #[.int .i64 2, .int .i64 n]] w (DoPost most (left, false, 0) w) := by
  have hmi : (most : Int) ≤ 4096 := by omega
  have hli : (left : Int) ≤ 4096 := by omega
  subst h
  have h2 : ¬ (most : Int) < most := by omega
  go_enter Try.func19, Try.ntmps19
  go_wp2
  refine bodyPost_ret (v := .tuple #[.agg #[.int .i64 most, .int .i64 most, .bool false], .int .i64 0]) (by simp [results, Try.results19, go_sem]) rfl ⟨rfl, below3 _ _ _ _⟩

set_option maxHeartbeats 1000000 in
theorem do3_t (most left : Nat) (n : Int) (w : World) (hm : most ≤ 4096) (hl : left ≤ most) :
    Calls Try.prog 19 #[.agg #[.int .i64 most, .int .i64 left, .bool true], .agg #[.int .i64 3, .int .i64 n]] w (DoPost most (left, false, 1) w) := by
  have hmi : (most : Int) ≤ 4096 := by omega
  have hli : (left : Int) ≤ 4096 := by omega
  go_enter Try.func19, Try.ntmps19
  go_wp2
  refine bodyPost_ret (v := .tuple #[.agg #[.int .i64 most, .int .i64 left, .bool false], .int .i64 1]) (by simp [results, Try.results19, go_sem]) rfl ⟨rfl, below3 _ _ _ _⟩

set_option maxHeartbeats 1000000 in
theorem do3_f (most left : Nat) (n : Int) (w : World) (hm : most ≤ 4096) (hl : left ≤ most) :
    Calls Try.prog 19 #[.agg #[.int .i64 most, .int .i64 left, .bool false], .agg #[.int .i64 3, .int .i64 n]] w (DoPost most (left, false, 0) w) := by
  have hmi : (most : Int) ≤ 4096 := by omega
  have hli : (left : Int) ≤ 4096 := by omega
  go_enter Try.func19, Try.ntmps19
  go_wp2
  refine bodyPost_ret (v := .tuple #[.agg #[.int .i64 most, .int .i64 left, .bool false], .int .i64 0]) (by simp [results, Try.results19, go_sem]) rfl ⟨rfl, below3 _ _ _ _⟩

set_option maxHeartbeats 1000000 in
theorem do4_true (most left : Nat) (n : Int) (w : World) (hm : most ≤ 4096) (hl : left ≤ most) (k : Int) (h0 : (k == 0) = false) (h1 : (k == 1) = false) (h2 : (k == 2) = false) (h3 : (k == 3) = false) :
    Calls Try.prog 19 #[.agg #[.int .i64 most, .int .i64 left, .bool true], .agg #[.int .i64 k, .int .i64 n]] w (DoPost most (left, true, 0) w) := by
  have hmi : (most : Int) ≤ 4096 := by omega
  have hli : (left : Int) ≤ 4096 := by omega
  go_enter Try.func19, Try.ntmps19
  go_wp2
  refine bodyPost_ret (v := .tuple #[.agg #[.int .i64 most, .int .i64 left, .bool true], .int .i64 0]) (by simp [results, Try.results19, go_sem]) rfl ⟨rfl, below3 _ _ _ _⟩

set_option maxHeartbeats 1000000 in
theorem do4_false (most left : Nat) (n : Int) (w : World) (hm : most ≤ 4096) (hl : left ≤ most) (k : Int) (h0 : (k == 0) = false) (h1 : (k == 1) = false) (h2 : (k == 2) = false) (h3 : (k == 3) = false) :
    Calls Try.prog 19 #[.agg #[.int .i64 most, .int .i64 left, .bool false], .agg #[.int .i64 k, .int .i64 n]] w (DoPost most (left, false, 0) w) := by
  have hmi : (most : Int) ≤ 4096 := by omega
  have hli : (left : Int) ≤ 4096 := by omega
  go_enter Try.func19, Try.ntmps19
  go_wp2
  refine bodyPost_ret (v := .tuple #[.agg #[.int .i64 most, .int .i64 left, .bool false], .int .i64 0]) (by simp [results, Try.results19, go_sem]) rfl ⟨rfl, below3 _ _ _ _⟩

theorem do19 (most left : Nat) (opn : Bool) (k n : Int) (w : World) (hm : most ≤ 4096) (hl : left ≤ most) :
    Calls Try.prog 19 #[.agg #[.int .i64 most, .int .i64 left, .bool opn], .agg #[.int .i64 k, .int .i64 n]] w (DoPost most (doP most left opn k n) w) := by
  unfold doP
  by_cases h0 : k = 0
  · subst h0
    rw [if_pos rfl]
    cases opn with
    | true =>
      by_cases h : 0 < left
      · rw [if_pos ⟨rfl, h⟩]; exact do0_t most left n w hm hl h
      · rw [if_neg (fun g => h g.2)]; exact do0_e most left n w hm hl (by omega)
    | false => rw [if_neg (fun g => by cases g.1)]; exact do0_f most left n w hm hl
  rw [if_neg h0]
  by_cases h1 : k = 1
  · subst h1
    rw [if_pos rfl]
    cases opn with
    | true =>
      by_cases h : 0 < n
      · rw [if_pos ⟨rfl, h⟩]
        by_cases g : left < n
        · rw [show min n.toNat left = left by omega]; exact do1_gt most left n w hm hl h g
        · obtain ⟨t, rfl⟩ := Int.eq_ofNat_of_zero_le (show 0 ≤ n by omega)
          rw [show min (t : Int).toNat left = t by omega]; exact do1_lt most left t w hm hl t rfl (by omega) (by omega)
      · rw [if_neg (fun g => h g.2)]; exact do1_no most left n w hm hl (by omega)
    | false => rw [if_neg (fun g => by cases g.1)]; exact do1_f most left n w hm hl
  rw [if_neg h1]
  by_cases h2 : k = 2
  · subst h2
    rw [if_pos rfl]
    by_cases h : left < most
    · rw [if_pos h]; cases opn; exact do2_lt_false most left n w hm hl h; exact do2_lt_true most left n w hm hl h
    · rw [if_neg h]; cases opn; exact do2_no_false most left n w hm hl (by omega); exact do2_no_true most left n w hm hl (by omega)
  rw [if_neg h2]
  by_cases h3 : k = 3
  · subst h3
    rw [if_pos rfl]
    cases opn with
    | true => rw [if_pos rfl]; exact do3_t most left n w hm hl
    | false => rw [if_neg (by decide)]; exact do3_f most left n w hm hl
  rw [if_neg h3]
  cases opn
  · exact do4_false most left n w hm hl k (by simp [h0]) (by simp [h1]) (by simp [h2]) (by simp [h3])
  · exact do4_true most left n w hm hl k (by simp [h0]) (by simp [h1]) (by simp [h2]) (by simp [h3])

def Blk (w : World) (g : Nat) (t : TypeId) (cs : Array Value) : Prop := w.heap[g]? = some (.cells cs t (0, 0))
theorem Blk.at {w : World} {g : Nat} {t : TypeId} {cs : Array Value} (h : Blk w g t cs) (i : Nat) (u : Value) (hu : cs[i]? = some u) : w.cell? ⟨g, i, none⟩ = some u := (cell_of_row w g i cs t (0, 0) h).trans hu
theorem Blk.frozen {w : World} {g : Nat} {t : TypeId} {cs : Array Value} (h : Blk w g t cs) (i : Nat) : w.frozen? ⟨g, i, none⟩ = false := by
  simp only [Blk] at h; simp [World.frozen?, h]
theorem Blk.set {w : World} {g : Nat} {t : TypeId} {cs : Array Value} (h : Blk w g t cs) (i : Nat) (u : Value) : Blk (w.setCell ⟨g, i, none⟩ u) g t (cs.setIfInBounds i u) := by
  simp only [Blk] at h ⊢; simp [World.setCell, Array.getElem?_modify, h]
theorem chg_setCell {w w' : World} {S : Nat → Prop} (h : Chg S w w') {p : Addr} (hp : S p.block ∨ w.heap.size ≤ p.block) (u : Value) : Chg S w (w'.setCell p u) :=
  ⟨h.os, h.tape, h.output, by simpa [World.setCell] using h.size, fun k hk hn => (Below.heap_setCell w' p u k (fun e => by subst e; rcases hp with hp | hp; exact hn hp; omega)).trans (h.block k hk hn)⟩

theorem walk_long (m : Int) (a : Option Addr) (len cap : Nat) (h : 200 < len) (w : World) :
    Calls Try.prog 5 #[.int .i64 m, .slice a len cap] w fun e w' => e = .returned (.bool true) ∧ Below w.heap.size w w' := by
  go_enter Try.func5, Try.ntmps5
  go_wp2_with fail
  refine (alive17 _).mono ?_
  rintro e w1 ⟨rfl, hw1⟩
  go_wp2
  go_ret
  exact ⟨rfl, hw1⟩

theorem walk_lo (m : Int) (a : Option Addr) (len cap : Nat) (h : len ≤ 200) (hm : m < 0) (w : World) :
    Calls Try.prog 5 #[.int .i64 m, .slice a len cap] w fun e w' => e = .returned (.bool true) ∧ Below w.heap.size w w' := by
  have hli : (len : Int) ≤ 200 := by omega
  go_enter Try.func5, Try.ntmps5
  go_wp2_with fail
  refine (alive17 _).mono ?_
  rintro e w1 ⟨rfl, hw1⟩
  go_wp2_with fail
  refine (new_no m _ (.inl hm)).mono ?_
  rintro e w' ⟨rfl, rfl⟩
  go_wp2
  go_ret
  exact ⟨rfl, hw1⟩

theorem walk_hi (m : Int) (a : Option Addr) (len cap : Nat) (h : len ≤ 200) (hm : 4096 < m) (w : World) :
    Calls Try.prog 5 #[.int .i64 m, .slice a len cap] w fun e w' => e = .returned (.bool true) ∧ Below w.heap.size w w' := by
  have hli : (len : Int) ≤ 200 := by omega
  have hm0 : ¬ m < 0 := by omega
  go_enter Try.func5, Try.ntmps5
  go_wp2_with fail
  refine (alive17 _).mono ?_
  rintro e w1 ⟨rfl, hw1⟩
  go_wp2_with fail
  refine (new_no m _ (.inr hm)).mono ?_
  rintro e w' ⟨rfl, rfl⟩
  go_wp2
  go_ret
  exact ⟨rfl, hw1⟩

/-- The cells of calls. -/
def Acts (w : World) (a : Option Addr) (len : Nat) : Prop := 0 < len → ∃ b off, a = some ⟨b, off, none⟩ ∧ ∀ i, i < len → ∃ kd n, w.cell? ⟨b, off + i * 2, none⟩ = some (.int .i64 kd) ∧ w.cell? ⟨b, off + i * 2 + 1, none⟩ = some (.int .i64 n)

structure PlayInv (B C D M most : Nat) (w wr : World) (left : Nat) (opn : Bool) : Prop where
  bud : Bud wr B C D most left opn
  m : Blk wr M 43 #[.int .i64 most, .int .i64 left, .bool opn]
  b : Below w.heap.size w wr

/-- Behind the document's call, ahead of the budget's own. -/
structure PlayMid (B C D M most : Nat) (w wr : World) (left : Nat) (opn : Bool) (r : Nat × Bool × Nat) : Prop where
  bud : Bud wr B C D most left opn
  m : Blk wr M 43 #[.int .i64 most, .int .i64 r.1, .bool r.2.1]
  b : Below w.heap.size w wr
theorem play_mid {B C D M most left : Nat} {w wr w3 : World} {opn : Bool} (r : Nat × Bool × Nat) (h : PlayInv B C D M most w wr left opn) (hb : Below wr.heap.size wr w3) (hM : w.heap.size ≤ M) (hMB : M ≠ B) (hMC : M ≠ C) (hMD : M ≠ D) :
    PlayMid B C D M most w (((w3.setCell ⟨M, 0, none⟩ (.int .i64 most)).setCell ⟨M, 1, none⟩ (.int .i64 r.1)).setCell ⟨M, 2, none⟩ (.bool r.2.1)) left opn r := by
  have hm3 : Blk w3 M 43 _ := (hb.block M (heap_lt h.m)).trans h.m
  have h0 : Chg (· = M) w3 w3 := Chg.refl _ _
  have hc := chg_setCell (chg_setCell (chg_setCell h0 (p := ⟨M, 0, none⟩) (.inl rfl) (.int .i64 most)) (p := ⟨M, 1, none⟩) (.inl rfl) (.int .i64 r.1)) (p := ⟨M, 2, none⟩) (.inl rfl) (.bool r.2.1)
  have hbw : Below w.heap.size w w3 := h.b.trans (hb.mono h.b.size)
  exact ⟨(h.bud.below hb).keep hc (fun e => hMB e.symm) (fun e => hMC e.symm) (fun e => hMD e.symm), ((hm3.set 0 _).set 1 _).set 2 _, Chg.below hbw hbw.size hc (fun i hi => by omega)⟩

theorem doP_cases (most left : Nat) (opn : Bool) (k n : Int) :
    (k = 0 ∧ opn = true ∧ 0 < left ∧ doP most left opn k n = (left - 1, true, 1)) ∨ (k = 0 ∧ opn = true ∧ left = 0 ∧ doP most left opn k n = (left, true, 0)) ∨ (k = 0 ∧ opn = false ∧ doP most left opn k n = (left, false, 0)) ∨
    (k = 1 ∧ opn = true ∧ doP most left opn k n = (left - taken n left, true, taken n left)) ∨ (k = 1 ∧ opn = false ∧ doP most left opn k n = (left, false, 0)) ∨
    (k = 2 ∧ left < most ∧ doP most left opn k n = (left + 1, opn, 1)) ∨ (k = 2 ∧ ¬ left < most ∧ doP most left opn k n = (left, opn, 0)) ∨
    (k = 3 ∧ opn = true ∧ doP most left opn k n = (left, false, 1)) ∨ (k = 3 ∧ opn = false ∧ doP most left opn k n = (left, false, 0)) ∨
    (k ≠ 0 ∧ k ≠ 1 ∧ k ≠ 2 ∧ k ≠ 3 ∧ doP most left opn k n = (left, opn, 0)) := by
  by_cases h0 : k = 0
  · subst h0
    cases opn
    · right; right; left; simp [doP]
    · by_cases hl : 0 < left
      · left; simp [doP, hl]
      · right; left; simp [doP]; omega
  by_cases h1 : k = 1
  · subst h1
    cases opn
    · right; right; right; right; left; simp [doP]
    · right; right; right; left
      refine ⟨rfl, rfl, ?_⟩
      by_cases hn : 0 < n
      · simp [doP, hn, taken]
      · have : n.toNat = 0 := by omega
        simp [doP, hn, taken, this]
  by_cases h2 : k = 2
  · subst h2
    by_cases hl : left < most
    · right; right; right; right; right; left; simp [doP, hl]
    · right; right; right; right; right; right; left; simp [doP, hl]
  by_cases h3 : k = 3
  · subst h3
    cases opn
    · right; right; right; right; right; right; right; right; left; simp [doP]
    · right; right; right; right; right; right; right; left; simp [doP]
  right; right; right; right; right; right; right; right; right
  simp [doP, h0, h1, h2, h3]

theorem quiet_same {P : Program} {f : FuncId} {args : Array Value} {w : World} {m : Nat} {v : Value} (h : Calls P f args (w.drewN m) fun e w' => e = .returned v ∧ w.drewN m = w') : Calls P f args (w.drewN m) fun e w'' => e = .returned v ∧ ∃ k, w'' = w.drewN k :=
  h.mono fun _ _ ⟨he, hw⟩ => ⟨he, m, hw.symm⟩
theorem bud_drewN {w : World} {B C D most left : Nat} {opn : Bool} (h : Bud w B C D most left opn) (m : Nat) : Bud (w.drewN m) B C D most left opn := ⟨h.hB, h.hC, h.hD, h.ne, h.le⟩
theorem play_next {B C D M most left l' : Nat} {w wr w4 : World} {opn o' : Bool} {S : Nat → Prop} {r : Nat × Bool × Nat} {x : Nat} (h : PlayMid B C D M most w wr left opn r) (hr : r = (l', o', x)) (hb : Bud w4 B C D most l' o') (hc : Chg S wr w4) (hM : ¬ S M) (hS : ∀ i, S i → w.heap.size ≤ i) :
    PlayInv B C D M most w w4 l' o' := by
  subst hr
  exact ⟨hb, (hc.block M (heap_lt h.m) hM).trans h.m, Chg.below h.b h.b.size hc hS⟩
theorem play_drewN {B C D M most left : Nat} {w wr : World} {opn : Bool} (h : PlayInv B C D M most w wr left opn) (m : Nat) : PlayInv B C D M most w (wr.drewN m) left opn :=
  ⟨bud_drewN h.bud m, h.m, below_drewN' h.b m⟩

set_option maxHeartbeats 4000000 in
theorem walk_in (most : Nat) (hm : most ≤ 4096) (a : Option Addr) (len cap : Nat) (h : len ≤ 200) (w : World) (hacts : Acts w a len) :
    Calls Try.prog 5 #[.int .i64 most, .slice a len cap] w fun e w' => e = .returned (.bool true) ∧ Below w.heap.size w w' := by
  have hli : (len : Int) ≤ 200 := by omega
  have hmi : (most : Int) ≤ 4096 := by omega
  have hm0 : ¬ (most : Int) < 0 := by omega
  have HA := Lib.hid hacts
  clear hacts
  go_enter Try.func5, Try.ntmps5
  go_wp2_with fail
  refine (alive17 _).mono ?_
  rintro e w1 ⟨rfl, hw1⟩
  go_wp2_with fail
  refine (new_yes most _ hm).mono ?_
  rintro e w2 ⟨B, C, D, rfl, hb, g1, g2, g3, hw2⟩
  have hz1 := hw1.size
  have hz2 := hw2.size
  have hBl := hb.ltB
  have hCl := hb.ltC
  have hDl := hb.ltD
  have hBw := below_then hw1 hw2
  have hI : Hid (PlayInv B C D w2.heap.size most w (w2.alloc (.cells #[.int .i64 most, .int .i64 most, .bool true] 43)) most true) :=
    ⟨hb.below ((Below.refl _ _).alloc (Nat.le_refl _) _), heap_alloc_new w2 _, hBw.alloc (by omega) _⟩
  have hMw : w.heap.size ≤ w2.heap.size := by omega
  clear hb hw1 hw2 hBw
  go_wp2
  go_loopw [8] (fun i wr => ∃ (k left : Nat) (opn : Bool), i = .int .i64 k ∧ k ≤ len ∧ left ≤ most ∧ Hid (PlayInv B C D w2.heap.size most w wr left opn)) (fun i _ => len - (intOf i).toNat)
  case atStart => exact ⟨0, most, true, rfl, Nat.zero_le _, Nat.le_refl _, hI⟩
  case round =>
    obtain ⟨k, left, opn, rfl, hk, hl, hi⟩ := hrel
    by_cases hlt : k < len
    · have hki : (k : Int) < len := by omega
      obtain ⟨b, off, rfl, hcell⟩ := HA.out (by omega)
      obtain ⟨kd, n, ck0, ck1⟩ := hcell k hlt
      have ck := cell_below hi.out.b (Nat.le_refl _) ck0
      have cn := cell_below hi.out.b (Nat.le_refl _) ck1
      have K0 := Lib.hid ck0
      have K1 := Lib.hid ck1
      clear ck0 ck1 hcell HA
      have m0 := hi.out.m.at 0 _ rfl
      have m1 := hi.out.m.at 1 _ rfl
      have m2 := hi.out.m.at 2 _ rfl
      have f0 := hi.out.m.frozen 0
      have f1 := hi.out.m.frozen 1
      have f2 := hi.out.m.frozen 2
      have hMl : w2.heap.size < wr.heap.size := cell_lt m0
      have hmid := fun (w3 : World) (hb3 : Below wr.heap.size wr w3) => play_mid (doP most left opn kd n) hi.out hb3 hMw (by omega) (by omega) (by omega)
      have HM := Lib.hid hmid
      clear hmid
      go_upto_region 15 with (fail)
      go_cut [10] (fun s10 wx => s10 = .int .i64 (doP most left opn kd n).2.2 ∧ Hid (PlayMid B C D w2.heap.size most w wx left opn (doP most left opn kd n)))
      case first =>
        go_region_with (go_at_call 19; refine (do19 most left opn kd n _ hm hl).mono ?_; rintro e w3 ⟨rfl, hb3⟩; have q0 := (hb3.cell (p := ⟨w2.heap.size, 0, none⟩) hMl).trans m0; have q1 := (hb3.cell (p := ⟨w2.heap.size, 1, none⟩) hMl).trans m1; have q2 := (hb3.cell (p := ⟨w2.heap.size, 2, none⟩) hMl).trans m2; have p0 := (hb3.frozen (p := ⟨w2.heap.size, 0, none⟩) hMl).trans f0; have p1 := (hb3.frozen (p := ⟨w2.heap.size, 1, none⟩) hMl).trans f1; have p2 := (hb3.frozen (p := ⟨w2.heap.size, 2, none⟩) hMl).trans f2; have HQ := Lib.hid (HM.out w3 ⟨hb3.os, hb3.tape, hb3.output, hb3.size, hb3.block⟩))
        all_goals (go_wp2_with fail; go_meet; exact ⟨rfl, HQ⟩)
      case rest =>
        obtain ⟨rfl, hmid⟩ := hcut
        have ck2 := cell_below hmid.out.b (Nat.le_refl _) K0.out
        have cn2 := cell_below hmid.out.b (Nat.le_refl _) K1.out
        clear ck cn m0 m1 m2 f0 f1 f2 HM hMl hi K0 K1
        have hli2 : (left : Int) ≤ 4096 := by omega
        rcases doP_cases most left opn kd n with ⟨rfl, rfl, hl0, hr⟩ | ⟨rfl, rfl, rfl, hr⟩ | ⟨rfl, rfl, hr⟩ | ⟨rfl, rfl, hr⟩ | ⟨rfl, rfl, hr⟩ | ⟨rfl, hl0, hr⟩ | ⟨rfl, hl0, hr⟩ | ⟨rfl, rfl, hr⟩ | ⟨rfl, rfl, hr⟩ | ⟨k0, k1, k2, k3, hr⟩
        all_goals (have HR := Lib.hid hr; clear hr; have hr := HR; clear HR)
        · rw [hr.out] at hmid ⊢
          go_wp2_with fail
          refine (take_bud hmid.out.bud).mono ?_
          rw [show decide (0 < left) = true by simp [hl0]]
          rintro e w4 ⟨rfl, hb4, hc4, _⟩
          have hn : Hid (PlayInv B C D w2.heap.size most w w4 (left - 1) true) := play_next hmid.out rfl hb4 hc4 (by omega) (fun i hi => by omega)
          have n1 := hn.out.m.at 1 _ rfl
          have n2 := hn.out.m.at 2 _ rfl
          have HL := Lib.hid (fun m => quiet_same (left_bud (bud_drewN hn.out.bud m)))
          have HO := Lib.hid (fun m => quiet_same (open_bud (bud_drewN hn.out.bud m)))
          go_wp2_with fail
          go_quiet ((first | (go_at_call 24; exact HL.out _) | (go_at_call 25; exact HO.out _)))
          go_wp2
          go_roundw
          case rel => exact ⟨k + 1, left - 1, true, by go_num, by omega, by omega, play_drewN hn.out _⟩
          case measure => simp [intOf]; omega
        · rw [hr.out] at hmid ⊢
          go_wp2_with fail
          refine (take_bud hmid.out.bud).mono ?_
          rw [show decide (0 < 0) = false by simp]
          rintro e w4 ⟨rfl, hb4, hc4, _⟩
          have hn : Hid (PlayInv B C D w2.heap.size most w w4 (0) true) := play_next hmid.out rfl hb4 hc4 (by omega) (fun i hi => by omega)
          have n1 := hn.out.m.at 1 _ rfl
          have n2 := hn.out.m.at 2 _ rfl
          have HL := Lib.hid (fun m => quiet_same (left_bud (bud_drewN hn.out.bud m)))
          have HO := Lib.hid (fun m => quiet_same (open_bud (bud_drewN hn.out.bud m)))
          go_wp2_with fail
          go_quiet ((first | (go_at_call 24; exact HL.out _) | (go_at_call 25; exact HO.out _)))
          go_wp2
          go_roundw
          case rel => exact ⟨k + 1, 0, true, by go_num, by omega, by omega, play_drewN hn.out _⟩
          case measure => simp [intOf]; omega
        · rw [hr.out] at hmid ⊢
          go_wp2_with fail
          refine (take_shut hmid.out.bud).mono ?_
          rintro e w' ⟨rfl, rfl⟩
          have hn : Hid (PlayInv B C D w2.heap.size most w wc (left) false) := play_next hmid.out rfl hmid.out.bud (Chg.refl (fun _ => False) _) id (fun i hi => hi.elim)
          have n1 := hn.out.m.at 1 _ rfl
          have n2 := hn.out.m.at 2 _ rfl
          have HL := Lib.hid (fun m => quiet_same (left_bud (bud_drewN hn.out.bud m)))
          have HO := Lib.hid (fun m => quiet_same (open_bud (bud_drewN hn.out.bud m)))
          go_wp2_with fail
          go_quiet ((first | (go_at_call 24; exact HL.out _) | (go_at_call 25; exact HO.out _)))
          go_wp2
          go_roundw
          case rel => exact ⟨k + 1, left, false, by go_num, by omega, hl, play_drewN hn.out _⟩
          case measure => simp [intOf]; omega
        · rw [hr.out] at hmid ⊢
          have htk : (taken n left : Int) ≤ 4096 := by unfold taken; omega
          go_wp2_with fail
          refine (takeAll_open n hmid.out.bud hm).mono ?_
          rintro e w4 ⟨rfl, hb4, hc4⟩
          have hn : Hid (PlayInv B C D w2.heap.size most w w4 (left - taken n left) true) := play_next hmid.out rfl hb4 hc4 (by omega) (fun i hi => by omega)
          have n1 := hn.out.m.at 1 _ rfl
          have n2 := hn.out.m.at 2 _ rfl
          have HL := Lib.hid (fun m => quiet_same (left_bud (bud_drewN hn.out.bud m)))
          have HO := Lib.hid (fun m => quiet_same (open_bud (bud_drewN hn.out.bud m)))
          go_wp2_with fail
          go_quiet ((first | (go_at_call 24; exact HL.out _) | (go_at_call 25; exact HO.out _)))
          go_wp2
          go_roundw
          case rel => exact ⟨k + 1, left - taken n left, true, by go_num, by omega, by omega, play_drewN hn.out _⟩
          case measure => simp [intOf]; omega
        · rw [hr.out] at hmid ⊢
          go_wp2_with fail
          refine (takeAll_shut n hmid.out.bud).mono ?_
          rintro e w' ⟨rfl, rfl⟩
          have hn : Hid (PlayInv B C D w2.heap.size most w wc (left) false) := play_next hmid.out rfl hmid.out.bud (Chg.refl (fun _ => False) _) id (fun i hi => hi.elim)
          have n1 := hn.out.m.at 1 _ rfl
          have n2 := hn.out.m.at 2 _ rfl
          have HL := Lib.hid (fun m => quiet_same (left_bud (bud_drewN hn.out.bud m)))
          have HO := Lib.hid (fun m => quiet_same (open_bud (bud_drewN hn.out.bud m)))
          go_wp2_with fail
          go_quiet ((first | (go_at_call 24; exact HL.out _) | (go_at_call 25; exact HO.out _)))
          go_wp2
          go_roundw
          case rel => exact ⟨k + 1, left, false, by go_num, by omega, hl, play_drewN hn.out _⟩
          case measure => simp [intOf]; omega
        · rw [hr.out] at hmid ⊢
          go_wp2_with fail
          refine (give_room hmid.out.bud hl0).mono ?_
          rintro e w4 ⟨rfl, hb4, hc4⟩
          have hn : Hid (PlayInv B C D w2.heap.size most w w4 (left + 1) opn) := play_next hmid.out rfl hb4 hc4 (by omega) (fun i hi => by omega)
          have n1 := hn.out.m.at 1 _ rfl
          have n2 := hn.out.m.at 2 _ rfl
          have HL := Lib.hid (fun m => quiet_same (left_bud (bud_drewN hn.out.bud m)))
          have HO := Lib.hid (fun m => quiet_same (open_bud (bud_drewN hn.out.bud m)))
          go_wp2_with fail
          go_quiet ((first | (go_at_call 24; exact HL.out _) | (go_at_call 25; exact HO.out _)))
          go_wp2
          go_roundw
          case rel => exact ⟨k + 1, left + 1, opn, by go_num, by omega, by omega, play_drewN hn.out _⟩
          case measure => simp [intOf]; omega
        · rw [hr.out] at hmid ⊢
          go_wp2_with fail
          refine (give_full hmid.out.bud hl0).mono ?_
          rintro e w' ⟨rfl, rfl⟩
          have hn : Hid (PlayInv B C D w2.heap.size most w wc (left) opn) := play_next hmid.out rfl hmid.out.bud (Chg.refl (fun _ => False) _) id (fun i hi => hi.elim)
          have n1 := hn.out.m.at 1 _ rfl
          have n2 := hn.out.m.at 2 _ rfl
          have HL := Lib.hid (fun m => quiet_same (left_bud (bud_drewN hn.out.bud m)))
          have HO := Lib.hid (fun m => quiet_same (open_bud (bud_drewN hn.out.bud m)))
          go_wp2_with fail
          go_quiet ((first | (go_at_call 24; exact HL.out _) | (go_at_call 25; exact HO.out _)))
          go_wp2
          go_roundw
          case rel => exact ⟨k + 1, left, opn, by go_num, by omega, hl, play_drewN hn.out _⟩
          case measure => simp [intOf]; omega
        · rw [hr.out] at hmid ⊢
          go_wp2_with fail
          refine (shut_bud hmid.out.bud).mono ?_
          rintro e w4 ⟨rfl, hb4, hc4⟩
          have hn : Hid (PlayInv B C D w2.heap.size most w w4 (left) false) := play_next hmid.out rfl hb4 hc4 (by omega) (fun i hi => by omega)
          have n1 := hn.out.m.at 1 _ rfl
          have n2 := hn.out.m.at 2 _ rfl
          have HL := Lib.hid (fun m => quiet_same (left_bud (bud_drewN hn.out.bud m)))
          have HO := Lib.hid (fun m => quiet_same (open_bud (bud_drewN hn.out.bud m)))
          go_wp2_with fail
          go_quiet ((first | (go_at_call 24; exact HL.out _) | (go_at_call 25; exact HO.out _)))
          go_wp2
          go_roundw
          case rel => exact ⟨k + 1, left, false, by go_num, by omega, hl, play_drewN hn.out _⟩
          case measure => simp [intOf]; omega
        · rw [hr.out] at hmid ⊢
          go_wp2_with fail
          refine (shut_bud hmid.out.bud).mono ?_
          rintro e w4 ⟨rfl, hb4, hc4⟩
          have hn : Hid (PlayInv B C D w2.heap.size most w w4 (left) false) := play_next hmid.out rfl hb4 hc4 (by omega) (fun i hi => by omega)
          have n1 := hn.out.m.at 1 _ rfl
          have n2 := hn.out.m.at 2 _ rfl
          have HL := Lib.hid (fun m => quiet_same (left_bud (bud_drewN hn.out.bud m)))
          have HO := Lib.hid (fun m => quiet_same (open_bud (bud_drewN hn.out.bud m)))
          go_wp2_with fail
          go_quiet ((first | (go_at_call 24; exact HL.out _) | (go_at_call 25; exact HO.out _)))
          go_wp2
          go_roundw
          case rel => exact ⟨k + 1, left, false, by go_num, by omega, hl, play_drewN hn.out _⟩
          case measure => simp [intOf]; omega
        · rw [hr.out] at hmid ⊢
          have t0 : (kd == 0) = false := by simp [k0]
          have t1 : (kd == 1) = false := by simp [k1]
          have t2 : (kd == 2) = false := by simp [k2]
          have t3 : (kd == 3) = false := by simp [k3]
          have hn : Hid (PlayInv B C D w2.heap.size most w wc (left) opn) := play_next hmid.out rfl hmid.out.bud (Chg.refl (fun _ => False) _) id (fun i hi => hi.elim)
          have n1 := hn.out.m.at 1 _ rfl
          have n2 := hn.out.m.at 2 _ rfl
          have HL := Lib.hid (fun m => quiet_same (left_bud (bud_drewN hn.out.bud m)))
          have HO := Lib.hid (fun m => quiet_same (open_bud (bud_drewN hn.out.bud m)))
          go_wp2_with fail
          go_quiet ((first | (go_at_call 24; exact HL.out _) | (go_at_call 25; exact HO.out _)))
          go_wp2
          go_roundw
          case rel => exact ⟨k + 1, left, opn, by go_num, by omega, hl, play_drewN hn.out _⟩
          case measure => simp [intOf]; omega
    · have hge : (len : Int) ≤ k := by omega
      have hB := Lib.hid hi.out.b
      clear hi
      go_wp2
      go_ret
      exact ⟨rfl, hB.out⟩

theorem acts_of {w : World} {a : Addr} {len : Nat} (h : ∀ i, i < len → ∃ kd n, w.cell? (a.add (i * 2)) = some (.int .i64 kd) ∧ w.cell? (a.add (i * 2 + 1)) = some (.int .i64 n)) : Acts w (some a) len := by
  intro h0
  obtain ⟨b, off, s⟩ := a
  obtain ⟨kd, n, h1, _⟩ := h 0 h0
  have hs : s = none := by simpa [Addr.add] using World.cell?_spot h1
  subst hs
  refine ⟨b, off, rfl, fun i hi => ?_⟩
  obtain ⟨kd, n, h1, h2⟩ := h i hi
  rw [Addr.add_lit] at h1 h2
  exact ⟨kd, n, h1, h2⟩

theorem walk (w : World) (a0 : Int) (w0 : (Lit.int .i64 a0).wf = true) (a1 : Option Addr) (len1 cap1 : Nat) (w1 : Acts w a1 len1) :
    Calls Try.prog 5 #[.int .i64 a0, .slice a1 len1 cap1] w fun e w' => e = .returned (.bool true) ∧ Below w.heap.size w w' := by
  by_cases h : 200 < len1
  · exact walk_long a0 a1 len1 cap1 h w
  · by_cases h1 : a0 < 0
    · exact walk_lo a0 a1 len1 cap1 (by omega) h1 w
    · by_cases h2 : 4096 < a0
      · exact walk_hi a0 a1 len1 cap1 (by omega) h2 w
      · obtain ⟨m, rfl⟩ := Int.eq_ofNat_of_zero_le (by omega : 0 ≤ a0)
        exact walk_in m (by omega) a1 len1 cap1 (by omega) w w1

theorem own : ownKnob Try.prog.godebug = none := by kernel_rfl
theorem laidOut : laidOutB Try.prog = true := by kernel_rfl
set_option maxRecDepth 100000 in
theorem lifted (os : Os) (started : os.Started) (H : Type) (enc : TypeId × Value → H) :
    ReturnsInHanded {} Try.checked os 5 .any (Rows.budgetPlaysSpec.pre6 enc Try.prog Try.f5 Rows.budgetPlaysRow.domain false) (Rows.budgetPlaysSpec.post enc Try.prog Try.f5 false true false false) := by
  refine returnsInHanded_of_change (C := Try.checked) own started (by kernel_rfl) Try.func5
    (ChangeSpec.witness6 (enc := enc) (C := Try.checked) false ⟨#[], #[.int .i64 0, .slice none 0 0], []⟩ 8 (by kernel_rfl) (by kernel_rfl) (by kernel_rfl) (by kernel_rfl)) ?_
  intro W base args ds gs before hval0 hW hcnd _
  have hval : ∀ (j : Nat) t v, Try.f5.params[j]? = some t → args[j]? = some v → Value.okWide Try.prog W .any base t v := hval0
  have hW' := hW
  obtain ⟨p, q, hA0, hV, rfl, hfz, hnd⟩ := hW
  have hA : DataW.TrodAll enc Try.prog W 0 (fun _ => true) true Try.f5.params.toList args.toList ds p := hA0
  rw [Try.params5] at hA hval
  obtain ⟨v0, vs0, d0, ds0, p0, q0, hargs, rfl, rfl, h0, r0⟩ := trodAll_cons hA
  obtain ⟨v1, vs1, d1, ds1, p1, q1, rfl, rfl, rfl, h1, r1⟩ := trodAll_cons r0
  obtain ⟨rfl, rfl, rfl⟩ := trodAll_nil r1
  obtain rfl : args = #[v0, v1] := by cases args; simp_all
  obtain ⟨rfl, rfl⟩ := trodVars_none hV
  obtain ⟨a0, rfl, rfl, rfl, w0⟩ := open_int Try.underlying3 (hval 0 3 v0 rfl rfl) h0
  obtain ⟨a1, len1, cap1, rfl⟩ := okWide_slice Try.underlying38 (hval 1 38 v1 rfl rfl)
  have k1 := h1
  have lt1 : ∀ x ∈ p1, x.block < W.heap.size := by obtain ⟨m, hm⟩ := k1; exact DataW.trod_lt m _ _ _ hm
  have w1 : Acts W a1 len1 := by
    obtain ⟨fuel, hf⟩ := h1
    rcases Go.Deep.open_slice_pairs Try.underlying38 Try.underlying47 (by kernel_rfl) rfl rfl (by kernel_rfl) (by kernel_rfl) hf with ⟨hcs, _⟩ | ⟨x, l, c, m, n, V0, V1, D0, D1, P0, P1, hcs, _, hl, hm, hmm, _, hcell⟩
    · simp [Value.cells] at hcs
      obtain ⟨rfl, rfl, rfl⟩ := hcs
      exact fun h => absurd h (by omega)
    · simp [Value.cells] at hcs
      obtain ⟨rfl, rfl, rfl⟩ := hcs
      refine acts_of fun i hi => ?_
      obtain ⟨g0, g1, t0, t1⟩ := hcell i (by rw [hmm]; split <;> omega)
      obtain ⟨kd, e0, _, _⟩ := DataW.trod_int Try.underlying3 t0
      obtain ⟨nn, e1, _, _⟩ := DataW.trod_int Try.underlying3 t1
      simp only [List.cons.injEq, and_true] at e0 e1
      exact ⟨kd, nn, by rw [g0, e0], by rw [g1, e1]⟩
  clear hA0 hval0
  refine (walk W a0 w0 a1 len1 cap1 w1).mono fun e W' ⟨he, bel⟩ => ?_
  subst he
  exact ⟨_, rfl, _, _, _, [], _, [], hW', trodAll_mk1 (shut_bool Try.underlying4 _), (trodAll_cons_mk (shut_int Try.underlying3 w0) (trodAll_cons_mk (Below.trod laidOut (by kernel_rfl) (of_decide_eq_true (by kernel_rfl)) k1 bel lt1) trodAll_mk0)), rfl, bel.frame _, fun h => by cases h⟩

theorem over : Rows.budgetPlaysRow.holds Try.pinned (OpenSpec.ofChange Rows.budgetPlaysSpec) :=
  OpenClaim.holds_of_wide 5 Try.f5 rfl rfl rfl rfl rfl rfl rfl ⟨rfl, rfl, rfl, rfl, rfl⟩ rfl rfl rfl rfl rfl (by kernel_rfl) Try.func5 (by kernel_rfl)
    (of_decide_eq_true (by kernel_rfl)) (by unfold Func.isWrapper; first | (rw [if_pos (by decide +kernel)]; kernel_rfl) | (rw [if_neg (by decide +kernel)]; exact ⟨rfl, rfl⟩))
    (fun os started H enc _ => lifted os started H enc)

theorem proved : Rows.BudgetPlaysSaid := over
#print axioms proved
end Go.Proofs.Ytpofnljcjoplnaa.budgetPlays
