/-
  What the functions of the plan return: cascade.Plan, the document's Right and Plan, and the equality of two lists.
-/
import Derived.Test.YtpofnljcjoplnaaRows
import Derived.Test.YtpofnljcjoplnaaBase
namespace Go.Proofs.Ytpofnljcjoplnaa
open Go.ChangeShapes Go.WideShapes Go.ChangeAt Go.RowKit

def Ints (w : World) (v : Value) (zs : List Int) : Prop := Sl w v (zs.map (.int .i64))
def sameB (xs ys : List Int) : Bool := decide (xs = ys)

theorem same_any (va vb : Value) (xs ys : List Int) (w : World) (ha : Ints w va xs) (hb : Ints w vb ys) (hl : xs.length < 4611686018427387904) :
  Calls Try.prog 13 #[va, vb] w fun e w' => e = .returned (.bool (sameB xs ys)) ∧ ∃ n, w' = w.drewN n := by
  obtain ⟨a, c, rfl, ha⟩ := ha
  obtain ⟨b, d, rfl, hb⟩ := hb
  simp only [List.length_map] at ha hb ⊢
  by_cases hn : xs.length = ys.length
  · have e1 : ((xs.length : Int) != (ys.length : Int)) = false := by simp [hn]
    have HB := Lib.hid hb
    clear hb
    have HA := Lib.hid ha
    clear ha
    have HN := Lib.hid hn
    clear hn
    go_enter Try.func13, Try.ntmps13
    go_wp2
    go_loopw [5] (fun i wr => ∃ k n : Nat, i = .int .i64 k ∧ k ≤ xs.length ∧ wr = w.drewN n ∧ Hid (xs.take k = ys.take k)) (fun i _ => xs.length - (intOf i).toNat)
    case atStart => exact ⟨0, 0, rfl, Nat.zero_le _, rfl, by simp [Hid]⟩
    case round =>
      obtain ⟨k, n, rfl, hk, rfl, hh⟩ := hrel
      by_cases hlt : k < xs.length
      · obtain ⟨b1, o1, rfl, hc1⟩ := HA.out (by omega)
        obtain ⟨b2, o2, rfl, hc2⟩ := HB.out (by have := HN.out; omega)
        have hlt2 : k < ys.length := by have := HN.out; omega
        have c1 : w.cell? ⟨b1, o1 + k, none⟩ = some (.int .i64 (xs[k])) := hc1 k _ (by simp [hlt])
        have c2 : w.cell? ⟨b2, o2 + k, none⟩ = some (.int .i64 (ys[k])) := hc2 k _ (by simp [hlt2])
        clear hc1 hc2 HA HB
        have HN2 : k < xs.length ∧ k < ys.length := ⟨hlt, hlt2⟩
        have hb1 : (k : Int) < xs.length := by omega
        have hb2 : (k : Int) < ys.length := by omega
        have hwe : xs.take (k + 1) = xs.take k ++ [xs[k]] := List.take_succ_eq_append_getElem hlt
        have hwe2 : ys.take (k + 1) = ys.take k ++ [ys[k]] := List.take_succ_eq_append_getElem hlt2
        by_cases heq : xs[k] = ys[k]
        · have ht : (xs[k] != ys[k]) = false := by simp [heq]
          have HE : Hid (xs.take (k + 1) = ys.take (k + 1)) := by unfold Hid at *; rw [hwe, hwe2, hh, heq]
          clear heq hwe hwe2 hh
          go_wp2
          go_quiet (fail)
          go_wp2
          go_roundw
          case rel => exact ⟨k + 1, n + nq, by go_num, by omega, by simp, HE⟩
          case measure => simp [intOf]; omega
        · have ht : (xs[k] != ys[k]) = true := by simp [heq]
          have HS : Hid (sameB xs ys = false) := by
            simp only [Hid, sameB, decide_eq_false_iff_not]
            intro he; subst he; exact heq rfl
          clear heq hwe hwe2 hh
          go_wp2
          go_quiet (fail)
          go_wp2
          go_ret
          exact ⟨by rw [HS.out]; rfl, _, by simp; rfl⟩
      · have HS : Hid (sameB xs ys = true) := by
          have h1 := HN.out
          unfold Hid at *
          rw [List.take_of_length_le (by omega), List.take_of_length_le (by omega)] at hh
          simp [sameB, hh]
        clear HA HB
        have hge : (xs.length : Int) ≤ k := by omega
        go_wp2
        go_ret
        exact ⟨by rw [HS.out]; rfl, n, rfl⟩
  · have e1 : ((xs.length : Int) != (ys.length : Int)) = true := by simp; omega
    have HS : Hid (sameB xs ys = false) := by
      simp only [Hid, sameB, decide_eq_false_iff_not]
      intro he; subst he; exact hn rfl
    clear ha hb hn
    go_enter Try.func13, Try.ntmps13
    go_wp2
    go_ret
    exact ⟨by rw [HS.out]; rfl, 0, rfl⟩
theorem Try.info3 : (Try.prog.info? 3).map (fun i => (i.zero, i.size, i.bytes)) = some (some (.int .i64 0), 1, 8) := by kernel_rfl

/-- the first k numbers of a plan -/
def pre (f : Int) (k : Nat) : List Int := (List.range k).map fun j => f * 2 ^ j
theorem pre_succ (f : Int) (k : Nat) : pre f (k + 1) = pre f k ++ [f * 2 ^ k] := by simp [pre, List.range_succ]
theorem pre_length (f : Int) (k : Nat) : (pre f k).length = k := by simp [pre]
def right (a b : Int) : Bool := 32 ≤ a && a ≤ b && 64 ≤ b && b ≤ 8192

/-- l is the plan from a to b. -/
def IsPlan (a b : Int) (l : List Int) : Prop := ∃ k, l = pre a k ++ [b] ∧ b ≤ a * 2 ^ k ∧ ∀ j, j < k → a * 2 ^ j < b
theorem pow_lo (a : Int) (k : Nat) (h : 32 ≤ a) : 32 ≤ a * 2 ^ k := by
  induction k with
  | zero => simpa using h
  | succ k ih => rw [Int.pow_succ, ← Int.mul_assoc]; omega
theorem pow_hi (a : Int) (k : Nat) (h : 32 ≤ a) (h2 : a * 2 ^ k < 8192) : k < 8 := by
  rcases Nat.lt_or_ge k 8 with hk | hk
  · exact hk
  · exfalso
    obtain ⟨m, rfl⟩ := Nat.exists_eq_add_of_le hk
    have := pow_lo a m h
    rw [Nat.add_comm, Int.pow_add, ← Int.mul_assoc] at h2
    have e : (2 : Int) ^ 8 = 256 := by decide
    rw [e] at h2
    omega

set_option maxHeartbeats 400000 in
theorem plan_yes (a b : Int) (w : World) (h : right a b = true) :
  Calls Try.prog 11 #[.int .i64 a, .int .i64 b] w fun e w' => ∃ v l, e = .returned (.tuple #[v, .int .i64 0]) ∧ w'.ownsRow w.heap.size 3 1 v l.length (l.map (.int .i64)) ∧ Below w.heap.size w w' ∧ IsPlan a b l := by
  simp only [right, Bool.and_eq_true, decide_eq_true_eq] at h
  obtain ⟨⟨⟨h1, h2⟩, h3⟩, h4⟩ := h
  go_enter Try.func11, Try.ntmps11
  go_wp2
  go_loopw [6, 7] (fun l n wr => ∃ (k : Nat) (m : Int), n = .int .i64 m ∧ 32 ≤ m ∧ m < 16384 ∧ Hid (m = a * 2 ^ k) ∧ k ≤ 8 ∧ Hid (∀ j, j < k → a * 2 ^ j < b) ∧ wr.ownsRow w.heap.size 3 1 l k ((pre a k).map (.int .i64)) ∧ Below w.heap.size w wr)
    (fun _ n _ => (16384 - intOf n).toNat)
  case atStart => exact ⟨0, a, rfl, h1, by omega, by simp [Hid], by omega, by simp [Hid], World.ownsRow_nil _ _ _ _, Below.refl _ _⟩
  case round =>
    obtain ⟨k, m, rfl, hm, hm2, hmk, hk, hlt, hown, hb⟩ := hrel
    by_cases hmb : m < b
    · have hk8 : k < 8 := pow_hi a k h1 (by rw [← hmk.out]; omega)
      go_wp2_with (at_builtin; refine wpList_app1 rfl (.tmp 29) (.tmp 31) 23 rfl w.heap.size 3 (.int .i64 0) 8 Try.underlying23 Try.info3 rfl (by decide) _ _ _ rfl (.int .i64 m) 1 rfl rfl hown hb hb.size (by omega) ?_)
      intro v1 w1 hown1 hb1 _
      have HO : Hid (w1.ownsRow w.heap.size 3 1 v1 (k + 1) ((pre a (k + 1)).map (.int .i64))) := by
        rw [pre_succ, ← hmk.out]; simpa [Hid] using hown1.out
      clear hown1 hown
      go_wp2
      go_roundw
      case rel => exact ⟨k + 1, m * 2, by go_num, by omega, by omega, by rw [Hid, hmk.out, Int.pow_succ, Int.mul_assoc], by omega, by
        intro j hj
        rcases Nat.lt_or_ge j k with h | h
        · exact hlt.out j h
        · obtain rfl : j = k := by omega
          rw [← hmk.out]; exact hmb, HO, hb1⟩
      case measure => simp [intOf]; omega
    · have hmb2 : b ≤ m := by omega
      go_wp2_with (at_builtin; refine wpList_app1 rfl (.tmp 33) (.tmp 35) 23 rfl w.heap.size 3 (.int .i64 0) 8 Try.underlying23 Try.info3 rfl (by decide) _ _ _ rfl (.int .i64 b) 1 rfl rfl hown hb hb.size (by omega) ?_)
      intro v1 w1 hown1 hb1 _
      have HO : Hid (w1.ownsRow w.heap.size 3 1 v1 (pre a k ++ [b]).length ((pre a k ++ [b]).map (.int .i64))) := by
        simpa [pre_length, Hid] using hown1.out
      clear hown1 hown
      go_wp2
      go_ret2
      exact ⟨_, _, rfl, HO, hb1, k, rfl, by rw [← hmk.out]; exact hmb2, hlt.out⟩

theorem plan_no (a b : Int) (w : World) (h : right a b = false) :
  Calls Try.prog 11 #[.int .i64 a, .int .i64 b] w fun e w' => e = .returned (.tuple #[.slice none 0 0, .int .i64 1]) ∧ w = w' := by
  have h' : a < 32 ∨ b < a ∨ b < 64 ∨ 8192 < b := by
    simp only [right, Bool.and_eq_false_iff, decide_eq_false_iff_not] at h; omega
  clear h
  by_cases h1 : a < 32
  · go_enter Try.func11, Try.ntmps11
    go_wp2
    go_ret2
    exact ⟨rfl, rfl⟩
  by_cases h2 : b < a
  · go_enter Try.func11, Try.ntmps11
    go_wp2
    go_ret2
    exact ⟨rfl, rfl⟩
  by_cases h3 : b < 64
  · go_enter Try.func11, Try.ntmps11
    go_wp2
    go_ret2
    exact ⟨rfl, rfl⟩
  have h4 : 8192 < b := by omega
  go_enter Try.func11, Try.ntmps11
  go_wp2
  go_ret2
  exact ⟨rfl, rfl⟩

theorem IsPlan.ne {a b : Int} {l : List Int} (h : IsPlan a b l) : 0 < l.length := by
  obtain ⟨k, rfl, _⟩ := h; simp
theorem IsPlan.len {a b : Int} {l : List Int} (h : IsPlan a b l) (ha : 32 ≤ a) (hb : b ≤ 8192) : l.length ≤ 9 := by
  obtain ⟨k, rfl, h1, h2⟩ := h
  simp only [List.length_append, pre_length, List.length_cons, List.length_nil]
  rcases Nat.lt_or_ge 8 k with hk | hk
  · have := pow_hi a 8 ha (by have := h2 8 hk; omega)
    omega
  · omega
theorem IsPlan.one {a b : Int} (h : b ≤ a) : IsPlan a b [b] := ⟨0, by simp [pre], by simpa using h, by omega⟩
theorem IsPlan.cons {a b : Int} {l : List Int} (h : IsPlan (2 * a) b l) (hab : a < b) : IsPlan a b (a :: l) := by
  obtain ⟨k, rfl, h1, h2⟩ := h
  refine ⟨k + 1, ?_, by rw [Int.pow_succ]; rw [Int.mul_comm 2 a, Int.mul_assoc, Int.mul_comm 2] at h1; exact h1, ?_⟩
  · simp only [pre, List.range_succ_eq_map, List.map_cons, List.map_map]
    simp only [Int.pow_zero, Int.mul_one, List.cons_append, List.cons.injEq, true_and, List.append_cancel_right_eq]
    refine List.map_congr_left fun j _ => ?_
    simp only [Function.comp, Int.pow_succ]
    rw [Int.mul_comm 2 a, Int.mul_assoc, Int.mul_comm 2]
  · intro j hj
    rcases j with _ | j
    · simpa using hab
    · have := h2 j (by omega)
      rw [Int.pow_succ, Int.mul_comm (2 ^ j), ← Int.mul_assoc, Int.mul_comm a 2]
      exact this
theorem IsPlan.uniq {a b : Int} {l l' : List Int} (h : IsPlan a b l) (h' : IsPlan a b l') : l = l' := by
  obtain ⟨k, rfl, h1, h2⟩ := h
  obtain ⟨k', rfl, h1', h2'⟩ := h'
  have : k = k' := by
    rcases Nat.lt_trichotomy k k' with hk | hk | hk
    · have := h2' k hk; omega
    · exact hk
    · have := h2 k' hk; omega
  rw [this]

theorem right_any (a b : Int) (w : World) :
  Calls Try.prog 12 #[.int .i64 a, .int .i64 b] w fun e w' => e = .returned (.bool (right a b)) ∧ w = w' := by
  have HR : ∀ r : Bool, Hid (right a b = r) → Hid (right a b = r) := fun _ h => h
  by_cases h1 : 32 ≤ a
  · by_cases h2 : a ≤ b
    · by_cases h3 : 64 ≤ b
      · have hr := HR (decide (b ≤ 8192)) (by simp [Hid, right, h1, h2, h3])
        go_enter Try.func12, Try.ntmps12
        go_wp2
        go_ret
        exact ⟨by rw [hr.out]; rfl, rfl⟩
      · have hr := HR false (by simp [Hid, right, h1, h2, h3])
        go_enter Try.func12, Try.ntmps12
        go_wp2
        go_ret
        exact ⟨by rw [hr.out]; rfl, rfl⟩
    · have hr := HR false (by simp [Hid, right, h1, h2])
      go_enter Try.func12, Try.ntmps12
      go_wp2
      go_ret
      exact ⟨by rw [hr.out]; rfl, rfl⟩
  · have hr := HR false (by simp [Hid, right, h1])
    go_enter Try.func12, Try.ntmps12
    go_wp2
    go_ret
    exact ⟨by rw [hr.out]; rfl, rfl⟩

set_option maxHeartbeats 400000 in
theorem refPlan_any (N : Nat) : ∀ (a b : Int) (w : World), 32 ≤ a → a ≤ 16384 → b ≤ 8192 → 16384 - a < N →
  Calls Try.prog 14 #[.int .i64 a, .int .i64 b] w fun e w' => ∃ v l, e = .returned v ∧ w'.ownsRow w.heap.size 3 1 v l.length (l.map (.int .i64)) ∧ Below w.heap.size w w' ∧ IsPlan a b l := by
  induction N with
  | zero => intro a b w h1 h2 h3 h4; omega
  | succ N ih =>
    intro a b w h1 h2 h3 h4
    have IH := Lib.hid ih
    clear ih
    by_cases hab : b ≤ a
    · go_enter Try.func14, Try.ntmps14
      go_wp2
      go_ret
      exact ⟨_, [b], rfl, World.ownsRow_lit w #[.int .i64 b] 1 (Nat.le_refl _) (by decide) rfl, (Below.refl _ _).alloc (Nat.le_refl _) _, IsPlan.one hab⟩
    · have hab' : a < b := by omega
      clear hab
      go_enter Try.func14, Try.ntmps14
      go_wp2_with fail
      refine (IH.out (2 * a) b _ (by omega) (by omega) h3 (by omega)).mono ?_
      rintro e w1 ⟨v, l, rfl, hown, hb, hpl⟩
      have hlen := hpl.len (by omega) h3
      obtain ⟨g, cap, rfl, hg⟩ := hown.form hpl.ne
      have hown0 : w1.ownsRow w.heap.size 3 1 (.slice (some ⟨w.heap.size, 0, none⟩) 1 1) 1 [.int .i64 a] :=
        own_below (World.ownsRow_lit w #[.int .i64 a] 1 (Nat.le_refl _) (by decide) rfl) hb
      have hbw : Below w.heap.size w w1 := ((Below.refl _ _).alloc (Nat.le_refl _) _).trans (hb.mono (by simp))
      have hcells := hown.cells (g := g) rfl
      go_wp2_with (at_builtin; refine wpList_app rfl (.tmp 11) (.tmp 15) 23 rfl w.heap.size 3 (.int .i64 0) 1 8 Try.underlying23 Try.info3 rfl (by decide) (by decide) _ _ _ rfl ⟨g, 0, none⟩ l.length cap (l.map (.int .i64)) rfl (by simp) hcells ?h1 hown0 hbw hbw.size (by omega) ?_)
      case h1 =>
        intro u hu
        obtain ⟨z, _, rfl⟩ := List.mem_map.1 hu
        rfl
      intro v2 w2 hown2 hb2 _
      clear hown hown0 hcells
      go_wp2
      go_ret
      exact ⟨_, a :: l, rfl, by simpa [Nat.add_comm] using hown2.out, hb2, hpl.cons hab'⟩
end Go.Proofs.Ytpofnljcjoplnaa
