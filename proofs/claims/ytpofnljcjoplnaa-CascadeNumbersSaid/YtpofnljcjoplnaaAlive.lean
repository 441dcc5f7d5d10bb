/-
  The example of layer 22: its alive() returns true.
-/
import Derived.Test.YtpofnljcjoplnaaPlan
namespace Go.Proofs.Ytpofnljcjoplnaa
open Go.ChangeShapes Go.WideShapes Go.ChangeAt Go.RowKit

theorem try31 (n : Int) (w : World) : Calls Try.prog 31 #[.int .i64 n] w fun e w' => e = .returned (.tuple #[.string ⟨#[120]⟩, .bool (decide (100 < n))]) ∧ w = w' := by
  go_enter Try.func31, Try.ntmps31
  go_wp2
  go_ret2
  exact ⟨rfl, rfl⟩

set_option maxHeartbeats 1000000 in
theorem go30 (v : Value) (w : World) (hv : Ints w v [64, 128, 200]) : Calls Try.prog 30 #[v, .pointer none, .func (.func 31) #[] #[]] w fun e w' =>
    e = .returned (.tuple #[.agg #[.string ⟨#[120]⟩, .int .i64 128, .int .i64 2, .int .i64 0], .int .i64 0]) ∧ Below w.heap.size w w' := by
  obtain ⟨a, c, rfl, hv⟩ := hv
  obtain ⟨b, off, rfl, hc⟩ := hv (by simp)
  have c0 : w.cell? ⟨b, off, none⟩ = some (.int .i64 64) := hc 0 (.int .i64 64) rfl
  have c1 : w.cell? ⟨b, off + 1, none⟩ = some (.int .i64 128) := hc 1 (.int .i64 128) rfl
  have c2 := hc 2 (.int .i64 200) rfl
  have hb : b < w.heap.size := cell_lt c0
  clear hc hv
  have hfn : ∀ w, (binOp .eql 70 (.func (.func 31) #[] #[]) .nilFunc).run Try.prog w = .ok (.bool false) w := fun w => by kernel_rfl
  go_enter Try.func30, Try.ntmps30
  go_wp2
  refine wp_loop_rounds 3 ?_
  rw [rounds_succ]
  go_wp2
  rw [rounds_succ]
  go_wp2
  refine bodyPost_ret (v := .tuple #[.agg #[.string ⟨#[120]⟩, .int .i64 128, .int .i64 2, .int .i64 0], .int .i64 0]) (by simp [results, Try.results30, go_sem]) rfl ⟨rfl, ?_⟩
  exact ((Below.refl _ _).alloc (Nat.le_refl _) _).alloc (by simp) _

theorem plan64 {l : List Int} (h : IsPlan 64 200 l) : l = [64, 128, 200] :=
  h.uniq ⟨2, by decide, by decide, by intro j hj; match j, hj with | 0, _ => decide | 1, _ => decide⟩

set_option maxHeartbeats 1000000 in
theorem alive10 (w : World) : Calls Try.prog 10 #[] w fun e w' => e = .returned (.bool true) ∧ Below w.heap.size w w' := by
  go_enter Try.func10, Try.ntmps10
  go_wp2_with fail
  refine (plan_yes 64 200 _ (by decide)).mono ?_
  rintro e w1 ⟨v, l, rfl, hown, hb1, hpl⟩
  obtain rfl := plan64 hpl
  clear hpl
  obtain ⟨g, cap, rfl, hg, hg1⟩ := hown.form (by decide)
  have hS := Sl.of_own hown
  have hcell := hown.cells (g := g) rfl
  have c0 : w1.cell? ⟨g, 0, none⟩ = some (.int .i64 64) := hcell 0 _ rfl
  have c1 : w1.cell? ⟨g, 1, none⟩ = some (.int .i64 128) := hcell 1 _ rfl
  have c2 : w1.cell? ⟨g, 2, none⟩ = some (.int .i64 200) := hcell 2 _ rfl
  have HO : Hid (Sl w1 (.slice (some ⟨g, 0, none⟩) 3 cap) ([64, 128, 200].map (.int .i64))) := hS
  clear hown hcell hS
  go_wp2_with fail
  refine (plan_no 64 63 _ (by decide)).mono ?_
  rintro e w' ⟨rfl, rfl⟩
  go_wp2_with fail
  refine (go30 _ _ HO.out).mono ?_
  rintro e w2 ⟨rfl, hb2⟩
  have c0' := (hb2.cell (p := ⟨g, 0, none⟩) hg1).trans c0
  have c1' := (hb2.cell (p := ⟨g, 1, none⟩) hg1).trans c1
  have c2' := (hb2.cell (p := ⟨g, 2, none⟩) hg1).trans c2
  have hg2 : g < w2.heap.size := Nat.lt_of_lt_of_le hg1 hb2.size
  go_wp2
  go_ret
  exact ⟨rfl, (below_then hb1 hb2).alloc (Nat.le_trans hb1.size hb2.size) _⟩
end Go.Proofs.Ytpofnljcjoplnaa
