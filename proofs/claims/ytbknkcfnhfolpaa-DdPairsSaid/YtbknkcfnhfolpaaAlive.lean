/-
  alive; what a safe number is worth.
-/
import Derived.Test.YtbknkcfnhfolpaaBits
set_option exponentiation.threshold 3000
namespace Go.Proofs.Ytbknkcfnhfolpaa
open Go.RowKit Rn

theorem fl_eq {x y : Nat} {v : Bool} (h : (Ieee.double.order x y == some .eq) = v) (P : Program) (t : TypeId) (w : World) : (binOp .eql t (.float .f64 x) (.float .f64 y)).run P w = .ok (.bool v) w := by
  simp only [go_sem, binOp_float_cmp_eql]
  exact congrArg (fun v => Result.ok (Value.bool v) w) h

theorem alive_sum (w : World) : Calls Try.prog 18 #[.float .f64 4607182418800017408, .float .f64 4336966441157787648] w fun e w' => e = .returned (pr 4607182418800017408 4336966441157787648) ∧ Below w.heap.size w w' :=
  sum_run (t := 0) (u := 4607182418800017408) (d := 0) (e := 4336966441157787648) w
    (by kernel_rfl) (by kernel_rfl) (by kernel_rfl) (by kernel_rfl) (by kernel_rfl) (by kernel_rfl)

theorem alive_split : IsSplit 4728779608772575232 4728779608739020800 4607182418800017408 :=
  ⟨4850376798745133056, 4850376798711578624, by kernel_rfl, by kernel_rfl, by kernel_rfl, by kernel_rfl⟩

theorem alive_prod (w : World) : Calls Try.prog 16 #[.float .f64 4728779608772575232, .float .f64 4728779608772575232] w fun e w' => e = .returned (pr 4850376798745133056 4607182418800017408) ∧ Below w.heap.size w w' :=
  prod_run (a := 4850376798678024192) (r1 := 13956655245221167104) (b := 4728779608739020800) (r2 := 13952151645593796608) (c := 4728779608739020800) (r3 := 0) (d := 4607182418800017408) w
    (by kernel_rfl) alive_split alive_split (by kernel_rfl) (by kernel_rfl) (by kernel_rfl) (by kernel_rfl) (by kernel_rfl) (by kernel_rfl) (by kernel_rfl) (by kernel_rfl)

set_option maxHeartbeats 2000000 in
theorem alive_is (w : World) : Calls Try.prog 7 #[] w fun e w' => e = .returned (.bool true) ∧ Below w.heap.size w w' := by
  have q1 := fl_eq (x := 4607182418800017408) (y := 4607182418800017408) (v := true) (by kernel_rfl) Try.prog 25
  have q2 := fl_eq (x := 4336966441157787648) (y := 4336966441157787648) (v := true) (by kernel_rfl) Try.prog 25
  have q3 := fl_eq (x := 4850376798745133056) (y := 4850376798745133056) (v := true) (by kernel_rfl) Try.prog 25
  go_enter Try.func7, Try.ntmps7
  go_wp2_with fail
  refine (alive_sum _).mono ?_
  rintro e w1 ⟨rfl, hb1⟩
  unfold pr
  go_wp2_with fail
  refine (alive_prod _).mono ?_
  rintro e w2 ⟨rfl, hb2⟩
  unfold pr
  have k1 := (Blk.new w1 28 #[.float .f64 4607182418800017408, .float .f64 4336966441157787648]).below hb2
  have c0 := k1.at 0 (.float .f64 4607182418800017408) rfl
  have c1 := k1.at 1 (.float .f64 4336966441157787648) rfl
  have hz := k1.lt
  have hb12 := (hb1.alloc hb1.size (.cells #[.float .f64 4607182418800017408, .float .f64 4336966441157787648] 28)).trans (hb2.mono (by have := hb1.size; simp; omega))
  have HB := Lib.hid hb12
  clear k1 hb1 hb2 hb12
  go_wp2
  go_ret
  exact ⟨rfl, HB.out.alloc HB.out.size _⟩

end Go.Proofs.Ytbknkcfnhfolpaa
