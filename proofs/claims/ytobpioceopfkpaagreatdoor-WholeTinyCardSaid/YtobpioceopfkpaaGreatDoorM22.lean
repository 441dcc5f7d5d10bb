/-
  bound.Result, almost one. Printed by gen_kb.py.
-/
import Derived.Test.YtobpioceopfkpaaGreatDoorM20
import Derived.Test.YtobpioceopfkpaaGreatDoorM21
import Derived.Test.YtobpioceopfkpaaGreatDoorM18
import Derived.Test.YtobpioceopfkpaaGreatDoorM15
import Derived.Test.YtobpioceopfkpaaGreatDoorM17
import Derived.BigQuiet
namespace Go.Proofs.YtobpioceopfkpaaGreatDoor
open Go.RowKit

def lessDn : Dn := ⟨false, 18014398509481983, -54⟩
def oneDn : Dn := ⟨false, 1, 0⟩
theorem To_one0 {w : World} {u : Value} (hu : Ry w u oneDn) : Calls Tryz.prog 40 #[u, .bool true, .int .i64 0] w fun e w' => e = .returned (.tuple #[.int .u64 4607182418800017408, .int .u8 1, .int .i64 0]) ∧ Below w.heap.size w w' :=
  To_r hu ⟨by decide, by decide, by decide⟩ (by decide) (by decide) true 0 (by decide) (0) (by decide) (by decide) (-52) (by decide) (by decide) 4503599627370496 true (by decide) (by decide) (0) (by decide) (by decide) (by decide) (by decide) 52 (by decide) 4503599627370496 (by decide) (by decide) (by decide) 4607182418800017408 (by kernel_rfl)
theorem To_less0 {w : World} {u : Value} (hu : Ry w u lessDn) : Calls Tryz.prog 40 #[u, .bool true, .int .i64 0] w fun e w' => e = .returned (.tuple #[.int .u64 4607182418800017408, .int .u8 1, .int .i64 0]) ∧ Below w.heap.size w w' :=
  To_r hu ⟨by decide, by decide, by decide⟩ (by decide) (by decide) true 0 (by decide) (-1) (by decide) (by decide) (1) (by decide) (by decide) 9007199254740992 true (by decide) (by decide) (0) (by decide) (by decide) (by decide) (by decide) 52 (by decide) 4503599627370496 (by decide) (by decide) (by decide) 4607182418800017408 (by kernel_rfl)
theorem To_one1 {w : World} {u : Value} (hu : Ry w u oneDn) : Calls Tryz.prog 40 #[u, .bool true, .int .i64 1] w fun e w' => e = .returned (.tuple #[.int .u64 4607182418800017408, .int .u8 1, .int .i64 0]) ∧ Below w.heap.size w w' :=
  To_r hu ⟨by decide, by decide, by decide⟩ (by decide) (by decide) true 1 (by decide) (0) (by decide) (by decide) (-52) (by decide) (by decide) 4503599627370496 true (by decide) (by decide) (0) (by decide) (by decide) (by decide) (by decide) 52 (by decide) 4503599627370496 (by decide) (by decide) (by decide) 4607182418800017408 (by kernel_rfl)
theorem To_less1 {w : World} {u : Value} (hu : Ry w u lessDn) : Calls Tryz.prog 40 #[u, .bool true, .int .i64 1] w fun e w' => e = .returned (.tuple #[.int .u64 4607182418800017407, .int .u8 1, .int .i64 0]) ∧ Below w.heap.size w w' :=
  To_r hu ⟨by decide, by decide, by decide⟩ (by decide) (by decide) true 1 (by decide) (-1) (by decide) (by decide) (1) (by decide) (by decide) 9007199254740991 true (by decide) (by decide) (-1) (by decide) (by decide) (by decide) (by decide) 0 (by decide) 9007199254740991 (by decide) (by decide) (by decide) 4607182418800017407 (by kernel_rfl)
theorem To_one2 {w : World} {u : Value} (hu : Ry w u oneDn) : Calls Tryz.prog 40 #[u, .bool true, .int .i64 2] w fun e w' => e = .returned (.tuple #[.int .u64 4607182418800017409, .int .u8 1, .int .i64 0]) ∧ Below w.heap.size w w' :=
  To_r hu ⟨by decide, by decide, by decide⟩ (by decide) (by decide) true 2 (by decide) (0) (by decide) (by decide) (-52) (by decide) (by decide) 4503599627370497 true (by decide) (by decide) (0) (by decide) (by decide) (by decide) (by decide) 0 (by decide) 4503599627370497 (by decide) (by decide) (by decide) 4607182418800017409 (by kernel_rfl)
theorem To_less2 {w : World} {u : Value} (hu : Ry w u lessDn) : Calls Tryz.prog 40 #[u, .bool true, .int .i64 2] w fun e w' => e = .returned (.tuple #[.int .u64 4607182418800017408, .int .u8 1, .int .i64 0]) ∧ Below w.heap.size w w' :=
  To_r hu ⟨by decide, by decide, by decide⟩ (by decide) (by decide) true 2 (by decide) (-1) (by decide) (by decide) (1) (by decide) (by decide) 9007199254740992 true (by decide) (by decide) (0) (by decide) (by decide) (by decide) (by decide) 52 (by decide) 4503599627370496 (by decide) (by decide) (by decide) 4607182418800017408 (by kernel_rfl)
theorem To_one3 {w : World} {u : Value} (hu : Ry w u oneDn) : Calls Tryz.prog 40 #[u, .bool true, .int .i64 3] w fun e w' => e = .returned (.tuple #[.int .u64 4607182418800017408, .int .u8 1, .int .i64 0]) ∧ Below w.heap.size w w' :=
  To_r hu ⟨by decide, by decide, by decide⟩ (by decide) (by decide) true 3 (by decide) (0) (by decide) (by decide) (-52) (by decide) (by decide) 4503599627370496 true (by decide) (by decide) (0) (by decide) (by decide) (by decide) (by decide) 52 (by decide) 4503599627370496 (by decide) (by decide) (by decide) 4607182418800017408 (by kernel_rfl)
theorem To_less3 {w : World} {u : Value} (hu : Ry w u lessDn) : Calls Tryz.prog 40 #[u, .bool true, .int .i64 3] w fun e w' => e = .returned (.tuple #[.int .u64 4607182418800017407, .int .u8 1, .int .i64 0]) ∧ Below w.heap.size w w' :=
  To_r hu ⟨by decide, by decide, by decide⟩ (by decide) (by decide) true 3 (by decide) (-1) (by decide) (by decide) (1) (by decide) (by decide) 9007199254740991 true (by decide) (by decide) (-1) (by decide) (by decide) (by decide) (by decide) 0 (by decide) 9007199254740991 (by decide) (by decide) (by decide) 4607182418800017407 (by kernel_rfl)
def moreB (z : Int) : Int := if z = 2 then 4607182418800017409 else 4607182418800017408
def lessB (z : Int) : Int := if z = 1 ∨ z = 3 then 4607182418800017407 else 4607182418800017408

set_option maxRecDepth 100000 in
set_option maxHeartbeats 4000000 in
theorem Result_more {w : World} (t : Tab w) (z : Int) (hz : 0 ≤ z ∧ z ≤ 3) : Calls Tryz.prog 92 #[.int .i64 3, .bool false, .int .i64 z] w fun e w' => e = .returned (.tuple #[.int .u64 (moreB z), .int .u8 1, .bool true]) ∧ Below w.heap.size w w' := by
  have HT := Lib.hid t
  have HF := Lib.hid (show Fx w ((w.alloc (.cells #[.int .u64 1] 22)).alloc (.cells #[.bool false, .slice (some ⟨w.heap.size, 0, none⟩) 1 1, .int .i64 0] 42)) [(w.heap.size + 1, 42, #[.bool false, .slice (some ⟨w.heap.size, 0, none⟩) 1 1, .int .i64 0])] from by
    have := ((Fx.nil w).alloc (.cells #[.int .u64 1] 22)).new 42 #[.bool false, .slice (some ⟨w.heap.size, 0, none⟩) 1 1, .int .i64 0] rfl
    simpa using this)
  have HX := Lib.hid (show Ry ((w.alloc (.cells #[.int .u64 1] 22)).alloc (.cells #[.bool false, .slice (some ⟨w.heap.size, 0, none⟩) 1 1, .int .i64 0] 42)) (.agg #[.bool false, .slice (some ⟨w.heap.size, 0, none⟩) 1 1, .int .i64 0]) oneDn from
    Ry.alloc (w := w.alloc (.cells #[.int .u64 1] 22)) (d := oneDn) ⟨_, rfl, raw_rd (raw_one t (n := 1) (by decide)), by decide, by decide, by decide⟩ _)
  clear t
  rcases (by omega : z = 0 ∨ z = 1 ∨ z = 2 ∨ z = 3) with rfl | rfl | rfl | rfl <;> clear hz
  · obtain ⟨b, hb⟩ : ∃ b, b = moreB 0 := ⟨_, rfl⟩
    rw [← hb]
    obtain rfl : b = 4607182418800017408 := hb
    go_enter Tryz.func92, Tryz.ntmps92
    go_upto_region 15 with (fail)
    generalize World.alloc (World.alloc _ _) _ = w0 at HF HX ⊢
    have c0 := HF.out.c3 0 rfl
    go_wp2_with fail
    clear c0
    refine (To_one0 HX.out).mono ?_
    rintro q w1 ⟨rfl, hb⟩
    have F1 := Lib.hid (HF.out.call hb)
    clear hb
    go_wp2
    refine bodyPost_ret (v := .tuple #[.int .u64 4607182418800017408, .int .u8 1, .bool true]) (by simp [results, Tryz.results92, go_sem]) rfl ?_
    exact ⟨rfl, F1.out.b⟩
  · obtain ⟨b, hb⟩ : ∃ b, b = moreB 1 := ⟨_, rfl⟩
    rw [← hb]
    obtain rfl : b = 4607182418800017408 := hb
    go_enter Tryz.func92, Tryz.ntmps92
    go_upto_region 15 with (fail)
    generalize World.alloc (World.alloc _ _) _ = w0 at HF HX ⊢
    have c0 := HF.out.c3 0 rfl
    go_wp2_with fail
    clear c0
    refine (To_one1 HX.out).mono ?_
    rintro q w1 ⟨rfl, hb⟩
    have F1 := Lib.hid (HF.out.call hb)
    clear hb
    go_wp2
    refine bodyPost_ret (v := .tuple #[.int .u64 4607182418800017408, .int .u8 1, .bool true]) (by simp [results, Tryz.results92, go_sem]) rfl ?_
    exact ⟨rfl, F1.out.b⟩
  · obtain ⟨b, hb⟩ : ∃ b, b = moreB 2 := ⟨_, rfl⟩
    rw [← hb]
    obtain rfl : b = 4607182418800017409 := hb
    go_enter Tryz.func92, Tryz.ntmps92
    go_upto_region 15 with (fail)
    generalize World.alloc (World.alloc _ _) _ = w0 at HF HX ⊢
    have c0 := HF.out.c3 0 rfl
    go_wp2_with fail
    clear c0
    refine (To_one2 HX.out).mono ?_
    rintro q w1 ⟨rfl, hb⟩
    have F1 := Lib.hid (HF.out.call hb)
    clear hb
    go_wp2
    refine bodyPost_ret (v := .tuple #[.int .u64 4607182418800017409, .int .u8 1, .bool true]) (by simp [results, Tryz.results92, go_sem]) rfl ?_
    exact ⟨rfl, F1.out.b⟩
  · obtain ⟨b, hb⟩ : ∃ b, b = moreB 3 := ⟨_, rfl⟩
    rw [← hb]
    obtain rfl : b = 4607182418800017408 := hb
    go_enter Tryz.func92, Tryz.ntmps92
    go_upto_region 15 with (fail)
    generalize World.alloc (World.alloc _ _) _ = w0 at HF HX ⊢
    have c0 := HF.out.c3 0 rfl
    go_wp2_with fail
    clear c0
    refine (To_one3 HX.out).mono ?_
    rintro q w1 ⟨rfl, hb⟩
    have F1 := Lib.hid (HF.out.call hb)
    clear hb
    go_wp2
    refine bodyPost_ret (v := .tuple #[.int .u64 4607182418800017408, .int .u8 1, .bool true]) (by simp [results, Tryz.results92, go_sem]) rfl ?_
    exact ⟨rfl, F1.out.b⟩

set_option maxRecDepth 100000 in
set_option maxHeartbeats 4000000 in
theorem Result_less {w : World} (t : Tab w) (z : Int) (hz : 0 ≤ z ∧ z ≤ 3) : Calls Tryz.prog 92 #[.int .i64 4, .bool false, .int .i64 z] w fun e w' => e = .returned (.tuple #[.int .u64 (lessB z), .int .u8 1, .bool true]) ∧ Below w.heap.size w w' := by
  have HT := Lib.hid t
  have HF := Lib.hid (show Fx w ((w.alloc (.cells #[.int .u64 1] 22)).alloc (.cells #[.bool false, .slice (some ⟨w.heap.size, 0, none⟩) 1 1, .int .i64 0] 42)) [(w.heap.size + 1, 42, #[.bool false, .slice (some ⟨w.heap.size, 0, none⟩) 1 1, .int .i64 0])] from by
    have := ((Fx.nil w).alloc (.cells #[.int .u64 1] 22)).new 42 #[.bool false, .slice (some ⟨w.heap.size, 0, none⟩) 1 1, .int .i64 0] rfl
    simpa using this)
  have HX := Lib.hid (show Ry ((w.alloc (.cells #[.int .u64 1] 22)).alloc (.cells #[.bool false, .slice (some ⟨w.heap.size, 0, none⟩) 1 1, .int .i64 0] 42)) (.agg #[.bool false, .slice (some ⟨w.heap.size, 0, none⟩) 1 1, .int .i64 0]) oneDn from
    Ry.alloc (w := w.alloc (.cells #[.int .u64 1] 22)) (d := oneDn) ⟨_, rfl, raw_rd (raw_one t (n := 1) (by decide)), by decide, by decide, by decide⟩ _)
  clear t
  rcases (by omega : z = 0 ∨ z = 1 ∨ z = 2 ∨ z = 3) with rfl | rfl | rfl | rfl <;> clear hz
  · obtain ⟨b, hb⟩ : ∃ b, b = lessB 0 := ⟨_, rfl⟩
    rw [← hb]
    obtain rfl : b = 4607182418800017408 := hb
    go_enter Tryz.func92, Tryz.ntmps92
    go_upto_region 14 with (fail)
    have HTT := Lib.hid HX.out.tab
    generalize World.alloc (World.alloc _ _) _ = w0 at HF HX HTT ⊢
    have c0 := HF.out.c3 0 rfl
    have HF2 := Lib.hid (HF.out.alloc (.cells #[.int .u64 18014398509481983] 22))
    have HY := Lib.hid (show Ry (w0.alloc (.cells #[.int .u64 18014398509481983] 22)) (.agg #[.bool false, .slice (some ⟨w0.heap.size, 0, none⟩) 1 1, .int .i64 (-54)]) lessDn from ⟨_, rfl, raw_rd (raw_one HTT.out (n := 18014398509481983) (by decide)), by decide, by decide, by decide⟩)
    have c1 := HF2.out.c3 0 rfl
    go_upto_region 15 with (fail)
    clear c0 c1
    obtain ⟨f, p⟩ := HF2.out.s3 0 rfl (.bool false) (.slice (some ⟨w0.heap.size, 0, none⟩) 1 1) (.int .i64 (-54)) rfl rfl rfl
    generalize World.setCell (World.setCell (World.setCell _ _ _) _ _) _ _ = W at f p ⊢
    have F3 := Lib.hid f
    have Y3 := Lib.hid (HY.out.kp p)
    clear f p
    have c0 := F3.out.c3 0 rfl
    go_wp2_with fail
    clear c0
    refine (To_less0 Y3.out).mono ?_
    rintro q w1 ⟨rfl, hb⟩
    have F1 := Lib.hid (F3.out.call hb)
    clear hb
    go_wp2
    refine bodyPost_ret (v := .tuple #[.int .u64 4607182418800017408, .int .u8 1, .bool true]) (by simp [results, Tryz.results92, go_sem]) rfl ?_
    exact ⟨rfl, F1.out.b⟩
  · obtain ⟨b, hb⟩ : ∃ b, b = lessB 1 := ⟨_, rfl⟩
    rw [← hb]
    obtain rfl : b = 4607182418800017407 := hb
    go_enter Tryz.func92, Tryz.ntmps92
    go_upto_region 14 with (fail)
    have HTT := Lib.hid HX.out.tab
    generalize World.alloc (World.alloc _ _) _ = w0 at HF HX HTT ⊢
    have c0 := HF.out.c3 0 rfl
    have HF2 := Lib.hid (HF.out.alloc (.cells #[.int .u64 18014398509481983] 22))
    have HY := Lib.hid (show Ry (w0.alloc (.cells #[.int .u64 18014398509481983] 22)) (.agg #[.bool false, .slice (some ⟨w0.heap.size, 0, none⟩) 1 1, .int .i64 (-54)]) lessDn from ⟨_, rfl, raw_rd (raw_one HTT.out (n := 18014398509481983) (by decide)), by decide, by decide, by decide⟩)
    have c1 := HF2.out.c3 0 rfl
    go_upto_region 15 with (fail)
    clear c0 c1
    obtain ⟨f, p⟩ := HF2.out.s3 0 rfl (.bool false) (.slice (some ⟨w0.heap.size, 0, none⟩) 1 1) (.int .i64 (-54)) rfl rfl rfl
    generalize World.setCell (World.setCell (World.setCell _ _ _) _ _) _ _ = W at f p ⊢
    have F3 := Lib.hid f
    have Y3 := Lib.hid (HY.out.kp p)
    clear f p
    have c0 := F3.out.c3 0 rfl
    go_wp2_with fail
    clear c0
    refine (To_less1 Y3.out).mono ?_
    rintro q w1 ⟨rfl, hb⟩
    have F1 := Lib.hid (F3.out.call hb)
    clear hb
    go_wp2
    refine bodyPost_ret (v := .tuple #[.int .u64 4607182418800017407, .int .u8 1, .bool true]) (by simp [results, Tryz.results92, go_sem]) rfl ?_
    exact ⟨rfl, F1.out.b⟩
  · obtain ⟨b, hb⟩ : ∃ b, b = lessB 2 := ⟨_, rfl⟩
    rw [← hb]
    obtain rfl : b = 4607182418800017408 := hb
    go_enter Tryz.func92, Tryz.ntmps92
    go_upto_region 14 with (fail)
    have HTT := Lib.hid HX.out.tab
    generalize World.alloc (World.alloc _ _) _ = w0 at HF HX HTT ⊢
    have c0 := HF.out.c3 0 rfl
    have HF2 := Lib.hid (HF.out.alloc (.cells #[.int .u64 18014398509481983] 22))
    have HY := Lib.hid (show Ry (w0.alloc (.cells #[.int .u64 18014398509481983] 22)) (.agg #[.bool false, .slice (some ⟨w0.heap.size, 0, none⟩) 1 1, .int .i64 (-54)]) lessDn from ⟨_, rfl, raw_rd (raw_one HTT.out (n := 18014398509481983) (by decide)), by decide, by decide, by decide⟩)
    have c1 := HF2.out.c3 0 rfl
    go_upto_region 15 with (fail)
    clear c0 c1
    obtain ⟨f, p⟩ := HF2.out.s3 0 rfl (.bool false) (.slice (some ⟨w0.heap.size, 0, none⟩) 1 1) (.int .i64 (-54)) rfl rfl rfl
    generalize World.setCell (World.setCell (World.setCell _ _ _) _ _) _ _ = W at f p ⊢
    have F3 := Lib.hid f
    have Y3 := Lib.hid (HY.out.kp p)
    clear f p
    have c0 := F3.out.c3 0 rfl
    go_wp2_with fail
    clear c0
    refine (To_less2 Y3.out).mono ?_
    rintro q w1 ⟨rfl, hb⟩
    have F1 := Lib.hid (F3.out.call hb)
    clear hb
    go_wp2
    refine bodyPost_ret (v := .tuple #[.int .u64 4607182418800017408, .int .u8 1, .bool true]) (by simp [results, Tryz.results92, go_sem]) rfl ?_
    exact ⟨rfl, F1.out.b⟩
  · obtain ⟨b, hb⟩ : ∃ b, b = lessB 3 := ⟨_, rfl⟩
    rw [← hb]
    obtain rfl : b = 4607182418800017407 := hb
    go_enter Tryz.func92, Tryz.ntmps92
    go_upto_region 14 with (fail)
    have HTT := Lib.hid HX.out.tab
    generalize World.alloc (World.alloc _ _) _ = w0 at HF HX HTT ⊢
    have c0 := HF.out.c3 0 rfl
    have HF2 := Lib.hid (HF.out.alloc (.cells #[.int .u64 18014398509481983] 22))
    have HY := Lib.hid (show Ry (w0.alloc (.cells #[.int .u64 18014398509481983] 22)) (.agg #[.bool false, .slice (some ⟨w0.heap.size, 0, none⟩) 1 1, .int .i64 (-54)]) lessDn from ⟨_, rfl, raw_rd (raw_one HTT.out (n := 18014398509481983) (by decide)), by decide, by decide, by decide⟩)
    have c1 := HF2.out.c3 0 rfl
    go_upto_region 15 with (fail)
    clear c0 c1
    obtain ⟨f, p⟩ := HF2.out.s3 0 rfl (.bool false) (.slice (some ⟨w0.heap.size, 0, none⟩) 1 1) (.int .i64 (-54)) rfl rfl rfl
    generalize World.setCell (World.setCell (World.setCell _ _ _) _ _) _ _ = W at f p ⊢
    have F3 := Lib.hid f
    have Y3 := Lib.hid (HY.out.kp p)
    clear f p
    have c0 := F3.out.c3 0 rfl
    go_wp2_with fail
    clear c0
    refine (To_less3 Y3.out).mono ?_
    rintro q w1 ⟨rfl, hb⟩
    have F1 := Lib.hid (F3.out.call hb)
    clear hb
    go_wp2
    refine bodyPost_ret (v := .tuple #[.int .u64 4607182418800017407, .int .u8 1, .bool true]) (by simp [results, Tryz.results92, go_sem]) rfl ?_
    exact ⟨rfl, F1.out.b⟩


end Go.Proofs.YtobpioceopfkpaaGreatDoor

/-
  core: try, where it is almost one. Printed by gen_re.py.
-/
namespace Go.Proofs.YtobpioceopfkpaaGreatDoor
open Go.RowKit

def tinyL (x : Dn) : In := logN (bareN x).m (topN (bareN x)) 128
def tinyZ (x y : Dn) : In := mulI (tinyL x) ⟨y, y⟩
/-- what makes it almost one at the first try -/
structure TinyOk (x y : Dn) (z tt sg : Int) : Prop where
  ok : AkOk x y z tt
  xneg : (bareN x).neg = false
  x0 : (bareN x).m ≠ 0
  y0 : y.m ≠ 0
  ty : topN y ≤ -1
  ty2 : -100000 ≤ topN y
  l1 : Sd (tinyL x).lo
  l2 : Sd (tinyL x).hi
  l3 : CmpD (tinyL x).lo (tinyL x).hi ≤ 0
  yy : CmpD y y ≤ 0
  z1 : Sd (tinyZ x y).lo
  z2 : Sd (tinyZ x y).hi
  z3 : CmpD (tinyZ x y).lo (tinyZ x y).hi ≤ 0
  z4 : CmpD (tinyZ x y).lo (ofN 710) < 0
  z5 : 0 < CmpD (tinyZ x y).hi (ofN (-746))
  z6 : sg = 1 ∧ CmpD (tinyZ x y).hi nearD < 0 ∨ sg = -1 ∧ 0 < CmpD (tinyZ x y).lo (MinusD nearD)
def tinyB (z sg : Int) : Int := if sg = 1 then moreB z else lessB z
/-- an answer -/
def ansV (b : Int) : Value := .agg #[.int .u64 b, .int .u8 1, .int .i64 0, .bool false, .slice none 0 0, .int .i64 0, .bool false, .slice none 0 0, .int .i64 0]

set_option maxRecDepth 100000 in
set_option maxHeartbeats 4000000 in
theorem try_tiny {w : World} {u : Value} {x y : Dn} {z tt sg : Int} (hu : Ak w u x y z tt) (h : TinyOk x y z tt sg) :
    Calls Tryz.prog 45 #[u, .int .i64 sg, .int .i64 64] w fun e w' => e = .returned (.tuple #[ansV (tinyB z sg), .bool true]) ∧ Below w.heap.size w w' := by
  obtain ⟨ok, xneg, x0, y0, ty, ty2, l1, l2, l3, yy, z1, z2, z3, z4, z5, z6⟩ := h
  have CL := Lib.hid (fun w u (h : Ak w u x y z tt) => CLog_a h ok xneg x0 y0 ty ty2 l1 l2 l3 yy)
  have hz := ok.hz
  have HB : ∃ c : Int, Hid (∀ w u, Iv w u (tinyZ x y) → Calls Tryz.prog 91 #[u, .int .i64 sg] w fun e w' => e = .returned (.int .i64 c) ∧ Below w.heap.size w w') ∧ (c == 0) = false ∧
      Hid (∀ w, Tab w → Calls Tryz.prog 92 #[.int .i64 c, .bool false, .int .i64 z] w fun e w' => e = .returned (.tuple #[.int .u64 (tinyB z sg), .int .u8 1, .bool true]) ∧ Below w.heap.size w w') := by
    rcases z6 with ⟨rfl, z6⟩ | ⟨rfl, z6⟩
    · exact ⟨3, fun w u h => Of_more h z1 z2 z3 z4 z5 z6, rfl, fun w t => Result_more t z hz⟩
    · exact ⟨4, fun w u h => Of_less h z1 z2 z3 z4 z5 z6, rfl, fun w t => Result_less t z hz⟩
  obtain ⟨c, CB, zc, CR⟩ := HB
  have CL := Lib.hid (fun w u h => (show Calls Tryz.prog 90 _ w (fun e w' => ∃ r, e = .returned (.tuple #[r, .int .i64 128, .int .i64 0]) ∧ Iv w' r (tinyZ x y) ∧ Below w.heap.size w w') from CL.out w u h))
  generalize tinyZ x y = Z at *
  generalize hB : tinyB z sg = B at *
  have HU := Lib.hid hu
  obtain ⟨a1, k1, c1, a2, k2, c2, rfl, hx, hy⟩ := hu
  obtain ⟨xn, xm, xe⟩ := x
  obtain ⟨yn, ym, ye⟩ := y
  obtain ⟨⟨rn, rm, re⟩, ⟨rn', rm', re'⟩⟩ := Z
  simp only at hx hy
  clear hx hy ok xneg x0 y0 ty ty2 l1 l2 l3 yy z1 z2 z3 z4 z5 z6 hz hB
  unfold ansV
  go_enter Tryz.func45, Tryz.ntmps45
  have F0 := Lib.hid (Fz.two w 58 #[.bool xn, .slice a1 k1 c1, .int .i64 xe, .bool yn, .slice a2 k2 c2, .int .i64 ye, .int .u64 1, .bool false, .int .i64 z, .int .i64 64, .int .i64 tt] 94 #[.int .u64 0, .int .u8 0, .int .i64 0, .bool false, .slice none 0 0, .int .i64 0, .bool false, .slice none 0 0, .int .i64 0])
  have U0 := Lib.hid ((HU.out.alloc (.cells #[.bool xn, .slice a1 k1 c1, .int .i64 xe, .bool yn, .slice a2 k2 c2, .int .i64 ye, .int .u64 1, .bool false, .int .i64 z, .int .i64 64, .int .i64 tt] 58)).alloc (.cells #[.int .u64 0, .int .u8 0, .int .i64 0, .bool false, .slice none 0 0, .int .i64 0, .bool false, .slice none 0 0, .int .i64 0] 94))
  clear HU
  go_upto_region 1 with (fail)
  generalize World.alloc (World.alloc _ _) _ = w0 at F0 U0 ⊢
  have c0_0 := F0.out.c11 0 rfl
  have c1_0 := F0.out.c9 1 rfl
  go_wp2_with fail
  clear c0_0 c1_0
  refine (CL.out _ _ U0.out).mono ?_
  rintro q w1 ⟨u, rfl, hu, hb⟩
  have F1 := Lib.hid (F0.out.call hb)
  have U1 := Lib.hid (U0.out.below hb)
  clear F0 U0
  have I1 := Lib.hid (hu)
  clear hb
  have c0_1 := F1.out.c11 0 rfl
  have c1_1 := F1.out.c9 1 rfl
  clear U1
  obtain ⟨b7, e7, d7, b8, e8, d8, rfl, h1, h2⟩ := I1.out.fm
  clear h1 h2
  go_upto_region 4 with (fail)
  clear c0_1 c1_1
  have F2 := Lib.hid (F1.out.new 92 #[.bool rn, .slice b7 e7 d7, .int .i64 re, .bool rn', .slice b8 e8 d8, .int .i64 re'])
  have I2 := Lib.hid (I1.out.alloc (.cells #[.bool rn, .slice b7 e7 d7, .int .i64 re, .bool rn', .slice b8 e8 d8, .int .i64 re'] 92))
  clear F1 I1
  obtain ⟨g1, hg1⟩ : ∃ g, g = (World.heap w1).size := ⟨_, rfl⟩
  rw [← hg1] at F2 ⊢
  clear hg1
  simp only [List.nil_append, List.cons_append] at F2
  generalize World.alloc w1 _ = W2 at F2 I2 ⊢
  have c0_2 := F2.out.c11 0 rfl
  have c1_2 := F2.out.c9 1 rfl
  have c2_2 := F2.out.c6 2 rfl
  go_wp2_with fail
  clear c0_2 c1_2 c2_2
  refine (CB.out _ _ I2.out).mono ?_
  rintro q w3 ⟨rfl, hb⟩
  have F3 := Lib.hid (F2.out.call hb)
  have I3 := Lib.hid (I2.out.below hb)
  clear F2 I2
  clear hb
  have c0_3 := F3.out.c11 0 rfl
  have c1_3 := F3.out.c9 1 rfl
  have c2_3 := F3.out.c6 2 rfl
  go_wp2_with fail
  clear c0_3 c1_3 c2_3
  refine (CR.out _ I3.out.tab).mono ?_
  rintro q w4 ⟨rfl, hb⟩
  have F4 := Lib.hid (F3.out.call hb)
  have I4 := Lib.hid (I3.out.below hb)
  clear F3 I3
  clear hb
  have c0_4 := F4.out.c11 0 rfl
  have c1_4 := F4.out.c9 1 rfl
  have c2_4 := F4.out.c6 2 rfl
  go_wp2
  have f := F4.out.s9 1 rfl (.int .u64 B) (.int .u8 1) (.int .i64 0) (.bool false) (.slice none 0 0) (.int .i64 0) (.bool false) (.slice none 0 0) (.int .i64 0)
  generalize (World.setCell (World.setCell (World.setCell (World.setCell (World.setCell (World.setCell (World.setCell (World.setCell (World.setCell _ _ _) _ _) _ _) _ _) _ _) _ _) _ _) _ _) _ _) = W at f ⊢
  have g1' := f.c9 1 rfl
  refine bodyPost_ret (v := .tuple #[.agg #[.int .u64 B, .int .u8 1, .int .i64 0, .bool false, .slice none 0 0, .int .i64 0, .bool false, .slice none 0 0, .int .i64 0], .bool true]) (by simp [results, Tryz.results45, go_sem, g1']) rfl ?_
  exact ⟨rfl, f.b⟩

end Go.Proofs.YtobpioceopfkpaaGreatDoor

/-
  What makes it almost one: the conditions of the walk follow from plain ones.
-/
namespace Go.Proofs.YtobpioceopfkpaaGreatDoor
open Go.RowKit

def pw (n : Nat) : Nat := 2 ^ n
theorem pw_int (n : Nat) : (2 : Int) ^ n = (pw n : Int) := by unfold pw; rw [Int.natCast_pow]; rfl
theorem pw_add (a b : Nat) : pw a * pw b = pw (a + b) := (Nat.pow_add 2 a b).symm
theorem pw_le {a b : Nat} (h : a ≤ b) : pw a ≤ pw b := Nat.pow_le_pow_right (by decide) h
theorem pw_lt {a b : Nat} (h : a < b) : pw a < pw b := Nat.pow_lt_pow_right (by decide) h
theorem mz_pw (K : Int) (n : Bool) (m : Nat) (e : Int) (k : Nat) (hk : (e + K).toNat = k) : mz K ⟨n, m, e⟩ = m * pw k := by subst hk; rfl
def NB : Int := (pw 1198 : Int)
theorem LBYB_lt : LB * YB < NB := by
  have e1 : LB = (pw 139 : Int) := pw_int 139
  have e2 : YB = (pw 1058 : Int) := pw_int 1058
  rw [e1, e2, ← Int.natCast_mul, pw_add]
  exact Int.ofNat_lt.2 (pw_lt (by decide))
theorem near_zv : zv (128 + 1130) nearD = NB := by
  unfold zv nearD NB
  rw [mz_pw _ _ _ _ 1198 (by decide), Nat.one_mul]
  rfl
theorem minus_near : MinusD nearD = ⟨true, 1, -60⟩ := by kernel_rfl
theorem minus_zv : zv (128 + 1130) (MinusD nearD) = -NB := by
  rw [minus_near]
  unfold zv NB
  rw [mz_pw _ _ _ _ 1198 (by decide), Nat.one_mul]
  rfl
theorem big_zv (n : Bool) (m : Nat) (hm : 0 < m) : (n = false → NB ≤ zv (128 + 1130) (bareN ⟨n, m, 0⟩)) ∧ (n = true → zv (128 + 1130) (bareN ⟨n, m, 0⟩) ≤ -NB) := by
  rw [zv_bareN (K := 128 + 1130) (d := ⟨n, m, 0⟩) (by decide) (by show (-(128 + 1130) : Int) ≤ 0; decide) ⟨by show (-2147483648 : Int) ≤ 0; decide, by show (0 : Int) ≤ 2147483648; decide⟩]
  have h : NB ≤ ((m * pw 1258 : Nat) : Int) := by
    unfold NB
    apply Int.ofNat_le.2
    have h1 : pw 1198 ≤ pw 1258 := pw_le (by decide)
    have h2 : pw 1258 ≤ m * pw 1258 := Nat.le_mul_of_pos_left _ hm
    exact Nat.le_trans h1 h2
  have hz : mz (128 + 1130) ⟨n, m, 0⟩ = m * pw 1258 := mz_pw _ _ _ _ 1258 (by decide)
  unfold zv
  rw [hz]
  generalize ((m * pw 1258 : Nat) : Int) = q at *
  cases n
  · refine ⟨fun _ => ?_, nofun⟩
    simp only [Bool.false_eq_true, if_false]
    exact h
  · refine ⟨nofun, fun _ => ?_⟩
    simp only [if_true]
    omega
theorem ofN_zk (n : Bool) (m : Nat) (hm : bl m ≤ 100) : Zk (128 + 1130) (bareN ⟨n, m, 0⟩) := by
  obtain ⟨k1, k2, k3⟩ := bareN_parts (n := n) (m := m) (e := 0) (by decide)
  by_cases h0 : m = 0
  · refine ⟨?_, ?_, ?_⟩ <;> rw [k3 h0] <;> decide
  · have := k2 h0; exact ⟨by omega, by omega, by omega⟩

theorem tiny_ok {x y : Dn} {z tt sg : Int} (ok : AkOk x y z tt) (xneg : (bareN x).neg = false) (x0 : (bareN x).m ≠ 0) (hE : (nearE (bareN x).m (topN (bareN x))).natAbs ≤ 1076) (hy : YEnd y) (y0 : y.m ≠ 0) (yz : Zk 1130 y)
    (ty : topN y ≤ -1) (ty2 : -100000 ≤ topN y) (hs : sg = 1 ∨ sg = -1) : TinyOk x y z tt sg := by
  obtain ⟨l1, l2, l3⟩ := logN_end x0 hE
  have p1 := MulD_end l1 hy
  have p2 := MulD_end l2 hy
  have hLL := LBYB_lt
  have e1 : tinyL x = logN (bareN x).m (topN (bareN x)) 128 := rfl
  have e2 : tinyZ x y = mulI (tinyL x) ⟨y, y⟩ := rfl
  rw [← e1] at l1 l2 l3 p1 p2
  have q1 : PEnd (tinyZ x y).lo := by rw [e2]; exact min4_all p1 p1 p2 p2
  have q2 : PEnd (tinyZ x y).hi := by rw [e2]; exact max4_all p1 p1 p2 p2
  have q3 : zv (128 + 1130) (tinyZ x y).lo ≤ zv (128 + 1130) (tinyZ x y).hi := by rw [e2]; exact min4_le_max4 (by decide) p1.zk p1.zk p2.zk p2.zk
  have a1 := q1.b1
  have a2 := q1.b2
  have a3 := q2.b1
  have a4 := q2.b2
  have o1 := (big_zv false 710 (by decide)).1 rfl
  have o2 := (big_zv true 746 (by decide)).2 rfl
  have k1 : Zk (128 + 1130) nearD := ⟨by decide, by decide, by decide⟩
  have k2 : Zk (128 + 1130) (MinusD nearD) := by rw [minus_near]; exact ⟨by decide, by decide, by decide⟩
  refine ⟨ok, xneg, x0, y0, ty, ty2, l1.sd, l2.sd, l3, ?_, q1.sd, q2.sd, ?_, ?_, ?_, ?_⟩
  · rw [CmpD_zk (K := 1130) (by decide) yz yz]
    apply Int.not_lt.1
    rw [cmpI_pos_iff]
    omega
  · rw [CmpD_zk (by decide) q1.zk q2.zk]
    apply Int.not_lt.1
    rw [cmpI_pos_iff]
    omega
  · rw [show ofN 710 = bareN ⟨false, 710, 0⟩ from rfl, CmpD_zk (by decide) q1.zk (ofN_zk _ _ (by decide)), cmpI_neg_iff]
    omega
  · rw [show ofN (-746) = bareN ⟨true, 746, 0⟩ from rfl, CmpD_zk (by decide) q2.zk (ofN_zk _ _ (by decide)), cmpI_pos_iff]
    omega
  · rcases hs with rfl | rfl
    · left
      refine ⟨rfl, ?_⟩
      rw [CmpD_zk (by decide) q2.zk k1, cmpI_neg_iff, near_zv]
      omega
    · right
      refine ⟨rfl, ?_⟩
      rw [CmpD_zk (by decide) q1.zk k2, cmpI_pos_iff, minus_zv]
      omega

end Go.Proofs.YtobpioceopfkpaaGreatDoor

/-
  A bare number is its own bare number.
-/
namespace Go.Proofs.YtobpioceopfkpaaGreatDoor
open Go.RowKit

theorem lo_odd (k : Nat) : lo (2 * k + 1) = 0 := lo_eq (m := k) (by rw [Nat.pow_zero, Nat.one_mul])
/-- the parts of a bare number -/
theorem bareN_full {n : Bool} {m : Nat} {e : Int} (h0 : m ≠ 0) (he : -100000 ≤ e ∧ e ≤ 100000) :
    ∃ k j : Nat, m = (2 * j + 1) * 2 ^ k ∧ bareN ⟨n, m, e⟩ = ⟨n, 2 * j + 1, e + (k : Int)⟩ ∧ bl m = bl (2 * j + 1) + k := by
  obtain ⟨j, hj⟩ := lo_spec h0
  refine ⟨lo m, j, by rw [Nat.mul_comm]; exact hj, ?_, ?_⟩
  · rw [bareN_pos (d := ⟨n, m, e⟩) h0]
    simp only
    rw [cutN_in (e := e) ⟨by omega, by omega⟩]
    have : m / 2 ^ lo m = 2 * j + 1 := by
      conv => lhs; lhs; rw [hj]
      exact Nat.mul_div_cancel_left _ (Nat.two_pow_pos _)
    rw [this]
  · conv => lhs; rw [hj, Nat.mul_comm]
    exact bl_mul_pow (by omega) _
theorem bareN_odd {n : Bool} {j : Nat} {e : Int} (he : -200000 ≤ e ∧ e ≤ 200000) : bareN ⟨n, 2 * j + 1, e⟩ = ⟨n, 2 * j + 1, e⟩ := by
  rw [bareN_pos (d := ⟨n, 2 * j + 1, e⟩) (by simp)]
  simp only
  rw [cutN_in (e := e) ⟨by omega, by omega⟩, lo_odd, Nat.pow_zero, Nat.div_one]
  simp
theorem bareN_idem {n : Bool} {m : Nat} {e : Int} (he : -100000 ≤ e ∧ e ≤ 100000) (hb : bl m ≤ 100000) : bareN (bareN ⟨n, m, e⟩) = bareN ⟨n, m, e⟩ := by
  by_cases h0 : m = 0
  · rw [bareN_zero (d := ⟨n, m, e⟩) h0]; rfl
  · obtain ⟨k, j, -, h, hl⟩ := bareN_full (n := n) h0 he
    rw [h, bareN_odd (by omega)]
theorem topN_bare {n : Bool} {m : Nat} {e : Int} (h0 : m ≠ 0) (he : -100000 ≤ e ∧ e ≤ 100000) (hb : bl m ≤ 100000) :
    topN (bareN ⟨n, m, e⟩) = (bl m : Int) - 1 + e ∧ (bareN ⟨n, m, e⟩).neg = n := by
  obtain ⟨k, j, -, h, hl⟩ := bareN_full (n := n) h0 he
  unfold topN
  rw [h, bareN_odd (by omega), if_neg (by simp)]
  simp only
  exact ⟨by omega, trivial⟩

end Go.Proofs.YtobpioceopfkpaaGreatDoor

/-
  Bits of a float's fields.
-/
namespace Go.Proofs.YtobpioceopfkpaaGreatDoor
open Go.RowKit

theorem and_frac {x : Nat} (hx : x < 18446744073709551616) : bits .and .u64 (x : Int) 4503599627370495 = ((x % 4503599627370496 : Nat) : Int) := by
  rw [u64_and _ _ (Int.natCast_nonneg _) (by omega) (by decide) (by decide), Int.toNat_natCast]
  congr 1
  exact Nat.and_two_pow_sub_one_eq_mod x 52
theorem and_field {x : Nat} (hx : x < 18446744073709551616) : bits .and .u64 ((x : Int) / 4503599627370496) 2047 = ((x / 4503599627370496 % 2048 : Nat) : Int) := by
  have e1 : (x : Int) / 4503599627370496 = ((x / 4503599627370496 : Nat) : Int) := by omega
  have h1 : x / 4503599627370496 < 4096 := by omega
  rw [e1, u64_and _ _ (Int.natCast_nonneg _) (by omega) (by decide) (by decide), Int.toNat_natCast]
  congr 1
  exact Nat.and_two_pow_sub_one_eq_mod (x / 4503599627370496) 11
theorem and_sign {x : Nat} (hx : x < 18446744073709551616) : bits .and .u64 (x : Int) 9223372036854775808 = ((if 9223372036854775808 ≤ x then 9223372036854775808 else 0 : Nat) : Int) := by
  rw [u64_and _ _ (Int.natCast_nonneg _) (by omega) (by decide) (by decide), Int.toNat_natCast]
  congr 1
  show x &&& 2 ^ 63 = if 2 ^ 63 ≤ x then 2 ^ 63 else 0
  have ht : x.testBit 63 = decide (2 ^ 63 ≤ x) := by
    rw [Nat.testBit_eq_decide_div_mod_eq]
    by_cases h1 : 2 ^ 63 ≤ x
    · have : x / 2 ^ 63 % 2 = 1 := by omega
      simp only [h1, this]
    · have : x / 2 ^ 63 % 2 = 0 := by omega
      simp only [h1, this]; decide
  apply Nat.eq_of_testBit_eq
  intro i
  rw [Nat.testBit_and, Nat.testBit_two_pow]
  by_cases hi : 63 = i
  · subst hi
    rw [ht]
    by_cases h1 : 2 ^ 63 ≤ x
    · rw [if_pos h1, Nat.testBit_two_pow]; simp only [h1]; rfl
    · rw [if_neg h1]; simp only [h1]; rfl
  · have hd : decide (63 = i) = false := decide_eq_false hi
    rw [hd, Bool.and_false]
    split
    · rw [Nat.testBit_two_pow, hd]
    · rw [Nat.zero_testBit]
theorem or_hidden {x : Nat} (hx : x < 4503599627370496) : bits .or .u64 (x : Int) 4503599627370496 = ((x + 4503599627370496 : Nat) : Int) := by
  rw [u64_or _ _ (Int.natCast_nonneg _) (by omega) (by decide) (by decide), Int.toNat_natCast]
  congr 1
  have := or_add (b := 1) (a := x) (t := 52) hx
  rw [Nat.or_comm]
  simpa [Nat.add_comm] using this

end Go.Proofs.YtobpioceopfkpaaGreatDoor

/-
  float: field, Neg, Finite, Kind, Dyad, Whole. Printed by gen_fa.py.
-/
namespace Go.Proofs.YtobpioceopfkpaaGreatDoor
open Go.RowKit

def fld (b : Nat) : Nat := b / 4503599627370496 % 2048
def frc (b : Nat) : Nat := b % 4503599627370496
def sgn (b : Nat) : Bool := decide (9223372036854775808 ≤ b)
def mant (b : Nat) : Nat := if fld b = 0 then frc b else frc b + 4503599627370496
def dyE (b : Nat) : Int := max (fld b : Int) 1 - 1075
def dyD (b : Nat) : Dn := bareN ⟨sgn b, mant b, dyE b⟩
theorem mant_lt (b : Nat) : mant b < 9007199254740992 := by
  have : frc b < 4503599627370496 := Nat.mod_lt _ (by decide)
  unfold mant; split <;> omega

set_option maxRecDepth 100000 in
set_option maxHeartbeats 4000000 in
theorem field_r {b : Nat} (hb : b < 18446744073709551616) (w : World) : Calls Tryz.prog 24 #[.int .u64 (b : Int)] w fun e w' => e = .returned (.int .i64 (fld b : Nat)) ∧ w = w' := by
  have h1 := and_field hb
  have h2 : fld b < 2048 := Nat.mod_lt _ (by decide)
  have h3 : b / 4503599627370496 % 2048 = fld b := rfl
  rw [h3] at h1
  generalize fld b = f at *
  clear h3
  have h4 : wrap64 (f : Int) = (f : Int) := by unfold wrap64; omega
  go_enter Tryz.func24, Tryz.ntmps24
  go_wp2
  refine bodyPost_ret (v := .int .i64 (f : Int)) (by simp [results, Tryz.results24, go_sem]) rfl ⟨rfl, rfl⟩

set_option maxRecDepth 100000 in
set_option maxHeartbeats 4000000 in
theorem neg_r {b : Nat} (hb : b < 18446744073709551616) (w : World) : Calls Tryz.prog 10 #[.int .u64 (b : Int)] w fun e w' => e = .returned (.bool (sgn b)) ∧ w = w' := by
  have h1 := and_sign hb
  have h2 : sgn b = decide (9223372036854775808 ≤ b) := rfl
  rw [h2]
  by_cases h : 9223372036854775808 ≤ b
  · rw [if_pos h] at h1
    rw [decide_eq_true h]
    have h1 : bits .and .u64 (b : Int) 9223372036854775808 = 9223372036854775808 := h1
    clear h h2
    go_enter Tryz.func10, Tryz.ntmps10
    go_wp2
    exact bodyPost_ret (v := .bool true) (by simp [results, Tryz.results10, go_sem]) rfl ⟨rfl, rfl⟩
  · rw [if_neg h] at h1
    rw [decide_eq_false h]
    have h1 : bits .and .u64 (b : Int) 9223372036854775808 = 0 := h1
    clear h h2
    go_enter Tryz.func10, Tryz.ntmps10
    go_wp2
    exact bodyPost_ret (v := .bool false) (by simp [results, Tryz.results10, go_sem]) rfl ⟨rfl, rfl⟩

set_option maxRecDepth 100000 in
set_option maxHeartbeats 4000000 in
theorem finite_r {b : Nat} (hb : b < 18446744073709551616) (w : World) : Calls Tryz.prog 9 #[.int .u64 (b : Int)] w fun e w' => e = .returned (.bool (decide (fld b < 2047))) ∧ w = w' := by
  have C := Lib.hid (fun w => field_r hb w)
  generalize fld b = f at *
  obtain ⟨g, hg⟩ : ∃ g, g = decide (f < 2047) := ⟨_, rfl⟩
  have z1 : decide ((f : Int) < 2047) = g := by
    rw [hg]
    by_cases h : f < 2047
    · have : (f : Int) < 2047 := by omega
      simp only [h, this]
    · have : ¬ (f : Int) < 2047 := by omega
      simp only [h, this]
  rw [← hg]
  have HG := Lib.hid hg
  clear hg
  go_enter Tryz.func9, Tryz.ntmps9
  go_wp2_with fail
  refine (C.out _).mono ?_
  rintro q w1 ⟨rfl, rfl⟩
  go_wp2
  refine bodyPost_ret (v := .bool g) (by rw [HG.out]; simp [results, Tryz.results9, go_sem]) rfl ⟨rfl, rfl⟩

set_option maxRecDepth 100000 in
set_option maxHeartbeats 4000000 in
theorem kind_r {b : Nat} (hb : b < 18446744073709551616) (hf : fld b < 2047) (h0 : ¬ (fld b = 0 ∧ frc b = 0)) (w : World) : Calls Tryz.prog 13 #[.int .u64 (b : Int)] w fun e w' => e = .returned (.int .i64 (if fld b = 0 then 1 else 2)) ∧ w = w' := by
  have C := Lib.hid (fun w => field_r hb w)
  have h1 := and_frac hb
  have h3 : b % 4503599627370496 = frc b := rfl
  rw [h3] at h1
  obtain ⟨k, hk⟩ : ∃ k : Int, k = if fld b = 0 then 1 else 2 := ⟨_, rfl⟩
  rw [← hk]
  generalize fld b = f at *
  generalize frc b = r at *
  clear h3
  by_cases hf0 : f = 0
  · subst hf0
    obtain rfl : k = 1 := hk
    have z1 : ((r : Int) == 0) = false := by rw [beq_eq_false_iff_ne]; intro h; exact h0 ⟨rfl, by omega⟩
    have z2 : (r == 0) = false := by rw [beq_eq_false_iff_ne]; intro h; exact h0 ⟨rfl, h⟩
    clear h0 hf
    go_enter Tryz.func13, Tryz.ntmps13
    go_wp2_with fail
    refine (C.out _).mono ?_
    rintro q w1 ⟨rfl, rfl⟩
    go_wp2
    refine bodyPost_ret (v := .int .i64 1) (by simp [results, Tryz.results13, go_sem]) rfl ⟨rfl, rfl⟩
  · obtain rfl : k = 2 := by rw [hk, if_neg hf0]
    have z1 : ((f : Int) == 0) = false := by rw [beq_eq_false_iff_ne]; omega
    have z2 : (f == 0) = false := by rw [beq_eq_false_iff_ne]; omega
    have z3 : decide ((f : Int) < 2047) = true := decide_eq_true (by omega)
    clear h0 hf0
    go_enter Tryz.func13, Tryz.ntmps13
    go_wp2_with fail
    refine (C.out _).mono ?_
    rintro q w1 ⟨rfl, rfl⟩
    go_wp2
    refine bodyPost_ret (v := .int .i64 2) (by simp [results, Tryz.results13, go_sem]) rfl ⟨rfl, rfl⟩


end Go.Proofs.YtobpioceopfkpaaGreatDoor
