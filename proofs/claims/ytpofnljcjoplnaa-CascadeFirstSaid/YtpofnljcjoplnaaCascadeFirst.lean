/-
  CascadeFirst returns true, whatever its list.
-/
import Derived.Test.YtpofnljcjoplnaaFirst
import Derived.Test.YtpofnljcjoplnaaArgs
namespace Go.Proofs.Ytpofnljcjoplnaa.cascadeFirst
open Go.ChangeShapes Go.WideShapes Go.ChangeAt Go.RowKit

theorem walk_long (a : Option Addr) (len cap : Nat) (h : 60 < len) (w : World) :
    Calls Try.prog 8 #[.slice a len cap] w fun e w' => e = .returned (.bool true) ∧ Below w.heap.size w w' := by
  go_enter Try.func8, Try.ntmps8
  go_wp2_with fail
  refine (alive10 _).mono ?_
  rintro e w1 ⟨rfl, hw1⟩
  go_wp2
  go_ret
  exact ⟨rfl, hw1⟩

theorem cells_new (w : World) (cs : Array Value) (t : TypeId) : ∀ j u, cs.toList[j]? = some u → (w.alloc (.cells cs t)).cell? ((⟨w.heap.size, 0, none⟩ : Addr).add j) = some u := by
  intro j u hu
  rw [Addr.add_lit, cell_of_row _ w.heap.size _ cs t (0, 0) (heap_alloc_new w _)]
  simpa using hu

/-- The ends: each number's rest by 3. -/
def endsOf (xs : List Int) : List Int := xs.map (· % 3)

theorem first_next {es : List Int} {k : Nat} {x : Int} (h : IsFirst es k x) (hx : ¬ x < 0) : IsFirst es (k + 1) x := by
  rcases h with ⟨rfl, _⟩ | ⟨j, hj, rfl, h1, h2⟩
  · exact absurd (by decide) hx
  · exact .inr ⟨j, by omega, rfl, h1, h2⟩
theorem first_none {es : List Int} {k : Nat} {x e : Int} (h : IsFirst es k x) (he : es[k]? = some e) (h0 : e ≠ 0) : IsFirst es (k + 1) x := by
  rcases h with ⟨rfl, h⟩ | ⟨j, hj, rfl, h1, h2⟩
  · refine .inl ⟨rfl, fun j hj => ?_⟩
    rcases Nat.lt_or_ge j k with hjk | hjk
    · exact h j hjk
    · obtain rfl : j = k := by omega
      rw [he]; simpa using h0
  · exact .inr ⟨j, by omega, rfl, h1, h2⟩
theorem first_here {es : List Int} {k : Nat} {x : Int} (h : IsFirst es k x) (he : es[k]? = some 0) (hx : x < 0) : IsFirst es (k + 1) k := by
  rcases h with ⟨rfl, h⟩ | ⟨j, hj, rfl, h1, h2⟩
  · exact .inr ⟨k, by omega, rfl, he, h⟩
  · omega
theorem first_uniq {es : List Int} {k : Nat} {x y : Int} (h : IsFirst es k x) (g : IsFirst es k y) : x = y := by
  rcases h with ⟨rfl, h⟩ | ⟨j, hj, rfl, h1, h2⟩ <;> rcases g with ⟨rfl, g⟩ | ⟨i, hi, rfl, g1, g2⟩
  · rfl
  · exact absurd g1 (h i hi)
  · exact absurd h1 (g j hj)
  · congr 1
    rcases Nat.lt_trichotomy i j with h | h | h
    · exact absurd g1 (h2 i h)
    · exact h.symm
    · exact absurd h1 (g2 j h)
theorem first_lo {es : List Int} {k : Nat} {x : Int} (h : IsFirst es k x) (hk : k ≤ 60) : -1 ≤ x ∧ x ≤ 60 := by
  rcases h with ⟨rfl, h⟩ | ⟨j, hj, rfl, h1, h2⟩
  · omega
  · omega

theorem first26_own {w : World} {B : Nat} {v : Value} {es : List Int} (hown : w.ownsRow B 56 4 v es.length (rowsOf es)) (hl : es.length ≤ 60) :
    Calls Try.prog 26 #[v] w fun e w' => Below w.heap.size w w' ∧
      ((e = .returned (.tuple #[.int .i64 0, .bool false]) ∧ IsFirst es es.length (-1)) ∨ ∃ j : Nat, e = .returned (.tuple #[.int .i64 j, .bool true]) ∧ IsFirst es es.length j) := by
  rcases hown.2 with ⟨rfl, h0⟩ | ⟨g, cap, cur, rfl, _, _⟩
  · refine (first26_nil w).mono ?_
    rintro e w' ⟨rfl, rfl⟩
    exact ⟨Below.refl _ _, .inl ⟨rfl, .inl ⟨rfl, by omega⟩⟩⟩
  · refine first26 g cap es w hl fun i u hu => ?_
    have := hown.cells (g := g) rfl i u hu
    rw [Addr.add_lit] at this
    simpa using this

set_option maxHeartbeats 2000000 in
theorem walk_short (a : Option Addr) (cap : Nat) (xs : List Int) (w : World) (h : xs.length ≤ 60) (hx : ∀ n ∈ xs, 0 ≤ n ∧ n ≤ 255) (hsl : Sl w (.slice a xs.length cap) (xs.map (.int .u8))) :
    Calls Try.prog 8 #[.slice a xs.length cap] w fun e w' => e = .returned (.bool true) ∧ Below w.heap.size w w' := by
  have hli : (xs.length : Int) ≤ 60 := by omega
  have HX := Lib.hid hx
  have HS := Lib.hid hsl
  clear hx hsl
  go_enter Try.func8, Try.ntmps8
  go_wp2_with fail
  refine (alive10 _).mono ?_
  rintro e w1 ⟨rfl, hw1⟩
  have hz1 := hw1.size
  go_wp2_with fail
  go_loopw [3, 4, 5] (fun l x i wr => ∃ (k : Nat) (y : Int), i = .int .i64 k ∧ x = .int .i64 y ∧ k ≤ xs.length ∧ -1 ≤ y ∧ y ≤ 60 ∧ Hid (IsFirst (endsOf xs) k y) ∧ wr.ownsRow w.heap.size 56 4 l k (rowsOf ((endsOf xs).take k)) ∧ Below w.heap.size w wr) (fun _ _ i _ => xs.length - (intOf i).toNat)
  case atStart => exact ⟨0, -1, rfl, rfl, Nat.zero_le _, by omega, by omega, .inl ⟨rfl, by omega⟩, by simpa [rowsOf] using World.ownsRow_nil _ _ _ _, hw1⟩
  case round =>
    obtain ⟨k, y, rfl, rfl, hk, hy0, hy1, hf, hown, hb⟩ := hrel
    by_cases hlt : k < xs.length
    · obtain ⟨_, _, he, hcell⟩ := HS.out.below hb
      simp only [List.length_map, Value.slice.injEq] at he hcell
      obtain ⟨rfl, _, rfl⟩ := he
      obtain ⟨b, off, rfl, hc2⟩ := hcell (by omega)
      have hc : wr.cell? ⟨b, off + k, none⟩ = some (.int .u8 xs[k]) := hc2 k _ (by simp [hlt])
      obtain ⟨x0, x1⟩ := HX.out xs[k] (List.getElem_mem _)
      have hek : Hid ((endsOf xs)[k]? = some (xs[k] % 3)) := by simp [Hid, endsOf, hlt]
      clear hc2 hcell
      generalize xs[k] = x at hc x0 x1 hek
      have hki : (k : Int) < xs.length := by omega
      have hq0 : 0 ≤ x % 3 := by omega
      have hq1 : x % 3 < 3 := by omega
      go_wp2_with (at_builtin; refine wpList_app rfl (.tmp 26) (.tmp 29) 54 rfl w.heap.size 56 (.agg #[.string ⟨#[]⟩, .int .i64 0, .int .i64 0, .int .i64 0]) 4 40 Try.underlying54 Try.info56 rfl (by decide) (by decide) _ _ _ rfl ⟨wr.heap.size, 0, none⟩ 1 1 [.string ⟨#[]⟩, .int .i64 0, .int .i64 0, .int .i64 (x % 3)] rfl rfl (cells_new _ _ _) ?h1 (hown.alloc _) (hb.alloc hb.size _) ?h2 ?h3 ?_)
      case h1 =>
        intro u hu
        simp only [List.mem_cons, List.not_mem_nil, or_false] at hu
        rcases hu with rfl | rfl | rfl | rfl <;> rfl
      case h2 => have := hb.size; simp; omega
      case h3 => omega
      intro v1 w2 hown1 hb1 _
      have HO : Hid (w2.ownsRow w.heap.size 56 4 v1 (k + 1) (rowsOf ((endsOf xs).take (k + 1)))) := by
        have e : (endsOf xs).take (k + 1) = (endsOf xs).take k ++ [x % 3] := by
          rw [List.take_add_one, hek.out]; rfl
        rw [Hid, e, rowsOf_snoc]; exact hown1.out
      clear hown1 hown
      by_cases h0 : x % 3 = 0
      · have t0 : (x % 3 == 0) = true := by simp [h0]
        have hE : Hid ((endsOf xs)[k]? = some 0) := by rw [Hid, ← h0]; exact hek
        clear h0 hek
        by_cases hyn : y < 0
        · go_wp2
          go_roundw
          case rel => exact ⟨k + 1, k, by go_num, rfl, by omega, by omega, by omega, first_here hf.out hE.out hyn, HO, hb1⟩
          case measure => simp [intOf]; omega
        · go_wp2
          go_roundw
          case rel => exact ⟨k + 1, y, by go_num, rfl, by omega, by omega, by omega, first_next hf.out hyn, HO, hb1⟩
          case measure => simp [intOf]; omega
      · have t0 : (x % 3 == 0) = false := by simp [h0]
        have hF : Hid (IsFirst (endsOf xs) (k + 1) y) := first_none hf.out hek.out h0
        clear h0 hek
        go_wp2
        go_roundw
        case rel => exact ⟨k + 1, y, by go_num, rfl, by omega, by omega, by omega, hF, HO, hb1⟩
        case measure => simp [intOf]; omega
    · have hge : (xs.length : Int) ≤ k := by omega
      obtain rfl : k = xs.length := by omega
      have hle : (endsOf xs).length = xs.length := by simp [endsOf]
      have hF : Hid (IsFirst (endsOf xs) (endsOf xs).length y) := by rw [hle]; exact hf
      rw [List.take_of_length_le (by omega)] at hown
      rw [← hle] at hown
      have hlo := first_lo hF.out (by omega)
      go_wp2_with fail
      refine (first26_own hown (by omega)).mono ?_
      rintro e w2 ⟨hb2, ⟨rfl, hf2⟩ | ⟨j, rfl, hf2⟩⟩
      · have hy : y = -1 := first_uniq hF.out hf2
        subst hy
        have hB : Hid (Below w.heap.size w w2) := below_then hb hb2
        clear hown hf2 hF hf hb2
        go_wp2
        go_ret
        exact ⟨rfl, hB.out⟩
      · have hy : y = (j : Int) := first_uniq hF.out hf2
        subst hy
        have hB : Hid (Below w.heap.size w w2) := below_then hb hb2
        have hj0 : (0 : Int) ≤ j := by omega
        clear hown hf2 hF hf hb2
        go_wp2
        go_ret
        exact ⟨rfl, hB.out⟩

theorem walk (w : World) (a1 : Option Addr) (len1 cap1 : Nat) (z1 : List Int) (w1 : IsRow .u8 w a1 len1 cap1 z1) :
    Calls Try.prog 8 #[.slice a1 len1 cap1] w fun e w' => e = .returned (.bool true) ∧ Below w.heap.size w w' := by
  obtain ⟨xs, rfl, hs, hx⟩ := w1.sl
  by_cases h : 60 < xs.length
  · exact walk_long a1 _ cap1 h w
  · exact walk_short a1 cap1 xs w (by omega) (fun n hn => bounds_u8 (hx n hn)) hs

/-! ### The statement's frame, as the guide's skeleton writes it -/
theorem own : ownKnob Try.prog.godebug = none := by kernel_rfl
theorem laidOut : laidOutB Try.prog = true := by kernel_rfl
set_option linter.unusedVariables false
set_option maxRecDepth 100000 in
theorem lifted (os : Os) (started : os.Started) (H : Type) (enc : TypeId × Value → H) :
    ReturnsInHanded {} Try.checked os 8 .any (Rows.cascadeFirstSpec.pre6 enc Try.prog Try.f8 Rows.cascadeFirstRow.domain false) (Rows.cascadeFirstSpec.post enc Try.prog Try.f8 false true false false) := by
  refine returnsInHanded_of_change (C := Try.checked) own started (by kernel_rfl) Try.func8
    (ChangeSpec.witness6 (enc := enc) (C := Try.checked) false ⟨#[], #[.slice none 0 0], []⟩ 8 (by kernel_rfl) (by kernel_rfl) (by kernel_rfl) (by kernel_rfl)) ?_
  intro W base args ds gs before hval0 hW hcnd _
  have hval : ∀ (j : Nat) t v, Try.f8.params[j]? = some t → args[j]? = some v → Value.okWide Try.prog W .any base t v := hval0
  have hW' := hW
  obtain ⟨p, q, hA0, hV, rfl, hfz, hnd⟩ := hW
  have hA : DataW.TrodAll enc Try.prog W 0 (fun _ => true) true Try.f8.params.toList args.toList ds p := hA0
  rw [Try.params8] at hA hval
  obtain ⟨v0, vs0, d0, ds0, p0, q0, hargs, rfl, rfl, h0, r0⟩ := trodAll_cons hA
  obtain ⟨rfl, rfl, rfl⟩ := trodAll_nil r0
  obtain rfl : args = #[v0] := by cases args; simp_all
  obtain ⟨rfl, rfl⟩ := trodVars_none hV
  obtain ⟨a0, len0, cap0, rfl⟩ := okWide_slice Try.underlying51 (hval 0 51 v0 rfl rfl)
  have k0 := h0
  have lt0 : ∀ x ∈ p0, x.block < W.heap.size := by obtain ⟨m, hm⟩ := k0; exact DataW.trod_lt m _ _ _ hm
  obtain ⟨z0, w0⟩ : ∃ zs, IsRow .u8 W a0 len0 cap0 zs := by
    obtain ⟨fuel, hf⟩ := h0
    rcases open_ints Try.underlying51 Try.underlying5 (by kernel_rfl) hf with ⟨hcs, _⟩ | ⟨x, l, c, zs, hcs, _, hl, hm, hz, _, hcell, hwz⟩
    · simp [Value.cells] at hcs
      obtain ⟨rfl, rfl, rfl⟩ := hcs
      exact ⟨[], .inl ⟨rfl, rfl, rfl, rfl⟩⟩
    · simp [Value.cells] at hcs
      obtain ⟨rfl, rfl, rfl⟩ := hcs
      exact ⟨zs, .inr ⟨_, rfl, hl, hm, by simpa using hz, hcell, hwz⟩⟩
  clear hA0 hval0
  refine (walk W a0 len0 cap0 z0 w0).mono fun e W' ⟨he, bel⟩ => ?_
  subst he
  exact ⟨_, rfl, _, _, _, [], _, [], hW', trodAll_mk1 (shut_bool Try.underlying4 _), (trodAll_cons_mk (Below.trod laidOut (by kernel_rfl) (of_decide_eq_true (by kernel_rfl)) k0 bel lt0) trodAll_mk0), rfl, bel.frame _, fun h => by cases h⟩

theorem over : Rows.cascadeFirstRow.holds Try.pinned (OpenSpec.ofChange Rows.cascadeFirstSpec) :=
  OpenClaim.holds_of_wide 8 Try.f8 rfl rfl rfl rfl rfl rfl rfl ⟨rfl, rfl, rfl, rfl, rfl⟩ rfl rfl rfl rfl rfl (by kernel_rfl) Try.func8 (by kernel_rfl)
    (of_decide_eq_true (by kernel_rfl)) (by unfold Func.isWrapper; first | (rw [if_pos (by decide +kernel)]; kernel_rfl) | (rw [if_neg (by decide +kernel)]; exact ⟨rfl, rfl⟩))
    (fun os started H enc _ => lifted os started H enc)

theorem proved : Rows.CascadeFirstSaid := over
#print axioms proved
end Go.Proofs.Ytpofnljcjoplnaa.cascadeFirst
