/-
  A slice that the call made: make, append from whatever slice. Over any program.
-/
import Derived.Test.YtbknkcfnhfolpaaBase
import Derived.Laws.OwnMore
namespace Go.Proofs.Ytbknkcfnhfolpaa
open Go.RowKit

theorem run_app_none {P : Program} {w : World} (base : Nat) (t ty e : TypeId) (i : TypeInfo) (size c : Nat) (ht : P.underlying t = some (.slice e)) (hi : P.info? e = some i)
    (v : Value) (n : Nat) (xs : List Value) (hown : w.ownsRow base e size v n xs) :
    (Builtin.append_ #[t, t] ty #[v, .slice none 0 c]).run P w = .ok v w := by
  rcases hown.2 with ⟨rfl, rfl⟩ | ⟨g, cap, cur, rfl, _, _, hnc, _⟩
  · simp [Builtin.append_, run_underlying ht, sizeOf, typeInfo, hi, Builtin.lenOf, Builtin.firstCells]
  · simp [Builtin.append_, run_underlying ht, sizeOf, typeInfo, hi, Builtin.lenOf, Builtin.firstCells, hnc, storeCells]

theorem wpList_app0 {P : Program} {w : World} {ops : Array Oper} {rest : List Oper} {o : Oper} {a : Act} {Q : Exit → Act → World → Prop} (hgd : o.guard = none) (s x : Operand) (t : TypeId)
    (ho : o.op = .call { callee := .builtin .append, args := #[s, x], argTypes := #[t, t] })
    (base : Nat) (e : TypeId) (i : TypeInfo) (size c : Nat) (ht : P.underlying t = some (.slice e)) (hi : P.info? e = some i)
    (v : Value) (n : Nat) (xs : List Value) (hs : a.eval s = v) (hown : w.ownsRow base e size v n xs) (hx : a.eval x = .slice none 0 c)
    (h : wpList P ops Q rest (a.put o.dst v) w) : wpList P ops Q (o :: rest) a w := by
  refine wpList_plain hgd fun K hK => ?_
  have hrun := run_app_none (P := P) (w := w) base t o.type e i size c ht hi v n xs hown
  unfold Oper.wp
  simp [execOp, ho, resolve, invoke, builtin, hs, hx, hrun, Result.andThen]
  exact hK _ _ h

/-- append(s, x...), s a row of the call's own, x any slice that reads as a list. -/
theorem wpList_apps {P : Program} {w w0 : World} {ops : Array Oper} {rest : List Oper} {o : Oper} {a : Act} {Q : Exit → Act → World → Prop} (hgd : o.guard = none) (s x : Operand) (t : TypeId)
    (ho : o.op = .call { callee := .builtin .append, args := #[s, x], argTypes := #[t, t] })
    (B : Nat) (e : TypeId) (z : Value) (bytes : Nat) (ht : P.underlying t = some (.slice e))
    (hi : (P.info? e).map (fun i => (i.zero, i.size, i.bytes)) = some (some z, 1, bytes)) (hzs : z.cells.size = 1) (hbytes : bytes ≤ 64)
    (v : Value) (n : Nat) (xs : List Value) (hs : a.eval s = v) (ad : Option Addr) (m c : Nat) (news : List Value) (hx : a.eval x = .slice ad m c)
    (hl : news.length = m) (hnews : Hid (0 < m → ∃ b off, ad = some ⟨b, off, none⟩ ∧ ∀ j u, news[j]? = some u → w.cell? ⟨b, off + j, none⟩ = some u)) (h1 : ∀ u ∈ news, u.oneCell' = true)
    (hown : w.ownsRow B e 1 v n xs) (hb : Below B w0 w) (hB : B ≤ w.heap.size)
    (hn : n + m ≤ 1099511627776)
    (h : ∀ v' w', Hid (w'.ownsRow B e 1 v' (n + m) (xs ++ news)) → Below B w0 w' → B ≤ w'.heap.size → wpList P ops Q rest (a.put o.dst v') w') :
    wpList P ops Q (o :: rest) a w := by
  have HN := hnews.out
  by_cases hm : 0 < m
  · obtain ⟨b, off, rfl, hc⟩ := HN hm
    refine wpList_app hgd s x t ho B e z 1 bytes ht hi hzs (by decide) hbytes v n xs hs ⟨b, off, none⟩ m c news hx (by omega) ?_ h1 hown hb hB hn h
    intro j u hj
    rw [Addr.add_lit]
    exact hc j u hj
  · obtain rfl : m = 0 := by omega
    have hnil : news = [] := List.eq_nil_of_length_eq_zero hl
    subst hnil
    cases ad with
    | none =>
      obtain ⟨i, hi', _⟩ := Option.map_eq_some_iff.1 hi
      refine wpList_app0 hgd s x t ho B e i 1 c ht hi' v n xs hs hown hx (h v w ?_ hb hB)
      simpa [Hid] using hown
    | some p =>
      refine wpList_app hgd s x t ho B e z 1 bytes ht hi hzs (by decide) hbytes v n xs hs p 0 c [] hx rfl (by simp) (by simp) hown hb hB hn h

/-- make([]T, n) -/
theorem wpList_mk {P : Program} {w w0 : World} {ops : Array Oper} {rest : List Oper} {o : Oper} {a : Act} {Q : Exit → Act → World → Prop} (hgd : o.guard = none) (l : Operand) (t : TypeId)
    (ho : o.op = Op.makeSlice t l l)
    (B : Nat) (e : TypeId) (z : Value) (bytes : Nat) (ht : P.underlying t = some (.slice e))
    (hi : (P.info? e).map (fun i => (i.zero, i.size, i.bytes)) = some (some z, 1, bytes)) (hzs : z.cells = #[z]) (hbytes : bytes ≤ 64)
    (k : IntKind) (L : Int) (n : Nat) (hl : a.eval l = .int k L) (hL : L = (n : Int)) (hn : n ≤ 1099511627776) (hb : Below B w0 w) (hB : B ≤ w.heap.size)
    (h : ∀ w', Hid (w'.ownsRow B e 1 (.slice (some ⟨w.heap.size, 0, none⟩) n n) n (List.replicate n z)) → Below B w0 w' → B ≤ w'.heap.size → wpList P ops Q rest (a.put o.dst (.slice (some ⟨w.heap.size, 0, none⟩) n n)) w') :
    wpList P ops Q (o :: rest) a w := by
  obtain ⟨i0, hi, hz0, hz1, hz2⟩ := info_parts hi
  refine wpList_make_full w hgd l l t ho B e i0 z 1 ht hi hz0 hz1 k k L L n hl hl hL hL ?_ ?_ hB ?_
  · rw [hz2]; have := Nat.mul_le_mul hbytes hn; omega
  · simp only [maxLen]; omega
  · intro w' h1 hg
    rw [hzs, Nat.mul_one, toList_madeCells_one] at h1
    refine h w' h1 ?_ ?_
    · exact hb.grown hg hB (fun j hj => by simp at hj)
    · have := hg.size; omega

/-- a literal []T of no elements -/
theorem own_lit0 (w : World) (e : TypeId) : (w.alloc (.cells #[] e)).ownsRow w.heap.size e 1 (.slice (some ⟨w.heap.size, 0, none⟩) 0 0) 0 [] :=
  World.ownsRow_lit w #[] 0 (Nat.le_refl _) (by decide) rfl

end Go.Proofs.Ytbknkcfnhfolpaa
