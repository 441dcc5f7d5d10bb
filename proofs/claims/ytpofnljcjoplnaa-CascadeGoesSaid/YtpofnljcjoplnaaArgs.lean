/-
  A slice of integers that came in, as a list. Over any program.
-/
import Derived.Test.YtpofnljcjoplnaaBase
namespace Go.Proofs.Ytpofnljcjoplnaa
open Go.RowKit

/-- What a law is told of a slice of integers that came in: nil, or a row of cells. -/
def IsRow (k : IntKind) (w : World) (a : Option Addr) (len cap : Nat) (zs : List Int) : Prop :=
  (a = none ∧ len = 0 ∧ cap = 0 ∧ zs = []) ∨
  ∃ x, a = some x ∧ len ≤ cap ∧ cap ≤ maxLen ∧ zs.length = cap ∧ (∀ i, i < zs.length → w.cell? (x.add i) = some (.int k (zs.getD i 0))) ∧ ∀ n ∈ zs, (Lit.int k n).wf = true
theorem IsRow.sl {k : IntKind} {w : World} {a : Option Addr} {len cap : Nat} {zs : List Int} (h : IsRow k w a len cap zs) :
    ∃ xs : List Int, xs.length = len ∧ Sl w (.slice a len cap) (xs.map (.int k)) ∧ ∀ n ∈ xs, (Lit.int k n).wf = true := by
  rcases h with ⟨rfl, rfl, rfl, rfl⟩ | ⟨x, rfl, hl, _, hz, hc, hw⟩
  · exact ⟨[], rfl, Sl.nil w, by simp⟩
  · have hlen : (zs.take len).length = len := by simp; omega
    refine ⟨zs.take len, hlen, ⟨some x, cap, by rw [List.length_map, hlen], fun h0 => ?_⟩, fun n hn => hw n (List.mem_of_mem_take hn)⟩
    rw [List.length_map, hlen] at h0
    obtain ⟨b, off, s⟩ := x
    have h0' := hc 0 (by omega)
    cases s with
    | some _ =>
      exfalso
      rw [show Addr.add _ 0 = _ from by unfold Addr.add; rfl] at h0'
      unfold World.cell? at h0'
      split at h0' <;> simp at h0'
    | none =>
      refine ⟨b, off, rfl, fun i u hu => ?_⟩
      rw [List.getElem?_map] at hu
      obtain ⟨z, hz', rfl⟩ := Option.map_eq_some_iff.1 hu
      rw [List.getElem?_take] at hz'
      split at hz'
      · have := hc i (by omega)
        rw [Addr.add_lit] at this
        rw [this, List.getD_eq_getElem?_getD, hz']
        rfl
      · cases hz'

end Go.Proofs.Ytpofnljcjoplnaa
