/-
  No cell of these rows narrows 'for every input' (looked for: loops, veiled, ifaces, maps, wideKeys, modest, calm, conditions, laid).
  DERIVED. THE GIVEN ROWS OF THIS SEAT. 4 by the template 'for every input the law returns true; each argument reads behind the call as it read before'; 0 by the template 'total and deterministic' (their statements: YtbknkcfnhfolpaaTotals.lean).
  GIVEN WITH THE SEED: the statements are not yours to turn. If you find one false, say at which input.
  Laid BY PROGRAM, IN A SANDBOX (cutbox-rows.mjs): the forced cells as the released guide's own fill.sh prints them over the translation e3d3265bb81293fa… (all of the seat's roots in one cut). By AI agents, Wed Nov 11 2026. No macro, syntax, notation, axiom, sorry.
-/
import Derived.Test.YtbknkcfnhfolpaaChecked
import GoSem.Claim
import GoSem.ClaimJoined
import GoSem.ClaimMapViews
import Derived.JoinedTies
import Derived.KernelRfl
namespace Go.Proofs.Ytbknkcfnhfolpaa
/- THE CELL 'sum', in the pinned program and in every row, IS THE sha256 OF THE DUMP (.gsa) THAT YtbknkcfnhfolpaaProg.lean LOADS. Nothing in Lean hashes anything: it is a label: what it is worth is what the hold of that sum in a sandbox is worth. -/
noncomputable def Try.pinned : Pinned := { name := "ytbknkcfnhfolpaa", sum := "e3d3265bb81293fa79e29eea53b006cc092e306e8c378ebcc25b23d8c1b7c370", checked := Try.checked }
namespace Rows
def none {H : Type} : Left H := { results := [], args := [] }

/-- 'planimeterlaw09.DdProds': WHATEVER THE INPUT: true; the input reads as it did. -/
def ddProdsSpec : ChangeSpec := { name := "ddProds", fn := fun _ => fun
  | [d1, d2] => { results := [.lit (.bool true)], args := [d1, d2] }
  | _ => none }
def ddProdsRow : OpenClaim := { program := "ytbknkcfnhfolpaa", sum := "e3d3265bb81293fa79e29eea53b006cc092e306e8c378ebcc25b23d8c1b7c370", func := "planimeter/planimeterlaw09.DdProds", spec := "ddProds", inPlace := ["math.Float64frombits", "math.Float64bits"], apart := false }
def DdProdsSaid : Prop := ddProdsRow.holds Try.pinned (OpenSpec.ofChange ddProdsSpec)

/-- ITS FALSE NEIGHBOUR: 'it returns false'. Refute it at one input. -/
def ddProdsWrong : ChangeSpec := { name := "ddProds", fn := fun _ => fun
  | [d1, d2] => { results := [.lit (.bool false)], args := [d1, d2] }
  | _ => none }
def DdProdsWrongFalsely : Prop := ddProdsRow.holds Try.pinned (OpenSpec.ofChange ddProdsWrong)

/-- 'planimeterlaw09.DdPairs': WHATEVER THE INPUT: true; the input reads as it did. -/
def ddPairsSpec : ChangeSpec := { name := "ddPairs", fn := fun _ => fun
  | [d1, d2, d3, d4] => { results := [.lit (.bool true)], args := [d1, d2, d3, d4] }
  | _ => none }
def ddPairsRow : OpenClaim := { program := "ytbknkcfnhfolpaa", sum := "e3d3265bb81293fa79e29eea53b006cc092e306e8c378ebcc25b23d8c1b7c370", func := "planimeter/planimeterlaw09.DdPairs", spec := "ddPairs", inPlace := ["math.Float64frombits", "math.Float64bits"], apart := false }
def DdPairsSaid : Prop := ddPairsRow.holds Try.pinned (OpenSpec.ofChange ddPairsSpec)

/-- ITS FALSE NEIGHBOUR: 'it returns false'. Refute it at one input. -/
def ddPairsWrong : ChangeSpec := { name := "ddPairs", fn := fun _ => fun
  | [d1, d2, d3, d4] => { results := [.lit (.bool false)], args := [d1, d2, d3, d4] }
  | _ => none }
def DdPairsWrongFalsely : Prop := ddPairsRow.holds Try.pinned (OpenSpec.ofChange ddPairsWrong)

/-- 'planimeterlaw09.DdTurned': WHATEVER THE INPUT: true; the input reads as it did. -/
def ddTurnedSpec : ChangeSpec := { name := "ddTurned", fn := fun _ => fun
  | [d1, d2] => { results := [.lit (.bool true)], args := [d1, d2] }
  | _ => none }
def ddTurnedRow : OpenClaim := { program := "ytbknkcfnhfolpaa", sum := "e3d3265bb81293fa79e29eea53b006cc092e306e8c378ebcc25b23d8c1b7c370", func := "planimeter/planimeterlaw09.DdTurned", spec := "ddTurned", inPlace := ["math.Float64frombits"], apart := false }
def DdTurnedSaid : Prop := ddTurnedRow.holds Try.pinned (OpenSpec.ofChange ddTurnedSpec)

/-- ITS FALSE NEIGHBOUR: 'it returns false'. Refute it at one input. -/
def ddTurnedWrong : ChangeSpec := { name := "ddTurned", fn := fun _ => fun
  | [d1, d2] => { results := [.lit (.bool false)], args := [d1, d2] }
  | _ => none }
def DdTurnedWrongFalsely : Prop := ddTurnedRow.holds Try.pinned (OpenSpec.ofChange ddTurnedWrong)

/-- 'planimeterlaw09.DdSums': WHATEVER THE INPUT: true; the input reads as it did. -/
def ddSumsSpec : ChangeSpec := { name := "ddSums", fn := fun _ => fun
  | [d1, d2] => { results := [.lit (.bool true)], args := [d1, d2] }
  | _ => none }
def ddSumsRow : OpenClaim := { program := "ytbknkcfnhfolpaa", sum := "e3d3265bb81293fa79e29eea53b006cc092e306e8c378ebcc25b23d8c1b7c370", func := "planimeter/planimeterlaw09.DdSums", spec := "ddSums", inPlace := ["math.Float64frombits", "math.Float64bits"], apart := false }
def DdSumsSaid : Prop := ddSumsRow.holds Try.pinned (OpenSpec.ofChange ddSumsSpec)

/-- ITS FALSE NEIGHBOUR: 'it returns false'. Refute it at one input. -/
def ddSumsWrong : ChangeSpec := { name := "ddSums", fn := fun _ => fun
  | [d1, d2] => { results := [.lit (.bool false)], args := [d1, d2] }
  | _ => none }
def DdSumsWrongFalsely : Prop := ddSumsRow.holds Try.pinned (OpenSpec.ofChange ddSumsWrong)

/- THE SECOND FORM. 'bulk': how many values and letters a reading holds, each counted each time it is reached (what is shared counts as often as it is met; a slice's spare places count too). A statement '..UptoSaid' is the law's where the arguments, and the package variables that the reading takes, are together of bulk at most 1048576: NARROWER than '..Said'. Prove '..Said' where nothing that the law and all that it calls make is longer than what came in: it says more and counts as full. Else prove '..UptoSaid'. A law counts once. -/
mutual
def uptoBulk {H : Type} : DataW H → Nat
  | .lit (.string bytes) => bytes.length + 1
  | .lit _ => 1
  | .nil => 1
  | .ptr d => uptoBulk d + 1
  | .slice elems spare => uptoBulkAll elems + uptoBulkAll spare + 1
  | .agg parts => uptoBulkAll parts + 1
  | .iface _ d => uptoBulk d + 1
  | .map entries => uptoBulkEntries entries + 1
  | .held _ => 1
def uptoBulkAll {H : Type} : List (DataW H) → Nat
  | [] => 0
  | d :: r => uptoBulk d + uptoBulkAll r
def uptoBulkEntries {H : Type} : List (Lit × DataW H) → Nat
  | [] => 0
  | x :: r => uptoBulkEntry x + uptoBulkEntries r
def uptoBulkEntry {H : Type} : Lit × DataW H → Nat
  | (.string bytes, d) => bytes.length + uptoBulk d + 1
  | (_, d) => uptoBulk d + 1
 end
def uptoSmall : (H : Type) → List (DataW H) → Bool := fun _ ds => decide (uptoBulkAll ds ≤ 1048576)
def OpenSpec.upto (s : _root_.Go.ChangeSpec) : _root_.Go.OpenSpec := { _root_.Go.OpenSpec.ofChange s with cond := some uptoSmall }

/-- 'planimeterlaw09.DdProds', WHERE WHAT IT READS IS OF BULK AT MOST 1048576: true; the input reads as it did. -/
def ddProdsUptoRow : OpenClaim := { program := "ytbknkcfnhfolpaa", sum := "e3d3265bb81293fa79e29eea53b006cc092e306e8c378ebcc25b23d8c1b7c370", func := "planimeter/planimeterlaw09.DdProds", spec := "ddProds", inPlace := ["math.Float64frombits", "math.Float64bits"], apart := false, narrowed := true }
def DdProdsUptoSaid : Prop := ddProdsUptoRow.holds Try.pinned (OpenSpec.upto ddProdsSpec)

/-- 'planimeterlaw09.DdPairs', WHERE WHAT IT READS IS OF BULK AT MOST 1048576: true; the input reads as it did. -/
def ddPairsUptoRow : OpenClaim := { program := "ytbknkcfnhfolpaa", sum := "e3d3265bb81293fa79e29eea53b006cc092e306e8c378ebcc25b23d8c1b7c370", func := "planimeter/planimeterlaw09.DdPairs", spec := "ddPairs", inPlace := ["math.Float64frombits", "math.Float64bits"], apart := false, narrowed := true }
def DdPairsUptoSaid : Prop := ddPairsUptoRow.holds Try.pinned (OpenSpec.upto ddPairsSpec)

/-- 'planimeterlaw09.DdTurned', WHERE WHAT IT READS IS OF BULK AT MOST 1048576: true; the input reads as it did. -/
def ddTurnedUptoRow : OpenClaim := { program := "ytbknkcfnhfolpaa", sum := "e3d3265bb81293fa79e29eea53b006cc092e306e8c378ebcc25b23d8c1b7c370", func := "planimeter/planimeterlaw09.DdTurned", spec := "ddTurned", inPlace := ["math.Float64frombits"], apart := false, narrowed := true }
def DdTurnedUptoSaid : Prop := ddTurnedUptoRow.holds Try.pinned (OpenSpec.upto ddTurnedSpec)

/-- 'planimeterlaw09.DdSums', WHERE WHAT IT READS IS OF BULK AT MOST 1048576: true; the input reads as it did. -/
def ddSumsUptoRow : OpenClaim := { program := "ytbknkcfnhfolpaa", sum := "e3d3265bb81293fa79e29eea53b006cc092e306e8c378ebcc25b23d8c1b7c370", func := "planimeter/planimeterlaw09.DdSums", spec := "ddSums", inPlace := ["math.Float64frombits", "math.Float64bits"], apart := false, narrowed := true }
def DdSumsUptoSaid : Prop := ddSumsUptoRow.holds Try.pinned (OpenSpec.upto ddSumsSpec)

end Rows
end Go.Proofs.Ytbknkcfnhfolpaa
