/-
  No cell of these rows narrows 'for every input' (looked for: loops, veiled, ifaces, maps, wideKeys, modest, calm, conditions, laid).
  DERIVED. THE GIVEN ROWS OF THIS SEAT. 7 by the template 'for every input the law returns true; each argument reads behind the call as it read before'; 0 by the template 'total and deterministic' (their statements: YtpofnljcjoplnaaTotals.lean).
  GIVEN WITH THE SEED: the statements are not yours to turn. If you find one false, say at which input.
  Laid BY PROGRAM, IN A SANDBOX (cutbox-rows.mjs): the forced cells as the released guide's own fill.sh prints them over the translation 91f62d211b6cd9f3… (all of the seat's roots in one cut). By AI agents, Wed Nov 11 2026. No macro, syntax, notation, axiom, sorry.
-/
import Derived.Test.YtpofnljcjoplnaaChecked
import GoSem.Claim
import GoSem.ClaimJoined
import GoSem.ClaimMapViews
import Derived.JoinedTies
import Derived.KernelRfl
namespace Go.Proofs.Ytpofnljcjoplnaa
/- THE CELL 'sum', in the pinned program and in every row, IS THE sha256 OF THE DUMP (.gsa) THAT YtpofnljcjoplnaaProg.lean LOADS. Nothing in Lean hashes anything: it is a label: what it is worth is what the hold of that sum in a sandbox is worth. -/
noncomputable def Try.pinned : Pinned := { name := "ytpofnljcjoplnaa", sum := "91f62d211b6cd9f31dfa23a2905aa6c67abbef1b6928b2cdcba3e0664e46bfee", checked := Try.checked }
namespace Rows
def none {H : Type} : Left H := { results := [], args := [] }

/-- 'planimeterlaw22.CascadePlans': WHATEVER THE INPUT: true; the input reads as it did. -/
def cascadePlansSpec : ChangeSpec := { name := "cascadePlans", fn := fun _ => fun
  | [d1, d2] => { results := [.lit (.bool true)], args := [d1, d2] }
  | _ => none }
def cascadePlansRow : OpenClaim := { program := "ytpofnljcjoplnaa", sum := "91f62d211b6cd9f31dfa23a2905aa6c67abbef1b6928b2cdcba3e0664e46bfee", func := "planimeter/planimeterlaw22.CascadePlans", spec := "cascadePlans", unfollowed := true, recurses := true, apart := false }
def CascadePlansSaid : Prop := cascadePlansRow.holds Try.pinned (OpenSpec.ofChange cascadePlansSpec)

/-- ITS FALSE NEIGHBOUR: 'it returns false'. Refute it at one input. -/
def cascadePlansWrong : ChangeSpec := { name := "cascadePlans", fn := fun _ => fun
  | [d1, d2] => { results := [.lit (.bool false)], args := [d1, d2] }
  | _ => none }
def CascadePlansWrongFalsely : Prop := cascadePlansRow.holds Try.pinned (OpenSpec.ofChange cascadePlansWrong)

/-- 'planimeterlaw22.CascadeNumbers': WHATEVER THE INPUT: true; the input reads as it did. -/
def cascadeNumbersSpec : ChangeSpec := { name := "cascadeNumbers", fn := fun _ => fun
  | [d1, d2, d3] => { results := [.lit (.bool true)], args := [d1, d2, d3] }
  | _ => none }
def cascadeNumbersRow : OpenClaim := { program := "ytpofnljcjoplnaa", sum := "91f62d211b6cd9f31dfa23a2905aa6c67abbef1b6928b2cdcba3e0664e46bfee", func := "planimeter/planimeterlaw22.CascadeNumbers", spec := "cascadeNumbers", unfollowed := true, recurses := true, apart := false }
def CascadeNumbersSaid : Prop := cascadeNumbersRow.holds Try.pinned (OpenSpec.ofChange cascadeNumbersSpec)

/-- ITS FALSE NEIGHBOUR: 'it returns false'. Refute it at one input. -/
def cascadeNumbersWrong : ChangeSpec := { name := "cascadeNumbers", fn := fun _ => fun
  | [d1, d2, d3] => { results := [.lit (.bool false)], args := [d1, d2, d3] }
  | _ => none }
def CascadeNumbersWrongFalsely : Prop := cascadeNumbersRow.holds Try.pinned (OpenSpec.ofChange cascadeNumbersWrong)

/-- 'planimeterlaw17.BudgetPlays': WHATEVER THE INPUT: true; the input reads as it did. -/
def budgetPlaysSpec : ChangeSpec := { name := "budgetPlays", fn := fun _ => fun
  | [d1, d2] => { results := [.lit (.bool true)], args := [d1, d2] }
  | _ => none }
def budgetPlaysRow : OpenClaim := { program := "ytpofnljcjoplnaa", sum := "91f62d211b6cd9f31dfa23a2905aa6c67abbef1b6928b2cdcba3e0664e46bfee", func := "planimeter/planimeterlaw17.BudgetPlays", spec := "budgetPlays", apart := false }
def BudgetPlaysSaid : Prop := budgetPlaysRow.holds Try.pinned (OpenSpec.ofChange budgetPlaysSpec)

/-- ITS FALSE NEIGHBOUR: 'it returns false'. Refute it at one input. -/
def budgetPlaysWrong : ChangeSpec := { name := "budgetPlays", fn := fun _ => fun
  | [d1, d2] => { results := [.lit (.bool false)], args := [d1, d2] }
  | _ => none }
def BudgetPlaysWrongFalsely : Prop := budgetPlaysRow.holds Try.pinned (OpenSpec.ofChange budgetPlaysWrong)

/-- 'planimeterlaw17.BudgetSums': WHATEVER THE INPUT: true; the input reads as it did. -/
def budgetSumsSpec : ChangeSpec := { name := "budgetSums", fn := fun _ => fun
  | [d1, d2] => { results := [.lit (.bool true)], args := [d1, d2] }
  | _ => none }
def budgetSumsRow : OpenClaim := { program := "ytpofnljcjoplnaa", sum := "91f62d211b6cd9f31dfa23a2905aa6c67abbef1b6928b2cdcba3e0664e46bfee", func := "planimeter/planimeterlaw17.BudgetSums", spec := "budgetSums", apart := false }
def BudgetSumsSaid : Prop := budgetSumsRow.holds Try.pinned (OpenSpec.ofChange budgetSumsSpec)

/-- ITS FALSE NEIGHBOUR: 'it returns false'. Refute it at one input. -/
def budgetSumsWrong : ChangeSpec := { name := "budgetSums", fn := fun _ => fun
  | [d1, d2] => { results := [.lit (.bool false)], args := [d1, d2] }
  | _ => none }
def BudgetSumsWrongFalsely : Prop := budgetSumsRow.holds Try.pinned (OpenSpec.ofChange budgetSumsWrong)

/-- 'planimeterlaw17.BudgetTwo': WHATEVER THE INPUT: true; the input reads as it did. -/
def budgetTwoSpec : ChangeSpec := { name := "budgetTwo", fn := fun _ => fun
  | [d1, d2, d3] => { results := [.lit (.bool true)], args := [d1, d2, d3] }
  | _ => none }
def budgetTwoRow : OpenClaim := { program := "ytpofnljcjoplnaa", sum := "91f62d211b6cd9f31dfa23a2905aa6c67abbef1b6928b2cdcba3e0664e46bfee", func := "planimeter/planimeterlaw17.BudgetTwo", spec := "budgetTwo", apart := false }
def BudgetTwoSaid : Prop := budgetTwoRow.holds Try.pinned (OpenSpec.ofChange budgetTwoSpec)

/-- ITS FALSE NEIGHBOUR: 'it returns false'. Refute it at one input. -/
def budgetTwoWrong : ChangeSpec := { name := "budgetTwo", fn := fun _ => fun
  | [d1, d2, d3] => { results := [.lit (.bool false)], args := [d1, d2, d3] }
  | _ => none }
def BudgetTwoWrongFalsely : Prop := budgetTwoRow.holds Try.pinned (OpenSpec.ofChange budgetTwoWrong)

/-- 'planimeterlaw22.CascadeFirst': WHATEVER THE INPUT: true; the input reads as it did. -/
def cascadeFirstSpec : ChangeSpec := { name := "cascadeFirst", fn := fun _ => fun
  | [d] => { results := [.lit (.bool true)], args := [d] }
  | _ => none }
def cascadeFirstRow : OpenClaim := { program := "ytpofnljcjoplnaa", sum := "91f62d211b6cd9f31dfa23a2905aa6c67abbef1b6928b2cdcba3e0664e46bfee", func := "planimeter/planimeterlaw22.CascadeFirst", spec := "cascadeFirst", unfollowed := true, recurses := true, apart := false }
def CascadeFirstSaid : Prop := cascadeFirstRow.holds Try.pinned (OpenSpec.ofChange cascadeFirstSpec)

/-- ITS FALSE NEIGHBOUR: 'it returns false'. Refute it at one input. -/
def cascadeFirstWrong : ChangeSpec := { name := "cascadeFirst", fn := fun _ => fun
  | [d] => { results := [.lit (.bool false)], args := [d] }
  | _ => none }
def CascadeFirstWrongFalsely : Prop := cascadeFirstRow.holds Try.pinned (OpenSpec.ofChange cascadeFirstWrong)

/-- 'planimeterlaw22.CascadeGoes': WHATEVER THE INPUT: true; the input reads as it did. -/
def cascadeGoesSpec : ChangeSpec := { name := "cascadeGoes", fn := fun _ => fun
  | [d1, d2, d3] => { results := [.lit (.bool true)], args := [d1, d2, d3] }
  | _ => none }
def cascadeGoesRow : OpenClaim := { program := "ytpofnljcjoplnaa", sum := "91f62d211b6cd9f31dfa23a2905aa6c67abbef1b6928b2cdcba3e0664e46bfee", func := "planimeter/planimeterlaw22.CascadeGoes", spec := "cascadeGoes", unfollowed := true, recurses := true, apart := false }
def CascadeGoesSaid : Prop := cascadeGoesRow.holds Try.pinned (OpenSpec.ofChange cascadeGoesSpec)

/-- ITS FALSE NEIGHBOUR: 'it returns false'. Refute it at one input. -/
def cascadeGoesWrong : ChangeSpec := { name := "cascadeGoes", fn := fun _ => fun
  | [d1, d2, d3] => { results := [.lit (.bool false)], args := [d1, d2, d3] }
  | _ => none }
def CascadeGoesWrongFalsely : Prop := cascadeGoesRow.holds Try.pinned (OpenSpec.ofChange cascadeGoesWrong)

/- THE SECOND FORM. 'bulk': how many values and letters a reading holds, each counted each time it is reached (what is shared counts as often as it is met; a slice's spare places count too). A statement '..UptoSaid' is the law's where the arguments, and the package variables that the reading takes, are together of bulk at most 1048576: NARROWER than '..Said'. Prove '..Said' where nothing that the law and all that it calls make is longer than what came in: it says more and counts as full. Else prove '..UptoSaid'. A law counts once. -/
mutual
def uptoBulk {H : Type} : DataW H → Nat
  | .lit (.string bytes) => bytes.length + 1
  | .lit _ => 1
  | .nil => 1
  | .ptr d => uptoBulk d + 1
  | .slice elems spare => uptoBulkAll elems + uptoBulkAll spare + 1
  | .agg parts => uptoBulkAll parts + 1
  | .iface _ d => uptoBulk d + 1
  | .map entries => uptoBulkEntries entries + 1
  | .held _ => 1
def uptoBulkAll {H : Type} : List (DataW H) → Nat
  | [] => 0
  | d :: r => uptoBulk d + uptoBulkAll r
def uptoBulkEntries {H : Type} : List (Lit × DataW H) → Nat
  | [] => 0
  | x :: r => uptoBulkEntry x + uptoBulkEntries r
def uptoBulkEntry {H : Type} : Lit × DataW H → Nat
  | (.string bytes, d) => bytes.length + uptoBulk d + 1
  | (_, d) => uptoBulk d + 1
 end
def uptoSmall : (H : Type) → List (DataW H) → Bool := fun _ ds => decide (uptoBulkAll ds ≤ 1048576)
def OpenSpec.upto (s : _root_.Go.ChangeSpec) : _root_.Go.OpenSpec := { _root_.Go.OpenSpec.ofChange s with cond := some uptoSmall }

/-- 'planimeterlaw22.CascadePlans', WHERE WHAT IT READS IS OF BULK AT MOST 1048576: true; the input reads as it did. -/
def cascadePlansUptoRow : OpenClaim := { program := "ytpofnljcjoplnaa", sum := "91f62d211b6cd9f31dfa23a2905aa6c67abbef1b6928b2cdcba3e0664e46bfee", func := "planimeter/planimeterlaw22.CascadePlans", spec := "cascadePlans", unfollowed := true, recurses := true, apart := false, narrowed := true }
def CascadePlansUptoSaid : Prop := cascadePlansUptoRow.holds Try.pinned (OpenSpec.upto cascadePlansSpec)

/-- 'planimeterlaw22.CascadeNumbers', WHERE WHAT IT READS IS OF BULK AT MOST 1048576: true; the input reads as it did. -/
def cascadeNumbersUptoRow : OpenClaim := { program := "ytpofnljcjoplnaa", sum := "91f62d211b6cd9f31dfa23a2905aa6c67abbef1b6928b2cdcba3e0664e46bfee", func := "planimeter/planimeterlaw22.CascadeNumbers", spec := "cascadeNumbers", unfollowed := true, recurses := true, apart := false, narrowed := true }
def CascadeNumbersUptoSaid : Prop := cascadeNumbersUptoRow.holds Try.pinned (OpenSpec.upto cascadeNumbersSpec)

/-- 'planimeterlaw17.BudgetPlays', WHERE WHAT IT READS IS OF BULK AT MOST 1048576: true; the input reads as it did. -/
def budgetPlaysUptoRow : OpenClaim := { program := "ytpofnljcjoplnaa", sum := "91f62d211b6cd9f31dfa23a2905aa6c67abbef1b6928b2cdcba3e0664e46bfee", func := "planimeter/planimeterlaw17.BudgetPlays", spec := "budgetPlays", apart := false, narrowed := true }
def BudgetPlaysUptoSaid : Prop := budgetPlaysUptoRow.holds Try.pinned (OpenSpec.upto budgetPlaysSpec)

/-- 'planimeterlaw17.BudgetSums', WHERE WHAT IT READS IS OF BULK AT MOST 1048576: true; the input reads as it did. -/
def budgetSumsUptoRow : OpenClaim := { program := "ytpofnljcjoplnaa", sum := "91f62d211b6cd9f31dfa23a2905aa6c67abbef1b6928b2cdcba3e0664e46bfee", func := "planimeter/planimeterlaw17.BudgetSums", spec := "budgetSums", apart := false, narrowed := true }
def BudgetSumsUptoSaid : Prop := budgetSumsUptoRow.holds Try.pinned (OpenSpec.upto budgetSumsSpec)

/-- 'planimeterlaw17.BudgetTwo', WHERE WHAT IT READS IS OF BULK AT MOST 1048576: true; the input reads as it did. -/
def budgetTwoUptoRow : OpenClaim := { program := "ytpofnljcjoplnaa", sum := "91f62d211b6cd9f31dfa23a2905aa6c67abbef1b6928b2cdcba3e0664e46bfee", func := "planimeter/planimeterlaw17.BudgetTwo", spec := "budgetTwo", apart := false, narrowed := true }
def BudgetTwoUptoSaid : Prop := budgetTwoUptoRow.holds Try.pinned (OpenSpec.upto budgetTwoSpec)

/-- 'planimeterlaw22.CascadeFirst', WHERE WHAT IT READS IS OF BULK AT MOST 1048576: true; the input reads as it did. -/
def cascadeFirstUptoRow : OpenClaim := { program := "ytpofnljcjoplnaa", sum := "91f62d211b6cd9f31dfa23a2905aa6c67abbef1b6928b2cdcba3e0664e46bfee", func := "planimeter/planimeterlaw22.CascadeFirst", spec := "cascadeFirst", unfollowed := true, recurses := true, apart := false, narrowed := true }
def CascadeFirstUptoSaid : Prop := cascadeFirstUptoRow.holds Try.pinned (OpenSpec.upto cascadeFirstSpec)

/-- 'planimeterlaw22.CascadeGoes', WHERE WHAT IT READS IS OF BULK AT MOST 1048576: true; the input reads as it did. -/
def cascadeGoesUptoRow : OpenClaim := { program := "ytpofnljcjoplnaa", sum := "91f62d211b6cd9f31dfa23a2905aa6c67abbef1b6928b2cdcba3e0664e46bfee", func := "planimeter/planimeterlaw22.CascadeGoes", spec := "cascadeGoes", unfollowed := true, recurses := true, apart := false, narrowed := true }
def CascadeGoesUptoSaid : Prop := cascadeGoesUptoRow.holds Try.pinned (OpenSpec.upto cascadeGoesSpec)

end Rows
end Go.Proofs.Ytpofnljcjoplnaa
