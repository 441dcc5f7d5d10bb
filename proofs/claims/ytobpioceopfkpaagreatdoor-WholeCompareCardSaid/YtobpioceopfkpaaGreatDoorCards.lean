/-
  DERIVED. GIVEN WITH THE SEED: THE CARDS: each row of YtobpioceopfkpaaGreatDoorRows.lean that lists a variable, with what it lists TIED to the program's text (the seventh form; the later family's looks); each row that meets fmt, with fmt's text TOLD by the authors' own Lean function (tested against real Go, not proved from fmt's source: count such statements apart). THE CARD IS WHAT COUNTS. Prove the row's statement (the work); the ties are given (YtobpioceopfkpaaGreatDoorTie.lean); close each card by the builder's one call (the guide's Derived/Test/ToyasCard.lean, 'card_holds'). Laid BY PROGRAM, IN A SANDBOX (cutbox-door.mjs). By AI agents, Wed Nov 11 2026. No macro, syntax, notation, axiom, sorry.
-/
import Derived.Test.YtobpioceopfkpaaGreatDoorRows
import GoSem.ClaimSeven
namespace Go.Proofs.YtobpioceopfkpaaGreatDoor
namespace Rows

/-- THE TIED CARD OF 'planimetertop.WholeGrows'. -/
def wholeGrowsCard : Claim7 := { stood := { row := wholeGrowsRow, standIns := [], harness := (true, "ae838f335373304e1185b5c1dc01eb00db6236a9c5023a181eaeb815c0483d22"), looks := false }, kinds := [], alts := [], laidByText := true, laidKinds := [.data], laidTests := true, laidLooks := .later }
def WholeGrowsCardSaid : Prop := Claim7.holds Tryz.pinned (.plain (OpenSpec.ofChange wholeGrowsSpec)) wholeGrowsCard

/-- THE TIED CARD OF 'planimetertop.WholeRises'. -/
def wholeRisesCard : Claim7 := { stood := { row := wholeRisesRow, standIns := [], harness := (true, "ae838f335373304e1185b5c1dc01eb00db6236a9c5023a181eaeb815c0483d22"), looks := false }, kinds := [], alts := [], laidByText := true, laidKinds := [.data], laidTests := true, laidLooks := .later }
def WholeRisesCardSaid : Prop := Claim7.holds Tryz.pinned (.plain (OpenSpec.ofChange wholeRisesSpec)) wholeRisesCard

/-- THE TIED CARD OF 'planimetertop.WholeTurned'. -/
def wholeTurnedCard : Claim7 := { stood := { row := wholeTurnedRow, standIns := [], harness := (true, "ae838f335373304e1185b5c1dc01eb00db6236a9c5023a181eaeb815c0483d22"), looks := false }, kinds := [], alts := [], laidByText := true, laidKinds := [.data], laidTests := true, laidLooks := .later }
def WholeTurnedCardSaid : Prop := Claim7.holds Tryz.pinned (.plain (OpenSpec.ofChange wholeTurnedSpec)) wholeTurnedCard

/-- THE TIED CARD OF 'planimetertop.WholeTiny'. -/
def wholeTinyCard : Claim7 := { stood := { row := wholeTinyRow, standIns := [], harness := (true, "ae838f335373304e1185b5c1dc01eb00db6236a9c5023a181eaeb815c0483d22"), looks := false }, kinds := [], alts := [], laidByText := true, laidKinds := [.data], laidTests := true, laidLooks := .later }
def WholeTinyCardSaid : Prop := Claim7.holds Tryz.pinned (.plain (OpenSpec.ofChange wholeTinySpec)) wholeTinyCard

/-- THE TIED CARD OF 'planimetertop.WholeCompare'. -/
def wholeCompareCard : Claim7 := { stood := { row := wholeCompareRow, standIns := [], harness := (true, "ae838f335373304e1185b5c1dc01eb00db6236a9c5023a181eaeb815c0483d22"), looks := false }, kinds := [], alts := [], laidByText := true, laidKinds := [.data], laidTests := true, laidLooks := .later }
def WholeCompareCardSaid : Prop := Claim7.holds Tryz.pinned (.plain (OpenSpec.ofChange wholeCompareSpec)) wholeCompareCard

/-- THE SECOND FORM's CARD OF 'planimetertop.WholeGrows'. -/
def wholeGrowsUptoCard : Claim7 := { stood := { row := wholeGrowsUptoRow, standIns := [], harness := (true, "ae838f335373304e1185b5c1dc01eb00db6236a9c5023a181eaeb815c0483d22"), looks := false }, kinds := [], alts := [], laidByText := true, laidKinds := [.data], laidTests := true, laidLooks := .later }
def WholeGrowsUptoCardSaid : Prop := Claim7.holds Tryz.pinned (.plain (OpenSpec.upto wholeGrowsSpec)) wholeGrowsUptoCard

/-- THE SECOND FORM's CARD OF 'planimetertop.WholeRises'. -/
def wholeRisesUptoCard : Claim7 := { stood := { row := wholeRisesUptoRow, standIns := [], harness := (true, "ae838f335373304e1185b5c1dc01eb00db6236a9c5023a181eaeb815c0483d22"), looks := false }, kinds := [], alts := [], laidByText := true, laidKinds := [.data], laidTests := true, laidLooks := .later }
def WholeRisesUptoCardSaid : Prop := Claim7.holds Tryz.pinned (.plain (OpenSpec.upto wholeRisesSpec)) wholeRisesUptoCard

/-- THE SECOND FORM's CARD OF 'planimetertop.WholeTurned'. -/
def wholeTurnedUptoCard : Claim7 := { stood := { row := wholeTurnedUptoRow, standIns := [], harness := (true, "ae838f335373304e1185b5c1dc01eb00db6236a9c5023a181eaeb815c0483d22"), looks := false }, kinds := [], alts := [], laidByText := true, laidKinds := [.data], laidTests := true, laidLooks := .later }
def WholeTurnedUptoCardSaid : Prop := Claim7.holds Tryz.pinned (.plain (OpenSpec.upto wholeTurnedSpec)) wholeTurnedUptoCard

/-- THE SECOND FORM's CARD OF 'planimetertop.WholeTiny'. -/
def wholeTinyUptoCard : Claim7 := { stood := { row := wholeTinyUptoRow, standIns := [], harness := (true, "ae838f335373304e1185b5c1dc01eb00db6236a9c5023a181eaeb815c0483d22"), looks := false }, kinds := [], alts := [], laidByText := true, laidKinds := [.data], laidTests := true, laidLooks := .later }
def WholeTinyUptoCardSaid : Prop := Claim7.holds Tryz.pinned (.plain (OpenSpec.upto wholeTinySpec)) wholeTinyUptoCard

/-- THE SECOND FORM's CARD OF 'planimetertop.WholeCompare'. -/
def wholeCompareUptoCard : Claim7 := { stood := { row := wholeCompareUptoRow, standIns := [], harness := (true, "ae838f335373304e1185b5c1dc01eb00db6236a9c5023a181eaeb815c0483d22"), looks := false }, kinds := [], alts := [], laidByText := true, laidKinds := [.data], laidTests := true, laidLooks := .later }
def WholeCompareUptoCardSaid : Prop := Claim7.holds Tryz.pinned (.plain (OpenSpec.upto wholeCompareSpec)) wholeCompareUptoCard
end Rows
end Go.Proofs.YtobpioceopfkpaaGreatDoor
