/-
  DERIVED. GIVEN WITH THE SEED: THE CARDS: each row of YtblmpbfchgnclacGreatDoorRows.lean that lists a variable, with what it lists TIED to the program's text (the seventh form; the later family's looks); each row that meets fmt, with fmt's text TOLD by the authors' own Lean function (tested against real Go, not proved from fmt's source: count such statements apart). THE CARD IS WHAT COUNTS. Prove the row's statement (the work); the ties are given (YtblmpbfchgnclacGreatDoorTie.lean); close each card by the builder's one call (the guide's Derived/Test/ToyasCard.lean, 'card_holds'). Laid BY PROGRAM, IN A SANDBOX (cutbox-door.mjs). By AI agents, Wed Nov 11 2026. No macro, syntax, notation, axiom, sorry.
-/
import Derived.Test.YtblmpbfchgnclacGreatDoorRows
import GoSem.ClaimSeven
namespace Go.Proofs.YtblmpbfchgnclacGreatDoor
namespace Rows

/-- THE TIED CARD OF 'schismalaw52.AdaptationTotals'. -/
def adaptationTotalsCard : Claim7 := { stood := { row := adaptationTotalsRow, standIns := [], harness := (true, "61b9ca8628a49f4e76c160763682b8b6187eb6615d630f9d8c39c27c64e703a3"), looks := true }, kinds := [], alts := [], laidByText := true, laidKinds := [.data, .data, .data, .sentinel, .sentinel], laidTests := true, laidLooks := .later }
def AdaptationTotalsCardSaid : Prop := Claim7.holds Tryz.pinned (.plain (OpenSpec.ofChange adaptationTotalsSpec)) adaptationTotalsCard

/-- THE SECOND FORM's CARD OF 'schismalaw52.AdaptationTotals'. -/
def adaptationTotalsUptoCard : Claim7 := { stood := { row := adaptationTotalsUptoRow, standIns := [], harness := (true, "61b9ca8628a49f4e76c160763682b8b6187eb6615d630f9d8c39c27c64e703a3"), looks := true }, kinds := [], alts := [], laidByText := true, laidKinds := [.data, .data, .data, .sentinel, .sentinel], laidTests := true, laidLooks := .later }
def AdaptationTotalsUptoCardSaid : Prop := Claim7.holds Tryz.pinned (.plain (OpenSpec.upto adaptationTotalsSpec)) adaptationTotalsUptoCard
end Rows
end Go.Proofs.YtblmpbfchgnclacGreatDoor
