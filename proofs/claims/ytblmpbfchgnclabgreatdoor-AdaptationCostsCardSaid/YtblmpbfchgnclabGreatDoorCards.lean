/-
  DERIVED. GIVEN WITH THE SEED: THE CARDS: each row of YtblmpbfchgnclabGreatDoorRows.lean that lists a variable, with what it lists TIED to the program's text (the seventh form; the later family's looks); each row that meets fmt, with fmt's text TOLD by the authors' own Lean function (tested against real Go, not proved from fmt's source: count such statements apart). THE CARD IS WHAT COUNTS. Prove the row's statement (the work); the ties are given (YtblmpbfchgnclabGreatDoorTie.lean); close each card by the builder's one call (the guide's Derived/Test/ToyasCard.lean, 'card_holds'). Laid BY PROGRAM, IN A SANDBOX (cutbox-door.mjs). By AI agents, Wed Nov 11 2026. No macro, syntax, notation, axiom, sorry.
-/
import Derived.Test.YtblmpbfchgnclabGreatDoorRows
import GoSem.ClaimSeven
namespace Go.Proofs.YtblmpbfchgnclabGreatDoor
namespace Rows

/-- THE TIED CARD OF 'schismalaw52.AdaptationCosts'. -/
def adaptationCostsCard : Claim7 := { stood := { row := adaptationCostsRow, standIns := [], harness := (true, "738cb1c436a1172df9583dcc0bcf0a31067c3bdf8664c3bfa27c5cc7ec6f9301"), looks := true }, kinds := [], alts := [], laidByText := true, laidKinds := [.data, .data, .data, .sentinel, .sentinel], laidTests := true, laidLooks := .later }
def AdaptationCostsCardSaid : Prop := Claim7.holds Tryz.pinned (.plain (OpenSpec.ofChange adaptationCostsSpec)) adaptationCostsCard

/-- THE SECOND FORM's CARD OF 'schismalaw52.AdaptationCosts'. -/
def adaptationCostsUptoCard : Claim7 := { stood := { row := adaptationCostsUptoRow, standIns := [], harness := (true, "738cb1c436a1172df9583dcc0bcf0a31067c3bdf8664c3bfa27c5cc7ec6f9301"), looks := true }, kinds := [], alts := [], laidByText := true, laidKinds := [.data, .data, .data, .sentinel, .sentinel], laidTests := true, laidLooks := .later }
def AdaptationCostsUptoCardSaid : Prop := Claim7.holds Tryz.pinned (.plain (OpenSpec.upto adaptationCostsSpec)) adaptationCostsUptoCard
end Rows
end Go.Proofs.YtblmpbfchgnclabGreatDoor
