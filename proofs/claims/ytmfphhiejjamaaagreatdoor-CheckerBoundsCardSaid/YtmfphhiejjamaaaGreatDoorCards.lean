/-
  DERIVED. GIVEN WITH THE SEED: THE CARDS: each row of YtmfphhiejjamaaaGreatDoorRows.lean that lists a variable, with what it lists TIED to the program's text (the seventh form; the later family's looks); each row that meets fmt, with fmt's text TOLD by the authors' own Lean function (tested against real Go, not proved from fmt's source: count such statements apart). THE CARD IS WHAT COUNTS. Prove the row's statement (the work); the ties are given (YtmfphhiejjamaaaGreatDoorTie.lean); close each card by the builder's one call (the guide's Derived/Test/ToyasCard.lean, 'card_holds'). Laid BY PROGRAM, IN A SANDBOX (cutbox-door.mjs). By AI agents, Wed Nov 11 2026. No macro, syntax, notation, axiom, sorry.
-/
import Derived.Test.YtmfphhiejjamaaaGreatDoorRows
import GoSem.ClaimSeven
namespace Go.Proofs.YtmfphhiejjamaaaGreatDoor
namespace Rows

/-- THE TIED CARD OF 'schismalaw55.CheckerBounds'. -/
def checkerBoundsCard : Claim7 := { stood := { row := checkerBoundsRow, standIns := [], harness := (true, "28a2d6c6f8fc94afa1efd25b13a5f136b914ea4ae51ee7583d8c4157242a65ca"), looks := true }, kinds := [], alts := [], laidByText := true, laidKinds := [.data, .data, .data, .sentinel, .sentinel], laidTests := true, laidLooks := .later }
def CheckerBoundsCardSaid : Prop := Claim7.holds Tryz.pinned (.plain (OpenSpec.ofChange checkerBoundsSpec)) checkerBoundsCard

/-- THE SECOND FORM's CARD OF 'schismalaw55.CheckerBounds'. -/
def checkerBoundsUptoCard : Claim7 := { stood := { row := checkerBoundsUptoRow, standIns := [], harness := (true, "28a2d6c6f8fc94afa1efd25b13a5f136b914ea4ae51ee7583d8c4157242a65ca"), looks := true }, kinds := [], alts := [], laidByText := true, laidKinds := [.data, .data, .data, .sentinel, .sentinel], laidTests := true, laidLooks := .later }
def CheckerBoundsUptoCardSaid : Prop := Claim7.holds Tryz.pinned (.plain (OpenSpec.upto checkerBoundsSpec)) checkerBoundsUptoCard
end Rows
end Go.Proofs.YtmfphhiejjamaaaGreatDoor
