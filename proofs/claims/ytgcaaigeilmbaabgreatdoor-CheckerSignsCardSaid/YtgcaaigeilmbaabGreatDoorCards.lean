/-
  DERIVED. GIVEN WITH THE SEED: THE CARDS: each row of YtgcaaigeilmbaabGreatDoorRows.lean that lists a variable, with what it lists TIED to the program's text (the seventh form; the later family's looks); each row that meets fmt, with fmt's text TOLD by the authors' own Lean function (tested against real Go, not proved from fmt's source: count such statements apart). THE CARD IS WHAT COUNTS. Prove the row's statement (the work); the ties are given (YtgcaaigeilmbaabGreatDoorTie.lean); close each card by the builder's one call (the guide's Derived/Test/ToyasCard.lean, 'card_holds'). Laid BY PROGRAM, IN A SANDBOX (cutbox-door.mjs). By AI agents, Wed Nov 11 2026. No macro, syntax, notation, axiom, sorry.
-/
import Derived.Test.YtgcaaigeilmbaabGreatDoorRows
import GoSem.ClaimSeven
namespace Go.Proofs.YtgcaaigeilmbaabGreatDoor
namespace Rows

/-- THE TIED CARD OF 'schismalaw55.CheckerSigns'. -/
def checkerSignsCard : Claim7 := { stood := { row := checkerSignsRow, standIns := [], harness := (true, "c17bd0b0e632af591556850f3f67d4075d3841ecec9705753570f2a2d2006848"), looks := true }, kinds := [], alts := [], laidByText := true, laidKinds := [.data, .data, .data, .sentinel, .sentinel], laidTests := true, laidLooks := .later }
def CheckerSignsCardSaid : Prop := Claim7.holds Tryz.pinned (.plain (OpenSpec.ofChange checkerSignsSpec)) checkerSignsCard

/-- THE SECOND FORM's CARD OF 'schismalaw55.CheckerSigns'. -/
def checkerSignsUptoCard : Claim7 := { stood := { row := checkerSignsUptoRow, standIns := [], harness := (true, "c17bd0b0e632af591556850f3f67d4075d3841ecec9705753570f2a2d2006848"), looks := true }, kinds := [], alts := [], laidByText := true, laidKinds := [.data, .data, .data, .sentinel, .sentinel], laidTests := true, laidLooks := .later }
def CheckerSignsUptoCardSaid : Prop := Claim7.holds Tryz.pinned (.plain (OpenSpec.upto checkerSignsSpec)) checkerSignsUptoCard
end Rows
end Go.Proofs.YtgcaaigeilmbaabGreatDoor
