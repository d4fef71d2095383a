/-
  DERIVED. GIVEN WITH THE SEED: THE CARDS: each row of YtblmpbfchgnclaaGreatDoorRows.lean that lists a variable, with what it lists TIED to the program's text (the seventh form; the later family's looks); each row that meets fmt, with fmt's text TOLD by the authors' own Lean function (tested against real Go, not proved from fmt's source: count such statements apart). THE CARD IS WHAT COUNTS. Prove the row's statement (the work); the ties are given (YtblmpbfchgnclaaGreatDoorTie.lean); close each card by the builder's one call (the guide's Derived/Test/ToyasCard.lean, 'card_holds'). Laid BY PROGRAM, IN A SANDBOX (cutbox-door.mjs). By AI agents, Wed Nov 11 2026. No macro, syntax, notation, axiom, sorry.
-/
import Derived.Test.YtblmpbfchgnclaaGreatDoorRows
import GoSem.ClaimSeven
namespace Go.Proofs.YtblmpbfchgnclaaGreatDoor
namespace Rows

/-- THE TIED CARD OF 'schismalaw52.AdaptationBest'. -/
def adaptationBestCard : Claim7 := { stood := { row := adaptationBestRow, standIns := [], harness := (true, "75154ba27ddaeb7b18941c768e6f7ff4a1d2ce39c03a373efb2721143af4e6e2"), looks := true }, kinds := [], alts := [], laidByText := true, laidKinds := [.data, .data, .data, .sentinel, .sentinel], laidTests := true, laidLooks := .later }
def AdaptationBestCardSaid : Prop := Claim7.holds Tryz.pinned (.plain (OpenSpec.ofChange adaptationBestSpec)) adaptationBestCard

/-- THE SECOND FORM's CARD OF 'schismalaw52.AdaptationBest'. -/
def adaptationBestUptoCard : Claim7 := { stood := { row := adaptationBestUptoRow, standIns := [], harness := (true, "75154ba27ddaeb7b18941c768e6f7ff4a1d2ce39c03a373efb2721143af4e6e2"), looks := true }, kinds := [], alts := [], laidByText := true, laidKinds := [.data, .data, .data, .sentinel, .sentinel], laidTests := true, laidLooks := .later }
def AdaptationBestUptoCardSaid : Prop := Claim7.holds Tryz.pinned (.plain (OpenSpec.upto adaptationBestSpec)) adaptationBestUptoCard
end Rows
end Go.Proofs.YtblmpbfchgnclaaGreatDoor
