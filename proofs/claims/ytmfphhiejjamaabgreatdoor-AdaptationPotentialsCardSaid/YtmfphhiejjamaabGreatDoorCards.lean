/-
  DERIVED. GIVEN WITH THE SEED: THE CARDS: each row of YtmfphhiejjamaabGreatDoorRows.lean that lists a variable, with what it lists TIED to the program's text (the seventh form; the later family's looks); each row that meets fmt, with fmt's text TOLD by the authors' own Lean function (tested against real Go, not proved from fmt's source: count such statements apart). THE CARD IS WHAT COUNTS. Prove the row's statement (the work); the ties are given (YtmfphhiejjamaabGreatDoorTie.lean); close each card by the builder's one call (the guide's Derived/Test/ToyasCard.lean, 'card_holds'). Laid BY PROGRAM, IN A SANDBOX (cutbox-door.mjs). By AI agents, Wed Nov 11 2026. No macro, syntax, notation, axiom, sorry.
-/
import Derived.Test.YtmfphhiejjamaabGreatDoorRows
import GoSem.ClaimSeven
namespace Go.Proofs.YtmfphhiejjamaabGreatDoor
namespace Rows

/-- THE TIED CARD OF 'schismalaw52.AdaptationPotentials'. -/
def adaptationPotentialsCard : Claim7 := { stood := { row := adaptationPotentialsRow, standIns := [], harness := (true, "f2f9aeba2242c6b205a32e676bfdb3e1e81b206ff914c6da6370e9d99f182061"), looks := true }, kinds := [], alts := [], laidByText := true, laidKinds := [.data, .data, .data, .sentinel, .sentinel], laidTests := true, laidLooks := .later }
def AdaptationPotentialsCardSaid : Prop := Claim7.holds Tryz.pinned (.plain (OpenSpec.ofChange adaptationPotentialsSpec)) adaptationPotentialsCard

/-- THE SECOND FORM's CARD OF 'schismalaw52.AdaptationPotentials'. -/
def adaptationPotentialsUptoCard : Claim7 := { stood := { row := adaptationPotentialsUptoRow, standIns := [], harness := (true, "f2f9aeba2242c6b205a32e676bfdb3e1e81b206ff914c6da6370e9d99f182061"), looks := true }, kinds := [], alts := [], laidByText := true, laidKinds := [.data, .data, .data, .sentinel, .sentinel], laidTests := true, laidLooks := .later }
def AdaptationPotentialsUptoCardSaid : Prop := Claim7.holds Tryz.pinned (.plain (OpenSpec.upto adaptationPotentialsSpec)) adaptationPotentialsUptoCard
end Rows
end Go.Proofs.YtmfphhiejjamaabGreatDoor
