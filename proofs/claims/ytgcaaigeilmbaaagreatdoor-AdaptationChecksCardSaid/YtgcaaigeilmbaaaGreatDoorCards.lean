/-
  DERIVED. GIVEN WITH THE SEED: THE CARDS: each row of YtgcaaigeilmbaaaGreatDoorRows.lean that lists a variable, with what it lists TIED to the program's text (the seventh form; the later family's looks); each row that meets fmt, with fmt's text TOLD by the authors' own Lean function (tested against real Go, not proved from fmt's source: count such statements apart). THE CARD IS WHAT COUNTS. Prove the row's statement (the work); the ties are given (YtgcaaigeilmbaaaGreatDoorTie.lean); close each card by the builder's one call (the guide's Derived/Test/ToyasCard.lean, 'card_holds'). Laid BY PROGRAM, IN A SANDBOX (cutbox-door.mjs). By AI agents, Wed Nov 11 2026. No macro, syntax, notation, axiom, sorry.
-/
import Derived.Test.YtgcaaigeilmbaaaGreatDoorRows
import GoSem.ClaimSeven
namespace Go.Proofs.YtgcaaigeilmbaaaGreatDoor
namespace Rows

/-- THE TIED CARD OF 'schismalaw52.AdaptationChecks'. -/
def adaptationChecksCard : Claim7 := { stood := { row := adaptationChecksRow, standIns := [], harness := (true, "8a8b16015949dd994fbca240035b568a7094212523976c1f6a18757cd70cc992"), looks := true }, kinds := [], alts := [], laidByText := true, laidKinds := [.data, .data, .data, .sentinel, .sentinel], laidTests := true, laidLooks := .later }
def AdaptationChecksCardSaid : Prop := Claim7.holds Tryz.pinned (.plain (OpenSpec.ofChange adaptationChecksSpec)) adaptationChecksCard

/-- THE SECOND FORM's CARD OF 'schismalaw52.AdaptationChecks'. -/
def adaptationChecksUptoCard : Claim7 := { stood := { row := adaptationChecksUptoRow, standIns := [], harness := (true, "8a8b16015949dd994fbca240035b568a7094212523976c1f6a18757cd70cc992"), looks := true }, kinds := [], alts := [], laidByText := true, laidKinds := [.data, .data, .data, .sentinel, .sentinel], laidTests := true, laidLooks := .later }
def AdaptationChecksUptoCardSaid : Prop := Claim7.holds Tryz.pinned (.plain (OpenSpec.upto adaptationChecksSpec)) adaptationChecksUptoCard
end Rows
end Go.Proofs.YtgcaaigeilmbaaaGreatDoor
