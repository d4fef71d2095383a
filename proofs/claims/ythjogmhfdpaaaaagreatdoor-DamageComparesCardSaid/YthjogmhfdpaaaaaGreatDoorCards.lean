/-
  DERIVED. GIVEN WITH THE SEED: THE CARDS: each row of YthjogmhfdpaaaaaGreatDoorRows.lean that lists a variable, with what it lists TIED to the program's text (the seventh form; the later family's looks); each row that meets fmt, with fmt's text TOLD by the authors' own Lean function (tested against real Go, not proved from fmt's source: count such statements apart). THE CARD IS WHAT COUNTS. Prove the row's statement (the work); the ties are given (YthjogmhfdpaaaaaGreatDoorTie.lean); close each card by the builder's one call (the guide's Derived/Test/ToyasCard.lean, 'card_holds'). Laid BY PROGRAM, IN A SANDBOX (cutbox-door.mjs). By AI agents, Wed Nov 11 2026. No macro, syntax, notation, axiom, sorry.
-/
import Derived.Test.YthjogmhfdpaaaaaGreatDoorRows
import GoSem.ClaimSeven
namespace Go.Proofs.YthjogmhfdpaaaaaGreatDoor
namespace Rows

/-- THE TIED CARD OF 'schismalaw25.DamageCompares'. -/
def damageComparesCard : Claim7 := { stood := { row := damageComparesRow, standIns := [], harness := (true, "343e33508547715fcbe7b89d601aa8dd0a522087dbeea1883a54d7c22770a39a"), looks := true }, kinds := [], alts := [], laidByText := true, laidKinds := [.data, .data, .data, .sentinel, .sentinel], laidTests := true, laidLooks := .later }
def DamageComparesCardSaid : Prop := Claim7.holds Tryz.pinned (.plain (OpenSpec.ofChange damageComparesSpec)) damageComparesCard

/-- THE SECOND FORM's CARD OF 'schismalaw25.DamageCompares'. -/
def damageComparesUptoCard : Claim7 := { stood := { row := damageComparesUptoRow, standIns := [], harness := (true, "343e33508547715fcbe7b89d601aa8dd0a522087dbeea1883a54d7c22770a39a"), looks := true }, kinds := [], alts := [], laidByText := true, laidKinds := [.data, .data, .data, .sentinel, .sentinel], laidTests := true, laidLooks := .later }
def DamageComparesUptoCardSaid : Prop := Claim7.holds Tryz.pinned (.plain (OpenSpec.upto damageComparesSpec)) damageComparesUptoCard
end Rows
end Go.Proofs.YthjogmhfdpaaaaaGreatDoor
