/-
  DERIVED. GIVEN WITH THE SEED: THE CARDS: each row of YthjogmhfdpaaaabGreatDoorRows.lean that lists a variable, with what it lists TIED to the program's text (the seventh form; the later family's looks); each row that meets fmt, with fmt's text TOLD by the authors' own Lean function (tested against real Go, not proved from fmt's source: count such statements apart). THE CARD IS WHAT COUNTS. Prove the row's statement (the work); the ties are given (YthjogmhfdpaaaabGreatDoorTie.lean); close each card by the builder's one call (the guide's Derived/Test/ToyasCard.lean, 'card_holds'). Laid BY PROGRAM, IN A SANDBOX (cutbox-door.mjs). By AI agents, Wed Nov 11 2026. No macro, syntax, notation, axiom, sorry.
-/
import Derived.Test.YthjogmhfdpaaaabGreatDoorRows
import GoSem.ClaimSeven
namespace Go.Proofs.YthjogmhfdpaaaabGreatDoor
namespace Rows

/-- THE TIED CARD OF 'schismalaw25.DamageOrders'. -/
def damageOrdersCard : Claim7 := { stood := { row := damageOrdersRow, standIns := [], harness := (true, "6eaa20b6f72a6d8a99ec2baf9ebbd728ada2dc9961f41226ebbd861b6dda1e09"), looks := true }, kinds := [], alts := [], laidByText := true, laidKinds := [.data, .data, .data, .sentinel, .sentinel], laidTests := true, laidLooks := .later }
def DamageOrdersCardSaid : Prop := Claim7.holds Tryz.pinned (.plain (OpenSpec.ofChange damageOrdersSpec)) damageOrdersCard

/-- THE SECOND FORM's CARD OF 'schismalaw25.DamageOrders'. -/
def damageOrdersUptoCard : Claim7 := { stood := { row := damageOrdersUptoRow, standIns := [], harness := (true, "6eaa20b6f72a6d8a99ec2baf9ebbd728ada2dc9961f41226ebbd861b6dda1e09"), looks := true }, kinds := [], alts := [], laidByText := true, laidKinds := [.data, .data, .data, .sentinel, .sentinel], laidTests := true, laidLooks := .later }
def DamageOrdersUptoCardSaid : Prop := Claim7.holds Tryz.pinned (.plain (OpenSpec.upto damageOrdersSpec)) damageOrdersUptoCard
end Rows
end Go.Proofs.YthjogmhfdpaaaabGreatDoor
