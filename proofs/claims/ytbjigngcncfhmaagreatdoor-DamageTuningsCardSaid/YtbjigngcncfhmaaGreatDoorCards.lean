/-
  DERIVED. GIVEN WITH THE SEED: THE CARDS: each row of YtbjigngcncfhmaaGreatDoorRows.lean that lists a variable, with what it lists TIED to the program's text (the seventh form; the later family's looks); each row that meets fmt, with fmt's text TOLD by the authors' own Lean function (tested against real Go, not proved from fmt's source: count such statements apart). THE CARD IS WHAT COUNTS. Prove the row's statement (the work); the ties are given (YtbjigngcncfhmaaGreatDoorTie.lean); close each card by the builder's one call (the guide's Derived/Test/ToyasCard.lean, 'card_holds'). Laid BY PROGRAM, IN A SANDBOX (cutbox-door.mjs). By AI agents, Wed Nov 11 2026. No macro, syntax, notation, axiom, sorry.
-/
import Derived.Test.YtbjigngcncfhmaaGreatDoorRows
import GoSem.ClaimSeven
namespace Go.Proofs.YtbjigngcncfhmaaGreatDoor
namespace Rows

/-- THE TIED CARD OF 'schismalaw25.DamageTunings'. -/
def damageTuningsCard : Claim7 := { stood := { row := damageTuningsRow, standIns := [], harness := (true, "72f3620599383d8374b098103319df5a08cd38f3b3c808e68a0d538f4f600c77"), looks := true }, kinds := [], alts := [], laidByText := true, laidKinds := [.data, .data, .data, .sentinel, .sentinel], laidTests := true, laidLooks := .later }
def DamageTuningsCardSaid : Prop := Claim7.holds Tryz.pinned (.plain (OpenSpec.ofChange damageTuningsSpec)) damageTuningsCard

/-- THE SECOND FORM's CARD OF 'schismalaw25.DamageTunings'. -/
def damageTuningsUptoCard : Claim7 := { stood := { row := damageTuningsUptoRow, standIns := [], harness := (true, "72f3620599383d8374b098103319df5a08cd38f3b3c808e68a0d538f4f600c77"), looks := true }, kinds := [], alts := [], laidByText := true, laidKinds := [.data, .data, .data, .sentinel, .sentinel], laidTests := true, laidLooks := .later }
def DamageTuningsUptoCardSaid : Prop := Claim7.holds Tryz.pinned (.plain (OpenSpec.upto damageTuningsSpec)) damageTuningsUptoCard
end Rows
end Go.Proofs.YtbjigngcncfhmaaGreatDoor
