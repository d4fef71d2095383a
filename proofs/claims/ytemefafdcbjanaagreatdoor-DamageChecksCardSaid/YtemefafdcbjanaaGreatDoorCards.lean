/-
  DERIVED. GIVEN WITH THE SEED: THE CARDS: each row of YtemefafdcbjanaaGreatDoorRows.lean that lists a variable, with what it lists TIED to the program's text (the seventh form; the later family's looks); each row that meets fmt, with fmt's text TOLD by the authors' own Lean function (tested against real Go, not proved from fmt's source: count such statements apart). THE CARD IS WHAT COUNTS. Prove the row's statement (the work); the ties are given (YtemefafdcbjanaaGreatDoorTie.lean); close each card by the builder's one call (the guide's Derived/Test/ToyasCard.lean, 'card_holds'). Laid BY PROGRAM, IN A SANDBOX (cutbox-door.mjs). By AI agents, Wed Nov 11 2026. No macro, syntax, notation, axiom, sorry.
-/
import Derived.Test.YtemefafdcbjanaaGreatDoorRows
import GoSem.ClaimSeven
namespace Go.Proofs.YtemefafdcbjanaaGreatDoor
namespace Rows

/-- THE TIED CARD OF 'schismalaw25.DamageChecks'. -/
def damageChecksCard : Claim7 := { stood := { row := damageChecksRow, standIns := [], harness := (true, "f22850016b09cb55438a4524a89f9fa86a2d0f3d355cff171bb999096e3e9967"), looks := true }, kinds := [], alts := [], laidByText := true, laidKinds := [.data, .data, .data, .sentinel, .sentinel], laidTests := true, laidLooks := .later }
def DamageChecksCardSaid : Prop := Claim7.holds Tryz.pinned (.plain (OpenSpec.ofChange damageChecksSpec)) damageChecksCard

/-- THE SECOND FORM's CARD OF 'schismalaw25.DamageChecks'. -/
def damageChecksUptoCard : Claim7 := { stood := { row := damageChecksUptoRow, standIns := [], harness := (true, "f22850016b09cb55438a4524a89f9fa86a2d0f3d355cff171bb999096e3e9967"), looks := true }, kinds := [], alts := [], laidByText := true, laidKinds := [.data, .data, .data, .sentinel, .sentinel], laidTests := true, laidLooks := .later }
def DamageChecksUptoCardSaid : Prop := Claim7.holds Tryz.pinned (.plain (OpenSpec.upto damageChecksSpec)) damageChecksUptoCard
end Rows
end Go.Proofs.YtemefafdcbjanaaGreatDoor
