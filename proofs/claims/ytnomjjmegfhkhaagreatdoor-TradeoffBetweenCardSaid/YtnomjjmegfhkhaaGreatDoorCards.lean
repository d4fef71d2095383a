/-
  DERIVED. GIVEN WITH THE SEED: THE CARDS: each row of YtnomjjmegfhkhaaGreatDoorRows.lean that lists a variable, with what it lists TIED to the program's text (the seventh form; the later family's looks); each row that meets fmt, with fmt's text TOLD by the authors' own Lean function (tested against real Go, not proved from fmt's source: count such statements apart). THE CARD IS WHAT COUNTS. Prove the row's statement (the work); the ties are given (YtnomjjmegfhkhaaGreatDoorTie.lean); close each card by the builder's one call (the guide's Derived/Test/ToyasCard.lean, 'card_holds'). Laid BY PROGRAM, IN A SANDBOX (cutbox-door.mjs). By AI agents, Wed Nov 11 2026. No macro, syntax, notation, axiom, sorry.
-/
import Derived.Test.YtnomjjmegfhkhaaGreatDoorRows
import GoSem.ClaimSeven
namespace Go.Proofs.YtnomjjmegfhkhaaGreatDoor
namespace Rows

/-- THE TIED CARD OF 'schismalaw28.TradeoffBetween'. -/
def tradeoffBetweenCard : Claim7 := { stood := { row := tradeoffBetweenRow, standIns := [], harness := (true, "8c8f9db959c3ca38e6abe6c0aae6d49558e74016d18361cdc5a475e8648a318c"), looks := true }, kinds := [], alts := [], laidByText := true, laidKinds := [.data, .data, .data, .sentinel, .sentinel], laidTests := true, laidLooks := .later }
def TradeoffBetweenCardSaid : Prop := Claim7.holds Tryz.pinned (.plain (OpenSpec.ofChange tradeoffBetweenSpec)) tradeoffBetweenCard

/-- THE SECOND FORM's CARD OF 'schismalaw28.TradeoffBetween'. -/
def tradeoffBetweenUptoCard : Claim7 := { stood := { row := tradeoffBetweenUptoRow, standIns := [], harness := (true, "8c8f9db959c3ca38e6abe6c0aae6d49558e74016d18361cdc5a475e8648a318c"), looks := true }, kinds := [], alts := [], laidByText := true, laidKinds := [.data, .data, .data, .sentinel, .sentinel], laidTests := true, laidLooks := .later }
def TradeoffBetweenUptoCardSaid : Prop := Claim7.holds Tryz.pinned (.plain (OpenSpec.upto tradeoffBetweenSpec)) tradeoffBetweenUptoCard
end Rows
end Go.Proofs.YtnomjjmegfhkhaaGreatDoor
