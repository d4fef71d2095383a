/-
  DERIVED. GIVEN WITH THE SEED: THE CARDS: each row of YtmjcaiaiibdadabGreatDoorRows.lean that lists a variable, with what it lists TIED to the program's text (the seventh form; the later family's looks); each row that meets fmt, with fmt's text TOLD by the authors' own Lean function (tested against real Go, not proved from fmt's source: count such statements apart). THE CARD IS WHAT COUNTS. Prove the row's statement (the work); the ties are given (YtmjcaiaiibdadabGreatDoorTie.lean); close each card by the builder's one call (the guide's Derived/Test/ToyasCard.lean, 'card_holds'). Laid BY PROGRAM, IN A SANDBOX (cutbox-door.mjs). By AI agents, Wed Nov 11 2026. No macro, syntax, notation, axiom, sorry.
-/
import Derived.Test.YtmjcaiaiibdadabGreatDoorRows
import GoSem.ClaimSeven
namespace Go.Proofs.YtmjcaiaiibdadabGreatDoor
namespace Rows

/-- THE TIED CARD OF 'schismalaw28.TradeoffPures'. -/
def tradeoffPuresCard : Claim7 := { stood := { row := tradeoffPuresRow, standIns := [], harness := (true, "b5590edf3611b31c2f0b318314f7bd535240e18c4057de7ec338f3b8900050d5"), looks := true }, kinds := [], alts := [], laidByText := true, laidKinds := [.data, .data, .data, .sentinel, .sentinel], laidTests := true, laidLooks := .later }
def TradeoffPuresCardSaid : Prop := Claim7.holds Tryz.pinned (.plain (OpenSpec.ofChange tradeoffPuresSpec)) tradeoffPuresCard

/-- THE SECOND FORM's CARD OF 'schismalaw28.TradeoffPures'. -/
def tradeoffPuresUptoCard : Claim7 := { stood := { row := tradeoffPuresUptoRow, standIns := [], harness := (true, "b5590edf3611b31c2f0b318314f7bd535240e18c4057de7ec338f3b8900050d5"), looks := true }, kinds := [], alts := [], laidByText := true, laidKinds := [.data, .data, .data, .sentinel, .sentinel], laidTests := true, laidLooks := .later }
def TradeoffPuresUptoCardSaid : Prop := Claim7.holds Tryz.pinned (.plain (OpenSpec.upto tradeoffPuresSpec)) tradeoffPuresUptoCard
end Rows
end Go.Proofs.YtmjcaiaiibdadabGreatDoor
