/-
  DERIVED. GIVEN WITH THE SEED: THE CARDS: each row of YtaofhmhlooekoaaGreatDoorRows.lean that lists a variable, with what it lists TIED to the program's text (the seventh form; the later family's looks); each row that meets fmt, with fmt's text TOLD by the authors' own Lean function (tested against real Go, not proved from fmt's source: count such statements apart). THE CARD IS WHAT COUNTS. Prove the row's statement (the work); the ties are given (YtaofhmhlooekoaaGreatDoorTie.lean); close each card by the builder's one call (the guide's Derived/Test/ToyasCard.lean, 'card_holds'). Laid BY PROGRAM, IN A SANDBOX (cutbox-door.mjs). By AI agents, Wed Nov 11 2026. No macro, syntax, notation, axiom, sorry.
-/
import Derived.Test.YtaofhmhlooekoaaGreatDoorRows
import GoSem.ClaimSeven
namespace Go.Proofs.YtaofhmhlooekoaaGreatDoor
namespace Rows

/-- THE TIED CARD OF 'schismalaw28.TradeoffCommon'. -/
def tradeoffCommonCard : Claim7 := { stood := { row := tradeoffCommonRow, standIns := [], harness := (true, "4c5db2c66333076899946421b23d2b10002c8f4898e68991968cd0d6e82a80b2"), looks := true }, kinds := [], alts := [], laidByText := true, laidKinds := [.data, .data, .data, .sentinel, .sentinel], laidTests := true, laidLooks := .later }
def TradeoffCommonCardSaid : Prop := Claim7.holds Tryz.pinned (.plain (OpenSpec.ofChange tradeoffCommonSpec)) tradeoffCommonCard

/-- THE SECOND FORM's CARD OF 'schismalaw28.TradeoffCommon'. -/
def tradeoffCommonUptoCard : Claim7 := { stood := { row := tradeoffCommonUptoRow, standIns := [], harness := (true, "4c5db2c66333076899946421b23d2b10002c8f4898e68991968cd0d6e82a80b2"), looks := true }, kinds := [], alts := [], laidByText := true, laidKinds := [.data, .data, .data, .sentinel, .sentinel], laidTests := true, laidLooks := .later }
def TradeoffCommonUptoCardSaid : Prop := Claim7.holds Tryz.pinned (.plain (OpenSpec.upto tradeoffCommonSpec)) tradeoffCommonUptoCard
end Rows
end Go.Proofs.YtaofhmhlooekoaaGreatDoor
