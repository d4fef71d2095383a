/-
  DERIVED. GIVEN WITH THE SEED: THE CARDS: each row of YtmjcaiaiibdadaaGreatDoorRows.lean that lists a variable, with what it lists TIED to the program's text (the seventh form; the later family's looks); each row that meets fmt, with fmt's text TOLD by the authors' own Lean function (tested against real Go, not proved from fmt's source: count such statements apart). THE CARD IS WHAT COUNTS. Prove the row's statement (the work); the ties are given (YtmjcaiaiibdadaaGreatDoorTie.lean); close each card by the builder's one call (the guide's Derived/Test/ToyasCard.lean, 'card_holds'). Laid BY PROGRAM, IN A SANDBOX (cutbox-door.mjs). By AI agents, Wed Nov 11 2026. No macro, syntax, notation, axiom, sorry.
-/
import Derived.Test.YtmjcaiaiibdadaaGreatDoorRows
import GoSem.ClaimSeven
namespace Go.Proofs.YtmjcaiaiibdadaaGreatDoor
namespace Rows

/-- THE TIED CARD OF 'schismalaw28.TradeoffErrors'. -/
def tradeoffErrorsCard : Claim7 := { stood := { row := tradeoffErrorsRow, standIns := [], harness := (true, "6ee207987c0fafde741726ff24015adc96e5bd317b8ea0d765b5e7b226a061b8"), looks := true }, kinds := [], alts := [], laidByText := true, laidKinds := [.data, .data, .data, .sentinel, .sentinel], laidTests := true, laidLooks := .later }
def TradeoffErrorsCardSaid : Prop := Claim7.holds Tryz.pinned (.plain (OpenSpec.ofChange tradeoffErrorsSpec)) tradeoffErrorsCard

/-- THE SECOND FORM's CARD OF 'schismalaw28.TradeoffErrors'. -/
def tradeoffErrorsUptoCard : Claim7 := { stood := { row := tradeoffErrorsUptoRow, standIns := [], harness := (true, "6ee207987c0fafde741726ff24015adc96e5bd317b8ea0d765b5e7b226a061b8"), looks := true }, kinds := [], alts := [], laidByText := true, laidKinds := [.data, .data, .data, .sentinel, .sentinel], laidTests := true, laidLooks := .later }
def TradeoffErrorsUptoCardSaid : Prop := Claim7.holds Tryz.pinned (.plain (OpenSpec.upto tradeoffErrorsSpec)) tradeoffErrorsUptoCard
end Rows
end Go.Proofs.YtmjcaiaiibdadaaGreatDoor
