/-
  DERIVED. GIVEN WITH THE SEED: THE CARDS: each row of YtiipdodkemakeaaGreatDoorRows.lean that lists a variable, with what it lists TIED to the program's text (the seventh form; the later family's looks); each row that meets fmt, with fmt's text TOLD by the authors' own Lean function (tested against real Go, not proved from fmt's source: count such statements apart). THE CARD IS WHAT COUNTS. Prove the row's statement (the work); the ties are given (YtiipdodkemakeaaGreatDoorTie.lean); close each card by the builder's one call (the guide's Derived/Test/ToyasCard.lean, 'card_holds'). Laid BY PROGRAM, IN A SANDBOX (cutbox-door.mjs). By AI agents, Wed Nov 11 2026. No macro, syntax, notation, axiom, sorry.
-/
import Derived.Test.YtiipdodkemakeaaGreatDoorRows
import GoSem.ClaimSeven
namespace Go.Proofs.YtiipdodkemakeaaGreatDoor
namespace Rows

/-- THE TIED CARD OF 'schismalaw28.TradeoffAlike'. -/
def tradeoffAlikeCard : Claim7 := { stood := { row := tradeoffAlikeRow, standIns := [], harness := (true, "e970bb0c2d5c61997e7a4d3dc7abc96922d518157e820387c205c8d4ad19ca0b"), looks := true }, kinds := [], alts := [], laidByText := true, laidKinds := [.data, .data, .data, .sentinel, .sentinel], laidTests := true, laidLooks := .later }
def TradeoffAlikeCardSaid : Prop := Claim7.holds Tryz.pinned (.plain (OpenSpec.ofChange tradeoffAlikeSpec)) tradeoffAlikeCard

/-- THE SECOND FORM's CARD OF 'schismalaw28.TradeoffAlike'. -/
def tradeoffAlikeUptoCard : Claim7 := { stood := { row := tradeoffAlikeUptoRow, standIns := [], harness := (true, "e970bb0c2d5c61997e7a4d3dc7abc96922d518157e820387c205c8d4ad19ca0b"), looks := true }, kinds := [], alts := [], laidByText := true, laidKinds := [.data, .data, .data, .sentinel, .sentinel], laidTests := true, laidLooks := .later }
def TradeoffAlikeUptoCardSaid : Prop := Claim7.holds Tryz.pinned (.plain (OpenSpec.upto tradeoffAlikeSpec)) tradeoffAlikeUptoCard
end Rows
end Go.Proofs.YtiipdodkemakeaaGreatDoor
