/-
  DERIVED. GIVEN WITH THE SEED: THE CARDS: each row of YtbdajblfnkoagaaGreatDoorRows.lean that lists a variable, with what it lists TIED to the program's text (the seventh form; the later family's looks); each row that meets fmt, with fmt's text TOLD by the authors' own Lean function (tested against real Go, not proved from fmt's source: count such statements apart). THE CARD IS WHAT COUNTS. Prove the row's statement (the work); the ties are given (YtbdajblfnkoagaaGreatDoorTie.lean); close each card by the builder's one call (the guide's Derived/Test/ToyasCard.lean, 'card_holds'). Laid BY PROGRAM, IN A SANDBOX (cutbox-door.mjs). By AI agents, Wed Nov 11 2026. No macro, syntax, notation, axiom, sorry.
-/
import Derived.Test.YtbdajblfnkoagaaGreatDoorRows
import GoSem.ClaimSeven
namespace Go.Proofs.YtbdajblfnkoagaaGreatDoor
namespace Rows

/-- THE TIED CARD OF 'schismalaw55.CheckerMembers'. -/
def checkerMembersCard : Claim7 := { stood := { row := checkerMembersRow, standIns := [], harness := (true, "04573623f83ce931b7c8df159f64cb62de20e1b8a5b96c9ca45654be5ebec2f2"), looks := true }, kinds := [], alts := [], laidByText := true, laidKinds := [.data, .data, .data, .sentinel, .sentinel], laidTests := true, laidLooks := .later }
def CheckerMembersCardSaid : Prop := Claim7.holds Tryz.pinned (.plain (OpenSpec.ofChange checkerMembersSpec)) checkerMembersCard

/-- THE TIED CARD OF 'schismalaw55.CheckerInverses'. -/
def checkerInversesCard : Claim7 := { stood := { row := checkerInversesRow, standIns := [], harness := (true, "04573623f83ce931b7c8df159f64cb62de20e1b8a5b96c9ca45654be5ebec2f2"), looks := true }, kinds := [], alts := [], laidByText := true, laidKinds := [.data, .data, .data, .sentinel, .sentinel], laidTests := true, laidLooks := .later }
def CheckerInversesCardSaid : Prop := Claim7.holds Tryz.pinned (.plain (OpenSpec.ofChange checkerInversesSpec)) checkerInversesCard

/-- THE TIED CARD OF 'schismalaw55.CheckerSpells'. -/
def checkerSpellsCard : Claim7 := { stood := { row := checkerSpellsRow, standIns := [], harness := (true, "04573623f83ce931b7c8df159f64cb62de20e1b8a5b96c9ca45654be5ebec2f2"), looks := true }, kinds := [], alts := [], laidByText := true, laidKinds := [.data, .data, .data, .sentinel, .sentinel], laidTests := true, laidLooks := .later }
def CheckerSpellsCardSaid : Prop := Claim7.holds Tryz.pinned (.plain (OpenSpec.ofChange checkerSpellsSpec)) checkerSpellsCard

/-- THE TIED CARD OF 'schismalaw55.CheckerNumbers'. -/
def checkerNumbersCard : Claim7 := { stood := { row := checkerNumbersRow, standIns := [], harness := (true, "04573623f83ce931b7c8df159f64cb62de20e1b8a5b96c9ca45654be5ebec2f2"), looks := true }, kinds := [], alts := [], laidByText := true, laidKinds := [.data, .data, .data, .sentinel, .sentinel], laidTests := true, laidLooks := .later }
def CheckerNumbersCardSaid : Prop := Claim7.holds Tryz.pinned (.plain (OpenSpec.ofChange checkerNumbersSpec)) checkerNumbersCard

/-- THE TIED CARD OF 'schismalaw55.CheckerBounds'. -/
def checkerBoundsCard : Claim7 := { stood := { row := checkerBoundsRow, standIns := [], harness := (true, "04573623f83ce931b7c8df159f64cb62de20e1b8a5b96c9ca45654be5ebec2f2"), looks := true }, kinds := [], alts := [], laidByText := true, laidKinds := [.data, .data, .data, .sentinel, .sentinel], laidTests := true, laidLooks := .later }
def CheckerBoundsCardSaid : Prop := Claim7.holds Tryz.pinned (.plain (OpenSpec.ofChange checkerBoundsSpec)) checkerBoundsCard

/-- THE SECOND FORM's CARD OF 'schismalaw55.CheckerMembers'. -/
def checkerMembersUptoCard : Claim7 := { stood := { row := checkerMembersUptoRow, standIns := [], harness := (true, "04573623f83ce931b7c8df159f64cb62de20e1b8a5b96c9ca45654be5ebec2f2"), looks := true }, kinds := [], alts := [], laidByText := true, laidKinds := [.data, .data, .data, .sentinel, .sentinel], laidTests := true, laidLooks := .later }
def CheckerMembersUptoCardSaid : Prop := Claim7.holds Tryz.pinned (.plain (OpenSpec.upto checkerMembersSpec)) checkerMembersUptoCard

/-- THE SECOND FORM's CARD OF 'schismalaw55.CheckerInverses'. -/
def checkerInversesUptoCard : Claim7 := { stood := { row := checkerInversesUptoRow, standIns := [], harness := (true, "04573623f83ce931b7c8df159f64cb62de20e1b8a5b96c9ca45654be5ebec2f2"), looks := true }, kinds := [], alts := [], laidByText := true, laidKinds := [.data, .data, .data, .sentinel, .sentinel], laidTests := true, laidLooks := .later }
def CheckerInversesUptoCardSaid : Prop := Claim7.holds Tryz.pinned (.plain (OpenSpec.upto checkerInversesSpec)) checkerInversesUptoCard

/-- THE SECOND FORM's CARD OF 'schismalaw55.CheckerSpells'. -/
def checkerSpellsUptoCard : Claim7 := { stood := { row := checkerSpellsUptoRow, standIns := [], harness := (true, "04573623f83ce931b7c8df159f64cb62de20e1b8a5b96c9ca45654be5ebec2f2"), looks := true }, kinds := [], alts := [], laidByText := true, laidKinds := [.data, .data, .data, .sentinel, .sentinel], laidTests := true, laidLooks := .later }
def CheckerSpellsUptoCardSaid : Prop := Claim7.holds Tryz.pinned (.plain (OpenSpec.upto checkerSpellsSpec)) checkerSpellsUptoCard

/-- THE SECOND FORM's CARD OF 'schismalaw55.CheckerNumbers'. -/
def checkerNumbersUptoCard : Claim7 := { stood := { row := checkerNumbersUptoRow, standIns := [], harness := (true, "04573623f83ce931b7c8df159f64cb62de20e1b8a5b96c9ca45654be5ebec2f2"), looks := true }, kinds := [], alts := [], laidByText := true, laidKinds := [.data, .data, .data, .sentinel, .sentinel], laidTests := true, laidLooks := .later }
def CheckerNumbersUptoCardSaid : Prop := Claim7.holds Tryz.pinned (.plain (OpenSpec.upto checkerNumbersSpec)) checkerNumbersUptoCard

/-- THE SECOND FORM's CARD OF 'schismalaw55.CheckerBounds'. -/
def checkerBoundsUptoCard : Claim7 := { stood := { row := checkerBoundsUptoRow, standIns := [], harness := (true, "04573623f83ce931b7c8df159f64cb62de20e1b8a5b96c9ca45654be5ebec2f2"), looks := true }, kinds := [], alts := [], laidByText := true, laidKinds := [.data, .data, .data, .sentinel, .sentinel], laidTests := true, laidLooks := .later }
def CheckerBoundsUptoCardSaid : Prop := Claim7.holds Tryz.pinned (.plain (OpenSpec.upto checkerBoundsSpec)) checkerBoundsUptoCard
end Rows
end Go.Proofs.YtbdajblfnkoagaaGreatDoor
