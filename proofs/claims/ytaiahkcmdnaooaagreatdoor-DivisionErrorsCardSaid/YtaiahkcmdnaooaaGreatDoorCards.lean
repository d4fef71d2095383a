/-
  DERIVED. GIVEN WITH THE SEED: THE CARDS: each row of YtaiahkcmdnaooaaGreatDoorRows.lean that lists a variable, with what it lists TIED to the program's text (the seventh form; the later family's looks); each row that meets fmt, with fmt's text TOLD by the authors' own Lean function (tested against real Go, not proved from fmt's source: count such statements apart). THE CARD IS WHAT COUNTS. Prove the row's statement (the work); the ties are given (YtaiahkcmdnaooaaGreatDoorTie.lean); close each card by the builder's one call (the guide's Derived/Test/ToyasCard.lean, 'card_holds'). Laid BY PROGRAM, IN A SANDBOX (cutbox-door.mjs). By AI agents, Wed Nov 11 2026. No macro, syntax, notation, axiom, sorry.
-/
import Derived.Test.YtaiahkcmdnaooaaGreatDoorRows
import GoSem.ClaimSeven
namespace Go.Proofs.YtaiahkcmdnaooaaGreatDoor
namespace Rows

/-- THE TIED CARD OF 'schismalaw30.DivisionRecords'. -/
def divisionRecordsCard : Claim7 := { stood := { row := divisionRecordsRow, standIns := [], harness := (true, "6e8769d5c75bdd492e70988988bba2717aeb329eaa22866c993421637f22e21e"), looks := true }, kinds := [], alts := [], laidByText := true, laidKinds := [.data, .data, .data, .sentinel, .sentinel], laidTests := true, laidLooks := .later }
def DivisionRecordsCardSaid : Prop := Claim7.holds Tryz.pinned (.plain (OpenSpec.ofChange divisionRecordsSpec)) divisionRecordsCard

/-- THE TIED CARD OF 'schismalaw30.DivisionNearest'. -/
def divisionNearestCard : Claim7 := { stood := { row := divisionNearestRow, standIns := [], harness := (true, "6e8769d5c75bdd492e70988988bba2717aeb329eaa22866c993421637f22e21e"), looks := true }, kinds := [], alts := [], laidByText := true, laidKinds := [.data, .data, .data, .sentinel, .sentinel], laidTests := true, laidLooks := .later }
def DivisionNearestCardSaid : Prop := Claim7.holds Tryz.pinned (.plain (OpenSpec.ofChange divisionNearestSpec)) divisionNearestCard

/-- THE TIED CARD OF 'schismalaw30.DivisionWithin'. -/
def divisionWithinCard : Claim7 := { stood := { row := divisionWithinRow, standIns := [], harness := (true, "6e8769d5c75bdd492e70988988bba2717aeb329eaa22866c993421637f22e21e"), looks := true }, kinds := [], alts := [], laidByText := true, laidKinds := [.data, .data, .data, .sentinel, .sentinel], laidTests := true, laidLooks := .later }
def DivisionWithinCardSaid : Prop := Claim7.holds Tryz.pinned (.plain (OpenSpec.ofChange divisionWithinSpec)) divisionWithinCard

/-- THE TIED CARD OF 'schismalaw30.DivisionBest'. -/
def divisionBestCard : Claim7 := { stood := { row := divisionBestRow, standIns := [], harness := (true, "6e8769d5c75bdd492e70988988bba2717aeb329eaa22866c993421637f22e21e"), looks := true }, kinds := [], alts := [], laidByText := true, laidKinds := [.data, .data, .data, .sentinel, .sentinel], laidTests := true, laidLooks := .later }
def DivisionBestCardSaid : Prop := Claim7.holds Tryz.pinned (.plain (OpenSpec.ofChange divisionBestSpec)) divisionBestCard

/-- THE TIED CARD OF 'schismalaw30.DivisionLeast'. -/
def divisionLeastCard : Claim7 := { stood := { row := divisionLeastRow, standIns := [], harness := (true, "6e8769d5c75bdd492e70988988bba2717aeb329eaa22866c993421637f22e21e"), looks := true }, kinds := [], alts := [], laidByText := true, laidKinds := [.data, .data, .data, .sentinel, .sentinel], laidTests := true, laidLooks := .later }
def DivisionLeastCardSaid : Prop := Claim7.holds Tryz.pinned (.plain (OpenSpec.ofChange divisionLeastSpec)) divisionLeastCard

/-- THE TIED CARD OF 'schismalaw30.DivisionHalf'. -/
def divisionHalfCard : Claim7 := { stood := { row := divisionHalfRow, standIns := [], harness := (true, "6e8769d5c75bdd492e70988988bba2717aeb329eaa22866c993421637f22e21e"), looks := true }, kinds := [], alts := [], laidByText := true, laidKinds := [.data, .data, .data, .sentinel, .sentinel], laidTests := true, laidLooks := .later }
def DivisionHalfCardSaid : Prop := Claim7.holds Tryz.pinned (.plain (OpenSpec.ofChange divisionHalfSpec)) divisionHalfCard

/-- THE TIED CARD OF 'schismalaw30.DivisionVals'. -/
def divisionValsCard : Claim7 := { stood := { row := divisionValsRow, standIns := [], harness := (true, "6e8769d5c75bdd492e70988988bba2717aeb329eaa22866c993421637f22e21e"), looks := true }, kinds := [], alts := [], laidByText := true, laidKinds := [.data, .data, .data, .sentinel, .sentinel], laidTests := true, laidLooks := .later }
def DivisionValsCardSaid : Prop := Claim7.holds Tryz.pinned (.plain (OpenSpec.ofChange divisionValsSpec)) divisionValsCard

/-- THE TIED CARD OF 'schismalaw30.DivisionLists'. -/
def divisionListsCard : Claim7 := { stood := { row := divisionListsRow, standIns := [], harness := (true, "6e8769d5c75bdd492e70988988bba2717aeb329eaa22866c993421637f22e21e"), looks := true }, kinds := [], alts := [], laidByText := true, laidKinds := [.data, .data, .data, .sentinel, .sentinel], laidTests := true, laidLooks := .later }
def DivisionListsCardSaid : Prop := Claim7.holds Tryz.pinned (.plain (OpenSpec.ofChange divisionListsSpec)) divisionListsCard

/-- THE TIED CARD OF 'schismalaw30.DivisionConsistent'. -/
def divisionConsistentCard : Claim7 := { stood := { row := divisionConsistentRow, standIns := [], harness := (true, "6e8769d5c75bdd492e70988988bba2717aeb329eaa22866c993421637f22e21e"), looks := true }, kinds := [], alts := [], laidByText := true, laidKinds := [.data, .data, .data, .sentinel, .sentinel], laidTests := true, laidLooks := .later }
def DivisionConsistentCardSaid : Prop := Claim7.holds Tryz.pinned (.plain (OpenSpec.ofChange divisionConsistentSpec)) divisionConsistentCard

/-- THE TIED CARD OF 'schismalaw30.DivisionErrors'. -/
def divisionErrorsCard : Claim7 := { stood := { row := divisionErrorsRow, standIns := [], harness := (true, "6e8769d5c75bdd492e70988988bba2717aeb329eaa22866c993421637f22e21e"), looks := true }, kinds := [], alts := [], laidByText := true, laidKinds := [.data, .data, .data, .sentinel, .sentinel], laidTests := true, laidLooks := .later }
def DivisionErrorsCardSaid : Prop := Claim7.holds Tryz.pinned (.plain (OpenSpec.ofChange divisionErrorsSpec)) divisionErrorsCard

/-- THE SECOND FORM's CARD OF 'schismalaw30.DivisionRecords'. -/
def divisionRecordsUptoCard : Claim7 := { stood := { row := divisionRecordsUptoRow, standIns := [], harness := (true, "6e8769d5c75bdd492e70988988bba2717aeb329eaa22866c993421637f22e21e"), looks := true }, kinds := [], alts := [], laidByText := true, laidKinds := [.data, .data, .data, .sentinel, .sentinel], laidTests := true, laidLooks := .later }
def DivisionRecordsUptoCardSaid : Prop := Claim7.holds Tryz.pinned (.plain (OpenSpec.upto divisionRecordsSpec)) divisionRecordsUptoCard

/-- THE SECOND FORM's CARD OF 'schismalaw30.DivisionNearest'. -/
def divisionNearestUptoCard : Claim7 := { stood := { row := divisionNearestUptoRow, standIns := [], harness := (true, "6e8769d5c75bdd492e70988988bba2717aeb329eaa22866c993421637f22e21e"), looks := true }, kinds := [], alts := [], laidByText := true, laidKinds := [.data, .data, .data, .sentinel, .sentinel], laidTests := true, laidLooks := .later }
def DivisionNearestUptoCardSaid : Prop := Claim7.holds Tryz.pinned (.plain (OpenSpec.upto divisionNearestSpec)) divisionNearestUptoCard

/-- THE SECOND FORM's CARD OF 'schismalaw30.DivisionWithin'. -/
def divisionWithinUptoCard : Claim7 := { stood := { row := divisionWithinUptoRow, standIns := [], harness := (true, "6e8769d5c75bdd492e70988988bba2717aeb329eaa22866c993421637f22e21e"), looks := true }, kinds := [], alts := [], laidByText := true, laidKinds := [.data, .data, .data, .sentinel, .sentinel], laidTests := true, laidLooks := .later }
def DivisionWithinUptoCardSaid : Prop := Claim7.holds Tryz.pinned (.plain (OpenSpec.upto divisionWithinSpec)) divisionWithinUptoCard

/-- THE SECOND FORM's CARD OF 'schismalaw30.DivisionBest'. -/
def divisionBestUptoCard : Claim7 := { stood := { row := divisionBestUptoRow, standIns := [], harness := (true, "6e8769d5c75bdd492e70988988bba2717aeb329eaa22866c993421637f22e21e"), looks := true }, kinds := [], alts := [], laidByText := true, laidKinds := [.data, .data, .data, .sentinel, .sentinel], laidTests := true, laidLooks := .later }
def DivisionBestUptoCardSaid : Prop := Claim7.holds Tryz.pinned (.plain (OpenSpec.upto divisionBestSpec)) divisionBestUptoCard

/-- THE SECOND FORM's CARD OF 'schismalaw30.DivisionLeast'. -/
def divisionLeastUptoCard : Claim7 := { stood := { row := divisionLeastUptoRow, standIns := [], harness := (true, "6e8769d5c75bdd492e70988988bba2717aeb329eaa22866c993421637f22e21e"), looks := true }, kinds := [], alts := [], laidByText := true, laidKinds := [.data, .data, .data, .sentinel, .sentinel], laidTests := true, laidLooks := .later }
def DivisionLeastUptoCardSaid : Prop := Claim7.holds Tryz.pinned (.plain (OpenSpec.upto divisionLeastSpec)) divisionLeastUptoCard

/-- THE SECOND FORM's CARD OF 'schismalaw30.DivisionHalf'. -/
def divisionHalfUptoCard : Claim7 := { stood := { row := divisionHalfUptoRow, standIns := [], harness := (true, "6e8769d5c75bdd492e70988988bba2717aeb329eaa22866c993421637f22e21e"), looks := true }, kinds := [], alts := [], laidByText := true, laidKinds := [.data, .data, .data, .sentinel, .sentinel], laidTests := true, laidLooks := .later }
def DivisionHalfUptoCardSaid : Prop := Claim7.holds Tryz.pinned (.plain (OpenSpec.upto divisionHalfSpec)) divisionHalfUptoCard

/-- THE SECOND FORM's CARD OF 'schismalaw30.DivisionVals'. -/
def divisionValsUptoCard : Claim7 := { stood := { row := divisionValsUptoRow, standIns := [], harness := (true, "6e8769d5c75bdd492e70988988bba2717aeb329eaa22866c993421637f22e21e"), looks := true }, kinds := [], alts := [], laidByText := true, laidKinds := [.data, .data, .data, .sentinel, .sentinel], laidTests := true, laidLooks := .later }
def DivisionValsUptoCardSaid : Prop := Claim7.holds Tryz.pinned (.plain (OpenSpec.upto divisionValsSpec)) divisionValsUptoCard

/-- THE SECOND FORM's CARD OF 'schismalaw30.DivisionLists'. -/
def divisionListsUptoCard : Claim7 := { stood := { row := divisionListsUptoRow, standIns := [], harness := (true, "6e8769d5c75bdd492e70988988bba2717aeb329eaa22866c993421637f22e21e"), looks := true }, kinds := [], alts := [], laidByText := true, laidKinds := [.data, .data, .data, .sentinel, .sentinel], laidTests := true, laidLooks := .later }
def DivisionListsUptoCardSaid : Prop := Claim7.holds Tryz.pinned (.plain (OpenSpec.upto divisionListsSpec)) divisionListsUptoCard

/-- THE SECOND FORM's CARD OF 'schismalaw30.DivisionConsistent'. -/
def divisionConsistentUptoCard : Claim7 := { stood := { row := divisionConsistentUptoRow, standIns := [], harness := (true, "6e8769d5c75bdd492e70988988bba2717aeb329eaa22866c993421637f22e21e"), looks := true }, kinds := [], alts := [], laidByText := true, laidKinds := [.data, .data, .data, .sentinel, .sentinel], laidTests := true, laidLooks := .later }
def DivisionConsistentUptoCardSaid : Prop := Claim7.holds Tryz.pinned (.plain (OpenSpec.upto divisionConsistentSpec)) divisionConsistentUptoCard

/-- THE SECOND FORM's CARD OF 'schismalaw30.DivisionErrors'. -/
def divisionErrorsUptoCard : Claim7 := { stood := { row := divisionErrorsUptoRow, standIns := [], harness := (true, "6e8769d5c75bdd492e70988988bba2717aeb329eaa22866c993421637f22e21e"), looks := true }, kinds := [], alts := [], laidByText := true, laidKinds := [.data, .data, .data, .sentinel, .sentinel], laidTests := true, laidLooks := .later }
def DivisionErrorsUptoCardSaid : Prop := Claim7.holds Tryz.pinned (.plain (OpenSpec.upto divisionErrorsSpec)) divisionErrorsUptoCard
end Rows
end Go.Proofs.YtaiahkcmdnaooaaGreatDoor
