/-
  NARROWER THAN 'FOR EVERY INPUT', by the rows' own cells (each row's printed sentence says how): DivisionRecords: laid · DivisionNearest: laid · DivisionWithin: laid · DivisionBest: laid · DivisionLeast: laid · DivisionHalf: laid · DivisionVals: laid · DivisionLists: laid · DivisionConsistent: laid · DivisionErrors: laid.
  DERIVED. THE GIVEN ROWS OF THIS SEAT. 10 by the template 'for every input the law returns true; each argument reads behind the call as it read before'; 0 by the template 'total and deterministic' (their statements: YtaiahkcmdnaooaaGreatDoorTotals.lean).
  GIVEN WITH THE SEED: the statements are not yours to turn. If you find one false, say at which input.
  Laid BY PROGRAM, IN A SANDBOX (cutbox-rows.mjs): the forced cells as the released guide's own fill.sh prints them over the translation 6f2ec36444b2ee6b… (all of the seat's roots in one cut). By AI agents, Wed Nov 11 2026. No macro, syntax, notation, axiom, sorry.
-/
import Derived.Test.YtaiahkcmdnaooaaGreatDoorChecked
import GoSem.Claim
import GoSem.ClaimJoined
import GoSem.ClaimMapViews
import Derived.JoinedTies
import Derived.KernelRfl
namespace Go.Proofs.YtaiahkcmdnaooaaGreatDoor
/- THE CELL 'sum', in the pinned program and in every row, IS THE sha256 OF THE DUMP (.gsa) THAT YtaiahkcmdnaooaaGreatDoorProg.lean LOADS. Nothing in Lean hashes anything: it is a label: what it is worth is what the hold of that sum in a sandbox is worth. -/
noncomputable def Tryz.pinned : Pinned := { name := "ytaiahkcmdnaooaagreatdoor", sum := "6f2ec36444b2ee6b62acd94214137a52da682bc93ecb01e1811ab4a28b53a77a", checked := Tryz.checked }
namespace Rows
def none {H : Type} : Left H := { results := [], args := [] }

/- WHAT THE LISTED PACKAGE-LEVEL VARIABLES READ AS WHEN THE CALL BEGINS. Each datum BY PROGRAM (the guide's laid-datum.mjs) off the statement by which the dump's own 'gosem.cut.vars' lays the variable. In a bare row this is a premise. The card (YtaiahkcmdnaooaaGreatDoorCards.lean) ties it to the program's text. -/
def laid_math_bits_deBruijn32tab {H : Type} : DataW H := .agg [.lit (.int .u8 0), .lit (.int .u8 1), .lit (.int .u8 28), .lit (.int .u8 2), .lit (.int .u8 29), .lit (.int .u8 14), .lit (.int .u8 24), .lit (.int .u8 3), .lit (.int .u8 30), .lit (.int .u8 22), .lit (.int .u8 20), .lit (.int .u8 15), .lit (.int .u8 25), .lit (.int .u8 17), .lit (.int .u8 4), .lit (.int .u8 8), .lit (.int .u8 31), .lit (.int .u8 27), .lit (.int .u8 13), .lit (.int .u8 23), .lit (.int .u8 21), .lit (.int .u8 19), .lit (.int .u8 16), .lit (.int .u8 7), .lit (.int .u8 26), .lit (.int .u8 12), .lit (.int .u8 18), .lit (.int .u8 6), .lit (.int .u8 11), .lit (.int .u8 5), .lit (.int .u8 10), .lit (.int .u8 9)]
def laid_math_bits_deBruijn64tab {H : Type} : DataW H := .agg [.lit (.int .u8 0), .lit (.int .u8 1), .lit (.int .u8 56), .lit (.int .u8 2), .lit (.int .u8 57), .lit (.int .u8 49), .lit (.int .u8 28), .lit (.int .u8 3), .lit (.int .u8 61), .lit (.int .u8 58), .lit (.int .u8 42), .lit (.int .u8 50), .lit (.int .u8 38), .lit (.int .u8 29), .lit (.int .u8 17), .lit (.int .u8 4), .lit (.int .u8 62), .lit (.int .u8 47), .lit (.int .u8 59), .lit (.int .u8 36), .lit (.int .u8 45), .lit (.int .u8 43), .lit (.int .u8 51), .lit (.int .u8 22), .lit (.int .u8 53), .lit (.int .u8 39), .lit (.int .u8 33), .lit (.int .u8 30), .lit (.int .u8 24), .lit (.int .u8 18), .lit (.int .u8 12), .lit (.int .u8 5), .lit (.int .u8 63), .lit (.int .u8 55), .lit (.int .u8 48), .lit (.int .u8 27), .lit (.int .u8 60), .lit (.int .u8 41), .lit (.int .u8 37), .lit (.int .u8 16), .lit (.int .u8 46), .lit (.int .u8 35), .lit (.int .u8 44), .lit (.int .u8 21), .lit (.int .u8 52), .lit (.int .u8 32), .lit (.int .u8 23), .lit (.int .u8 11), .lit (.int .u8 54), .lit (.int .u8 26), .lit (.int .u8 40), .lit (.int .u8 15), .lit (.int .u8 34), .lit (.int .u8 20), .lit (.int .u8 31), .lit (.int .u8 10), .lit (.int .u8 25), .lit (.int .u8 14), .lit (.int .u8 19), .lit (.int .u8 9), .lit (.int .u8 13), .lit (.int .u8 8), .lit (.int .u8 7), .lit (.int .u8 6)]
def laid_internal_strconv_uint64pow10 {H : Type} : DataW H := .agg [.lit (.int .u64 1), .lit (.int .u64 10), .lit (.int .u64 100), .lit (.int .u64 1000), .lit (.int .u64 10000), .lit (.int .u64 100000), .lit (.int .u64 1000000), .lit (.int .u64 10000000), .lit (.int .u64 100000000), .lit (.int .u64 1000000000), .lit (.int .u64 10000000000), .lit (.int .u64 100000000000), .lit (.int .u64 1000000000000), .lit (.int .u64 10000000000000), .lit (.int .u64 100000000000000), .lit (.int .u64 1000000000000000), .lit (.int .u64 10000000000000000), .lit (.int .u64 100000000000000000), .lit (.int .u64 1000000000000000000), .lit (.int .u64 10000000000000000000)]
def laid_strconv_ErrRange {H : Type} : DataW H := .iface "*errors.errorString" (.ptr (.agg [.lit (.string [118, 97, 108, 117, 101, 32, 111, 117, 116, 32, 111, 102, 32, 114, 97, 110, 103, 101])]))
def laid_strconv_ErrSyntax {H : Type} : DataW H := .iface "*errors.errorString" (.ptr (.agg [.lit (.string [105, 110, 118, 97, 108, 105, 100, 32, 115, 121, 110, 116, 97, 120])]))

/-- 'schismalaw30.DivisionRecords': WHATEVER THE INPUT: true; the input reads as it did. -/
def divisionRecordsSpec : ChangeSpec := { name := "divisionRecords", fn := fun _ => fun
  | [d1, d2, d3] => { results := [.lit (.bool true)], args := [d1, d2, d3] }
  | _ => none }
def divisionRecordsRow : OpenClaim := { program := "ytaiahkcmdnaooaagreatdoor", sum := "6f2ec36444b2ee6b62acd94214137a52da682bc93ecb01e1811ab4a28b53a77a", func := "schisma/schismalaw30.DivisionRecords", spec := "divisionRecords", unfollowed := true, recurses := true, named := ["internal/strconv.uint64pow10", "math/bits.deBruijn32tab", "math/bits.deBruijn64tab", "strconv.ErrSyntax", "strconv.ErrRange"], apart := false, laid := [("math/bits.deBruijn32tab", laid_math_bits_deBruijn32tab), ("math/bits.deBruijn64tab", laid_math_bits_deBruijn64tab), ("internal/strconv.uint64pow10", laid_internal_strconv_uint64pow10), ("strconv.ErrRange", laid_strconv_ErrRange), ("strconv.ErrSyntax", laid_strconv_ErrSyntax)] }
def DivisionRecordsSaid : Prop := divisionRecordsRow.holds Tryz.pinned (OpenSpec.ofChange divisionRecordsSpec)

/-- ITS FALSE NEIGHBOUR: 'it returns false'. Refute it at one input. -/
def divisionRecordsWrong : ChangeSpec := { name := "divisionRecords", fn := fun _ => fun
  | [d1, d2, d3] => { results := [.lit (.bool false)], args := [d1, d2, d3] }
  | _ => none }
def DivisionRecordsWrongFalsely : Prop := divisionRecordsRow.holds Tryz.pinned (OpenSpec.ofChange divisionRecordsWrong)

/-- 'schismalaw30.DivisionNearest': WHATEVER THE INPUT: true; the input reads as it did. -/
def divisionNearestSpec : ChangeSpec := { name := "divisionNearest", fn := fun _ => fun
  | [d1, d2, d3] => { results := [.lit (.bool true)], args := [d1, d2, d3] }
  | _ => none }
def divisionNearestRow : OpenClaim := { program := "ytaiahkcmdnaooaagreatdoor", sum := "6f2ec36444b2ee6b62acd94214137a52da682bc93ecb01e1811ab4a28b53a77a", func := "schisma/schismalaw30.DivisionNearest", spec := "divisionNearest", unfollowed := true, recurses := true, named := ["internal/strconv.uint64pow10", "math/bits.deBruijn32tab", "math/bits.deBruijn64tab", "strconv.ErrSyntax", "strconv.ErrRange"], apart := false, laid := [("math/bits.deBruijn32tab", laid_math_bits_deBruijn32tab), ("math/bits.deBruijn64tab", laid_math_bits_deBruijn64tab), ("internal/strconv.uint64pow10", laid_internal_strconv_uint64pow10), ("strconv.ErrRange", laid_strconv_ErrRange), ("strconv.ErrSyntax", laid_strconv_ErrSyntax)] }
def DivisionNearestSaid : Prop := divisionNearestRow.holds Tryz.pinned (OpenSpec.ofChange divisionNearestSpec)

/-- ITS FALSE NEIGHBOUR: 'it returns false'. Refute it at one input. -/
def divisionNearestWrong : ChangeSpec := { name := "divisionNearest", fn := fun _ => fun
  | [d1, d2, d3] => { results := [.lit (.bool false)], args := [d1, d2, d3] }
  | _ => none }
def DivisionNearestWrongFalsely : Prop := divisionNearestRow.holds Tryz.pinned (OpenSpec.ofChange divisionNearestWrong)

/-- 'schismalaw30.DivisionWithin': WHATEVER THE INPUT: true; the input reads as it did. -/
def divisionWithinSpec : ChangeSpec := { name := "divisionWithin", fn := fun _ => fun
  | [d1, d2] => { results := [.lit (.bool true)], args := [d1, d2] }
  | _ => none }
def divisionWithinRow : OpenClaim := { program := "ytaiahkcmdnaooaagreatdoor", sum := "6f2ec36444b2ee6b62acd94214137a52da682bc93ecb01e1811ab4a28b53a77a", func := "schisma/schismalaw30.DivisionWithin", spec := "divisionWithin", unfollowed := true, recurses := true, named := ["internal/strconv.uint64pow10", "math/bits.deBruijn32tab", "math/bits.deBruijn64tab", "strconv.ErrSyntax", "strconv.ErrRange"], apart := false, laid := [("math/bits.deBruijn32tab", laid_math_bits_deBruijn32tab), ("math/bits.deBruijn64tab", laid_math_bits_deBruijn64tab), ("internal/strconv.uint64pow10", laid_internal_strconv_uint64pow10), ("strconv.ErrRange", laid_strconv_ErrRange), ("strconv.ErrSyntax", laid_strconv_ErrSyntax)] }
def DivisionWithinSaid : Prop := divisionWithinRow.holds Tryz.pinned (OpenSpec.ofChange divisionWithinSpec)

/-- ITS FALSE NEIGHBOUR: 'it returns false'. Refute it at one input. -/
def divisionWithinWrong : ChangeSpec := { name := "divisionWithin", fn := fun _ => fun
  | [d1, d2] => { results := [.lit (.bool false)], args := [d1, d2] }
  | _ => none }
def DivisionWithinWrongFalsely : Prop := divisionWithinRow.holds Tryz.pinned (OpenSpec.ofChange divisionWithinWrong)

/-- 'schismalaw30.DivisionBest': WHATEVER THE INPUT: true; the input reads as it did. -/
def divisionBestSpec : ChangeSpec := { name := "divisionBest", fn := fun _ => fun
  | [d1, d2] => { results := [.lit (.bool true)], args := [d1, d2] }
  | _ => none }
def divisionBestRow : OpenClaim := { program := "ytaiahkcmdnaooaagreatdoor", sum := "6f2ec36444b2ee6b62acd94214137a52da682bc93ecb01e1811ab4a28b53a77a", func := "schisma/schismalaw30.DivisionBest", spec := "divisionBest", unfollowed := true, recurses := true, named := ["internal/strconv.uint64pow10", "math/bits.deBruijn32tab", "math/bits.deBruijn64tab", "strconv.ErrSyntax", "strconv.ErrRange"], apart := false, laid := [("math/bits.deBruijn32tab", laid_math_bits_deBruijn32tab), ("math/bits.deBruijn64tab", laid_math_bits_deBruijn64tab), ("internal/strconv.uint64pow10", laid_internal_strconv_uint64pow10), ("strconv.ErrRange", laid_strconv_ErrRange), ("strconv.ErrSyntax", laid_strconv_ErrSyntax)] }
def DivisionBestSaid : Prop := divisionBestRow.holds Tryz.pinned (OpenSpec.ofChange divisionBestSpec)

/-- ITS FALSE NEIGHBOUR: 'it returns false'. Refute it at one input. -/
def divisionBestWrong : ChangeSpec := { name := "divisionBest", fn := fun _ => fun
  | [d1, d2] => { results := [.lit (.bool false)], args := [d1, d2] }
  | _ => none }
def DivisionBestWrongFalsely : Prop := divisionBestRow.holds Tryz.pinned (OpenSpec.ofChange divisionBestWrong)

/-- 'schismalaw30.DivisionLeast': WHATEVER THE INPUT: true; the input reads as it did. -/
def divisionLeastSpec : ChangeSpec := { name := "divisionLeast", fn := fun _ => fun
  | [d1, d2] => { results := [.lit (.bool true)], args := [d1, d2] }
  | _ => none }
def divisionLeastRow : OpenClaim := { program := "ytaiahkcmdnaooaagreatdoor", sum := "6f2ec36444b2ee6b62acd94214137a52da682bc93ecb01e1811ab4a28b53a77a", func := "schisma/schismalaw30.DivisionLeast", spec := "divisionLeast", unfollowed := true, recurses := true, named := ["internal/strconv.uint64pow10", "math/bits.deBruijn32tab", "math/bits.deBruijn64tab", "strconv.ErrSyntax", "strconv.ErrRange"], apart := false, laid := [("math/bits.deBruijn32tab", laid_math_bits_deBruijn32tab), ("math/bits.deBruijn64tab", laid_math_bits_deBruijn64tab), ("internal/strconv.uint64pow10", laid_internal_strconv_uint64pow10), ("strconv.ErrRange", laid_strconv_ErrRange), ("strconv.ErrSyntax", laid_strconv_ErrSyntax)] }
def DivisionLeastSaid : Prop := divisionLeastRow.holds Tryz.pinned (OpenSpec.ofChange divisionLeastSpec)

/-- ITS FALSE NEIGHBOUR: 'it returns false'. Refute it at one input. -/
def divisionLeastWrong : ChangeSpec := { name := "divisionLeast", fn := fun _ => fun
  | [d1, d2] => { results := [.lit (.bool false)], args := [d1, d2] }
  | _ => none }
def DivisionLeastWrongFalsely : Prop := divisionLeastRow.holds Tryz.pinned (OpenSpec.ofChange divisionLeastWrong)

/-- 'schismalaw30.DivisionHalf': WHATEVER THE INPUT: true; the input reads as it did. -/
def divisionHalfSpec : ChangeSpec := { name := "divisionHalf", fn := fun _ => fun
  | [d1, d2] => { results := [.lit (.bool true)], args := [d1, d2] }
  | _ => none }
def divisionHalfRow : OpenClaim := { program := "ytaiahkcmdnaooaagreatdoor", sum := "6f2ec36444b2ee6b62acd94214137a52da682bc93ecb01e1811ab4a28b53a77a", func := "schisma/schismalaw30.DivisionHalf", spec := "divisionHalf", unfollowed := true, recurses := true, named := ["internal/strconv.uint64pow10", "math/bits.deBruijn32tab", "math/bits.deBruijn64tab", "strconv.ErrSyntax", "strconv.ErrRange"], apart := false, laid := [("math/bits.deBruijn32tab", laid_math_bits_deBruijn32tab), ("math/bits.deBruijn64tab", laid_math_bits_deBruijn64tab), ("internal/strconv.uint64pow10", laid_internal_strconv_uint64pow10), ("strconv.ErrRange", laid_strconv_ErrRange), ("strconv.ErrSyntax", laid_strconv_ErrSyntax)] }
def DivisionHalfSaid : Prop := divisionHalfRow.holds Tryz.pinned (OpenSpec.ofChange divisionHalfSpec)

/-- ITS FALSE NEIGHBOUR: 'it returns false'. Refute it at one input. -/
def divisionHalfWrong : ChangeSpec := { name := "divisionHalf", fn := fun _ => fun
  | [d1, d2] => { results := [.lit (.bool false)], args := [d1, d2] }
  | _ => none }
def DivisionHalfWrongFalsely : Prop := divisionHalfRow.holds Tryz.pinned (OpenSpec.ofChange divisionHalfWrong)

/-- 'schismalaw30.DivisionVals': WHATEVER THE INPUT: true; the input reads as it did. -/
def divisionValsSpec : ChangeSpec := { name := "divisionVals", fn := fun _ => fun
  | [d1, d2] => { results := [.lit (.bool true)], args := [d1, d2] }
  | _ => none }
def divisionValsRow : OpenClaim := { program := "ytaiahkcmdnaooaagreatdoor", sum := "6f2ec36444b2ee6b62acd94214137a52da682bc93ecb01e1811ab4a28b53a77a", func := "schisma/schismalaw30.DivisionVals", spec := "divisionVals", unfollowed := true, recurses := true, named := ["internal/strconv.uint64pow10", "math/bits.deBruijn32tab", "math/bits.deBruijn64tab", "strconv.ErrSyntax", "strconv.ErrRange"], apart := false, laid := [("math/bits.deBruijn32tab", laid_math_bits_deBruijn32tab), ("math/bits.deBruijn64tab", laid_math_bits_deBruijn64tab), ("internal/strconv.uint64pow10", laid_internal_strconv_uint64pow10), ("strconv.ErrRange", laid_strconv_ErrRange), ("strconv.ErrSyntax", laid_strconv_ErrSyntax)] }
def DivisionValsSaid : Prop := divisionValsRow.holds Tryz.pinned (OpenSpec.ofChange divisionValsSpec)

/-- ITS FALSE NEIGHBOUR: 'it returns false'. Refute it at one input. -/
def divisionValsWrong : ChangeSpec := { name := "divisionVals", fn := fun _ => fun
  | [d1, d2] => { results := [.lit (.bool false)], args := [d1, d2] }
  | _ => none }
def DivisionValsWrongFalsely : Prop := divisionValsRow.holds Tryz.pinned (OpenSpec.ofChange divisionValsWrong)

/-- 'schismalaw30.DivisionLists': WHATEVER THE INPUT: true; the input reads as it did. -/
def divisionListsSpec : ChangeSpec := { name := "divisionLists", fn := fun _ => fun
  | [d1, d2] => { results := [.lit (.bool true)], args := [d1, d2] }
  | _ => none }
def divisionListsRow : OpenClaim := { program := "ytaiahkcmdnaooaagreatdoor", sum := "6f2ec36444b2ee6b62acd94214137a52da682bc93ecb01e1811ab4a28b53a77a", func := "schisma/schismalaw30.DivisionLists", spec := "divisionLists", unfollowed := true, recurses := true, named := ["internal/strconv.uint64pow10", "math/bits.deBruijn32tab", "math/bits.deBruijn64tab", "strconv.ErrSyntax", "strconv.ErrRange"], apart := false, laid := [("math/bits.deBruijn32tab", laid_math_bits_deBruijn32tab), ("math/bits.deBruijn64tab", laid_math_bits_deBruijn64tab), ("internal/strconv.uint64pow10", laid_internal_strconv_uint64pow10), ("strconv.ErrRange", laid_strconv_ErrRange), ("strconv.ErrSyntax", laid_strconv_ErrSyntax)] }
def DivisionListsSaid : Prop := divisionListsRow.holds Tryz.pinned (OpenSpec.ofChange divisionListsSpec)

/-- ITS FALSE NEIGHBOUR: 'it returns false'. Refute it at one input. -/
def divisionListsWrong : ChangeSpec := { name := "divisionLists", fn := fun _ => fun
  | [d1, d2] => { results := [.lit (.bool false)], args := [d1, d2] }
  | _ => none }
def DivisionListsWrongFalsely : Prop := divisionListsRow.holds Tryz.pinned (OpenSpec.ofChange divisionListsWrong)

/-- 'schismalaw30.DivisionConsistent': WHATEVER THE INPUT: true; the input reads as it did. -/
def divisionConsistentSpec : ChangeSpec := { name := "divisionConsistent", fn := fun _ => fun
  | [d1, d2] => { results := [.lit (.bool true)], args := [d1, d2] }
  | _ => none }
def divisionConsistentRow : OpenClaim := { program := "ytaiahkcmdnaooaagreatdoor", sum := "6f2ec36444b2ee6b62acd94214137a52da682bc93ecb01e1811ab4a28b53a77a", func := "schisma/schismalaw30.DivisionConsistent", spec := "divisionConsistent", unfollowed := true, recurses := true, named := ["internal/strconv.uint64pow10", "math/bits.deBruijn32tab", "math/bits.deBruijn64tab", "strconv.ErrSyntax", "strconv.ErrRange"], apart := false, laid := [("math/bits.deBruijn32tab", laid_math_bits_deBruijn32tab), ("math/bits.deBruijn64tab", laid_math_bits_deBruijn64tab), ("internal/strconv.uint64pow10", laid_internal_strconv_uint64pow10), ("strconv.ErrRange", laid_strconv_ErrRange), ("strconv.ErrSyntax", laid_strconv_ErrSyntax)] }
def DivisionConsistentSaid : Prop := divisionConsistentRow.holds Tryz.pinned (OpenSpec.ofChange divisionConsistentSpec)

/-- ITS FALSE NEIGHBOUR: 'it returns false'. Refute it at one input. -/
def divisionConsistentWrong : ChangeSpec := { name := "divisionConsistent", fn := fun _ => fun
  | [d1, d2] => { results := [.lit (.bool false)], args := [d1, d2] }
  | _ => none }
def DivisionConsistentWrongFalsely : Prop := divisionConsistentRow.holds Tryz.pinned (OpenSpec.ofChange divisionConsistentWrong)

/-- 'schismalaw30.DivisionErrors': WHATEVER THE INPUT: true; the input reads as it did. -/
def divisionErrorsSpec : ChangeSpec := { name := "divisionErrors", fn := fun _ => fun
  | [d1, d2, d3] => { results := [.lit (.bool true)], args := [d1, d2, d3] }
  | _ => none }
def divisionErrorsRow : OpenClaim := { program := "ytaiahkcmdnaooaagreatdoor", sum := "6f2ec36444b2ee6b62acd94214137a52da682bc93ecb01e1811ab4a28b53a77a", func := "schisma/schismalaw30.DivisionErrors", spec := "divisionErrors", unfollowed := true, recurses := true, named := ["internal/strconv.uint64pow10", "math/bits.deBruijn32tab", "math/bits.deBruijn64tab", "strconv.ErrSyntax", "strconv.ErrRange"], apart := false, laid := [("math/bits.deBruijn32tab", laid_math_bits_deBruijn32tab), ("math/bits.deBruijn64tab", laid_math_bits_deBruijn64tab), ("internal/strconv.uint64pow10", laid_internal_strconv_uint64pow10), ("strconv.ErrRange", laid_strconv_ErrRange), ("strconv.ErrSyntax", laid_strconv_ErrSyntax)] }
def DivisionErrorsSaid : Prop := divisionErrorsRow.holds Tryz.pinned (OpenSpec.ofChange divisionErrorsSpec)

/-- ITS FALSE NEIGHBOUR: 'it returns false'. Refute it at one input. -/
def divisionErrorsWrong : ChangeSpec := { name := "divisionErrors", fn := fun _ => fun
  | [d1, d2, d3] => { results := [.lit (.bool false)], args := [d1, d2, d3] }
  | _ => none }
def DivisionErrorsWrongFalsely : Prop := divisionErrorsRow.holds Tryz.pinned (OpenSpec.ofChange divisionErrorsWrong)

/- THE SECOND FORM. 'bulk': how many values and letters a reading holds, each counted each time it is reached (what is shared counts as often as it is met; a slice's spare places count too). A statement '..UptoSaid' is the law's where the arguments, and the package variables that the reading takes, are together of bulk at most 1048576: NARROWER than '..Said'. Prove '..Said' where nothing that the law and all that it calls make is longer than what came in: it says more and counts as full. Else prove '..UptoSaid'. A law counts once. -/
mutual
def uptoBulk {H : Type} : DataW H → Nat
  | .lit (.string bytes) => bytes.length + 1
  | .lit _ => 1
  | .nil => 1
  | .ptr d => uptoBulk d + 1
  | .slice elems spare => uptoBulkAll elems + uptoBulkAll spare + 1
  | .agg parts => uptoBulkAll parts + 1
  | .iface _ d => uptoBulk d + 1
  | .map entries => uptoBulkEntries entries + 1
  | .held _ => 1
def uptoBulkAll {H : Type} : List (DataW H) → Nat
  | [] => 0
  | d :: r => uptoBulk d + uptoBulkAll r
def uptoBulkEntries {H : Type} : List (Lit × DataW H) → Nat
  | [] => 0
  | x :: r => uptoBulkEntry x + uptoBulkEntries r
def uptoBulkEntry {H : Type} : Lit × DataW H → Nat
  | (.string bytes, d) => bytes.length + uptoBulk d + 1
  | (_, d) => uptoBulk d + 1
 end
def uptoSmall : (H : Type) → List (DataW H) → Bool := fun _ ds => decide (uptoBulkAll ds ≤ 1048576)
def OpenSpec.upto (s : _root_.Go.ChangeSpec) : _root_.Go.OpenSpec := { _root_.Go.OpenSpec.ofChange s with cond := some uptoSmall }

/-- 'schismalaw30.DivisionRecords', WHERE WHAT IT READS IS OF BULK AT MOST 1048576: true; the input reads as it did. -/
def divisionRecordsUptoRow : OpenClaim := { program := "ytaiahkcmdnaooaagreatdoor", sum := "6f2ec36444b2ee6b62acd94214137a52da682bc93ecb01e1811ab4a28b53a77a", func := "schisma/schismalaw30.DivisionRecords", spec := "divisionRecords", unfollowed := true, recurses := true, named := ["internal/strconv.uint64pow10", "math/bits.deBruijn32tab", "math/bits.deBruijn64tab", "strconv.ErrSyntax", "strconv.ErrRange"], apart := false, laid := [("math/bits.deBruijn32tab", laid_math_bits_deBruijn32tab), ("math/bits.deBruijn64tab", laid_math_bits_deBruijn64tab), ("internal/strconv.uint64pow10", laid_internal_strconv_uint64pow10), ("strconv.ErrRange", laid_strconv_ErrRange), ("strconv.ErrSyntax", laid_strconv_ErrSyntax)], narrowed := true }
def DivisionRecordsUptoSaid : Prop := divisionRecordsUptoRow.holds Tryz.pinned (OpenSpec.upto divisionRecordsSpec)

/-- 'schismalaw30.DivisionNearest', WHERE WHAT IT READS IS OF BULK AT MOST 1048576: true; the input reads as it did. -/
def divisionNearestUptoRow : OpenClaim := { program := "ytaiahkcmdnaooaagreatdoor", sum := "6f2ec36444b2ee6b62acd94214137a52da682bc93ecb01e1811ab4a28b53a77a", func := "schisma/schismalaw30.DivisionNearest", spec := "divisionNearest", unfollowed := true, recurses := true, named := ["internal/strconv.uint64pow10", "math/bits.deBruijn32tab", "math/bits.deBruijn64tab", "strconv.ErrSyntax", "strconv.ErrRange"], apart := false, laid := [("math/bits.deBruijn32tab", laid_math_bits_deBruijn32tab), ("math/bits.deBruijn64tab", laid_math_bits_deBruijn64tab), ("internal/strconv.uint64pow10", laid_internal_strconv_uint64pow10), ("strconv.ErrRange", laid_strconv_ErrRange), ("strconv.ErrSyntax", laid_strconv_ErrSyntax)], narrowed := true }
def DivisionNearestUptoSaid : Prop := divisionNearestUptoRow.holds Tryz.pinned (OpenSpec.upto divisionNearestSpec)

/-- 'schismalaw30.DivisionWithin', WHERE WHAT IT READS IS OF BULK AT MOST 1048576: true; the input reads as it did. -/
def divisionWithinUptoRow : OpenClaim := { program := "ytaiahkcmdnaooaagreatdoor", sum := "6f2ec36444b2ee6b62acd94214137a52da682bc93ecb01e1811ab4a28b53a77a", func := "schisma/schismalaw30.DivisionWithin", spec := "divisionWithin", unfollowed := true, recurses := true, named := ["internal/strconv.uint64pow10", "math/bits.deBruijn32tab", "math/bits.deBruijn64tab", "strconv.ErrSyntax", "strconv.ErrRange"], apart := false, laid := [("math/bits.deBruijn32tab", laid_math_bits_deBruijn32tab), ("math/bits.deBruijn64tab", laid_math_bits_deBruijn64tab), ("internal/strconv.uint64pow10", laid_internal_strconv_uint64pow10), ("strconv.ErrRange", laid_strconv_ErrRange), ("strconv.ErrSyntax", laid_strconv_ErrSyntax)], narrowed := true }
def DivisionWithinUptoSaid : Prop := divisionWithinUptoRow.holds Tryz.pinned (OpenSpec.upto divisionWithinSpec)

/-- 'schismalaw30.DivisionBest', WHERE WHAT IT READS IS OF BULK AT MOST 1048576: true; the input reads as it did. -/
def divisionBestUptoRow : OpenClaim := { program := "ytaiahkcmdnaooaagreatdoor", sum := "6f2ec36444b2ee6b62acd94214137a52da682bc93ecb01e1811ab4a28b53a77a", func := "schisma/schismalaw30.DivisionBest", spec := "divisionBest", unfollowed := true, recurses := true, named := ["internal/strconv.uint64pow10", "math/bits.deBruijn32tab", "math/bits.deBruijn64tab", "strconv.ErrSyntax", "strconv.ErrRange"], apart := false, laid := [("math/bits.deBruijn32tab", laid_math_bits_deBruijn32tab), ("math/bits.deBruijn64tab", laid_math_bits_deBruijn64tab), ("internal/strconv.uint64pow10", laid_internal_strconv_uint64pow10), ("strconv.ErrRange", laid_strconv_ErrRange), ("strconv.ErrSyntax", laid_strconv_ErrSyntax)], narrowed := true }
def DivisionBestUptoSaid : Prop := divisionBestUptoRow.holds Tryz.pinned (OpenSpec.upto divisionBestSpec)

/-- 'schismalaw30.DivisionLeast', WHERE WHAT IT READS IS OF BULK AT MOST 1048576: true; the input reads as it did. -/
def divisionLeastUptoRow : OpenClaim := { program := "ytaiahkcmdnaooaagreatdoor", sum := "6f2ec36444b2ee6b62acd94214137a52da682bc93ecb01e1811ab4a28b53a77a", func := "schisma/schismalaw30.DivisionLeast", spec := "divisionLeast", unfollowed := true, recurses := true, named := ["internal/strconv.uint64pow10", "math/bits.deBruijn32tab", "math/bits.deBruijn64tab", "strconv.ErrSyntax", "strconv.ErrRange"], apart := false, laid := [("math/bits.deBruijn32tab", laid_math_bits_deBruijn32tab), ("math/bits.deBruijn64tab", laid_math_bits_deBruijn64tab), ("internal/strconv.uint64pow10", laid_internal_strconv_uint64pow10), ("strconv.ErrRange", laid_strconv_ErrRange), ("strconv.ErrSyntax", laid_strconv_ErrSyntax)], narrowed := true }
def DivisionLeastUptoSaid : Prop := divisionLeastUptoRow.holds Tryz.pinned (OpenSpec.upto divisionLeastSpec)

/-- 'schismalaw30.DivisionHalf', WHERE WHAT IT READS IS OF BULK AT MOST 1048576: true; the input reads as it did. -/
def divisionHalfUptoRow : OpenClaim := { program := "ytaiahkcmdnaooaagreatdoor", sum := "6f2ec36444b2ee6b62acd94214137a52da682bc93ecb01e1811ab4a28b53a77a", func := "schisma/schismalaw30.DivisionHalf", spec := "divisionHalf", unfollowed := true, recurses := true, named := ["internal/strconv.uint64pow10", "math/bits.deBruijn32tab", "math/bits.deBruijn64tab", "strconv.ErrSyntax", "strconv.ErrRange"], apart := false, laid := [("math/bits.deBruijn32tab", laid_math_bits_deBruijn32tab), ("math/bits.deBruijn64tab", laid_math_bits_deBruijn64tab), ("internal/strconv.uint64pow10", laid_internal_strconv_uint64pow10), ("strconv.ErrRange", laid_strconv_ErrRange), ("strconv.ErrSyntax", laid_strconv_ErrSyntax)], narrowed := true }
def DivisionHalfUptoSaid : Prop := divisionHalfUptoRow.holds Tryz.pinned (OpenSpec.upto divisionHalfSpec)

/-- 'schismalaw30.DivisionVals', WHERE WHAT IT READS IS OF BULK AT MOST 1048576: true; the input reads as it did. -/
def divisionValsUptoRow : OpenClaim := { program := "ytaiahkcmdnaooaagreatdoor", sum := "6f2ec36444b2ee6b62acd94214137a52da682bc93ecb01e1811ab4a28b53a77a", func := "schisma/schismalaw30.DivisionVals", spec := "divisionVals", unfollowed := true, recurses := true, named := ["internal/strconv.uint64pow10", "math/bits.deBruijn32tab", "math/bits.deBruijn64tab", "strconv.ErrSyntax", "strconv.ErrRange"], apart := false, laid := [("math/bits.deBruijn32tab", laid_math_bits_deBruijn32tab), ("math/bits.deBruijn64tab", laid_math_bits_deBruijn64tab), ("internal/strconv.uint64pow10", laid_internal_strconv_uint64pow10), ("strconv.ErrRange", laid_strconv_ErrRange), ("strconv.ErrSyntax", laid_strconv_ErrSyntax)], narrowed := true }
def DivisionValsUptoSaid : Prop := divisionValsUptoRow.holds Tryz.pinned (OpenSpec.upto divisionValsSpec)

/-- 'schismalaw30.DivisionLists', WHERE WHAT IT READS IS OF BULK AT MOST 1048576: true; the input reads as it did. -/
def divisionListsUptoRow : OpenClaim := { program := "ytaiahkcmdnaooaagreatdoor", sum := "6f2ec36444b2ee6b62acd94214137a52da682bc93ecb01e1811ab4a28b53a77a", func := "schisma/schismalaw30.DivisionLists", spec := "divisionLists", unfollowed := true, recurses := true, named := ["internal/strconv.uint64pow10", "math/bits.deBruijn32tab", "math/bits.deBruijn64tab", "strconv.ErrSyntax", "strconv.ErrRange"], apart := false, laid := [("math/bits.deBruijn32tab", laid_math_bits_deBruijn32tab), ("math/bits.deBruijn64tab", laid_math_bits_deBruijn64tab), ("internal/strconv.uint64pow10", laid_internal_strconv_uint64pow10), ("strconv.ErrRange", laid_strconv_ErrRange), ("strconv.ErrSyntax", laid_strconv_ErrSyntax)], narrowed := true }
def DivisionListsUptoSaid : Prop := divisionListsUptoRow.holds Tryz.pinned (OpenSpec.upto divisionListsSpec)

/-- 'schismalaw30.DivisionConsistent', WHERE WHAT IT READS IS OF BULK AT MOST 1048576: true; the input reads as it did. -/
def divisionConsistentUptoRow : OpenClaim := { program := "ytaiahkcmdnaooaagreatdoor", sum := "6f2ec36444b2ee6b62acd94214137a52da682bc93ecb01e1811ab4a28b53a77a", func := "schisma/schismalaw30.DivisionConsistent", spec := "divisionConsistent", unfollowed := true, recurses := true, named := ["internal/strconv.uint64pow10", "math/bits.deBruijn32tab", "math/bits.deBruijn64tab", "strconv.ErrSyntax", "strconv.ErrRange"], apart := false, laid := [("math/bits.deBruijn32tab", laid_math_bits_deBruijn32tab), ("math/bits.deBruijn64tab", laid_math_bits_deBruijn64tab), ("internal/strconv.uint64pow10", laid_internal_strconv_uint64pow10), ("strconv.ErrRange", laid_strconv_ErrRange), ("strconv.ErrSyntax", laid_strconv_ErrSyntax)], narrowed := true }
def DivisionConsistentUptoSaid : Prop := divisionConsistentUptoRow.holds Tryz.pinned (OpenSpec.upto divisionConsistentSpec)

/-- 'schismalaw30.DivisionErrors', WHERE WHAT IT READS IS OF BULK AT MOST 1048576: true; the input reads as it did. -/
def divisionErrorsUptoRow : OpenClaim := { program := "ytaiahkcmdnaooaagreatdoor", sum := "6f2ec36444b2ee6b62acd94214137a52da682bc93ecb01e1811ab4a28b53a77a", func := "schisma/schismalaw30.DivisionErrors", spec := "divisionErrors", unfollowed := true, recurses := true, named := ["internal/strconv.uint64pow10", "math/bits.deBruijn32tab", "math/bits.deBruijn64tab", "strconv.ErrSyntax", "strconv.ErrRange"], apart := false, laid := [("math/bits.deBruijn32tab", laid_math_bits_deBruijn32tab), ("math/bits.deBruijn64tab", laid_math_bits_deBruijn64tab), ("internal/strconv.uint64pow10", laid_internal_strconv_uint64pow10), ("strconv.ErrRange", laid_strconv_ErrRange), ("strconv.ErrSyntax", laid_strconv_ErrSyntax)], narrowed := true }
def DivisionErrorsUptoSaid : Prop := divisionErrorsUptoRow.holds Tryz.pinned (OpenSpec.upto divisionErrorsSpec)

end Rows
end Go.Proofs.YtaiahkcmdnaooaaGreatDoor
