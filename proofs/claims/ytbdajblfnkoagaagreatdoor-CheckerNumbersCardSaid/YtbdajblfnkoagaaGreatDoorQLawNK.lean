/- CheckerNumbers: the law. -/
import Derived.Test.YtbdajblfnkoagaaGreatDoorQKnown
import Derived.Test.YtbdajblfnkoagaaGreatDoorQSzB
set_option linter.unusedVariables false
set_option linter.unusedSimpArgs false
namespace Go.Vm
open Go Go.Am
theorem law_numbers (a b:List UInt8) (p:List Int) (s:List Tx):CP Y F.schismalaw55_CheckerNumbers [.agg [S a,S b],lst di p,lstm ratC s] (B true):=law_numbers_of known_ok a b p s
end Go.Vm
