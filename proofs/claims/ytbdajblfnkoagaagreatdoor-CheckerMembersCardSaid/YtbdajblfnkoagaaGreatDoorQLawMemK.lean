/- CheckerMembers: the law. -/
import Derived.Test.YtbdajblfnkoagaaGreatDoorQKnown
import Derived.Test.YtbdajblfnkoagaaGreatDoorQLawMem
set_option linter.unusedVariables false
set_option linter.unusedSimpArgs false
namespace Go.Vm
open Go Go.Am
theorem law_members (m : List (List Int)) (k x : List Int) : CP Y F.schismalaw55_CheckerMembers [mat m, lst di k, lst di x] (.d (.bool true)) := law_members_of known_ok m k x
end Go.Vm
