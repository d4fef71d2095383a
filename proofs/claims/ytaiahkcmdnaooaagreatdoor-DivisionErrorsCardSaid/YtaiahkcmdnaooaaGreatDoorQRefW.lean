/- ref03.trim. -/
import Derived.Test.YtaiahkcmdnaooaaGreatDoorQRefSub
import Derived.Test.YtaiahkcmdnaooaaGreatDoorQStr
set_option linter.unusedVariables false
set_option linter.unusedSimpArgs false
namespace Go.Vm
open Go Go.Am Go.Big
end Go.Vm
