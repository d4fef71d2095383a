/- ref07: Check, first, IsForm: what they find. -/
import Derived.Test.YtaiahkcmdnaooaaGreatDoorQCkForm
import Derived.Test.YtaiahkcmdnaooaaGreatDoorQT
set_option linter.unusedVariables false
set_option linter.unusedSimpArgs false
namespace Go.Vm
open Go Go.Am Go.Big
end Go.Vm
