/- Normal forms, by the checker. -/
import Derived.Test.YtaiahkcmdnaooaaGreatDoorQCkMat
set_option linter.unusedVariables false
set_option linter.unusedSimpArgs false
namespace Go.Vm
open Go Go.Am Go.Big
end Go.Vm
