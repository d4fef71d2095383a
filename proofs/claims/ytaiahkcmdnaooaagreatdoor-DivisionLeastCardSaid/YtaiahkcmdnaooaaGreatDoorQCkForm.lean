/- Normal forms, by the checker. -/
import Derived.Test.YtaiahkcmdnaooaaGreatDoorQCkMat
namespace Go.Vm
open Go Go.Am Go.Big
end Go.Vm
