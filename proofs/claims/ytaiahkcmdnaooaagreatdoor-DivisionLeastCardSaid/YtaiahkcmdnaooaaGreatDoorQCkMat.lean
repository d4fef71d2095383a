/- Matrices of the checker. -/
import Derived.Test.YtaiahkcmdnaooaaGreatDoorQCkInt
import Derived.Test.YtaiahkcmdnaooaaGreatDoorQLibSl
namespace Go.Vm
open Go Go.Am Go.Big
end Go.Vm
