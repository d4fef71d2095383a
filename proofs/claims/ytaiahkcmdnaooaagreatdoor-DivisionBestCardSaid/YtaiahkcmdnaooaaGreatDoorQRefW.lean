/- ref03.trim. -/
import Derived.Test.YtaiahkcmdnaooaaGreatDoorQRefSub
import Derived.Test.YtaiahkcmdnaooaaGreatDoorQStr
namespace Go.Vm
open Go Go.Am Go.Big
end Go.Vm
