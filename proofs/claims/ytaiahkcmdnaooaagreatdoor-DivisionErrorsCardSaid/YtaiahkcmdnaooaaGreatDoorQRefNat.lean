/- Natural numbers to the base 10^9 of the reference: what its functions find. -/
import Derived.Test.YtaiahkcmdnaooaaGreatDoorQCkForm
import Derived.Test.YtaiahkcmdnaooaaGreatDoorQT
set_option linter.unusedVariables false
set_option linter.unusedSimpArgs false
namespace Go.Vm
open Go Go.Am Go.Big
def Z:Nat:=1000000000
theorem au:2<=Z:=ae
theorem bg:0<Z:=ae
def i9 (n:Nat):D:=.int .i64 n
end Go.Vm
