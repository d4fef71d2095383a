/- Natural numbers of the checker: what its functions find. -/
import Derived.Test.YtaiahkcmdnaooaaGreatDoorQMath
import Derived.Test.YtaiahkcmdnaooaaGreatDoorQT
import Derived.Test.YtaiahkcmdnaooaaGreatDoorQVmLib
set_option linter.unusedVariables false
set_option linter.unusedSimpArgs false
namespace Go.Vm
open Go Go.Am Go.Big
def W:Nat:=4294967296
def u32 (n:Nat):D:=.int .u32 n
def nat (n:Nat):V:=lst u32 (dig W n)
def len (n:Nat):Nat:=(dig W n).length
end Go.Vm
