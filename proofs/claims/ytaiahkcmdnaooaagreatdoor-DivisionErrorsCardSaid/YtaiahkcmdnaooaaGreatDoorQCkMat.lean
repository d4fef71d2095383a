/- Matrices of the checker. -/
import Derived.Test.YtaiahkcmdnaooaaGreatDoorQCkInt
import Derived.Test.YtaiahkcmdnaooaaGreatDoorQLibSl
set_option linter.unusedVariables false
set_option linter.unusedSimpArgs false
namespace Go.Vm
open Go Go.Am Go.Big
def pL:List Int->List Int->Int
 | a::l,b::m=>a*b+pL l m
 | _,_=>0
end Go.Vm
