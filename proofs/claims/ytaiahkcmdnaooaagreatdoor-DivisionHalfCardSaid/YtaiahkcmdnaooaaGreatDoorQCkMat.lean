/- Matrices of the checker. -/
import Derived.Test.YtaiahkcmdnaooaaGreatDoorQCkInt
import Derived.Test.YtaiahkcmdnaooaaGreatDoorQLibSl
set_option linter.unusedVariables false
set_option linter.unusedSimpArgs false
namespace Go.Vm
open Go Go.Am Go.Big
def nW (n:Int):Bool:=decide (-1000000000<=n∧n<=1000000000)
def mh:List Int->List Int->Int
 | a::l,b::m=>a*b+mh l m
 | _,_=>0
theorem nD {n:Int}:nW n=true↔-1000000000<=n∧n<=1000000000:=by simp [nW]
end Go.Vm
