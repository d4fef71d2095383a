/- Matrices of the checker. -/
import Derived.Test.YtaiahkcmdnaooaaGreatDoorQCkInt
import Derived.Test.YtaiahkcmdnaooaaGreatDoorQLibSl
set_option linter.unusedVariables false
set_option linter.unusedSimpArgs false
namespace Go.Vm
open Go Go.Am Go.Big
def o7 (n:Int):Bool:=decide (-1000000000<=n∧n<=1000000000)
def gR:List Int->List Int->Int
 | a::l,b::m=>a*b+gR l m
 | _,_=>0
theorem oD {n:Int}:o7 n=true↔-1000000000<=n∧n<=1000000000:=by simp [o7]
end Go.Vm
