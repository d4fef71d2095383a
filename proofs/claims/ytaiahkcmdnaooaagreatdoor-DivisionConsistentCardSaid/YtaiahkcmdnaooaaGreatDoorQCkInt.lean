/- Integers of the checker. -/
import Derived.Test.YtaiahkcmdnaooaaGreatDoorQCkNat
import Derived.Test.YtaiahkcmdnaooaaGreatDoorQT
import Derived.Test.YtaiahkcmdnaooaaGreatDoorQVmSx
set_option linter.unusedVariables false
set_option linter.unusedSimpArgs false
namespace Go.Vm
open Go Go.Am Go.Big
def TV (n:Nat):D:=.sl (len n) ((dig W n).map u32)
@[simp] theorem YN (n:Nat):norm (TV n)=TV n:=rfl
@[simp] theorem ZW (h:Hp) (n:Nat):aF h (nat n)=some (nat n,h):=sE ..
@[simp] theorem YP (n:Nat):bm (.d (TV n))=some (I (len n)):=rfl
def aaA (z:Int):List V:=[.d (.bool (decide (z<0))),.d (TV z.natAbs)]
def WV (z:Int):V:=.agg (aaA z)
@[simp] theorem YK (h:Hp) (z:Int):aF h (WV z)=some (WV z,h):=by simp [WV,aaA,aF,ai]
end Go.Vm
