/- Integers of the checker. -/
import Derived.Test.YtaiahkcmdnaooaaGreatDoorQCkNat
import Derived.Test.YtaiahkcmdnaooaaGreatDoorQT
import Derived.Test.YtaiahkcmdnaooaaGreatDoorQVmSx
set_option linter.unusedVariables false
set_option linter.unusedSimpArgs false
namespace Go.Vm
open Go Go.Am Go.Big
def SB (n:Nat):D:=.sl (len n) ((dig W n).map u32)
@[simp] theorem VZ (n:Nat):norm (SB n)=SB n:=rfl
@[simp] theorem XH (h:Hp) (n:Nat):aI h (nat n)=some (nat n,h):=pu ..
@[simp] theorem V1 (n:Nat):bC (.d (SB n))=some (I (len n)):=rfl
def YM (z:Int):List V:=[.d (.bool (decide (z<0))),.d (SB z.natAbs)]
def Vd (z:Int):V:=.agg (YM z)
@[simp] theorem VW (h:Hp) (z:Int):aI h (Vd z)=some (Vd z,h):=by simp [Vd,YM,aI,ai]
end Go.Vm
