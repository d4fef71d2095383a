/- Integers of the checker. -/
import Derived.Test.YtaiahkcmdnaooaaGreatDoorQCkNat
import Derived.Test.YtaiahkcmdnaooaaGreatDoorQT
import Derived.Test.YtaiahkcmdnaooaaGreatDoorQVmSx
namespace Go.Vm
open Go Go.Am Go.Big
def QH (n:Nat):D:=.sl (len n) ((dig W n).map u32)
@[simp] theorem Ub (n:Nat):norm (QH n)=QH n:=rfl
@[simp] theorem UG (h:Hp) (n:Nat):aI h (nat n)=some (nat n,h):=rO ..
@[simp] theorem Ud (n:Nat):aA (.d (QH n))=some (I (len n)):=rfl
def U8 (z:Int):List V:=[.d (.bool (decide (z<0))),.d (QH z.natAbs)]
def Tp (z:Int):V:=.agg (U8 z)
@[simp] theorem T8 (h:Hp) (z:Int):aI h (Tp z)=some (Tp z,h):=by simp [Tp,U8,aI,aj]
end Go.Vm
