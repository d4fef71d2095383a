/- Integers of the checker. -/
import Derived.Test.YtaiahkcmdnaooaaGreatDoorQCkNat
import Derived.Test.YtaiahkcmdnaooaaGreatDoorQT
import Derived.Test.YtaiahkcmdnaooaaGreatDoorQVmSx
namespace Go.Vm
open Go Go.Am Go.Big
def Og (n:Nat):D:=.sl (len n) ((dig W n).map u32)
@[simp] theorem RE (n:Nat):norm (Og n)=Og n:=rfl
@[simp] theorem Sn (h:Hp) (n:Nat):aA h (nat n)=some (nat n,h):=xQ ..
@[simp] theorem RG (n:Nat):am (.d (Og n))=some (I (len n)):=rfl
def SV (z:Int):List V:=[.d (.bool (decide (z<0))),.d (Og z.natAbs)]
def QN (z:Int):V:=.agg (SV z)
@[simp] theorem Ry (h:Hp) (z:Int):aA h (QN z)=some (QN z,h):=by simp [QN,SV,aA,ae]
end Go.Vm
