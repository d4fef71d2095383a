/- Integers of the checker. -/
import Derived.Test.YtaiahkcmdnaooaaGreatDoorQCkNat
import Derived.Test.YtaiahkcmdnaooaaGreatDoorQT
import Derived.Test.YtaiahkcmdnaooaaGreatDoorQVmSx
namespace Go.Vm
open Go Go.Am Go.Big
def N3 (n:Nat):D:=.sl (len n) ((dig W n).map u32)
@[simp] theorem Ri (n:Nat):norm (N3 n)=N3 n:=rfl
@[simp] theorem R2 (h:Hp) (n:Nat):aB h (nat n)=some (nat n,h):=tB ..
@[simp] theorem Rk (n:Nat):am (.d (N3 n))=some (I (len n)):=rfl
def SA (z:Int):List V:=[.d (.bool (decide (z < 0))),.d (N3 z.natAbs)]
def QA (z:Int):V:=.agg (SA z)
@[simp] theorem Re (h:Hp) (z:Int):aB h (QA z)=some (QA z,h):=by simp [QA,SA,aB,ae]
end Go.Vm
