/- Integers of the checker. -/
import Derived.Test.YtaiahkcmdnaooaaGreatDoorQCkNat
import Derived.Test.YtaiahkcmdnaooaaGreatDoorQT
import Derived.Test.YtaiahkcmdnaooaaGreatDoorQVmSx
set_option linter.unusedVariables false
set_option linter.unusedSimpArgs false
namespace Go.Vm
open Go Go.Am Go.Big
def Qs (n:Nat):D:=.sl (len n) ((dig W n).map u32)
@[simp] theorem TZ (n:Nat):norm (Qs n)=Qs n:=rfl
@[simp] theorem Uy (h:Hp) (n:Nat):bY h (nat n)=some (nat n,h):=Fp ..
@[simp] theorem T2 (n:Nat):bq (.d (Qs n))=some (I (len n)):=rfl
def U4 (z:Int):List V:=[.d (.bool (decide (z<0))),.d (Qs z.natAbs)]
def Ta (z:Int):V:=.agg (U4 z)
@[simp] theorem TW (h:Hp) (z:Int):bY h (Ta z)=some (Ta z,h):=by simp [Ta,U4,bY,aH]
end Go.Vm
