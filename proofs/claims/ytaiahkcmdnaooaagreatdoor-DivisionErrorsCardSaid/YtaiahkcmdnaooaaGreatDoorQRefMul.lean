/- ref03.MulW. -/
import Derived.Test.YtaiahkcmdnaooaaGreatDoorQMath
import Derived.Test.YtaiahkcmdnaooaaGreatDoorQRefW
import Derived.Test.YtaiahkcmdnaooaaGreatDoorQWalk
set_option linter.unusedVariables false
set_option linter.unusedSimpArgs false
namespace Go.Vm
open Go Go.Am Go.Big
@[simp] theorem ZF (n:Nat):V.d (i9 n)=I n:=id rfl
@[simp] theorem YX (l:List Nat) (h:Hp) {j:Nat} (hl:j<l.length):ld1 h (.dptr (l.map i9) j)=some (I ((nth 0 l j:Nat):Int)):=eZ i9 0 l h hl
end Go.Vm
