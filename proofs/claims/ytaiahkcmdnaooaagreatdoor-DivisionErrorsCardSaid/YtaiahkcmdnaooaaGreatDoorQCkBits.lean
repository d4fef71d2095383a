/- Natural numbers of the checker: bits, shift, divide, common. -/
import Derived.Test.YtaiahkcmdnaooaaGreatDoorQCkInt
import Derived.Test.YtaiahkcmdnaooaaGreatDoorQMath
import Derived.Test.YtaiahkcmdnaooaaGreatDoorQT
set_option linter.unusedVariables false
set_option linter.unusedSimpArgs false
namespace Go.Vm
open Go Go.Am Go.Big
@[simp] theorem XT (l:List Nat) (h:Hp) {j:Nat} (hl:j<l.length):ld1 h (.dptr (l.map u32) j)=some (.d (.int .u32 ((nth 0 l j:Nat):Int))):=eZ u32 0 l h hl
@[simp] theorem ZC (n:Nat):V.d (u32 n)=.d (.int .u32 n):=id rfl
@[simp] theorem US {α:Type} (f:α->D) {l:List α} (h:Hp) (hl:0<l.length) (k:V->Prop) (u:PU k):rn (tQ h .eql (lst f l) (.d (.pl (.slice none 0 0)))) k u=k (.d (.bool false)):=by
 cases l with
 | nil=>simp at hl
 | cons x l=>exact rfl
end Go.Vm
