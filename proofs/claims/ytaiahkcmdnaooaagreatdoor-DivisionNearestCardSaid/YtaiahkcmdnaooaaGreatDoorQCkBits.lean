/- Natural numbers of the checker: bits, shift, divide, common. -/
import Derived.Test.YtaiahkcmdnaooaaGreatDoorQCkInt
import Derived.Test.YtaiahkcmdnaooaaGreatDoorQMath
import Derived.Test.YtaiahkcmdnaooaaGreatDoorQT
namespace Go.Vm
open Go Go.Am Go.Big
@[simp] theorem U0 (l:List Nat) (h:Hp) {j:Nat} (hl:j<l.length):ld1 h (.dptr (l.map u32) j)=some (.d (.int .u32 ((nth 0 l j:Nat):Int))):=fA u32 0 l h hl
@[simp] theorem VI (n:Nat):V.d (u32 n)=.d (.int .u32 n):=id rfl
@[simp] theorem SG {α:Type} (f:α->D) {l:List α} (h:Hp) (hl:0<l.length) (k:V->Prop) (u:PU k):rn (Cd h .eql (lst f l) (.d (.pl (.slice none 0 0)))) k u=k (.d (.bool false)):=by
 cases l with
 | nil=>simp at hl
 | cons x l=>exact rfl
end Go.Vm
