/- The texts are such as the machines read: decided by the kernel. -/
import Derived.Test.YtaiahkcmdnaooaaGreatDoorQOrc
import Derived.Test.YtaiahkcmdnaooaaGreatDoorQSeq
import Derived.Test.YtaiahkcmdnaooaaGreatDoorQVmC
set_option linter.unusedVariables false
set_option linter.unusedSimpArgs false
set_option maxRecDepth 100000
namespace Go.Vm
open Go Go.Am
theorem Vj:(List.range X.P.funcs.size).all (fun f=>!X.allow f || match X.P.funcs[f]? with
  | some fn=>Sv X.P fn && (match fn.body with | some c=>iK Y fn.ntmps c | none=>true)
  | none=>true)=true:=aJ
theorem Uj {f:FuncId} {fn:Func} (ha:X.allow f=true) (hf:X.P.funcs[f]? = some fn):Sv X.P fn=true∧(match fn.body with | some c=>iK Y fn.ntmps c | none=>true)=true:=by
 have hlt:f<X.P.funcs.size:=by
  rcases Zk f X.P.funcs.size with h | h
  ·exact h
  ·rw [Array.getElem?_eq_none h] at hf;cases hf
 have:=Zu.1 Vj f (Wj.2 hlt);rw [ha,hf] at this;simpa using this
theorem vOk:VOk Y where
 y:=yOk
 fns f fn c ha hf hc:=by
  have:=(Uj ha hf).2;rw [hc] at this;exact this
theorem UY:KC X where
 mixed:=by rfl
 fns f fn ha hf:=(Uj ha hf).1
 orc:=XO
 seq:=XL
end Go.Vm
