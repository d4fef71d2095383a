/- The texts are such as the machines read: decided by the kernel. -/
import Derived.Test.YtaiahkcmdnaooaaGreatDoorQOrc
import Derived.Test.YtaiahkcmdnaooaaGreatDoorQSeq
import Derived.Test.YtaiahkcmdnaooaaGreatDoorQVmC
set_option linter.unusedVariables false
set_option linter.unusedSimpArgs false
set_option maxRecDepth 100000
namespace Go.Vm
open Go Go.Am
theorem Ti:(List.range X.P.funcs.size).all (fun f=>!X.allow f || match X.P.funcs[f]? with
  | some fn=>Qo X.P fn && (match fn.body with | some c=>gZ Y fn.ntmps c | none=>true)
  | none=>true)=true:=aG
theorem R4 {f:FuncId} {fn:Func} (ha:X.allow f=true) (hf:X.P.funcs[f]? = some fn):Qo X.P fn=true∧(match fn.body with | some c=>gZ Y fn.ntmps c | none=>true)=true:=by
 have hlt:f<X.P.funcs.size:=by
  rcases Zl f X.P.funcs.size with h | h
  ·exact h
  ·rw [Array.getElem?_eq_none h] at hf;cases hf
 have:=Zv.1 Ti f (Xb.2 hlt);rw [ha,hf] at this;simpa using this
theorem vOk:VOk Y where
 y:=yOk
 fns f fn c ha hf hc:=by
  have:=(R4 ha hf).2;rw [hc] at this;exact this
theorem SO:IV X where
 mixed:=by rfl
 fns f fn ha hf:=(R4 ha hf).1
 orc:=UI
 seq:=UC
end Go.Vm
