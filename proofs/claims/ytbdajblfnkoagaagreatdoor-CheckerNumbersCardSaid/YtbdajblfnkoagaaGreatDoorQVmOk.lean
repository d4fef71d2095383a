/- The texts are such as the machines read: decided by the kernel. -/
import Derived.Test.YtbdajblfnkoagaaGreatDoorQOrc
import Derived.Test.YtbdajblfnkoagaaGreatDoorQVmC
set_option linter.unusedVariables false
set_option linter.unusedSimpArgs false
set_option maxRecDepth 100000
namespace Go.Vm
open Go Go.Am
theorem fns_ok:(List.range X.P.funcs.size).all (fun f=>!X.allow f || match X.P.funcs[f]? with
  | some fn=>okFn X.P fn && (match fn.body with | some c=>okCodeV Y fn.ntmps c | none=>true)
  | none=>true)=true:=by decide +kernel
theorem fn_ok {f:FuncId} {fn:Func} (ha:X.allow f=true) (hf:X.P.funcs[f]? = some fn):okFn X.P fn=true∧(match fn.body with | some c=>okCodeV Y fn.ntmps c | none=>true)=true:=by
 have hlt:f < X.P.funcs.size:=by
  rcases Nat.lt_or_ge f X.P.funcs.size with h | h
  ·exact h
  ·rw [Array.getElem?_eq_none h] at hf; cases hf
 have:=List.all_eq_true.1 fns_ok f (List.mem_range.2 hlt)
 rw [ha,hf] at this
 simpa using this
theorem vOk:VOk Y where
 y:=yOk
 fns f fn c ha hf hc:=by
  have:=(fn_ok ha hf).2
  rw [hc] at this
  exact this
theorem okProg:OkProg X where
 mixed:=by rfl
 fns f fn ha hf:=(fn_ok ha hf).1
 orc:=orcOk
end Go.Vm
