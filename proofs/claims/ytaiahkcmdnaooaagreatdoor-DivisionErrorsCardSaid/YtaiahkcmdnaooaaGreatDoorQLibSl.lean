/- Functions of slices. -/
import Derived.Test.YtaiahkcmdnaooaaGreatDoorQT
import Derived.Test.YtaiahkcmdnaooaaGreatDoorQVmSx
set_option linter.unusedVariables false
set_option linter.unusedSimpArgs false
namespace Go.Vm
open Go Go.Am
def di (n:Int):D:=.int .i64 n
def row (l:List Int):D:=.sl l.length (l.map di)
abbrev mat (m:List (List Int)):V:=lst row m
@[simp] theorem ZG (n:Int):V.d (di n)=I n:=id rfl
@[simp] theorem VP (n:Int):norm (di n)=di n:=rfl
@[simp] theorem UP (l:List Int):norm (row l)=row l:=rfl
@[simp] theorem XV (l:List Int) (h:Hp) {k:IntKind} {i:Int} (h0:0<=i) (h1:i<l.length):ixV h 1 (.d (row l)) (.d (.int k i))=some (.dptr (l.map di) i.toNat):=dP di l h h0 h1
@[simp] theorem SZ (l:List Int) (h:Hp) {j:Nat} (hl:j<l.length):ld1 h (.dptr (l.map di) j)=some (.d (di (nth 0 l j))):=eZ di 0 l h hl
@[simp] theorem VV (m:List (List Int)) (h:Hp) {j:Nat} (hl:j<m.length):ld1 h (.dptr (m.map row) j)=some (.d (row (nth [] m j))):=eZ row [] m h hl
@[simp] theorem UV (l:List Int):bq (.d (row l))=some (I l.length):=rfl
def idx {α:Type} (p:α->Bool) (l:List α):Int:=match l.findIdx? p with
 | some i=>i
 | none=>-1
theorem cdf {C:nr} {h:Hp} {f:FuncId} {fs cs args:List V} {v:V} {k:V->Hp->Prop} {u:PU k} (hc:C f (fs++args++cs) v) (hs:aH h (fs++args++cs)=some (fs++args++cs,h)) (hk:k v h):rh (cal C h (.fn f fs cs) args) k u:=by
 simp only [rh,cal,hs];exact ⟨v,hc,by simpa using hk⟩
section
variable {α:Type} {f:α->D} {g:FuncId} {fs cs:List V} {p:α->Bool}
end
theorem JW {α:Type} (p:α->Bool) (l:List α):0<=idx p l↔l.any p=true:=by
 unfold idx;cases h:l.findIdx? p with
 | none=>simp [List.findIdx?_eq_none_iff] at h ⊢;exact h
 | some i=>
  simp [List.findIdx?_eq_some_iff_getElem] at h ⊢;obtain ⟨hi,h1,_⟩:=h;exact ⟨l[i],W6 hi,h1⟩
@[simp] theorem Vy (h:Hp) (g:FuncId):bY h (.fn g [] [])=some (.fn g [] [],h):=by simp [bY,aH]
end Go.Vm
