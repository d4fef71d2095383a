/- Functions of slices. -/
import Derived.Test.YtaiahkcmdnaooaaGreatDoorQT
import Derived.Test.YtaiahkcmdnaooaaGreatDoorQVmSx
namespace Go.Vm
open Go Go.Am
def di (n:Int):D:=.int .i64 n
def row (l:List Int):D:=.sl l.length (l.map di)
abbrev mat (m:List (List Int)):V:=lst row m
@[simp] theorem aan (n:Int):V.d (di n)=I n:=id rfl
@[simp] theorem WB (n:Int):norm (di n)=di n:=rfl
@[simp] theorem US (l:List Int):norm (row l)=row l:=rfl
@[simp] theorem YX (l:List Int) (h:Hp) {k:IntKind} {i:Int} (h0:0<=i) (h1:i<l.length):ixV h 1 (.d (row l)) (.d (.int k i))=some (.dptr (l.map di) i.toNat):=dO di l h h0 h1
@[simp] theorem Tk (l:List Int) (h:Hp) {j:Nat} (hl:j<l.length):ld1 h (.dptr (l.map di) j)=some (.d (di (nth 0 l j))):=eU di 0 l h hl
@[simp] theorem WJ (m:List (List Int)) (h:Hp) {j:Nat} (hl:j<m.length):ld1 h (.dptr (m.map row) j)=some (.d (row (nth [] m j))):=eU row [] m h hl
@[simp] theorem UZ (l:List Int):aA (.d (row l))=some (I l.length):=rfl
def idx {α:Type} (p:α->Bool) (l:List α):Int:=match l.findIdx? p with
 | some i=>i
 | none=>-1
theorem cdf {C:oN} {h:Hp} {f:FuncId} {fs cs args:List V} {v:V} {k:V->Hp->Prop} {u:PU k} (hc:C f (fs++args++cs) v) (hs:aj h (fs++args++cs)=some (fs++args++cs,h)) (hk:k v h):rh (cal C h (.fn f fs cs) args) k u:=by
 simp only [rh,cal,hs];exact ⟨v,hc,by simpa using hk⟩
section
variable {α:Type} {f:α->D} {g:FuncId} {fs cs:List V} {p:α->Bool}
end
theorem Kp {α:Type} (p:α->Bool) (l:List α):0<=idx p l↔l.any p=true:=by
 unfold idx;cases h:l.findIdx? p with
 | none=>simp [List.findIdx?_eq_none_iff] at h ⊢;exact h
 | some i=>
  simp [List.findIdx?_eq_some_iff_getElem] at h ⊢;obtain ⟨hi,h1,_⟩:=h;exact ⟨l[i],Xg hi,h1⟩
@[simp] theorem VK (h:Hp) (g:FuncId):aI h (.fn g [] [])=some (.fn g [] [],h):=by simp [aI,aj]
end Go.Vm
