/- Functions of slices. -/
import Derived.Test.YtaiahkcmdnaooaaGreatDoorQT
import Derived.Test.YtaiahkcmdnaooaaGreatDoorQVmSx
set_option linter.unusedVariables false
set_option linter.unusedSimpArgs false
namespace Go.Vm
open Go Go.Am
def di (n:Int):D:=.int .i64 n
def row (l:List Int):D:=.sl l.length (l.map di)
abbrev mat (m:List (List Int)):V:=lst row m
@[simp] theorem ab8 (n:Int):V.d (di n)=I n:=id rfl
@[simp] theorem aaj (n:Int):norm (di n)=di n:=rfl
@[simp] theorem XU (l:List Int):norm (row l)=row l:=rfl
@[simp] theorem abt (l:List Int) (h:Hp) {k:IntKind} {i:Int} (h0:0<=i) (h1:i<l.length):ixV h 1 (.d (row l)) (.d (.int k i))=some (.dptr (l.map di) i.toNat):=cC di l h h0 h1
@[simp] theorem U7 (l:List Int) (h:Hp) {j:Nat} (hl:j<l.length):ld1 h (.dptr (l.map di) j)=some (.d (di (nth 0 l j))):=dy di 0 l h hl
@[simp] theorem aap (m:List (List Int)) (h:Hp) {j:Nat} (hl:j<m.length):ld1 h (.dptr (m.map row) j)=some (.d (row (nth [] m j))):=dy row [] m h hl
theorem wC {α:Type} (d:α) (l:List α):nth d l 0=l.headD d:=by cases l <;> rfl
@[simp] theorem YC (l:List Int):bC (.d (row l))=some (I l.length):=rfl
def idx {α:Type} (p:α->Bool) (l:List α):Int:=match l.findIdx? p with
 | some i=>i
 | none=>-1
theorem cdf {C:pS} {h:Hp} {f:FuncId} {fs cs args:List V} {v:V} {k:V->Hp->Prop} {u:PU k} (hc:C f (fs++args++cs) v) (hs:ai h (fs++args++cs)=some (fs++args++cs,h)) (hk:k v h):rh (cal C h (.fn f fs cs) args) k u:=by
 simp only [rh,cal,hs];exact ⟨v,hc,by simpa using hk⟩
section
variable {α:Type} {f:α->D} {g:FuncId} {fs cs:List V} {p:α->Bool}
theorem Ii (hs:∀ x,ai [] (fs++[.d (f x)]++cs)=some (fs++[.d (f x)]++cs,[])) (k:KL):∀ (q a:List α),(a++q).length<4611686018427387904->(∀ x∈q,CP Y g (fs++[.d (f x)]++cs) (B (p x))) ->
  (idx p q = -1->k (.exit 0) [] [])->(∀ i:Nat,idx p q=i->k .ret [I (a.length+i:Nat)] []) ->
  lp (dk (CX Y) (lst f (a++q)) (.fn g fs cs) (I (a++q).length)) [] [] [I a.length] [] k
 | [],a,hN,_,h0,_=>by
  refine av ?_;simp (disch:=try exact ac)[dk];exact h0 rfl
 | x::q,a,hN,hp,h0,h1=>by
  simp at hN;refine av ?_;simp (disch:=try exact ac)[dk];refine cdf (hp x af) (hs x) ?_;simp (disch:=try exact ac)[];refine Rj (fun h=>?_) (fun h=>?_) <;> try simp (disch:=try exact ac)[h]
  ·have e:idx p (x::q)=(0:Nat):=by simp [idx,List.findIdx?_cons,h]
   simpa using h1 0 e
  ·have hl:=hs;have:=Ii hs k q (a++[x]) au (fun y hy=>hp y (by simp [hy])) (fun e=>h0 ?_) (fun i e=>?_)
   ·simpa [Wr] using this
   ·simp only [idx,List.findIdx?_cons,h,Zl,if_false] at e ⊢;cases hq:List.findIdx? p q <;> simp [hq] at e ⊢
   ·have:=h1 (i+1) ?_
    ·simpa [Xd,V6 1 i] using this
    ·simp only [idx,List.findIdx?_cons,h,Zl,if_false] at e ⊢;cases hq:List.findIdx? p q <;> simp [hq] at e ⊢
     exact e
theorem SN (l:List α) (hN:l.length<4611686018427387904) (hs:∀ x,ai [] (fs++[.d (f x)]++cs)=some (fs++[.d (f x)]++cs,[])) (hp:∀ x∈l,CP Y g (fs++[.d (f x)]++cs) (B (p x))) :
  bu (CX Y) (lst f l) (.fn g fs cs) (out (I (idx p l))):=by
 simp (disch:=try exact ac)[bu];refine lo (Ii hs _ l [] (by simpa using hN) hp (fun e=>?_) (fun i e=>?_))
 ·simp [e]
 ·simp [e]
end
theorem FH {α:Type} (p:α->Bool) (l:List α):0<=idx p l↔l.any p=true:=by
 unfold idx;cases h:l.findIdx? p with
 | none=>simp [List.findIdx?_eq_none_iff] at h ⊢;exact h
 | some i=>
  simp [List.findIdx?_eq_some_iff_getElem] at h ⊢;obtain ⟨hi,h1,_⟩:=h;exact ⟨l[i],Wx hi,h1⟩
@[simp] theorem ZS (h:Hp) (g:FuncId):aI h (.fn g [] [])=some (.fn g [] [],h):=by simp [aI,ai]
theorem Ig {g:FuncId} {p:Int->Bool} (l:List Int) (hN:l.length<4611686018427387904) (hp:∀ x∈l,CP Y g [I x] (B (p x))):CP Y F.bu [lst di l,.fn g [] []] (I (idx p l)):=
 nr (SN l hN (fun x=>by simp [ai]) hp)
theorem Cc {g:FuncId} {p:Int->Bool} (l:List Int) (hN:l.length<4611686018427387904) (hp:∀ x∈l,CP Y g [I x] (B (p x))):CP Y F.aU [lst di l,.fn g [] []] (B (l.any p)):=by
 refine mI ?_;simp (disch:=try exact ac)[aU];refine cd (Ig l hN hp) ?_;simp (disch:=try exact ac)[];have:=FH p l;have e:decide (0<=idx p l)=l.any p:=by rw [Yu];simpa using this
 rw [e];exact Bl ..
end Go.Vm
