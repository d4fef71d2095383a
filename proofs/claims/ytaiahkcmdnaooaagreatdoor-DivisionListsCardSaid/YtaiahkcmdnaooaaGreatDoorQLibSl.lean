/- Functions of slices. -/
import Derived.Test.YtaiahkcmdnaooaaGreatDoorQT
import Derived.Test.YtaiahkcmdnaooaaGreatDoorQVmSx
set_option linter.unusedVariables false
set_option linter.unusedSimpArgs false
namespace Go.Vm
open Go Go.Am
def di (n:Int):D:=.int .i64 n
def row (l:List Int):D:=.sl l.length (l.map di)
abbrev mat (m:List (List Int)):V:=lst row m
@[simp] theorem adv (n:Int):V.d (di n)=I n:=id rfl
@[simp] theorem abu (n:Int):norm (di n)=di n:=rfl
@[simp] theorem aaj (l:List Int):norm (row l)=row l:=rfl
@[simp] theorem acJ (l:List Int) (h:Hp) {k:IntKind} {i:Int} (h0:0<=i) (h1:i<l.length):ixV h 1 (.d (row l)) (.d (.int k i))=some (.dptr (l.map di) i.toNat):=ci di l h h0 h1
@[simp] theorem Rq (l:List Int) (h:Hp) {j:Nat} (hl:j<l.length):ld1 h (.dptr (l.map di) j)=some (.d (di (nth 0 l j))):=cU di 0 l h hl
@[simp] theorem T7 (m:List (List Int)) (h:Hp) {j:Nat} (hl:j<m.length):ld1 h (.dptr (m.map row) j)=some (.d (row (nth [] m j))):=cU row [] m h hl
theorem xF {α:Type} (d:α) (l:List α):nth d l 0=l.headD d:=by cases l <;> rfl
@[simp] theorem aar (l:List Int):bm (.d (row l))=some (I l.length):=rfl
def idx {α:Type} (p:α->Bool) (l:List α):Int:=match l.findIdx? p with
 | some i=>i
 | none=>-1
theorem cdf {C:pG} {h:Hp} {f:FuncId} {fs cs args:List V} {v:V} {k:V->Hp->Prop} {u:PU k} (hc:C f (fs++args++cs) v) (hs:ai h (fs++args++cs)=some (fs++args++cs,h)) (hk:k v h):rh (cal C h (.fn f fs cs) args) k u:=by
 simp only [rh,cal,hs];exact ⟨v,hc,by simpa using hk⟩
section
variable {α:Type} {f:α->D} {g:FuncId} {fs cs:List V} {p:α->Bool}
theorem JL (hs:∀ x,ai [] (fs++[.d (f x)]++cs)=some (fs++[.d (f x)]++cs,[])) (k:KL):∀ (q a:List α),(a++q).length<4611686018427387904->(∀ x∈q,CP Y g (fs++[.d (f x)]++cs) (B (p x))) ->
  (idx p q = -1->k (.exit 0) [] [])->(∀ i:Nat,idx p q=i->k .ret [I (a.length+i:Nat)] []) ->
  lp (dK (CX Y) (lst f (a++q)) (.fn g fs cs) (I (a++q).length)) [] [] [I a.length] [] k
 | [],a,hN,_,h0,_=>by
  refine am ?_;simp (disch:=try exact ac)[dK];exact h0 rfl
 | x::q,a,hN,hp,h0,h1=>by
  simp at hN;refine am ?_;simp (disch:=try exact ac)[dK];refine cdf (hp x ag) (hs x) ?_;simp (disch:=try exact ac)[];refine SJ (fun h=>?_) (fun h=>?_) <;> try simp (disch:=try exact ac)[h]
  ·have e:idx p (x::q)=(0:Nat):=by simp [idx,List.findIdx?_cons,h]
   simpa using h1 0 e
  ·have hl:=hs;have:=JL hs k q (a++[x]) ak (fun y hy=>hp y (by simp [hy])) (fun e=>h0 ?_) (fun i e=>?_)
   ·simpa [Ws] using this
   ·simp only [idx,List.findIdx?_cons,h,Zk,if_false] at e ⊢;cases hq:List.findIdx? p q <;> simp [hq] at e ⊢
   ·have:=h1 (i+1) ?_
    ·simpa [Xl,V9 1 i] using this
    ·simp only [idx,List.findIdx?_cons,h,Zk,if_false] at e ⊢;cases hq:List.findIdx? p q <;> simp [hq] at e ⊢
     exact e
theorem M9 (l:List α) (hN:l.length<4611686018427387904) (hs:∀ x,ai [] (fs++[.d (f x)]++cs)=some (fs++[.d (f x)]++cs,[])) (hp:∀ x∈l,CP Y g (fs++[.d (f x)]++cs) (B (p x))) :
  bC (CX Y) (lst f l) (.fn g fs cs) (out (I (idx p l))):=by
 simp (disch:=try exact ac)[bC];refine lo (JL hs _ l [] (by simpa using hN) hp (fun e=>?_) (fun i e=>?_))
 ·simp [e]
 ·simp [e]
end
theorem Bu {α:Type} (p:α->Bool) (l:List α):0<=idx p l↔l.any p=true:=by
 unfold idx;cases h:l.findIdx? p with
 | none=>simp [List.findIdx?_eq_none_iff] at h ⊢;exact h
 | some i=>
  simp [List.findIdx?_eq_some_iff_getElem] at h ⊢;obtain ⟨hi,h1,_⟩:=h;exact ⟨l[i],Xx hi,h1⟩
@[simp] theorem abc (h:Hp) (g:FuncId):aF h (.fn g [] [])=some (.fn g [] [],h):=by simp [aF,ai]
theorem JJ {g:FuncId} {p:Int->Bool} (l:List Int) (hN:l.length<4611686018427387904) (hp:∀ x∈l,CP Y g [I x] (B (p x))):CP Y F.bC [lst di l,.fn g [] []] (I (idx p l)):=
 oo (M9 l hN (fun x=>by simp [ai]) hp)
theorem Dr {g:FuncId} {p:Int->Bool} (l:List Int) (hN:l.length<4611686018427387904) (hp:∀ x∈l,CP Y g [I x] (B (p x))):CP Y F.bE [lst di l,.fn g [] []] (B (l.any p)):=by
 refine nD ?_;simp (disch:=try exact ac)[bE];refine cd (JJ l hN hp) ?_;simp (disch:=try exact ac)[];have:=Bu p l;have e:decide (0<=idx p l)=l.any p:=by rw [Y0];simpa using this
 rw [e];exact xA ..
end Go.Vm
