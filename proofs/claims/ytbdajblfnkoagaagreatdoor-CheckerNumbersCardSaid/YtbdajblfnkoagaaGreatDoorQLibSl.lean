/- Functions of slices. -/
import Derived.Test.YtbdajblfnkoagaaGreatDoorQT
import Derived.Test.YtbdajblfnkoagaaGreatDoorQVmSx
set_option linter.unusedVariables false
set_option linter.unusedSimpArgs false
namespace Go.Vm
open Go Go.Am
def di (n:Int):D:=.int .i64 n
def row (l:List Int):D:=.sl l.length (l.map di)
abbrev mat (m:List (List Int)):V:=lst row m
@[simp] theorem d_di (n:Int):V.d (di n)=I n:=id rfl
@[simp] theorem norm_di (n:Int):norm (di n)=di n:=rfl
@[simp] theorem norm_row (l:List Int):norm (row l)=row l:=rfl
@[simp] theorem ix_row (l:List Int) (h:Hp) {k:IntKind} {i:Int} (h0:0≤i) (h1:i < l.length):ixV h 1 (.d (row l)) (.d (.int k i))=some (.dptr (l.map di) i.toNat):=ix_nth di l h h0 h1
@[simp] theorem ld_row (l:List Int) (h:Hp) {j:Nat} (hl:j < l.length):ld1 h (.dptr (l.map di) j)=some (.d (di (nth 0 l j))):=ld_nth di 0 l h hl
@[simp] theorem ld_mrow (m:List (List Int)) (h:Hp) {j:Nat} (hl:j < m.length):ld1 h (.dptr (m.map row) j)=some (.d (row (nth [] m j))):=ld_nth row [] m h hl
theorem nth_zero {α:Type} (d:α) (l:List α):nth d l 0=l.headD d:=by cases l <;> rfl
@[simp] theorem lenV_row (l:List Int):lenV (.d (row l))=some (I l.length):=rfl
def idx {α:Type} (p:α→Bool) (l:List α):Int:=match l.findIdx? p with
 | some i=>i
 | none=>-1
theorem cdf {C:Calls1} {h:Hp} {f:FuncId} {fs cs args:List V} {v:V} {k:V→Hp→Prop} {u:PU k} (hc:C f (fs++args++cs) v) (hs:snaps h (fs++args++cs)=some (fs++args++cs,h)) (hk:k v h):rh (cal C h (.fn f fs cs) args) k u:=by
 simp only [rh,cal,hs]
 exact ⟨v,hc,by simpa using hk⟩
section
variable {α:Type} {f:α→D} {g:FuncId} {fs cs:List V} {p:α→Bool}
theorem idx_loop (hs:∀ x,snaps [] (fs++[.d (f x)]++cs)=some (fs++[.d (f x)]++cs,[])) (k:KL):∀ (q a:List α),(a++q).length < 4611686018427387904→(∀ x ∈ q,CP Y g (fs++[.d (f x)]++cs) (B (p x))) →
  (idx p q = -1→k (.exit 0) [] [])→(∀ i:Nat,idx p q=i→k .ret [I (a.length+i:Nat)] []) →
  lp (slices_IndexFunc_api_Row_int_l0 (CX Y) (lst f (a++q)) (.fn g fs cs) (I (a++q).length)) [] [] [I a.length] [] k
 | [],a,hN,_,h0,_=>by
  refine lp_in ?_
  simp (disch:=first|omega|simp<;>omega|fail)[slices_IndexFunc_api_Row_int_l0]
  exact h0 rfl
 | x :: q,a,hN,hp,h0,h1=>by
  simp at hN
  refine lp_in ?_
  simp (disch:=first|omega|simp<;>omega|fail)[slices_IndexFunc_api_Row_int_l0]
  refine cdf (hp x (by simp)) (hs x) ?_
  simp (disch:=first|omega|simp<;>omega|fail)[]
  refine br_in (fun h=>?_) (fun h=>?_) <;> try simp (disch:=first|omega|simp<;>omega|fail)[h]
  ·have e:idx p (x :: q)=(0:Nat):=by simp [idx,List.findIdx?_cons,h]
   simpa using h1 0 e
  ·have hl:=hs
   have:=idx_loop hs k q (a++[x]) (by simp; omega) (fun y hy=>hp y (by simp [hy])) (fun e=>h0 ?_) (fun i e=>?_)
   ·simpa [Int.add_assoc] using this
   ·simp only [idx,List.findIdx?_cons,h,Bool.false_eq_true,if_false] at e ⊢
    cases hq:List.findIdx? p q <;> simp [hq] at e ⊢
   ·have:=h1 (i+1) ?_
    ·simpa [Nat.add_assoc,Nat.add_comm 1 i] using this
    ·simp only [idx,List.findIdx?_cons,h,Bool.false_eq_true,if_false] at e ⊢
     cases hq:List.findIdx? p q <;> simp [hq] at e ⊢
     exact e
theorem idx_den (l:List α) (hN:l.length < 4611686018427387904) (hs:∀ x,snaps [] (fs++[.d (f x)]++cs)=some (fs++[.d (f x)]++cs,[])) (hp:∀ x ∈ l,CP Y g (fs++[.d (f x)]++cs) (B (p x))) :
  slices_IndexFunc_api_Row_int (CX Y) (lst f l) (.fn g fs cs) (out (I (idx p l))):=by
 simp (disch:=first|omega|simp<;>omega|fail)[slices_IndexFunc_api_Row_int]
 refine lo (idx_loop hs _ l [] (by simpa using hN) hp (fun e=>?_) (fun i e=>?_))
 ·simp [e]
 ·simp [e]
end
theorem idx_neg {α:Type} (p:α→Bool) (l:List α):0≤idx p l↔l.any p=true:=by
 unfold idx
 cases h:l.findIdx? p with
 | none=>simp [List.findIdx?_eq_none_iff] at h ⊢; exact h
 | some i =>
  simp [List.findIdx?_eq_some_iff_getElem] at h ⊢
  obtain ⟨hi,h1,_⟩:=h
  exact ⟨l[i],List.getElem_mem hi,h1⟩
@[simp] theorem snap_fn (h:Hp) (g:FuncId):snap h (.fn g [] [])=some (.fn g [] [],h):=by simp [snap,snaps]
theorem indexRow_ok {g:FuncId} {p:Int→Bool} (l:List Int) (hN:l.length < 4611686018427387904) (hp:∀ x ∈ l,CP Y g [I x] (B (p x))):CP Y F.slices_IndexFunc_api_Row_int [lst di l,.fn g [] []] (I (idx p l)) :=
 slices_IndexFunc_api_Row_int_i (idx_den l hN (fun x=>by simp [snaps]) hp)
theorem containsRow_ok {g:FuncId} {p:Int→Bool} (l:List Int) (hN:l.length < 4611686018427387904) (hp:∀ x ∈ l,CP Y g [I x] (B (p x))):CP Y F.slices_ContainsFunc_api_Row_int [lst di l,.fn g [] []] (B (l.any p)):=by
 refine slices_ContainsFunc_api_Row_int_i ?_
 simp (disch:=first|omega|simp<;>omega|fail)[slices_ContainsFunc_api_Row_int]
 refine cd (indexRow_ok l hN hp) ?_
 simp (disch:=first|omega|simp<;>omega|fail)[]
 have:=idx_neg p l
 have e:decide (0≤idx p l)=l.any p:=by rw [Bool.eq_iff_iff]; simpa using this
 rw [e]; exact out_bool ..
end Go.Vm
