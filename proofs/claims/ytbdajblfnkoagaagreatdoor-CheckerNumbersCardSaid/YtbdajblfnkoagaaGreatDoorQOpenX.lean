/- Arguments of any simple type, as a row reads them, read as data. -/
import Derived.Test.YtbdajblfnkoagaaGreatDoorQJoin
import Derived.OpenShut
set_option linter.unusedVariables false
set_option linter.unusedSimpArgs false
namespace Go.Vm
open Go Go.Am Go.ChangeShapes Go.WideShapes Go.ChangeAt Go.RowKit
inductive Sh where
 | int (k:IntKind)
 | bool
 | str
 | sl (e:Sh)
 | ar (n:Nat) (e:Sh)
 | st (fs:List Sh)
mutual
/-- A type has a shape. -/
def Typ (P:Program):Sh→TypeId→Prop
 | .int k,t=>P.underlying t=some (.int k)∧P.cellsOf t=1
 | .bool,t=>P.underlying t=some .bool∧P.cellsOf t=1
 | .str,t=>P.underlying t=some .string∧P.cellsOf t=1
 | .sl e,t=>∃ u,P.underlying t=some (.slice u)∧P.cellsOf t=1∧0 < P.cellsOf u∧Typ P e u
 | .ar n e,t=>∃ u,P.underlying t=some (.array n u)∧P.cellsOf t=n * P.cellsOf u∧Typ P e u
 | .st fs,t=>∃ l:List Field,P.underlying t=some (.struct l.toArray)∧Typs P fs l 0 (P.cellsOf t)
def Typs (P:Program):List Sh→List Field→Nat→Nat→Prop
 | [],l,o,n=>l=[]∧o=n
 | s :: ss,l,o,n=>∃ f r,l=f :: r∧f.offset=o∧Typ P s f.type∧Typs P ss r (o+P.cellsOf f.type) n
end
mutual
/-- Cells of a shape. -/
def Dat:Sh→List D→Prop
 | .int k,ds=>∃ n,ds=[.int k n]∧(Lit.int k n).wf=true
 | .bool,ds=>∃ b,ds=[.bool b]
 | .str,ds=>∃ s:List UInt8,ds=[.str s]∧s.length≤maxLen
 | .sl e,ds=>∃ xs:List (List D),ds=[.sl xs.length xs.flatten]∧∀ x ∈ xs,Dat e x
 | .ar n e,ds=>∃ xs:List (List D),ds=xs.flatten∧xs.length=n∧∀ x ∈ xs,Dat e x
 | .st ss,ds=>Dats ss ds
def Dats:List Sh→List D→Prop
 | [],ds=>ds=[]
 | s :: ss,ds=>∃ a b,ds=a++b∧Dat s a∧Dats ss b
end
section
variable {HH:Type} {enc:TypeId × Value→HH} {P:Program} {w:World} {base:Nat} {held:Bool}
theorem WDs.append:∀ {a b:List D} {u v:List Value},WDs w a u→WDs w b v→WDs w (a++b) (u++v)
 | [],b,u,v,h,h2=>by simp only [WDs] at h; subst h; exact h2
 | x :: a,b,u,v,h,h2=>by
  simp only [WDs] at h
  obtain ⟨y,u,rfl,h0,h1⟩:=h
  exact ⟨y,u++v,rfl,h0,h1.append h2⟩
theorem WDs.len:∀ {a:List D} {u:List Value},WDs w a u→a.length=u.length
 | [],u,h=>by simp only [WDs] at h; subst h; rfl
 | x :: a,u,h=>by
  simp only [WDs] at h
  obtain ⟨y,u,rfl,_,h1⟩:=h
  simp [h1.len]
theorem range_flat {α:Type} (C:Nat→List α) (n:Nat):∀ m,(∀ i,i < m→(C i).length=n)→((List.range m).flatMap C).length=m * n∧∀ i j,i < m→j < n→((List.range m).flatMap C)[i * n+j]? = (C i)[j]?
 | 0,_=>⟨by simp,fun i j hi=>by omega⟩
 | m+1,h=>by
  obtain ⟨h1,h2⟩:=range_flat C n m fun i hi=>h i (by omega)
  have e:(List.range (m+1)).flatMap C=(List.range m).flatMap C++C m:=by simp [List.range_succ]
  rw [e]
  refine ⟨by rw [List.length_append,h1,h m (by omega),Nat.succ_mul],fun i j hi hj=>?_⟩
  by_cases him:i < m
  ·rw [List.getElem?_append_left,h2 i j him hj]
   rw [h1]
   calc i * n+j < i * n+n:=by omega
    _=(i+1) * n:=by rw [Nat.succ_mul]
    _≤m * n:=Nat.mul_le_mul_right n him
  ·obtain rfl:i=m:=by omega
   rw [List.getElem?_append_right (by rw [h1]; omega),h1]
   congr 1; omega
theorem wds_range (C:Nat→List Value) (X:Nat→List D):∀ m,(∀ i,i < m→WDs w (X i) (C i))→WDs w ((List.range m).flatMap X) ((List.range m).flatMap C)
 | 0,_=>rfl
 | m+1,h=>by
  simp only [List.range_succ,List.flatMap_append,List.flatMap_cons,List.flatMap_nil,List.append_nil]
  exact (wds_range C X m fun i hi=>h i (by omega)).append (h m (by omega))
theorem wd_sliceN {a:Addr} {len cap n:Nat} {vs:List Value} {ds:List D} (hn:0 < n) (hl:len≤cap) (hlen:vs.length=cap * n) (h:∀ i v,vs[i]? = some v→w.cell? (a.add i)=some v) (hd:WDs w ds (vs.take (len * n))) (hds:ds.length=len * n):WD w (.sl len ds) (.slice (some a) len cap):=by
 simp only [WD]
 by_cases h0:cap=0
 ·have e:len=0:=by omega
  subst e; subst h0
  exact .inl ⟨rfl,List.eq_nil_of_length_eq_zero (by simpa using hds),.inr ⟨a,rfl⟩⟩
 ·have hpos:0 < vs.length:=by rw [hlen]; exact Nat.mul_pos (by omega) hn
  have hle2:len * n≤vs.length:=by rw [hlen]; exact Nat.mul_le_mul_right n hl
  obtain ⟨cs,e,fz,hc,hs,hle,hvs⟩:=cells_blk h hpos
  refine .inr ⟨a.block,a.off,cap,n,cs,e,fz,?_,hl,hn,hds,hc,by omega,?_⟩
  ·cases a; simp at hs; subst hs; rfl
  ·rw [hds]
   rw [hvs,List.take_take,Nat.min_eq_left hle2] at hd
   exact hd
def Opn (enc:TypeId × Value→HH) (P:Program) (w:World) (base:Nat) (held:Bool) (s:Sh):Prop :=
 ∀ (t:TypeId) (fuel:Nat) (cs:List Value) (x:DataW HH × List MemPlace),Typ P s t→DataW.trod enc P w base (fun _=>true) held fuel t cs=some x→cs.length=P.cellsOf t∧∃ ds,Dat s ds∧WDs w ds cs
theorem choose2 {α:Type} [Inhabited α] {p:Nat→α→Prop} {m:Nat} (h:∀ i,i < m→∃ x,p i x):∃ f:Nat→α,∀ i,i < m→p i (f i) :=
 ⟨fun i=>if hi:i < m then Classical.choose (h i hi) else default,fun i hi=>by
  simp only [hi,dif_pos]
  exact Classical.choose_spec (h i hi)⟩
theorem opn_sl {s:Sh} (ih:Opn enc P w base held s):Opn enc P w base held (.sl s):=by
 intro t fuel cs x ht h
 simp only [Typ] at ht
 obtain ⟨u,hu,hc1,hcu,hs⟩:=ht
 rcases Deep.open_slice hu h with ⟨rfl,_⟩ | ⟨a,len,cap,m,n,Dd,Pl,rfl,_,hlc,_,hm,_,hx⟩
 ·exact ⟨by simp [hc1],[.sl 0 []],⟨[],rfl,fun x hx=>by cases hx⟩,_,_,rfl,.inl ⟨rfl,rfl,.inl rfl⟩,rfl⟩
 ·simp only [if_true] at hm
  subst hm
  obtain ⟨C,hC⟩:=choose2 (α:=List Value) hx
  obtain ⟨E,hE⟩:=choose2 (α:=List D) (p:=fun i e=>Dat s e∧WDs w e (C i)) (m:=m) fun i hi=>by
   obtain ⟨_,ds,h1,h2⟩:=ih _ _ _ _ hs (hC i hi).2
   exact ⟨ds,h1,h2⟩
  have hCl:∀ i,i < m→(C i).length=P.cellsOf u:=fun i hi=>(World.cells?_some (hC i hi).1).2.1
  obtain ⟨hl1,hl2⟩:=range_flat C (P.cellsOf u) m hCl
  have hEl:∀ i,i < m→(E i).length=P.cellsOf u:=fun i hi=>by rw [(hE i hi).2.len,hCl i hi]
  refine ⟨by simp [hc1],[.sl ((List.range len).map E).length ((List.range len).map E).flatten],⟨_,rfl,fun x hx=>?_⟩,_,_,rfl,?_,rfl⟩
  ·simp only [List.mem_map,List.mem_range] at hx
   obtain ⟨i,hi,rfl⟩:=hx
   exact (hE i (by omega)).1
  ·rw [List.length_map,List.length_range,← List.flatMap_def]
   refine wd_sliceN (vs:=(List.range m).flatMap C) hcu hlc hl1 (fun i v hv=>?_) ?_ (range_flat E (P.cellsOf u) len fun i hi=>hEl i (by omega)).1
   ·have hi:=(List.getElem?_eq_some_iff.1 hv).1
    rw [hl1] at hi
    have hdm:=Nat.div_add_mod i (P.cellsOf u)
    have hmod:=Nat.mod_lt i hcu
    have hdiv:i / P.cellsOf u < m:=Nat.div_lt_of_lt_mul (by rw [Nat.mul_comm]; exact hi)
    have e:i=i / P.cellsOf u * P.cellsOf u+i % P.cellsOf u:=by rw [Nat.mul_comm]; exact hdm.symm
    have:=(World.cells?_some (hC _ hdiv).1).2.2 (i % P.cellsOf u) hmod
    rw [Addr.add_add,← e] at this
    rw [this,← hl2 _ _ hdiv hmod,← e,hv]
   ·have e:((List.range m).flatMap C).take (len * P.cellsOf u)=(List.range len).flatMap C:=by
     have e1:List.range m=List.range len++(List.range (m - len)).map (len + ·):=by
      conv=>lhs; rw [show m=len+(m - len) by omega,List.range_add]
     rw [e1,List.flatMap_append,List.take_left']
     exact (range_flat C (P.cellsOf u) len fun i hi=>hCl i (by omega)).1
    rw [e]
    exact wds_range C E len fun i hi=>(hE i (by omega)).2
theorem opn_ar {n:Nat} {s:Sh} (ih:Opn enc P w base held s):Opn enc P w base held (.ar n s):=by
 intro t fuel cs x ht h
 simp only [Typ] at ht
 obtain ⟨u,hu,hct,hs⟩:=ht
 obtain ⟨xs,m,_,_,hl,hxl,hx⟩:=DataW.trod_array hu h
 let C:Nat→List Value:=fun i=>(cs.drop (i * P.cellsOf u)).take (P.cellsOf u)
 obtain ⟨E,hE⟩:=choose2 (α:=List D) (p:=fun i e=>Dat s e∧WDs w e (C i)) (m:=n) fun i hi=>by
  have:=hx i hi
  rw [List.getElem?_eq_getElem (by omega)] at this
  obtain ⟨_,ds,h1,h2⟩:=ih _ _ _ _ hs this
  exact ⟨ds,h1,h2⟩
 refine ⟨hl,((List.range n).map E).flatten,⟨_,rfl,by simp,fun x hx=>?_⟩,?_⟩
 ·simp only [List.mem_map,List.mem_range] at hx
  obtain ⟨i,hi,rfl⟩:=hx
  exact (hE i hi).1
 ·rw [← List.flatMap_def]
  have e:∀ m,m≤n→cs.take (m * P.cellsOf u)=(List.range m).flatMap C:=by
   intro m
   induction m with
   | zero=>simp
   | succ m ihm =>
    intro hm
    rw [Nat.succ_mul,List.take_add,ihm (by omega)]
    simp [List.range_succ,C]
  have:=e n (Nat.le_refl _)
  rw [List.take_of_length_le (by omega)] at this
  rw [this]
  exact wds_range C E n fun i hi=>(hE i hi).2
mutual
theorem opn:∀ s:Sh,Opn enc P w base held s
 | .int k=>by
  intro t fuel cs x ht h
  simp only [Typ] at ht
  obtain ⟨n,rfl,_,hw⟩:=DataW.trod_int ht.1 h
  exact ⟨by simp [ht.2],[.int k n],⟨n,rfl,hw⟩,_,_,rfl,rfl,rfl⟩
 | .bool=>by
  intro t fuel cs x ht h
  simp only [Typ] at ht
  obtain ⟨b,rfl,_⟩:=DataW.trod_bool ht.1 h
  exact ⟨by simp [ht.2],[.bool b],⟨b,rfl⟩,_,_,rfl,rfl,rfl⟩
 | .str=>by
  intro t fuel cs x ht h
  simp only [Typ] at ht
  obtain ⟨s,rfl,_,hs⟩:=DataW.trod_string ht.1 h
  exact ⟨by simp [ht.2],[.str s.data.toList],⟨_,rfl,by rw [Array.length_toList]; exact hs⟩,_,_,rfl,rfl,rfl⟩
 | .sl e=>opn_sl (opn e)
 | .ar n e=>opn_ar (opn e)
 | .st ss=>by
  intro t fuel cs x ht h
  simp only [Typ] at ht
  obtain ⟨l,hu,hl⟩:=ht
  obtain ⟨xs,m,_,_,hcl,hxl,hx⟩:=DataW.trod_struct hu h
  refine ⟨hcl,?_⟩
  have:=opns ss (l:=l) (o:=0) (n:=P.cellsOf t) (fuel:=m) (cs:=cs) hl hcl fun f hf=>by
   obtain ⟨i,hi⟩:=List.getElem?_of_mem hf
   have h1:=hx i f (by simpa using hi)
   have hi2:=(List.getElem?_eq_some_iff.1 hi).1
   rw [List.getElem?_eq_getElem (by simpa [hxl] using hi2)] at h1
   exact ⟨_,h1⟩
  simpa [Dat] using this
theorem opns:∀ (ss:List Sh) {l:List Field} {o n fuel:Nat} {cs:List Value},Typs P ss l o n→cs.length=n →
  (∀ f ∈ l,∃ x,DataW.trod enc P w base (fun _=>true) held fuel f.type ((cs.drop f.offset).take (P.cellsOf f.type))=some x)→∃ ds,Dats ss ds∧WDs w ds (cs.drop o)
 | [],l,o,n,fuel,cs,ht,hl,h=>by
  simp only [Typs] at ht
  refine ⟨[],rfl,?_⟩
  rw [List.drop_eq_nil_of_le (by omega)]
  rfl
 | s :: ss,l,o,n,fuel,cs,ht,hl,h=>by
  simp only [Typs] at ht
  obtain ⟨f,r,rfl,rfl,h1,h2⟩:=ht
  obtain ⟨x,hx⟩:=h f (by simp)
  obtain ⟨_,a,ha,wa⟩:=opn s _ _ _ _ h1 hx
  obtain ⟨b,hb,wb⟩:=opns ss h2 hl fun g hg=>h g (by simp [hg])
  refine ⟨a++b,⟨a,b,rfl,ha,hb⟩,?_⟩
  have e:cs.drop f.offset=(cs.drop f.offset).take (P.cellsOf f.type)++cs.drop (f.offset+P.cellsOf f.type):=by
   rw [← List.drop_drop,List.take_append_drop]
  rw [e]
  exact wa.append wb
end
inductive Ar where
 | one (x:D)
 | many (xs:List D)
def Ar.v:Ar→V
 | .one x=>.d x
 | .many xs=>.agg (xs.map .d)
def WA (w:World):Ar→Value→Prop
 | .one x,v=>WD w x v
 | .many xs,v=>∃ ws,v=.agg ⟨ws⟩∧WDs w xs ws
def WAs (w:World):List Ar→List Value→Prop
 | [],l=>l=[]
 | x :: xs,l=>∃ v vs,l=v :: vs∧WA w x v∧WAs w xs vs
theorem rvs_of {F1:Nat→Prop} {H1:AH} (φ0:List Nat) (h0:Hp):∀ (ds:List D) (us:List Value),RDs F1 H1 ds us→RVs φ0 F1 H1 h0 (ds.map .d) us
 | [],us,h=>by simpa only [RDs,List.map_nil,RVs] using h
 | d :: ds,us,h=>by
  simp only [RDs] at h
  obtain ⟨u,us,rfl,h1,h2⟩:=h
  exact ⟨u,us,rfl,h1,rvs_of φ0 h0 ds us h2⟩
def RAs (F:Nat→Prop) (H:AH) (rs:List Ar) (us:List Value):Prop:=∀ φ0 h0,RVs φ0 F H h0 (rs.map Ar.v) us
theorem layA:∀ (rs:List Ar) (vs:List Value) {φ:Pmap} {F:Nat→Prop} {H:AH},Ly w φ F H→WAs w rs vs →
  ∃ φ' F' H' us,Ly w φ' F' H'∧LyLe φ F H φ' F' H'∧LRel φ' us vs∧RAs F' H' rs us
 | [],vs,φ,F,H,L,h=>⟨φ,F,H,[],L,LyLe.refl ..,by simp only [WAs] at h; subst h; rfl,fun _ _=>rfl⟩
 | .one x :: rs,vs,φ,F,H,L,h=>by
  simp only [WAs,WA] at h
  obtain ⟨v,vs,rfl,h1,h2⟩:=h
  obtain ⟨φ1,F1,H1,u,L1,E1,r1,d1⟩:=lay x v L h1
  obtain ⟨φ2,F2,H2,us,L2,E2,r2,d2⟩:=layA rs vs L1 h2
  exact ⟨φ2,F2,H2,u :: us,L2,E1.trans E2,⟨v,vs,rfl,VRel.mono E2.le u v r1,r2⟩,fun φ0 h0=>⟨u,us,rfl,RD.mono (E2.leF L1) _ _ d1,d2 φ0 h0⟩⟩
 | .many xs :: rs,vs,φ,F,H,L,h=>by
  simp only [WAs,WA] at h
  obtain ⟨v,vs,rfl,⟨ws,rfl,h1⟩,h2⟩:=h
  obtain ⟨φ1,F1,H1,us1,L1,E1,r1,d1⟩:=lays xs ws L h1
  obtain ⟨φ2,F2,H2,us,L2,E2,r2,d2⟩:=layA rs vs L1 h2
  exact ⟨φ2,F2,H2,.agg ⟨us1⟩ :: us,L2,E1.trans E2,⟨_,vs,rfl,⟨ws,rfl,LRel.mono E2.le _ _ r1⟩,r2⟩,fun φ0 h0=>⟨_,us,rfl,⟨us1,rfl,rvs_of φ0 h0 _ _ (RDs.mono (E2.leF L1) _ _ d1)⟩,d2 φ0 h0⟩⟩
theorem calls_of_CPA {f:FuncId} {rs:List Ar} {vs:List Value} {b:Bool} {w:World} (hc:CP Y f (rs.map Ar.v) (.d (.bool b))) (hw:WAs w rs vs) (hp:PowIn w) :
  Calls X.P f vs.toArray w fun e w'=>e=.returned (.bool b)∧w'.os=w.os∧w'.output=w.output∧w.heap.size≤w'.heap.size∧∀ c,c < w.heap.size→w'.heap[c]? = w.heap[c]?:=by
 obtain ⟨φ,F,H,L,g⟩:=start hp
 obtain ⟨φ1,F1,H1,us,L1,E1,r1,d1⟩:=layA rs vs L hw
 obtain ⟨n,wv,H2,F2,hcall,hn,_,_,_,_,_,_,_,hr⟩:=CP_ok vOk hc F1 H1 us L1.wf L1.fr (g.mono (E1.leF L)) d1
 have hv:wv=.bool b:=by
  have:=hr [] []
  simpa only [RV,RD] using this
 subst hv
 refine (calls_of_am okProg hcall L1.rel (args':=vs.toArray) r1).mono ?_
 rintro e w' ⟨φ',v',rfl,h1,h2,h3,h4⟩
 have hv':v'=.bool b:=(VRel.of_plain (.bool b) rfl v').1 h1
 subst hv'
 refine ⟨rfl,h3.os,h3.out,h3.size,fun c hc=>h3.frame c hc ?_⟩
 rintro ⟨b',p,x,_,_,hx,_,hwr⟩
 rw [L1.ro b' x hx] at hwr
 cases hwr
theorem wa_one {s:Sh} {t:TypeId} {fuel:Nat} {v:Value} {x:DataW HH × List MemPlace} (ht:Typ P s t) (hc:P.cellsOf t=1) (h:DataW.trod enc P w base (fun _=>true) held fuel t v.cells.toList=some x) (hv:∀ cs,v≠.agg cs) :
  ∃ d,Dat s [d]∧WA w (.one d) v:=by
 obtain ⟨hl,ds,h1,h2⟩:=opn s _ _ _ _ ht h
 have hcl:v.cells.toList=[v]:=by
  cases v <;> first | rfl | exact absurd rfl (hv _)
 rw [hcl] at h2
 have:=h2.len
 obtain ⟨d,rfl⟩:∃ d,ds=[d]:=List.length_eq_one_iff.1 this
 simp only [WDs] at h2
 obtain ⟨v',vs',e,h2,_⟩:=h2
 simp only [List.cons.injEq] at e
 obtain ⟨rfl,_⟩:=e
 exact ⟨d,h1,h2⟩
theorem wa_many {s:Sh} {t:TypeId} {fuel:Nat} {v:Value} {x:DataW HH × List MemPlace} (ht:Typ P s t) (h:DataW.trod enc P w base (fun _=>true) held fuel t v.cells.toList=some x) (hv:∃ cs,v=.agg cs) :
  ∃ ds,Dat s ds∧WA w (.many ds) v:=by
 obtain ⟨hl,ds,h1,h2⟩:=opn s _ _ _ _ ht h
 obtain ⟨cs,rfl⟩:=hv
 exact ⟨ds,h1,cs.toList,rfl,h2⟩
theorem struct_agg {P:Program} {W:World} {base:Nat} {t:TypeId} {fs:Array Field} {v:Value} (ht:P.underlying t=some (.struct fs)) (h:Value.okWide P W .any base t v):∃ cs,v=.agg cs:=by
 simp only [Value.okWide,ht] at h
 obtain ⟨cs,rfl,_⟩:=h
 exact ⟨cs,rfl⟩
end
theorem dat_ints {k:IntKind} {d:D} (h:Dat (.sl (.int k)) [d]):∃ zs:List Int,d=.sl zs.length (zs.map fun n=>.int k n)∧∀ n ∈ zs,(Lit.int k n).wf=true:=by
 simp only [Dat,List.cons.injEq,and_true] at h
 obtain ⟨xs,rfl,hx⟩:=h
 have:∀ xs:List (List D),(∀ x ∈ xs,∃ n,x=[D.int k n]∧(Lit.int k n).wf=true)→∃ zs:List Int,xs=zs.map (fun n=>[D.int k n])∧∀ n ∈ zs,(Lit.int k n).wf=true:=by
  intro xs
  induction xs with
  | nil=>exact fun _=>⟨[],rfl,fun n h=>by cases h⟩
  | cons x xs ih =>
   intro h
   obtain ⟨n,rfl,hn⟩:=h x (by simp)
   obtain ⟨zs,rfl,hz⟩:=ih fun y hy=>h y (by simp [hy])
   exact ⟨n :: zs,rfl,fun m hm=>by rcases List.mem_cons.1 hm with rfl | hm; exact hn; exact hz m hm⟩
 obtain ⟨zs,rfl,hz⟩:=this xs hx
 refine ⟨zs,?_,hz⟩
 have e:∀ zs:List Int,(zs.map fun n=>[D.int k n]).flatten=zs.map fun n=>D.int k n:=fun zs=>by induction zs <;> simp_all
 rw [List.length_map,e]
theorem dat_list {α:Type} {s:Sh} {f:α→List D} (q:α→Prop) (hs:∀ ds,Dat s ds→∃ a,ds=f a∧q a) {d:D} (h:Dat (.sl s) [d]):∃ l:List α,d=.sl l.length (l.flatMap f)∧∀ a ∈ l,q a:=by
 simp only [Dat,List.cons.injEq,and_true] at h
 obtain ⟨xs,rfl,hx⟩:=h
 have:∀ xs:List (List D),(∀ x ∈ xs,Dat s x)→∃ l:List α,xs=l.map f∧∀ a ∈ l,q a:=by
  intro xs
  induction xs with
  | nil=>exact fun _=>⟨[],rfl,fun n h=>by cases h⟩
  | cons x xs ih =>
   intro h
   obtain ⟨n,rfl,hn⟩:=hs x (h x (by simp))
   obtain ⟨zs,rfl,hz⟩:=ih fun y hy=>h y (by simp [hy])
   exact ⟨n :: zs,rfl,fun m hm=>by rcases List.mem_cons.1 hm with rfl | hm; exact hn; exact hz m hm⟩
 obtain ⟨l,rfl,hl⟩:=this xs hx
 exact ⟨l,by rw [List.length_map,← List.flatMap_def],hl⟩
end Go.Vm
