/- Lemmas. -/
import Derived.Test.YthjogmhfdpaaaaaGreatDoorQLcA
import Derived.ProofKit
import Derived.OpenShut
import Derived.Deep.DeepHandedRow
import Derived.Deep.Matrix
import Derived.Lib.LaidTab
import Derived.Test.YthjogmhfdpaaaaaGreatDoorTie
import Derived.Test.YthjogmhfdpaaaaaGreatDoorCards
set_option linter.unusedVariables false
set_option linter.unusedSimpArgs false
open Option renaming some->Wf,none->Vc
open Bool renaming true->Th,false->SM
open Go renaming Value->vl,World->wO,Program->pG,TypeId->tI
open List renaming replicate->So,length->RW
namespace Go.Vm
open Go Go.Am
variable{b m fuel k k':Nat}{x:aw}{a:Addr}{n:Int}{ds:bF}{α:Type}{W W':wO}{Ok vals':Bool}{gs gs':List (List (Int×Nat))}{l:List Mk}
mutual
def WD(w:wO):D->vl->Prop
 |.int k n,v=>v=.int k n
 |.bool b,v=>v=.bool b
 |.str s,v=>v=.string ⟨⟨s⟩⟩
 |.pl u,v=>v=u∧plain u=Th∧okCell u=Th
 | .sl len cells,v=>(len=0∧cells=[]∧(v=.slice Vc 0 0∨∃a,v=.slice (Wf a) 0 0)) ∨
   ∃ c o cap n cs e fz,v=.slice (Wf ⟨c,o,Vc⟩) len cap∧len<=cap∧0<n∧RW cells=len*n ∧
    w.heap[c]?=Wf (.cells cs e fz)∧o+RW cells<=cs.size∧jd w cells ((cs.toList.drop o).take (RW cells))
def jd(w:wO):bF->am->Prop
 |[],l=>l=[]
 |x::xs,l=>∃v vs,l=v::vs∧WD w x v∧jd w xs vs
end
structure Ly(w:wO)(φ:bI)(F:Nat->Prop)(H:AH):Prop where
 rel:bC X φ H w
 wf:WF H
 fr:∀c,F c->c<H.n∧∃x,H.get c=Wf x∧x.st=1
 ro:∀c x,H.get c=Wf x->x.wr=SM
 top:∀b p,φ b=Wf p->b<H.n
 pg:∃p,φ gD=Wf p
structure kK(φ:bI)(F:Nat->Prop)(H:AH)(φ':bI)(F':Nat->Prop)(H':AH):Prop where
 n:H.n<=H'.n
 le:gM φ φ'
 fm:∀c,F c->F' c
 keep:∀c,c<H.n->H'.get c=H.get c
theorem kK.refl(φ:bI)(F:Nat->Prop)(H:AH):kK φ F H φ F H:=⟨Z8 _,gM.refl _,λ_ h=>h,λ_ _=>rfl⟩
theorem kK.trans{φ φ1 φ2:bI}{F F1 F2:Nat->Prop}{H H1 H2:AH}(a:kK φ F H φ1 F1 H1)(b:kK φ1 F1 H1 φ2 F2 H2):kK φ F H φ2 F2 H2:=
 ⟨Z1 a.n b.n,a.le.trans b.le,λc h=>b.fm c (a.fm c h),λc h=>by rw[b.keep c (Z0 h a.n),a.keep c h]⟩
theorem kK.leF{φ φ':bI}{F F':Nat->Prop}{H H':AH}{w:wO}(L:Ly w φ F H)(a:kK φ F H φ' F' H'):gN F F' H H':=
 ⟨a.fm,λc hc=>a.keep c (L.fr c hc).1,λc x hx h0=>⟨x,by grind[keep,AH.get_lt],h0⟩⟩
def nW(b n:Nat)(cells:am):bv:={cells,st:=1,wr:=SM,fam:=b,start:=0,shared:=SM,exact:=Th,esz:=n,ver:=1}
theorem Ly.push{w:wO}{φ:bI}{F:Nat->Prop}{H:AH}(L:Ly w φ F H){c o n:Nat}{us vs:am}{cs:Array vl}{e:tI}{fz:Nat×Nat}(hh:w.heap[c]?=Wf (.cells cs e fz))
  (Rg:RW us=RW vs) (ho:o+RW us<=cs.size) (hvs:vs=(cs.toList.drop o).take (RW us)) (hr:aE φ us vs) :
  Ly w (nM φ H.n ⟨c,o,RW us,n,cs.size,Th⟩) (λx=>F x∨x=H.n) (H.push (nW H.n n us)) ∧
  kK φ F H (nM φ H.n ⟨c,o,RW us,n,cs.size,Th⟩) (λx=>F x∨x=H.n) (H.push (nW H.n n us)):=by
 have hnone:φ H.n=Vc:=by
  cases hq:φ H.n with
  |none=>rfl
  |some p=>have:=L.top _ p hq;omega
 have Fm:gM φ (nM φ H.n ⟨c,o,RW us,n,cs.size,Th⟩):=gM.add hnone;have hn:(H.push (nW H.n n us)).n=H.n+1:=rfl;have old:∀b,b<H.n->(H.push (nW H.n n us)).get b=H.get b:=λb hb=>AH.get_push aa
 have new:(H.push (nW H.n n us)).get H.n=Wf (nW H.n n us):=AH.get_push_new H _
 have ro:∀b x,(H.push (nW H.n n us)).get b=Wf x->x.wr=SM:=λb x hx=>by
  rcases Zi b H.n with h|h
  .grind[ro]
  .have hb:b=H.n:=by have:=AH.get_lt hx;omega
   subst hb;rw[new]at hx;cases hx;rfl
 refine ⟨⟨⟨λg hg=>?_,λb p hp=>?_,λb p x i v hp hx h1 hv=>?_,λb p x i hp hx h1 hi=>?_,λb b' p p' x x' _ _ hx hx' _ _ _ _=>.inl ⟨ro b x hx,ro b' x' hx'⟩⟩,?_,λb hb=>?_,ro,λb p hp=>?_,L.pg.imp λp hp=>Fm _ p hp⟩,
  ⟨aa,Fm,λx h=>.inl h,old⟩⟩
 .have⟨p,hp,h1⟩:=L.rel.glob g hg;exact⟨p,Fm g p hp,h1⟩
 .by_cases hb:b=H.n
  .subst hb;rw[kI]at hp;cases hp;exact⟨_,cs,e,fz,new,by simp[nW],rfl,rfl,rfl,hh,rfl,ho⟩
  .rw[jC hb]at hp;have⟨x,r⟩:=L.rel.dom b p hp
   grind[top]
 .by_cases hb:b=H.n
  .subst hb;rw[kI]at hp;cases hp;rw[new]at hx;cases hx;have⟨v',h1,h2⟩:=hr.at (i:=i) hv
   grind[aC.mono,cell_of_heap]
  .rw[jC hb]at hp;rw[old b (L.top b p hp)]at hx;have⟨v',h2,h3⟩:=L.rel.cell b p x i v hp hx h1 hv
   grind[aC.mono]
 .grind
 .refine⟨by simp[AH.push,L.wf.len],λb x hx=>?_⟩;rcases Zi b H.n with h|h
  .rw[old b h]at hx;exact L.wf.fam b x hx
  .have hb:b=H.n:=by have:=AH.get_lt hx;omega
   subst hb;rw[new]at hx;cases hx;trivial
 .rcases hb with hb|rfl
  .have⟨h1,x,h2,h3⟩:=L.fr b hb;exact⟨aa,x,ae,h3⟩
  .exact⟨aa,_,new,rfl⟩
 .by_cases hb:b=H.n
  .omega
  .rw[jC hb]at hp;have:=L.top b p hp;omega
mutual
theorem lay{w:wO}:∀(d:D)(v:vl){φ:bI}{F:Nat->Prop}{H:AH},Ly w φ F H->WD w d v ->
  ∃φ' F' H' u,Ly w φ' F' H'∧kK φ F H φ' F' H'∧aC φ' u v∧RD F' H' d u
 |.int k n,v,φ,F,H,L,h=>⟨φ,F,H,v,L,kK.refl ..,by simp only[WD]at h;subst h;rfl,h⟩
 |.bool b,v,φ,F,H,L,h=>⟨φ,F,H,v,L,kK.refl ..,by simp only[WD]at h;subst h;rfl,h⟩
 |.str s,v,φ,F,H,L,h=>⟨φ,F,H,v,L,kK.refl ..,by simp only[WD]at h;subst h;rfl,h⟩
 |.pl u,v,φ,F,H,L,h=>⟨φ,F,H,v,L,kK.refl ..,by grind[WD,aC.of_plain],h⟩
 | .sl len cells,v,φ,F,H,L,h=>by
  simp only[WD]at h;rcases h with⟨rfl,rfl,rfl|⟨a,rfl⟩⟩|⟨c,o,cap,n,cs,e,fz,rfl,hlc,hn,Rg,hh,ho,hds⟩
  .exact⟨φ,F,H,.slice Vc 0 0,L,kK.refl ..,rfl,.inl ⟨rfl,rfl,.inl rfl⟩⟩
  .have⟨p,hp⟩:=L.pg;have⟨x,_,_,_,hx,h0,_⟩:=L.rel.dom _ _ hp;exact⟨φ,F,H,.slice (Wf ⟨gD,0,Vc⟩) 0 0,L,kK.refl ..,⟨a,0,rfl,.inr ⟨rfl,rfl,rfl,rfl,p,hp⟩⟩,.inl ⟨rfl,rfl,.inr ⟨_,_,_,rfl,x,hx,h0⟩⟩⟩
  .obtain⟨φ1,F1,H1,us,L1,E1,r1,d1⟩:=lays cells _ L hds;have hl:RW us=RW cells:=by have:=d1.length;omega
   have⟨L2,E2⟩:=L1.push (us:=us) (n:=n) (o:=o) hh ae aa (by rw[hl]) r1;refine⟨_,_,_,.slice (Wf ⟨H1.n,0,Vc⟩) len cap,L2,E1.trans E2,?_,?_⟩
   .refine⟨⟨c,o,Vc⟩,cap,rfl,.inl ⟨rfl,rfl,_,kI ..,rfl,rfl,.inl rfl⟩⟩
   .have new:(H1.push (nW H1.n n us)).get H1.n=Wf (nW H1.n n us):=AH.get_push_new H1 _;by_cases h0:len=0
    .subst h0;exact .inl ⟨rfl,Zo aa,.inr ⟨_,_,_,rfl,_,new,by simp[nW]⟩⟩
    .refine .inr ⟨H1.n,0,cap,us,n,rfl,aa,hlc,hn,Rg,.inr rfl,?_,bj.mono (E2.leF L1) _ _ d1,_,new,.inl rfl⟩;rw[oQ new rfl (by show 0+RW cells<=RW us;omega)]
     show Wf ((us.drop 0).take (RW cells))=_
     grind
theorem lays{w:wO}:∀(ds:bF)(vs:am){φ:bI}{F:Nat->Prop}{H:AH},Ly w φ F H->jd w ds vs ->
  ∃φ' F' H' us,Ly w φ' F' H'∧kK φ F H φ' F' H'∧aE φ' us vs∧bj F' H' ds us
 |[],vs,φ,F,H,L,h=>⟨φ,F,H,[],L,kK.refl ..,cU,rfl⟩
 | d::ds,vs,φ,F,H,L,h=>by
  simp only[jd]at h;obtain⟨v,vs,rfl,h1,h2⟩:=h;obtain⟨φ1,F1,H1,u,L1,E1,r1,d1⟩:=lay d v L h1;obtain⟨φ2,F2,H2,us,L2,E2,r2,d2⟩:=lays ds vs L1 h2;exact⟨φ2,F2,H2,u::us,L2,E1.trans E2,⟨v,vs,rfl,aC.mono E2.le u v r1,r2⟩,⟨u,us,rfl,RD.mono (E2.leF L1) _ _ d1,d2⟩⟩
end
def Gx:Nat->List bv
 |0=>[]
 |n+1=>pE::Gx n
theorem SK:∀(n i:Nat)(x:bv),(Gx n)[i]?=Wf x->x=pE
 |0,_,_,h=>by trivial
 |n+1,0,x,h=>by grind[Gx]
 |n+1,i+1,x,h=>SK n i x cU
def oU:am:=[.int .u64 1,.int .u64 10,.int .u64 100,.int .u64 1000,.int .u64 10000,.int .u64 100000,.int .u64 1000000,.int .u64 10000000,.int .u64 100000000,.int .u64 1000000000,.int .u64 10000000000,.int .u64 100000000000,
 .int .u64 1000000000000,.int .u64 10000000000000,.int .u64 100000000000000,.int .u64 1000000000000000,.int .u64 10000000000000000,.int .u64 100000000000000000,.int .u64 1000000000000000000,.int .u64 10000000000000000000]
def I9(w:wO):Prop:=∃cs e fz,w.heap[gD]?=Wf (.cells cs e fz)∧20<=cs.size∧oU=cs.toList.take 20
def Jc:AH:=⟨gD,Gx gD⟩
theorem ap0{x:bv}(h:Jc.get b=Wf x):x=pE:=by
 unfold AH.get at h;split at h
 .exact SK _ _ _ h
 .trivial
theorem start{w:wO}(hp:I9 w):∃φ F H,Ly w φ F H∧lC Y F H:=by
 have⟨cs,e,fz,hh,hsz,hcs⟩:=hp
 let φ:bI:=λb=>if b=gD then Wf ⟨gD,0,20,1,cs.size,Th⟩else Vc
 let H:AH:=Jc.push (nW gD 1 oU)
 have hn:H.n=gD+1:=rfl;have new:H.get gD=Wf (nW gD 1 oU):=AH.get_push_new Jc _
 have old:∀{b x},b≠gD->H.get b=Wf x->x=pE:=λ{b x} hb hx=>by
  grind[Jc,AH.get_push,ap0]
 have hφ:∀{b p},φ b=Wf p->b=gD∧p=⟨gD,0,20,1,cs.size,Th⟩:=λ{b p} h=>by
  grind
 have ro:∀b x,H.get b=Wf x->x.wr=SM:=λb x hx=>by
  by_cases hb:b=gD
  .subst hb;rw[new]at hx;cases hx;rfl
  .rw[old hb hx];rfl
 have L:Ly w φ (· = gD) H:=by
  refine⟨⟨λg hg=>?_,λb p hp=>?_,λb p x i v hp hx h1 hv=>?_,λb p x i hp hx h1 hi=>?_,λb b' p p' x x' _ _ hx hx' _ _ _ _=>.inl ⟨ro b x hx,ro b' x' hx'⟩⟩,?_,?_,ro,λb p hp=>?_,⟨⟨gD,0,20,1,cs.size,Th⟩,aN⟩⟩
  .have:g=gD:=by simpa[X]using hg
   exact⟨⟨gD,0,20,1,cs.size,Th⟩,ae,this.symm,rfl⟩
  .grind[nW]
  .obtain⟨rfl,rfl⟩:=hφ hp;rw[new]at hx;cases hx;have hv':oU[i]?=Wf v:=hv;refine⟨v,?_,?_⟩
   .grind[cell_of_heap]
   .have hm:v∈oU:=Yb hv';have:oU.all plain=Th:=rfl
    grind[aC.of_plain]
  .grind
  .refine⟨aN,λb x hx=>?_⟩;by_cases hb:b=gD
   .subst hb;rw[new]at hx;cases hx;trivial
   .rw[old hb hx];exact Zb _
  .rintro c rfl;exact⟨aa,_,new,rfl⟩
  .grind
 refine⟨φ,_,H,L,λg L7 hg=>?_⟩
 have hgp:g=gD∧L7=vQ:=by
  simp only[Y]at hg;split at hg
  .simp_all
  .cases hg
 obtain⟨rfl,rfl⟩:=hgp;refine⟨Xs _,rfl,⟨_,new,rfl,au⟩,oU,?_,?_⟩
 .rfl
 simp[vQ,oU,bj,RD]
open Go.ChangeShapes Go.WideShapes Go.ChangeAt Go.RowKit
variable{HH:Type}{enc:tI×vl->HH}{P:pG}{w:wO}{RC:Nat}{held:Bool}
theorem aal{v:vl}(h:w.cell? a=Wf v):∃cs e fz,w.heap[a.block]?=Wf (.cells cs e fz)∧a.spot=Vc∧cs[a.off]?=Wf v:=by
 unfold wO.cell? at h;split at h
 .rename_i c e fz hc;split at h
  .cases h
  .rename_i hs;refine⟨c,e,fz,hc,?_,h⟩;cases hq:a.spot with
   |none=>rfl
   |some s=>rw[hq]at hs;simp at hs
 .cases h
theorem addr_add(a:Addr)(hs:a.spot=Vc)(i:Nat):a.add i=⟨a.block,a.off+i,Vc⟩:=by
 unfold Addr.add;split
 .rename_i h;subst h;cases a;simp at hs ⊢;exact hs
 .rfl
theorem aak{vs:am}(h:∀i v,vs[i]?=Wf v->w.cell? (a.add i)=Wf v)(hp:0<RW vs):
  ∃cs e fz,w.heap[a.block]?=Wf (.cells cs e fz)∧a.spot=Vc∧a.off+RW vs<=cs.size∧vs=(cs.toList.drop a.off).take (RW vs):=by
 have⟨v0,h0⟩:∃v,vs[0]?=Wf v:=⟨vs[0],by simp[hp]⟩;have⟨cs,e,fz,hc,hs,_⟩:=aal (h 0 v0 h0);have ha0:a.add 0=a:=by unfold Addr.add;simp
 rw[ha0]at hc hs
 have Fr:∀i v,vs[i]?=Wf v->cs[a.off+i]?=Wf v:=λi v hv=>by
  have⟨L7,e',fz',hc',_,hv'⟩:=aal (h i v hv);rw[addr_add a hs]at hc' hv';simp only at hc' hv';rw[hc]at hc';cases hc';exact hv'
 have Fm:a.off+RW vs<=cs.size:=by
  have hl:=Fr (RW vs-1) vs[RW vs-1] (by rw[List.getElem?_eq_getElem]);have:=(Array.getElem?_eq_some_iff.1 hl).1;omega
 refine⟨cs,e,fz,hc,hs,Fm,?_⟩;apply Yf;intro i;by_cases hi:i<RW vs
 .rw[List.getElem?_take_of_lt hi,List.getElem?_drop];have:=Fr i vs[i] (by rw[List.getElem?_eq_getElem hi]);rw[List.getElem?_eq_getElem hi];simpa using this.symm
 .rw[List.getElem?_eq_none aa,List.getElem?_eq_none dE]
inductive Sh where
 |int (k:IntKind)
 |bool
 |str
 |sl (e:Sh)
 |ar (n:Nat) (e:Sh)
 |st (fs:List Sh)
variable{s:Sh}
mutual
/-- A type has a shape. -/
def nO(P:pG):Sh->tI->Prop
 |.int k,t=>P.underlying t=Wf (.int k)∧P.cellsOf t=1
 |.bool,t=>P.underlying t=Wf .bool∧P.cellsOf t=1
 |.str,t=>P.underlying t=Wf .string∧P.cellsOf t=1
 |.sl e,t=>∃u,P.underlying t=Wf (.slice u)∧P.cellsOf t=1∧0<P.cellsOf u∧nO P e u
 |.ar n e,t=>∃u,P.underlying t=Wf (.array n u)∧P.cellsOf t=n*P.cellsOf u∧nO P e u
 |.st fs,t=>∃l:List Field,P.underlying t=Wf (.struct l.toArray)∧B7 P fs l 0 (P.cellsOf t)
def B7(P:pG):List Sh->List Field->Nat->Nat->Prop
 |[],l,o,n=>l=[]∧o=n
 |s::ss,l,o,n=>∃f r,l=f::r∧f.offset=o∧nO P s f.type∧B7 P ss r (o+P.cellsOf f.type) n
end
mutual
/-- Cells of a shape. -/
def Dat:Sh->bF->Prop
 |.int k,ds=>∃n,ds=[.int k n]∧(Lit.int k n).wf=Th
 |.bool,ds=>∃b,ds=[.bool b]
 |.str,ds=>∃s:bB,ds=[.str s]∧RW s<=maxLen
 |.sl e,ds=>∃xs:List bF,ds=[.sl (RW xs) xs.flatten]∧∀x∈xs,Dat e x
 |.ar n e,ds=>∃xs:List bF,ds=xs.flatten∧RW xs=n∧∀x∈xs,Dat e x
 |.st ss,ds=>OR ss ds
def OR:List Sh->bF->Prop
 |[],ds=>ds=[]
 |s::ss,ds=>∃a b,ds=a++b∧Dat s a∧OR ss b
end
theorem jd.append:∀{a b:bF}{u v:am},jd w a u->jd w b v->jd w (a++b) (u++v)
 |[],b,u,v,h,h2=>by grind[jd]
 | x::a,b,u,v,h,h2=>by
  simp only[jd]at h;obtain⟨y,u,rfl,h0,h1⟩:=h;exact⟨y,u++v,rfl,h0,h1.append h2⟩
theorem jd.len:∀{a:bF}{u:am},jd w a u->RW a=RW u
 |[],u,h=>by grind[jd]
 | x::a,u,h=>by
  simp only[jd]at h;obtain⟨y,u,rfl,_,h1⟩:=h;simp[h1.len]
theorem Ge{α:Type}(C:Nat->List α)(n:Nat):∀m,(∀i,i<m->RW (C i)=n)->RW ((List.range m).flatMap C)=m*n∧∀i j,i<m->j<n->((List.range m).flatMap C)[i*n+j]?=(C i)[j]?
 |0,_=>⟨ac,λi j hi=>by omega⟩
 | m+1,h=>by
  have⟨h1,h2⟩:=Ge C n m λi hi=>h i aa
  have e:(List.range (m+1)).flatMap C=(List.range m).flatMap C++C m:=by simp[Wu]
  rw[e];refine⟨by rw[List.length_append,h1,h m aa,X3],λi j hi hj=>?_⟩;by_cases him:i<m
  .rw[List.getElem?_append_left,h2 i j him hj];rw[h1]
   calc i*n+j<i*n+n:=aa
    _=(i+1)*n:=by rw[X3]
    _<=m*n:=Zu n him
  .obtain rfl:i=m:=aa
   simp_all
theorem Jm(C:Nat->am)(X:Nat->bF):∀m,(∀i,i<m->jd w (X i) (C i))->jd w ((List.range m).flatMap X) ((List.range m).flatMap C)
 |0,_=>rfl
 | m+1,h=>by
  simp only[Wu,Yx,Xy,List.flatMap_nil,Zn];exact(Jm C X m λi hi=>h i aa).append (h m aa)
theorem abZ{len cap n:Nat}{vs:am}(hn:0<n)(hl:len<=cap)(Rg:RW vs=cap*n)(h:∀i v,vs[i]?=Wf v->w.cell? (a.add i)=Wf v)(hd:jd w ds (vs.take (len*n)))(hds:RW ds=len*n):WD w (.sl len ds) (.slice (Wf a) len cap):=by
 simp only[WD];by_cases h0:cap=0
 .have e:len=0:=aa
  simp_all
 .have hpos:0<RW vs:=by rw[Rg];exact Yk aa hn
  have hle2:len*n<=RW vs:=by rw[Rg];exact Zu n hl
  have⟨cs,e,fz,hc,hs,Fm,hvs⟩:=aak h hpos;refine .inr ⟨a.block,a.off,cap,n,cs,e,fz,?_,hl,hn,hds,hc,aa,?_⟩
  .cases a;grind
  grind
def EC(enc:tI×vl->HH)(P:pG)(w:wO)(RC:Nat)(held:Bool)(s:Sh):Prop:=
 ∀(t:tI)(fuel:Nat)(cs:am)(x:DataW HH×List MemPlace),nO P s t->DataW.trod enc P w RC (λ_=>Th) held fuel t cs=Wf x->RW cs=P.cellsOf t∧∃ds,Dat s ds∧jd w ds cs
theorem N0[Inhabited α]{p:Nat->α->Prop}(h:∀i,i<m->∃x,p i x):∃f:Nat->α,∀i,i<m->p i (f i):=
 ⟨λi=>if hi:i<m then Classical.choose (h i hi)else default,λi hi=>by
  grind⟩
theorem ahL(ih:EC enc P w RC held s):EC enc P w RC held (.sl s):=by
 intro t fuel cs x ht h;simp only[nO]at ht;have⟨u,hu,hc1,hcu,hs⟩:=ht;rcases Deep.open_slice hu h with⟨rfl,_⟩|⟨a,len,cap,m,n,Dd,Pl,rfl,_,hlc,_,hm,_,hx⟩
 .exact⟨ae,[.sl 0 []],⟨[],rfl,λx hx=>by cases hx⟩,_,_,rfl,.inl ⟨rfl,rfl,.inl rfl⟩,rfl⟩
 .simp only[iT]at hm;subst hm;have⟨C,hC⟩:=N0 (α:=am) hx
  obtain ⟨E,hE⟩:=N0 (α:=bF) (p:=λi e=>Dat s e∧jd w e (C i)) (m:=m) λi hi=>by
   have⟨_,ds,h1,h2⟩:=ih _ _ _ _ hs (hC i hi).2
   grind
  have hCl:∀i,i<m->RW (C i)=P.cellsOf u:=λi hi=>(wO.cells?_some (hC i hi).1).2.1
  have⟨hl1,hl2⟩:=Ge C (P.cellsOf u) m hCl;have hEl:∀i,i<m->RW (E i)=P.cellsOf u:=λi hi=>by rw[(hE i hi).2.len,hCl i hi]
  refine⟨ae,[.sl (RW ((List.range len).map E)) ((List.range len).map E).flatten],⟨_,rfl,λx hx=>?_⟩,_,_,rfl,?_,rfl⟩
  .simp only[Zw,Xi]at hx;obtain⟨i,hi,rfl⟩:=hx;exact(hE i aa).1
  .rw[List.length_map,List.length_range,<-List.flatMap_def];refine abZ (vs:=(List.range m).flatMap C) hcu hlc hl1 (λi v hv=>?_) ?_ (Ge E (P.cellsOf u) len λi hi=>hEl i aa).1
   .have hi:=(List.getElem?_eq_some_iff.1 hv).1;rw[hl1]at hi;have hdm:=Xo i (P.cellsOf u);have hmod:=Y5 i hcu;have hdiv:i/P.cellsOf u<m:=Wm ae;have e:i=i/P.cellsOf u*P.cellsOf u+i%P.cellsOf u:=by rw[Zp];exact hdm.symm
    have:=(wO.cells?_some (hC _ hdiv).1).2.2 (i%P.cellsOf u) hmod
    grind[Addr.add_add]
   ·have e:((List.range m).flatMap C).take (len*P.cellsOf u)=(List.range len).flatMap C:=by
     have e1:List.range m=List.range len++(List.range (m-len)).map (len + ·):=by
      conv=>lhs;rw[show m=len+(m-len) by omega,List.range_add]
     rw[e1,Yx,X6];exact(Ge C (P.cellsOf u) len λi hi=>hCl i aa).1
    rw[e];exact Jm C E len λi hi=>(hE i aa).2
theorem ahM{n:Nat}(ih:EC enc P w RC held s):EC enc P w RC held (.ar n s):=by
 intro t fuel cs x ht h;simp only[nO]at ht;have⟨u,hu,hct,hs⟩:=ht;have⟨xs,m,_,_,hl,hxl,hx⟩:=DataW.trod_array hu h
 let C:Nat->am:=λi=>(cs.drop (i*P.cellsOf u)).take (P.cellsOf u)
 obtain ⟨E,hE⟩:=N0 (α:=bF) (p:=λi e=>Dat s e∧jd w e (C i)) (m:=n) λi hi=>by
  have:=hx i hi;rw[List.getElem?_eq_getElem aa]at this;have⟨_,ds,h1,h2⟩:=ih _ _ _ _ hs this
  grind
 refine⟨hl,((List.range n).map E).flatten,⟨_,rfl,ac,λx hx=>?_⟩,?_⟩
 .grind
 .rw[<-List.flatMap_def]
  have e:∀m,m<=n->cs.take (m*P.cellsOf u)=(List.range m).flatMap C:=by
   intro m
   induction m with
   |zero=>simp
   | succ m ihm=>
    intro hm;rw[X3,List.take_add,ihm aa];simp[Wu,C]
  have:=e n (Z8 _);rw[Zy aa]at this
  grind[Jm]
mutual
theorem opn:∀s:Sh,EC enc P w RC held s
 | .int k=>by
  intro t fuel cs x ht h;simp only[nO]at ht;obtain⟨n,rfl,_,hw⟩:=DataW.trod_int ht.1 h;exact⟨ae,[.int k n],⟨n,rfl,hw⟩,_,_,rfl,rfl,rfl⟩
 | .bool=>by
  intro t fuel cs x ht h;simp only[nO]at ht;obtain⟨b,rfl,_⟩:=DataW.trod_bool ht.1 h;exact⟨ae,[.bool b],⟨b,rfl⟩,_,_,rfl,rfl,rfl⟩
 | .str=>by
  intro t fuel cs x ht h;simp only[nO]at ht;obtain⟨s,rfl,_,hs⟩:=DataW.trod_string ht.1 h;exact⟨ae,[.str s.data.toList],⟨_,rfl,cU⟩,_,_,rfl,rfl,rfl⟩
 |.sl e=>ahL (opn e)
 |.ar n e=>ahM (opn e)
 | .st ss=>by
  intro t fuel cs x ht h;simp only[nO]at ht;have⟨l,hu,hl⟩:=ht;have⟨xs,m,_,_,hcl,hxl,hx⟩:=DataW.trod_struct hu h;refine⟨hcl,?_⟩
  have:=S4 ss (l:=l) (o:=0) (n:=P.cellsOf t) (fuel:=m) (cs:=cs) hl hcl λf hf=>by
   have⟨i,hi⟩:=List.getElem?_of_mem hf;have h1:=hx i f ae
   grind
  trivial
theorem S4:∀(ss:List Sh){l:List Field}{o n fuel:Nat}{cs:am},B7 P ss l o n->RW cs=n ->
  (∀f∈l,∃x,DataW.trod enc P w RC (λ_=>Th) held fuel f.type ((cs.drop f.offset).take (P.cellsOf f.type))=Wf x)->∃ds,OR ss ds∧jd w ds (cs.drop o)
 | [],l,o,n,fuel,cs,ht,hl,h=>by
  simp only[B7]at ht;refine⟨[],rfl,?_⟩;rw[Y9 aa];rfl
 | s::ss,l,o,n,fuel,cs,ht,hl,h=>by
  simp only[B7]at ht;obtain⟨f,r,rfl,rfl,h1,h2⟩:=ht;have⟨x,hx⟩:=h f ac;have⟨_,a,ha,wa⟩:=opn s _ _ _ _ h1 hx;have⟨b,hb,wb⟩:=S4 ss h2 hl λg hg=>h g ae
  refine⟨a++b,⟨a,b,rfl,ha,hb⟩,?_⟩
  have e:cs.drop f.offset=(cs.drop f.offset).take (P.cellsOf f.type)++cs.drop (f.offset+P.cellsOf f.type):=by
   rw[<-List.drop_drop,Xu]
  grind[jd.append]
end
inductive Ar where
 |one (x:D)
 |many (xs:bF)
def Ar.v:Ar->V
 |.one x=>.d x
 |.many xs=>.agg (xs.map .d)
def WA(w:wO):Ar->vl->Prop
 |.one x,v=>WD w x v
 |.many xs,v=>∃ws,v=.agg ⟨ws⟩∧jd w xs ws
def Ey(w:wO):List Ar->am->Prop
 |[],l=>l=[]
 |x::xs,l=>∃v vs,l=v::vs∧WA w x v∧Ey w xs vs
theorem Ri{F1:Nat->Prop}{H1:AH}(φ0:ax)(h0:Hp):∀(ds:bF)(us:am),bj F1 H1 ds us->aK φ0 F1 H1 h0 (ds.map .d) us
 |[],us,h=>by trivial
 | d::ds,us,h=>by
  simp only[bj]at h;obtain⟨u,us,rfl,h1,h2⟩:=h;exact⟨u,us,rfl,h1,Ri φ0 h0 ds us h2⟩
def RAs(F:Nat->Prop)(H:AH)(rs:List Ar)(us:am):Prop:=∀φ0 h0,aK φ0 F H h0 (rs.map Ar.v) us
theorem L4:∀(rs:List Ar)(vs:am){φ:bI}{F:Nat->Prop}{H:AH},Ly w φ F H->Ey w rs vs ->
  ∃φ' F' H' us,Ly w φ' F' H'∧kK φ F H φ' F' H'∧aE φ' us vs∧RAs F' H' rs us
 |[],vs,φ,F,H,L,h=>⟨φ,F,H,[],L,kK.refl ..,cU,λ_ _=>rfl⟩
 | .one x::rs,vs,φ,F,H,L,h=>by
  simp only[Ey,WA]at h;obtain⟨v,vs,rfl,h1,h2⟩:=h;obtain⟨φ1,F1,H1,u,L1,E1,r1,d1⟩:=lay x v L h1;obtain⟨φ2,F2,H2,us,L2,E2,r2,d2⟩:=L4 rs vs L1 h2;exact⟨φ2,F2,H2,u::us,L2,E1.trans E2,⟨v,vs,rfl,aC.mono E2.le u v r1,r2⟩,λφ0 h0=>⟨u,us,rfl,RD.mono (E2.leF L1) _ _ d1,d2 φ0 h0⟩⟩
 | .many xs::rs,vs,φ,F,H,L,h=>by
  simp only[Ey,WA]at h;obtain⟨v,vs,rfl,⟨ws,rfl,h1⟩,h2⟩:=h;obtain⟨φ1,F1,H1,us1,L1,E1,r1,d1⟩:=lays xs ws L h1;obtain⟨φ2,F2,H2,us,L2,E2,r2,d2⟩:=L4 rs vs L1 h2;exact⟨φ2,F2,H2,.agg ⟨us1⟩::us,L2,E1.trans E2,⟨_,vs,rfl,⟨ws,rfl,aE.mono E2.le _ _ r1⟩,r2⟩,λφ0 h0=>⟨_,us,rfl,⟨us1,rfl,Ri φ0 h0 _ _ (bj.mono (E2.leF L1) _ _ d1)⟩,d2 φ0 h0⟩⟩
theorem aoF{f:FuncId}{rs:List Ar}{vs:am}{b:Bool}{w:wO}(hc:CP Y f (rs.map Ar.v) (.d (.bool b)))(hw:Ey w rs vs)(hp:I9 w)(h0:∀u,Y.X.orc f u=Vc:=by exact λ_=>rfl):
  Calls X.P f vs.toArray w λe w'=>e=.returned (.bool b)∧w'.os=w.os∧w'.output=w.output∧w.heap.size<=w'.heap.size∧∀c,c<w.heap.size->w'.heap[c]?=w.heap[c]?:=by
 obtain⟨φ,F,H,L,g⟩:=start hp;obtain⟨φ1,F1,H1,us,L1,E1,r1,d1⟩:=L4 rs vs L hw;have⟨n,wv,H2,F2,hcall,hn,_,_,_,_,_,_,_,hr⟩:=ap1 vOk hc F1 H1 us L1.wf L1.fr (g.mono (E1.leF L)) d1
 have hv:wv=.bool b:=by
  have:=hr [] [];simpa only[RV,RD]using this
 subst hv;refine(aoE ahU hcall L1.rel (GS:=vs.toArray) r1 h0).mono ?_;rintro e w' ⟨φ',v',rfl,h1,h2,h3,h4⟩;have hv':v'=.bool b:=(aC.of_plain (.bool b) rfl v').1 h1;subst hv';refine⟨rfl,h3.os,h3.out,h3.size,λc hc=>h3.frame c hc ?_⟩;rintro⟨b',p,x,_,_,hx,_,hwr⟩
 grind[Ly.ro]
theorem ab1{t:tI}{v:vl}{x:DataW HH×List MemPlace}(ht:nO P s t)(hc:P.cellsOf t=1)(h:DataW.trod enc P w RC (λ_=>Th) held fuel t v.cells.toList=Wf x)(hv:∀cs,v≠.agg cs):
  ∃d,Dat s [d]∧WA w (.one d) v:=by
 have⟨hl,ds,h1,h2⟩:=opn s _ _ _ _ ht h
 have hcl:v.cells.toList=[v]:=by
  cases v<;>first|rfl|grind
 rw[hcl]at h2;have:=h2.len;obtain⟨d,rfl⟩:∃d,ds=[d]:=List.length_eq_one_iff.1 this;simp only[jd]at h2;have⟨v',vs',e,h2,_⟩:=h2;simp only[List.cons.injEq]at e;obtain⟨rfl,_⟩:=e;exact⟨d,h1,h2⟩
theorem O9{t:tI}{v:vl}{x:DataW HH×List MemPlace}(ht:nO P s t)(h:DataW.trod enc P w RC (λ_=>Th) held fuel t v.cells.toList=Wf x)(hv:∃cs,v=.agg cs):
  ∃ds,Dat s ds∧WA w (.many ds) v:=by have⟨hl,ds,h1,h2⟩:=opn s _ _ _ _ ht h;obtain⟨cs,rfl⟩:=hv;exact⟨ds,h1,cs.toList,rfl,h2⟩
theorem Qj{P:pG}{RC:Nat}{t:tI}{fs:Array Field}{v:vl}(ht:P.underlying t=Wf (.struct fs))(h:vl.okWide P W .any RC t v):∃cs,v=.agg cs:=by grind[vl.okWide]
theorem ZB{f:α->bF}(q:α->Prop)(hs:∀ds,Dat s ds->∃a,ds=f a∧q a){d:D}(h:Dat (.sl s) [d]):∃l:List α,d=.sl (RW l) (l.flatMap f)∧∀a∈l,q a:=by
 simp only[Dat,List.cons.injEq,and_true]at h;obtain⟨xs,rfl,hx⟩:=h
 have:∀xs:List bF,(∀x∈xs,Dat s x)->∃l:List α,xs=l.map f∧∀a∈l,q a:=by
  intro xs
  induction xs with
  |nil=>simp
  | cons x xs ih=>
   intro h;obtain⟨n,rfl,hn⟩:=hs x (h x ac);obtain⟨zs,rfl,hz⟩:=ih λy hy=>h y ae
   exact⟨n::zs,rfl,λm hm=>by grind⟩
 obtain⟨l,rfl,hl⟩:=this xs hx;exact⟨l,by rw[List.length_map,<-List.flatMap_def],hl⟩
def Jb(W W':wO):Prop:=W'.os=W.os∧W'.output=W.output∧W.heap.size<=W'.heap.size∧∀c,c<W.heap.size->W'.heap[c]?=W.heap[c]?
variable{H:Type}{enc:tI×vl->H}{P:pG}
theorem Jb.but(h:Jb W W')(may:MemPlace->Prop):W.keptBut W' may:=by
 refine⟨h.1,h.2.1,λi hi=>?_⟩;rw[h.2.2.2 i hi];cases hq:W.heap[i]? with
 |none=>simp
 |some o=>cases o<;>simp
theorem ahi{f:Func}{s:ChangeSpec}{apart fresh handsOn again:Bool}{W W':wO}{args:Array vl}{v:vl}{ds gs:List (DataW H)}{before pa pv:List MemPlace}
  (hW:DataW.Whole enc P f.params.toList s.vars apart W args.toList ds gs before)
  (hres:∀(b:Nat)(sp:Nat->Bool)(hd:Bool),DataW.TrodAll enc P W' b sp hd f.resultTypes.toList (v.resultList f.resultTypes.size) (s.fn H (ds++gs)).results [])
  (hargs:∀sp:Nat->Bool,(∀p∈before,sp p.block=Th)->DataW.TrodAll enc P W' 0 sp Th f.params.toList args.toList (s.fn H (ds++gs)).args pa)
  (hvars:∀sp:Nat->Bool,(∀p∈before,sp p.block=Th)->DataW.TrodVars enc P W' sp s.vars (s.fn H (ds++gs)).vars pv)
  (hps:before=pa++pv) (hk:Jb W W')
  (Is:∀(j:Nat)(t:tI)(r:vl),f.resultTypes[j]?=Wf t->(v.resultList f.resultTypes.size)[j]?=Wf r->vl.okWide P W' .any 0 t r) :
  s.post enc P f apart fresh handsOn again W args v W':=by
 have Fd:∀p∈before,(λb=>decide (b<W.heap.size)) p.block=Th:=λp hp=>by simpa using hW.lt p hp
 have PJ:=hW.lt;refine⟨ds,gs,before,[],pa,pv,hW,hres _ _ _,hargs _ Fd,hvars _ Fd,wO.keptBut_mono (λp hp=>⟨hp,?_⟩) (hk.but (· ∈ before)),λ_=>?_⟩
 .rw[hps,Xc]at hp;exact Or.inr hp
 .have⟨_,_,_,_,_,hz,hn⟩:=hW;refine⟨Is,_,_,([]++pa)++pv,⟨[]++pa,pv,trodAll_append (hargs _ (λ_ _=>rfl)) (hres _ _ _),hvars _ (λ_ _=>rfl),rfl,?_,?_⟩,?_⟩
  .intro b off hp;have hp':MemPlace.cell b off∈before:=by rw[hps];simpa using hp
   have hb:b<W.heap.size:=PJ _ hp';have:=hz b off hp';simp only[wO.frozen?]at this ⊢;rw[hk.2.2.2 b hb];exact this
  .intro ha;have:=hn ha;rw[hps]at this;simpa using this
  .intro p hp _;rw[hps];simpa using hp
theorem Pz(hl:laidOutB P=Th){W W':wO}(hk:Jb W W'){sp:Nat->Bool}:∀{ts:List tI}{vs:am}{ds:List (DataW H)}{ps:List MemPlace},(∀t∈ts,P.readableRec t=Th∧t<P.types.size) ->
  DataW.TrodAll enc P W 0 (λ_=>Th) Th ts vs ds ps->(∀p∈ps,p.block<W.heap.size)->(∀p∈ps,sp p.block=Th)->DataW.TrodAll enc P W' 0 sp Th ts vs ds ps
 | [],vs,ds,ps,_,h,_,_=>by
  obtain⟨rfl,rfl,rfl⟩:=trodAll_nil h;exact trodAll_mk0
 | t::ts,vs,ds,ps,hr,h,PJ,hsp=>by
  obtain⟨v,vs',d,ds',p,q,rfl,rfl,rfl,h1,h2⟩:=trodAll_cons h;refine trodAll_cons_mk (WideElems.Trod_stays hl (hr t ac).1 (hr t ac).2 h1 (λx hx=>?_) λx hx=>hsp x (by simp[hx])) (Pz hl hk (λu hu=>hr u (by simp[hu])) h2 (λx hx=>PJ x (by simp[hx])) λx hx=>hsp x (by simp[hx]));have hb:=PJ x (by simp[hx]);cases x with
  | cell b off=>
   simp only[wO.sameAt,wO.cell?];rw[hk.2.2.2 b hb]
  |map b=>exact hk.2.2.2 b hb
theorem U4{P:pG}{w:wO}:∀{l:List (String×DataW Unit)}{ps:List MemPlace},DataW.LaidVars P w l ps->∀n d,(n,d)∈l ->
  ∃g t cs fuel p,P.globalNamed n=Wf g∧(P.globals[g]?).map (·.type)=Wf t∧w.var? P n=Wf cs∧DataW.trod (λ_=>()) P w 0 (λ_=>Th) SM fuel t cs.toList=Wf (d,p)
 |[],_,_,_,_,hm=>by cases hm
 | (n',d')::r,ps,h,n,d,hm=>by
  have⟨g,t,cs,fuel,p,q,h1,h2,h3,h4,h5,_⟩:=h;rcases Zx.1 hm with e|e
  .cases e;exact⟨g,t,cs,fuel,p,h1,h2,h3,h4⟩
  .exact U4 h5 n d e
def K4:aw:=[1,10,100,1000,10000,100000,1000000,10000000,100000000,1000000000,10000000000,100000000000,1000000000000,10000000000000,100000000000000,1000000000000000,10000000000000000,100000000000000000,1000000000000000000,10000000000000000000]
theorem ahf{P:pG}{W:wO}{name:String}{t e:tI}(hg:P.globalNamed name=Wf gD)(hty:(P.globals[gD]?).map (·.type)=Wf t)(ht:P.underlying t=Wf (.array 20 e))(he:P.underlying e=Wf (.int .u64))(hce:P.cellsOf e=1)(hct:P.cellsOf t=20)
  {l:List (String×DataW Unit)} (hm:(name,Lib.tabData .u64 K4)∈l) (h:laidMet P l W):I9 W:=by
 have⟨ps,hv,_⟩:=h;have⟨g',t',cs,fuel,p,hg',ht',hvar,hd⟩:=U4 hv _ _ hm;obtain rfl:=Option.some.inj (hg.symm.trans hg');obtain rfl:=Option.some.inj (hty.symm.trans ht')
 have tab:Lib.TabIs P W name .u64 K4:=by
  unfold Lib.TabIs;rw[hvar,<-Lib.cells_of_tab ht he hce hct hd]
 have hpv:∀i v,oU[i]?=Wf v->W.cell? ((⟨gD,0,Vc⟩:Addr).add i)=Wf v:=by
  intro i v hv;have hi:i<20:=(List.getElem?_eq_some_iff.1 hv).1;rw[addr_add _ rfl];have h1:=tab.cell hg i hi;simp only[Zh];rw[h1];have h2:oU=K4.map λz=>vl.int .u64 z:=rfl
  rw[h2,List.getElem?_map,Z3]at hv;obtain⟨z,hz,rfl⟩:=hv;simp[hz]
 have⟨cs,e,fz,h1,_,h2,h3⟩:=aak (w:=W) (a:=⟨gD,0,Vc⟩) (vs:=oU) hpv au;exact⟨cs,e,fz,h1,by simpa[oU]using h2,by simpa[oU]using h3⟩
open Go.Big
theorem ahj{e:List I4}(hk:k<256)(he:RW e<=3)(hb:∀x∈e,lJ x):
  ∃C W,Ds F.tO [.agg [.d (.int .u8 k),de gQ e,B Ok]] (jT (fP k) C W)∧abm (fP k) C W∧dy (10^6) W:=
 ahk au au (λm hm hb C hC hs h1 x hx j=>Z1 (akf hm hb hs h1 x hx j) au) hk he hb
variable{p:aw}{c w:Mz}
variable{p:aw}{c w w':Mz}{e:Int}
variable{p:aw}{c w:Mz}{g:List (List Q)}
variable{p:aw}{c w:Mz}
theorem Gu{e:List I4}(h:qe gs)(H:Hp):bY H [.agg (fO k e Ok gs)]=Wf ([.agg (fO k e Ok gs)],H):=by
 have⟨h4,ho⟩:=h
 match gs,h4 with
 | [a,b,c,d],_=>
  obtain⟨a0,a1,a2,a3,rfl⟩:=four (ho a ac).1;obtain⟨b0,b1,b2,b3,rfl⟩:=four (ho b ac).1;obtain⟨c0,c1,c2,c3,rfl⟩:=four (ho c ac).1;obtain⟨d0,d1,d2,d3,rfl⟩:=four (ho d ac).1;rfl
theorem TO(a:Int)(b:Nat):gE (mR a b)∧qL 30 (mR a b)∧0<(mR a b).1:=by
 unfold mR;by_cases h:(ia a b).1=0
 .rw[ip h];exact⟨(C8 aa).1,(C8 aa).2,au⟩
 .rw[iN h];have⟨z,hz,hb⟩:=KC a b;have⟨l1,l2⟩:=Rt au hz;refine⟨⟨(WC a b).1,?_⟩,⟨?_,?_⟩,?_⟩
  .have:=(WC a b).2;simpa using this
  .exact Z1 (ef (d:=3) (show((((ia a b).1.natAbs:Nat):Int)).natAbs<10^3 by omega) au) au
  .exact Z1 (ef (d:=3) (show(ia a b).2<10^3 by omega) au) au
  .show(0:Int)<((ia a b).1.natAbs:Nat)
   omega
theorem TP{p:aw}{x:I4}{a:Int}(hp:d8 p=0)(h4:RW p<=4):qn (kS p x a b)∧nE p [kS p x a b]=0∧RW (eU p x)=RW p∧∀z∈eU p x,z.natAbs<=9:=by
 have hl:RW (eU p x)=RW p:=by grind[eU,gH,HJ]
 have hz:∀z∈eU p x,z.natAbs<=9:=λz hz=>by grind[eU,gH]
 have⟨w1,w2,w3⟩:=TO a b;have rf:jW (kS p x a b).num (kS p x a b).den=Wf (mR a b):=Gd w1 w2
 have t1:(kS p x a b).num.length<=30:=by
  have e:(kS p x a b).num=aA (mR a b).1.natAbs:=by
   show itoa (mR a b).1=_
   unfold itoa;rw[iN aa]
  rw[e];exact Z1 (Nat.le_of_eq (fp _ _)) w2.1
 have t2:(kS p x a b).den.length<=30:=Z1 (Nat.le_of_eq (fp _ _)) w2.2;refine⟨⟨?_,?_,?_⟩,?_,hl,hz⟩
 .omega
 .omega
 .show(eU p x).length<_;omega
 .have mz:oc p [(kS p x a b).iv]=0:=aiq hp hl λz h=>by have:=hz z h;omega
  have wt:nS (kS p x a b)=0:=by
   unfold nS;rw[rf]
   show(if(mR a b).1<=0 then 3 else if _ then 4 else 0)=(0:Int)
   rw[iN aa,iN aa]
  simp[nE,hp,pn,zI,mz,wt]
theorem ago{c:Nat}{x y:Q}{a d:Int}(hx:rp b x a)(hy:rp c y d):rp (b*c) (ik x y) (a*d):=by
 refine FR (Yk hx.1.1 hy.1.1) ?_;have h1:=hx.2;have h2:=hy.2
 grind
theorem agp(b:Nat)(z:Int):rp b (z,1) (z*b):=⟨⟨Nat.one_pos,ac⟩,ac⟩
theorem aaT{b c B C:Nat}{q:Q}{d:Int}(hq:rp c q d)(hd:d.natAbs<=C):∀{s:List Q}(n:Nat),ft b B s->ft (b*c) (B*C) (iV q (So n (0,1)) s)
 |_,0,_=>λx hx=>by trivial
 |[],n+1,_=>λx hx=>by trivial
 | y::s,n+1,h=>λx hx=>by
  rw[List.replicate_succ,iV]at hx;rcases Zx.1 hx with rfl|hx
  .have⟨a,a1,a2⟩:=h y ac;refine⟨0+a*d,FT (KB _) (ago a1 hq),?_⟩
   simp_all[Zl,Zr]
  .exact aaT hq hd n (λz hz=>h z ae) x hx
theorem apq{c B C n:Nat}{q:Q}{d:Int}{s:List Q}(h:ft b B s)(hq:rp c q d)(hd:d.natAbs<=C):ft (b*c) (B*C) (gC n [s] [q]):=aaT hq hd n h
theorem aaN{b C Z:Nat}:∀{l:List (List Q)}{zs:aw}{o:List Q}{A:Nat},ft b A o->(∀s∈l,ft b C s)->(∀z∈zs,z.natAbs<=Z)->ft b (A+RW l*(Z*C)) (m8 o l (fB zs))
 |[],zs,o,A,ho,_,_=>by grind[m8]
 |s::l,[],o,A,ho,_,_=>Es cU aa
 | s::l,z::zs,o,A,ho,hl,hz=>by
  have h1:=Ov z ho (hl s ac);have h2:=aaN (zs:=zs) h1 (λt ht=>hl t (W8 _ ht)) (λy hy=>hz y (W8 _ hy));have h3:z.natAbs*C<=Z*C:=Zu _ (hz z ac);refine Es (B:=A+z.natAbs*C+RW l*(Z*C)) h2 ?_
  grind[X3]
theorem aaP{b A X:Nat}:∀{o:List Q}{x:aw},ft b A o->(∀z∈x,z.natAbs<=X)->ft b (A+X*b) (List.zipWith (λa z=>dZ a (jm (z,1))) o x)
 |[],x,_,_=>λy hy=>by simp at hy
 |_::_,[],_,_=>λy hy=>by simp at hy
 | a::o,z::x,ho,hx=>λy hy=>by
  rw[List.zipWith_cons_cons]at hy;rcases Zx.1 hy with rfl|hy
  .have⟨r,r1,r2⟩:=ho a ac;have hz:=hx z ac;refine⟨r + -z*b,FT r1 (agp b (-z)),?_⟩;have:(-z*(b:Int)).natAbs<=X*b:=by rw[Zl,X0,Int.natAbs_natCast];exact Zu _ hz
   omega
  .exact aaP (λw hw=>ho w ae) (λw hw=>hx w ae) y hy
structure rD(p:aw)(c w:Mz)(g:List (List Q)):Prop where
 tu:pC p c w g
 i6:yG p
 h0:0<RW p
 h4:RW p<=4
 wl:RW w<=12
 bw:dy (10^6) w
 g12:∀s∈g,ft 12 480 s
structure qq(p:aw)(t:Tg)(q:Q)(d:Int):Prop where
 l:RW t.iv=RW p
 b:∀z∈t.iv,z.natAbs<=9
 tn:t.num=itoa q.1
 td:t.den=aA q.2
 rd:jW t.num t.den=Wf q
 ok:gE q∧qL 30 q
 rp:rp 12 q d
 d0:0<d
 d1:d<=480
variable{p:aw}{c w:Mz}{g:List (List Q)}{t:Tg}{q:Q}{d:Int}
theorem PY(h:rD p c w g)(hl:RW x=RW p)(hx:∀z∈x,z.natAbs<=9):∀z∈fj w x,z.natAbs<=36000000:=λz hz=>by
 obtain⟨v,hv,rfl⟩:=Zw.1 hz;have h1:=XS hx (Ou h.bw v hv)
 grind[rD.h4]
theorem XF(h:rD p c w g)(hl:RW x=RW p)(hx:∀z∈x,z.natAbs<=9):ft 12 1000000000000 (lS p w g x):=by have h1:=aaN (Z:=36000000) (aaM 12 (RW p)) h.g12 (PY h hl hx);have h2:=aaP h1 hx;refine Es h2 ?_;have h3:RW g*(36000000*480)<=12*(36000000*480):=Zu _ (by have:=h.tu.gl;grind[rD.wl]);omega
theorem XD(h:rD p c w g)(hl:RW x=RW p):RW (lS p w g x)=RW p:=by
 have:RW (pK p w g x)=RW p:=E8 λs hs=>(h.tu.gs s hs).1
 grind[lS]
def wP(p:aw)(w:Mz)(g:List (List Q))(x:aw):Int:=(xd p 12 (lS p w g x)).sign
def Ea(p:aw)(w:Mz)(g:List (List Q))(x:aw):List Q:=Ev p (lS p w g x) (wP p w g x)
def iC(p:aw)(w:Mz)(g:List (List Q))(t:Tg):List Q:=gC (RW p) [Ea p w g t.iv] [(jW t.num t.den).getD (1,1)]
theorem YM(h:rD p c w g)(hl:RW x=RW p)(hx:∀z∈x,z.natAbs<=9):ft 12 1000000000000 (Ea p w g x):=by
 have h1:=apo (n:=RW p) (z:=pB (wP p w g x)) (XF h hl hx);refine Es h1 ?_
 have h2:(pB (wP p w g x)).natAbs<=1:=by
  unfold wP;rcases Int.sign_trichotomy (xd p 12 (lS p w g x))with e|e|e<;>rw[e]<;>decide
 omega
theorem YJ(h:rD p c w g)(m:qq p t q d):ft 144 1000000000000000 (iC p w g t)∧RW (iC p w g t)=RW p:=by
 have h1:=YM h m.l m.b;have e:(jW t.num t.den).getD (1,1)=q:=by rw[m.rd];rfl
 refine⟨?_,E8 λs hs=>?_⟩
 .rw[iC,e];exact Es (apq h1 m.rp (C:=480) (by have:=m.d0;have:=m.d1;omega)) au
 .rw[List.mem_singleton]at hs;subst hs;exact E8 λs hs=>by grind[XD,qq.l]
theorem amG(h:rD p c w g)(m:qq p t q d):mZ p c w g (iC p w g) t:=by
 have hpr:=h.tu.tp.pr;have h4:=h.h4;have eb:=XF h m.l m.b;have el:=XD h m.l;have eo:=BX au eb au au;have⟨n1,n2⟩:=Lj eb;have sg:Aj p (lS p w g t.iv) (wP p w g t.iv):=Q2 h.i6 el au n1 n2 au;have ab:=YM h m.l m.b;have al:RW (Ea p w g t.iv)=RW p:=E8 λs hs=>by grind
 have⟨fb,fl⟩:=YJ h m;have e:(jW t.num t.den).getD (1,1)=q:=by rw[m.rd];rfl
 have tb:=PY h m.l m.b
 have s1 : -1<=wP p w g t.iv∧wP p w g t.iv<=1:=by
  unfold wP;rcases Int.sign_trichotomy (xd p 12 (lS p w g t.iv))with e|e|e<;>rw[e]<;>decide
 refine⟨lS p w g t.iv,Ea p w g t.iv,?_,?_,?_⟩
 .exact Pv h.tu aa ⟨m.l,ael m.b,λz hz=>by have:=m.b z hz;omega,KR (by grind[qq.l]) λz hz=>by grind[qq.b],λz hz=>by grind⟩ eo
 .exact abi hpr aa el eo (Q3 sg) s1.1 s1.2
 .have:=Q6 (p:=p) (s:=Ea p w g t.iv) (k:=q) hpr aa al (BX au ab au au) m.ok (by have:=BX au fb au au;grind[iC.eq_1])
  grind[qT,qq.tn,qq.td,iC.eq_1]
def ou(p:aw)(a b:List Q):Int:=(xd p 144 a-xd p 144 b).sign
theorem YL(p:aw)(a b:List Q):ou p a b = -ou p b a:=by grind[ou]
theorem amI{B:Nat}(i6:yG p){a b:List Q}(la:RW a=RW p)(lb:RW b=RW p)(ha:ft 144 B a)(hb:ft 144 B b)(hB:B<=1000000000000000):Aj p (kx p a b) (ou p a b):=by
 have:=aoj i6 la lb au au ha hb aa
 rwa [<-Int.sub_mul,QV au]at this
theorem Nn(h:rD p c w g){a b:List Q}(la:RW a=RW p)(lb:RW b=RW p)(ha:ft 144 1000000000000000 a)(hb:ft 144 1000000000000000 b):Ds F.iM [ai di p,aW a,aW b] (.tup [I (ou p a b),I 0]):=by have:=h.h4;exact abq h.tu.tp.pr aa la lb (BX au ha au au) (BX au hb au au) (Q3 (amI h.i6 la lb ha hb au))
theorem alW{e:List I4}(h:qe gs):Ds F.Al [.agg (fO k e Ok gs),de mf l] (B (decide (RW e<=3∧RW l<=8))):=by
 apply afZ;have fi:=WT (k:=k) (e:=e) (Ok:=Ok) h;have hl:=AI (k:=k) (e:=e) (Ok:=Ok) h;have ht:(fO k e Ok gs).take 35=fO k e Ok gs:=Zy aa;have l1:bf (de mf l)=Wf (I (RW l)):=rfl;simp only[Al];simp[hl,ht];refine cd fi ?_ (Gu h _);by_cases he:RW e<=3
 .simp[he,l1]
  grind[eG]
 .simp[he]
variable{p:aw}{c w:Mz}{g:List (List Q)}
theorem aiG{p:aw}{x:I4}{a:Int}(hp:d8 p=0)(h4:RW p<=4):∃d,qq p (kS p x a b) (mR a b) d:=by
 have⟨_,_,tl,tz⟩:=TP (p:=p) (x:=x) (a:=a) (b:=b) hp h4;have⟨w1,w2,w3⟩:=TO a b;have rf:jW (kS p x a b).num (kS p x a b).den=Wf (mR a b):=Gd w1 w2
 have hd:∃d:Int,rp 12 (mR a b) d∧0<d∧d<=480:=by
  unfold mR;by_cases h:(ia a b).1=0
  .rw[ip h];exact⟨12,⟨⟨Nat.one_pos,au⟩,au⟩,au,au⟩
  .rw[iN h];have⟨z,⟨⟨o1,o2⟩,hz⟩,hb⟩:=KC a b
   have e:((ia a b).1.natAbs*12:Nat)=z.natAbs*(ia a b).2:=by
    have:=RT Int.natAbs hz
    rwa [Zl,Zl,Int.natAbs_natCast,Int.natAbs_natCast]at this
   refine⟨z.natAbs,⟨⟨o1,cU⟩,ae⟩,?_,aa⟩;have:z≠0:=by rintro rfl;simp at e;omega
   omega
 have⟨d,d1,d2,d3⟩:=hd;exact⟨d,tl,tz,rfl,rfl,rf,⟨w1,w2⟩,d1,d2,d3⟩
theorem aiE{p:aw}(hp:d8 p=0)(h4:RW p<=4)(l:List Mk)(h8:RW l<=8):RW (gm p l)=RW l∧nE p (gm p l)=0∧∀t∈gm p l,qn t∧∃q d,qq p t q d:=by
 have hm:∀t∈gm p l,(qn t∧∃q d,qq p t q d)∧nE p [t]=0:=λt ht=>by
  obtain⟨m,_,rfl⟩:=Zw.1 ht
  grind[TP,aiG]
 have hl:RW (gm p l)=RW l:=by simp[gm]
 refine⟨hl,?_,λt ht=>(hm t ht).1⟩
 have go:∀q:List Tg,(∀t∈q,nE p [t]=0)->pn p q=0:=by
  intro q
  induction q with
  |nil=>intro _;rfl
  | cons t q ih=>
   intro h;have h1:=h t ac;have h2:zI p t=0:=by simp[nE,hp,pn]at h1;exact Classical.byContradiction λh=>h (h1 h)
   grind[pn]
 unfold nE;rw[ip hp,ip aa]
 grind
structure abt(p:aw)(C W:Mz)(G:List (List Q))(T:List Tg):Prop where
 dm:rD p C W G
 ln:RW T<=8
 db:nE p T=0
 tg:∀t∈T,qn t
 ok:∀t∈T,mZ p C W G (iC p W G) t
 bd:∀t∈T,ft 144 1000000000000000 (iC p W G t)∧RW (iC p W G t)=RW p
 iv:∀t∈T,RW t.iv=RW p∧nL t.iv∧mN t.iv=0
theorem aaL{e:List I4}(hk:k<256)(he:RW e<=3)(hb:∀x∈e,lJ x)(hgs:qe gs)(h8:RW l<=8)(hm:∀m∈l,ye m):
  ∃C W G,Ds F.vF [.agg (fO k e Ok gs)] (cG (fP k) C W G)∧Ds F.xG [ai di (fP k),de mf l] (dL (gm (fP k) l))∧abt (fP k) C W G (gm (fP k) l):=by
 have⟨p1,p2,p3,p4,p5⟩:=K5 _ (K6 k);have⟨C,W,mk,PL,b6⟩:=ahj (Ok:=Ok) hk he hb;have⟨p,hp⟩:=bD (fP k);rw[<-hp]at p1 p2 p3 p4 p5 mk PL ⊢;have T:=PL.t;have hwl:=T.lw.ml;have gl:=MO (RW p) gs (RW W);have⟨tl,db,tk⟩:=aiE p1 p4 l h8
 have hg:∀s∈oi (RW p) gs (RW W),RW s=RW p∧ft 12 480 s:=λs hs=>by
  obtain⟨i,hi,rfl⟩:=Zw.1 hs;refine⟨?_,aps _ _⟩;have:=(hgs.2 (nth [] gs (i%4)) (Db (by rw[hgs.1];omega))).1
  grind[m6]
 have D:rD p C W (oi (RW p) gs (RW W)):=⟨⟨T,gl,λs hs=>⟨(hg s hs).1,BX au (hg s hs).2 au au⟩⟩,⟨p2,aa,p5⟩,p3,p4,hwl,b6,λs hs=>(hg s hs).2⟩;refine⟨C,W,_,aiP hgs p3 p4 aa mk,aja p4 h8 hm,D,aa,db,λt ht=>(tk t ht).1,λt ht=>?_,λt ht=>?_,λt ht=>?_⟩
 .grind[amG]
 .grind[YJ]
 .have⟨_,q,d,h⟩:=tk t ht;exact⟨h.l,λz hz=>by have:=h.b z hz;omega,KR (by grind[qq.l]) λz hz=>by grind[qq.b]⟩
theorem ahn{e:List I4}(h:qe gs)(H:Hp)(d:D):bY H [.agg (fO k e Ok gs),.d d]=Wf ([.agg (fO k e Ok gs),.d (norm d)],H):=by
 have:=Gu (k:=k) (e:=e) (Ok:=Ok) h H;simp only[bY]at this ⊢;cases h1:bW H (.agg (fO k e Ok gs))with
 |none=>grind
 | some x=>
  simp_all
theorem Qt{cq:List Q->List Q->Int}{f:Tg->List Q}{l:List Tg}{m:Ms}(hm:m∈ja cq f l):∃j:Nat,j<RW l∧m.i=(j:Int)∧nth fM l j∈l∧m.d=f (nth fM l j):=by
 have h:=(Ff (λx y:Ms=>cq y.d x.d) (gF f 0 l)).mem_iff.mp hm
 grind[Dj,Dk]
variable{p:aw}{c w c' w':Mz}{g g':List (List Q)}
theorem YZ{T:List Tg}(hT:RW T<1000){f f':Tg->List Q}{ck:List Q->List Q->Int}(hd:∀t∈T,mZ p c w g f t)(hd':∀t∈T,mZ p c' w' g' f' t)
  (hc:∀t∈T,∀u∈T,Ds F.iM [ai di p,aW (f t),aW (f' u)] (.tup [I (ck (f t) (f' u)),I 0])) {L1 L2:List Ms} (hS:∀m∈L1,∃j:Nat,j<RW T∧m.i=(j:Int)∧nth fM T j∈T∧m.d=f (nth fM T j)) (hS':∀m∈L2,∃j:Nat,j<RW T∧m.i=(j:Int)∧nth fM T j∈T∧m.d=f' (nth fM T j))
  (hl:RW L1=RW T) {n:Int} (A A':Nat×Bk) (K:KL):∀(q q' a a':List Ms),L1=a++q->L2=a'++q'->RW a=RW a'->RW q=RW q'->n=sV ck q q' ->
  (n=0->K (.exit 0) [] [A,A',(1,.vars (bG p c w g)),(1,.vars (bG p c' w' g'))])->K .ret [B Th] [A,A',(1,.vars (bG p c w g)),(1,.vars (bG p c' w' g'))] ->
  lp (CM DA (.ptr 2 1 0 4) (.ptr 3 1 0 4) (dL T) (I n) (I 0) (ai di (L1.map (·.i))) (ai di (L2.map (·.i)))) [] [A,A',(1,.vars (bG p c w g)),(1,.vars (bG p c' w' g'))] [I (RW a)] [A,A',(1,.vars (bG p c w g)),(1,.vars (bG p c' w' g'))] K
 | [],q',a,a',e,e',h1,h2,en,k0,k1=>by
  have hq:q'=[]:=Zo h2.symm;subst hq;simp only[Zn]at e e';subst e;have l1:bf (dL T)=Wf (I (RW T)):=rfl;have PJ:¬((RW L1:Int)<(RW T:Int)):=aa;apply aL;simp only[CM];simp[l1,PJ];exact k0 en
 |s::q,[],a,a',e,e',h1,h2,en,k0,k1=>by simp at h2
 | s::q,s'::q',a,a',e,e',h1,h2,en,k0,k1=>by
  have⟨j,j1,j2,j3,j4⟩:=hS s ae;have⟨i,i1,i2,i3,i4⟩:=hS' s' ae;have ih:=YZ hT hd hd' hc hS hS' hl (n:=n) A A' K q q' (a++[s]) (a'++[s']) ae ae ae ae;have l1:bf (dL T)=Wf (I (RW T)):=rfl;have PJ:((RW a:Int)<(RW T:Int)):=by rw[<-hl,e];simp;omega
  have ms:L1.map (·.i)=a.map (·.i)++s.i::q.map (·.i):=by rw[e];simp
  have ms':L2.map (·.i)=a'.map (·.i)++s'.i::q'.map (·.i):=by rw[e'];simp
  have x1:∀h:Hp,bq h 1 (ai di (L1.map (·.i))) (I (RW a))=Wf (.dptr ((L1.map (·.i)).map di) (RW a)):=λh=>by
   simp_all
  have x2:∀h:Hp,ld1 h (.dptr ((L1.map (·.i)).map di) (RW a))=Wf (I (j:Int)):=λh=>by
   rw[ms,Yt,Zv];have:=ajs ((a.map (·.i)).map di) (di s.i) ((q.map (·.i)).map di) h (j:=RW a) ac
   simp_all
  have y1:∀h:Hp,bq h 1 (ai di (L2.map (·.i))) (I (RW a))=Wf (.dptr ((L2.map (·.i)).map di) (RW a)):=λh=>by
   simp_all
  have y2:∀h:Hp,ld1 h (.dptr ((L2.map (·.i)).map di) (RW a))=Wf (I (i:Int)):=λh=>by
   simp_all
  have p3:∀(h:Hp)(j:Nat),j<RW T->bq h 3 (dL T) (I (j:Int))=Wf (.dptr (T.flatMap fh) (j*3)):=λh j hj=>kX fh rL _ h (k:=.i64) (i:=(j:Int)) aa aa
  have p4:∀(h:Hp)(j:Nat),j<RW T->aG h 3 (.dptr (T.flatMap fh) (j*3))=Wf (.agg [ai di (nth fM T j).iv,S (nth fM T j).num,S (nth fM T j).den]):=λh j hj=>kV fh rL fM T h (j:=j) hj
  have o1:=GI (hd _ j3);have o2:=GI (hd' _ i3);have cc:=ZT (c:=c) (w:=w) (g:=g) (hc _ j3 _ i3);rw[<-j4]at o1 cc;rw[<-i4]at o2 cc;have tl:∀c w g,RW (bG p c w g)=4:=λc w g=>rfl
  have tt:∀c w g,(bG p c w g).take 4=bG p c w g:=λc w g=>rfl
  have e4:((RW (a++[s]):Nat):Int)=(RW a:Int)+1:=ac;rw[e4]at ih;simp only[sV]at en;have⟨Z,hZ⟩:=bD (L1.map (·.i));have⟨Z',hZ'⟩:=bD (L2.map (·.i));rw[<-hZ]at x1 x2 ih ⊢;rw[<-hZ']at y1 y2 ih ⊢;apply aL;simp only[CM];simp[l1,PJ,tl,tt,x1,x2,p3 _ j j1,p4 _ j j1]
  refine cd (args:=[cG p c w g,.agg [ai di (nth fM T j).iv,S (nth fM T j).num,S (nth fM T j).den]]) o1 ?_ aN;simp[tl,tt,y1,y2,p3 _ i i1,p4 _ i i1];refine cd (args:=[cG p c' w' g',.agg [ai di (nth fM T i).iv,S (nth fM T i).num,S (nth fM T i).den]]) o2 ?_ aN;simp;refine cd (args:=[cG p c w g,aW s.d,aW s'.d]) cc ?_ aN;by_cases hz:ck s.d s'.d=0
  .rw[ip hz]at en;simp(disch:=omega) [hz]
   simp_all
  .rw[iN hz]at en;simp[hz,en];exact k1
theorem ajB{e e':List I4}(hk:k<256)(hb:∀x∈e,lJ x)(hgs:qe gs)(hk':k'<256)(hb':∀x∈e',lJ x)(hgs':qe gs')(hm:∀m∈l,ye m):
  Ds F.Ap [.agg (fO k e Ok gs),.agg (fO k' e' vals' gs'),de mf l] (B Th):=by
 apply af4;have hl:=AI (k:=k) (e:=e) (Ok:=Ok) hgs;have ht:(fO k e Ok gs).take 35=fO k e Ok gs:=Zy aa;have hl':=AI (k:=k') (e:=e') (Ok:=vals') hgs';have ht':(fO k' e' vals' gs').take 35=fO k' e' vals' gs':=Zy aa;have sn1:=Gu (k:=k) (e:=e) (Ok:=Ok) hgs
 have sn2:=Gu (k:=k') (e:=e') (Ok:=vals') hgs';have fi:=alW (k:=k) (e:=e) (Ok:=Ok) (l:=l) hgs;have fi':=WT (k:=k') (e:=e') (Ok:=vals') hgs';simp only[Ap];simp[hl,ht,hl',ht'];refine cd Mi ?_;simp[hl,ht];refine cd fi ?_ (ahn hgs _ _);by_cases hf:RW e<=3∧RW l<=8
 case neg=>
  simp[hf];refine cd Mi ?_;simp
 simp[hf,hl',ht'];refine cd fi' ?_ (sn2 _);by_cases hf':RW e'<=3
 case neg=>
  simp[hf'];refine cd Mi ?_;simp
 have⟨C,W,G,mk,li,BG⟩:=aaL (Ok:=Ok) hk hf.1 hb hgs hf.2 hm;have⟨C',W',G',mk',_,BG'⟩:=aaL (Ok:=vals') hk' hf' hb' hgs' hf.2 hm;generalize fP k=p at *;generalize fP k'=p' at *;have D:=BG.dm;have i6:=D.i6;have lT:=BG.ln;have p4:=D.h4;have p4':=BG'.dm.h4;have s12:=agk (x:=p) (y:=p') aa;have⟨T,hT⟩:=bD (gm p l)
 have cq:∀t∈T,∀u∈T,∃e:Int,Ds F.iM [ai di p,aW (iC p W G t),aW (iC p W G u)] (.tup [I (ou p (iC p W G t) (iC p W G u)),I e]):=λt ht u hu=>by
  grind[Nn,abt.bd]
 rw[<-hT]at BG li lT;have c1:=EW D.tu;have c2:=EW BG'.dm.tu
 obtain ⟨n,er,o1,MT,heq⟩:∃n er:Int,Ds F.yZ [cG p C W G,cG p' C' W' G',dL T] (.tup [I n,I er])∧(p≠p'->n=0∧er=14)∧(p=p'->er=0∧∃S S':List Ms,Ds F.tM [cG p C W G,dL T] (ai di (S.map (·.i)))∧Ds F.tM [cG p' C' W' G',dL T] (ai di (S'.map (·.i))) ∧
   ∀(A A':Nat×Bk)(K:KL),(n=0->K (.exit 0) [] [A,A',(1,.vars (bG p C W G)),(1,.vars (bG p' C' W' G'))])->K .ret [B Th] [A,A',(1,.vars (bG p C W G)),(1,.vars (bG p' C' W' G'))] ->
   lp (CM DA (.ptr 2 1 0 4) (.ptr 3 1 0 4) (dL T) (I n) (I 0) (ai di (S.map (·.i))) (ai di (S'.map (·.i)))) [] [A,A',(1,.vars (bG p C W G)),(1,.vars (bG p' C' W' G'))] [I 0] [A,A',(1,.vars (bG p C W G)),(1,.vars (bG p' C' W' G'))] K):=by
  by_cases hp:p=p'
  .subst hp;rw[<-hT]at BG';have D':=BG'.dm
   have cq':∀t∈T,∀u∈T,∃e:Int,Ds F.iM [ai di p,aW (iC p W' G' t),aW (iC p W' G' u)] (.tup [I (ou p (iC p W' G' t) (iC p W' G' u)),I e]):=λt ht u hu=>
    ⟨0,Nn D (BG'.bd t ht).2 (BG'.bd u hu).2 (BG'.bd t ht).1 (BG'.bd u hu).1⟩
   have s1:=JV D.tu aa BG.tg BG.db BG.ok cq;have s2:=JV D'.tu aa BG.tg BG.db BG'.ok cq';have l1:=Fe (ou p) (iC p W G) T;have l2:=Fe (ou p) (iC p W' G') T;have⟨S,hS⟩:=bD (ja (ou p) (iC p W G) T);have⟨S',hS'⟩:=bD (ja (ou p) (iC p W' G') T)
   have a1:∀m∈S,∃j:Nat,j<RW T∧m.i=(j:Int)∧nth fM T j∈T∧m.d=iC p W G (nth fM T j):=λm hm=>Qt (by rwa [hS]at hm)
   have a2:∀m∈S',∃j:Nat,j<RW T∧m.i=(j:Int)∧nth fM T j∈T∧m.d=iC p W' G' (nth fM T j):=λm hm=>Qt (by rwa [hS']at hm)
   have o4:=SV aa BG.ok cq (YL p);have o5:=SV aa BG'.ok cq' (YL p);rw[<-hS]at s1 l1 o4;rw[<-hS']at s2 l2 o5
   have cc:∀t∈T,∀u∈T,Ds F.iM [ai di p,aW (iC p W G t),aW (iC p W' G' u)] (.tup [I (ou p (iC p W G t) (iC p W' G' u)),I 0]):=λt ht u hu=>
    Nn D (BG.bd t ht).2 (BG'.bd u hu).2 (BG.bd t ht).1 (BG'.bd u hu).1
   refine⟨sV (ou p) S S',0,?_,λh=>absurd rfl h,λ_=>⟨rfl,S,S',o4,o5,λA A' K=>YZ aa BG.ok BG'.ok cc a1 a2 l1 A A' K S S' [] [] rfl rfl rfl aa rfl⟩⟩;refine ZD c1 c2 aa aa (λh=>absurd rfl h) λ_=>⟨ou p,S,S',aa,aa,s1,s2,λs hs t ht=>?_,rfl⟩
   grind
  .exact⟨0,14,ZD c1 c2 aa aa (λ_=>rfl) (λh=>absurd h hp),λ_=>⟨rfl,rfl⟩,λh=>absurd h hp⟩
 have ok1:∀m:Mz,okV (bh m)=Th:=λ_=>rfl
 have ok2:∀m:aw,okV (ai di m)=Th:=λ_=>rfl
 have lJ:∀g:List (List Q),okV (ai bQ g)=Th:=λ_=>rfl
 have⟨A,hA⟩:∃A:Nat×Bk,A=(1,Bk.vars (fO k e Ok gs)):=⟨_,rfl⟩;have⟨A',hA'⟩:∃A:Nat×Bk,A=(1,Bk.vars (fO k' e' vals' gs')):=⟨_,rfl⟩;simp only[cG,bG]at mk mk' o1 heq;simp[hf',hl,ht];refine cd mk ?_ (sn1 _);simp[hl',ht'];refine cd mk' ?_ (sn2 _);rw[<-hA,<-hA'];simp[ok1,ok2,lJ];refine cd li ?_ aN;simp;refine cd (args:=[cG p C W G,cG p' C' W' G',dL T]) o1 ?_ aN
 simp;refine cd s12 ?_ aN;by_cases hp:p=p'
 .obtain⟨rfl,S,S',o4,o5,lo0⟩:=heq hp;subst hp;simp;refine cd (args:=[cG p C W G,dL T]) o4 ?_ aN;simp;refine cd (args:=[cG p C' W' G',dL T]) o5 ?_ aN;simp;refine lo (lo0 _ _ _ (λn0=>?_) ?_)
  .simp[n0]
  .simp
 .obtain⟨rfl,rfl⟩:=MT hp;simp[hp]
open Go.Proofs Go.Proofs.YthjogmhfdpaaaaaGreatDoor
theorem alm:Tryz.prog.globalNamed "internal/strconv.uint64pow10" = Wf gD:=by kernel_rfl
theorem alk:(Tryz.prog.globals[gD]?).map (·.type)=Wf 266:=aJ
theorem acg:Tryz.prog.underlying 266=Wf (.array 20 214):=aJ
theorem acf:Tryz.prog.underlying 214=Wf (.int .u64):=aJ
theorem aow:Tryz.prog.cellsOf 214=1:=aJ
theorem aox:Tryz.prog.cellsOf 266=20:=aJ
mutual
/-- Has a type a shape? -/
def rK(P:pG):Sh->tI->Bool
 | .int k,t=>(match P.underlying t with
  |some (.int k')=>decide (k'=k)
  |_=>SM)&&Nat.beq (P.cellsOf t) 1
 | .bool,t=>(match P.underlying t with
  |some .bool=>Th
  |_=>SM)&&Nat.beq (P.cellsOf t) 1
 | .str,t=>(match P.underlying t with
  |some .string=>Th
  |_=>SM)&&Nat.beq (P.cellsOf t) 1
 | .sl e,t=>(match P.underlying t with
  |some (.slice u)=>Nat.beq (P.cellsOf t) 1&&Nat.blt 0 (P.cellsOf u)&&rK P e u
  |_=>SM)
 | .ar n e,t=>(match P.underlying t with
  |some (.array m u)=>Nat.beq m n&&Nat.beq (P.cellsOf t) (n*P.cellsOf u)&&rK P e u
  |_=>SM)
 | .st fs,t=>(match P.underlying t with
  |some (.struct l)=>zC P fs l.toList 0 (P.cellsOf t)
  |_=>SM)
def zC(P:pG):List Sh->List Field->Nat->Nat->Bool
 |[],l,o,n=>l.isEmpty&&Nat.beq o n
 | s::ss,l,o,n=>(match l with
  |[]=>SM
  |f::r=>Nat.beq f.offset o&&rK P s f.type&&zC P ss r (o+P.cellsOf f.type) n)
end
mutual
theorem Co{P:pG}:∀{s:Sh}{t:tI},rK P s t=Th->nO P s t
 | .int k,t,h=>by
  simp only[rK,Z7]at h;have⟨h1,h2⟩:=h;split at h1
  .rename_i h3;obtain rfl:=of_decide_eq_true h1;exact⟨h3,Zk h2⟩
  .cases h1
 | .bool,t,h=>by
  simp only[rK,Z7]at h;have⟨h1,h2⟩:=h;split at h1
  .rename_i h3;exact⟨h3,Zk h2⟩
  .cases h1
 | .str,t,h=>by
  simp only[rK,Z7]at h;have⟨h1,h2⟩:=h;split at h1
  .rename_i h3;exact⟨h3,Zk h2⟩
  .cases h1
 | .sl e,t,h=>by
  simp only[rK]at h;split at h
  .rename_i u h3;simp only[Z7]at h;have⟨⟨h1,h2⟩,h4⟩:=h;exact⟨u,h3,Zk h1,by have:=h2;simp[Nat.blt]at this;omega,Co h4⟩
  .cases h
 | .ar n e,t,h=>by
  simp only[rK]at h;split at h
  .rename_i m u h3;simp only[Z7]at h;have⟨⟨h1,h2⟩,h4⟩:=h;obtain rfl:=Zk h1;exact⟨u,h3,Zk h2,Co h4⟩
  .cases h
 | .st fs,t,h=>by
  simp only[rK]at h;split at h
  .rename_i l h3;exact⟨l.toList,by rw[h3],Pp h⟩
  .cases h
theorem Pp{P:pG}:∀{ss:List Sh}{l:List Field}{o n:Nat},zC P ss l o n=Th->B7 P ss l o n
 | [],l,o,n,h=>by
  simp only[zC,Z7,List.isEmpty_iff]at h;exact⟨h.1,Zk h.2⟩
 |s::ss,[],o,n,h=>by simp[zC]at h
 | s::ss,f::r,o,n,h=>by
  simp only[zC,Z7]at h;have⟨⟨h1,h2⟩,h3⟩:=h;exact⟨f,r,rfl,Zk h1,Co h2,Pp h3⟩
end
theorem aeP{P:pG}{RC:Nat}{t e:tI}{v:vl}(ht:P.underlying t=Wf (.slice e))(h:vl.okWide P W .any RC t v):∀cs,v≠.agg cs:=by rintro cs rfl;simp only[vl.okWide,ht,Cell.okWide,Cell.ok]at h
theorem wf_u8(h:(Lit.int .u8 n).wf=Th):0<=n∧n<=255:=by simp only[Lit.wf,Z7,dT]at h;exact h
theorem wf_i8(h:(Lit.int .i8 n).wf=Th): -128<=n∧n<=127:=by simp only[Lit.wf,Z7,dT]at h;exact h
def ai9:DataW Unit->vl
 |.lit (.int k n)=>.int k n
 |_=>undef
def JJ:DataW Unit->Array vl
 |.agg l=>(l.map ai9).toArray
 |_=>#[]
def XG:DataW Unit->vl
 |.iface _ (.ptr (.agg [.lit (.string l)]))=>.string ⟨l.toArray⟩
 |_=>undef
def CK(cs:Array vl):Obj->Obj
 |.cells _ t frozen=>.cells cs t frozen
 |o=>o
noncomputable def Mf(os:Os):wO:=
 let w0:=wO.holding Tryz.prog os ⟨#[.cells #[XG Rows.laid_strconv_ErrSyntax] 278,.cells #[XG Rows.laid_strconv_ErrRange] 278],#[],[]⟩
 let low:=(wO.settled Tryz.prog os).heap.size
 {w0 with heap:=((((w0.heap.modify 1 (CK #[.iface 276 (.pointer (Wf ⟨low,0,Vc⟩))])).modify 2 (CK #[.iface 276 (.pointer (Wf ⟨low+1,0,Vc⟩))])).modify 0 (CK (JJ Rows.laid_internal_strconv_uint64pow10))).modify 3 (CK (JJ Rows.laid_math_bits_deBruijn32tab))).modify 4 (CK (JJ Rows.laid_math_bits_deBruijn64tab))}
def QY:Sh:=.ar 4 (.st [.int .i8,.int .u8])
def SD(x:Int×Nat):bF:=[.int .i8 x.1,.int .u8 x.2]
theorem Ee(h:Dat (.st [.int .i8,.int .u8]) ds):∃x:Int×Nat,ds=SD x∧(-128<=x.1∧x.1<=127)∧x.2<256:=by obtain⟨a,b,rfl,⟨n,rfl,hn⟩,a',b',rfl,h2,rfl⟩:=h;obtain⟨m,rfl,hm⟩:=h2;have b1:=wf_i8 hn;have b2:=wf_u8 hm;exact⟨(n,m.toNat),by simp[SD,Int.toNat_of_nonneg b2.1],b1,by simp only;omega⟩
theorem IE(h:Dat QY ds):∃e:List (Int×Nat),SL e∧ds.map V.d=nY e:=by
 obtain⟨xs,rfl,hl,hx⟩:=h
 match xs,hl,hx with
 | [x1,x2,x3,x4],_,hx=>
  obtain⟨a,rfl,ha⟩:=Ee (hx x1 ac);obtain⟨b,rfl,hb⟩:=Ee (hx x2 ac);obtain⟨c,rfl,hc⟩:=Ee (hx x3 ac);obtain⟨d,rfl,hd⟩:=Ee (hx x4 ac);refine⟨[a,b,c,d],⟨rfl,λx hm=>?_⟩,rfl⟩;simp only[Zx,Y3,or_false]at hm;rcases hm with rfl|rfl|rfl|rfl<;>assumption
def Kl:Sh:=.ar 4 (.int .i8)
def Q0:Sh:=.st [.int .u8,.sl Kl,.bool]
theorem ZC(ds:bF)(h:Dat Kl ds):∃x:I4,ds=gQ x∧lJ x:=by
 obtain⟨xs,rfl,hl,hx⟩:=h
 match xs,hl,hx with
 | [x1,x2,x3,x4],_,hx=>
  obtain⟨a,rfl,ha⟩:=hx x1 ac;obtain⟨b,rfl,hb⟩:=hx x2 ac;obtain⟨c,rfl,hc⟩:=hx x3 ac;obtain⟨d,rfl,hd⟩:=hx x4 ac;exact⟨(a,b,c,d),rfl,wf_i8 ha,wf_i8 hb,wf_i8 hc,wf_i8 hd⟩
theorem anI(h:Dat Q0 ds):∃(k:Nat)(e:List I4)(b:Bool),ds=[.int .u8 k,.sl (RW e) (e.flatMap gQ),.bool b]∧k<256∧∀x∈e,lJ x:=by obtain⟨a,b,rfl,⟨n,rfl,hn⟩,a',b',rfl,h2,_,_,rfl,⟨c,rfl⟩,rfl⟩:=h;have h2':=h2;obtain⟨xs,rfl,_⟩:=h2';have hb:=wf_u8 hn;have⟨e,he,hq⟩:=ZB (f:=gQ) lJ ZC h2;exact⟨n.toNat,e,c,by simp only[Zn,List.cons_append,List.nil_append];rw[he,Int.toNat_of_nonneg hb.1],aa,hq⟩
def QZ:Sh:=.st [Q0,.ar 4 QY]
theorem ZA(h:Dat QZ ds):∃(k:Nat)(e:List I4)(b:Bool)(gs:List (List (Int×Nat))),k<256∧(∀x∈e,lJ x)∧qe gs∧ds.map V.d=fO k e b gs:=by
 obtain⟨a,b,rfl,h1,a',b',rfl,h2,rfl⟩:=h;obtain⟨k,e,c,rfl,hk,he⟩:=anI h1;obtain⟨xs,rfl,hl,hx⟩:=h2
 match xs,hl,hx with
 | [x1,x2,x3,x4],_,hx=>
  have⟨g1,o1,e1⟩:=IE (hx x1 ac);have⟨g2,o2,e2⟩:=IE (hx x2 ac);have⟨g3,o3,e3⟩:=IE (hx x3 ac);have⟨g4,o4,e4⟩:=IE (hx x4 ac);refine⟨k,e,c,[g1,g2,g3,g4],hk,he,⟨rfl,λg hg=>?_⟩,?_⟩
  .simp only[Zx,Y3,or_false]at hg;rcases hg with rfl|rfl|rfl|rfl<;>assumption
  .simp only[List.flatten_cons,List.flatten_nil,Zn,Yt,e1,e2,e3,e4,fO,Xy,List.flatMap_nil];rfl
def Kj:Sh:=.st [Kl,.st [.int .i8,.int .u8]]
theorem anK(ds:bF)(h:Dat Kj ds):∃m:Mk,ds=mf m∧ye m:=by obtain⟨a,b,rfl,h1,a',b',rfl,h2,rfl⟩:=h;obtain⟨x,rfl,hx⟩:=ZC _ h1;obtain⟨y,rfl,y1,y2⟩:=Ee h2;exact⟨(x,y.1,y.2),rfl,hx,y1,y2⟩
theorem anJ{d:D}(h:Dat (.sl Kj) [d]):∃l:List Mk,d=.sl (RW l) (l.flatMap mf)∧∀m∈l,ye m:=ZB (f:=mf) ye anK h
end Go.Vm
