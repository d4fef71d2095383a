/- Lemmas. -/
import Derived.Test.YthjogmhfdpaaaabGreatDoorQLcA
import Derived.ProofKit
import Derived.OpenShut
import Derived.Deep.DeepHandedRow
import Derived.Deep.Matrix
import Derived.Lib.LaidTab
import Derived.Test.YthjogmhfdpaaaabGreatDoorTie
import Derived.Test.YthjogmhfdpaaaabGreatDoorCards
set_option linter.unusedVariables false
set_option linter.unusedSimpArgs false
open Option renaming some->Wf,none->Vc
open Bool renaming true->Th,false->SM
open Go renaming Value->vl,World->wO,Program->pG,TypeId->tI
open List renaming replicate->So,length->RW
namespace Go.Vm
open Go Go.Am
variable{b m fuel k:Nat}{x:aw}{a:Addr}{n:Int}{ds:bF}{α:Type}{W W':wO}{Ok:Bool}{gs:List (List (Int×Nat))}{l:List Mk}
mutual
def WD(w:wO):D->vl->Prop
 |.int k n,v=>v=.int k n
 |.bool b,v=>v=.bool b
 |.str s,v=>v=.string ⟨⟨s⟩⟩
 |.pl u,v=>v=u∧plain u=Th∧okCell u=Th
 | .sl len cells,v=>(len=0∧cells=[]∧(v=.slice Vc 0 0∨∃a,v=.slice (Wf a) 0 0)) ∨
   ∃ c o cap n cs e fz,v=.slice (Wf ⟨c,o,Vc⟩) len cap∧len<=cap∧0<n∧RW cells=len*n ∧
    w.heap[c]?=Wf (.cells cs e fz)∧o+RW cells<=cs.size∧je w cells ((cs.toList.drop o).take (RW cells))
def je(w:wO):bF->au->Prop
 |[],l=>l=[]
 |x::xs,l=>∃v vs,l=v::vs∧WD w x v∧je w xs vs
end
structure Ly(w:wO)(φ:bI)(F:Nat->Prop)(H:AH):Prop where
 rel:bB X φ H w
 wf:WF H
 fr:∀c,F c->c<H.n∧∃x,H.get c=Wf x∧x.st=1
 ro:∀c x,H.get c=Wf x->x.wr=SM
 top:∀b p,φ b=Wf p->b<H.n
 pg:∃p,φ gB=Wf p
structure kP(φ:bI)(F:Nat->Prop)(H:AH)(φ':bI)(F':Nat->Prop)(H':AH):Prop where
 n:H.n<=H'.n
 le:gJ φ φ'
 fm:∀c,F c->F' c
 keep:∀c,c<H.n->H'.get c=H.get c
theorem kP.refl(φ:bI)(F:Nat->Prop)(H:AH):kP φ F H φ F H:=⟨Z8 _,gJ.refl _,λ_ h=>h,λ_ _=>rfl⟩
theorem kP.trans{φ φ1 φ2:bI}{F F1 F2:Nat->Prop}{H H1 H2:AH}(a:kP φ F H φ1 F1 H1)(b:kP φ1 F1 H1 φ2 F2 H2):kP φ F H φ2 F2 H2:=
 ⟨Z1 a.n b.n,a.le.trans b.le,λc h=>b.fm c (a.fm c h),λc h=>by rw[b.keep c (Z0 h a.n),a.keep c h]⟩
theorem kP.leF{φ φ':bI}{F F':Nat->Prop}{H H':AH}{w:wO}(L:Ly w φ F H)(a:kP φ F H φ' F' H'):gK F F' H H':=
 ⟨a.fm,λc hc=>a.keep c (L.fr c hc).1,λc x hx h0=>⟨x,by grind[keep,AH.get_lt],h0⟩⟩
def og(b n:Nat)(cells:au):bv:={cells,st:=1,wr:=SM,fam:=b,start:=0,shared:=SM,exact:=Th,esz:=n,ver:=1}
theorem Ly.push{w:wO}{φ:bI}{F:Nat->Prop}{H:AH}(L:Ly w φ F H){c o n:Nat}{us vs:au}{cs:Array vl}{e:tI}{fz:Nat×Nat}(hh:w.heap[c]?=Wf (.cells cs e fz))
  (Rg:RW us=RW vs) (ho:o+RW us<=cs.size) (hvs:vs=(cs.toList.drop o).take (RW us)) (hr:aE φ us vs) :
  Ly w (nS φ H.n ⟨c,o,RW us,n,cs.size,Th⟩) (λx=>F x∨x=H.n) (H.push (og H.n n us)) ∧
  kP φ F H (nS φ H.n ⟨c,o,RW us,n,cs.size,Th⟩) (λx=>F x∨x=H.n) (H.push (og H.n n us)):=by
 have hnone:φ H.n=Vc:=by
  cases hq:φ H.n with
  |none=>rfl
  |some p=>have:=L.top _ p hq;omega
 have Fm:gJ φ (nS φ H.n ⟨c,o,RW us,n,cs.size,Th⟩):=gJ.add hnone;have hn:(H.push (og H.n n us)).n=H.n+1:=rfl;have old:∀b,b<H.n->(H.push (og H.n n us)).get b=H.get b:=λb hb=>AH.get_push aa
 have new:(H.push (og H.n n us)).get H.n=Wf (og H.n n us):=AH.get_push_new H _
 have ro:∀b x,(H.push (og H.n n us)).get b=Wf x->x.wr=SM:=λb x hx=>by
  rcases Zi b H.n with h|h
  .grind[ro]
  .have hb:b=H.n:=by have:=AH.get_lt hx;omega
   subst hb;rw[new]at hx;cases hx;rfl
 refine ⟨⟨⟨λg hg=>?_,λb p hp=>?_,λb p x i v hp hx h1 hv=>?_,λb p x i hp hx h1 hi=>?_,λb b' p p' x x' _ _ hx hx' _ _ _ _=>.inl ⟨ro b x hx,ro b' x' hx'⟩⟩,?_,λb hb=>?_,ro,λb p hp=>?_,L.pg.imp λp hp=>Fm _ p hp⟩,
  ⟨aa,Fm,λx h=>.inl h,old⟩⟩
 .have⟨p,hp,h1⟩:=L.rel.glob g hg;exact⟨p,Fm g p hp,h1⟩
 .by_cases hb:b=H.n
  .subst hb;rw[kL]at hp;cases hp;exact⟨_,cs,e,fz,new,by simp[og],rfl,rfl,rfl,hh,rfl,ho⟩
  .rw[jF hb]at hp;have⟨x,r⟩:=L.rel.dom b p hp
   grind[top]
 .by_cases hb:b=H.n
  .subst hb;rw[kL]at hp;cases hp;rw[new]at hx;cases hx;have⟨v',h1,h2⟩:=hr.at (i:=i) hv
   grind[aC.mono,cell_of_heap]
  .rw[jF hb]at hp;rw[old b (L.top b p hp)]at hx;have⟨v',h2,h3⟩:=L.rel.cell b p x i v hp hx h1 hv
   grind[aC.mono]
 .grind
 .refine⟨by simp[AH.push,L.wf.len],λb x hx=>?_⟩;rcases Zi b H.n with h|h
  .rw[old b h]at hx;exact L.wf.fam b x hx
  .have hb:b=H.n:=by have:=AH.get_lt hx;omega
   subst hb;rw[new]at hx;cases hx;trivial
 .rcases hb with hb|rfl
  .have⟨h1,x,h2,h3⟩:=L.fr b hb;exact⟨aa,x,ae,h3⟩
  .exact⟨aa,_,new,rfl⟩
 .by_cases hb:b=H.n
  .omega
  .rw[jF hb]at hp;have:=L.top b p hp;omega
mutual
theorem lay{w:wO}:∀(d:D)(v:vl){φ:bI}{F:Nat->Prop}{H:AH},Ly w φ F H->WD w d v ->
  ∃φ' F' H' u,Ly w φ' F' H'∧kP φ F H φ' F' H'∧aC φ' u v∧RD F' H' d u
 |.int k n,v,φ,F,H,L,h=>⟨φ,F,H,v,L,kP.refl ..,by simp only[WD]at h;subst h;rfl,h⟩
 |.bool b,v,φ,F,H,L,h=>⟨φ,F,H,v,L,kP.refl ..,by simp only[WD]at h;subst h;rfl,h⟩
 |.str s,v,φ,F,H,L,h=>⟨φ,F,H,v,L,kP.refl ..,by simp only[WD]at h;subst h;rfl,h⟩
 |.pl u,v,φ,F,H,L,h=>⟨φ,F,H,v,L,kP.refl ..,by grind[WD,aC.of_plain],h⟩
 | .sl len cells,v,φ,F,H,L,h=>by
  simp only[WD]at h;rcases h with⟨rfl,rfl,rfl|⟨a,rfl⟩⟩|⟨c,o,cap,n,cs,e,fz,rfl,hlc,hn,Rg,hh,ho,hds⟩
  .exact⟨φ,F,H,.slice Vc 0 0,L,kP.refl ..,rfl,.inl ⟨rfl,rfl,.inl rfl⟩⟩
  .have⟨p,hp⟩:=L.pg;have⟨x,_,_,_,hx,h0,_⟩:=L.rel.dom _ _ hp;exact⟨φ,F,H,.slice (Wf ⟨gB,0,Vc⟩) 0 0,L,kP.refl ..,⟨a,0,rfl,.inr ⟨rfl,rfl,rfl,rfl,p,hp⟩⟩,.inl ⟨rfl,rfl,.inr ⟨_,_,_,rfl,x,hx,h0⟩⟩⟩
  .obtain⟨φ1,F1,H1,us,L1,E1,r1,d1⟩:=lays cells _ L hds;have hl:RW us=RW cells:=by have:=d1.length;omega
   have⟨L2,E2⟩:=L1.push (us:=us) (n:=n) (o:=o) hh ae aa (by rw[hl]) r1;refine⟨_,_,_,.slice (Wf ⟨H1.n,0,Vc⟩) len cap,L2,E1.trans E2,?_,?_⟩
   .refine⟨⟨c,o,Vc⟩,cap,rfl,.inl ⟨rfl,rfl,_,kL ..,rfl,rfl,.inl rfl⟩⟩
   .have new:(H1.push (og H1.n n us)).get H1.n=Wf (og H1.n n us):=AH.get_push_new H1 _;by_cases h0:len=0
    .subst h0;exact .inl ⟨rfl,Zn aa,.inr ⟨_,_,_,rfl,_,new,by simp[og]⟩⟩
    .refine .inr ⟨H1.n,0,cap,us,n,rfl,aa,hlc,hn,Rg,.inr rfl,?_,bj.mono (E2.leF L1) _ _ d1,_,new,.inl rfl⟩;rw[oY new rfl (by show 0+RW cells<=RW us;omega)]
     show Wf ((us.drop 0).take (RW cells))=_
     grind
theorem lays{w:wO}:∀(ds:bF)(vs:au){φ:bI}{F:Nat->Prop}{H:AH},Ly w φ F H->je w ds vs ->
  ∃φ' F' H' us,Ly w φ' F' H'∧kP φ F H φ' F' H'∧aE φ' us vs∧bj F' H' ds us
 |[],vs,φ,F,H,L,h=>⟨φ,F,H,[],L,kP.refl ..,cU,rfl⟩
 | d::ds,vs,φ,F,H,L,h=>by
  simp only[je]at h;obtain⟨v,vs,rfl,h1,h2⟩:=h;obtain⟨φ1,F1,H1,u,L1,E1,r1,d1⟩:=lay d v L h1;obtain⟨φ2,F2,H2,us,L2,E2,r2,d2⟩:=lays ds vs L1 h2;exact⟨φ2,F2,H2,u::us,L2,E1.trans E2,⟨v,vs,rfl,aC.mono E2.le u v r1,r2⟩,⟨u,us,rfl,RD.mono (E2.leF L1) _ _ d1,d2⟩⟩
end
def GC:Nat->List bv
 |0=>[]
 |n+1=>pP::GC n
theorem S5:∀(n i:Nat)(x:bv),(GC n)[i]?=Wf x->x=pP
 |0,_,_,h=>by trivial
 |n+1,0,x,h=>by grind[GC]
 |n+1,i+1,x,h=>S5 n i x cU
def o7:au:=[.int .u64 1,.int .u64 10,.int .u64 100,.int .u64 1000,.int .u64 10000,.int .u64 100000,.int .u64 1000000,.int .u64 10000000,.int .u64 100000000,.int .u64 1000000000,.int .u64 10000000000,.int .u64 100000000000,
 .int .u64 1000000000000,.int .u64 10000000000000,.int .u64 100000000000000,.int .u64 1000000000000000,.int .u64 10000000000000000,.int .u64 100000000000000000,.int .u64 1000000000000000000,.int .u64 10000000000000000000]
def Jl(w:wO):Prop:=∃cs e fz,w.heap[gB]?=Wf (.cells cs e fz)∧20<=cs.size∧o7=cs.toList.take 20
def Jo:AH:=⟨gB,GC gB⟩
theorem aqq{x:bv}(h:Jo.get b=Wf x):x=pP:=by
 unfold AH.get at h;split at h
 .exact S5 _ _ _ h
 .trivial
theorem start{w:wO}(hp:Jl w):∃φ F H,Ly w φ F H∧lJ Y F H:=by
 have⟨cs,e,fz,hh,hsz,hcs⟩:=hp
 let φ:bI:=λb=>if b=gB then Wf ⟨gB,0,20,1,cs.size,Th⟩else Vc
 let H:AH:=Jo.push (og gB 1 o7)
 have hn:H.n=gB+1:=rfl;have new:H.get gB=Wf (og gB 1 o7):=AH.get_push_new Jo _
 have old:∀{b x},b≠gB->H.get b=Wf x->x=pP:=λ{b x} hb hx=>by
  grind[Jo,AH.get_push,aqq]
 have hφ:∀{b p},φ b=Wf p->b=gB∧p=⟨gB,0,20,1,cs.size,Th⟩:=λ{b p} h=>by
  grind
 have ro:∀b x,H.get b=Wf x->x.wr=SM:=λb x hx=>by
  by_cases hb:b=gB
  .subst hb;rw[new]at hx;cases hx;rfl
  .rw[old hb hx];rfl
 have L:Ly w φ (· = gB) H:=by
  refine⟨⟨λg hg=>?_,λb p hp=>?_,λb p x i v hp hx h1 hv=>?_,λb p x i hp hx h1 hi=>?_,λb b' p p' x x' _ _ hx hx' _ _ _ _=>.inl ⟨ro b x hx,ro b' x' hx'⟩⟩,?_,?_,ro,λb p hp=>?_,⟨⟨gB,0,20,1,cs.size,Th⟩,aM⟩⟩
  .have:g=gB:=by simpa[X]using hg
   exact⟨⟨gB,0,20,1,cs.size,Th⟩,ae,this.symm,rfl⟩
  .grind[og]
  .obtain⟨rfl,rfl⟩:=hφ hp;rw[new]at hx;cases hx;have hv':o7[i]?=Wf v:=hv;refine⟨v,?_,?_⟩
   .grind[cell_of_heap]
   .have hm:v∈o7:=Ya hv';have:o7.all plain=Th:=rfl
    grind[aC.of_plain]
  .grind
  .refine⟨aM,λb x hx=>?_⟩;by_cases hb:b=gB
   .subst hb;rw[new]at hx;cases hx;trivial
   .rw[old hb hx];exact Zb _
  .rintro c rfl;exact⟨aa,_,new,rfl⟩
  .grind
 refine⟨φ,_,H,L,λg L7 hg=>?_⟩
 have hgp:g=gB∧L7=vX:=by
  simp only[Y]at hg;split at hg
  .simp_all
  .cases hg
 obtain⟨rfl,rfl⟩:=hgp;refine⟨Xs _,rfl,⟨_,new,rfl,am⟩,o7,?_,?_⟩
 .rfl
 simp[vX,o7,bj,RD]
open Go.ChangeShapes Go.WideShapes Go.ChangeAt Go.RowKit
variable{HH:Type}{enc:tI×vl->HH}{P:pG}{w:wO}{RC:Nat}{held:Bool}
theorem aaA{v:vl}(h:w.cell? a=Wf v):∃cs e fz,w.heap[a.block]?=Wf (.cells cs e fz)∧a.spot=Vc∧cs[a.off]?=Wf v:=by
 unfold wO.cell? at h;split at h
 .rename_i c e fz hc;split at h
  .cases h
  .rename_i hs;refine⟨c,e,fz,hc,?_,h⟩;cases hq:a.spot with
   |none=>rfl
   |some s=>rw[hq]at hs;simp at hs
 .cases h
theorem addr_add(a:Addr)(hs:a.spot=Vc)(i:Nat):a.add i=⟨a.block,a.off+i,Vc⟩:=by
 unfold Addr.add;split
 .rename_i h;subst h;cases a;simp at hs ⊢;exact hs
 .rfl
theorem aaz{vs:au}(h:∀i v,vs[i]?=Wf v->w.cell? (a.add i)=Wf v)(hp:0<RW vs):
  ∃cs e fz,w.heap[a.block]?=Wf (.cells cs e fz)∧a.spot=Vc∧a.off+RW vs<=cs.size∧vs=(cs.toList.drop a.off).take (RW vs):=by
 have⟨v0,h0⟩:∃v,vs[0]?=Wf v:=⟨vs[0],by simp[hp]⟩;have⟨cs,e,fz,hc,hs,_⟩:=aaA (h 0 v0 h0);have ha0:a.add 0=a:=by unfold Addr.add;simp
 rw[ha0]at hc hs
 have Fr:∀i v,vs[i]?=Wf v->cs[a.off+i]?=Wf v:=λi v hv=>by
  have⟨L7,e',fz',hc',_,hv'⟩:=aaA (h i v hv);rw[addr_add a hs]at hc' hv';simp only at hc' hv';rw[hc]at hc';cases hc';exact hv'
 have Fm:a.off+RW vs<=cs.size:=by
  have hl:=Fr (RW vs-1) vs[RW vs-1] (by rw[List.getElem?_eq_getElem]);have:=(Array.getElem?_eq_some_iff.1 hl).1;omega
 refine⟨cs,e,fz,hc,hs,Fm,?_⟩;apply Ye;intro i;by_cases hi:i<RW vs
 .rw[List.getElem?_take_of_lt hi,List.getElem?_drop];have:=Fr i vs[i] (by rw[List.getElem?_eq_getElem hi]);rw[List.getElem?_eq_getElem hi];simpa using this.symm
 .rw[List.getElem?_eq_none aa,List.getElem?_eq_none dG]
inductive Sh where
 |int (k:IntKind)
 |bool
 |str
 |sl (e:Sh)
 |ar (n:Nat) (e:Sh)
 |st (fs:List Sh)
variable{s:Sh}
mutual
/-- A type has a shape. -/
def nV(P:pG):Sh->tI->Prop
 |.int k,t=>P.underlying t=Wf (.int k)∧P.cellsOf t=1
 |.bool,t=>P.underlying t=Wf .bool∧P.cellsOf t=1
 |.str,t=>P.underlying t=Wf .string∧P.cellsOf t=1
 |.sl e,t=>∃u,P.underlying t=Wf (.slice u)∧P.cellsOf t=1∧0<P.cellsOf u∧nV P e u
 |.ar n e,t=>∃u,P.underlying t=Wf (.array n u)∧P.cellsOf t=n*P.cellsOf u∧nV P e u
 |.st fs,t=>∃l:List Field,P.underlying t=Wf (.struct l.toArray)∧Ch P fs l 0 (P.cellsOf t)
def Ch(P:pG):List Sh->List Field->Nat->Nat->Prop
 |[],l,o,n=>l=[]∧o=n
 |s::ss,l,o,n=>∃f r,l=f::r∧f.offset=o∧nV P s f.type∧Ch P ss r (o+P.cellsOf f.type) n
end
mutual
/-- Cells of a shape. -/
def Dat:Sh->bF->Prop
 |.int k,ds=>∃n,ds=[.int k n]∧(Lit.int k n).wf=Th
 |.bool,ds=>∃b,ds=[.bool b]
 |.str,ds=>∃s:bA,ds=[.str s]∧RW s<=maxLen
 |.sl e,ds=>∃xs:List bF,ds=[.sl (RW xs) xs.flatten]∧∀x∈xs,Dat e x
 |.ar n e,ds=>∃xs:List bF,ds=xs.flatten∧RW xs=n∧∀x∈xs,Dat e x
 |.st ss,ds=>O4 ss ds
def O4:List Sh->bF->Prop
 |[],ds=>ds=[]
 |s::ss,ds=>∃a b,ds=a++b∧Dat s a∧O4 ss b
end
theorem je.append:∀{a b:bF}{u v:au},je w a u->je w b v->je w (a++b) (u++v)
 |[],b,u,v,h,h2=>by grind[je]
 | x::a,b,u,v,h,h2=>by
  simp only[je]at h;obtain⟨y,u,rfl,h0,h1⟩:=h;exact⟨y,u++v,rfl,h0,h1.append h2⟩
theorem je.len:∀{a:bF}{u:au},je w a u->RW a=RW u
 |[],u,h=>by grind[je]
 | x::a,u,h=>by
  simp only[je]at h;obtain⟨y,u,rfl,_,h1⟩:=h;simp[h1.len]
theorem Gm{α:Type}(C:Nat->List α)(n:Nat):∀m,(∀i,i<m->RW (C i)=n)->RW ((List.range m).flatMap C)=m*n∧∀i j,i<m->j<n->((List.range m).flatMap C)[i*n+j]?=(C i)[j]?
 |0,_=>⟨ac,λi j hi=>by omega⟩
 | m+1,h=>by
  have⟨h1,h2⟩:=Gm C n m λi hi=>h i aa
  have e:(List.range (m+1)).flatMap C=(List.range m).flatMap C++C m:=by simp[Wu]
  rw[e];refine⟨by rw[List.length_append,h1,h m aa,X3],λi j hi hj=>?_⟩;by_cases him:i<m
  .rw[List.getElem?_append_left,h2 i j him hj];rw[h1]
   calc i*n+j<i*n+n:=aa
    _=(i+1)*n:=by rw[X3]
    _<=m*n:=Zu n him
  .obtain rfl:i=m:=aa
   simp_all
theorem Jz(C:Nat->au)(X:Nat->bF):∀m,(∀i,i<m->je w (X i) (C i))->je w ((List.range m).flatMap X) ((List.range m).flatMap C)
 |0,_=>rfl
 | m+1,h=>by
  simp only[Wu,Yx,Xy,List.flatMap_nil,Zo];exact(Jz C X m λi hi=>h i aa).append (h m aa)
theorem ace{len cap n:Nat}{vs:au}(hn:0<n)(hl:len<=cap)(Rg:RW vs=cap*n)(h:∀i v,vs[i]?=Wf v->w.cell? (a.add i)=Wf v)(hd:je w ds (vs.take (len*n)))(hds:RW ds=len*n):WD w (.sl len ds) (.slice (Wf a) len cap):=by
 simp only[WD];by_cases h0:cap=0
 .have e:len=0:=aa
  simp_all
 .have hpos:0<RW vs:=by rw[Rg];exact Yk aa hn
  have hle2:len*n<=RW vs:=by rw[Rg];exact Zu n hl
  have⟨cs,e,fz,hc,hs,Fm,hvs⟩:=aaz h hpos;refine .inr ⟨a.block,a.off,cap,n,cs,e,fz,?_,hl,hn,hds,hc,aa,?_⟩
  .cases a;grind
  grind
def EF(enc:tI×vl->HH)(P:pG)(w:wO)(RC:Nat)(held:Bool)(s:Sh):Prop:=
 ∀(t:tI)(fuel:Nat)(cs:au)(x:DataW HH×List MemPlace),nV P s t->DataW.trod enc P w RC (λ_=>Th) held fuel t cs=Wf x->RW cs=P.cellsOf t∧∃ds,Dat s ds∧je w ds cs
theorem Oc[Inhabited α]{p:Nat->α->Prop}(h:∀i,i<m->∃x,p i x):∃f:Nat->α,∀i,i<m->p i (f i):=
 ⟨λi=>if hi:i<m then Classical.choose (h i hi)else default,λi hi=>by
  grind⟩
theorem ah5(ih:EF enc P w RC held s):EF enc P w RC held (.sl s):=by
 intro t fuel cs x ht h;simp only[nV]at ht;have⟨u,hu,hc1,hcu,hs⟩:=ht;rcases Deep.open_slice hu h with⟨rfl,_⟩|⟨a,len,cap,m,n,Dd,Pl,rfl,_,hlc,_,hm,_,hx⟩
 .exact⟨ae,[.sl 0 []],⟨[],rfl,λx hx=>by cases hx⟩,_,_,rfl,.inl ⟨rfl,rfl,.inl rfl⟩,rfl⟩
 .simp only[iT]at hm;subst hm;have⟨C,hC⟩:=Oc (α:=au) hx
  obtain ⟨E,hE⟩:=Oc (α:=bF) (p:=λi e=>Dat s e∧je w e (C i)) (m:=m) λi hi=>by
   have⟨_,ds,h1,h2⟩:=ih _ _ _ _ hs (hC i hi).2
   grind
  have hCl:∀i,i<m->RW (C i)=P.cellsOf u:=λi hi=>(wO.cells?_some (hC i hi).1).2.1
  have⟨hl1,hl2⟩:=Gm C (P.cellsOf u) m hCl;have hEl:∀i,i<m->RW (E i)=P.cellsOf u:=λi hi=>by rw[(hE i hi).2.len,hCl i hi]
  refine⟨ae,[.sl (RW ((List.range len).map E)) ((List.range len).map E).flatten],⟨_,rfl,λx hx=>?_⟩,_,_,rfl,?_,rfl⟩
  .simp only[Zw,Xi]at hx;obtain⟨i,hi,rfl⟩:=hx;exact(hE i aa).1
  .rw[List.length_map,List.length_range,<-List.flatMap_def];refine ace (vs:=(List.range m).flatMap C) hcu hlc hl1 (λi v hv=>?_) ?_ (Gm E (P.cellsOf u) len λi hi=>hEl i aa).1
   .have hi:=(List.getElem?_eq_some_iff.1 hv).1;rw[hl1]at hi;have hdm:=Xo i (P.cellsOf u);have hmod:=Y7 i hcu;have hdiv:i/P.cellsOf u<m:=Wm ae;have e:i=i/P.cellsOf u*P.cellsOf u+i%P.cellsOf u:=by rw[Zq];exact hdm.symm
    have:=(wO.cells?_some (hC _ hdiv).1).2.2 (i%P.cellsOf u) hmod
    grind[Addr.add_add]
   ·have e:((List.range m).flatMap C).take (len*P.cellsOf u)=(List.range len).flatMap C:=by
     have e1:List.range m=List.range len++(List.range (m-len)).map (len + ·):=by
      conv=>lhs;rw[show m=len+(m-len) by omega,List.range_add]
     rw[e1,Yx,X7];exact(Gm C (P.cellsOf u) len λi hi=>hCl i aa).1
    rw[e];exact Jz C E len λi hi=>(hE i aa).2
theorem ah6{n:Nat}(ih:EF enc P w RC held s):EF enc P w RC held (.ar n s):=by
 intro t fuel cs x ht h;simp only[nV]at ht;have⟨u,hu,hct,hs⟩:=ht;have⟨xs,m,_,_,hl,hxl,hx⟩:=DataW.trod_array hu h
 let C:Nat->au:=λi=>(cs.drop (i*P.cellsOf u)).take (P.cellsOf u)
 obtain ⟨E,hE⟩:=Oc (α:=bF) (p:=λi e=>Dat s e∧je w e (C i)) (m:=n) λi hi=>by
  have:=hx i hi;rw[List.getElem?_eq_getElem aa]at this;have⟨_,ds,h1,h2⟩:=ih _ _ _ _ hs this
  grind
 refine⟨hl,((List.range n).map E).flatten,⟨_,rfl,ac,λx hx=>?_⟩,?_⟩
 .grind
 .rw[<-List.flatMap_def]
  have e:∀m,m<=n->cs.take (m*P.cellsOf u)=(List.range m).flatMap C:=by
   intro m
   induction m with
   |zero=>simp
   | succ m ihm=>
    intro hm;rw[X3,List.take_add,ihm aa];simp[Wu,C]
  have:=e n (Z8 _);rw[Zx aa]at this
  grind[Jz]
mutual
theorem opn:∀s:Sh,EF enc P w RC held s
 | .int k=>by
  intro t fuel cs x ht h;simp only[nV]at ht;obtain⟨n,rfl,_,hw⟩:=DataW.trod_int ht.1 h;exact⟨ae,[.int k n],⟨n,rfl,hw⟩,_,_,rfl,rfl,rfl⟩
 | .bool=>by
  intro t fuel cs x ht h;simp only[nV]at ht;obtain⟨b,rfl,_⟩:=DataW.trod_bool ht.1 h;exact⟨ae,[.bool b],⟨b,rfl⟩,_,_,rfl,rfl,rfl⟩
 | .str=>by
  intro t fuel cs x ht h;simp only[nV]at ht;obtain⟨s,rfl,_,hs⟩:=DataW.trod_string ht.1 h;exact⟨ae,[.str s.data.toList],⟨_,rfl,cU⟩,_,_,rfl,rfl,rfl⟩
 |.sl e=>ah5 (opn e)
 |.ar n e=>ah6 (opn e)
 | .st ss=>by
  intro t fuel cs x ht h;simp only[nV]at ht;have⟨l,hu,hl⟩:=ht;have⟨xs,m,_,_,hcl,hxl,hx⟩:=DataW.trod_struct hu h;refine⟨hcl,?_⟩
  have:=Tl ss (l:=l) (o:=0) (n:=P.cellsOf t) (fuel:=m) (cs:=cs) hl hcl λf hf=>by
   have⟨i,hi⟩:=List.getElem?_of_mem hf;have h1:=hx i f ae
   grind
  trivial
theorem Tl:∀(ss:List Sh){l:List Field}{o n fuel:Nat}{cs:au},Ch P ss l o n->RW cs=n ->
  (∀f∈l,∃x,DataW.trod enc P w RC (λ_=>Th) held fuel f.type ((cs.drop f.offset).take (P.cellsOf f.type))=Wf x)->∃ds,O4 ss ds∧je w ds (cs.drop o)
 | [],l,o,n,fuel,cs,ht,hl,h=>by
  simp only[Ch]at ht;refine⟨[],rfl,?_⟩;rw[Y9 aa];rfl
 | s::ss,l,o,n,fuel,cs,ht,hl,h=>by
  simp only[Ch]at ht;obtain⟨f,r,rfl,rfl,h1,h2⟩:=ht;have⟨x,hx⟩:=h f ac;have⟨_,a,ha,wa⟩:=opn s _ _ _ _ h1 hx;have⟨b,hb,wb⟩:=Tl ss h2 hl λg hg=>h g ae
  refine⟨a++b,⟨a,b,rfl,ha,hb⟩,?_⟩
  have e:cs.drop f.offset=(cs.drop f.offset).take (P.cellsOf f.type)++cs.drop (f.offset+P.cellsOf f.type):=by
   rw[<-List.drop_drop,Xu]
  grind[je.append]
end
inductive Ar where
 |one (x:D)
 |many (xs:bF)
def Ar.v:Ar->V
 |.one x=>.d x
 |.many xs=>.agg (xs.map .d)
def WA(w:wO):Ar->vl->Prop
 |.one x,v=>WD w x v
 |.many xs,v=>∃ws,v=.agg ⟨ws⟩∧je w xs ws
def EB(w:wO):List Ar->au->Prop
 |[],l=>l=[]
 |x::xs,l=>∃v vs,l=v::vs∧WA w x v∧EB w xs vs
theorem Rx{F1:Nat->Prop}{H1:AH}(φ0:ax)(h0:Hp):∀(ds:bF)(us:au),bj F1 H1 ds us->aK φ0 F1 H1 h0 (ds.map .d) us
 |[],us,h=>by trivial
 | d::ds,us,h=>by
  simp only[bj]at h;obtain⟨u,us,rfl,h1,h2⟩:=h;exact⟨u,us,rfl,h1,Rx φ0 h0 ds us h2⟩
def RAs(F:Nat->Prop)(H:AH)(rs:List Ar)(us:au):Prop:=∀φ0 h0,aK φ0 F H h0 (rs.map Ar.v) us
theorem Ml:∀(rs:List Ar)(vs:au){φ:bI}{F:Nat->Prop}{H:AH},Ly w φ F H->EB w rs vs ->
  ∃φ' F' H' us,Ly w φ' F' H'∧kP φ F H φ' F' H'∧aE φ' us vs∧RAs F' H' rs us
 |[],vs,φ,F,H,L,h=>⟨φ,F,H,[],L,kP.refl ..,cU,λ_ _=>rfl⟩
 | .one x::rs,vs,φ,F,H,L,h=>by
  simp only[EB,WA]at h;obtain⟨v,vs,rfl,h1,h2⟩:=h;obtain⟨φ1,F1,H1,u,L1,E1,r1,d1⟩:=lay x v L h1;obtain⟨φ2,F2,H2,us,L2,E2,r2,d2⟩:=Ml rs vs L1 h2;exact⟨φ2,F2,H2,u::us,L2,E1.trans E2,⟨v,vs,rfl,aC.mono E2.le u v r1,r2⟩,λφ0 h0=>⟨u,us,rfl,RD.mono (E2.leF L1) _ _ d1,d2 φ0 h0⟩⟩
 | .many xs::rs,vs,φ,F,H,L,h=>by
  simp only[EB,WA]at h;obtain⟨v,vs,rfl,⟨ws,rfl,h1⟩,h2⟩:=h;obtain⟨φ1,F1,H1,us1,L1,E1,r1,d1⟩:=lays xs ws L h1;obtain⟨φ2,F2,H2,us,L2,E2,r2,d2⟩:=Ml rs vs L1 h2;exact⟨φ2,F2,H2,.agg ⟨us1⟩::us,L2,E1.trans E2,⟨_,vs,rfl,⟨ws,rfl,aE.mono E2.le _ _ r1⟩,r2⟩,λφ0 h0=>⟨_,us,rfl,⟨us1,rfl,Rx φ0 h0 _ _ (bj.mono (E2.leF L1) _ _ d1)⟩,d2 φ0 h0⟩⟩
theorem ao3{f:FuncId}{rs:List Ar}{vs:au}{b:Bool}{w:wO}(hc:CP Y f (rs.map Ar.v) (.d (.bool b)))(hw:EB w rs vs)(hp:Jl w)(h0:∀u,Y.X.orc f u=Vc:=by exact λ_=>rfl):
  Calls X.P f vs.toArray w λe w'=>e=.returned (.bool b)∧w'.os=w.os∧w'.output=w.output∧w.heap.size<=w'.heap.size∧∀c,c<w.heap.size->w'.heap[c]?=w.heap[c]?:=by
 obtain⟨φ,F,H,L,g⟩:=start hp;obtain⟨φ1,F1,H1,us,L1,E1,r1,d1⟩:=Ml rs vs L hw;have⟨n,wv,H2,F2,hcall,hn,_,_,_,_,_,_,_,hr⟩:=aqr vOk hc F1 H1 us L1.wf L1.fr (g.mono (E1.leF L)) d1
 have hv:wv=.bool b:=by
  have:=hr [] [];simpa only[RV,RD]using this
 subst hv;refine(ao2 aie hcall L1.rel (GS:=vs.toArray) r1 h0).mono ?_;rintro e w' ⟨φ',v',rfl,h1,h2,h3,h4⟩;have hv':v'=.bool b:=(aC.of_plain (.bool b) rfl v').1 h1;subst hv';refine⟨rfl,h3.os,h3.out,h3.size,λc hc=>h3.frame c hc ?_⟩;rintro⟨b',p,x,_,_,hx,_,hwr⟩
 grind[Ly.ro]
theorem acg{t:tI}{v:vl}{x:DataW HH×List MemPlace}(ht:nV P s t)(hc:P.cellsOf t=1)(h:DataW.trod enc P w RC (λ_=>Th) held fuel t v.cells.toList=Wf x)(hv:∀cs,v≠.agg cs):
  ∃d,Dat s [d]∧WA w (.one d) v:=by
 have⟨hl,ds,h1,h2⟩:=opn s _ _ _ _ ht h
 have hcl:v.cells.toList=[v]:=by
  cases v<;>first|rfl|grind
 rw[hcl]at h2;have:=h2.len;obtain⟨d,rfl⟩:∃d,ds=[d]:=List.length_eq_one_iff.1 this;simp only[je]at h2;have⟨v',vs',e,h2,_⟩:=h2;simp only[List.cons.injEq]at e;obtain⟨rfl,_⟩:=e;exact⟨d,h1,h2⟩
theorem ach{t:tI}{v:vl}{x:DataW HH×List MemPlace}(ht:nV P s t)(h:DataW.trod enc P w RC (λ_=>Th) held fuel t v.cells.toList=Wf x)(hv:∃cs,v=.agg cs):
  ∃ds,Dat s ds∧WA w (.many ds) v:=by have⟨hl,ds,h1,h2⟩:=opn s _ _ _ _ ht h;obtain⟨cs,rfl⟩:=hv;exact⟨ds,h1,cs.toList,rfl,h2⟩
theorem adZ{P:pG}{RC:Nat}{t:tI}{fs:Array Field}{v:vl}(ht:P.underlying t=Wf (.struct fs))(h:vl.okWide P W .any RC t v):∃cs,v=.agg cs:=by grind[vl.okWide]
theorem ZS{f:α->bF}(q:α->Prop)(hs:∀ds,Dat s ds->∃a,ds=f a∧q a){d:D}(h:Dat (.sl s) [d]):∃l:List α,d=.sl (RW l) (l.flatMap f)∧∀a∈l,q a:=by
 simp only[Dat,List.cons.injEq,and_true]at h;obtain⟨xs,rfl,hx⟩:=h
 have:∀xs:List bF,(∀x∈xs,Dat s x)->∃l:List α,xs=l.map f∧∀a∈l,q a:=by
  intro xs
  induction xs with
  |nil=>simp
  | cons x xs ih=>
   intro h;obtain⟨n,rfl,hn⟩:=hs x (h x ac);obtain⟨zs,rfl,hz⟩:=ih λy hy=>h y ae
   exact⟨n::zs,rfl,λm hm=>by grind⟩
 obtain⟨l,rfl,hl⟩:=this xs hx;exact⟨l,by rw[List.length_map,<-List.flatMap_def],hl⟩
def Jn(W W':wO):Prop:=W'.os=W.os∧W'.output=W.output∧W.heap.size<=W'.heap.size∧∀c,c<W.heap.size->W'.heap[c]?=W.heap[c]?
variable{H:Type}{enc:tI×vl->H}{P:pG}
theorem Jn.but(h:Jn W W')(may:MemPlace->Prop):W.keptBut W' may:=by
 refine⟨h.1,h.2.1,λi hi=>?_⟩;rw[h.2.2.2 i hi];cases hq:W.heap[i]? with
 |none=>simp
 |some o=>cases o<;>simp
theorem ahC{f:Func}{s:ChangeSpec}{apart fresh handsOn again:Bool}{W W':wO}{args:Array vl}{v:vl}{ds gs:List (DataW H)}{before pa pv:List MemPlace}
  (hW:DataW.Whole enc P f.params.toList s.vars apart W args.toList ds gs before)
  (hres:∀(b:Nat)(sp:Nat->Bool)(hd:Bool),DataW.TrodAll enc P W' b sp hd f.resultTypes.toList (v.resultList f.resultTypes.size) (s.fn H (ds++gs)).results [])
  (hargs:∀sp:Nat->Bool,(∀p∈before,sp p.block=Th)->DataW.TrodAll enc P W' 0 sp Th f.params.toList args.toList (s.fn H (ds++gs)).args pa)
  (hvars:∀sp:Nat->Bool,(∀p∈before,sp p.block=Th)->DataW.TrodVars enc P W' sp s.vars (s.fn H (ds++gs)).vars pv)
  (hps:before=pa++pv) (hk:Jn W W')
  (Is:∀(j:Nat)(t:tI)(r:vl),f.resultTypes[j]?=Wf t->(v.resultList f.resultTypes.size)[j]?=Wf r->vl.okWide P W' .any 0 t r) :
  s.post enc P f apart fresh handsOn again W args v W':=by
 have Fd:∀p∈before,(λb=>decide (b<W.heap.size)) p.block=Th:=λp hp=>by simpa using hW.lt p hp
 have PJ:=hW.lt;refine⟨ds,gs,before,[],pa,pv,hW,hres _ _ _,hargs _ Fd,hvars _ Fd,wO.keptBut_mono (λp hp=>⟨hp,?_⟩) (hk.but (· ∈ before)),λ_=>?_⟩
 .rw[hps,Xc]at hp;exact Or.inr hp
 .have⟨_,_,_,_,_,hz,hn⟩:=hW;refine⟨Is,_,_,([]++pa)++pv,⟨[]++pa,pv,trodAll_append (hargs _ (λ_ _=>rfl)) (hres _ _ _),hvars _ (λ_ _=>rfl),rfl,?_,?_⟩,?_⟩
  .intro b off hp;have hp':MemPlace.cell b off∈before:=by rw[hps];simpa using hp
   have hb:b<W.heap.size:=PJ _ hp';have:=hz b off hp';simp only[wO.frozen?]at this ⊢;rw[hk.2.2.2 b hb];exact this
  .intro ha;have:=hn ha;rw[hps]at this;simpa using this
  .intro p hp _;rw[hps];simpa using hp
theorem PQ(hl:laidOutB P=Th){W W':wO}(hk:Jn W W'){sp:Nat->Bool}:∀{ts:List tI}{vs:au}{ds:List (DataW H)}{ps:List MemPlace},(∀t∈ts,P.readableRec t=Th∧t<P.types.size) ->
  DataW.TrodAll enc P W 0 (λ_=>Th) Th ts vs ds ps->(∀p∈ps,p.block<W.heap.size)->(∀p∈ps,sp p.block=Th)->DataW.TrodAll enc P W' 0 sp Th ts vs ds ps
 | [],vs,ds,ps,_,h,_,_=>by
  obtain⟨rfl,rfl,rfl⟩:=trodAll_nil h;exact trodAll_mk0
 | t::ts,vs,ds,ps,hr,h,PJ,hsp=>by
  obtain⟨v,vs',d,ds',p,q,rfl,rfl,rfl,h1,h2⟩:=trodAll_cons h;refine trodAll_cons_mk (WideElems.Trod_stays hl (hr t ac).1 (hr t ac).2 h1 (λx hx=>?_) λx hx=>hsp x (by simp[hx])) (PQ hl hk (λu hu=>hr u (by simp[hu])) h2 (λx hx=>PJ x (by simp[hx])) λx hx=>hsp x (by simp[hx]));have hb:=PJ x (by simp[hx]);cases x with
  | cell b off=>
   simp only[wO.sameAt,wO.cell?];rw[hk.2.2.2 b hb]
  |map b=>exact hk.2.2.2 b hb
theorem Vo{P:pG}{w:wO}:∀{l:List (String×DataW Unit)}{ps:List MemPlace},DataW.LaidVars P w l ps->∀n d,(n,d)∈l ->
  ∃g t cs fuel p,P.globalNamed n=Wf g∧(P.globals[g]?).map (·.type)=Wf t∧w.var? P n=Wf cs∧DataW.trod (λ_=>()) P w 0 (λ_=>Th) SM fuel t cs.toList=Wf (d,p)
 |[],_,_,_,_,hm=>by cases hm
 | (n',d')::r,ps,h,n,d,hm=>by
  have⟨g,t,cs,fuel,p,q,h1,h2,h3,h4,h5,_⟩:=h;rcases Zy.1 hm with e|e
  .cases e;exact⟨g,t,cs,fuel,p,h1,h2,h3,h4⟩
  .exact Vo h5 n d e
def Lm:aw:=[1,10,100,1000,10000,100000,1000000,10000000,100000000,1000000000,10000000000,100000000000,1000000000000,10000000000000,100000000000000,1000000000000000,10000000000000000,100000000000000000,1000000000000000000,10000000000000000000]
theorem ahz{P:pG}{W:wO}{name:String}{t e:tI}(hg:P.globalNamed name=Wf gB)(hty:(P.globals[gB]?).map (·.type)=Wf t)(ht:P.underlying t=Wf (.array 20 e))(he:P.underlying e=Wf (.int .u64))(hce:P.cellsOf e=1)(hct:P.cellsOf t=20)
  {l:List (String×DataW Unit)} (hm:(name,Lib.tabData .u64 Lm)∈l) (h:laidMet P l W):Jl W:=by
 have⟨ps,hv,_⟩:=h;have⟨g',t',cs,fuel,p,hg',ht',hvar,hd⟩:=Vo hv _ _ hm;obtain rfl:=Option.some.inj (hg.symm.trans hg');obtain rfl:=Option.some.inj (hty.symm.trans ht')
 have tab:Lib.TabIs P W name .u64 Lm:=by
  unfold Lib.TabIs;rw[hvar,<-Lib.cells_of_tab ht he hce hct hd]
 have hpv:∀i v,o7[i]?=Wf v->W.cell? ((⟨gB,0,Vc⟩:Addr).add i)=Wf v:=by
  intro i v hv;have hi:i<20:=(List.getElem?_eq_some_iff.1 hv).1;rw[addr_add _ rfl];have h1:=tab.cell hg i hi;simp only[Zh];rw[h1];have h2:o7=Lm.map λz=>vl.int .u64 z:=rfl
  rw[h2,List.getElem?_map,Z3]at hv;obtain⟨z,hz,rfl⟩:=hv;simp[hz]
 have⟨cs,e,fz,h1,_,h2,h3⟩:=aaz (w:=W) (a:=⟨gB,0,Vc⟩) (vs:=o7) hpv am;exact⟨cs,e,fz,h1,by simpa[o7]using h2,by simpa[o7]using h3⟩
open Go.Big
theorem ahD{e:List I4}(hk:k<256)(he:RW e<=3)(hb:∀x∈e,oo x):
  ∃C W,Ds F.tW [.agg [.d (.int .u8 k),de gQ e,B Ok]] (gM (gj k) C W)∧abB (gj k) C W∧dC (10^6) W:=
 ahE am am (λm hm hb C hC hs h1 x hx j=>Z1 (akx hm hb hs h1 x hx j) am) hk he hb
variable{p:aw}{c w:Mz}
variable{p:aw}{c w w':Mz}{e:Int}
variable{p:aw}{c w:Mz}{g:List (List Q)}
variable{p:aw}{c w:Mz}
theorem Lp{e:List I4}(h:qZ gs)(H:Hp):bY H [.agg (gX k e Ok gs)]=Wf ([.agg (gX k e Ok gs)],H):=by
 have⟨h4,ho⟩:=h
 match gs,h4 with
 | [a,b,c,d],_=>
  obtain⟨a0,a1,a2,a3,rfl⟩:=four (ho a ac).1;obtain⟨b0,b1,b2,b3,rfl⟩:=four (ho b ac).1;obtain⟨c0,c1,c2,c3,rfl⟩:=four (ho c ac).1;obtain⟨d0,d1,d2,d3,rfl⟩:=four (ho d ac).1;rfl
theorem Ub(a:Int)(b:Nat):gC (mY a b)∧qL 30 (mY a b)∧0<(mY a b).1:=by
 unfold mY;by_cases h:(ib a b).1=0
 .rw[ip h];exact⟨(Dj aa).1,(Dj aa).2,am⟩
 .rw[iN h];have⟨z,hz,hb⟩:=KT a b;have⟨l1,l2⟩:=RL am hz;refine⟨⟨(WX a b).1,?_⟩,⟨?_,?_⟩,?_⟩
  .have:=(WX a b).2;simpa using this
  .exact Z1 (eC (d:=3) (show((((ib a b).1.natAbs:Nat):Int)).natAbs<10^3 by omega) am) am
  .exact Z1 (eC (d:=3) (show(ib a b).2<10^3 by omega) am) am
  .show(0:Int)<((ib a b).1.natAbs:Nat)
   omega
theorem Uc{p:aw}{x:I4}{a:Int}(hp:ef p=0)(h4:RW p<=4):oM (kW p x a b)∧mK p [kW p x a b]=0∧RW (eY p x)=RW p∧∀z∈eY p x,z.natAbs<=9:=by
 have hl:RW (eY p x)=RW p:=by grind[eY,gE,HU]
 have hz:∀z∈eY p x,z.natAbs<=9:=λz hz=>by grind[eY,gE]
 have⟨w1,w2,w3⟩:=Ub a b;have rf:jY (kW p x a b).num (kW p x a b).den=Wf (mY a b):=Gl w1 w2
 have t1:(kW p x a b).num.length<=30:=by
  have e:(kW p x a b).num=aA (mY a b).1.natAbs:=by
   show itoa (mY a b).1=_
   unfold itoa;rw[iN aa]
  rw[e];exact Z1 (Nat.le_of_eq (fq _ _)) w2.1
 have t2:(kW p x a b).den.length<=30:=Z1 (Nat.le_of_eq (fq _ _)) w2.2;refine⟨⟨?_,?_,?_⟩,?_,hl,hz⟩
 .omega
 .omega
 .show(eY p x).length<_;omega
 .have mz:ot p [(kW p x a b).iv]=0:=aiK hp hl λz h=>by have:=hz z h;omega
  have wt:nZ (kW p x a b)=0:=by
   unfold nZ;rw[rf]
   show(if(mY a b).1<=0 then 3 else if _ then 4 else 0)=(0:Int)
   rw[iN aa,iN aa]
  simp[mK,hp,pC,zU,mz,wt]
theorem agG{c:Nat}{x y:Q}{a d:Int}(hx:rp b x a)(hy:rp c y d):rp (b*c) (il x y) (a*d):=by
 refine FY (Yk hx.1.1 hy.1.1) ?_;have h1:=hx.2;have h2:=hy.2
 grind
theorem agH(b:Nat)(z:Int):rp b (z,1) (z*b):=⟨⟨Nat.one_pos,ac⟩,ac⟩
theorem aa6{b c B C:Nat}{q:Q}{d:Int}(hq:rp c q d)(hd:d.natAbs<=C):∀{s:List Q}(n:Nat),eS b B s->eS (b*c) (B*C) (iW q (So n (0,1)) s)
 |_,0,_=>λx hx=>by trivial
 |[],n+1,_=>λx hx=>by trivial
 | y::s,n+1,h=>λx hx=>by
  rw[List.replicate_succ,iW]at hx;rcases Zy.1 hx with rfl|hx
  .have⟨a,a1,a2⟩:=h y ac;refine⟨0+a*d,F5 (KS _) (agG a1 hq),?_⟩
   simp_all[Zl,Zr]
  .exact aa6 hq hd n (λz hz=>h z ae) x hx
theorem apS{c B C n:Nat}{q:Q}{d:Int}{s:List Q}(h:eS b B s)(hq:rp c q d)(hd:d.natAbs<=C):eS (b*c) (B*C) (gA n [s] [q]):=aa6 hq hd n h
theorem aaZ{b C Z:Nat}:∀{l:List (List Q)}{zs:aw}{o:List Q}{A:Nat},eS b A o->(∀s∈l,eS b C s)->(∀z∈zs,z.natAbs<=Z)->eS b (A+RW l*(Z*C)) (nA o l (fB zs))
 |[],zs,o,A,ho,_,_=>by grind[nA]
 |s::l,[],o,A,ho,_,_=>Ew cU aa
 | s::l,z::zs,o,A,ho,hl,hz=>by
  have h1:=OI z ho (hl s ac);have h2:=aaZ (zs:=zs) h1 (λt ht=>hl t (W8 _ ht)) (λy hy=>hz y (W8 _ hy));have h3:z.natAbs*C<=Z*C:=Zu _ (hz z ac);refine Ew (B:=A+z.natAbs*C+RW l*(Z*C)) h2 ?_
  grind[X3]
theorem aa2{b A X:Nat}:∀{o:List Q}{x:aw},eS b A o->(∀z∈x,z.natAbs<=X)->eS b (A+X*b) (List.zipWith (λa z=>d9 a (jp (z,1))) o x)
 |[],x,_,_=>λy hy=>by simp at hy
 |_::_,[],_,_=>λy hy=>by simp at hy
 | a::o,z::x,ho,hx=>λy hy=>by
  rw[List.zipWith_cons_cons]at hy;rcases Zy.1 hy with rfl|hy
  .have⟨r,r1,r2⟩:=ho a ac;have hz:=hx z ac;refine⟨r + -z*b,F5 r1 (agH b (-z)),?_⟩;have:(-z*(b:Int)).natAbs<=X*b:=by rw[Zl,X0,Int.natAbs_natCast];exact Zu _ hz
   omega
  .exact aa2 (λw hw=>ho w ae) (λw hw=>hx w ae) y hy
structure pN(p:aw)(c w:Mz)(g:List (List Q)):Prop where
 tu:nW p c w g
 i6:uv p
 h0:0<RW p
 h4:RW p<=4
 wl:RW w<=12
 bw:dC (10^6) w
 g12:∀s∈g,eS 12 480 s
structure qA(p:aw)(t:Tg)(q:Q)(d:Int):Prop where
 l:RW t.iv=RW p
 b:∀z∈t.iv,z.natAbs<=9
 tn:t.num=itoa q.1
 td:t.den=aA q.2
 rd:jY t.num t.den=Wf q
 ok:gC q∧qL 30 q
 rp:rp 12 q d
 d0:0<d
 d1:d<=480
variable{p:aw}{c w:Mz}{g:List (List Q)}{t:Tg}{q:Q}{d:Int}
theorem Qf(h:pN p c w g)(hl:RW x=RW p)(hx:∀z∈x,z.natAbs<=9):∀z∈dO w x,z.natAbs<=36000000:=λz hz=>by
 obtain⟨v,hv,rfl⟩:=Zw.1 hz;have h1:=YL hx (OH h.bw v hv)
 grind[pN.h4]
theorem XX(h:pN p c w g)(hl:RW x=RW p)(hx:∀z∈x,z.natAbs<=9):eS 12 1000000000000 (mb p w g x):=by have h1:=aaZ (Z:=36000000) (aaY 12 (RW p)) h.g12 (Qf h hl hx);have h2:=aa2 h1 hx;refine Ew h2 ?_;have h3:RW g*(36000000*480)<=12*(36000000*480):=Zu _ (by have:=h.tu.gl;grind[pN.wl]);omega
theorem XV(h:pN p c w g)(hl:RW x=RW p):RW (mb p w g x)=RW p:=by
 have:RW (pS p w g x)=RW p:=Ff λs hs=>(h.tu.gs s hs).1
 grind[mb]
def wU(p:aw)(w:Mz)(g:List (List Q))(x:aw):Int:=(pO p 12 (mb p w g x)).sign
def Ef(p:aw)(w:Mz)(g:List (List Q))(x:aw):List Q:=Ez p (mb p w g x) (wU p w g x)
def ly(p:aw)(w:Mz)(g:List (List Q))(t:Tg):List Q:=gA (RW p) [Ef p w g t.iv] [(jY t.num t.den).getD (1,1)]
theorem ZF(h:pN p c w g)(hl:RW x=RW p)(hx:∀z∈x,z.natAbs<=9):eS 12 1000000000000 (Ef p w g x):=by
 have h1:=apR (n:=RW p) (z:=pL (wU p w g x)) (XX h hl hx);refine Ew h1 ?_
 have h2:(pL (wU p w g x)).natAbs<=1:=by
  unfold wU;rcases Int.sign_trichotomy (pO p 12 (mb p w g x))with e|e|e<;>rw[e]<;>decide
 omega
theorem ZC(h:pN p c w g)(m:qA p t q d):eS 144 1000000000000000 (ly p w g t)∧RW (ly p w g t)=RW p:=by
 have h1:=ZF h m.l m.b;have e:(jY t.num t.den).getD (1,1)=q:=by rw[m.rd];rfl
 refine⟨?_,Ff λs hs=>?_⟩
 .rw[ly,e];exact Ew (apS h1 m.rp (C:=480) (by have:=m.d0;have:=m.d1;omega)) am
 .rw[Wd]at hs;subst hs;exact Ff λs hs=>by grind[XV,qA.l]
theorem am0(h:pN p c w g)(m:qA p t q d):nh p c w g (ly p w g) t:=by
 have hpr:=h.tu.tp.pr;have h4:=h.h4;have eb:=XX h m.l m.b;have el:=XV h m.l;have eo:=zr am eb am am;have⟨n1,n2⟩:=GP eb;have sg:tU p (mb p w g t.iv) (wU p w g t.iv):=KB h.i6 el am n1 n2 am;have ab:=ZF h m.l m.b;have al:RW (Ef p w g t.iv)=RW p:=Ff λs hs=>by grind
 have⟨fb,fl⟩:=ZC h m;have e:(jY t.num t.den).getD (1,1)=q:=by rw[m.rd];rfl
 have tb:=Qf h m.l m.b
 have s1 : -1<=wU p w g t.iv∧wU p w g t.iv<=1:=by
  unfold wU;rcases Int.sign_trichotomy (pO p 12 (mb p w g t.iv))with e|e|e<;>rw[e]<;>decide
 refine⟨mb p w g t.iv,Ef p w g t.iv,?_,?_,?_⟩
 .exact PK h.tu aa ⟨m.l,aeD m.b,λz hz=>by have:=m.b z hz;omega,K7 (by grind[qA.l]) λz hz=>by grind[qA.b],λz hz=>by grind⟩ eo
 .exact abw hpr aa el eo (KC sg) s1.1 s1.2
 .have:=Rj (p:=p) (s:=Ef p w g t.iv) (k:=q) hpr aa al (zr am ab am am) m.ok (by have:=zr am fb am am;grind[ly.eq_1])
  grind[qT,qA.tn,qA.td,ly.eq_1]
def uH(p:aw)(a b:List Q):Int:=(pO p 144 a-pO p 144 b).sign
theorem am3(p:aw)(a b:List Q):uH p a b = -uH p b a:=by grind[uH]
theorem am2{B:Nat}(i6:uv p){a b:List Q}(la:RW a=RW p)(lb:RW b=RW p)(ha:eS 144 B a)(hb:eS 144 B b)(hB:B<=1000000000000000):tU p (kC p a b) (uH p a b):=by
 have:=aoI i6 la lb am am ha hb aa
 rwa [<-Int.sub_mul,Q6 am]at this
theorem am1(h:pN p c w g){a b:List Q}(la:RW a=RW p)(lb:RW b=RW p)(ha:eS 144 1000000000000000 a)(hb:eS 144 1000000000000000 b):Ds F.kr [aj di p,aX a,aX b] (.tup [I (uH p a b),I 0]):=by have:=h.h4;exact abF h.tu.tp.pr aa la lb (zr am ha am am) (zr am hb am am) (KC (am2 h.i6 la lb ha hb am))
theorem amj{e:List I4}(h:qZ gs):Ds F.Az [.agg (gX k e Ok gs),de mD l] (B (decide (RW e<=3∧RW l<=8))):=by
 apply agk;have fi:=amk (k:=k) (e:=e) (Ok:=Ok) h;have hl:=Da (k:=k) (e:=e) (Ok:=Ok) h;have ht:(gX k e Ok gs).take 35=gX k e Ok gs:=Zx aa;have l1:bh (de mD l)=Wf (I (RW l)):=rfl;simp only[Az];simp[hl,ht];refine cd fi ?_ (Lp h _);by_cases he:RW e<=3
 .simp[he,l1]
  grind[fp]
 .simp[he]
theorem P9{d:Nat}:∀{p:aw}{s:List Q},RW p=RW s->fO d p s=[]->∀x∈s,x.1=0
 |[],[],_,_=>λx hx=>by cases hx
 | p::ps,x::s,hl,h=>by
  unfold fO at h;split at h
  .intro y hy;rcases Zy.1 hy with rfl|hy
   .trivial
   .exact P9 ae h y hy
  .cases h
theorem Pr{p:aw}{s:List Q}{B:Nat}(hp:uv p)(hl:RW s=RW p)(hb:0<b)(h:eS b B s)(hB:B<9223372036854775808):tU p s ((pO p b s).sign)∧(pO p b s=0->∀x∈s,x.1=0):=by
 have⟨n1,n2⟩:=GP h;have sg:tU p s ((pO p b s).sign):=KB hp hl hb n1 n2 hB;refine⟨sg,λh0=>P9 (d:=jR 1 s) hl.symm ?_⟩;have hd:∀x∈s,0<x.2:=λx hx=>(aa1 hb h x hx).1
 have ok:=PT hp hb h hB
 have hll:RW (tq p s)<=6:=by
  have:=E4 (d:=jR 1 s) p s;have:=hp.2.1;unfold tq;omega
 have nz:=apc (E0 hp) (JQ hp.1) (JR (Iz am hd) λx hx=>⟨hd x hx,IA.2 x hx⟩) hll (λt ht=>(ok.2 t ht).2.2)
 have e2:xQ (tq p s)=Wf 0:=by
  have:=sg.2.2
  rwa [h0]at this
 show tq p s=[]
 cases ht:tq p s with
 |nil=>rfl
 | cons t ts=>
  grind[xQ]
def vY(s:Nat):Acc:=⟨s,0,1,.none⟩
def om(s:Nat)(l:aw):V:=(vY s).v (RW l) (l.map di)
def nE(s:Nat)(l:aw):Nat×Bk:=(vY s).b (RW l) (l.map di)
variable{p:aw}{c w:Mz}{g:List (List Q)}
theorem Tq{s:Nat}{z:aw}{i:Int}{h:Hp}{q:bG}{u:PU q}(hs:h[s]?=Wf (nE s z))(hl:RW z<100000)(hq:q (om s (z++[i])) (h.set s (nE s (z++[i])))):rh (cV SM s 1 8 (om s z) (.d (.sl 1 [di i])) h) q u:=by
 refine kM (vY s) (L:=RW z) (cells:=z.map di) (Nd:=8) (k:=1) (cs:=[di i]) aa hs (by simp[vY]) rfl rfl ae aa Nat.one_pos ?_;have e1:om s (z++[i])=(vY s).v (RW z+1) (z.map di++[di i]):=by simp[om]
 have e2:nE s (z++[i])=(vY s).b (RW z+1) (z.map di++[di i]):=by simp[nE]
 rw[e1,e2]at hq;exact hq
theorem Rk{s:Nat}{h:Hp}{q:bG}{u:PU q}(hs:h[s]?=Wf (nE s x))(hx:RW x<1000000000)(hq:q (B Th) h):rh (bp DA.p h (.fn F.sf [] []) [aj di x,om s x]) q u:=by
 have⟨h',e1,_⟩:=mO (vY s) (L:=RW x) (cells:=x.map di) (h:=h) hs (by simp[vY]);have sc:=Rn hx hx;rw[decide_eq_true rfl]at sc;refine ii (xa (ds:=[aj di x,aj di x]) (h':=h') ?_ sc hq)
 simp_all[aj,om,bY]
theorem aho(l:List (List Q)):∀i,RW (jZ i l)<=RW l:=by
 induction l with
 |nil=>simp[jZ]
 | cons s l ih=>
  grind[jZ]
theorem alG(w:Mz)(l:List Tg):∀i,RW (jb w i l)<=RW l:=by
 induction l with
 |nil=>simp[jb]
 | cons s l ih=>
  grind[jb]
theorem ZA(ht:nW p c w g){f:Tg->List Q}{l:List Tg}(hl:RW l<1000)(hd:∀t∈l,nh p c w g f t)(hx:∀t∈l,RW t.iv=RW p∧lG t.iv∧kt t.iv=0)
  (hs:∀t∈l,∃z e:Int,Ds F.r9 [aj di p,aX (f t)] (.tup [I z,I e])∧(z=0↔o5 (f t)=SM)) (b0:Nat×Bk) (h0:Hp) (K:KL):∀(q a:List Tg)(z y:aw),l=a++q->RW z<=RW a->RW y<=RW a ->
  K (.exit 0) [om 2 (z++jZ (RW a) (q.map f)),om 3 (y++jb w (RW a) q)] [b0,(1,.vars (bM p c w g)),nE 2 (z++jZ (RW a) (q.map f)),nE 3 (y++jb w (RW a) q)] ->
  lp (FR DA (.ptr 1 1 0 4) (dY l)) [] h0 [om 2 z,om 3 y,I (RW a)] [b0,(1,.vars (bM p c w g)),nE 2 z,nE 3 y] K
 | [],a,z,y,e,h1,h2,hK=>by
  simp[Zo]at e;subst e;apply aL;have l1:bh (dY l)=Wf (I (RW l)):=rfl;have PJ:¬((RW l:Int)<(RW l:Int)):=aa;simp only[FR];simp[l1,PJ]
  grind[jZ,jb]
 | t::q,a,z,y,e,h1,h2,hK=>by
  have DQ:RW a<RW l:=by rw[e];simp
  have PJ:((RW a:Int)<(RW l:Int)):=aa;have l1:bh (dY l)=Wf (I (RW l)):=rfl;have htm:t∈l:=by rw[e];simp
  have p1:=CE a q t;have p2:=CB a q t;rw[<-e]at p1 p2;have of:=LF (hd t htm);have⟨sz,se,sg,s0⟩:=hs t htm;have⟨x1,x2,x3⟩:=hx t htm;have tm:=Qb ht.tp x1 x2 x3;have e4:((RW (a++[t]):Nat):Int)=(RW a:Int)+1:=ac;have ih:=λz y h1 h2 hk=>ZA ht hl hd hx hs b0 h0 K q (a++[t]) z y ae h1 h2 hk
  simp only[e4]at ih;apply aL;have tl:RW (bM p c w g)=4:=rfl;have tt:(bM p c w g).take 4=bM p c w g:=rfl;have t3:(bM p c w g).take 3=[aj di p,bf c,bf w]:=rfl;have li:∀(i:Int)(h:Hp),cI 1 [.int .i64 0] [(0,I i)] h=Wf ([di i],h):=λi h=>rfl
  simp only[FR];simp[l1,PJ,p1,p2,tl,tt,t3];have p3:=adG a q t;rw[<-e]at p3;have⟨z',hz'⟩:∃z',z'=if o5 (f t)=Th then z else z++[(RW a:Int)]:=⟨_,rfl⟩
  have⟨y',hy'⟩:∃y',y'=if(dO w t.iv).any pd=Th then y else y++[(RW a:Int)]:=⟨_,rfl⟩
  refine MG (λl h=>l=[om 2 z',om 3 y']∧h=[b0,(1,.vars (bM p c w g)),nE 2 z',nE 3 y']) ?_ ?_
  .rintro _ _ ⟨rfl,rfl⟩;simp(disch:=omega) [];rw[jX];refine lo (ih z' y' ?_ ?_ ?_)
   .rw[hz'];split<;>simp<;>omega
   .rw[hy'];split<;>simp<;>omega
   .simp only[Zv,jZ,jb]at hK
    have a1:z'++jZ (RW (a++[t])) (q.map f)=z++(if o5 (f t)=Th then jZ (RW a+1) (q.map f)else(RW a:Int)::jZ (RW a+1) (q.map f)):=by
     rw[hz',List.length_append,List.length_singleton];split<;>simp
    have a2:y'++jb w (RW (a++[t])) q=y++(if(dO w t.iv).any pd=Th then jb w (RW a+1) q else(RW a:Int)::jb w (RW a+1) q):=by
     rw[hy',List.length_append,List.length_singleton];split<;>simp
    grind
  intro q4 hq4;simp(disch:=omega) [p1,p2,tl,tt];refine cd (args:=[dj p c w g,.agg [aj di t.iv,S t.num,S t.den]]) of ?_ aM;simp;refine cd sg ?_ aM;simp;refine MG (λl h=>l=[om 2 z']∧h=[b0,(1,.vars (bM p c w g)),nE 2 z',nE 3 y]) ?_ ?_
  .rintro _ _ ⟨rfl,rfl⟩;simp[p1,p3,tl,t3];refine cd (args:=[gM p c w,aj di t.iv]) tm ?_ aM;simp;refine MG (λl h=>l=[om 3 y']∧h=[b0,(1,.vars (bM p c w g)),nE 2 z',nE 3 y']) ?_ ?_
   .simp_all
   intro q28 hq28;cases hn:(dO w t.iv).any pd with
   | true=>
    rw[hn,ip rfl]at hy';subst hy';simp
    grind
   | false=>
    rw[hn,iN am]at hy';subst hy';simp[li];refine Tq aM aa ?_
    simp_all
  intro q18 hq18;by_cases h0:sz=0
  .rw[s0.1 h0,iN am]at hz';subst hz';simp[h0,li];refine Tq aM aa ?_
   simp_all
  ·have hp:o5 (f t)=Th:=by
    cases hb:o5 (f t)
    .grind
    .rfl
   rw[hp,ip rfl]at hz';subst hz';simp[h0]
   grind
theorem aiZ{p:aw}{x:I4}{a:Int}(hp:ef p=0)(h4:RW p<=4):∃d,qA p (kW p x a b) (mY a b) d:=by
 have⟨_,_,tl,tz⟩:=Uc (p:=p) (x:=x) (a:=a) (b:=b) hp h4;have⟨w1,w2,w3⟩:=Ub a b;have rf:jY (kW p x a b).num (kW p x a b).den=Wf (mY a b):=Gl w1 w2
 have hd:∃d:Int,rp 12 (mY a b) d∧0<d∧d<=480:=by
  unfold mY;by_cases h:(ib a b).1=0
  .rw[ip h];exact⟨12,⟨⟨Nat.one_pos,am⟩,am⟩,am,am⟩
  .rw[iN h];have⟨z,⟨⟨o1,o2⟩,hz⟩,hb⟩:=KT a b
   have e:((ib a b).1.natAbs*12:Nat)=z.natAbs*(ib a b).2:=by
    have:=RT Int.natAbs hz
    rwa [Zl,Zl,Int.natAbs_natCast,Int.natAbs_natCast]at this
   refine⟨z.natAbs,⟨⟨o1,cU⟩,ae⟩,?_,aa⟩;have:z≠0:=by rintro rfl;simp at e;omega
   omega
 have⟨d,d1,d2,d3⟩:=hd;exact⟨d,tl,tz,rfl,rfl,rf,⟨w1,w2⟩,d1,d2,d3⟩
theorem aiX{p:aw}(hp:ef p=0)(h4:RW p<=4)(l:List Mk)(h8:RW l<=8):RW (gm p l)=RW l∧mK p (gm p l)=0∧∀t∈gm p l,oM t∧∃q d,qA p t q d:=by
 have hm:∀t∈gm p l,(oM t∧∃q d,qA p t q d)∧mK p [t]=0:=λt ht=>by
  obtain⟨m,_,rfl⟩:=Zw.1 ht
  grind[Uc,aiZ]
 have hl:RW (gm p l)=RW l:=by simp[gm]
 refine⟨hl,?_,λt ht=>(hm t ht).1⟩
 have go:∀q:List Tg,(∀t∈q,mK p [t]=0)->pC p q=0:=by
  intro q
  induction q with
  |nil=>intro _;rfl
  | cons t q ih=>
   intro h;have h1:=h t ac;have h2:zU p t=0:=by simp[mK,hp,pC]at h1;exact Classical.byContradiction λh=>h (h1 h)
   grind[pC]
 unfold mK;rw[ip hp,ip aa]
 grind
theorem ahm{p:aw}{s:List Q}(hp:uv p)(hl:RW s=RW p)(h:eS 144 1000000000000000 s):((pO p 144 s).sign=0↔o5 s=SM):=by
 have⟨_,z0⟩:=Pr hp hl am h am;constructor
 .grind[o5,tx,itoa,k9]
 .intro hq
  have hz:∀x∈s,x.1=0:=λx hx=>by
   unfold o5 at hq;rw[List.any_eq_false]at hq;have:=hq (tx x) (List.mem_map_of_mem hx);have e:itoa x.1=[48]:=by simp only[tx]at this;by_cases h:itoa x.1=[48]<;>simp_all
   exact By (e.trans (show[48]=itoa 0 from k9.symm))
  have e:yi 144 s=So (RW s) 0:=by
   rw[List.eq_replicate_iff];refine⟨by simp[yi],λa ha=>?_⟩;obtain⟨x,hx,rfl⟩:=Zw.1 ha;rw[hz x hx];simp
  grind[pO,Nx]
structure abH(p:aw)(C W:Mz)(G:List (List Q))(T:List Tg):Prop where
 dm:pN p C W G
 ln:RW T<=8
 db:mK p T=0
 tg:∀t∈T,oM t
 ok:∀t∈T,nh p C W G (ly p W G) t
 bd:∀t∈T,eS 144 1000000000000000 (ly p W G t)∧RW (ly p W G t)=RW p
 iv:∀t∈T,RW t.iv=RW p∧lG t.iv∧kt t.iv=0
theorem apQ{e:List I4}(hk:k<256)(he:RW e<=3)(hb:∀x∈e,oo x)(hgs:qZ gs)(h8:RW l<=8)(hm:∀m∈l,yq m):
  ∃C W G,Ds F.xS [.agg (gX k e Ok gs)] (dj (gj k) C W G)∧Ds F.xR [aj di (gj k),de mD l] (dY (gm (gj k) l))∧abH (gj k) C W G (gm (gj k) l):=by
 have⟨p1,p2,p3,p4,p5⟩:=Lo _ (Lq k);have⟨C,W,mk,PL,b6⟩:=ahD (Ok:=Ok) hk he hb;have⟨p,hp⟩:=bD (gj k);rw[<-hp]at p1 p2 p3 p4 p5 mk PL ⊢;have T:=PL.t;have hwl:=T.lw.ml;have gl:=M3 (RW p) gs (RW W);have⟨tl,db,tk⟩:=aiX p1 p4 l h8
 have hg:∀s∈oA (RW p) gs (RW W),RW s=RW p∧eS 12 480 s:=λs hs=>by
  obtain⟨i,hi,rfl⟩:=Zw.1 hs;refine⟨?_,apT _ _⟩;have:=(hgs.2 (nth [] gs (i%4)) (Dk (by rw[hgs.1];omega))).1
  grind[nr]
 have D:pN p C W (oA (RW p) gs (RW W)):=⟨⟨T,gl,λs hs=>⟨(hg s hs).1,zr am (hg s hs).2 am am⟩⟩,⟨p2,aa,p5⟩,p3,p4,hwl,b6,λs hs=>(hg s hs).2⟩;refine⟨C,W,_,ai8 hgs p3 p4 aa mk,ajt p4 h8 hm,D,aa,db,λt ht=>(tk t ht).1,λt ht=>?_,λt ht=>?_,λt ht=>?_⟩
 .grind[am0]
 .grind[ZC]
 .have⟨_,q,d,h⟩:=tk t ht;exact⟨h.l,λz hz=>by have:=h.b z hz;omega,K7 (by grind[qA.l]) λz hz=>by grind[qA.b]⟩
theorem ahH{e:List I4}(h:qZ gs)(H:Hp)(d:D):bY H [.agg (gX k e Ok gs),.d d]=Wf ([.agg (gX k e Ok gs),.d (norm d)],H):=by
 have:=Lp (k:=k) (e:=e) (Ok:=Ok) h H;simp only[bY]at this ⊢;cases h1:bQ H (.agg (gX k e Ok gs))with
 |none=>grind
 | some x=>
  simp_all
theorem ajT{e:List I4}(hk:k<256)(hb:∀x∈e,oo x)(hgs:qZ gs)(hm:∀m∈l,yq m):
  Ds F.AC [.agg (gX k e Ok gs),de mD l] (B Th):=by
 apply agp;have hl:=Da (k:=k) (e:=e) (Ok:=Ok) hgs;have ht:(gX k e Ok gs).take 35=gX k e Ok gs:=Zx aa;have sn1:=Lp (k:=k) (e:=e) (Ok:=Ok) hgs;have fi:=amj (k:=k) (e:=e) (Ok:=Ok) (l:=l) hgs;simp only[AC];simp[hl,ht];refine cd Vs ?_;simp[hl,ht]
 refine cd fi ?_ (ahH hgs _ _);by_cases hf:RW e<=3∧RW l<=8
 case neg=>
  simp[hf];refine cd Vs ?_;simp
 have⟨C,W,G,mk,li,BG⟩:=apQ (Ok:=Ok) hk hf.1 hb hgs hf.2 hm;generalize gj k=p at *;generalize gm p l=T at *;have D:=BG.dm;have i6:=D.i6;have lT:=BG.ln
 have sg:∀t∈T,∃z e:Int,Ds F.r9 [aj di p,aX (ly p W G t)] (.tup [I z,I e])∧(z=0↔o5 (ly p W G t)=SM):=λt ht=>by
  have⟨b,bl⟩:=BG.bd t ht;exact⟨_,0,aqp D.tu.tp.pr (by grind[pN.h4]) bl (zr am b am am) (Pr i6 bl am b am).1,ahm i6 bl b⟩
 have cq:∀t∈T,∀u∈T,∃e:Int,Ds F.kr [aj di p,aX (ly p W G t),aX (ly p W G u)] (.tup [I (uH p (ly p W G t) (ly p W G u)),I e]):=λt ht u hu=>
  ⟨0,am1 D (BG.bd t ht).2 (BG.bd u hu).2 (BG.bd t ht).1 (BG.bd u hu).1⟩
 have o1:=aoh D.tu aa BG.tg BG.db BG.ok cq;have o2:=ZU D.tu aa BG.tg BG.db BG.ok (λt ht=>by grind[abH.bd,pN.h4]);have o3:=amg D.tu.tp aa BG.tg BG.db BG.iv;have o4:=ahZ aa BG.ok cq (am3 p);have lo0:=λb0 h0 K=>ZA D.tu aa BG.ok BG.iv sg b0 h0 K T [] [] [] rfl (Z8 _) (Z8 _)
 have ok1:∀m:Mz,okV (bf m)=Th:=λ_=>rfl
 have ok2:∀m:aw,okV (aj di m)=Th:=λ_=>rfl
 have oo:∀g:List (List Q),okV (aj bX g)=Th:=λ_=>rfl
 have⟨A,hA⟩:∃A:Nat×Bk,A=(1,Bk.vars (gX k e Ok gs)):=⟨_,rfl⟩;simp only[dj,bM]at mk o1 o2 o4 lo0;simp[hf,hl,ht];refine cd mk ?_ (sn1 _);rw[<-hA];simp[ok1,ok2,oo];refine cd li ?_ aM;simp;refine cd (args:=[dj p C W G,dY T]) o1 ?_ aM;simp;refine cd (args:=[dj p C W G,dY T]) o2 ?_ aM;simp;refine cd (args:=[gM p C W,dY T]) o3 ?_ aM;simp
 refine lo (lo0 _ _ _ ?_);simp;refine cd (args:=[dj p C W G,dY T]) o4 ?_ aM;have sl:=Fl (uH p) (ly p W G) T;have s1:=Rn (x:=(iO (uH p) (ly p W G) T).map (·.i)) (y:=(iO (uH p) (ly p W G) T).map (·.i)) ae ae;rw[decide_eq_true rfl]at s1;simp;refine cd s1 ?_ aM;simp;have n1:=aho (T.map (ly p W G)) 0;have n2:=alG W T 0
 rw[List.length_map]at n1;refine Rk aM aa ?_;simp;refine Rk aM aa ?_;simp
open Go.Proofs Go.Proofs.YthjogmhfdpaaaabGreatDoor
theorem alF:Tryz.prog.globalNamed "internal/strconv.uint64pow10" = Wf gB:=by kernel_rfl
theorem alE:(Tryz.prog.globals[gB]?).map (·.type)=Wf 272:=aJ
theorem acx:Tryz.prog.underlying 272=Wf (.array 20 202):=aJ
theorem acw:Tryz.prog.underlying 202=Wf (.int .u64):=aJ
theorem aoU:Tryz.prog.cellsOf 202=1:=aJ
theorem aoV:Tryz.prog.cellsOf 272=20:=aJ
mutual
/-- Has a type a shape? -/
def rR(P:pG):Sh->tI->Bool
 | .int k,t=>(match P.underlying t with
  |some (.int k')=>decide (k'=k)
  |_=>SM)&&Nat.beq (P.cellsOf t) 1
 | .bool,t=>(match P.underlying t with
  |some .bool=>Th
  |_=>SM)&&Nat.beq (P.cellsOf t) 1
 | .str,t=>(match P.underlying t with
  |some .string=>Th
  |_=>SM)&&Nat.beq (P.cellsOf t) 1
 | .sl e,t=>(match P.underlying t with
  |some (.slice u)=>Nat.beq (P.cellsOf t) 1&&Nat.blt 0 (P.cellsOf u)&&rR P e u
  |_=>SM)
 | .ar n e,t=>(match P.underlying t with
  |some (.array m u)=>Nat.beq m n&&Nat.beq (P.cellsOf t) (n*P.cellsOf u)&&rR P e u
  |_=>SM)
 | .st fs,t=>(match P.underlying t with
  |some (.struct l)=>zN P fs l.toList 0 (P.cellsOf t)
  |_=>SM)
def zN(P:pG):List Sh->List Field->Nat->Nat->Bool
 |[],l,o,n=>l.isEmpty&&Nat.beq o n
 | s::ss,l,o,n=>(match l with
  |[]=>SM
  |f::r=>Nat.beq f.offset o&&rR P s f.type&&zN P ss r (o+P.cellsOf f.type) n)
end
mutual
theorem Cy{P:pG}:∀{s:Sh}{t:tI},rR P s t=Th->nV P s t
 | .int k,t,h=>by
  simp only[rR,Z7]at h;have⟨h1,h2⟩:=h;split at h1
  .rename_i h3;obtain rfl:=of_decide_eq_true h1;exact⟨h3,Zk h2⟩
  .cases h1
 | .bool,t,h=>by
  simp only[rR,Z7]at h;have⟨h1,h2⟩:=h;split at h1
  .rename_i h3;exact⟨h3,Zk h2⟩
  .cases h1
 | .str,t,h=>by
  simp only[rR,Z7]at h;have⟨h1,h2⟩:=h;split at h1
  .rename_i h3;exact⟨h3,Zk h2⟩
  .cases h1
 | .sl e,t,h=>by
  simp only[rR]at h;split at h
  .rename_i u h3;simp only[Z7]at h;have⟨⟨h1,h2⟩,h4⟩:=h;exact⟨u,h3,Zk h1,by have:=h2;simp[Nat.blt]at this;omega,Cy h4⟩
  .cases h
 | .ar n e,t,h=>by
  simp only[rR]at h;split at h
  .rename_i m u h3;simp only[Z7]at h;have⟨⟨h1,h2⟩,h4⟩:=h;obtain rfl:=Zk h1;exact⟨u,h3,Zk h2,Cy h4⟩
  .cases h
 | .st fs,t,h=>by
  simp only[rR]at h;split at h
  .rename_i l h3;exact⟨l.toList,by rw[h3],PF h⟩
  .cases h
theorem PF{P:pG}:∀{ss:List Sh}{l:List Field}{o n:Nat},zN P ss l o n=Th->Ch P ss l o n
 | [],l,o,n,h=>by
  simp only[zN,Z7,List.isEmpty_iff]at h;exact⟨h.1,Zk h.2⟩
 |s::ss,[],o,n,h=>by simp[zN]at h
 | s::ss,f::r,o,n,h=>by
  simp only[zN,Z7]at h;have⟨⟨h1,h2⟩,h3⟩:=h;exact⟨f,r,rfl,Zk h1,Cy h2,PF h3⟩
end
theorem ae9{P:pG}{RC:Nat}{t e:tI}{v:vl}(ht:P.underlying t=Wf (.slice e))(h:vl.okWide P W .any RC t v):∀cs,v≠.agg cs:=by rintro cs rfl;simp only[vl.okWide,ht,Cell.okWide,Cell.ok]at h
theorem wf_u8(h:(Lit.int .u8 n).wf=Th):0<=n∧n<=255:=by simp only[Lit.wf,Z7,dT]at h;exact h
theorem wf_i8(h:(Lit.int .i8 n).wf=Th): -128<=n∧n<=127:=by simp only[Lit.wf,Z7,dT]at h;exact h
def ajs:DataW Unit->vl
 |.lit (.int k n)=>.int k n
 |_=>undef
def JW:DataW Unit->Array vl
 |.agg l=>(l.map ajs).toArray
 |_=>#[]
def XY:DataW Unit->vl
 |.iface _ (.ptr (.agg [.lit (.string l)]))=>.string ⟨l.toArray⟩
 |_=>undef
def CW(cs:Array vl):Obj->Obj
 |.cells _ t frozen=>.cells cs t frozen
 |o=>o
noncomputable def Mv(os:Os):wO:=
 let w0:=wO.holding Tryz.prog os ⟨#[.cells #[XY Rows.laid_strconv_ErrSyntax] 279,.cells #[XY Rows.laid_strconv_ErrRange] 279],#[],[]⟩
 let low:=(wO.settled Tryz.prog os).heap.size
 {w0 with heap:=((((w0.heap.modify 0 (CW #[.iface 277 (.pointer (Wf ⟨low,0,Vc⟩))])).modify 1 (CW #[.iface 277 (.pointer (Wf ⟨low+1,0,Vc⟩))])).modify 2 (CW (JW Rows.laid_internal_strconv_uint64pow10))).modify 3 (CW (JW Rows.laid_math_bits_deBruijn32tab))).modify 4 (CW (JW Rows.laid_math_bits_deBruijn64tab))}
def Q9:Sh:=.ar 4 (.st [.int .i8,.int .u8])
def SS(x:Int×Nat):bF:=[.int .i8 x.1,.int .u8 x.2]
theorem Ej(h:Dat (.st [.int .i8,.int .u8]) ds):∃x:Int×Nat,ds=SS x∧(-128<=x.1∧x.1<=127)∧x.2<256:=by obtain⟨a,b,rfl,⟨n,rfl,hn⟩,a',b',rfl,h2,rfl⟩:=h;obtain⟨m,rfl,hm⟩:=h2;have b1:=wf_i8 hn;have b2:=wf_u8 hm;exact⟨(n,m.toNat),by simp[SS,Int.toNat_of_nonneg b2.1],b1,by simp only;omega⟩
theorem IQ(h:Dat Q9 ds):∃e:List (Int×Nat),S6 e∧ds.map V.d=oi e:=by
 obtain⟨xs,rfl,hl,hx⟩:=h
 match xs,hl,hx with
 | [x1,x2,x3,x4],_,hx=>
  obtain⟨a,rfl,ha⟩:=Ej (hx x1 ac);obtain⟨b,rfl,hb⟩:=Ej (hx x2 ac);obtain⟨c,rfl,hc⟩:=Ej (hx x3 ac);obtain⟨d,rfl,hd⟩:=Ej (hx x4 ac);refine⟨[a,b,c,d],⟨rfl,λx hm=>?_⟩,rfl⟩;simp only[Zy,Y4,or_false]at hm;rcases hm with rfl|rfl|rfl|rfl<;>assumption
def KA:Sh:=.ar 4 (.int .i8)
def Rb:Sh:=.st [.int .u8,.sl KA,.bool]
theorem ZT(ds:bF)(h:Dat KA ds):∃x:I4,ds=gQ x∧oo x:=by
 obtain⟨xs,rfl,hl,hx⟩:=h
 match xs,hl,hx with
 | [x1,x2,x3,x4],_,hx=>
  obtain⟨a,rfl,ha⟩:=hx x1 ac;obtain⟨b,rfl,hb⟩:=hx x2 ac;obtain⟨c,rfl,hc⟩:=hx x3 ac;obtain⟨d,rfl,hd⟩:=hx x4 ac;exact⟨(a,b,c,d),rfl,wf_i8 ha,wf_i8 hb,wf_i8 hc,wf_i8 hd⟩
theorem an4(h:Dat Rb ds):∃(k:Nat)(e:List I4)(b:Bool),ds=[.int .u8 k,.sl (RW e) (e.flatMap gQ),.bool b]∧k<256∧∀x∈e,oo x:=by obtain⟨a,b,rfl,⟨n,rfl,hn⟩,a',b',rfl,h2,_,_,rfl,⟨c,rfl⟩,rfl⟩:=h;have h2':=h2;obtain⟨xs,rfl,_⟩:=h2';have hb:=wf_u8 hn;have⟨e,he,hq⟩:=ZS (f:=gQ) oo ZT h2;exact⟨n.toNat,e,c,by simp only[Zo,List.cons_append,List.nil_append];rw[he,Int.toNat_of_nonneg hb.1],aa,hq⟩
def Ra:Sh:=.st [Rb,.ar 4 Q9]
theorem an3(h:Dat Ra ds):∃(k:Nat)(e:List I4)(b:Bool)(gs:List (List (Int×Nat))),k<256∧(∀x∈e,oo x)∧qZ gs∧ds.map V.d=gX k e b gs:=by
 obtain⟨a,b,rfl,h1,a',b',rfl,h2,rfl⟩:=h;obtain⟨k,e,c,rfl,hk,he⟩:=an4 h1;obtain⟨xs,rfl,hl,hx⟩:=h2
 match xs,hl,hx with
 | [x1,x2,x3,x4],_,hx=>
  have⟨g1,o1,e1⟩:=IQ (hx x1 ac);have⟨g2,o2,e2⟩:=IQ (hx x2 ac);have⟨g3,o3,e3⟩:=IQ (hx x3 ac);have⟨g4,o4,e4⟩:=IQ (hx x4 ac);refine⟨k,e,c,[g1,g2,g3,g4],hk,he,⟨rfl,λg hg=>?_⟩,?_⟩
  .simp only[Zy,Y4,or_false]at hg;rcases hg with rfl|rfl|rfl|rfl<;>assumption
  .simp only[List.flatten_cons,List.flatten_nil,Zo,Yn,e1,e2,e3,e4,gX,Xy,List.flatMap_nil];rfl
def Kz:Sh:=.st [KA,.st [.int .i8,.int .u8]]
theorem an6(ds:bF)(h:Dat Kz ds):∃m:Mk,ds=mD m∧yq m:=by obtain⟨a,b,rfl,h1,a',b',rfl,h2,rfl⟩:=h;obtain⟨x,rfl,hx⟩:=ZT _ h1;obtain⟨y,rfl,y1,y2⟩:=Ej h2;exact⟨(x,y.1,y.2),rfl,hx,y1,y2⟩
theorem an5{d:D}(h:Dat (.sl Kz) [d]):∃l:List Mk,d=.sl (RW l) (l.flatMap mD)∧∀m∈l,yq m:=ZS (f:=mD) yq an6 h
end Go.Vm
