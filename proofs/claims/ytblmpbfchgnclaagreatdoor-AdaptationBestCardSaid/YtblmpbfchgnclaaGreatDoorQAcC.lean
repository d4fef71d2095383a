/- Lemmas. -/
import Derived.Test.YtblmpbfchgnclaaGreatDoorQAbL
import Derived.ProofKit
import Derived.OpenShut
import Derived.Deep.DeepHandedRow
import Derived.Deep.Matrix
import Derived.Lib.LaidTab
import Derived.Test.YtblmpbfchgnclaaGreatDoorTie
import Derived.Test.YtblmpbfchgnclaaGreatDoorCards
set_option linter.unusedVariables false
set_option linter.unusedSimpArgs false
namespace Go.Vm
open Go Go.Am
variable{b n m fuel o i:Nat}{vs:LvQ}{ds:LdQ}{α:Type}{t:TypeId}{k:IntKind}{p r:LiQ}
mutual
def WD(w:World):D->Value->Prop
 |.int k n,v=>v=.int k n
 |.bool b,v=>v=.bool b
 |.str s,v=>v=.string ⟨⟨s⟩⟩
 |.pl u,v=>v=u∧plain u=true∧okCell u=true
 | .sl len cells,v=>(len=0∧cells=[]∧(v=.slice none 0 0∨∃a,v=.slice (some a) 0 0)) ∨
   ∃ c o cap n cs e fz,v=.slice (some ⟨c,o,none⟩) len cap∧len<=cap∧0<n∧cells.length=len*n ∧
    w.heap[c]?=some (.cells cs e fz)∧o+cells.length<=cs.size∧WDs w cells ((cs.toList.drop o).take cells.length)
def WDs(w:World):LdQ->LvQ->Prop
 |[],l=>l=[]
 |x::xs,l=>∃v vs,l=v::vs∧WD w x v∧WDs w xs vs
end
structure Ly(w:World)(φ:bG)(F:Nat->Prop)(H:AH):Prop where
 rel:bn X φ H w
 wf:WF H
 fr:∀c,F c->c<H.n∧∃x,H.get c=some x∧x.st=1
 ro:∀c x,H.get c=some x->x.wr=false
 top:∀b p,φ b=some p->b<H.n
 pg:∃p,φ od=some p
structure uS(φ:bG)(F:Nat->Prop)(H:AH)(φ':bG)(F':Nat->Prop)(H':AH):Prop where
 n:H.n<=H'.n
 le:PLe φ φ'
 fm:∀c,F c->F' c
 keep:∀c,c<H.n->H'.get c=H.get c
theorem uS.refl(φ:bG)(F:Nat->Prop)(H:AH):uS φ F H φ F H:=⟨Z7 _,PLe.refl _,fun _ h=>h,fun _ _=>rfl⟩
theorem uS.trans{φ φ1 φ2:bG}{F F1 F2:Nat->Prop}{H H1 H2:AH}(a:uS φ F H φ1 F1 H1)(b:uS φ1 F1 H1 φ2 F2 H2):uS φ F H φ2 F2 H2:=
 ⟨Zu a.n b.n,a.le.trans b.le,fun c h=>b.fm c (a.fm c h),fun c h=>by rw[b.keep c (Z1 h a.n),a.keep c h]⟩
theorem uS.leF{φ φ':bG}{F F':Nat->Prop}{H H':AH}{w:World}(L:Ly w φ F H)(a:uS φ F H φ' F' H'):LeF F F' H H':=
 ⟨a.fm,fun c hc=>a.keep c (L.fr c hc).1,fun c x hx h0=>⟨x,by grind[keep,AH.get_lt],h0⟩⟩
def roB(b n:Nat)(cells:LvQ):Blk:={cells,st:=1,wr:=false,fam:=b,start:=0,shared:=false,exact:=true,esz:=n,ver:=1}
theorem Ly.push{w:World}{φ:bG}{F:Nat->Prop}{H:AH}(L:Ly w φ F H){c o n:Nat}{us vs:LvQ}{cs:Array Value}{e:TypeId}{fz:Nat×Nat}(hh:w.heap[c]?=some (.cells cs e fz))
  (hlen:us.length=vs.length) (ho:o+us.length<=cs.size) (hvs:vs=(cs.toList.drop o).take us.length) (hr:am φ us vs) :
  Ly w (zj φ H.n ⟨c,o,us.length,n,cs.size,true⟩) (fun x=>F x∨x=H.n) (H.push (roB H.n n us)) ∧
  uS φ F H (zj φ H.n ⟨c,o,us.length,n,cs.size,true⟩) (fun x=>F x∨x=H.n) (H.push (roB H.n n us)):=by
 have hnone:φ H.n=none:=by
  cases hq:φ H.n with
  |none=>rfl
  |some p=>have:=L.top _ p hq;omega
 have hle:PLe φ (zj φ H.n ⟨c,o,us.length,n,cs.size,true⟩):=PLe.add hnone;have hn:(H.push (roB H.n n us)).n=H.n+1:=rfl;have old:∀b,b<H.n->(H.push (roB H.n n us)).get b=H.get b:=fun b hb=>AH.get_push aa
 have new:(H.push (roB H.n n us)).get H.n=some (roB H.n n us):=AH.get_push_new H _
 have ro:∀b x,(H.push (roB H.n n us)).get b=some x->x.wr=false:=fun b x hx=>by
  rcases Zi b H.n with h|h
  .grind[ro]
  .have hb:b=H.n:=by have:=AH.get_lt hx;omega
   subst hb;rw[new]at hx;cases hx;rfl
 refine ⟨⟨⟨fun g hg=>?_,fun b p hp=>?_,fun b p x i v hp hx h1 hv=>?_,fun b p x i hp hx h1 hi=>?_,fun b b' p p' x x' _ _ hx hx' _ _ _ _=>.inl ⟨ro b x hx,ro b' x' hx'⟩⟩,?_,fun b hb=>?_,ro,fun b p hp=>?_,L.pg.imp fun p hp=>hle _ p hp⟩,
  ⟨aa,hle,fun x h=>.inl h,old⟩⟩
 .obtain⟨p,hp,h1⟩:=L.rel.glob g hg;exact⟨p,hle g p hp,h1⟩
 .by_cases hb:b=H.n
  .subst hb;rw[dU]at hp;cases hp;exact⟨_,cs,e,fz,new,by simp[roB],rfl,rfl,rfl,hh,rfl,ho⟩
  .rw[fW hb]at hp;obtain⟨x,r⟩:=L.rel.dom b p hp
   grind[top]
 .by_cases hb:b=H.n
  .subst hb;rw[dU]at hp;cases hp;rw[new]at hx;cases hx;obtain⟨v',h1,h2⟩:=hr.at (i:=i) hv
   grind[av.mono,cell_of_heap]
  .rw[fW hb]at hp;rw[old b (L.top b p hp)]at hx;obtain⟨v',h2,h3⟩:=L.rel.cell b p x i v hp hx h1 hv
   grind[av.mono]
 .grind
 .refine⟨by simp[AH.push,L.wf.len],fun b x hx=>?_⟩;rcases Zi b H.n with h|h
  .rw[old b h]at hx;exact L.wf.fam b x hx
  .have hb:b=H.n:=by have:=AH.get_lt hx;omega
   subst hb;rw[new]at hx;cases hx;trivial
 .rcases hb with hb|rfl
  .obtain⟨h1,x,h2,h3⟩:=L.fr b hb;exact⟨aa,x,by grind,h3⟩
  .exact⟨aa,_,new,rfl⟩
 .by_cases hb:b=H.n
  .omega
  .rw[fW hb]at hp;have:=L.top b p hp;omega
mutual
theorem lay{w:World}:∀(d:D)(v:Value){φ:bG}{F:Nat->Prop}{H:AH},Ly w φ F H->WD w d v ->
  ∃φ' F' H' u,Ly w φ' F' H'∧uS φ F H φ' F' H'∧av φ' u v∧RD F' H' d u
 |.int k n,v,φ,F,H,L,h=>⟨φ,F,H,v,L,uS.refl ..,by simp only[WD]at h;subst h;rfl,h⟩
 |.bool b,v,φ,F,H,L,h=>⟨φ,F,H,v,L,uS.refl ..,by simp only[WD]at h;subst h;rfl,h⟩
 |.str s,v,φ,F,H,L,h=>⟨φ,F,H,v,L,uS.refl ..,by simp only[WD]at h;subst h;rfl,h⟩
 |.pl u,v,φ,F,H,L,h=>⟨φ,F,H,v,L,uS.refl ..,by grind[WD,av.of_plain],h⟩
 | .sl len cells,v,φ,F,H,L,h=>by
  simp only[WD]at h;rcases h with⟨rfl,rfl,rfl|⟨a,rfl⟩⟩|⟨c,o,cap,n,cs,e,fz,rfl,hlc,hn,hlen,hh,ho,hds⟩
  .exact⟨φ,F,H,.slice none 0 0,L,uS.refl ..,rfl,.inl ⟨rfl,rfl,.inl rfl⟩⟩
  .obtain⟨p,hp⟩:=L.pg;obtain⟨x,_,_,_,hx,h0,_⟩:=L.rel.dom _ _ hp;exact⟨φ,F,H,.slice (some ⟨od,0,none⟩) 0 0,L,uS.refl ..,⟨a,0,rfl,.inr ⟨rfl,rfl,rfl,rfl,p,hp⟩⟩,.inl ⟨rfl,rfl,.inr ⟨_,_,_,rfl,x,hx,h0⟩⟩⟩
  .obtain⟨φ1,F1,H1,us,L1,E1,r1,d1⟩:=lays cells _ L hds;have hl:us.length=cells.length:=by have:=d1.length;omega
   obtain⟨L2,E2⟩:=L1.push (us:=us) (n:=n) (o:=o) hh (by grind) aa (by rw[hl]) r1;refine⟨_,_,_,.slice (some ⟨H1.n,0,none⟩) len cap,L2,E1.trans E2,?_,?_⟩
   .refine⟨⟨c,o,none⟩,cap,rfl,.inl ⟨rfl,rfl,_,dU ..,rfl,rfl,.inl rfl⟩⟩
   .have new:(H1.push (roB H1.n n us)).get H1.n=some (roB H1.n n us):=AH.get_push_new H1 _;by_cases h0:len=0
    .subst h0;exact .inl ⟨rfl,Zf aa,.inr ⟨_,_,_,rfl,_,new,by simp[roB]⟩⟩
    .refine .inr ⟨H1.n,0,cap,us,n,rfl,aa,hlc,hn,hlen,.inr rfl,?_,RDs.mono (E2.leF L1) _ _ d1,_,new,.inl rfl⟩;rw[mW new rfl (by show 0+cells.length<=us.length;omega)]
     show some ((us.drop 0).take cells.length)=_
     grind
theorem lays{w:World}:∀(ds:LdQ)(vs:LvQ){φ:bG}{F:Nat->Prop}{H:AH},Ly w φ F H->WDs w ds vs ->
  ∃φ' F' H' us,Ly w φ' F' H'∧uS φ F H φ' F' H'∧am φ' us vs∧RDs F' H' ds us
 |[],vs,φ,F,H,L,h=>⟨φ,F,H,[],L,uS.refl ..,by trivial,rfl⟩
 | d::ds,vs,φ,F,H,L,h=>by
  simp only[WDs]at h;obtain⟨v,vs,rfl,h1,h2⟩:=h;obtain⟨φ1,F1,H1,u,L1,E1,r1,d1⟩:=lay d v L h1;obtain⟨φ2,F2,H2,us,L2,E2,r2,d2⟩:=lays ds vs L1 h2;exact⟨φ2,F2,H2,u::us,L2,E1.trans E2,⟨v,vs,rfl,av.mono E2.le u v r1,r2⟩,⟨u,us,rfl,RD.mono (E2.leF L1) _ _ d1,d2⟩⟩
end
def aas:Nat->List Blk
 |0=>[]
 |n+1=>yF::aas n
theorem Lp:∀(n i:Nat)(x:Blk),(aas n)[i]?=some x->x=yF
 |0,_,_,h=>by trivial
 |n+1,0,x,h=>by grind[aas]
 |n+1,i+1,x,h=>Lp n i x (by trivial)
def BA:LvQ:=[.int .u64 1,.int .u64 10,.int .u64 100,.int .u64 1000,.int .u64 10000,.int .u64 100000,.int .u64 1000000,.int .u64 10000000,.int .u64 100000000,.int .u64 1000000000,.int .u64 10000000000,.int .u64 100000000000,
 .int .u64 1000000000000,.int .u64 10000000000000,.int .u64 100000000000000,.int .u64 1000000000000000,.int .u64 10000000000000000,.int .u64 100000000000000000,.int .u64 1000000000000000000,.int .u64 10000000000000000000]
def QU(w:World):Prop:=∃cs e fz,w.heap[od]?=some (.cells cs e fz)∧20<=cs.size∧BA=cs.toList.take 20
def H00:AH:=⟨od,aas od⟩
theorem ab3{x:Blk}(h:H00.get b=some x):x=yF:=by
 unfold AH.get at h;split at h
 .exact Lp _ _ _ h
 .trivial
theorem start{w:World}(hp:QU w):∃φ F H,Ly w φ F H∧p9 Y F H:=by
 obtain⟨cs,e,fz,hh,hsz,hcs⟩:=hp
 let φ:bG:=fun b=>if b=od then some ⟨od,0,20,1,cs.size,true⟩else none
 let H:AH:=H00.push (roB od 1 BA)
 have hn:H.n=od+1:=rfl;have new:H.get od=some (roB od 1 BA):=AH.get_push_new H00 _
 have old:∀{b x},b≠od->H.get b=some x->x=yF:=fun{b x} hb hx=>by
  grind[H00,AH.get_push,ab3]
 have hφ:∀{b p},φ b=some p->b=od∧p=⟨od,0,20,1,cs.size,true⟩:=fun{b p} h=>by
  grind
 have ro:∀b x,H.get b=some x->x.wr=false:=fun b x hx=>by
  by_cases hb:b=od
  .subst hb;rw[new]at hx;cases hx;rfl
  .rw[old hb hx];rfl
 have L:Ly w φ (· = od) H:=by
  refine⟨⟨fun g hg=>?_,fun b p hp=>?_,fun b p x i v hp hx h1 hv=>?_,fun b p x i hp hx h1 hi=>?_,fun b b' p p' x x' _ _ hx hx' _ _ _ _=>.inl ⟨ro b x hx,ro b' x' hx'⟩⟩,?_,?_,ro,fun b p hp=>?_,⟨⟨od,0,20,1,cs.size,true⟩,by rfl⟩⟩
  .have:g=od:=by simpa[X]using hg
   exact⟨⟨od,0,20,1,cs.size,true⟩,by grind,this.symm,rfl⟩
  .grind[roB]
  .obtain⟨rfl,rfl⟩:=hφ hp;rw[new]at hx;cases hx;have hv':BA[i]?=some v:=hv;refine⟨v,?_,?_⟩
   .grind[cell_of_heap]
   .have hm:v∈BA:=W0 hv';have:BA.all plain=true:=rfl
    grind[av.of_plain]
  .grind
  .refine⟨by rfl,fun b x hx=>?_⟩;by_cases hb:b=od
   .subst hb;rw[new]at hx;cases hx;trivial
   .rw[old hb hx];exact Yl _
  .rintro c rfl;exact⟨aa,_,new,rfl⟩
  .grind
 refine⟨φ,_,H,L,fun g cs' hg=>?_⟩
 have hgp:g=od∧cs'=Ll:=by
  simp only[Y]at hg;split at hg
  .simp_all
  .cases hg
 obtain⟨rfl,rfl⟩:=hgp;refine⟨X7 _,rfl,BA,?_,?_⟩
 .rfl
 simp[Ll,BA,RDs,RD]
open Go.ChangeShapes Go.WideShapes Go.ChangeAt Go.RowKit
variable{HH:Type}{enc:TypeId×Value->HH}{P:Program}{w:World}{base:Nat}{held:Bool}
theorem MQ{a:Addr}{v:Value}(h:w.cell? a=some v):∃cs e fz,w.heap[a.block]?=some (.cells cs e fz)∧a.spot=none∧cs[a.off]?=some v:=by
 unfold World.cell? at h;split at h
 .rename_i c e fz hc;split at h
  .cases h
  .rename_i hs;refine⟨c,e,fz,hc,?_,h⟩;cases hq:a.spot with
   |none=>rfl
   |some s=>rw[hq]at hs;simp at hs
 .cases h
theorem addr_add(a:Addr)(hs:a.spot=none)(i:Nat):a.add i=⟨a.block,a.off+i,none⟩:=by
 unfold Addr.add;split
 .rename_i h;subst h;cases a;simp at hs ⊢;exact hs
 .rfl
theorem Ib{a:Addr}(h:∀i v,vs[i]?=some v->w.cell? (a.add i)=some v)(hp:0<vs.length):
  ∃cs e fz,w.heap[a.block]?=some (.cells cs e fz)∧a.spot=none∧a.off+vs.length<=cs.size∧vs=(cs.toList.drop a.off).take vs.length:=by
 obtain⟨v0,h0⟩:∃v,vs[0]?=some v:=⟨vs[0],by simp[hp]⟩;obtain⟨cs,e,fz,hc,hs,_⟩:=MQ (h 0 v0 h0);have ha0:a.add 0=a:=by unfold Addr.add;simp
 rw[ha0]at hc hs
 have at_:∀i v,vs[i]?=some v->cs[a.off+i]?=some v:=fun i v hv=>by
  obtain⟨cs',e',fz',hc',_,hv'⟩:=MQ (h i v hv);rw[addr_add a hs]at hc' hv';simp only at hc' hv';rw[hc]at hc';cases hc';exact hv'
 have hle:a.off+vs.length<=cs.size:=by
  have hl:=at_ (vs.length-1) vs[vs.length-1] (by rw[List.getElem?_eq_getElem]);have:=(Array.getElem?_eq_some_iff.1 hl).1;omega
 refine⟨cs,e,fz,hc,hs,hle,?_⟩;apply X8;intro i;by_cases hi:i<vs.length
 .rw[List.getElem?_take_of_lt hi,List.getElem?_drop];have:=at_ i vs[i] (by rw[List.getElem?_eq_getElem hi]);rw[List.getElem?_eq_getElem hi];simpa using this.symm
 .rw[List.getElem?_eq_none aa,List.getElem?_eq_none bK]
inductive Sh where
 |int (k:IntKind)
 |bool
 |str
 |sl (e:Sh)
 |ar (n:Nat) (e:Sh)
 |st (fs:List Sh)
variable{s e:Sh}
mutual
/-- A type has a shape. -/
def Typ(P:Program):Sh->TypeId->Prop
 |.int k,t=>P.underlying t=some (.int k)∧P.cellsOf t=1
 |.bool,t=>P.underlying t=some .bool∧P.cellsOf t=1
 |.str,t=>P.underlying t=some .string∧P.cellsOf t=1
 |.sl e,t=>∃u,P.underlying t=some (.slice u)∧P.cellsOf t=1∧0<P.cellsOf u∧Typ P e u
 |.ar n e,t=>∃u,P.underlying t=some (.array n u)∧P.cellsOf t=n*P.cellsOf u∧Typ P e u
 |.st fs,t=>∃l:List Field,P.underlying t=some (.struct l.toArray)∧SF P fs l 0 (P.cellsOf t)
def SF(P:Program):List Sh->List Field->Nat->Nat->Prop
 |[],l,o,n=>l=[]∧o=n
 |s::ss,l,o,n=>∃f r,l=f::r∧f.offset=o∧Typ P s f.type∧SF P ss r (o+P.cellsOf f.type) n
end
mutual
/-- Cells of a shape. -/
def Dat:Sh->LdQ->Prop
 |.int k,ds=>∃n,ds=[.int k n]∧(Lit.int k n).wf=true
 |.bool,ds=>∃b,ds=[.bool b]
 |.str,ds=>∃s:LuQ,ds=[.str s]∧s.length<=maxLen
 |.sl e,ds=>∃xs:List LdQ,ds=[.sl xs.length xs.flatten]∧∀x∈xs,Dat e x
 |.ar n e,ds=>∃xs:List LdQ,ds=xs.flatten∧xs.length=n∧∀x∈xs,Dat e x
 |.st ss,ds=>aeO ss ds
def aeO:List Sh->LdQ->Prop
 |[],ds=>ds=[]
 |s::ss,ds=>∃a b,ds=a++b∧Dat s a∧aeO ss b
end
theorem WDs.append:∀{a b:LdQ}{u v:LvQ},WDs w a u->WDs w b v->WDs w (a++b) (u++v)
 |[],b,u,v,h,h2=>by grind[WDs]
 | x::a,b,u,v,h,h2=>by
  simp only[WDs]at h;obtain⟨y,u,rfl,h0,h1⟩:=h;exact⟨y,u++v,rfl,h0,h1.append h2⟩
theorem WDs.len:∀{a:LdQ}{u:LvQ},WDs w a u->a.length=u.length
 |[],u,h=>by grind[WDs]
 | x::a,u,h=>by
  simp only[WDs]at h;obtain⟨y,u,rfl,_,h1⟩:=h;simp[h1.len]
theorem vk{α:Type}(C:Nat->List α)(n:Nat):∀m,(∀i,i<m->(C i).length=n)->((List.range m).flatMap C).length=m*n∧∀i j,i<m->j<n->((List.range m).flatMap C)[i*n+j]?=(C i)[j]?
 |0,_=>⟨af,fun i j hi=>by omega⟩
 | m+1,h=>by
  obtain⟨h1,h2⟩:=vk C n m fun i hi=>h i aa
  have e:(List.range (m+1)).flatMap C=(List.range m).flatMap C++C m:=by simp[Y3]
  rw[e];refine⟨by rw[Zm,h1,h m aa,X5],fun i j hi hj=>?_⟩;by_cases him:i<m
  .rw[List.getElem?_append_left,h2 i j him hj];rw[h1]
   calc i*n+j<i*n+n:=aa
    _=(i+1)*n:=by rw[X5]
    _<=m*n:=Zz n him
  .obtain rfl:i=m:=aa
   simp_all
theorem Bc(C:Nat->LvQ)(X:Nat->LdQ):∀m,(∀i,i<m->WDs w (X i) (C i))->WDs w ((List.range m).flatMap X) ((List.range m).flatMap C)
 |0,_=>rfl
 | m+1,h=>by
  simp only[Y3,List.flatMap_append,Xn,List.flatMap_nil,Y8];exact(Bc C X m fun i hi=>h i aa).append (h m aa)
theorem QY{a:Addr}{len cap:Nat}(hn:0<n)(hl:len<=cap)(hlen:vs.length=cap*n)(h:∀i v,vs[i]?=some v->w.cell? (a.add i)=some v)(hd:WDs w ds (vs.take (len*n)))(hds:ds.length=len*n):WD w (.sl len ds) (.slice (some a) len cap):=by
 simp only[WD];by_cases h0:cap=0
 .have e:len=0:=aa
  simp_all
 .have hpos:0<vs.length:=by rw[hlen];exact Yx aa hn
  have hle2:len*n<=vs.length:=by rw[hlen];exact Zz n hl
  obtain⟨cs,e,fz,hc,hs,hle,hvs⟩:=Ib h hpos;refine .inr ⟨a.block,a.off,cap,n,cs,e,fz,?_,hl,hn,hds,hc,aa,?_⟩
  .cases a;grind
  grind
def Opn(enc:TypeId×Value->HH)(P:Program)(w:World)(base:Nat)(held:Bool)(s:Sh):Prop:=
 ∀(t:TypeId)(fuel:Nat)(cs:LvQ)(x:DataW HH×List MemPlace),Typ P s t->DataW.trod enc P w base (fun _=>true) held fuel t cs=some x->cs.length=P.cellsOf t∧∃ds,Dat s ds∧WDs w ds cs
theorem JM[Inhabited α]{p:Nat->α->Prop}(h:∀i,i<m->∃x,p i x):∃f:Nat->α,∀i,i<m->p i (f i):=
 ⟨fun i=>if hi:i<m then Classical.choose (h i hi)else default,fun i hi=>by
  grind⟩
theorem adS(ih:Opn enc P w base held s):Opn enc P w base held (.sl s):=by
 intro t fuel cs x ht h;simp only[Typ]at ht;obtain⟨u,hu,hc1,hcu,hs⟩:=ht;rcases Deep.open_slice hu h with⟨rfl,_⟩|⟨a,len,cap,m,n,Dd,Pl,rfl,_,hlc,_,hm,_,hx⟩
 .exact⟨by grind,[.sl 0 []],⟨[],rfl,fun x hx=>by cases hx⟩,_,_,rfl,.inl ⟨rfl,rfl,.inl rfl⟩,rfl⟩
 .simp only[if_true]at hm;subst hm;obtain⟨C,hC⟩:=JM (α:=LvQ) hx
  obtain ⟨E,hE⟩:=JM (α:=LdQ) (p:=fun i e=>Dat s e∧WDs w e (C i)) (m:=m) fun i hi=>by
   obtain⟨_,ds,h1,h2⟩:=ih _ _ _ _ hs (hC i hi).2
   grind
  have hCl:∀i,i<m->(C i).length=P.cellsOf u:=fun i hi=>(World.cells?_some (hC i hi).1).2.1
  obtain⟨hl1,hl2⟩:=vk C (P.cellsOf u) m hCl;have hEl:∀i,i<m->(E i).length=P.cellsOf u:=fun i hi=>by rw[(hE i hi).2.len,hCl i hi]
  refine⟨by grind,[.sl ((List.range len).map E).length ((List.range len).map E).flatten],⟨_,rfl,fun x hx=>?_⟩,_,_,rfl,?_,rfl⟩
  .simp only[Zc,X6]at hx;obtain⟨i,hi,rfl⟩:=hx;exact(hE i aa).1
  .rw[List.length_map,Y0,<-List.flatMap_def];refine QY (vs:=(List.range m).flatMap C) hcu hlc hl1 (fun i v hv=>?_) ?_ (vk E (P.cellsOf u) len fun i hi=>hEl i aa).1
   .have hi:=(List.getElem?_eq_some_iff.1 hv).1;rw[hl1]at hi;have hdm:=Yf i (P.cellsOf u);have hmod:=Y7 i hcu;have hdiv:i/P.cellsOf u<m:=Wl (by grind);have e:i=i/P.cellsOf u*P.cellsOf u+i%P.cellsOf u:=by rw[Zt];exact hdm.symm
    have:=(World.cells?_some (hC _ hdiv).1).2.2 (i%P.cellsOf u) hmod
    grind[Addr.add_add]
   ·have e:((List.range m).flatMap C).take (len*P.cellsOf u)=(List.range len).flatMap C:=by
     have e1:List.range m=List.range len++(List.range (m-len)).map (len + ·):=by
      conv=>lhs;rw[show m=len+(m-len) by omega,List.range_add]
     rw[e1,List.flatMap_append,Xy];exact(vk C (P.cellsOf u) len fun i hi=>hCl i aa).1
    rw[e];exact Bc C E len fun i hi=>(hE i aa).2
theorem adT(ih:Opn enc P w base held s):Opn enc P w base held (.ar n s):=by
 intro t fuel cs x ht h;simp only[Typ]at ht;obtain⟨u,hu,hct,hs⟩:=ht;obtain⟨xs,m,_,_,hl,hxl,hx⟩:=DataW.trod_array hu h
 let C:Nat->LvQ:=fun i=>(cs.drop (i*P.cellsOf u)).take (P.cellsOf u)
 obtain ⟨E,hE⟩:=JM (α:=LdQ) (p:=fun i e=>Dat s e∧WDs w e (C i)) (m:=n) fun i hi=>by
  have:=hx i hi;rw[List.getElem?_eq_getElem aa]at this;obtain⟨_,ds,h1,h2⟩:=ih _ _ _ _ hs this
  grind
 refine⟨hl,((List.range n).map E).flatten,⟨_,rfl,af,fun x hx=>?_⟩,?_⟩
 .grind
 .rw[<-List.flatMap_def]
  have e:∀m,m<=n->cs.take (m*P.cellsOf u)=(List.range m).flatMap C:=by
   intro m
   induction m with
   |zero=>simp
   | succ m ihm=>
    intro hm;rw[X5,List.take_add,ihm aa];simp[Y3,C]
  have:=e n (Z7 _);rw[Z6 aa]at this
  grind[Bc]
mutual
theorem opn:∀s:Sh,Opn enc P w base held s
 | .int k=>by
  intro t fuel cs x ht h;simp only[Typ]at ht;obtain⟨n,rfl,_,hw⟩:=DataW.trod_int ht.1 h;exact⟨by grind,[.int k n],⟨n,rfl,hw⟩,_,_,rfl,rfl,rfl⟩
 | .bool=>by
  intro t fuel cs x ht h;simp only[Typ]at ht;obtain⟨b,rfl,_⟩:=DataW.trod_bool ht.1 h;exact⟨by grind,[.bool b],⟨b,rfl⟩,_,_,rfl,rfl,rfl⟩
 | .str=>by
  intro t fuel cs x ht h;simp only[Typ]at ht;obtain⟨s,rfl,_,hs⟩:=DataW.trod_string ht.1 h;exact⟨by grind,[.str s.data.toList],⟨_,rfl,by trivial⟩,_,_,rfl,rfl,rfl⟩
 |.sl e=>adS (opn e)
 |.ar n e=>adT (opn e)
 | .st ss=>by
  intro t fuel cs x ht h;simp only[Typ]at ht;obtain⟨l,hu,hl⟩:=ht;obtain⟨xs,m,_,_,hcl,hxl,hx⟩:=DataW.trod_struct hu h;refine⟨hcl,?_⟩
  have:=afH ss (l:=l) (o:=0) (n:=P.cellsOf t) (fuel:=m) (cs:=cs) hl hcl fun f hf=>by
   obtain⟨i,hi⟩:=List.getElem?_of_mem hf;have h1:=hx i f (by grind)
   grind
  trivial
theorem afH:∀(ss:List Sh){l:List Field}{o n fuel:Nat}{cs:LvQ},SF P ss l o n->cs.length=n ->
  (∀f∈l,∃x,DataW.trod enc P w base (fun _=>true) held fuel f.type ((cs.drop f.offset).take (P.cellsOf f.type))=some x)->∃ds,aeO ss ds∧WDs w ds (cs.drop o)
 | [],l,o,n,fuel,cs,ht,hl,h=>by
  simp only[SF]at ht;refine⟨[],rfl,?_⟩;rw[Zb aa];rfl
 | s::ss,l,o,n,fuel,cs,ht,hl,h=>by
  simp only[SF]at ht;obtain⟨f,r,rfl,rfl,h1,h2⟩:=ht;obtain⟨x,hx⟩:=h f af;obtain⟨_,a,ha,wa⟩:=opn s _ _ _ _ h1 hx;obtain⟨b,hb,wb⟩:=afH ss h2 hl fun g hg=>h g (by grind)
  refine⟨a++b,⟨a,b,rfl,ha,hb⟩,?_⟩
  have e:cs.drop f.offset=(cs.drop f.offset).take (P.cellsOf f.type)++cs.drop (f.offset+P.cellsOf f.type):=by
   rw[<-List.drop_drop,Yi]
  grind[WDs.append]
end
inductive Ar where
 |one (x:D)
 |many (xs:LdQ)
def Ar.v:Ar->V
 |.one x=>.d x
 |.many xs=>.agg (xs.map .d)
def WA(w:World):Ar->Value->Prop
 |.one x,v=>WD w x v
 |.many xs,v=>∃ws,v=.agg ⟨ws⟩∧WDs w xs ws
def WAs(w:World):List Ar->LvQ->Prop
 |[],l=>l=[]
 |x::xs,l=>∃v vs,l=v::vs∧WA w x v∧WAs w xs vs
theorem TI{F1:Nat->Prop}{H1:AH}(φ0:LnQ)(h0:Hp):∀(ds:LdQ)(us:LvQ),RDs F1 H1 ds us->RVs φ0 F1 H1 h0 (ds.map .d) us
 |[],us,h=>by trivial
 | d::ds,us,h=>by
  simp only[RDs]at h;obtain⟨u,us,rfl,h1,h2⟩:=h;exact⟨u,us,rfl,h1,TI φ0 h0 ds us h2⟩
def RAs(F:Nat->Prop)(H:AH)(rs:List Ar)(us:LvQ):Prop:=∀φ0 h0,RVs φ0 F H h0 (rs.map Ar.v) us
theorem ad8:∀(rs:List Ar)(vs:LvQ){φ:bG}{F:Nat->Prop}{H:AH},Ly w φ F H->WAs w rs vs ->
  ∃φ' F' H' us,Ly w φ' F' H'∧uS φ F H φ' F' H'∧am φ' us vs∧RAs F' H' rs us
 |[],vs,φ,F,H,L,h=>⟨φ,F,H,[],L,uS.refl ..,by trivial,fun _ _=>rfl⟩
 | .one x::rs,vs,φ,F,H,L,h=>by
  simp only[WAs,WA]at h;obtain⟨v,vs,rfl,h1,h2⟩:=h;obtain⟨φ1,F1,H1,u,L1,E1,r1,d1⟩:=lay x v L h1;obtain⟨φ2,F2,H2,us,L2,E2,r2,d2⟩:=ad8 rs vs L1 h2;exact⟨φ2,F2,H2,u::us,L2,E1.trans E2,⟨v,vs,rfl,av.mono E2.le u v r1,r2⟩,fun φ0 h0=>⟨u,us,rfl,RD.mono (E2.leF L1) _ _ d1,d2 φ0 h0⟩⟩
 | .many xs::rs,vs,φ,F,H,L,h=>by
  simp only[WAs,WA]at h;obtain⟨v,vs,rfl,⟨ws,rfl,h1⟩,h2⟩:=h;obtain⟨φ1,F1,H1,us1,L1,E1,r1,d1⟩:=lays xs ws L h1;obtain⟨φ2,F2,H2,us,L2,E2,r2,d2⟩:=ad8 rs vs L1 h2;exact⟨φ2,F2,H2,.agg ⟨us1⟩::us,L2,E1.trans E2,⟨_,vs,rfl,⟨ws,rfl,am.mono E2.le _ _ r1⟩,r2⟩,fun φ0 h0=>⟨_,us,rfl,⟨us1,rfl,TI φ0 h0 _ _ (RDs.mono (E2.leF L1) _ _ d1)⟩,d2 φ0 h0⟩⟩
theorem JP{f:FuncId}{rs:List Ar}{b:Bool}{w:World}(hc:CP Y f (rs.map Ar.v) (.d (.bool b)))(hw:WAs w rs vs)(hp:QU w):
  Calls X.P f vs.toArray w fun e w'=>e=.returned (.bool b)∧w'.os=w.os∧w'.output=w.output∧w.heap.size<=w'.heap.size∧∀c,c<w.heap.size->w'.heap[c]?=w.heap[c]?:=by
 obtain⟨φ,F,H,L,g⟩:=start hp;obtain⟨φ1,F1,H1,us,L1,E1,r1,d1⟩:=ad8 rs vs L hw;obtain⟨n,wv,H2,F2,hcall,hn,_,_,_,_,_,_,_,hr⟩:=agE vOk hc F1 H1 us L1.wf L1.fr (g.mono (E1.leF L)) d1
 have hv:wv=.bool b:=by
  have:=hr [] [];simpa only[RV,RD]using this
 subst hv;refine(MR adV hcall L1.rel (args':=vs.toArray) r1).mono ?_;rintro e w' ⟨φ',v',rfl,h1,h2,h3,h4⟩;have hv':v'=.bool b:=(av.of_plain (.bool b) rfl v').1 h1;subst hv';refine⟨rfl,h3.os,h3.out,h3.size,fun c hc=>h3.frame c hc ?_⟩;rintro⟨b',p,x,_,_,hx,_,hwr⟩
 grind[Ly.ro]
theorem ZH{v:Value}{x:DataW HH×List MemPlace}(ht:Typ P s t)(h:DataW.trod enc P w base (fun _=>true) held fuel t v.cells.toList=some x)(hv:∃cs,v=.agg cs):
  ∃ds,Dat s ds∧WA w (.many ds) v:=by obtain⟨hl,ds,h1,h2⟩:=opn s _ _ _ _ ht h;obtain⟨cs,rfl⟩:=hv;exact⟨ds,h1,cs.toList,rfl,h2⟩
theorem NA{P:Program}{W:World}{base:Nat}{fs:Array Field}{v:Value}(ht:P.underlying t=some (.struct fs))(h:Value.okWide P W .any base t v):∃cs,v=.agg cs:=by grind[Value.okWide]
def QV(W W':World):Prop:=W'.os=W.os∧W'.output=W.output∧W.heap.size<=W'.heap.size∧∀c,c<W.heap.size->W'.heap[c]?=W.heap[c]?
variable{H:Type}{enc:TypeId×Value->H}{P:Program}
theorem QV.but{W W':World}(h:QV W W')(may:MemPlace->Prop):W.keptBut W' may:=by
 refine⟨h.1,h.2.1,fun i hi=>?_⟩;rw[h.2.2.2 i hi];cases hq:W.heap[i]? with
 |none=>simp
 |some o=>cases o<;>simp
theorem Rv{f:Func}{s:ChangeSpec}{apart fresh handsOn again:Bool}{W W':World}{args:Array Value}{v:Value}{ds gs:List (DataW H)}{before pa pv:List MemPlace}
  (hW:DataW.Whole enc P f.params.toList s.vars apart W args.toList ds gs before)
  (hres:∀(b:Nat)(sp:Nat->Bool)(hd:Bool),DataW.TrodAll enc P W' b sp hd f.resultTypes.toList (v.resultList f.resultTypes.size) (s.fn H (ds++gs)).results [])
  (hargs:∀sp:Nat->Bool,(∀p∈before,sp p.block=true)->DataW.TrodAll enc P W' 0 sp true f.params.toList args.toList (s.fn H (ds++gs)).args pa)
  (hvars:∀sp:Nat->Bool,(∀p∈before,sp p.block=true)->DataW.TrodVars enc P W' sp s.vars (s.fn H (ds++gs)).vars pv)
  (hps:before=pa++pv) (hk:QV W W')
  (hok:∀(j:Nat)(t:TypeId)(r:Value),f.resultTypes[j]?=some t->(v.resultList f.resultTypes.size)[j]?=some r->Value.okWide P W' .any 0 t r) :
  s.post enc P f apart fresh handsOn again W args v W':=by
 have hold:∀p∈before,(fun b=>decide (b<W.heap.size)) p.block=true:=fun p hp=>by simpa using hW.lt p hp
 have hlt:=hW.lt;refine⟨ds,gs,before,[],pa,pv,hW,hres _ _ _,hargs _ hold,hvars _ hold,World.keptBut_mono (fun p hp=>⟨hp,?_⟩) (hk.but (· ∈ before)),fun _=>?_⟩
 .rw[hps,W4]at hp;exact Or.inr hp
 .obtain⟨_,_,_,_,_,hz,hn⟩:=hW;refine⟨hok,_,_,([]++pa)++pv,⟨[]++pa,pv,trodAll_append (hargs _ (fun _ _=>rfl)) (hres _ _ _),hvars _ (fun _ _=>rfl),rfl,?_,?_⟩,?_⟩
  .intro b off hp;have hp':MemPlace.cell b off∈before:=by rw[hps];simpa using hp
   have hb:b<W.heap.size:=hlt _ hp';have:=hz b off hp';simp only[World.frozen?]at this ⊢;rw[hk.2.2.2 b hb];exact this
  .intro ha;have:=hn ha;rw[hps]at this;simpa using this
  .intro p hp _;rw[hps];simpa using hp
theorem zD(hl:laidOutB P=true){W W':World}(hk:QV W W'){sp:Nat->Bool}:∀{ts:List TypeId}{vs:LvQ}{ds:List (DataW H)}{ps:List MemPlace},(∀t∈ts,P.readableRec t=true∧t<P.types.size) ->
  DataW.TrodAll enc P W 0 (fun _=>true) true ts vs ds ps->(∀p∈ps,p.block<W.heap.size)->(∀p∈ps,sp p.block=true)->DataW.TrodAll enc P W' 0 sp true ts vs ds ps
 | [],vs,ds,ps,_,h,_,_=>by
  obtain⟨rfl,rfl,rfl⟩:=trodAll_nil h;exact trodAll_mk0
 | t::ts,vs,ds,ps,hr,h,hlt,hsp=>by
  obtain⟨v,vs',d,ds',p,q,rfl,rfl,rfl,h1,h2⟩:=trodAll_cons h;refine trodAll_cons_mk (WideElems.Trod_stays hl (hr t af).1 (hr t af).2 h1 (fun x hx=>?_) fun x hx=>hsp x (by simp[hx])) (zD hl hk (fun u hu=>hr u (by simp[hu])) h2 (fun x hx=>hlt x (by simp[hx])) fun x hx=>hsp x (by simp[hx]));have hb:=hlt x (by simp[hx]);cases x with
  | cell b off=>
   simp only[World.sameAt,World.cell?];rw[hk.2.2.2 b hb]
  |map b=>exact hk.2.2.2 b hb
theorem E6{P:Program}{w:World}:∀{l:List (String×DataW Unit)}{ps:List MemPlace},DataW.LaidVars P w l ps->∀n d,(n,d)∈l ->
  ∃g t cs fuel p,P.globalNamed n=some g∧(P.globals[g]?).map (·.type)=some t∧w.var? P n=some cs∧DataW.trod (fun _=>()) P w 0 (fun _=>true) false fuel t cs.toList=some (d,p)
 |[],_,_,_,_,hm=>by cases hm
 | (n',d')::r,ps,h,n,d,hm=>by
  obtain⟨g,t,cs,fuel,p,q,h1,h2,h3,h4,h5,_⟩:=h;rcases Zo.1 hm with e|e
  .cases e;exact⟨g,t,cs,fuel,p,h1,h2,h3,h4⟩
  .exact E6 h5 n d e
def adO:LiQ:=[1,10,100,1000,10000,100000,1000000,10000000,100000000,1000000000,10000000000,100000000000,1000000000000,10000000000000,100000000000000,1000000000000000,10000000000000000,100000000000000000,1000000000000000000,10000000000000000000]
theorem adM{P:Program}{W:World}{name:String}{t e:TypeId}(hg:P.globalNamed name=some od)(hty:(P.globals[od]?).map (·.type)=some t)(ht:P.underlying t=some (.array 20 e))(he:P.underlying e=some (.int .u64))(hce:P.cellsOf e=1)(hct:P.cellsOf t=20)
  {l:List (String×DataW Unit)} (hm:(name,Lib.tabData .u64 adO)∈l) (h:laidMet P l W):QU W:=by
 obtain⟨ps,hv,_⟩:=h;obtain⟨g',t',cs,fuel,p,hg',ht',hvar,hd⟩:=E6 hv _ _ hm;obtain rfl:=Option.some.inj (hg.symm.trans hg');obtain rfl:=Option.some.inj (hty.symm.trans ht')
 have tab:Lib.TabIs P W name .u64 adO:=by
  unfold Lib.TabIs;rw[hvar,<-Lib.cells_of_tab ht he hce hct hd]
 have hpv:∀i v,BA[i]?=some v->W.cell? ((⟨od,0,none⟩:Addr).add i)=some v:=by
  intro i v hv;have hi:i<20:=(List.getElem?_eq_some_iff.1 hv).1;rw[addr_add _ rfl];have h1:=tab.cell hg i hi;simp only[Zp];rw[h1];have h2:BA=adO.map fun z=>Value.int .u64 z:=rfl
  rw[h2,List.getElem?_map,Z3]at hv;obtain⟨z,hz,rfl⟩:=hv;simp[hz]
 obtain⟨cs,e,fz,h1,_,h2,h3⟩:=Ib (w:=W) (a:=⟨od,0,none⟩) (vs:=BA) hpv ae;exact⟨cs,e,fz,h1,by simpa[BA]using h2,by simpa[BA]using h3⟩
open Go.Proofs Go.Proofs.YtblmpbfchgnclaaGreatDoor
theorem aij:Tryz.prog.globalNamed "internal/strconv.uint64pow10" = some od:=by kernel_rfl
theorem VS:(Tryz.prog.globals[od]?).map (·.type)=some 249:=ah
theorem ado:Tryz.prog.underlying 249=some (.array 20 197):=ah
theorem adn:Tryz.prog.underlying 197=some (.int .u64):=ah
theorem XJ:Tryz.prog.cellsOf 197=1:=ah
theorem XM:Tryz.prog.cellsOf 249=20:=ah
mutual
/-- Has a type a shape? -/
def Gb(P:Program):Sh->TypeId->Bool
 | .int k,t=>(match P.underlying t with
  |some (.int k')=>decide (k'=k)
  |_=>false)&&Nat.beq (P.cellsOf t) 1
 | .bool,t=>(match P.underlying t with
  |some .bool=>true
  |_=>false)&&Nat.beq (P.cellsOf t) 1
 | .str,t=>(match P.underlying t with
  |some .string=>true
  |_=>false)&&Nat.beq (P.cellsOf t) 1
 | .sl e,t=>(match P.underlying t with
  |some (.slice u)=>Nat.beq (P.cellsOf t) 1&&Nat.blt 0 (P.cellsOf u)&&Gb P e u
  |_=>false)
 | .ar n e,t=>(match P.underlying t with
  |some (.array m u)=>Nat.beq m n&&Nat.beq (P.cellsOf t) (n*P.cellsOf u)&&Gb P e u
  |_=>false)
 | .st fs,t=>(match P.underlying t with
  |some (.struct l)=>G4 P fs l.toList 0 (P.cellsOf t)
  |_=>false)
def G4(P:Program):List Sh->List Field->Nat->Nat->Bool
 |[],l,o,n=>l.isEmpty&&Nat.beq o n
 | s::ss,l,o,n=>(match l with
  |[]=>false
  |f::r=>Nat.beq f.offset o&&Gb P s f.type&&G4 P ss r (o+P.cellsOf f.type) n)
end
mutual
theorem Iz{P:Program}:∀{s:Sh}{t:TypeId},Gb P s t=true->Typ P s t
 | .int k,t,h=>by
  simp only[Gb,Z8]at h;obtain⟨h1,h2⟩:=h;split at h1
  .rename_i h3;obtain rfl:=of_decide_eq_true h1;exact⟨h3,Zl h2⟩
  .cases h1
 | .bool,t,h=>by
  simp only[Gb,Z8]at h;obtain⟨h1,h2⟩:=h;split at h1
  .rename_i h3;exact⟨h3,Zl h2⟩
  .cases h1
 | .str,t,h=>by
  simp only[Gb,Z8]at h;obtain⟨h1,h2⟩:=h;split at h1
  .rename_i h3;exact⟨h3,Zl h2⟩
  .cases h1
 | .sl e,t,h=>by
  simp only[Gb]at h;split at h
  .rename_i u h3;simp only[Z8]at h;obtain⟨⟨h1,h2⟩,h4⟩:=h;exact⟨u,h3,Zl h1,by have:=h2;simp[Nat.blt]at this;omega,Iz h4⟩
  .cases h
 | .ar n e,t,h=>by
  simp only[Gb]at h;split at h
  .rename_i m u h3;simp only[Z8]at h;obtain⟨⟨h1,h2⟩,h4⟩:=h;obtain rfl:=Zl h1;exact⟨u,h3,Zl h2,Iz h4⟩
  .cases h
 | .st fs,t,h=>by
  simp only[Gb]at h;split at h
  .rename_i l h3;exact⟨l.toList,by rw[h3],O6 h⟩
  .cases h
theorem O6{P:Program}:∀{ss:List Sh}{l:List Field}{o n:Nat},G4 P ss l o n=true->SF P ss l o n
 | [],l,o,n,h=>by
  simp only[G4,Z8,List.isEmpty_iff]at h;exact⟨h.1,Zl h.2⟩
 |s::ss,[],o,n,h=>by simp[G4]at h
 | s::ss,f::r,o,n,h=>by
  simp only[G4,Z8]at h;obtain⟨⟨h1,h2⟩,h3⟩:=h;exact⟨f,r,rfl,Zl h1,Iz h2,O6 h3⟩
end
def adD:Sh:=.st [.int .u8,.ar 5 (.int .u8),.ar 5 (.ar 3 (.ar 3 (.int .i8))),.ar 4 (.ar 2 (.ar 2 (.int .u8))),.int .u8]
def Tv:Sh:=.st [adD,.ar 5 (.int .u8),.ar 5 (.ar 3 (.ar 3 (.int .i8))),.st [.int .i8,.int .u8]]
def Flt(k:IntKind)(n:Nat)(ds:LdQ):Prop:=ds.length=n∧∀d∈ds,∃z,d=.int k z∧(Lit.int k z).wf=true
theorem rP(h:Dat (.int k) ds):Flt k 1 ds:=by obtain⟨n,rfl,hw⟩:=h;exact⟨rfl,fun d hd=>⟨n,by simpa using hd,hw⟩⟩
theorem Mj{k:IntKind}{m:Nat}:∀xs:List LdQ,(∀x∈xs,Flt k m x)->Flt k (xs.length*m) xs.flatten
 |[],_=>⟨af,fun d hd=>by simp at hd⟩
 | x::xs,h=>by
  obtain⟨a1,a2⟩:=h x af;obtain⟨b1,b2⟩:=Mj xs fun y hy=>h y (by simp[hy])
  refine⟨by rw[List.flatten_cons,Zm,a1,b1,List.length_cons,X5];omega,fun d hd=>?_⟩;rw[List.flatten_cons]at hd;rcases W4.1 hd with hd|hd
  .exact a2 d hd
  .exact b2 d hd
theorem tu(he:∀ds,Dat e ds->Flt k m ds)(h:Dat (.ar n e) ds):Flt k (n*m) ds:=by obtain⟨xs,rfl,hl,hx⟩:=h;rw[<-hl];exact Mj xs fun x hm=>he x (hx x hm)
def Kdn(o:Nat)(ds:LdQ):Prop:=∀j,j<ds.length->∃z,ds[j]?=some (.int (CV (o+j)) z)∧(Lit.int (CV (o+j)) z).wf=true
theorem vu(h:Flt k n ds)(hk:∀j<n,CV (o+j)=k):Kdn o ds:=fun j hj=>by
 obtain⟨z,e,hw⟩:=h.2 ds[j] (Wj hj);rw[hk j (by have:=h.1;omega)];exact⟨z,by rw[List.getElem?_eq_getElem hj,e],hw⟩
theorem pE{a b:LdQ}(ha:Kdn o a)(hl:a.length=n)(hb:Kdn (o+n) b):Kdn o (a++b):=fun j hj=>by
 rw[Zm]at hj;by_cases h:j<a.length
 .obtain⟨z,e,hw⟩:=ha j h;exact⟨z,by rw[List.getElem?_append_left h,e],hw⟩
 .obtain⟨z,e,hw⟩:=hb (j-a.length) aa;rw[show o+n+(j-a.length)=o+j by omega]at e hw;exact⟨z,by rw[List.getElem?_append_right aa,e],hw⟩
def ivD:D->Int
 |.int _ z=>z
 |_=>0
theorem wf_u8{n:Int}(h:(Lit.int .u8 n).wf=true):0<=n∧n<=255:=by simp only[Lit.wf,Z8,decide_eq_true_eq]at h;exact h
theorem wf_i8{n:Int}(h:(Lit.int .i8 n).wf=true): -128<=n∧n<=127:=by simp only[Lit.wf,Z8,decide_eq_true_eq]at h;exact h
theorem WU(h:Dat Tv ds):∃f:Nat->Int,GW f∧ds.map V.d=plC f:=by
 obtain⟨a,b,rfl,h1,h2⟩:=h;obtain⟨a1,b1,rfl,q1,r1⟩:=h1;obtain⟨a2,b2,rfl,q2,r2⟩:=r1;obtain⟨a3,b3,rfl,q3,r3⟩:=r2;obtain⟨a4,b4,rfl,q4,r4⟩:=r3;obtain⟨a5,b5,rfl,q5,rfl⟩:=r4;obtain⟨a6,b6,rfl,q6,r6⟩:=h2;obtain⟨a7,b7,rfl,q7,r7⟩:=r6;obtain⟨a8,b8,rfl,q8,rfl⟩:=r7;obtain⟨a9,b9,rfl,q9,r9⟩:=q8;obtain⟨a0,b0,rfl,q0,rfl⟩:=r9;have f1:=rP q1;have f2:Flt .u8 (5*1) a2:=tu (fun _ h=>rP h) q2
 have f3:Flt .i8 (5*(3*(3*1))) a3:=tu (fun _ h=>tu (fun _ h=>tu (fun _ h=>rP h) h) h) q3;have f4:Flt .u8 (4*(2*(2*1))) a4:=tu (fun _ h=>tu (fun _ h=>tu (fun _ h=>rP h) h) h) q4;have f5:=rP q5;have f6:Flt .u8 (5*1) a6:=tu (fun _ h=>rP h) q6
 have f7:Flt .i8 (5*(3*(3*1))) a7:=tu (fun _ h=>tu (fun _ h=>tu (fun _ h=>rP h) h) h) q7;have f9:=rP q9;have f0:=rP q0
 have K:Kdn 0 ((a1++(a2++(a3++(a4++(a5++[])))))++(a6++(a7++((a9++(a0++[]))++[])))):=by
  refine pE (n:=68) (pE (vu f1 fun j hj=>tG aa) f1.1 (pE (vu f2 fun j hj=>tG aa) f2.1 (pE (vu f3 fun j hj=>xo aa) f3.1 (pE (vu f4 fun j hj=>tG aa) f4.1 (pE (vu f5 fun j hj=>tG aa) f5.1 fun j hj=>by simp at hj))))) ?_
   (pE (vu f6 fun j hj=>tG aa) f6.1 (pE (vu f7 fun j hj=>xo aa) f7.1 (pE (n:=2) (pE (vu f9 fun j hj=>xo aa) f9.1 (pE (vu f0 fun j hj=>tG aa) f0.1 fun j hj=>by simp at hj)) ?_ fun j hj=>by simp at hj)))
  .simp only[Zm,f1.1,f2.1,f3.1,f4.1,f5.1,List.length_nil]
  .simp only[Zm,f9.1,f0.1,List.length_nil]
 have L:((a1++(a2++(a3++(a4++(a5++[])))))++(a6++(a7++((a9++(a0++[]))++[])))).length=120:=by
  simp only[Zm,f1.1,f2.1,f3.1,f4.1,f5.1,f6.1,f7.1,f9.1,f0.1,List.length_nil]
 generalize(a1++(a2++(a3++(a4++(a5++[])))))++(a6++(a7++((a9++(a0++[]))++[])))=ds at K L
 have key:∀j,j<120->ds[j]?=some (plD (fun j=>ivD (ds.getD j (.bool true))) j)∧(Lit.int (CV j) (ivD (ds.getD j (.bool true)))).wf=true:=fun j hj=>by
  obtain⟨z,e,hw⟩:=K j aa;rw[Zp]at e hw;have ez:ivD (ds.getD j (.bool true))=z:=by rw[Zy,e];rfl
  exact⟨by rw[e];show _=some (D.int (CV j) (ivD (ds.getD j (.bool true))));rw[ez],by rw[ez];exact hw⟩
 refine⟨fun j=>ivD (ds.getD j (.bool true)),⟨fun j hj hk=>?_,fun j hj hk=>?_⟩,?_⟩
 .have:=(key j hj).2;rw[hk]at this;exact wf_u8 this
 .have:=(key j hj).2;rw[hk]at this;exact wf_i8 this
 .apply X8;intro j;by_cases hj:j<120
  .rw[List.getElem?_map,(key j hj).1];unfold plC;rw[Ru _ hj];rfl
  .rw[List.getElem?_eq_none bK,List.getElem?_eq_none (by simp[plC];omega)]
def aib:DataW Unit->Value
 |.lit (.int k n)=>.int k n
 |_=>undef
def adt:DataW Unit->Array Value
 |.agg l=>(l.map aib).toArray
 |_=>#[]
def age:DataW Unit->Value
 |.iface _ (.ptr (.agg [.lit (.string l)]))=>.string ⟨l.toArray⟩
 |_=>undef
def TB(cs:Array Value):Obj->Obj
 |.cells _ t frozen=>.cells cs t frozen
 |o=>o
noncomputable def BL(os:Os):World:=
 let w0:=World.holding Tryz.prog os ⟨#[.cells #[age Rows.laid_strconv_ErrSyntax] 260,.cells #[age Rows.laid_strconv_ErrRange] 260],#[],[]⟩
 let low:=(World.settled Tryz.prog os).heap.size
 {w0 with heap:=((((w0.heap.modify 1 (TB #[.iface 258 (.pointer (some ⟨low,0,none⟩))])).modify 2 (TB #[.iface 258 (.pointer (some ⟨low+1,0,none⟩))])).modify 0 (TB (adt Rows.laid_internal_strconv_uint64pow10))).modify 3 (TB (adt Rows.laid_math_bits_deBruijn32tab))).modify 4 (TB (adt Rows.laid_math_bits_deBruijn64tab))}
open Go.Big Go.Ada
def toL(v:Vec):LiQ:=[v.a,v.b,v.c]
def ofL(l:LiQ):Vec:=⟨nth 0 l 0,nth 0 l 1,nth 0 l 2⟩
theorem Pe{l:LiQ}(h:l.length=3):toL (ofL l)=l:=by
 match l,h with
 |[x,y,z],_=>rfl
theorem zC(u v:Vec):dI 1 (toL u) (toL v)=toL (u+v):=by simp[toL,dI,ac9,ac8,ac7]
theorem SR:List.replicate 3 0=toL vz:=rfl
abbrev vn:LiQ:=[2,3,5]
def wVc(v:Vec):Int:=wI vn (toL v)
theorem Ix(u v:Vec):wVc (u+v)=wVc u+wVc v:=by obtain⟨x,y,z,h⟩:∃x y z,L5 vn=[x,y,z]:=⟨_,_,_,rfl⟩;simp only[wVc,wI,h,toL,bE,ac9,ac8,ac7,Wy];omega
theorem S6(x y z:Vec):sN (List.replicate 3 0) [toL x,toL y,toL z]=toL (x+(y+z)):=by simp[SR,sN,zC,Nm,Nn]
theorem S7(x y:Vec):sN (List.replicate 3 0) [toL x,toL y]=toL (x+y):=by simp[SR,sN,zC,Nm]
theorem P9(p own n:LiQ):∀(l:List (LiQ×LiQ))(m:LiQ),CR p (some m) own n (l.map Prod.fst) (l.map Prod.snd)=some (fm (wI p) m (l.map fun t=>sN n [own,t.1,t.2]))
 |[],m=>rfl
 | t::l,m=>by
  simp only[Z2,CR];exact P9 p own n l _
theorem aaO(p own n:LiQ){l:List (LiQ×LiQ)}(h:l≠[]):CR p none own n (l.map Prod.fst) (l.map Prod.snd)=some (fl (wI p) [] (l.map fun t=>sN n [own,t.1,t.2])):=by
 cases l with
 |nil=>trivial
 | cons t l=>
  simp only[Z2,CR];exact P9 p own n l _
theorem SK(v:Vec):wI vn (toL v)=wVc v:=rfl
theorem adZ(o:Vec)(e r:Nat->Vec)(hm:0<m):CR vn none (toL o) (List.replicate 3 0) ((List.range m).map fun j=>toL (e j)) ((List.range m).map fun j=>toL (r j)) =
  some (toL (o+(e (fl (fun j=>wVc (e j+r j)) 0 (List.range m))+r (fl (fun j=>wVc (e j+r j)) 0 (List.range m))))):=by
 have hne:List.range m≠[]:=by intro h;have:=congrArg List.length h;simp at this;omega
 have e1:((List.range m).map fun j=>toL (e j))=((List.range m).map fun j=>(toL (e j),toL (r j))).map Prod.fst:=by rw[Yy];rfl
 have e2:((List.range m).map fun j=>toL (r j))=((List.range m).map fun j=>(toL (e j),toL (r j))).map Prod.snd:=by rw[Yy];rfl
 rw[e1,e2,aaO _ _ _ (by simp_all),Yy]
 have e3:((fun t:LiQ×LiQ=>sN (List.replicate 3 0) [toL o,t.1,t.2])∘fun j=>(toL (e j),toL (r j)))=fun j=>toL (o+(e j+r j)):=by
  funext j;exact S6 _ _ _
 rw[e3,BP _ _ 0 _ hne]
 have e4:fl (fun j=>wI vn (toL (o+(e j+r j)))) 0 (List.range m)=fl (fun j=>wVc (e j+r j)) 0 (List.range m):=by
  refine Ft _ (fun x y=>?_) _;rw[SK,SK,Ix,Ix o];omega
 rw[e4]
theorem M3{p:LiQ}{n:Nat}(g:Nat->LiQ):∀(m i b:Nat),i+m=n->b<n->tC p ((List.range n).map g) b i ((List.range' i m).map g)=fm (fun i=>wI p (g i)) b (List.range' i m)
 |0,i,b,_,_=>rfl
 | m+1,i,b,hi,hb=>by
  simp only[List.range'_succ,Z2,tC];rw[jH _ _ hb]
  show _=fm _ (if wI p (g i)<wI p (g b)then i else b) _
  exact M3 g m (i+1) _ aa (by split<;>omega)
theorem QM(g:Nat->LiQ)(hn:0<n):rU p ((List.range n).map g)=fl (fun i=>wI p (g i)) 0 (List.range n):=by
 obtain⟨m,rfl⟩:∃m,n=m+1:=⟨n-1,aa⟩;unfold rU
 conv=>lhs;arg 5;rw[List.range_eq_range']
 rw[M3 g (m+1) 0 0 aa aa,<-List.range_eq_range'];have:List.range (m+1)=0::List.range' 1 m:=by rw[List.range_eq_range',List.range'_succ]
 rw[this]
 show fm _ (if _ then 0 else 0) _=fm _ 0 _
 simp
theorem Ij{α:Type}(d:α)(g:α->LiQ)(p:LiQ)(l:List α):∀(q a:List α)(b:Nat),a++q=l->b<l.length->nth d l (tC p (l.map g) b a.length (q.map g))=fm (fun x=>wI p (g x)) (nth d l b) q
 |[],_,_,_,_=>rfl
 | x::q,a,b,ha,hb=>by
  have hx:nth d l a.length=x:=by rw[<-ha,bM]
  have hbn:nth [] (l.map g) b=g (nth d l b):=by
   rw[aN _ _ _ (by grind),aN _ _ _ hb,Wo]
  have hll:l.length=a.length+(q.length+1):=by rw[<-ha];simp
  simp only[Z2,tC,hbn];have ih:=Ij d g p l q (a++[x]) (if wI p (g x)<wI p (g (nth d l b))then a.length else b) (by grind) (by split<;>omega);have el:(a++[x]).length=a.length+1:=af;rw[el]at ih;rw[ih]
  show fm _ _ q=fm _ (if wI p (g x)<wI p (g (nth d l b))then x else nth d l b) q
  congr 1;split
  .exact hx
  .rfl
theorem YP(d:α)(g:α->LiQ)(p:LiQ){l:List α}(h:l≠[]):nth d l (rU p (l.map g))=fl (fun x=>wI p (g x)) d l:=by
 cases l with
 |nil=>rfl
 | cons x l=>
  unfold rU;have:=Ij d g p (x::l) (x::l) [] 0 rfl af;rw[List.length_nil]at this;rw[this]
  show fm _ (if wI p (g x)<wI p (g x)then x else x) l=fm _ x l
  simp
theorem EP:∀(ns:LnQ)(n:Nat),paths (ns++[n])=nT (paths ns) n
 | [],n=>by
  have key:∀l:LnQ,l.flatMap (fun i=>[[i]])=l.map fun j=>[j]:=by
   intro l
   induction l with
   |nil=>rfl
   |cons x l ih=>grind
  simp[paths,nT,xt,key]
 | m::ns,n=>by
  have ih:=EP ns n
  show(List.range m).flatMap (fun i=>(paths (ns++[n])).map (i :: ·))=nT ((List.range m).flatMap fun i=>(paths ns).map (i :: ·)) n
  rw[ih];unfold nT;rw[List.flatMap_assoc];congr 1;funext i;rw[List.map_flatMap,List.flatMap_map];congr 1;funext x;simp[xt]
theorem vH(ns:LnQ):rS ns=paths ns:=by
 have key:∀(l:LnQ) ,rS l.reverse=paths l.reverse:=by
  intro l
  induction l with
  |nil=>rfl
  |cons n l ih=>rw[List.reverse_cons,H5,EP,ih]
 have:=key ns.reverse
 grind
variable{a:Ad}
def oV(a:Ad)(k i:Nat):Vec:=ofL (uB a k i)
def eV(a:Ad)(k i j:Nat):Vec:=ofL (stW a k i j)
theorem IA(G:cI a)(h3:a.p=vn){k:Nat}(hk:k<a.cd.length)(hi:i<(nth [] a.cd k).length):toL (oV a k i)=uB a k i:=
 Pe (by grind[cI.ownW])
theorem Nt(G:cI a)(h3:a.p=vn){k j:Nat}(hk:k+1<a.cd.length)(hi:i<(nth [] a.cd k).length)(hj:j<(nth [] a.cd (k+1)).length):toL (eV a k i j)=stW a k i j:=
 Pe (by rw[(G.stepW (by have:=G.cl;have:=G.wk.len;omega) hi hj).1,h3];rfl)
def rV(a:Ad)(k i:Nat):Vec:=cost (oV a) (eV a) k (qU (oV a) (eV a) wVc k ((nsA a).drop (k+1)) i)
theorem EH(p:LiQ)(f:Nat->LiQ)(g:Nat->LLQ)(bs:LLQ):∀l:LnQ,uA p (l.map f) (l.map g) bs=l.map fun i=>(CR p none (f i) (List.replicate p.length 0) (g i) bs).getD []
 |[]=>rfl
 |x::l=>by simp only[Z2,uA,EH p f g bs l]
theorem ET{k:Nat}(hk:k<a.cd.length):(nsA a).drop k=(nth [] a.cd k).length::(nsA a).drop (k+1):=by
 have:k<(nsA a).length:=by simp[nsA];exact hk
 grind[Z0,nsA,aN]
theorem PD(G:cI a)(h3:a.p=vn):∀(d k:Nat),k+d+1=a.cd.length->(dQ a.p ((kG a).drop k) ((gO a).drop k)).headD []=(List.range (nth [] a.cd k).length).map fun i=>toL (rV a k i)
 | 0,k,hk=>by
  have hkl:k<a.cd.length:=aa
  have e1:(kG a).drop k=[mX a k]:=by
   rw[Z0 (by grind[mF]),<-aN [] _ _ (by grind[mF]),w9 hkl,Xe (by grind[mF])]
  have e2:(dQ a.p [mX a k] ((gO a).drop k)).headD []=mX a k:=by cases(gO a).drop k<;>rfl
  rw[e1,e2];unfold mX;refine Ym fun i hi=>?_
  have e3:(nsA a).drop (k+1)=[]:=Xe (by grind[nsA]);unfold rV;rw[e3];exact(IA G h3 hkl (by grind)).symm
 | d+1,k,hk=>by
  have hkl:k<a.cd.length:=aa;have hkl1:k+1<a.cd.length:=aa;have ih:=PD G h3 d (k+1) aa;have lo:=mF a;have ls:=uW a
  have e1:(kG a).drop k=mX a k::mX a (k+1)::(kG a).drop (k+1+1):=by
   rw[Z0 aa,<-aN [] _ _ aa,w9 hkl,Z0 aa,<-aN [] _ _ aa,w9 hkl1]
  have e1':(kG a).drop (k+1)=mX a (k+1)::(kG a).drop (k+1+1):=by
   rw[Z0 aa,<-aN [] _ _ aa,w9 hkl1]
  have e2:(gO a).drop k=ko a k::(gO a).drop (k+1):=by
   rw[Z0 aa,<-aN [] _ _ aa,G9 hkl]
  rw[e1,e2];simp only[dQ,List.headD_cons];rw[<-e1',ih];unfold mX ko;rw[EH];refine Ym fun i hi=>?_
  have hi':i<(nth [] a.cd k).length:=by simpa using hi
  obtain⟨n0,_⟩:=G.cn _ (aQ (d:=[]) hkl1)
  have es:lV a k i=(List.range (nth [] a.cd (k+1)).length).map fun j=>toL (eV a k i j):=by
   unfold lV;exact Ym fun j hj=>(Nt G h3 hkl1 hi' (by grind)).symm
  rw[es,<-IA G h3 hkl hi',h3];have:=adZ (oV a k i) (eV a k i) (rV a (k+1)) n0;rw[show List.replicate (vn:LiQ).length (0:Int)=List.replicate 3 0 from rfl,this,Option.getD_some];congr 1;unfold rV;rw[ET hkl1]
  obtain⟨l,hl⟩:=zh (oV a) (eV a) wVc (k+1) ((nsA a).drop (k+1+1)) (fl (fun j=>wVc (eV a k i j+cost (oV a) (eV a) (k+1) (qU (oV a) (eV a) wVc (k+1) ((nsA a).drop (k+1+1)) j))) 0 (List.range (nth [] a.cd (k+1)).length));simp only[qU];rw[hl];rfl
theorem adK(G:cI a)(h3:a.p=vn){k:Nat}(hk:k<a.cd.length)(hi:i<(nth [] a.cd k).length):nth [] (nth [] (rA a) k) i=toL (rV a k i):=by unfold rA;rw[Bt a.p k _ _ (by grind[mF]) (by simp[mF,uW]),PD G h3 (a.cd.length-1-k) k aa,jH _ _ hi]
theorem JW(G:cI a)(h3:a.p=vn):∀(m k c:Nat),k+1+m=a.cd.length->c<(nth [] a.cd k).length->c::vU a m (k+1) c=qU (oV a) (eV a) wVc k ((nsA a).drop (k+1)) c
 | 0,k,c,hk,hc=>by
  have e3:(nsA a).drop (k+1)=[]:=Xe (by grind[nsA]);rw[e3];rfl
 | m+1,k,c,hk,hc=>by
  have hk1:k+1<a.cd.length:=aa;obtain⟨n0,_⟩:=G.cn _ (aQ (d:=[]) hk1);rw[ET hk1];simp only[vU,qU]
  have ej:rU a.p (mf a (k+1) c)=fl (fun j=>wVc (eV a k c j+cost (oV a) (eV a) (k+1) (qU (oV a) (eV a) wVc (k+1) ((nsA a).drop (k+1+1)) j))) 0 (List.range (nth [] a.cd (k+1)).length):=by
   unfold mf;rw[h3]
   have ec:(List.range (nth [] a.cd (k+1)).length).map (cst a (k+1) c)=(List.range (nth [] a.cd (k+1)).length).map fun j=>toL (eV a k c j+rV a (k+1) j):=by
    refine Ym fun j hj=>?_
    have hj':j<(nth [] a.cd (k+1)).length:=by simpa using hj
    unfold cst;rw[if_neg aa,adK G h3 hk1 hj',Yd,<-Nt G h3 hk1 hc hj',h3];exact S7 _ _
   rw[ec,QM _ n0];rfl
  have hj:rU a.p (mf a (k+1) c)<(nth [] a.cd (k+1)).length:=by
   have:=yc (p:=a.p) (cs:=mf a (k+1) c) (by grind[mf]);simpa[mf]using this
  have ih:=JW G h3 m (k+1) _ aa hj
  grind
theorem abQ(G:cI a)(h3:a.p=vn):fV a=fl (fun p=>wVc (cost (oV a) (eV a) 0 p)) [] (paths (nsA a)):=by
 have h5:=G.five;have hcl:=G.cl;have hlen:=G.wk.len;have h0:0<a.cd.length:=aa;obtain⟨n0,_⟩:=G.cn _ (aQ (d:=[]) h0)
 have e0:nsA a=(nth [] a.cd 0).length::(nsA a).drop 1:=by
  have:=ET h0
  rwa [Zj]at this
 have hall:∀m∈(nth [] a.cd 0).length::(nsA a).drop 1,0<m:=by
  rw[<-e0];intro m hm;simp only[nsA,Zc]at hm;obtain⟨l,hl,rfl⟩:=hm;exact(G.cn l hl).1
 have ba:=YH (oV a) (eV a) (w:=wVc) Ix (nth [] a.cd 0).length ((nsA a).drop 1) hall;rw[<-e0]at ba;rw[ba];obtain⟨m,hm⟩:∃m,a.cd.length=m+1:=⟨a.cd.length-1,aa⟩
 have ej:rU a.p (mf a 0 0)=fl (fun i=>wVc (cost (oV a) (eV a) 0 (qU (oV a) (eV a) wVc 0 ((nsA a).drop 1) i))) 0 (List.range (nth [] a.cd 0).length):=by
  unfold mf;rw[h3]
  have ec:(List.range (nth [] a.cd 0).length).map (cst a 0 0)=(List.range (nth [] a.cd 0).length).map fun j=>toL (rV a 0 j):=by
   refine Ym fun j hj=>?_
   have hj':j<(nth [] a.cd 0).length:=by simpa using hj
   unfold cst;rw[if_pos rfl,adK G h3 h0 hj']
  rw[ec,QM _ n0];rfl
 have hj:rU a.p (mf a 0 0)<(nth [] a.cd 0).length:=by
  have:=yc (p:=a.p) (cs:=mf a 0 0) (by grind[mf]);simpa[mf]using this
 unfold fV;rw[hm];simp only[vU];rw[JW G h3 m 0 _ aa hj,ej]
theorem Vy(G:cI a)(h3:a.p=vn):k8 a=toL (cost (oV a) (eV a) 0 (fV a)):=by
 have h5:=G.five;have hcl:=G.cl;have hlen:=G.wk.len;have h0:0<a.cd.length:=aa;obtain⟨n0,_⟩:=G.cn _ (aQ (d:=[]) h0);obtain⟨m,hm⟩:∃m,a.cd.length=m+1:=⟨a.cd.length-1,aa⟩
 have hj:rU a.p (mf a 0 0)<(nth [] a.cd 0).length:=by
  have:=yc (p:=a.p) (cs:=mf a 0 0) (by grind[mf]);simpa[mf]using this
 have eb:fV a=qU (oV a) (eV a) wVc 0 ((nsA a).drop 1) (rU a.p (mf a 0 0)):=by
  unfold fV;rw[hm];simp only[vU];exact JW G h3 m 0 _ aa hj
 have e0:nth 0 (fV a) 0=rU a.p (mf a 0 0):=by unfold fV;rw[hm];rfl
 unfold k8;rw[e0,adK G h3 h0 hj,eb];rfl
def tlV(a:Ad):Nat->Nat->LnQ->Vec
 |_,_,[]=>vz
 |k,pr,z::q=>(eV a k pr z+oV a (k+1) z)+tlV a (k+1) z q
theorem QG(a:Ad):∀(q:LnQ)(k pr:Nat),cost (oV a) (eV a) k (pr::q)=oV a k pr+tlV a k pr q
 |[],k,pr=>(YT _).symm
 | z::q,k,pr=>by
  show oV a k pr+(eV a k pr z+cost (oV a) (eV a) (k+1) (z::q))=_
  rw[QG a q (k+1) z];simp[tlV,Nn]
theorem O9(G:cI a)(h3:a.p=vn):∀(q:LnQ)(k pr:Nat)(u:Vec),k+1+q.length=a.cd.length->pr<(nth [] a.cd k).length->(∀j<q.length,nth 0 q j<(nth [] a.cd (k+1+j)).length) ->
  D9 a (k+1) pr (toL u) (q.map fun(n:Nat)=>(n:Int))=toL (u+tlV a k pr q)
 |[],k,pr,u,_,_,_=>by rw[show tlV a k pr []=vz from rfl,YT];rfl
 | z::q,k,pr,u,hk,hp,hq=>by
  simp only[List.length_cons]at hk hq;have hz:=hq 0 aa;have hz':z<(nth [] a.cd (k+1)).length:=hz;have hk1:k+1<a.cd.length:=aa
  have ih:=O9 G h3 q (k+1) z (u+(eV a k pr z+oV a (k+1) z)) aa hz' (fun j hj=>by
   have:=hq (j+1) aa;rw[show k+1+1+j=k+1+(j+1) by omega];exact this)
  grind[D9,Nt,IA,zC,tlV]
theorem ads(G:cI a)(h3:a.p=vn){c:LnQ}(hl:c.length=a.cd.length)(hc:∀j<c.length,nth 0 c j<(nth [] a.cd j).length):rH a (c.map fun(n:Nat)=>(n:Int))=toL (cost (oV a) (eV a) 0 c):=by
 have hcl:=G.cl;have hlen:=G.wk.len;cases c with
 |nil=>grind
 | cons z q=>
  simp only[List.length_cons]at hl hc;have hz:z<(nth [] a.cd 0).length:=hc 0 aa;have h0:0<a.cd.length:=aa;rw[QG]
  have:=O9 G h3 q 0 z (vz+oV a 0 z) aa hz (fun j hj=>by
   have:=hc (j+1) aa;rw[show 0+1+j=j+1 by omega];exact this)
  unfold rH;simp only[Z2,D9];rw[if_pos trivial,Int.toNat_natCast,h3,show List.replicate (vn:LiQ).length (0:Int)=toL vz from rfl,<-IA G h3 h0 hz,zC]
  grind[Nm]
theorem EQ:∀(ns:LnQ)(x:LnQ),x∈paths ns->x.length=ns.length∧∀j<x.length,nth 0 x j<nth 0 ns j
 |[],x,h=>by grind[paths]
 | n::ns,x,h=>by
  simp only[paths,List.mem_flatMap,X6,Zc]at h;obtain⟨i,hi,y,hy,rfl⟩:=h;obtain⟨h1,h2⟩:=EQ ns y hy
  grind[nth]
structure Rd(a:Ad)(H:Hp)(s:Nat):Prop where
 l6:ldA H 6 (.ptr s 1 0 6)=some (.agg (adC a))
 l3:ldA H 3 (.ptr s 1 0 6)=some (.agg (wkC a.p a.ch a.lk))
 rl:ld1 H (.ptr s 1 2 6)=some (lst lkD a.lk)
 rc:ld1 H (.ptr s 1 3 6)=some (lst aA a.cd)
theorem abv{a:List Q}(hp:pcS p)(ha:a.length=p.length)(oa:okS a):CP Y F.gX [lst di p,szV a,szV []] (.tup [I 0,I 5]):=by
 refine wO ?_;obtain⟨hin,h0⟩:=eh hp;have h6:=hin.2.1
 have ca:=xx (p:=p) (l:=[a,[]]) aa af (fun s hs=>by
  simp at hs;rcases hs with rfl|rfl
  .exact⟨oa,aa⟩
  .exact⟨fun x hx=>(by cases hx),af⟩)
 have e:GT p.length [a,[]]=5:=by
  simp only[GT];rw[if_pos ha,if_neg (by grind)]
 rw[if_pos hp.1,e]at ca;have l1:∀H,cO 2 [nPQ] [(0,szV a),(1,szV [])] H=some ([szD a,szD []],H):=fun H=>Vt ..
 simp[gX,l1];refine cd (v:=I 5) ca ?_ (by rfl);simp;simp[aG]
theorem abt(hp:pcS p){Bd Cd:Nat}(hb:0<b)(hb1:b<1000000){t:LiQ}(lr:r.length=p.length)(lt:t.length=p.length)(hr:bdN Bd r)(ht:bdN Cd t)(hB:Bd<1000000000000)(hC:Cd<1000000000000):
  ∃z,CP Y F.gX [lst di p,szV (szI b r),szV (szI b t)] (.tup [I z,I 0])∧(z<0↔wI p r<wI p t)∧(z<=0↔wI p r<=wI p t):=by
 obtain⟨hi,h0⟩:=eh hp;have hN:=hi.2.1;have m1:Bd*b<=1000000000000*1000000:=Zn aa aa;have m2:Cd*b<=1000000000000*1000000:=Zn aa aa;have sg:=acJ hi (by rw[ci,lr]) (by rw[ci,lt]) hb hb (oi hb r) (oi hb t) hr ht aa
 have co:=FY hp.1 aa (by rw[ci,lr]) (by rw[ci,lt]) (qd hb aa hr aa) (qd hb aa ht aa) sg;refine⟨_,co,?_⟩;rw[<-Int.sub_mul,u5 aa];unfold wI;rcases Int.lt_trichotomy (bE r (L5 p)) (bE t (L5 p))with h|h|h
 .rw[X2 aa];omega
 .grind
 .rw[X3 aa];omega
theorem Qn{r:LiQ}(hN:r.length<1000000)(K:KL)(hK:K (.exit 0) [] []):∀(q l:LiQ),l++q=r ->
  lp (jQ (CX Y) (lst di r) (lst di r)) [] [] [I l.length] [] K
 | [],l,hl=>by
  have e:l=r:=by simpa using hl
  subst e;refine aj ?_;simp[jQ];exact hK
 | x::q,l,hl=>by
  have hll:r.length=l.length+(q.length+1):=by rw[<-hl];simp
  have ih:=Qn hN K hK q (l++[x]) (by grind);have i1:∀H:Hp,ixV H 1 (lst di r) (I l.length)=some (.dptr (r.map di) l.length):=fun H=>aJ di _ H rfl aa
  have i2:∀H:Hp,ld1 H (.dptr (r.map di) l.length)=some (I x):=fun H=>by rw[aC di 0 r H aa,<-hl,bM];rfl
  have g:(l.length:Int)<r.length:=aa;have e2:((l++[x]).length:Int)=(l.length:Int)+1:=af;rw[e2]at ih;have lr:bj (lst di r)=some (I r.length):=rfl;refine aj ?_;simp(disch:=try exact ag)[jQ,lr,g,i1,i2];exact ih
theorem aaZ(hN:r.length<1000000):CP Y F.ip [lst di r,lst di r] (B true):=by refine yk ?_;have lr:bj (lst di r)=some (I r.length):=rfl;have:=Qn hN (exK [(Exit.exit 0,fun l4 h=>out (B true) (B true) h),(Exit.ret,fun l4 h=>out (B true) (ge l4 0) h)]) (nN rfl) r [] rfl;simp[ip,lr];exact this
abbrev zs(x:LnQ):LiQ:=x.map fun(n:Nat)=>(n:Int)
theorem Qb(x:LnQ):V.d (lsD x)=lst di (zs x):=by simp only[lst,lsD,zs,List.length_map,Yy];rfl
theorem Pb(G:cI a):∀(c:LiQ)(k pr:Nat)(v:LiQ)(B:Nat),k+c.length=a.cd.length->(0<k->pr<(nth [] a.cd (k-1)).length)->(∀j<c.length,0<=nth 0 c j∧nth 0 c j<(nth [] a.cd (k+j)).length)->v.length=a.p.length->bdN B v ->
  (D9 a k pr v c).length=a.p.length∧bdN (B+2000000*c.length) (D9 a k pr v c)
 |[],k,pr,v,B,_,_,_,hv,hb=>⟨hv,by trivial⟩
 | z::c,k,pr,v,B,hk,hp,hc,hv,hb=>by
  simp only[List.length_cons]at hk hc;obtain⟨z0,z1⟩:=hc 0 aa;have z0':0<=z:=z0;have z1':z<(nth [] a.cd k).length:=z1;have hcl:=G.cl;have hlen:=G.wk.len;obtain⟨o1,o2⟩:=G.ownW (i:=k) (k:=z.toNat) aa aa;simp only[D9]
  have hs:(if k=0 then v else dI 1 v (stW a (k-1) pr z.toNat)).length=a.p.length∧bdN (B+1920000) (if k=0 then v else dI 1 v (stW a (k-1) pr z.toNat)):=by
   by_cases h:k=0
   .grind[qV]
   .rw[if_neg h];have hk1:k-1+1=k:=aa;obtain⟨s1,s2⟩:=G.stepW (i:=k-1) (f:=pr) (t:=z.toNat) aa (hp aa) (by grind);exact⟨by rw[hQ _ aa,hv],lE hb s2⟩
  have ih:=Pb G c (k+1) z.toNat _ (B+1920000+8000) aa (fun _=>by grind) (fun j hj=>by
   have:=hc (j+1) aa;rw[show k+1+j=k+(j+1) by omega];exact this) (by rw[hQ _ aa,hs.1]) (lE hs.2 o2)
  grind[qV]
theorem Df(G:cI a){c:LiQ}(hc:JN a c):(rH a c).length=a.p.length∧bdN 10000000 (rH a c):=by have h5:=G.five;have hcl:=G.cl;have hcc:=hc.1;have:=Pb G c 0 0 (List.replicate a.p.length 0) 0 aa (fun h=>absurd h aa) (fun j hj=>by rw[Zp];exact hc.2 j hj) af (fun x hx=>by grind);exact⟨this.1,qV this.2 aa⟩
theorem VE(G:cI a)(hb:tE a.p){H:Hp}(R:Rd a H 1)(rp:ld1 H (.ptr 1 1 0 6)=some (lst di a.p)){chs:List LnQ}(hch:∀x∈chs,JN a (zs x))(hN:chs.length<1000000000)(K:KL) :
  ∀(q d:List LnQ)(b:Nat),d++q=chs->b<chs.length ->
  K (.exit 0) [I (tC a.p (chs.map fun x=>rH a (zs x)) b d.length (q.map fun x=>rH a (zs x)):Nat),szV (szI a.w.2 (nth [] (chs.map fun x=>rH a (zs x)) (tC a.p (chs.map fun x=>rH a (zs x)) b d.length (q.map fun x=>rH a (zs x)))))] H ->
  0<d.length ->
  lp (bQ (CX Y) (.ptr 1 1 0 6) (mat (mb a)) (.d (.sl chs.length (chs.map lsD)))) [] H [I b,szV (szI a.w.2 (nth [] (chs.map fun x=>rH a (zs x)) b)),I d.length] H K
 | [],d,b,hd,_,hK,_=>by
  have e:d.length=chs.length:=by rw[<-hd];simp
  have lc:bj (.d (.sl chs.length (chs.map lsD)))=some (I chs.length):=rfl;refine aj ?_;simp[bQ,e,lc];exact hK
 | x::q,d,b,hd,hbl,hK,hd0=>by
  have hll:chs.length=d.length+(q.length+1):=by rw[<-hd];simp
  obtain⟨w1,w2,w3,w4⟩:=G.w0;have hx:=hch x (by grind);have lt:=HC G hb hx;obtain⟨t1,t2⟩:=Df G hx;obtain⟨T,hT⟩:=nmQ (chs.map fun x=>rH a (zs x))
  have hTl:T.length=chs.length:=by rw[hT];simp
  have hTb:(nth [] T b).length=a.p.length∧bdN 10000000 (nth [] T b):=by
   have:nth [] T b∈T:=aQ (d:=[]) aa;rw[hT]at this;obtain⟨y,hy,hy2⟩:=Zc.1 this;rw[hT,<-hy2];exact Df G (hch y hy)
  have hTd:nth [] T d.length=rH a (zs x):=by
   rw[aN _ _ _ aa];have:chs[d.length]'(by omega)=x:=by rw[<-aN [] _ _ aa,<-hd,bM]
   simp only[hT,Wo,this]
  obtain⟨z,cw,z1,z2⟩:=abt G.hp w1.1 aa (b:=a.w.2) t1 hTb.1 t2 hTb.2 aa aa;simp only[Z2,tC]at hK;rw[<-hT]at hK;have i1:∀H:Hp,ixV H 1 (.d (.sl chs.length (chs.map lsD))) (I d.length)=some (.dptr (chs.map lsD) d.length):=fun H=>aJ lsD chs H rfl aa
  have i2:∀H:Hp,ld1 H (.dptr (chs.map lsD) d.length)=some (lst di (zs x)):=fun H=>by rw[aC lsD [] chs H aa,<-hd,bM,Qb]
  have lc:bj (.d (.sl chs.length (chs.map lsD)))=some (I chs.length):=rfl;have l6:=R.l6;have l6':=(xn _ _ _ _ _ _).symm.trans l6;have rp':=(mu _ _ _ _ _).symm.trans rp;have g:(d.length:Int)<chs.length:=aa;have g0:¬d=[]:=by rintro rfl;simp at hd0
  have e2:((d++[x]).length:Int)=(d.length:Int)+1:=af;have e3:(d++[x]).length=d.length+1:=af;have hre:au [] 0 H H=H:=aX 0 H H rfl;rw[<-hT];by_cases h:wI a.p (rH a (zs x))<wI a.p (nth [] T b)
  .rw[if_pos h]at hK;have ih:=VE G hb R rp hch hN K q (d++[x]) d.length (by grind) aa (by grind) af;rw[<-hT,hTd,e2]at ih;have hz:z<0:=z1.2 h;refine aj ?_;simp[bQ,lc,g];refine aT ?_;simp[l6,l6',i1,i2];refine cd lt ?_;simp[rp,rp'];refine cd cw ?_ (by rfl);simp[g0,hz];refine aT ?_;simp(disch:=try exact ag)[hre]
   exact ih
  .rw[if_neg h]at hK;have ih:=VE G hb R rp hch hN K q (d++[x]) b (by grind) hbl (by grind) af;rw[<-hT,e2]at ih;have hz:¬z<0:=fun k=>h (z1.1 k)
   refine aj ?_;simp[bQ,lc,g];refine aT ?_;simp[l6,l6',i1,i2];refine cd lt ?_;simp[rp,rp'];refine cd cw ?_ (by rfl);simp[g0,hz];refine aT ?_;simp(disch:=try exact ag)[hre];exact ih
theorem XF(G:cI a):∀x∈rS (nsA a),JN a (zs x):=fun x hx=>by
 rw[vH]at hx;obtain⟨h1,h2⟩:=EQ _ x hx;have hl:x.length=a.cd.length:=by rw[h1];simp[nsA]
 refine⟨by grind,fun k hk=>?_⟩;have hk':k<x.length:=by simpa[zs]using hk
 have e1:nth 0 (zs x) k=(nth 0 x k:Nat):=by rw[aN _ _ _ hk,aN _ _ _ hk'];simp[zs]
 have e2:nth 0 (nsA a) k=(nth [] a.cd k).length:=by
  rw[aN _ _ _ aa,aN _ _ _ aa];simp[nsA]
 grind
theorem QH(G:cI a)(h3:a.p=vn):∀x∈rS (nsA a),rH a (zs x)=toL (cost (oV a) (eV a) 0 x):=fun x hx=>by
 have hi:=XF G x hx;rw[vH]at hx;obtain⟨h1,h2⟩:=EQ _ x hx;have hl:x.length=a.cd.length:=by rw[h1];simp[nsA]
 refine ads G h3 hl fun j hj=>?_
 have e2:nth 0 (nsA a) j=(nth [] a.cd j).length:=by
  rw[aN _ _ _ aa,aN _ _ _ aa];simp[nsA]
 grind
theorem XE(G:cI a):rS (nsA a)≠[]:=by grind[vH,w8,nsA,cI.cn]
theorem JA{v w:α->Int}(d:α){l:List α}(h:∀x∈l,v x=w x):fl v d l=fl w d l:=by
 cases l with
 |nil=>rfl
 | cons x l=>
  refine AA (fun y=>v y=w y) (fun y z hy hz=>by rw[hy,hz]) l x (h x af) fun y hy=>h y (by grind)
theorem XG(G:cI a)(h3:a.p=vn):nth [] (rS (nsA a)) (rU a.p ((rS (nsA a)).map fun x=>rH a (zs x)))=fV a:=by
 rw[YP [] (fun x=>rH a (zs x)) a.p (XE G),abQ G h3,<-vH];refine JA _ fun x hx=>?_
 rw[QH G h3 x hx,h3];rfl
theorem abw(G:cI a):(rS (nsA a)).length<1000000000:=by
 have h5:=G.five;have hcl:=G.cl
 obtain ⟨c0,cl⟩:=MN (nsA a) (fun n hn=>by
  grind[nsA,cI.cn])
 have p5:20^(nsA a).length<=20^5:=Z4 ae (by grind[nsA]);omega
theorem R2{f:Nat->Int}(P:GW f):CP Y F.dL [.agg (plC f)] (B true):=by
 refine qI ?_;have mk:=RP P;have G:=aeI P;have hb:=SC f;have h3:(adF f).p=vn:=rfl;obtain⟨a,ha⟩:=nmQ (adF f);rw[<-ha]at mk G hb h3;have hlen:=G.wk.len;have hcl:=G.cl;have h5:=G.five;obtain⟨w1,w2,w3,w4⟩:=G.w0
 have bx:∀(q:kkQ)(u:PU q),rh (cQ 0 (.agg (plC f)) [nnQ,nnQ]) q u=q (.ptr 0 1 0 120) [plZ f,nnQ]:=fun q u=>by
  have hl:(plC f).length=120:=by simp[plC]
  rfl
 have l120:ldA [plZ f,nnQ] 120 (.ptr 0 1 0 120)=some (.agg (plC f)):=by
  have:=IY (f:=f) (H:=[nnQ]) (j:=0) (m:=120) aa;simp only[Zp]at this;exact this
 have l120':=(xn _ _ _ _ _ _).symm.trans l120
 have a1:∀(q:kkQ)(u:PU q),rh (alV 1 [.d nPQ,.d nPQ,.d nPQ,.d nPQ,.d (.str []),.d (.str [])] [plZ f,nnQ]) q u=q (.ptr 1 1 0 6) [plZ f,(1,.vars [.d nPQ,.d nPQ,.d nPQ,.d nPQ,.d (.str []),.d (.str [])])]:=fun _ _=>rfl
 have sd:∀(q:kkQ)(u:PU q),rh (stD [plZ f,(1,.vars [.d nPQ,.d nPQ,.d nPQ,.d nPQ,.d (.str []),.d (.str [])])] 6 (.ptr 1 1 0 6) (.agg (adC a))) q u=q .junk [plZ f,adB a]:=fun _ _=>rfl
 obtain⟨H,hH⟩:∃H:Hp,H=[plZ f,adB a]:=⟨_,rfl⟩;have R:Rd a H 1:=by rw[hH];exact⟨rfl,rfl,rfl,rfl⟩
 have rp:ld1 H (.ptr 1 1 0 6)=some (lst di a.p):=by rw[hH];rfl
 rw[<-hH]at sd;have l6:=R.l6;have l3:=R.l3;have l6':=(xn _ _ _ _ _ _).symm.trans l6;have l3':=(xn _ _ _ _ _ _).symm.trans l3;have rp':=(mu _ _ _ _ _).symm.trans rp
 have sp:∀H,aS H [.agg (plC f)]=some ([.agg (plC f)],H):=fun H=>by
  rfl
 obtain⟨hin,hp0⟩:=eh G.hp;have h61:=hin.2.1;have bo:=QW G;have lr:=RR (p:=a.p) G.wk aa aa aa G.lkn;have co:=OO G;have hci:=XF G;have hne:=XE G;have hcb:=XG G h3;have hN:=abw G;have ctot:=QH G h3;have lA:=Vy G h3;obtain⟨chs,hchs⟩:∃c,c=rS (nsA a):=⟨_,rfl⟩;rw[<-hchs]at co hci hne hcb hN ctot
 obtain⟨T,hT⟩:=nmQ (chs.map fun x=>rH a (zs x))
 have hTl:T.length=chs.length:=by rw[hT];simp
 have c0:0<chs.length:=Xj.2 hne;obtain⟨j,hj⟩:=nmQ (rU a.p T);have jl:j<chs.length:=by rw[hj,<-hTl];exact yc aa
 have hcb':nth [] chs j=fV a:=by rw[hj,hT];exact hcb
 have hbm:fV a∈chs:=by rw[<-hcb'];exact aQ (d:=[]) jl
 have eT:nth [] T j=k8 a:=by
  rw[lA,<-ctot _ hbm,<-hcb',hT,aN _ _ _ (by grind),Wo,aN _ _ _ jl]
 have bl:(fV a).length=a.cd.length:=Ce ..;have ebV:V.d (.sl a.cd.length ((fV a).map dn))=lst di (zs (fV a)):=by rw[<-bl];exact Qb _
 rw[ebV]at bo;have io:=aaZ (r:=zs (fV a)) (by grind)
 have ll:(k8 a).length=a.p.length:=by
  have:=(Df G (hci _ hbm)).1;rw[lA,<-ctot _ hbm,this]
 have sa:=Hk (r:=szI a.w.2 (k8 a)) (by grind[ci]);have lc:bj (.d (.sl chs.length (chs.map lsD)))=some (I chs.length):=rfl
 obtain ⟨x0,rest,hx⟩:∃x l,chs=x::l:=by
  cases chs with
  |nil=>trivial
  |cons x l=>simp
 have hx0:=hci x0 (by grind);have lt:=HC G hb hx0;obtain⟨t1,t2⟩:=Df G hx0;have ce:=abv (p:=a.p) (a:=szI a.w.2 (rH a (zs x0))) G.hp (by rw[ci,t1]) (qd w1.1 aa t2 aa)
 have ej:j=tC a.p (chs.map fun x=>rH a (zs x)) 0 1 (rest.map fun x=>rH a (zs x)):=by
  rw[hj,hT,hx];unfold rU;simp only[Z2,tC,ite_self]
 have l0:=fun K hK=>VE G hb R rp hci hN K rest [x0] 0 hx.symm c0 hK af
 rw[show([x0]:List LnQ).length=1 from rfl,<-ej,<-hT,eT]at l0;have eT0:nth [] T 0=rH a (zs x0):=by rw[hT,hx];rfl
 rw[eT0]at l0;have i1:∀H:Hp,ixV H 1 (.d (.sl chs.length (chs.map lsD))) (.d (.int .i64 0))=some (.dptr (chs.map lsD) 0):=fun H=>aJ lsD chs H rfl c0
 have i2:∀H:Hp,ld1 H (.dptr (chs.map lsD) 0)=some (lst di (zs x0)):=fun H=>by rw[aC lsD [] chs H c0,Qb,hx];rfl
 have j1:∀H:Hp,ixV H 1 (.d (.sl chs.length (chs.map lsD))) (I j)=some (.dptr (chs.map lsD) j):=fun H=>aJ lsD chs H rfl jl
 have j2:∀H:Hp,ld1 H (.dptr (chs.map lsD) j)=some (lst di (zs (fV a))):=fun H=>by rw[aC lsD [] chs H jl,Qb,hcb']
 have g0:(0:Int)<chs.length:=aa;have hre:au [] 0 H H=H:=aX 0 H H rfl;have sn:∀H,aS H [lst di a.p,szV (szI a.w.2 (rH a (zs x0))),.d nPQ]=some ([lst di a.p,szV (szI a.w.2 (rH a (zs x0))),szV []],H):=fun _=>rfl
 simp[dL,bx];refine cd Oj ?_;simp[l120,l120'];refine cd mk ?_ (sp _);simp[a1,sd,l6,l6'];refine cd bo ?_;simp[l3,l3'];refine cd lr ?_;simp[l6,l6'];refine cd co ?_;simp;refine lo (aj ?_);simp(disch:=try exact ag)[bQ,lc,g0];refine aT ?_;simp[l6,l6',i1,i2];refine cd lt ?_;simp[rp,rp'];refine cdx (sn _) ce ?_
 simp;refine aT ?_;simp[hre];refine lo (l0 _ ?_);simp[j1,j2];refine cd io ?_;simp;refine cd sa ?_ (by rfl);simp
end Go.Vm
