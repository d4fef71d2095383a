/- From contracts to the model's calls: what comes in is read alone. -/
import Derived.Test.YtaiahkcmdnaooaaGreatDoorQLibSl
import Derived.Test.YtaiahkcmdnaooaaGreatDoorQVmOk
import Derived.WalkKit
import Derived.ProofKit
import Derived.OpenShut
import Derived.Deep.DeepHandedRow
import Derived.Deep.Matrix
import Derived.Lib.LaidTab
import Derived.Test.YtaiahkcmdnaooaaGreatDoorTie
import Derived.Test.YtaiahkcmdnaooaaGreatDoorCards
set_option linter.unusedVariables false
set_option linter.unusedSimpArgs false
namespace Go.Vm
open Go Go.Am
mutual
def WD (w:World):D->Value->Prop
 | .int k n,v=>v=.int k n
 | .bool b,v=>v=.bool b
 | .str s,v=>v=.string ⟨⟨s⟩⟩
 | .pl u,v=>v=u∧plain u=true∧okCell u=true
 | .sl len cells,v=>(len=0∧cells=[]∧(v=.slice none 0 0∨∃ a,v=.slice (some a) 0 0)) ∨
   ∃ c o cap n cs e fz,v=.slice (some ⟨c,o,none⟩) len cap∧len<=cap∧0<n∧cells.length=len*n ∧
    w.heap[c]? = some (.cells cs e fz)∧o+cells.length<=cs.size∧WDs w cells ((cs.toList.drop o).take cells.length)
def WDs (w:World):List D->List Value->Prop
 | [],l=>l=[]
 | x::xs,l=>∃ v vs,l=v::vs∧WD w x v∧WDs w xs vs
end
structure Ly (w:World) (φ:bc) (F:Nat->Prop) (H:AH):Prop where
 rel:aZ X φ H w
 wf:WF H
 fr:∀ c,F c->c<H.n∧∃ x,H.get c=some x∧x.st=1
 ro:∀ c x,H.get c=some x->x.wr=false
 top:∀ b p,φ b=some p->b<H.n
 pg:∃ p,φ kz=some p
structure pT (φ:bc) (F:Nat->Prop) (H:AH) (φ':bc) (F':Nat->Prop) (H':AH):Prop where
 n:H.n<=H'.n
 le:PLe φ φ'
 fm:∀ c,F c->F' c
 keep:∀ c,c<H.n->H'.get c=H.get c
theorem pT.refl (φ:bc) (F:Nat->Prop) (H:AH):pT φ F H φ F H:=⟨Z7 _,PLe.refl _,fun _ h=>h,fun _ _=>rfl⟩
theorem pT.trans {φ φ1 φ2:bc} {F F1 F2:Nat->Prop} {H H1 H2:AH} (a:pT φ F H φ1 F1 H1) (b:pT φ1 F1 H1 φ2 F2 H2):pT φ F H φ2 F2 H2:=
 ⟨Z2 a.n b.n,a.le.trans b.le,fun c h=>b.fm c (a.fm c h),fun c h=>by rw [b.keep c (Z1 h a.n),a.keep c h]⟩
theorem pT.leF {φ φ':bc} {F F':Nat->Prop} {H H':AH} {w:World} (L:Ly w φ F H) (a:pT φ F H φ' F' H'):LeF F F' H H' :=
 ⟨a.fm,fun c hc=>a.keep c (L.fr c hc).1,fun c x hx h0=>⟨x,by grind [keep,AH.get_lt],h0⟩⟩
def roB (b n:Nat) (cells:List Value):Blk:={ cells,st:=1,wr:=false,fam:=b,start:=0,shared:=false,exact:=true,esz:=n,ver:=1 }
theorem Ly.push {w:World} {φ:bc} {F:Nat->Prop} {H:AH} (L:Ly w φ F H) {c o n:Nat} {us vs:List Value} {cs:Array Value} {e:TypeId} {fz:Nat × Nat} (hh:w.heap[c]? = some (.cells cs e fz))
  (hlen:us.length=vs.length) (ho:o+us.length<=cs.size) (hvs:vs=(cs.toList.drop o).take us.length) (hr:ak φ us vs) :
  Ly w (ug φ H.n ⟨c,o,us.length,n,cs.size,true⟩) (fun x=>F x∨x=H.n) (H.push (roB H.n n us)) ∧
  pT φ F H (ug φ H.n ⟨c,o,us.length,n,cs.size,true⟩) (fun x=>F x∨x=H.n) (H.push (roB H.n n us)):=by
 have hnone:φ H.n=none:=by
  cases hq:φ H.n with
  | none=>rfl
  | some p=>have:=L.top _ p hq;omega
 have hle:PLe φ (ug φ H.n ⟨c,o,us.length,n,cs.size,true⟩):=PLe.add hnone;have hn:(H.push (roB H.n n us)).n=H.n+1:=rfl;have old:∀ b,b<H.n->(H.push (roB H.n n us)).get b=H.get b:=fun b hb=>AH.get_push aa
 have new:(H.push (roB H.n n us)).get H.n=some (roB H.n n us):=AH.get_push_new H _
 have ro:∀ b x,(H.push (roB H.n n us)).get b=some x->x.wr=false:=fun b x hx=>by
  rcases Zl b H.n with h | h
  ·grind [ro]
  ·have hb:b=H.n:=by have:=AH.get_lt hx;omega
   subst hb;rw [new] at hx;cases hx;rfl
 refine ⟨⟨⟨fun g hg=>?_,fun b p hp=>?_,fun b p x i v hp hx h1 hv=>?_,fun b p x i hp hx h1 hi=>?_,fun b b' p p' x x' _ _ hx hx' _ _ _ _=>.inl ⟨ro b x hx,ro b' x' hx'⟩⟩,?_,fun b hb=>?_,ro,fun b p hp=>?_,L.pg.imp fun p hp=>hle _ p hp⟩,
  ⟨aa,hle,fun x h=>.inl h,old⟩⟩
 ·obtain ⟨p,hp,h1⟩:=L.rel.glob g hg;exact ⟨p,hle g p hp,h1⟩
 ·by_cases hb:b=H.n
  ·subst hb;rw [cM] at hp;cases hp;exact ⟨_,cs,e,fz,new,by simp [roB],rfl,rfl,rfl,hh,rfl,ho⟩
  ·rw [d8 hb] at hp;obtain ⟨x,r⟩:=L.rel.dom b p hp
   grind [top]
 ·by_cases hb:b=H.n
  ·subst hb;rw [cM] at hp;cases hp;rw [new] at hx;cases hx;obtain ⟨v',h1,h2⟩:=hr.at (i:=i) hv
   grind [am.mono,cell_of_heap]
  ·rw [d8 hb] at hp;rw [old b (L.top b p hp)] at hx;obtain ⟨v',h2,h3⟩:=L.rel.cell b p x i v hp hx h1 hv
   grind [am.mono]
 ·grind
 ·refine ⟨by simp [AH.push,L.wf.len],fun b x hx=>?_⟩;rcases Zl b H.n with h | h
  ·rw [old b h] at hx;exact L.wf.fam b x hx
  ·have hb:b=H.n:=by have:=AH.get_lt hx;omega
   subst hb;rw [new] at hx;cases hx;trivial
 ·rcases hb with hb | rfl
  ·obtain ⟨h1,x,h2,h3⟩:=L.fr b hb;exact ⟨aa,x,by grind,h3⟩
  ·exact ⟨aa,_,new,rfl⟩
 ·by_cases hb:b=H.n
  ·omega
  ·rw [d8 hb] at hp;have:=L.top b p hp;omega
mutual
theorem lay {w:World}:∀ (d:D) (v:Value) {φ:bc} {F:Nat->Prop} {H:AH},Ly w φ F H->WD w d v ->
  ∃ φ' F' H' u,Ly w φ' F' H'∧pT φ F H φ' F' H'∧am φ' u v∧RD F' H' d u
 | .int k n,v,φ,F,H,L,h=>⟨φ,F,H,v,L,pT.refl ..,by simp only [WD] at h;subst h;rfl,h⟩
 | .bool b,v,φ,F,H,L,h=>⟨φ,F,H,v,L,pT.refl ..,by simp only [WD] at h;subst h;rfl,h⟩
 | .str s,v,φ,F,H,L,h=>⟨φ,F,H,v,L,pT.refl ..,by simp only [WD] at h;subst h;rfl,h⟩
 | .pl u,v,φ,F,H,L,h=>⟨φ,F,H,v,L,pT.refl ..,by grind [WD,am.of_plain],h⟩
 | .sl len cells,v,φ,F,H,L,h=>by
  simp only [WD] at h;rcases h with ⟨rfl,rfl,rfl | ⟨a,rfl⟩⟩ | ⟨c,o,cap,n,cs,e,fz,rfl,hlc,hn,hlen,hh,ho,hds⟩
  ·exact ⟨φ,F,H,.slice none 0 0,L,pT.refl ..,rfl,.inl ⟨rfl,rfl,.inl rfl⟩⟩
  ·obtain ⟨p,hp⟩:=L.pg;obtain ⟨x,_,_,_,hx,h0,_⟩:=L.rel.dom _ _ hp;exact ⟨φ,F,H,.slice (some ⟨kz,0,none⟩) 0 0,L,pT.refl ..,⟨a,0,rfl,.inr ⟨rfl,rfl,rfl,rfl,p,hp⟩⟩,.inl ⟨rfl,rfl,.inr ⟨_,_,_,rfl,x,hx,h0⟩⟩⟩
  ·obtain ⟨φ1,F1,H1,us,L1,E1,r1,d1⟩:=lays cells _ L hds;have hl:us.length=cells.length:=by have:=d1.length;omega
   obtain ⟨L2,E2⟩:=L1.push (us:=us) (n:=n) (o:=o) hh (by grind) aa (by rw [hl]) r1;refine ⟨_,_,_,.slice (some ⟨H1.n,0,none⟩) len cap,L2,E1.trans E2,?_,?_⟩
   ·refine ⟨⟨c,o,none⟩,cap,rfl,.inl ⟨rfl,rfl,_,cM ..,rfl,rfl,.inl rfl⟩⟩
   ·have new:(H1.push (roB H1.n n us)).get H1.n=some (roB H1.n n us):=AH.get_push_new H1 _;by_cases h0:len=0
    ·subst h0;exact .inl ⟨rfl,Zi aa,.inr ⟨_,_,_,rfl,_,new,by simp [roB]⟩⟩
    ·refine .inr ⟨H1.n,0,cap,us,n,rfl,aa,hlc,hn,hlen,.inr rfl,?_,RDs.mono (E2.leF L1) _ _ d1,_,new,.inl rfl⟩;rw [kx new rfl (by show 0+cells.length<=us.length;omega)]
     show some ((us.drop 0).take cells.length)=_
     grind
theorem lays {w:World}:∀ (ds:List D) (vs:List Value) {φ:bc} {F:Nat->Prop} {H:AH},Ly w φ F H->WDs w ds vs ->
  ∃ φ' F' H' us,Ly w φ' F' H'∧pT φ F H φ' F' H'∧ak φ' us vs∧RDs F' H' ds us
 | [],vs,φ,F,H,L,h=>⟨φ,F,H,[],L,pT.refl ..,by trivial,rfl⟩
 | d::ds,vs,φ,F,H,L,h=>by
  simp only [WDs] at h;obtain ⟨v,vs,rfl,h1,h2⟩:=h;obtain ⟨φ1,F1,H1,u,L1,E1,r1,d1⟩:=lay d v L h1;obtain ⟨φ2,F2,H2,us,L2,E2,r2,d2⟩:=lays ds vs L1 h2;exact ⟨φ2,F2,H2,u::us,L2,E1.trans E2,⟨v,vs,rfl,am.mono E2.le u v r1,r2⟩,⟨u,us,rfl,RD.mono (E2.leF L1) _ _ d1,d2⟩⟩
end
def UG:Nat->List Blk
 | 0=>[]
 | n+1=>vO::UG n
def wn:List Value:=[.int .u64 1,.int .u64 10,.int .u64 100,.int .u64 1000,.int .u64 10000,.int .u64 100000,.int .u64 1000000,.int .u64 10000000,.int .u64 100000000,.int .u64 1000000000,.int .u64 10000000000,.int .u64 100000000000,
 .int .u64 1000000000000,.int .u64 10000000000000,.int .u64 100000000000000,.int .u64 1000000000000000,.int .u64 10000000000000000,.int .u64 100000000000000000,.int .u64 1000000000000000000,.int .u64 10000000000000000000]
def KA (w:World):Prop:=∃ cs e fz,w.heap[kz]? = some (.cells cs e fz)∧20<=cs.size∧wn=cs.toList.take 20
def H00:AH:=⟨kz,UG kz⟩
theorem RH {b:Nat} {x:Blk} (h:H00.get b=some x):x=vO:=by
 trivial
theorem start {w:World} (hp:KA w):∃ φ F H,Ly w φ F H∧mb Y F H:=by
 obtain ⟨cs,e,fz,hh,hsz,hcs⟩:=hp
 let φ:bc:=fun b=>if b=kz then some ⟨kz,0,20,1,cs.size,true⟩ else none
 let H:AH:=H00.push (roB kz 1 wn)
 have hn:H.n=kz+1:=rfl;have new:H.get kz=some (roB kz 1 wn):=AH.get_push_new H00 _
 have old:∀ {b x},b≠kz->H.get b=some x->x=vO:=fun {b x} hb hx=>by
  grind [H00,AH.get_push,RH]
 have hφ:∀ {b p},φ b=some p->b=kz∧p=⟨kz,0,20,1,cs.size,true⟩:=fun {b p} h=>by
  grind
 have ro:∀ b x,H.get b=some x->x.wr=false:=fun b x hx=>by
  by_cases hb:b=kz
  ·subst hb;rw [new] at hx;cases hx;rfl
  ·rw [old hb hx];rfl
 have L:Ly w φ (· = kz) H:=by
  refine ⟨⟨fun g hg=>?_,fun b p hp=>?_,fun b p x i v hp hx h1 hv=>?_,fun b p x i hp hx h1 hi=>?_,fun b b' p p' x x' _ _ hx hx' _ _ _ _=>.inl ⟨ro b x hx,ro b' x' hx'⟩⟩,?_,?_,ro,fun b p hp=>?_,⟨⟨kz,0,20,1,cs.size,true⟩,by rfl⟩⟩
  ·have:g=kz:=by simpa [X] using hg
   exact ⟨⟨kz,0,20,1,cs.size,true⟩,by grind,this.symm,rfl⟩
  ·grind [roB]
  ·obtain ⟨rfl,rfl⟩:=hφ hp;rw [new] at hx;cases hx;have hv':wn[i]? = some v:=hv;refine ⟨v,?_,?_⟩
   ·grind [cell_of_heap]
   ·have hm:v∈wn:=Xq hv';have:wn.all plain=true:=rfl
    grind [am.of_plain]
  ·grind
  ·refine ⟨by rfl,fun b x hx=>?_⟩;by_cases hb:b=kz
   ·subst hb;rw [new] at hx;cases hx;trivial
   ·rw [old hb hx];exact Ys _
  ·rintro c rfl;exact ⟨aa,_,new,rfl⟩
  ·grind
 refine ⟨φ,_,H,L,fun g cs' hg=>?_⟩
 have hgp:g=kz∧cs'=FZ:=by
  simp only [Y] at hg;split at hg
  ·simp_all
  ·cases hg
 obtain ⟨rfl,rfl⟩:=hgp;refine ⟨Yb _,rfl,wn,?_,?_⟩
 ·rfl
 simp [FZ,wn,RDs,RD]
end Go.Vm
namespace Go.Vm
open Go Go.Am Go.ChangeShapes Go.WideShapes Go.ChangeAt Go.RowKit
section
variable {HH:Type} {enc:TypeId × Value->HH} {P:Program} {w:World} {base:Nat} {held:Bool}
theorem G7 {a:Addr} {v:Value} (h:w.cell? a=some v):∃ cs e fz,w.heap[a.block]? = some (.cells cs e fz)∧a.spot=none∧cs[a.off]? = some v:=by
 unfold World.cell? at h;split at h
 ·rename_i c e fz hc;split at h
  ·cases h
  ·rename_i hs;refine ⟨c,e,fz,hc,?_,h⟩;cases hq:a.spot with
   | none=>rfl
   | some s=>rw [hq] at hs;simp at hs
 ·cases h
theorem addr_add (a:Addr) (hs:a.spot=none) (i:Nat):a.add i=⟨a.block,a.off+i,none⟩:=by
 unfold Addr.add;split
 ·rename_i h;subst h;cases a;simp at hs ⊢;exact hs
 ·rfl
theorem C4 {a:Addr} {vs:List Value} (h:∀ i v,vs[i]? = some v->w.cell? (a.add i)=some v) (hp:0<vs.length) :
  ∃ cs e fz,w.heap[a.block]? = some (.cells cs e fz)∧a.spot=none∧a.off+vs.length<=cs.size∧vs=(cs.toList.drop a.off).take vs.length:=by
 obtain ⟨v0,h0⟩:∃ v,vs[0]? = some v:=⟨vs[0],by simp [hp]⟩;obtain ⟨cs,e,fz,hc,hs,_⟩:=G7 (h 0 v0 h0);have ha0:a.add 0=a:=by unfold Addr.add;simp
 rw [ha0] at hc hs
 have at_:∀ i v,vs[i]? = some v->cs[a.off+i]? = some v:=fun i v hv=>by
  obtain ⟨cs',e',fz',hc',_,hv'⟩:=G7 (h i v hv);rw [addr_add a hs] at hc' hv';simp only at hc' hv';rw [hc] at hc';cases hc';exact hv'
 have hle:a.off+vs.length<=cs.size:=by
  have hl:=at_ (vs.length-1) vs[vs.length-1] (by rw [List.getElem?_eq_getElem]);have:=(Array.getElem?_eq_some_iff.1 hl).1;omega
 refine ⟨cs,e,fz,hc,hs,hle,?_⟩;apply X6;intro i;by_cases hi:i<vs.length
 ·rw [List.getElem?_take_of_lt hi,List.getElem?_drop];have:=at_ i vs[i] (by rw [List.getElem?_eq_getElem hi]);rw [List.getElem?_eq_getElem hi];simpa using this.symm
 ·rw [List.getElem?_eq_none aa,List.getElem?_eq_none aR]
end
end Go.Vm
namespace Go.Vm
open Go Go.Am Go.ChangeShapes Go.WideShapes Go.ChangeAt Go.RowKit
inductive Sh where
 | int (k:IntKind)
 | bool
 | str
 | sl (e:Sh)
 | ar (n:Nat) (e:Sh)
 | st (fs:List Sh)
mutual
/-- A type has a shape. -/
def Typ (P:Program):Sh->TypeId->Prop
 | .int k,t=>P.underlying t=some (.int k)∧P.cellsOf t=1
 | .bool,t=>P.underlying t=some .bool∧P.cellsOf t=1
 | .str,t=>P.underlying t=some .string∧P.cellsOf t=1
 | .sl e,t=>∃ u,P.underlying t=some (.slice u)∧P.cellsOf t=1∧0 < P.cellsOf u∧Typ P e u
 | .ar n e,t=>∃ u,P.underlying t=some (.array n u)∧P.cellsOf t=n * P.cellsOf u∧Typ P e u
 | .st fs,t=>∃ l:List Field,P.underlying t=some (.struct l.toArray)∧Mb P fs l 0 (P.cellsOf t)
def Mb (P:Program):List Sh->List Field->Nat->Nat->Prop
 | [],l,o,n=>l=[]∧o=n
 | s :: ss,l,o,n=>∃ f r,l=f :: r∧f.offset=o∧Typ P s f.type∧Mb P ss r (o+P.cellsOf f.type) n
end
mutual
/-- Cells of a shape. -/
def Dat:Sh->List D->Prop
 | .int k,ds=>∃ n,ds=[.int k n]∧(Lit.int k n).wf=true
 | .bool,ds=>∃ b,ds=[.bool b]
 | .str,ds=>∃ s:List UInt8,ds=[.str s]∧s.length<=maxLen
 | .sl e,ds=>∃ xs:List (List D),ds=[.sl xs.length xs.flatten]∧∀ x ∈ xs,Dat e x
 | .ar n e,ds=>∃ xs:List (List D),ds=xs.flatten∧xs.length=n∧∀ x ∈ xs,Dat e x
 | .st ss,ds=>TS ss ds
def TS:List Sh->List D->Prop
 | [],ds=>ds=[]
 | s :: ss,ds=>∃ a b,ds=a++b∧Dat s a∧TS ss b
end
section
variable {HH:Type} {enc:TypeId × Value->HH} {P:Program} {w:World} {base:Nat} {held:Bool}
theorem WDs.append:∀ {a b:List D} {u v:List Value},WDs w a u->WDs w b v->WDs w (a++b) (u++v)
 | [],b,u,v,h,h2=>by grind [WDs]
 | x::a,b,u,v,h,h2=>by
  simp only [WDs] at h;obtain ⟨y,u,rfl,h0,h1⟩:=h;exact ⟨y,u++v,rfl,h0,h1.append h2⟩
theorem WDs.len:∀ {a:List D} {u:List Value},WDs w a u->a.length=u.length
 | [],u,h=>by grind [WDs]
 | x::a,u,h=>by
  simp only [WDs] at h;obtain ⟨y,u,rfl,_,h1⟩:=h;simp [h1.len]
theorem qi {α:Type} (C:Nat->List α) (n:Nat):∀ m,(∀ i,i<m->(C i).length=n)->((List.range m).flatMap C).length=m*n∧∀ i j,i<m->j<n->((List.range m).flatMap C)[i*n+j]? = (C i)[j]?
 | 0,_=>⟨af,fun i j hi=>by omega⟩
 | m+1,h=>by
  obtain ⟨h1,h2⟩:=qi C n m fun i hi=>h i aa
  have e:(List.range (m+1)).flatMap C=(List.range m).flatMap C++C m:=by simp [List.range_succ]
  rw [e];refine ⟨by rw [Zg,h1,h m aa,Ya],fun i j hi hj=>?_⟩;by_cases him:i<m
  ·rw [List.getElem?_append_left,h2 i j him hj];rw [h1]
   calc i*n+j<i*n+n:=aa
    _=(i+1)*n:=by rw [Ya]
    _<=m*n:=Z0 n him
  ·obtain rfl:i=m:=aa
   simp_all
theorem vN (C:Nat->List Value) (X:Nat->List D):∀ m,(∀ i,i<m->WDs w (X i) (C i))->WDs w ((List.range m).flatMap X) ((List.range m).flatMap C)
 | 0,_=>rfl
 | m+1,h=>by
  simp only [List.range_succ,List.flatMap_append,List.flatMap_cons,List.flatMap_nil,Wx];exact (vN C X m fun i hi=>h i aa).append (h m aa)
theorem KF {a:Addr} {len cap n:Nat} {vs:List Value} {ds:List D} (hn:0<n) (hl:len<=cap) (hlen:vs.length=cap*n) (h:∀ i v,vs[i]? = some v->w.cell? (a.add i)=some v) (hd:WDs w ds (vs.take (len*n))) (hds:ds.length=len*n):WD w (.sl len ds) (.slice (some a) len cap):=by
 simp only [WD];by_cases h0:cap=0
 ·have e:len=0:=aa
  simp_all
 ·have hpos:0<vs.length:=by rw [hlen];exact Yz aa hn
  have hle2:len*n<=vs.length:=by rw [hlen];exact Z0 n hl
  obtain ⟨cs,e,fz,hc,hs,hle,hvs⟩:=C4 h hpos;refine .inr ⟨a.block,a.off,cap,n,cs,e,fz,?_,hl,hn,hds,hc,aa,?_⟩
  ·cases a;grind
  grind
def Opn (enc:TypeId × Value->HH) (P:Program) (w:World) (base:Nat) (held:Bool) (s:Sh):Prop:=
 ∀ (t:TypeId) (fuel:Nat) (cs:List Value) (x:DataW HH × List MemPlace),Typ P s t->DataW.trod enc P w base (fun _=>true) held fuel t cs=some x->cs.length=P.cellsOf t∧∃ ds,Dat s ds∧WDs w ds cs
theorem EA {α:Type} [Inhabited α] {p:Nat->α->Prop} {m:Nat} (h:∀ i,i<m->∃ x,p i x):∃ f:Nat->α,∀ i,i<m->p i (f i):=
 ⟨fun i=>if hi:i<m then Classical.choose (h i hi) else default,fun i hi=>by
  grind⟩
theorem SL {s:Sh} (ih:Opn enc P w base held s):Opn enc P w base held (.sl s):=by
 intro t fuel cs x ht h;simp only [Typ] at ht;obtain ⟨u,hu,hc1,hcu,hs⟩:=ht;rcases Deep.open_slice hu h with ⟨rfl,_⟩ | ⟨a,len,cap,m,n,Dd,Pl,rfl,_,hlc,_,hm,_,hx⟩
 ·exact ⟨by grind,[.sl 0 []],⟨[],rfl,fun x hx=>by cases hx⟩,_,_,rfl,.inl ⟨rfl,rfl,.inl rfl⟩,rfl⟩
 ·simp only [if_true] at hm;subst hm;obtain ⟨C,hC⟩:=EA (α:=List Value) hx
  obtain ⟨E,hE⟩:=EA (α:=List D) (p:=fun i e=>Dat s e∧WDs w e (C i)) (m:=m) fun i hi=>by
   obtain ⟨_,ds,h1,h2⟩:=ih _ _ _ _ hs (hC i hi).2
   grind
  have hCl:∀ i,i<m->(C i).length=P.cellsOf u:=fun i hi=>(World.cells?_some (hC i hi).1).2.1
  obtain ⟨hl1,hl2⟩:=qi C (P.cellsOf u) m hCl;have hEl:∀ i,i<m->(E i).length=P.cellsOf u:=fun i hi=>by rw [(hE i hi).2.len,hCl i hi]
  refine ⟨by grind,[.sl ((List.range len).map E).length ((List.range len).map E).flatten],⟨_,rfl,fun x hx=>?_⟩,_,_,rfl,?_,rfl⟩
  ·simp only [Y5,Xb] at hx;obtain ⟨i,hi,rfl⟩:=hx;exact (hE i aa).1
  ·rw [List.length_map,List.length_range,<- List.flatMap_def];refine KF (vs:=(List.range m).flatMap C) hcu hlc hl1 (fun i v hv=>?_) ?_ (qi E (P.cellsOf u) len fun i hi=>hEl i aa).1
   ·have hi:=(List.getElem?_eq_some_iff.1 hv).1;rw [hl1] at hi;have hdm:=Yj i (P.cellsOf u);have hmod:=Y3 i hcu;have hdiv:i / P.cellsOf u<m:=Xa (by grind);have e:i=i / P.cellsOf u*P.cellsOf u+i % P.cellsOf u:=by rw [Zx];exact hdm.symm
    have:=(World.cells?_some (hC _ hdiv).1).2.2 (i % P.cellsOf u) hmod
    grind [Addr.add_add]
   ·have e:((List.range m).flatMap C).take (len*P.cellsOf u)=(List.range len).flatMap C:=by
     have e1:List.range m=List.range len++(List.range (m-len)).map (len + ·):=by
      conv=>lhs;rw [show m=len+(m-len) by omega,List.range_add]
     rw [e1,List.flatMap_append,Yi];exact (qi C (P.cellsOf u) len fun i hi=>hCl i aa).1
    rw [e];exact vN C E len fun i hi=>(hE i aa).2
theorem SN {n:Nat} {s:Sh} (ih:Opn enc P w base held s):Opn enc P w base held (.ar n s):=by
 intro t fuel cs x ht h;simp only [Typ] at ht;obtain ⟨u,hu,hct,hs⟩:=ht;obtain ⟨xs,m,_,_,hl,hxl,hx⟩:=DataW.trod_array hu h
 let C:Nat->List Value:=fun i=>(cs.drop (i*P.cellsOf u)).take (P.cellsOf u)
 obtain ⟨E,hE⟩:=EA (α:=List D) (p:=fun i e=>Dat s e∧WDs w e (C i)) (m:=n) fun i hi=>by
  have:=hx i hi;rw [List.getElem?_eq_getElem aa] at this;obtain ⟨_,ds,h1,h2⟩:=ih _ _ _ _ hs this
  grind
 refine ⟨hl,((List.range n).map E).flatten,⟨_,rfl,af,fun x hx=>?_⟩,?_⟩
 ·grind
 ·rw [<- List.flatMap_def]
  have e:∀ m,m<=n->cs.take (m*P.cellsOf u)=(List.range m).flatMap C:=by
   intro m
   induction m with
   | zero=>simp
   | succ m ihm=>
    intro hm;rw [Ya,List.take_add,ihm aa];simp [List.range_succ,C]
  have:=e n (Z7 _);rw [Zw aa] at this
  grind [vN]
mutual
theorem opn:∀ s:Sh,Opn enc P w base held s
 | .int k=>by
  intro t fuel cs x ht h;simp only [Typ] at ht;obtain ⟨n,rfl,_,hw⟩:=DataW.trod_int ht.1 h;exact ⟨by grind,[.int k n],⟨n,rfl,hw⟩,_,_,rfl,rfl,rfl⟩
 | .bool=>by
  intro t fuel cs x ht h;simp only [Typ] at ht;obtain ⟨b,rfl,_⟩:=DataW.trod_bool ht.1 h;exact ⟨by grind,[.bool b],⟨b,rfl⟩,_,_,rfl,rfl,rfl⟩
 | .str=>by
  intro t fuel cs x ht h;simp only [Typ] at ht;obtain ⟨s,rfl,_,hs⟩:=DataW.trod_string ht.1 h;exact ⟨by grind,[.str s.data.toList],⟨_,rfl,by trivial⟩,_,_,rfl,rfl,rfl⟩
 | .sl e=>SL (opn e)
 | .ar n e=>SN (opn e)
 | .st ss=>by
  intro t fuel cs x ht h;simp only [Typ] at ht;obtain ⟨l,hu,hl⟩:=ht;obtain ⟨xs,m,_,_,hcl,hxl,hx⟩:=DataW.trod_struct hu h;refine ⟨hcl,?_⟩
  have:=UJ ss (l:=l) (o:=0) (n:=P.cellsOf t) (fuel:=m) (cs:=cs) hl hcl fun f hf=>by
   obtain ⟨i,hi⟩:=List.getElem?_of_mem hf;have h1:=hx i f (by grind)
   grind
  trivial
theorem UJ:∀ (ss:List Sh) {l:List Field} {o n fuel:Nat} {cs:List Value},Mb P ss l o n->cs.length=n ->
  (∀ f∈l,∃ x,DataW.trod enc P w base (fun _=>true) held fuel f.type ((cs.drop f.offset).take (P.cellsOf f.type))=some x)->∃ ds,TS ss ds∧WDs w ds (cs.drop o)
 | [],l,o,n,fuel,cs,ht,hl,h=>by
  simp only [Mb] at ht;refine ⟨[],rfl,?_⟩;rw [Zd aa];rfl
 | s::ss,l,o,n,fuel,cs,ht,hl,h=>by
  simp only [Mb] at ht;obtain ⟨f,r,rfl,rfl,h1,h2⟩:=ht;obtain ⟨x,hx⟩:=h f af;obtain ⟨_,a,ha,wa⟩:=opn s _ _ _ _ h1 hx;obtain ⟨b,hb,wb⟩:=UJ ss h2 hl fun g hg=>h g (by grind)
  refine ⟨a++b,⟨a,b,rfl,ha,hb⟩,?_⟩
  have e:cs.drop f.offset=(cs.drop f.offset).take (P.cellsOf f.type)++cs.drop (f.offset+P.cellsOf f.type):=by
   rw [<- List.drop_drop,Ye]
  grind [WDs.append]
end
inductive Ar where
 | one (x:D)
 | many (xs:List D)
def Ar.v:Ar->V
 | .one x=>.d x
 | .many xs=>.agg (xs.map .d)
def WA (w:World):Ar->Value->Prop
 | .one x,v=>WD w x v
 | .many xs,v=>∃ ws,v=.agg ⟨ws⟩∧WDs w xs ws
def WAs (w:World):List Ar->List Value->Prop
 | [],l=>l=[]
 | x::xs,l=>∃ v vs,l=v::vs∧WA w x v∧WAs w xs vs
theorem ML {F1:Nat->Prop} {H1:AH} (φ0:List Nat) (h0:Hp):∀ (ds:List D) (us:List Value),RDs F1 H1 ds us->RVs φ0 F1 H1 h0 (ds.map .d) us
 | [],us,h=>by trivial
 | d::ds,us,h=>by
  simp only [RDs] at h;obtain ⟨u,us,rfl,h1,h2⟩:=h;exact ⟨u,us,rfl,h1,ML φ0 h0 ds us h2⟩
def RAs (F:Nat->Prop) (H:AH) (rs:List Ar) (us:List Value):Prop:=∀ φ0 h0,RVs φ0 F H h0 (rs.map Ar.v) us
theorem S5:∀ (rs:List Ar) (vs:List Value) {φ:bc} {F:Nat->Prop} {H:AH},Ly w φ F H->WAs w rs vs ->
  ∃ φ' F' H' us,Ly w φ' F' H'∧pT φ F H φ' F' H'∧ak φ' us vs∧RAs F' H' rs us
 | [],vs,φ,F,H,L,h=>⟨φ,F,H,[],L,pT.refl ..,by trivial,fun _ _=>rfl⟩
 | .one x::rs,vs,φ,F,H,L,h=>by
  simp only [WAs,WA] at h;obtain ⟨v,vs,rfl,h1,h2⟩:=h;obtain ⟨φ1,F1,H1,u,L1,E1,r1,d1⟩:=lay x v L h1;obtain ⟨φ2,F2,H2,us,L2,E2,r2,d2⟩:=S5 rs vs L1 h2;exact ⟨φ2,F2,H2,u::us,L2,E1.trans E2,⟨v,vs,rfl,am.mono E2.le u v r1,r2⟩,fun φ0 h0=>⟨u,us,rfl,RD.mono (E2.leF L1) _ _ d1,d2 φ0 h0⟩⟩
 | .many xs::rs,vs,φ,F,H,L,h=>by
  simp only [WAs,WA] at h;obtain ⟨v,vs,rfl,⟨ws,rfl,h1⟩,h2⟩:=h;obtain ⟨φ1,F1,H1,us1,L1,E1,r1,d1⟩:=lays xs ws L h1;obtain ⟨φ2,F2,H2,us,L2,E2,r2,d2⟩:=S5 rs vs L1 h2;exact ⟨φ2,F2,H2,.agg ⟨us1⟩::us,L2,E1.trans E2,⟨_,vs,rfl,⟨ws,rfl,ak.mono E2.le _ _ r1⟩,r2⟩,fun φ0 h0=>⟨_,us,rfl,⟨us1,rfl,ML φ0 h0 _ _ (RDs.mono (E2.leF L1) _ _ d1)⟩,d2 φ0 h0⟩⟩
theorem EC {f:FuncId} {rs:List Ar} {vs:List Value} {b:Bool} {w:World} (hc:CP Y f (rs.map Ar.v) (.d (.bool b))) (hw:WAs w rs vs) (hp:KA w) :
  Calls X.P f vs.toArray w fun e w'=>e=.returned (.bool b)∧w'.os=w.os∧w'.output=w.output∧w.heap.size<=w'.heap.size∧∀ c,c<w.heap.size->w'.heap[c]? = w.heap[c]?:=by
 obtain ⟨φ,F,H,L,g⟩:=start hp;obtain ⟨φ1,F1,H1,us,L1,E1,r1,d1⟩:=S5 rs vs L hw;obtain ⟨n,wv,H2,F2,hcall,hn,_,_,_,_,_,_,_,hr⟩:=Vv vOk hc F1 H1 us L1.wf L1.fr (g.mono (E1.leF L)) d1
 have hv:wv=.bool b:=by
  have:=hr [] [];simpa only [RV,RD] using this
 subst hv;refine (G8 SO hcall L1.rel (args':=vs.toArray) r1).mono ?_;rintro e w' ⟨φ',v',rfl,h1,h2,h3,h4⟩;have hv':v'=.bool b:=(am.of_plain (.bool b) rfl v').1 h1;subst hv';refine ⟨rfl,h3.os,h3.out,h3.size,fun c hc=>h3.frame c hc ?_⟩;rintro ⟨b',p,x,_,_,hx,_,hwr⟩
 grind [Ly.ro]
theorem Hq {s:Sh} {t:TypeId} {fuel:Nat} {v:Value} {x:DataW HH × List MemPlace} (ht:Typ P s t) (hc:P.cellsOf t=1) (h:DataW.trod enc P w base (fun _=>true) held fuel t v.cells.toList=some x) (hv:∀ cs,v≠.agg cs) :
  ∃ d,Dat s [d]∧WA w (.one d) v:=by
 obtain ⟨hl,ds,h1,h2⟩:=opn s _ _ _ _ ht h
 have hcl:v.cells.toList=[v]:=by
  cases v <;> first | rfl | grind
 rw [hcl] at h2;have:=h2.len;obtain ⟨d,rfl⟩:∃ d,ds=[d]:=List.length_eq_one_iff.1 this;simp only [WDs] at h2;obtain ⟨v',vs',e,h2,_⟩:=h2;simp only [List.cons.injEq] at e;obtain ⟨rfl,_⟩:=e;exact ⟨d,h1,h2⟩
end
theorem GY {α:Type} {s:Sh} {f:α->List D} (q:α->Prop) (hs:∀ ds,Dat s ds->∃ a,ds=f a∧q a) {d:D} (h:Dat (.sl s) [d]):∃ l:List α,d=.sl l.length (l.flatMap f)∧∀ a∈l,q a:=by
 simp only [Dat,List.cons.injEq,and_true] at h;obtain ⟨xs,rfl,hx⟩:=h
 have:∀ xs:List (List D),(∀ x∈xs,Dat s x)->∃ l:List α,xs=l.map f∧∀ a∈l,q a:=by
  intro xs
  induction xs with
  | nil=>simp
  | cons x xs ih=>
   intro h;obtain ⟨n,rfl,hn⟩:=hs x (h x af);obtain ⟨zs,rfl,hz⟩:=ih fun y hy=>h y (by grind)
   exact ⟨n::zs,rfl,fun m hm=>by grind⟩
 obtain ⟨l,rfl,hl⟩:=this xs hx;exact ⟨l,by rw [List.length_map,<- List.flatMap_def],hl⟩
end Go.Vm
namespace Go.Vm
open Go Go.Am Go.ChangeShapes Go.WideShapes Go.ChangeAt Go.RowKit
def KB (W W':World):Prop:=W'.os=W.os∧W'.output=W.output∧W.heap.size<=W'.heap.size∧∀ c,c<W.heap.size->W'.heap[c]? = W.heap[c]?
section
variable {H:Type} {enc:TypeId × Value->H} {P:Program}
theorem KB.but {W W':World} (h:KB W W') (may:MemPlace->Prop):W.keptBut W' may:=by
 refine ⟨h.1,h.2.1,fun i hi=>?_⟩;rw [h.2.2.2 i hi];cases hq:W.heap[i]? with
 | none=>simp
 | some o=>cases o <;> simp
theorem K9 {f:Func} {s:ChangeSpec} {apart fresh handsOn again:Bool} {W W':World} {args:Array Value} {v:Value} {ds gs:List (DataW H)} {before pa pv:List MemPlace}
  (hW:DataW.Whole enc P f.params.toList s.vars apart W args.toList ds gs before)
  (hres:∀ (b:Nat) (sp:Nat->Bool) (hd:Bool),DataW.TrodAll enc P W' b sp hd f.resultTypes.toList (v.resultList f.resultTypes.size) (s.fn H (ds++gs)).results [])
  (hargs:∀ sp:Nat->Bool,(∀ p∈before,sp p.block=true)->DataW.TrodAll enc P W' 0 sp true f.params.toList args.toList (s.fn H (ds++gs)).args pa)
  (hvars:∀ sp:Nat->Bool,(∀ p∈before,sp p.block=true)->DataW.TrodVars enc P W' sp s.vars (s.fn H (ds++gs)).vars pv)
  (hps:before=pa++pv) (hk:KB W W')
  (hok:∀ (j:Nat) (t:TypeId) (r:Value),f.resultTypes[j]? = some t->(v.resultList f.resultTypes.size)[j]? = some r->Value.okWide P W' .any 0 t r) :
  s.post enc P f apart fresh handsOn again W args v W':=by
 have hold:∀ p∈before,(fun b=>decide (b<W.heap.size)) p.block=true:=fun p hp=>by simpa using hW.lt p hp
 have hlt:=hW.lt;refine ⟨ds,gs,before,[],pa,pv,hW,hres _ _ _,hargs _ hold,hvars _ hold,World.keptBut_mono (fun p hp=>⟨hp,?_⟩) (hk.but (· ∈ before)),fun _=>?_⟩
 ·rw [hps,Xt] at hp;exact Or.inr hp
 ·obtain ⟨_,_,_,_,_,hz,hn⟩:=hW;refine ⟨hok,_,_,([]++pa)++pv,⟨[]++pa,pv,trodAll_append (hargs _ (fun _ _=>rfl)) (hres _ _ _),hvars _ (fun _ _=>rfl),rfl,?_,?_⟩,?_⟩
  ·intro b off hp;have hp':MemPlace.cell b off∈before:=by rw [hps];simpa using hp
   have hb:b<W.heap.size:=hlt _ hp';have:=hz b off hp';simp only [World.frozen?] at this ⊢;rw [hk.2.2.2 b hb];exact this
  ·intro ha;have:=hn ha;rw [hps] at this;simpa using this
  ·intro p hp _;rw [hps];simpa using hp
theorem um (hl:laidOutB P=true) {W W':World} (hk:KB W W') {sp:Nat->Bool}:∀ {ts:List TypeId} {vs:List Value} {ds:List (DataW H)} {ps:List MemPlace},(∀ t∈ts,P.readableRec t=true∧t<P.types.size) ->
  DataW.TrodAll enc P W 0 (fun _=>true) true ts vs ds ps->(∀ p∈ps,p.block<W.heap.size)->(∀ p∈ps,sp p.block=true)->DataW.TrodAll enc P W' 0 sp true ts vs ds ps
 | [],vs,ds,ps,_,h,_,_=>by
  obtain ⟨rfl,rfl,rfl⟩:=trodAll_nil h;exact trodAll_mk0
 | t::ts,vs,ds,ps,hr,h,hlt,hsp=>by
  obtain ⟨v,vs',d,ds',p,q,rfl,rfl,rfl,h1,h2⟩:=trodAll_cons h;refine trodAll_cons_mk (WideElems.Trod_stays hl (hr t af).1 (hr t af).2 h1 (fun x hx=>?_) fun x hx=>hsp x (by simp [hx])) (um hl hk (fun u hu=>hr u (by simp [hu])) h2 (fun x hx=>hlt x (by simp [hx])) fun x hx=>hsp x (by simp [hx]));have hb:=hlt x (by simp [hx]);cases x with
  | cell b off=>
   simp only [World.sameAt,World.cell?];rw [hk.2.2.2 b hb]
  | map b=>exact hk.2.2.2 b hb
end
theorem zU {P:Program} {w:World}:∀ {l:List (String × DataW Unit)} {ps:List MemPlace},DataW.LaidVars P w l ps->∀ n d,(n,d)∈l ->
  ∃ g t cs fuel p,P.globalNamed n=some g∧(P.globals[g]?).map (·.type)=some t∧w.var? P n=some cs∧DataW.trod (fun _=>()) P w 0 (fun _=>true) false fuel t cs.toList=some (d,p)
 | [],_,_,_,_,hm=>by cases hm
 | (n',d')::r,ps,h,n,d,hm=>by
  obtain ⟨g,t,cs,fuel,p,q,h1,h2,h3,h4,h5,_⟩:=h;rcases Zr.1 hm with e | e
  ·cases e;exact ⟨g,t,cs,fuel,p,h1,h2,h3,h4⟩
  ·exact zU h5 n d e
def SJ:List Int:=[1,10,100,1000,10000,100000,1000000,10000000,100000000,1000000000,10000000000,100000000000,1000000000000,10000000000000,100000000000000,1000000000000000,10000000000000000,100000000000000000,1000000000000000000,10000000000000000000]
theorem SH {P:Program} {W:World} {name:String} {t e:TypeId} (hg:P.globalNamed name=some kz) (hty:(P.globals[kz]?).map (·.type)=some t) (ht:P.underlying t=some (.array 20 e)) (he:P.underlying e=some (.int .u64)) (hce:P.cellsOf e=1) (hct:P.cellsOf t=20)
  {l:List (String × DataW Unit)} (hm:(name,Lib.tabData .u64 SJ)∈l) (h:laidMet P l W):KA W:=by
 obtain ⟨ps,hv,_⟩:=h;obtain ⟨g',t',cs,fuel,p,hg',ht',hvar,hd⟩:=zU hv _ _ hm;obtain rfl:=Option.some.inj (hg.symm.trans hg');obtain rfl:=Option.some.inj (hty.symm.trans ht')
 have tab:Lib.TabIs P W name .u64 SJ:=by
  unfold Lib.TabIs;rw [hvar,<- Lib.cells_of_tab ht he hce hct hd]
 have hpv:∀ i v,wn[i]? = some v->W.cell? ((⟨kz,0,none⟩:Addr).add i)=some v:=by
  intro i v hv;have hi:i<20:=(List.getElem?_eq_some_iff.1 hv).1;rw [addr_add _ rfl];have h1:=tab.cell hg i hi;simp only [Zj];rw [h1];have h2:wn=SJ.map fun z=>Value.int .u64 z:=rfl
  rw [h2,List.getElem?_map,Z5] at hv;obtain ⟨z,hz,rfl⟩:=hv;simp [hz]
 obtain ⟨cs,e,fz,h1,_,h2,h3⟩:=C4 (w:=W) (a:=⟨kz,0,none⟩) (vs:=wn) hpv ae;exact ⟨cs,e,fz,h1,by simpa [wn] using h2,by simpa [wn] using h3⟩
end Go.Vm
