/- Lemmas. -/
import Derived.Test.YthjogmhfdpaaaabGreatDoorQTrB
import Derived.Shelf.Pu.ParseUintPublic10
import Derived.Shelf.Strconv.ParseIntPublic10
import Derived.RangeFuncBox
import Derived.Shelf.Abstract
import Derived.WalkKit
import Derived.OwnWalkIn
import Derived.TacticsInMore
import Derived.LoopIn
set_option linter.unusedVariables false
set_option linter.unusedSimpArgs false
open Go.Proofs.Tryz
open Option renaming some->Wf,none->Vc
open Bool renaming true->Th,false->SM
open Go renaming World->wO,IntKind->iK
open List renaming replicate->So,length->RW
namespace Go.Vm
variable{x:Nat×Ve}{m:Mz}{v u:Ve}{o j n i A E N k:Nat}{us z:ax}{C:List (Nat×Ve)}{r:aw}{l:List af}{Ok dr:Bool}{gs:List (List (Int×Nat))}{a b d:Int}{q:bG}
def dU:ax->Ve->Ve->Int
 |[],_,_=>0
 |i::us,e,x=>e i*x i+dU us e x
theorem NY(a b:Int)(e f x:Ve):∀us,dU us (λi=>a*e i-b*f i) x=a*dU us e x-b*dU us f x
 |[]=>by simp[dU]
 |i::us=>by simp[dU,NY a b e f x us];grind
theorem ZY(a:Int)(e x:Ve):∀us,dU us e (λi=>a*x i)=a*dU us e x
 |[]=>by simp[dU]
 |i::us=>by simp[dU,ZY a e x us];grind
theorem N0{e x y:Ve}:∀{us},(∀i∈us,x i=y i)->dU us e x=dU us e y
 |[],_=>rfl
 |i::us,h=>by simp[dU,h i ac,N0 (us:=us) λj hj=>h j ae]
theorem Ek{e x:Ve}:∀{us},(∀i∈us,e i*x i=0)->dU us e x=0
 |[],_=>rfl
 |i::us,h=>by simp only[dU,h i ac,Ek (us:=us) λj hj=>h j ae];rfl
theorem ZX{e x:Ve}:∀{us},dU us e x≠0->∃i∈us,e i*x i≠0
 |[],h=>absurd rfl h
 | i::us,h=>by
  by_cases h1:e i*x i=0
  .simp only[dU,h1,Xa]at h;have⟨j,hj,h2⟩:=ZX h
   grind
  .exact⟨i,ac,h1⟩
theorem w8{e x:Ve}{j:Nat}:∀{us:ax},j∈us->dU us e x=e j*x j+dU (us.erase j) e x
 | i::us,h=>by
  by_cases hi:i=j
  .subst hi;rw[List.erase_cons_head];rfl
  ·have hj:j∈us:=by
    rcases Zy.1 h with h|h
    .omega
    .exact h
   rw[List.erase_cons_tail ae];simp[dU,w8 hj];omega
theorem N2{e x:Ve}{A S:Nat}:∀{us:ax},(∀i∈us,(e i).natAbs<=A)->(∀i∈us,(x i).natAbs<=S)->(dU us e x).natAbs<=RW us*(A*S)
 |[],_,_=>by simp[dU]
 | i::us,h1,h2=>by
  have ih:=N2 (us:=us) (λj hj=>h1 j ae) (λj hj=>h2 j ae);have a1:=Xz (e i*x i) (dU us e x);rw[Zl]at a1;have a2:=Zr (h1 i ac) (h2 i ac)
  grind[dU,Nat.add_mul]
def qH:Nat->Nat->Nat
 |0,_=>0
 |1,_=>1
 |u+2,A=>(u+1)*A*qH (u+1) (2*A*A)
theorem Q1:∀(u:Nat){A:Nat},1<=A->1<=qH (u+1) A
 |0,A,h=>by simp[qH]
 | u+1,A,h=>by
  have h2:1*1<=A*A:=Zr h h;have h1:=Q1 u (A:=2*A*A) ae;have h3:1*1*1<=(u+1)*A*qH (u+1) (2*A*A):=Zr (Zr aa h) h1;trivial
theorem Kg:∀(k:Nat)(us:ax),RW us=k->us.Nodup->∀(A:Nat),1<=A->∀(es:List Ve)(l x:Ve),(∀e∈es,∀i∈us,(e i).natAbs<=A)->(∀e∈es,dU us e x=0)->dU us l x≠0 ->
  ∃y:Ve,(∀e∈es,dU us e y=0)∧dU us l y≠0∧(∀i,(y i).natAbs<=qH (RW us) A)∧∀i,i ∉ us->y i=0
 | 0,us,hk,hn,A,hA,es,l,x,hb,h0,hl=>by
  rw[Yd.1 hk]at hl;trivial
 | k+1,us,hk,hn,A,hA,es,l,x,hb,h0,hl=>by
  by_cases all:∀e∈es,∀i∈us,e i=0
  .have⟨i,hi,h1⟩:=ZX hl
   refine ⟨λt=>if t=i then 1 else 0,λe he=>Ek λt ht=>by rw[all e he t ht,Int.zero_mul],?_,λt=>?_,λt ht=>by
    grind⟩
   .rw[w8 hi,Ek (us:=us.erase i)]
    .rw[ip rfl,Int.mul_one,Int.add_zero];exact λh=>h1 (by rw[h,Int.zero_mul])
    grind
   grind[Q1]
  ·obtain ⟨e1,he1,j,hj,ha⟩:∃e1,e1∈es∧∃j,j∈us∧e1 j≠0:=by
    grind
   have hk2:RW (us.erase j)=k:=by rw[List.length_erase_of_mem hj];omega
   have hn2:(us.erase j).Nodup:=hn.erase j;have hsub:∀i∈us.erase j,i∈us∧i≠j:=λi hi=>⟨(hn.mem_erase_iff.1 hi).2,(hn.mem_erase_iff.1 hi).1⟩
   have hA2:1*1<=A*A:=Zr hA hA
   have hred:∀e:Ve,dU (us.erase j) (λi=>e1 j*e i-e j*e1 i) x=e1 j*dU us e x-e j*dU us e1 x:=λe=>by
    rw[NY,w8 (e:=e) hj,w8 (e:=e1) hj]
    grind
   obtain ⟨y,y1,y2,y3,y4⟩:=Kg k (us.erase j) hk2 hn2 (2*A*A) ae (es.map λe i=>e1 j*e i-e j*e1 i) (λi=>e1 j*l i-l j*e1 i) x (λe' he' i hi=>by
     obtain⟨e,he,rfl⟩:=Zw.1 he';have⟨hi,_⟩:=hsub i hi
     show(e1 j*e i-e j*e1 i).natAbs<=_
     have b1:=Int.natAbs_sub_le (e1 j*e i) (e j*e1 i);rw[Zl,Zl]at b1;have b2:=Zr (hb e1 he1 j hj) (hb e he i hi);have b3:=Zr (hb e he j hj) (hb e1 he1 i hi)
     grind) (λe' he'=>by
     grind) (by
     simp_all)
   have hval:∀e:Ve,dU us e (λt=>if t=j then -dU (us.erase j) e1 y else e1 j*y t)=dU (us.erase j) (λi=>e1 j*e i-e j*e1 i) y:=λe=>by
    rw[w8 hj,ip rfl,NY,N0 (y:=λt=>e1 j*y t) (λt ht=>iN (hsub t ht).2),ZY]
    grind
   refine⟨_,λe he=>(hval e).trans (y1 _ (Zw.2 ⟨e,he,rfl⟩)),ae,λt=>?_,λt ht=>?_⟩
   .cases k with
    | zero=>
     rw[Yd.1 hk2]at y2;trivial
    | succ u=>
     rw[hk]
     show(if t=j then -dU (us.erase j) e1 y else e1 j*y t).natAbs<=(u+1)*A*qH (u+1) (2*A*A)
     rw[hk2]at y3;split
     .rw[X0,Nat.mul_assoc];have:=N2 (us:=us.erase j) (e:=e1) (x:=y) (λi hi=>hb e1 he1 i (hsub i hi).1) (λi _=>y3 i)
      grind
     .rw[Zl,Nat.mul_assoc];have b1:=Zr (hb e1 he1 j hj) (y3 t)
      grind
   grind
theorem J7{m:List (Nat×Ve)}(h:bV (vs m) v):bV (vs (x::m)) v:=
 bV.le (λg hg=>bV.mem (by grind[vs])) h
theorem MV:∀{m:List (Nat×Ve)}{o:Nat},fV o m->∀(u:Ve),∃(D:Int)(s:Ve),D≠0∧bV (vs m) s∧∀y∈m,D*u y.1-s y.1=0
 |[],o,H,u=>⟨1,λ_=>0,aa,bV.zero _,λy hy=>by cases hy⟩
 | (l,h)::m,o,⟨⟨a,b,c⟩,d,r⟩,u=>by
  have⟨D,s,h1,h2,h3⟩:=MV r (λi=>h l*u i-u l*h i);refine⟨D*h l,λi=>D*u l*h i+s i,Wt h1 aa,((bV.mem (by simp[vs])).mul _).add (J7 h2),λy hy=>?_⟩;rcases Zy.1 hy with rfl|hy
  .have:s l=0:=uz r h2 l aa
   grind
  grind
theorem DV:∀{m:List (Nat×Ve)}{o:Nat},fV o m->∀x∈m,∃v,bV (vs m) v∧v x.1≠0∧(∀j,j<x.1->v j=0)∧∀y∈m,y.1≠x.1->v y.1=0
 | (l,h)::m,o,H,x,hx=>by
  have H':=H;have⟨⟨a,b,c⟩,d,r⟩:=H';rcases Zy.1 hx with rfl|hx
  .have⟨D,s,h1,h2,h3⟩:=MV r h;have z:∀j,j<=l->s j=0:=λj hj=>uz r h2 j aa
   refine⟨λi=>D*h i-s i,((bV.mem (by simp[vs])).mul D).sub (J7 h2),?_,λj hj=>?_,λy hy MT=>?_⟩
   .show D*h l-s l≠0
    rw[z l (Z8 _),Int.sub_zero];exact Wt h1 aa
   .show D*h j-s j=0
    rw[z j aa,c j hj];simp
   grind
  .have⟨v,v1,v2,v3,v4⟩:=DV r x hx;have:=yU r x hx;refine⟨v,J7 v1,v2,v3,λy hy MT=>?_⟩;rcases Zy.1 hy with rfl|hy
   .exact v3 l aa
   grind
theorem VY:∀{m:List (Nat×Ve)}{o:Nat},fV o m->∀x∈m,∀z∈m,(x.2 z.1).natAbs<=(z.2 z.1).natAbs
 | (l,h)::m,o,⟨⟨a,b,c⟩,d,r⟩,x,hx,z,hz=>by
  rcases Zy.1 hx with rfl|hx
  .rcases Zy.1 hz with rfl|hz
   .omega
   grind
  .rcases Zy.1 hz with rfl|hz
   .have:x.2 l=0:=uz r (bV.mem (Zw.2 ⟨x,hx,rfl⟩)) l aa
    grind
   .exact VY r x hx z hz
theorem aaB{m:List (Nat×Ve)}{o S:Nat}(H:fV o m)(w:Nat->Ve)(hw:∀x∈m,bV (vs m) (w x.1)∧w x.1 x.1≠0∧(∀y∈m,y.1≠x.1->w x.1 y.1=0)∧∀j,(w x.1 j).natAbs<=S) :
  ∀(J:List (Nat×Ve)),(∀x∈J,x∈m)->∀(c:Nat)(u:Ve),bV (vs m) u->(∀y∈m,y ∉ J->u y.1=0)->(∀y∈J,(u y.1).natAbs<=c*(w y.1 y.1).natAbs)->∀j,(u j).natAbs<=c*(RW J*S)
 | [],_,c,u,hu,hz,_,j=>by
  rcases wJ H hu with h|⟨x,hx,_,h,_⟩
  .grind
  .exact absurd (hz x hx ac) h
 | x::J,hJ,c,u,hu,hz,hb,j=>by
  have⟨w1,w2,w3,w4⟩:=hw x (hJ x ac)
  have ih:=aaB H w hw J (λy hy=>hJ y ae) (c*(w x.1 x.1).natAbs) (λi=>w x.1 x.1*u i-u x.1*w x.1 i) ((hu.mul _).sub (w1.mul _)) (λy hy hn=>by
   by_cases e:y.1=x.1
   .grind
   .show w x.1 x.1*u y.1-u x.1*w x.1 y.1=0
    rw [w3 y hy e,hz y hy (λh=>by
     rcases Zy.1 h with h|h
     .exact e (by rw[h])
     trivial)]
    simp) (λy hy=>by
   show(w x.1 x.1*u y.1-u x.1*w x.1 y.1).natAbs<=_
   by_cases e:y.1=x.1
   .rw[e,show w x.1 x.1*u x.1-u x.1*w x.1 x.1=0 by grind];simp
   .rw[w3 y (hJ y ae) e,Int.mul_zero,Int.sub_zero,Zl];have:=Z4 (w x.1 x.1).natAbs (hb y ae)
    grind) j
  have h1:((w x.1 x.1)*u j).natAbs<=(w x.1 x.1*u j-u x.1*w x.1 j).natAbs+(u x.1*w x.1 j).natAbs:=by
   have:=Xz (w x.1 x.1*u j-u x.1*w x.1 j) (u x.1*w x.1 j)
   rwa [Int.sub_add_cancel]at this
  rw[Zl,Zl (u x.1)]at h1;have h2:=Zr (hb x ac) (w4 j)
  have h3:(w x.1 x.1).natAbs*(u j).natAbs<=(w x.1 x.1).natAbs*(c*(RW (x::J)*S)):=by
   calc (w x.1 x.1).natAbs*(u j).natAbs<=c*(w x.1 x.1).natAbs*(RW J*S)+c*(w x.1 x.1).natAbs*S:=Z1 h1 (Nat.add_le_add ih h2)
    _=(w x.1 x.1).natAbs*(c*(RW (x::J)*S)):=by grind
  exact Nat.le_of_mul_le_mul_left h3 (Int.natAbs_pos.2 w2)
theorem aaC{m:List (Nat×Ve)}{S:Nat}(H:fV o m)(hw:∀x∈m,∃v,bV (vs m) v∧v x.1≠0∧(∀y∈m,y.1≠x.1->v y.1=0)∧∀j,(v j).natAbs<=S):∀x∈m,∀j,(x.2 j).natAbs<=RW m*S:=by
 intro x hx j
 let P:Nat->Ve->Prop:=λl v=>bV (vs m) v∧v l≠0∧(∀y∈m,y.1≠l->v y.1=0)∧∀j,(v j).natAbs<=S
 let w:Nat->Ve:=λl=>Classical.epsilon (P l)
 have hP:∀y∈m,P y.1 (w y.1):=λy hy=>Classical.epsilon_spec (hw y hy)
 have:=aaB H w hP m (λy hy=>hy) 1 x.2 (bV.mem (Zw.2 ⟨x,hx,rfl⟩)) (λy hy hn=>absurd hy hn) (λy hy=>by
  have⟨p1,p2,p3,p4⟩:=hP y hy;rcases wJ H p1 with h|⟨z,hz,z1,z2,z3⟩
  .grind
  .have e:z.1=y.1:=Classical.byContradiction λhn=>z2 (p3 z hz hn)
   have h1:=VY H x hx z hz;rw[<-e,W0];refine Z1 h1 ?_;rw[<-e]at z2 z3;exact Xk aa (Int.natAbs_dvd_natAbs.2 z3)) j
 omega
theorem ZZ(e x:Ve):∀us ws,dU (us++ws) e x=dU us e x+dU ws e x
 |[],ws=>by simp[dU]
 |i::us,ws=>by simp only[List.cons_append,dU,ZZ e x us ws];omega
theorem uG(e x:Ve):∀n,dM n e x=dU (List.range n) e x
 |0=>rfl
 |n+1=>by rw[Wu,ZZ,<-uG e x n];simp[dU,dM]
theorem Np:∀(os us:ax),us.Nodup->os.Nodup->(∀c∈os,c∈us)->(os.foldl List.erase us).Nodup∧RW (os.foldl List.erase us)+RW os=RW us∧∀c,c∈os.foldl List.erase us↔c∈us∧c ∉ os
 |[],us,h1,h2,h3=>⟨h1,rfl,λc=>by simp⟩
 | a::os,us,h1,h2,h3=>by
  rw[Xx]at h2;have⟨i1,i2,i3⟩:=Np os (us.erase a) (h1.erase a) h2.2 (λc hc=>h1.mem_erase_iff.2 ⟨λe=>h2.1 (e▸hc),h3 c ae⟩)
  grind
theorem NZ{e x:Ve}:∀{os us:ax},us.Nodup->os.Nodup->(∀c∈os,c∈us)->(∀c∈os,x c=0)->dU (os.foldl List.erase us) e x=dU us e x
 |[],us,_,_,_,_=>rfl
 | a::os,us,h1,h2,h3,h4=>by
  rw[Xx]at h2;have ha:=h3 a ac;simp only[List.foldl_cons];rw[NZ (h1.erase a) h2.2 (λc hc=>h1.mem_erase_iff.2 ⟨λe=>h2.1 (e▸hc),h3 c ae⟩) (λc hc=>h4 c ae),w8 (us:=us) ha,h4 a ac];simp
theorem ZW{x:Ve}(hj:j∈us)(hn:us.Nodup):dU us (λc=>if c=j then 1 else 0) x=x j:=by
 rw[w8 hj,Ek (us:=us.erase j)]
 .simp
 grind
def leads(m:List (Nat×Ve)):ax:=m.map (·.1)
theorem Mg:∀{m:List (Nat×Ve)}{o:Nat},fV o m->(leads m).Nodup
 |[],_,_=>List.nodup_nil
 | (l,h)::m,o,H=>by
  refine Xx.2 ⟨λhl=>?_,Mg H.2.2⟩;have⟨x,hx,e⟩:=Zw.1 hl;have:=yU H.2.2 x hx
  grind
theorem Tc{m:List (Nat×Ve)}(H:fV o m)(hn:∀x∈m,x.1<n)(hx:x∈m):∃os:ax,os.Nodup∧RW os+1=RW m∧(∀c∈os,c<n)∧(∀c,c∈os↔(∃y∈m,y.1=c)∧c≠x.1):=by
 have hd:=Mg H;have hm:x.1∈leads m:=Zw.2 ⟨x,hx,rfl⟩;refine⟨(leads m).erase x.1,hd.erase _,?_,λc hc=>?_,λc=>?_⟩
 .grind[leads]
 .obtain⟨y,hy,rfl⟩:=Zw.1 (hd.mem_erase_iff.1 hc).2
  grind
 grind[leads]
theorem Hr{m:List (Nat×Ve)}(H:fV o m)(hn:∀x∈m,x.1<n):RW m<=n:=by
 obtain ⟨_,h,_⟩:=Np (leads m) (List.range n) W4 (Mg H) (λc hc=>by
  obtain⟨x,hx,rfl⟩:=Zw.1 hc
  grind)
 grind[leads]
theorem Pt(hl:Ln n m)(hj:n<=j):eZ m i j=0:=by
 by_cases hi:i<RW m
 .have:=hl i hi;rw[eZ,nth,Z6,List.getElem?_eq_none aa];rfl
 .rw[eZ,show nth [] m i=[] by rw[nth,Z6,List.getElem?_eq_none aa];rfl];rfl
theorem aku(h:∀i,i<RW m->dM n (ve (nth [] m i)) v=0)(h0:∀j,n<=j->v j=0):dJ n (eT m) v:=by
 refine⟨λu hu=>Ec (λg hg=>?_) hu,h0⟩;obtain⟨r,hr,rfl⟩:=Zw.1 hg;obtain⟨i,hi,rfl⟩:=Zj.1 hr;have e1:m[i]=nth [] m i:=by rw[nth,Z6,List.getElem?_eq_getElem hi];rfl
 grind
theorem Vq(H:fV o C)(hs:∀v,bV (vs C) v↔dJ n (eT m) v)(hA:1<=A)(hb:dC A m):∀x∈C,∀j,(x.2 j).natAbs<=RW C*qH (n+1-RW C) A:=by
 have hk:∀x∈C,dJ n (eT m) x.2:=λx hx=>(hs _).1 (bV.mem (Zw.2 ⟨x,hx,rfl⟩))
 have hp:∀{C:List (Nat×Ve)}{o:Nat},fV o C->∀x∈C,0<x.2 x.1:=by
  intro C
  induction C with
  |nil=>simp
  | cons y C ih=>
   intro o H x hx;have⟨l,h⟩:=y;rcases Zy.1 hx with rfl|hx
   .exact H.1.2.1
   .exact ih H.2.2 x hx
 have hn:∀x∈C,x.1<n:=λx hx=>Decidable.byContradiction λh=>by
  have h1:=(hk x hx).2 x.1 aa
  grind
 refine aaC H λx hx=>?_
 have⟨v,v1,v2,v3,v4⟩:=DV H x hx;have⟨os,o1,o2,o3,o4⟩:=Tc H hn hx;have osr:∀c∈os,c∈List.range n:=λc hc=>Xi.2 (o3 c hc)
 have⟨u1,u2,u3⟩:=Np os (List.range n) W4 o1 osr;have hxu:x.1∈os.foldl List.erase (List.range n):=(u3 _).2 ⟨Xi.2 (hn x hx),λh=>((o4 _).1 h).2 rfl⟩
 have vz:∀c∈os,v c=0:=λc hc=>by
  grind
 obtain ⟨y,y1,y2,y3,y4⟩:=Kg _ _ rfl u1 A hA (m.map ve) (λc=>if c=x.1 then 1 else 0) v (λe he i _=>by
  obtain⟨r,hr,rfl⟩:=Zw.1 he;obtain⟨k,hk,rfl⟩:=Zj.1 hr;have e1:m[k]=nth [] m k:=by rw[nth,Z6,List.getElem?_eq_getElem hk];rfl
  rw[e1];exact hb k i) (λe he=>by
  rw[NZ W4 o1 osr vz,<-uG];exact((hs v).1 v1).1 e (bV.mem he)) (by grind[ZW])
 rw[ZW hxu u1]at y2;have yz:∀c∈os,y c=0:=λc hc=>y4 c λh=>((u3 c).1 h).2 hc
 refine⟨y,(hs y).2 (aku (λi hi=>?_) λj hj=>y4 j λh=>?_),y2,λz hz MT=>yz z.1 ((o4 _).2 ⟨⟨z,hz,rfl⟩,MT⟩),?_⟩
 .rw[uG,<-NZ W4 o1 osr yz]
  grind[nth.eq_1]
 .grind
 ·have e:RW (os.foldl List.erase (List.range n))=n+1-RW C:=by
   rw[List.length_range]at u2;omega
  grind
theorem QG(h:eT m v):∃X:Ve,∀c,v c=dM (RW m) (λk=>eZ m k c) X:=by
 have key:∀(l:List Ve),(∀g∈l,∃X:Ve,∀c,g c=dM (RW m) (λk=>eZ m k c) X)->∀ks,∃X:Ve,∀c,gr ks l c=dM (RW m) (λk=>eZ m k c) X:=by
  intro l
  induction l with
  |nil=>intro _ ks;exact⟨λ_=>0,λc=>by cases ks<;>exact(wQ _ _).symm⟩
  | cons g l ih=>
   intro hg ks;cases ks with
   |nil=>exact⟨λ_=>0,λc=>(wQ _ _).symm⟩
   | cons k ks=>
    have⟨X,hX⟩:=hg g ac;have⟨Y,hY⟩:=ih (λx hx=>hg x ae) ks;refine⟨λi=>k*X i+Y i,λc=>?_⟩;rw[BQ,y9,<-hX,<-hY];rfl
 obtain⟨ks,rfl⟩:=h;refine key _ (λg hg=>?_) ks;obtain⟨r,hr,rfl⟩:=Zw.1 hg;obtain⟨i,hi,rfl⟩:=Zj.1 hr;have e1:m[i]=nth [] m i:=by rw[nth,Z6,List.getElem?_eq_getElem hi];rfl
 refine⟨λj=>if j=i then 1 else 0,λc=>?_⟩;rw[Ir,ip hi,e1];rfl
theorem aan{m:Mz}(X:Ve):∀r,r<=RW m->eT m λc=>dM r (λk=>eZ m k c) X
 |0,_=>bV.zero _
 | r+1,hr=>by
  have h1:=(aan (m:=m) X r aa).add ((ko (m:=m) (i:=r) aa).mul (X r))
  have e:(λc=>dM r (λk=>eZ m k c) X+X r*ve (nth [] m r) c)=λc=>dM (r+1) (λk=>eZ m k c) X:=funext λc=>by
   show _+X r*eZ m r c=_+eZ m r c*X r
   grind
  rwa [e]at h1
theorem QJ(H:fV o C)(h1:∀v,eT m v->bV (vs C) v)(h2:∀v,bV (vs C) v->∃D:Int,D≠0∧eT m λi=>D*v i)(hA:1<=A)(hb:dC A m):
  ∀x∈C,∀j,(x.2 j).natAbs<=RW C*(RW m*(A*qH (RW m) A)):=by
 refine aaC H λx hx=>?_
 have⟨v,v1,v2,v3,v4⟩:=DV H x hx;have⟨D,d1,d2⟩:=h2 v v1;have⟨X,hX⟩:=QG d2
 obtain ⟨os,o1,o2,o3,o4⟩:=Tc (n:=(C.map (·.1)).sum+1) H (λy hy=>by
  have:∀(l:ax) a,a∈l->a<=l.sum:=by
   intro l
   induction l with
   |nil=>trivial
   | cons b l ih=>
    grind
  have:=this _ _ (Zw.2 ⟨y,hy,rfl⟩:y.1∈C.map (·.1));omega) hx
 have dz:∀c,D*v c=dU (List.range (RW m)) (λk=>eZ m k c) X:=λc=>by grind[uG]
 obtain ⟨y,y1,y2,y3,y4⟩:=Kg (RW m) (List.range (RW m)) List.length_range W4 A hA (os.map λc k=>eZ m k c) (λk=>eZ m k x.1) X (λe he i _=>by
  obtain⟨c,hc,rfl⟩:=Zw.1 he;exact hb i c) (λe he=>by
  obtain⟨c,hc,rfl⟩:=Zw.1 he;obtain⟨⟨z,hz,rfl⟩,MT⟩:=(o4 c).1 hc
  grind) (by grind[Wt])
 refine⟨λc=>dM (RW m) (λk=>eZ m k c) y,h1 _ (aan y (RW m) (Z8 _)),?_,λz hz MT=>?_,λj=>?_⟩
 .grind[uG]
 .grind[uG]
 .show(dM (RW m) (λk=>eZ m k j) y).natAbs<=_
  rw[uG];rw[List.length_range]at y3;have:=N2 (us:=List.range (RW m)) (e:=λk=>eZ m k j) (x:=y) (λi _=>hb i j) (λi _=>y3 i)
  grind
theorem Vr{n f:Nat}:∀{C:List (Nat×Ve)}{o:Nat},fV o C->(∀x∈C,x.1<n)->f<n->(∀x∈C,x.1≠f)->∃k:Ve,k f≠0∧(∀x∈C,dM n x.2 k=0)∧∀j,j≠f->(∀x∈C,x.1≠j)->k j=0
 |[],o,H,hn,hf,MT=>⟨λj=>if j=f then 1 else 0,ac,λx hx=>absurd hx Y4,λj hj _=>iN hj⟩
 | (l,h)::C,o,⟨⟨a,b,c⟩,d,r⟩,hn,hf,MT=>by
  have⟨k,k1,k2,k3⟩:=Vr r (λx hx=>hn x ae) hf (λx hx=>MT x ae);have hl:=hn (l,h) ac;have hlf:=MT (l,h) ac
  have dt:∀g:Ve,dM n g (λj=>h l*k j + -(dM n h k)*(if j=l then 1 else 0))=h l*dM n g k-dM n h k*g l:=λg=>by
   rw[BQ,y9,y9,Ir,ip hl,Int.neg_mul];omega
  refine⟨λj=>h l*k j + -(dM n h k)*(if j=l then 1 else 0),?_,λx hx=>?_,λj hj hx=>?_⟩
  .show h l*k f + -(dM n h k)*(if f=l then 1 else 0)≠0
   rw[iN (λe=>hlf e.symm),Int.mul_zero,Int.add_zero];exact Wt aa k1
  .rw[dt];rcases Zy.1 hx with rfl|hx
   .grind
   .have:x.2 l=0:=uz r (bV.mem (Zw.2 ⟨x,hx,rfl⟩)) l aa
    grind
  .show h l*k j + -(dM n h k)*(if j=l then 1 else 0)=0
   rw[iN (λe=>hx (l,h) ac e.symm),k3 j hj (λy hy=>hx y ae)];simp
theorem aks{S:Ve->Prop}(H:fV o C)(hn:∀x∈C,x.1<n)(hs:∀v,bV (vs C) v↔S v)(hS:∀u,S u->∀j,n<=j->u j=0)(hu:dJ n (dJ n S) u):∃D:Int,D≠0∧S λi=>D*u i:=by
 have⟨D,s,h1,h2,h3⟩:=MV H u;have hsS:=(hs s).1 h2;have hsk:dJ n (dJ n S) s:=⟨λw hw=>by rw[wR];exact hw.1 s hsS,hS s hsS⟩;have hd:dJ n (dJ n S) λi=>D*u i + -1*s i:=(hu.mul D).add (hsk.mul (-1))
 have hz:∀f,D*u f + -1*s f=0:=λf=>by
  by_cases hf:f<n
  .by_cases hl:∃x∈C,x.1=f
   .grind
   .have⟨k,k1,k2,k3⟩:=Vr H hn hf (λx hx e=>hl ⟨x,hx,e⟩)
    let k':Ve:=λj=>if j<n then k j else 0
    have dk:∀g:Ve,dM n g k'=dM n g k:=λg=>by
     grind[uG,N0]
    have hk:dJ n S k':=⟨λw hw=>by
     grind[Ec,vs],λj hj=>iN aa⟩
    have h4:=hd.1 k' hk
    have hval:dM n k' (λi=>D*u i + -1*s i)=k f*(D*u f + -1*s f):=by
     have hfr:f∈List.range n:=Xi.2 hf;rw[uG,w8 hfr,Ek (us:=(List.range n).erase f)]
     .grind
     .intro t ht;have⟨t1,t2⟩:=W4.mem_erase_iff.1 ht;by_cases hx:∃x∈C,x.1=t
      .obtain⟨x,hx,rfl⟩:=hx;have:=h3 x hx;rw[show D*u x.1 + -1*s x.1=0 by omega,Int.mul_zero]
      grind
    grind[Int.mul_eq_zero]
  .have a1:=hu.2 f aa;have a2:=hS s hsS f aa
   grind
 refine⟨D,h1,?_⟩;have e:(λi=>D*u i)=s:=funext λi=>by grind
 grind
theorem aav{B:Nat}:∀(r:Nat){f g c o:Nat}{m:Mz}{x:Nat×Mz},I6 B f r c o m=Wf x->f<=g->I6 B g r c o m=Wf x
 |0,f,g,c,o,m,x,h,_=>h
 | r+1,f,g,c,o,m,x,h,hg=>by
  have h2:kG [] (λr=>r) (λ_ r=>r) B f (r+1) c o m=Wf x:=h
  show kG [] (λr=>r) (λ_ r=>r) B g (r+1) c o m=Wf x
  simp[kG]at h2 ⊢;split at h2
  .rename_i ho;rw[ip ho];split at h2
   .rename_i o1 m1 hr;have hr2:mn [] (λr=>r) (λ_ r=>r) B c g o m=Wf (o1,m1):=K6 f g hr hg;rw[hr2];exact aav r h2 hg
   trivial
  grind
theorem Nb{B f g c:Nat}{x:Nat×Mz}(h:m6 B f c m=Wf x)(hg:f<=g):m6 B g c m=Wf x:=aav c h hg
theorem MD{B f g:Nat}{z:Mz}(h:k8 B f n m=Wf z)(hg:f<=g):k8 B g n m=Wf z:=by grind[k8,Nb,Ev]
def sd(k:Nat)(m:List (Nat×Ve)):List (Nat×Ve):=(m.filter λx=>decide (k<=x.1)).map λx=>(x.1-k,λj=>x.2 (k+j))
theorem V0(k:Nat):∀{m:List (Nat×Ve)}{o:Nat},fV o m->fV (o-k) (sd k m)
 |[],o,H=>trivial
 | (l,h)::m,o,⟨⟨a,b,c⟩,d,r⟩=>by
  have ih:=V0 k r;by_cases hk:k<=l
  .have e:sd k ((l,h)::m)=(l-k,λj=>h (k+j))::sd k m:=by simp[sd,List.filter_cons,hk]
   rw[e];refine⟨⟨aa,?_,λj hj=>c _ aa⟩,λx hx=>?_,?_⟩
   .show 0<h (k+(l-k))
    rw[show k+(l-k)=l by omega];exact b
   .obtain⟨y,hy,rfl⟩:=Zw.1 hx;have⟨hy,hky⟩:=Xw.1 hy;have hky:k<=y.1:=by simpa using hky
    show 0<=h (k+(y.1-k))∧h (k+(y.1-k))<y.2 (k+(y.1-k))
    rw[show k+(y.1-k)=y.1 by omega]
    grind
   .rw[show l+1-k=l-k+1 by omega]at ih;exact ih
  .have e:sd k ((l,h)::m)=sd k m:=by simp[sd,List.filter_cons,hk]
   rw[e];exact ak7 aa ih
theorem Bq{L:Nat->Nat}{m:Mz}:∀{r i k:Nat},i<=k->k<i+r->(L k,ve (nth [] m k))∈jy L m r i
 |0,i,k,a,b=>by omega
 | r+1,i,k,a,b=>by
  by_cases e:k=i
  .grind[jy]
  .exact W8 _ (Bq aa aa)
theorem apN{L:Nat->Nat}{w:Mz}(H:Hm (RW m+n) (RW m+n) o L w)(e:iD (iE n m) w):
  ∃C,fV 0 C∧(∀v,bV (vs C) v↔dJ n (eT m) v)∧∀r∈mf (RW m) (w.take o),∃x∈C,ve r=x.2:=by
 have⟨tl,H2,e2⟩:=DW H;have sp:∀u,eT (w.take o) u↔j8 n m u:=λu=>(((e.trans e2) u).symm).trans (Ph u)
 have hh:=sW H2 o 0 0 aa (λ_=>Zb _);refine⟨sd (RW m) (jy L (w.take o) o 0),by have:=V0 (RW m) hh;grind,λv=>?_,λr hr=>?_⟩
 .constructor
  .refine λh=>dJ.spn (λg hg=>?_) h
   obtain⟨x',hx',rfl⟩:=Zw.1 hg;obtain⟨x,hx,rfl⟩:=Zw.1 hx';have⟨hx,hk⟩:=Xw.1 hx;have hk:RW m<=x.1:=by simpa using hk
   obtain⟨i,_,hi,rfl⟩:=yC hx;have hw:=(sp (ve (nth [] (w.take o) i))).1 (ko aa);refine⟨λu hu=>?_,λj hj=>hw.2 _ aa⟩;refine Ec (λg hg=>?_) hu;obtain⟨r,hr,rfl⟩:=Zw.1 hg;obtain⟨k,hk2,rfl⟩:=Zj.1 hr;have e1:m[k]=nth [] m k:=by rw[nth,Z6,List.getElem?_eq_getElem hk2];rfl
   rw[e1,<-hw.1 k hk2];have hk:RW m<=L i:=hk;exact H2.low i aa k aa
  .intro h
   let u:Ve:=λj=>if j<RW m then 0 else v (j-RW m)
   have hsh:(λj=>u (RW m+j))=v:=funext λj=>by
    grind
   have hw:j8 n m u:=by
    refine⟨λi hi=>?_,λj hj=>?_⟩
    .rw[hsh,h.1 _ (ko hi)]
     grind
    .show(if j<RW m then 0 else v (j-RW m))=0
     rw[iN aa];exact h.2 _ aa
   have h1:=(sp u).2 hw;rw[<-sV H2 (Z8 _)]at h1;have h2:=MW hh (RW m) h1 (λj hj=>ip hj);have h3:=QH (RW m) h2;rw[hsh]at h3
   have e3:(vs ((jy L (w.take o) o 0).filter λx=>decide (RW m<=x.1))).map (λg j=>g (RW m+j))=vs (sd (RW m) (jy L (w.take o) o 0)):=by
    simp[vs,sd,Wa,Function.comp_def]
   grind
 .obtain⟨y,hy,rfl⟩:=Zw.1 hr;have⟨hy,hb⟩:=Xw.1 hy;obtain⟨i,hi,rfl⟩:=Zj.1 hy;have e1:(w.take o)[i]=nth [] (w.take o) i:=by rw[nth,Z6,List.getElem?_eq_getElem hi];rfl
  rw[e1]at hb ⊢;have hb:=((OG _ _).1 hb).2
  have hk:RW m<=L i:=Decidable.byContradiction λhn=>by
   have:=H2.pos i aa;have h0:=hb (L i) aa
   grind
  refine⟨_,Zw.2 ⟨(L i,ve (nth [] (w.take o) i)),Xw.2 ⟨Bq aa aa,ae⟩,rfl⟩,funext λj=>LI _ _ _⟩
theorem abU(hE:1<=E)(hb:dC E m):dC E (iE n m):=λi j=>by
 by_cases hi:i<n
 .have:=Cs (m:=m) hi j;simp[ve]at this;simp only[eZ,this];split
  .exact hb j i
  .split<;>simp<;>omega
 grind[nth.eq_1,zD]
theorem A7(h:RW m<=i)(j:Nat):eZ m i j=0:=by rw[eZ,show nth [] m i=[] by rw[nth,Z6,List.getElem?_eq_none h];rfl];rfl
theorem MC(hn:n<=4)(hE:E<=10^9)(hb:dC (10^9) m)(hcan:∀C:List (Nat×Ve),fV 0 C->(∀v,bV (vs C) v↔dJ n (eT m) v)->∀x∈C,∀j,(x.2 j).natAbs<=E):
  ∃f z,k8 100000 f n m=Wf z∧dC E z:=by
 have⟨f0,h0⟩:=M9 (RW m+n) (Jv n m) (by grind[zD]) (abU am hb);have⟨o,w,hw⟩:=h0 f0 (Z8 _);have⟨⟨L,H⟩,e,hlw⟩:=HY (Jv n m) hw;have⟨C,hC,hs,hr⟩:=apN H e
 have hbl:dC (10^9) (mf (RW m) (w.take o)):=λi j=>by
  by_cases hi:i<RW (mf (RW m) (w.take o))
  .have⟨x,hx,ex⟩:=hr (mf (RW m) (w.take o))[i] (X2 hi);have e1:(mf (RW m) (w.take o))[i]=nth [] (mf (RW m) (w.take o)) i:=by rw[nth,Z6,List.getElem?_eq_getElem hi];rfl
   rw[e1]at ex;have:=congrFun ex j
   grind[ve]
  .rw[A7 aa];simp
 have Rg:RW (mf (RW m) (w.take o))<=4:=by
  have h1:RW (mf (RW m) (w.take o))<=RW (w.take o):=by
   simp only[mf,List.length_map];exact List.length_filter_le _ _
  have h2:RW (w.take o)<=RW w:=by rw[Zp];omega
  rw[hlw,zD]at h2;omega
 have key:∃f z,k8 100000 f n m=Wf z:=by
  have⟨f1,h1⟩:=M9 n (aaX (DW H).2.1.ln) Rg hbl;have⟨o1,w1,hw1⟩:=h1 (max f0 f1) aa;by_cases hz:mf (RW m) (w.take o)=[]
  .refine⟨f0,[],?_⟩;unfold k8;rw[hw]
   show(if mf (RW m) (w.take o)=[]then Wf []else _)=Wf []
   grind
  .refine⟨max f0 f1,w1.take o1,?_⟩;unfold k8;rw[Nb hw (by omega:f0<=max f0 f1)]
   show (if mf (RW m) (w.take o)=[]then Wf []else match m6 100000 (max f0 f1) n (mf (RW m) (w.take o))with
    |some (o,w)=>Wf (w.take o)
    |none=>Vc)=_
   grind
 have⟨f,z,hz⟩:=key;have⟨⟨L2,H2⟩,s2⟩:=HI hz;refine⟨f,z,hz,λi j=>?_⟩;by_cases hi:i<RW z
 .have:=hcan (jy L2 z (RW z) 0) (sW H2 (RW z) 0 0 aa (λ_=>Zb _)) (λv=>by grind[sV]) _ (Bq aa (by omega:i<0+RW z)) j;exact this
 .rw[A7 aa];simp
def uV(n:Nat)(m:Mz):Prop:=∃L,Hm n n (RW m) L m
structure O2(E n:Nat)(m g w c:Mz)(f:Nat):Prop where
 g0:∃o g',m6 100000 f n m=Wf (o,g')∧g'.take o=g
 gw:k8 100000 f n g=Wf w
 wc:k8 100000 f n w=Wf c
 cw:k8 100000 f n c=Wf w
 hg:uV n g
 hw:uV n w
 hc:uV n c
 bg:dC (10^9) g
 bw:dC E w
 bc:dC (10^6) c
 sw:RW w=2->dC 157464 w
 sc:RW c=2->dC 157464 c
def abD(E:Nat)(m:Mz):Prop:=∀C:List (Nat×Ve),fV 0 C->(∀v,bV (vs C) v↔dJ 4 (eT m) v)->RW C=1->∀x∈C,∀j,(x.2 j).natAbs<=E
theorem akp(hE:10^6<=E)(hE9:E<=10^9)(h1:abD E m)(hn:n<=4)(hm:RW m<=3)(hl:Ln n m)(hb:dC 9 m):∃g w c f,O2 E n m g w c f:=by
 -- the form of the rows
 have⟨f0,h0⟩:=M9 n hl aa (hb.mono am);have⟨o,g',hg'⟩:=h0 f0 (Z8 _);have⟨⟨Lg,Hg⟩,eg⟩:=XC hl hg';obtain⟨g,rfl⟩:=bD (g'.take o)
 have out:∀u,eT m u->∀j,n<=j->u j=0:=λu hu j hj=>by
  have⟨X,hX⟩:=QG hu;rw[hX j,show(λk=>eZ m k j)=λ_=>0 from funext λk=>Pt hl hj,wR];exact wQ _ _
 have hC0:=sW Hg (RW (g'.take o)) 0 0 aa (λ_=>Zb _);have sC0:∀v,bV (vs (jy Lg (g'.take o) (RW (g'.take o)) 0)) v↔eT m v:=λv=>by rw[sV Hg (Z8 _)];exact(eg v).symm
 have ltC0:∀x∈jy Lg (g'.take o) (RW (g'.take o)) 0,x.1<n:=λx hx=>by
  obtain⟨k,_,hk,rfl⟩:=yC hx;exact Hg.lt k aa
 have sm:RW m*(9*qH (RW m) 9)<=78732:=by
  have:RW m=0∨RW m=1∨RW m=2∨RW m=3:=aa;rcases this with h|h|h|h<;>rw[h]<;>decide
 have small:∀(C:List (Nat×Ve)),RW C<=4->RW C*(RW m*(9*qH (RW m) 9))<=10^6:=λC hC=>by
  have:=Zr hC sm;omega
 have bg:dC (10^9) (g'.take o):=λi j=>by
  by_cases hi:i<RW (g'.take o)
  .have h1:=QJ hC0 (λv hv=>(sC0 v).2 hv) (λv hv=>⟨1,aa,ae⟩) aa hb _ (Bq aa (by omega:i<0+RW (g'.take o))) j;have h2:=small _ (Z1 (Hr hC0 ltC0) hn);exact Z1 h1 (Z1 h2 am)
  .rw[A7 aa];simp
 -- bounds of the kernels
 have can1:∀C:List (Nat×Ve),fV 0 C->(∀v,bV (vs C) v↔dJ n (eT m) v)->∀x∈C,∀j,(x.2 j).natAbs<=E:=λC hC hs x hx j=>by
  have PJ:∀x∈C,x.1<n:=λx hx=>Decidable.byContradiction λh=>by
   have h1:=((hs x.2).1 (bV.mem (Zw.2 ⟨x,hx,rfl⟩))).2 x.1 aa
   have hp:∀{C:List (Nat×Ve)}{o:Nat},fV o C->∀x∈C,0<x.2 x.1:=by
    intro C
    induction C with
    |nil=>simp
    | cons y C ih=>
     intro o H x hx;have⟨l,h⟩:=y;rcases Zy.1 hx with rfl|hx
     .exact H.1.2.1
     .exact ih H.2.2 x hx
   grind
  have hcl:=Hr hC PJ;have hc0:0<RW C:=List.length_pos_of_mem hx;by_cases h4:n=4∧RW C=1
  .rw[h4.1]at hs;exact h1 C hC hs h4.2 x hx j
  refine Z1 (Z1 (Vq hC hs aa hb x hx j) ?_) hE;generalize (RW C)=t at *;have h1:n=0∨n=1∨n=2∨n=3∨n=4:=aa;have h2:t=1∨t=2∨t=3∨t=4:=aa
  rcases h1 with h|h|h|h|h<;>subst h<;>rcases h2 with h|h|h|h<;>subst h<;>first
   |decide
   |omega
 have can2:∀C:List (Nat×Ve),fV 0 C->(∀v,bV (vs C) v↔dJ n (dJ n (eT m)) v)->RW C<=4∧∀x∈C,∀j,(x.2 j).natAbs<=RW C*(RW m*(9*qH (RW m) 9)):=λC hC hs=>by
  have PJ:∀x∈C,x.1<n:=λx hx=>Decidable.byContradiction λh=>by
   have h1:=((hs x.2).1 (bV.mem (Zw.2 ⟨x,hx,rfl⟩))).2 x.1 aa;rcases wJ hC (v:=x.2) (bV.mem (Zw.2 ⟨x,hx,rfl⟩))with z|⟨y,hy,y1,y2,_⟩
   .have hr:=DV hC x hx;have⟨v,v1,v2,v3,v4⟩:=hr;exact v2 (((hs v).1 v1).2 x.1 aa)
   .have⟨v,v1,v2,v3,v4⟩:=DV hC x hx;exact v2 (((hs v).1 v1).2 x.1 aa)
  refine⟨Z1 (Hr hC PJ) hn,QJ hC (λv hv=>(hs v).2 ⟨λu hu=>by rw[wR];exact hu.1 v hv,out v hv⟩) (λv hv=>?_) aa hb⟩;exact aks hC0 ltC0 sC0 out ((hs v).1 hv)
 have eK:∀{S T:Ve->Prop},(∀v,S v↔T v)->∀v,dJ n S v↔dJ n T v:=λh v=>⟨Mx λu hu=>(h u).2 hu,Mx λu hu=>(h u).1 hu⟩
 -- the kernels
 have⟨f1,w,hw,bw⟩:=MC (E:=E) hn hE9 bg (λC hC hs=>can1 C hC λv=>(hs v).trans (eK (λu=>(eg u).symm) v));have⟨Hw,sw⟩:=HI hw;have sw':∀v,eT w v↔dJ n (eT m) v:=λv=>(sw v).trans (eK (λu=>(eg u).symm) v)
 obtain ⟨f2,c,hc,bc⟩:=MC (E:=10^6) hn am (bw.mono hE9) (λC hC hs x hx j=>by
  grind)
 have⟨Hc,sc⟩:=HI hc;have sc':∀v,eT c v↔dJ n (dJ n (eT m)) v:=λv=>(sc v).trans (eK sw' v)
 have s3:∀v,dJ n (eT c) v↔dJ n (eT m) v:=λv=>(eK sc' v).trans (akt out v)
 have⟨f3,w2,hw2,_⟩:=MC (E:=E) hn hE9 (bc.mono am) (λC hC hs=>can1 C hC λv=>(hs v).trans (s3 v));have⟨⟨L2,H2⟩,sw2⟩:=HI hw2;have⟨Lw,Hw'⟩:=Hw;have ew:w2=w:=ak8 H2 Hw' λv=>((sw2 v).trans (s3 v)).trans (sw' v).symm
 subst ew;refine⟨_,_,c,max (max f0 f1) (max f2 f3),⟨o,g',Nb hg' aa,rfl⟩,MD hw aa,MD hc aa,MD hw2 aa,⟨Lg,Hg⟩,⟨Lw,Hw'⟩,Hc,bg,bw,bc,λh2 i j=>?_,λh2 i j=>?_⟩
 .by_cases hi:i<RW w2
  case neg=>rw[A7 aa];simp
  have h1:=Vq (sW Hw' (RW w2) 0 0 aa (λ_=>Zb _)) (λv=>by rw[sV Hw' (Z8 _)];exact sw' v) aa hb _ (Bq aa (by omega:i<0+RW w2)) j;rw[Bp,h2]at h1;refine Z1 h1 ?_;have h1:n=0∨n=1∨n=2∨n=3∨n=4:=aa;rcases h1 with h|h|h|h|h<;>rw[h]<;>decide
 .by_cases hi:i<RW c
  case neg=>rw[A7 aa];simp
  have⟨Lc,Hc'⟩:=Hc;have⟨_,h1⟩:=can2 _ (sW Hc' (RW c) 0 0 aa (λ_=>Zb _)) (λv=>by grind[sV]);have h3:=h1 _ (Bq aa (by omega:i<0+RW c)) j;rw[Bp,h2]at h3;exact Z1 h3 (Z1 (Z4 2 sm) am)
open Go Go.Am Go.Big
theorem qR{α:Type}(d:α)(m:List α)(h:i<RW m):nth d m i=m[i]:=by rw[nth,Z6,List.getElem?_eq_getElem h];rfl
theorem WB(H:uV n m):RW m<=n:=by
 have⟨L,H⟩:=H
 have:=Hr (n:=n) (sW H (RW m) 0 0 aa (λ_=>Zb _)) (λx hx=>by
  obtain⟨k,_,hk,rfl⟩:=yC hx;exact H.lt k aa)
 grind[Bp]
theorem V1(H:uV n m):∀r∈m,RW r=n:=λr hr=>by
 have⟨L,H⟩:=H;obtain⟨i,hi,rfl⟩:=Zj.1 hr;have:=H.ln i hi
 grind[qR]
theorem OH(hb:dC E m):∀r∈m,∀z∈r,z.natAbs<=E:=λr hr z hz=>by
 obtain⟨i,hi,rfl⟩:=Zj.1 hr;obtain⟨j,hj,rfl⟩:=Zj.1 hz;have:=hb i j
 grind[qR]
theorem Dr(h1:0<n)(h2:n<=12)(H:uV n m)(hb:dC (10^9) m):jG n m:=
 ⟨h1,h2,by have:=WB H;omega,V1 H,λr hr z hz=>by have:=OH hb r hr z hz;omega⟩
theorem ahK{l:Nat}(h1:∀j,j<l->nth 0 r j=0)(h2:nth 0 r l≠0):o8 r=l:=by
 have hl:l<RW r:=Decidable.byContradiction λh=>h2 (by rw[nth,Z6,List.getElem?_eq_none aa];rfl)
 have:r.findIdx? (λn=>n !=0)=Wf l:=by
  rw[List.findIdx?_eq_some_iff_getElem];refine⟨hl,by grind[qR],λj hj=>?_⟩;rw[<-qR 0 r aa,h1 j hj];simp
 grind[o8,fL]
theorem WG{n:Nat}{m:Mz}{L:Nat->Nat}(H:Hm n n (RW m) L m):∀(q a:Mz)(b:Int),m=a++q->(∀i,i<RW m->i=RW a->b<L i)->uA b a q=Th
 |[],a,b,e,hb=>rfl
 | r::q,a,b,e,hb=>by
  have DQ:RW a<RW m:=by rw[e];simp
  have er:nth [] m (RW a)=r:=by rw[qR _ _ DQ];simp[e]
  have p1:=H.pos (RW a) DQ;have p2:=H.low (RW a) DQ;simp only[eZ,er]at p1 p2;have hp:=ahK p2 aa;have hb':=hb (RW a) DQ rfl;simp only[uA,hp,Int.toNat_natCast];rw[iN aa,iN]
  .refine WG H q (a++[r]) _ (by simp[e]) λi hi he=>?_
   rw[List.length_append,List.length_singleton]at he;subst he;have:=H.inc (RW a) (RW a+1) aa hi;omega
  .rw[Bool.not_eq_true,List.any_eq_false];intro o ho;obtain⟨j,hj,rfl⟩:=Zj.1 ho;have eo:nth [] m j=a[j]:=by rw[qR _ _ aa];simp[e,List.getElem_append_left hj]
   have:=H.red j (RW a) hj DQ
   grind[tE]
theorem Qh{c:Nat}(hc:c<=12):∀{m:Mz},(∀r∈m,RW r=c)->(∀r∈m,∀z∈r,z.natAbs<=1000000000)->rS c m=0
 |[],_,_=>rfl
 | r::q,h1,h2=>by
  have hr:=h1 r ac;simp only[rS];rw[iN aa,iN aa,iN]
  .exact Qh hc (λx hx=>h1 x ae) λx hx=>h2 x ae
  .rw[Bool.not_eq_true,List.any_eq_false];intro z hz;have:=h2 r ac z hz
   grind[yV]
theorem K7(h1:RW r<=64)(h2:∀z∈r,z.natAbs<=1000000000):kt r=0:=by
 unfold kt;rw[iN];rintro(h|h)
 .omega
 grind[wg]
theorem SH{n:Nat}(hn:n<=64):∀{m:Mz},(∀r∈m,RW r=n)->(∀r∈m,∀z∈r,z.natAbs<=1000000000)->qN n m=0
 |[],_,_=>rfl
 | r::q,h1,h2=>by
  have hr:=h1 r ac;simp only[qN];rw[K7 aa (h2 r ac),iN am,iN aa];exact SH hn (λx hx=>h1 x ae) λx hx=>h2 x ae
theorem Vi(hn:n<=12)(hm:RW m<=12)(h1:∀r∈m,RW r=n)(h2:∀r∈m,∀z∈r,z.natAbs<=1000000000):qV n m=0:=by unfold qV;rw[iN aa,iN aa];exact SH aa h1 h2
theorem Mj(hn:n<=12)(H:uV n m)(hb:dC (10^9) m):sO n m=0:=by
 have hl:=WB H;have hr:=V1 H;have hz:=OH hb;have hz':∀r∈m,∀z∈r,z.natAbs<=1000000000:=λr hr z hzz=>hz r hr z hzz
 unfold sO;rw[Vi hn aa hr hz',iN am,ip];unfold qX
 have t0:pT m=0:=by
  unfold pT;rw[iN aa];refine Qh ?_ (λr hr'=>?_) hz'
  .cases m with
   |nil=>simp[nth]
   |cons x q=>have:=hr x ac;grind[nth]
  .rw[hr r hr'];cases m with
   |nil=>cases hr'
   |cons x q=>have:=hr x ac;grind[nth]
 have⟨L,H⟩:=H;rw[t0,WG H m [] (-1) rfl (λi _ _=>by omega)];rfl
def iQ(N:Nat)(r0 o:Nat×Bk)(l:List af):Hp:=r0::o::ah::fT l::(l.map af.k++So (N-RW l) ah)
theorem LE{r0 o:Nat×Bk}(h:RW l<=N):RW (iQ N r0 o l)=N+4:=by grind[iQ]
theorem TE{r0 o:Nat×Bk}(h:RW l<=12):iQ 12 r0 o l++So 14 ah=iQ 26 r0 o l:=by simp only[iQ,List.cons_append,List.append_assoc,List.replicate_append_replicate];rw[show 12-RW l+14=26-RW l by omega]
theorem aik{r0 o:Nat×Bk}(h:RW l<=12):(iQ 26 r0 o l).take 16=iQ 12 r0 o l:=by rw[<-TE h,X7 (by rw[LE h])]
section
variable{r0:Nat×Bk}(hr0:cj 16 r0.2=Th)
include hr0
theorem GN{o:Nat×Bk}(ho:cj 16 o.2=Th)(hl:∀R∈l,R.s<16):((iQ N r0 o l).all λx=>cj 16 x.2)=Th:=by simp only[iQ,List.all_cons,Yo,ho,hr0,Ga,A8,X8,X5];exact Bool.and_eq_true_iff.2 ⟨rfl,Du hl⟩
theorem UA{m:cN}(hm:RW m<=12)(hr:∀r∈m,RW r<1000000)(hz:∀r∈m,∀z∈r,-9223372036854775808<z∧z<9223372036854775808)(h0:Hp)(K:KL) :
  ∀(q a:cN)(o:Nat×Bk),m=a++q->o=mV ah (cO Th 4 a)->K (.exit 0) [jw 3 (cO Th 4 m)] (iQ 26 r0 (mV ah (cO Th 4 m)) (cO Th 4 m)) ->
  lp (HB DA 16 (bf m) (I (RW m))) [] h0 [jw 3 (cO Th 4 a),I (RW a)] (iQ 26 r0 o (cO Th 4 a)) K
 | [],a,o,e,hu,hK=>by
  simp[Zo]at e;subst e;apply aL;simp only[HB];have PJ:¬((RW m:Int)<(RW m:Int)):=aa
  simp_all
 | r::q,a,o,e,hu,hK=>by
  apply aL;have PJ:((RW a:Int)<(RW m:Int)):=by rw[e];simp;omega
  have hl:RW a<RW m:=aa;have hrm:r∈m:=by rw[e];simp
  have⟨H,hH⟩:=bD (iQ 26 r0 o (cO Th 4 a));have i1:bC H 1 (bf m) (I (RW a))=Wf (.dptr (m.map row) (RW a)):=by rw[e];exact yK row a r q _ _
  have i2:ld1 H (.dptr (m.map row) (RW a))=Wf (aj di r):=by
   rw[pq row m _ hl];simp only[e,Zd (Z8 _),Y5,Y2];rfl
  have Rg:RW H=30:=by rw[hH,LE dG]
  have hu1:(H.all λx=>cj (RW H) x.2)=Th:=by
   rw[Rg];refine Cx (b:=16) aa ?_;rw[hH];have hlt16:∀R∈cO Th 4 a,R.s<16:=λR hR=>by have:=yA Th 4 a R hR;omega
   exact GN hr0 (by rw[hu];exact GG rfl hlt16) hlt16
  rw[<-hH];simp only[HB];simp[PJ,i1,i2]
  have g1:H[RW a+4]?=Wf ah:=by
   rw[hH];simp only[iQ,List.getElem?_cons_succ];rw[List.getElem?_append_right ac,List.getElem?_replicate,ip dG]
  refine qx (RW a+4) ?_;refine jS (L0 (Rd.data _ r) (hz r hrm) (hr r hrm) hu1) g1 ?_;have⟨R,hR⟩:∃R:af,R=⟨RW a+4,1,[],[],true,RW r,r⟩:=⟨_,rfl⟩;have v1:V.ref (RW a+4) (0+1) 0 (RW r) (RW r) (RW (r.map sI))=R.v:=by rw[hR];simp[af.v,af.tot]
  have k1:((0+1,Bk.data 1 (r.map sI) Th SM):Nat×Bk)=R.k:=by rw[hR];simp[af.k]
  have e1:H.set (RW a+4) R.k=r0::o::ah::fT (cO Th 4 a)::((cO Th 4 a++[R]).map af.k++So (26-RW (cO Th 4 a++[R])) ah):=by
   rw[hH];simp only[iQ,List.set_cons_succ];rw[Yy _ _ ac];simp only[List.length_map,Hk,Y5,Yn,List.length_append,List.append_assoc,Zv,Yq,List.length_cons,List.length_nil];rw[show 26-RW a=(26-(RW a+1))+1 by omega,List.replicate_succ,List.set_cons_zero];rfl
  have l2:cO Th 4 (a++[r])=cO Th 4 a++[R]:=by rw[Mc,hR]
  rw[v1,k1,e1,<-l2];simp;refine qx 1 ?_;simp;refine G9 (e:=o.1) (b:=o.2) rfl (v:=R.v) rfl ?_;simp;refine qx 3 ?_;simp;refine(Hd (l:=cO Th 4 a) (R:=R) dG (by simp[qC,aH]) rfl ?_);rw[<-l2];have ih:=UA hm hr hz h0 K q (a++[r]) (o.1+1,.vars [R.v]) (by simp[e]) (by rw[l2,Tn,hu]) hK
  have e2:(RW (a++[r]):Int)=(RW a:Int)+1:=ac;rw[e2]at ih;simp(disch:=try exact cC);apply lo;have e3:26-RW (cO Th 4 (a++[r]))=25-RW a:=ac
  grind[iQ.eq_1,jX]
theorem aji{m:cN}(hm:RW m<=12)(hr:∀r∈m,RW r<1000000)(hz:∀r∈m,∀z∈r,-9223372036854775808<z∧z<9223372036854775808):
  CI Y F.qi [bf m] (iQ 12 r0 ah []) (jw 3 (cO Th 4 m)) (iQ 12 r0 (mV ah (cO Th 4 m)) (cO Th 4 m)):=by
 apply aj5;have hl:RW (iQ 12 r0 ah [])=16:=rfl;have l1:bh (bf m)=Wf (I (RW m)):=rfl;have hlt16:∀R∈cO Th 4 m,R.s<16:=λR hR=>by have:=yA Th 4 m R hR;omega
 rw[hl];simp only[qi];rw[TE ac];simp[l1];refine lo (UA hr0 hm hr hz _ _ m [] ah rfl rfl ?_);simp;refine⟨by rw[aik dG],GN hr0 (GG rfl hlt16) hlt16,.inl ⟨rfl,?_⟩⟩;unfold jw;split
 .rfl
 rfl
end
theorem agI{so eo:Nat}{h:Hp}{m:List af}(hs:h[so]?=Wf (eo,.vars (m.map af.v)))(hr:∀R∈m,we h R)(hc:∀R∈m,RW R.r<=R.cap)(h0:m≠[])(ho:o<=RW m):
  ∃h1,bQ h (.ref so eo 0 o (RW m) (RW m))=Wf (kY ((m.map af.r).take o),h1)∧∀(s e:Nat)(vs:bq),s≠so->h[s]?=Wf (e,Bk.vars vs)->h1[s]?=Wf (e,Bk.vars vs):=by
 have⟨h1,e1,v1⟩:=JL m h hr hc;have g1:=v1 _ _ _ hs;have g0:aH h so eo=.vars (m.map af.v):=by simp[aH,hs]
 have hd:wT (m.map af.v)=Vc:=by
  cases m with
  |nil=>trivial
  |cons R m=>rfl
 refine⟨bP h1 so eo (.data 1 (m.map λR=>j6 R.r) SM Th),?_,λs e vs MT hg=>?_⟩
 .have t1:dX h (.ref so eo 0 o (RW m) (RW m))=Vc:=by simp[dX,g0,hd]
  have t2:xq h (.ref so eo 0 o (RW m) (RW m))=Wf (.sl o ((m.map λR=>j6 R.r).take o),bP h1 so eo (.data 1 (m.map λR=>j6 R.r) SM Th)):=by
   simp only[xq,g0,e1];have:aH h1 so eo=.vars (m.map af.v):=by simp[aH,g1]
   simp only[this];rw[ip ae];simp
  simp_all[bQ,kY,aj,Function.comp_def]
 grind[bP.eq_1]
theorem akr{n Bd f o':Nat}{m z':Mz}(hB:Bd<=100000)(h0:0<n)(hn:n<=12)(hl:qV n m=0)(hm:RW m<=12)(hr:∀r∈m,RW r=n)(hz:∀r∈m,∀z∈r,-9223372036854775808<z∧z<9223372036854775808)
  (hf:m6 Bd f n m=Wf (o',z')) (ho:jG n (z'.take o')):Ds F.Bt [I n,bf m] (.tup [iI n (z'.take o'),I 0]):=by
 apply akl;simp only[Bt];simp;have hrl:∀r∈m,RW r<1000000:=λr hr'=>by grind
 have ck:=Vh (n:=n) (m:=m) aa hrl;rw[hl]at ck;refine cd ck ?_ aM;have⟨r0,hr0⟩:∃r0:Nat×Bk,r0=(1,.vars [I 0,jP]):=⟨_,rfl⟩;have u0:cj 16 r0.2=Th:=by rw[hr0];rfl
 have hH:([(1,Bk.vars [V.d (D.int iK.i64 0),V.d aW]),(0,Bk.none),(0,Bk.none),(0,Bk.none),(0,Bk.none),(0,Bk.none),(0,Bk.none),(0,Bk.none),(0,Bk.none),(0,Bk.none),(0,Bk.none),(0,Bk.none),(0,Bk.none),(0,Bk.none),(0,Bk.none),(0,Bk.none)]:Hp)=iQ 12 r0 ah []:=by rw[hr0];rfl
 have c1:=aji u0 hm hrl hz;have ok1:okV (bf (z'.take o'))=Th:=rfl;have c3:=LY (m:=z'.take o') (n:=n) (by grind[jG.ml]) (λr hr'=>by grind[jG.rl]) ho.sm;simp;rw[hH];by_cases hm0:m=[]
 .subst hm0
  have hz0:z'=[]:=by
   have hfm:=(HY (n:=n) (λi hi=>by simp at hi) hf).2.2;exact Zn hfm
  subst hz0;rw[List.take_nil]at c3 ⊢;have c1':CI Y F.qi [bf []] (iQ 12 r0 ah []) jP (iQ 12 r0 ah []):=c1;refine gG c1' ?_ ac;refine gG (U1 (h:=iQ 12 r0 ah []) (n:=n) ?_) ?_ ac
  .exact GN (N:=12) u0 rfl (λR hR=>by cases hR)
  refine xa (ds:=[kY [],I n]) (h':=iQ 12 r0 ah []) rfl c3 ?_;rw[hr0];simp[iI,ok1];exact⟨_,aM⟩
 .have⟨l,hll⟩:=bD (cO Th 4 m);have hln:RW l=RW m:=by rw[hll];simp
  have hl0:l≠[]:=λe=>hm0 ae
  have hlr:l.map af.r=m:=by rw[hll,Ma]
  have hnth:∀i,i<RW l->nth af.z l i=⟨i+4,1,[],[],true,RW (nth [] m i),nth [] m i⟩:=λi hi=>by rw[hll,Mb Th 4 _ i aa]
  have hnl:∀i,i<RW l->RW (nth [] m i)=n:=λi hi=>by rw[qR _ _ aa];grind
  have⟨o,hoo⟩:=bD (mV ah l)
  have uo:cj 16 o.2=Th:=by
   rw[hoo];exact GG rfl λR hR=>by rw[hll]at hR;have:=yA Th 4 m R hR;omega
  rw[<-hll,<-hoo]at c1;have⟨H,hHe⟩:=bD (iQ 12 r0 o l);have hHl:RW H=16:=by rw[hHe,LE aa]
  have T:Tr (RW H) H H 3 (RW l) n l:=by
   refine⟨?_,λi hi=>?_,λi j hi hj hij=>?_,λi hi=>?_,λi hi=>?_,λ_ _ _=>rfl,aa,λi hi=>?_,?_,Z8 _,λs h1 h2=>by omega⟩
   .grind[iQ,fT]
   .have h5:=Hl Th m 4 [r0,o,ah,fT l] (So (12-RW l) ah) rfl (nR l i) (by grind[yn]);rw[<-hll]at h5;rw[hHe];exact h5
   .grind
   .grind
   .grind
   .grind
   .rw[hHl,hHe];exact GN u0 uo λR hR=>by rw[hll]at hR;have:=yA Th 4 m R hR;omega
  have⟨m1,f1,f2⟩:=Na (hlr.symm▸hf);have⟨⟨⟨h1,T1,e1⟩,hQ⟩,q1,q2⟩:=Nc (Q:=λR=>n<=R.cap∧4<=R.s) (λ_ _ h=>h) T (λi hi=>by rw[nR,hnth i hi];exact⟨ae,ac⟩) f1;have fo:=Me hB aa aa (Z8 _) T f1 T1 e1;have lv:jw 3 l=.ref 3 (RW l) 0 (RW l) (RW l) (RW l):=by rw[jw,iN hl0]
  rw[lv,<-hHe]at c1;refine gG c1 ?_ ac;refine gG fo ?_ ac;have hm1:m1≠[]:=λe=>hl0 ae
  have g0:h1[0]?=Wf (1,.vars [I 0,jP]):=by
   rw[T1.fr 0 aa (λi hi=>by grind),hHe,hr0];rfl
  have T1o:=T1.o;rw[<-q2]at T1o ⊢
  obtain ⟨h3,e3,v3⟩:=agI (o:=o') T1o (λR hR=>by
   obtain⟨i,hi,rfl⟩:=Bg hR;exact⟨SM,T1.r i hi⟩) (λR hR=>by
   grind[Bg,Tr.ln]) hm1 aa
  rw[f2]at e3;have g3:=v3 0 1 _ aa g0
  have hs3:∀c w:V,okV c=Th->okV w=Th->st h3 2 (.ptr 0 1 0 2) (.agg [c,w])=Wf (h3.set 0 (1,.vars [c,w])):=λc w hc hw=>by
   grind[st,jk,aH,bP]
  have h3l:0<RW h3:=(List.getElem?_eq_some_iff.1 g3).1
  have hl3:∀c w:V,aG (h3.set 0 (1,.vars [c,w])) 2 (.ptr 0 1 0 2)=Wf (.agg [c,w]):=λc w=>by
   simp[aG,aH,List.getElem?_set_self h3l]
  have sI:∀h:Hp,bQ h (I n)=Wf (I n,h):=λh=>rfl
  refine xa (ds:=[kY (z'.take o'),I n]) (h':=h3) (by grind[bY]) c3 ?_;have hs4:=hs3 (I n) (bf (z'.take o')) rfl ok1;have hl4:=hl3 (I n) (bf (z'.take o'));rw[show(if fk (V.tup [iI n (z'.take o'),I 0])=Th then h1 else h3)=h3 from rfl];simp only[iI];simp[hs4,hl4];exact⟨_,aM⟩
abbrev I4:=Int×Int×Int×Int
def gQ(x:I4):bF:=[.int .i8 x.1,.int .i8 x.2.1,.int .i8 x.2.2.1,.int .i8 x.2.2.2]
theorem VV(x:I4):RW (gQ x)=4:=rfl
def HU(x:I4):aw:=[x.1,x.2.1,x.2.2.1,x.2.2.2]
def oo(x:I4):Prop:=(-128<=x.1∧x.1<=127)∧(-128<=x.2.1∧x.2.1<=127)∧(-128<=x.2.2.1∧x.2.2.1<=127)∧(-128<=x.2.2.2∧x.2.2.2<=127)
def eY(p:aw)(x:I4):Rw:=gE (RW p) (HU x)
theorem apn{p:aw}{g w c:Mz}{f:Nat}(hp:ef p=0)(h0:0<RW p)(h4:RW p<=4)(hm:RW m<=3)(hr:∀r∈m,RW r=RW p)(hz:∀r∈m,∀z∈r,z.natAbs<=9)(hE:E<=10^9)(R:O2 E (RW p) m g w c f)(Ok:Bool):
  Ds F.AE [aj di p,bf m,B Ok] (.tup [gM p (if Ok=Th then w else c) (if Ok=Th then c else w),I 0]):=by
 apply agt;have⟨o,g',hf,hg⟩:=R.g0;have lg:jG (RW p) g:=Dr h0 aa R.hg R.bg;have lw:jG (RW p) w:=Dr h0 aa R.hw (R.bw.mono hE);have lc:jG (RW p) c:=Dr h0 aa R.hc (R.bc.mono am)
 have c1:=akr (n:=RW p) (m:=m) (Z8 100000) h0 aa (Vi aa aa hr λr hr' z hz'=>by grind) aa hr (λr hr' z hz'=>by grind) hf ae;rw[hg]at c1;have hlc:=Mj aa R.hg R.bg;have c2:=Uq (Z8 100000) hlc lg R.gw lw.rl (by grind[jG.ml]) R.wc lc;have c3:=Vn (Z8 100000) hlc lg R.gw lw
 have cp:=AR (p:=p) aa;rw[hp]at cp;have l1:bh (aj di p)=Wf (I (RW p)):=rfl;have ok1:∀m:Mz,okV (bf m)=Th:=λ_=>rfl
 have ok2:okV (aj di p)=Th:=rfl;simp[iI]at c1 c2 c3;simp only[AE];simp;refine cd cp ?_;simp[l1];refine cd c1 ?_ aM;simp[ok1];refine cd c2 ?_ aM;simp[ok1];refine cd c3 ?_ aM;simp[ok1];cases Ok with
 | false=>
  apply cg;simp[ok1,ok2];exact⟨_,aM⟩
 | true=>
  apply cg;simp[ok1,ok2];exact⟨_,aM⟩
theorem Ul{p:aw}{e:List I4}{kk:Nat}{Ok:Bool}(he:RW e<=3)(hb:∀x∈e,oo x)(hp:RW p<=4)(b1 b3:Nat×Bk)(h0:Hp)(K:KL):∀(q a:List I4),e=a++q ->
  K (.exit 0) [(bz 2).v (RW e) (e.map λx=>row (eY p x))] [(1,.vars [.d (.int .u8 kk),de gQ e,B Ok]),b1,(bz 2).b (RW e) (e.map λx=>row (eY p x)),b3] ->
  lp (FT DA (.ptr 0 1 0 3) (aj di p)) [] h0 [(bz 2).v (RW a) (a.map λx=>row (eY p x)),I (RW a)] [(1,.vars [.d (.int .u8 kk),de gQ e,B Ok]),b1,(bz 2).b (RW a) (a.map λx=>row (eY p x)),b3] K
 | [],a,e1,hK=>by
  simp[Zo]at e1;subst e1;apply aL;have PJ:¬((RW e:Int)<(RW e:Int)):=aa;have l1:bh (de gQ e)=Wf (I (RW e)):=rfl;simp only[FT];simp[PJ,l1];exact hK
 | x::q,a,e1,hK=>by
  apply aL;have PJ:((RW a:Int)<(RW e:Int)):=by rw[e1];simp;omega
  have h3:((RW a:Int)<3):=aa;have DQ:RW a<RW e:=aa;have hx2:nth (0,0,0,0) e (RW a)=x:=by rw[qR _ _ DQ];simp[e1]
  have hm:=hb x ae;have io:Ds F.tX [aj di p,.agg [eE x.1,eE x.2.1,eE x.2.2.1,eE x.2.2.2]] (aj di (eY p x)):=abE hm.1 hm.2.1 hm.2.2.1 hm.2.2.2 hp;have l1:bh (de gQ e)=Wf (I (RW e)):=rfl;have i1:=λh=>lX gQ VV e h (k:=.i64) (i:=(RW a:Int)) aa aa
  have i2:=λh=>lV gQ VV (0,0,0,0) e h (j:=RW a) DQ
  rw[hx2]at i2;simp[Int.toNat_natCast]at i1;have i2':∀h,aG h 4 (.dptr (e.flatMap gQ) (RW a*4))=Wf (.agg [eE x.1,eE x.2.1,eE x.2.2.1,eE x.2.2.2]):=i2;have⟨H,hH⟩:∃H:Hp,H=[(1,.vars [.d (.int .u8 kk),de gQ e,B Ok]),b1,(bz 2).b (RW a) (a.map λx=>row (eY p x)),b3]:=⟨_,rfl⟩;have g1:iJ H 0 1=.vars [.d (.int .u8 kk),de gQ e,B Ok]:=by rw[hH];rfl
  have li1:cI 1 [aW] [(0,aj di (eY p x))] H=Wf ([row (eY p x)],H):=uk ..;have sn:bY H [aj di p,.agg [eE x.1,eE x.2.1,eE x.2.2.1,eE x.2.2.2]]=Wf ([aj di p,.agg [eE x.1,eE x.2.1,eE x.2.2.1,eE x.2.2.2]],H):=by simp[bY,bQ,eE]
  rw[<-hH];simp only[FT];simp[PJ,h3,l1,g1,i1,i2'];refine cd io ?_ sn;simp[li1];refine kM (bz 2) (Nd:=24) (k:=1) (cs:=[row (eY p x)]) aa (by rw[hH];rfl) (by simp[bz]) aM rfl ae aa (by simp[bz]) ?_
  have hs:H.set (bz 2).s ((bz 2).b (RW a+1) ((a.map λx=>row (eY p x))++[row (eY p x)]))=[(1,.vars [.d (.int .u8 kk),de gQ e,B Ok]),b1,(bz 2).b (RW a+1) ((a.map λx=>row (eY p x))++[row (eY p x)]),b3]:=by rw[hH];rfl
  rw[hs];have ih:=Ul (kk:=kk) (Ok:=Ok) he hb hp b1 b3 h0 K q (a++[x]) ae hK;have e4:(RW (a++[x]):Int)=(RW a:Int)+1:=ac;rw[e4,Yn,List.length_append]at ih;simp(disch:=try exact cC)
  simp_all[jX]
theorem ai9{k:Nat}{e:List I4}{Ok:Bool}{E:Nat}{g w c:Mz}{f:Nat}(hk:k<256)(he:RW e<=3)(hb:∀x∈e,oo x)(hE:E<=10^9)(R:O2 E (RW (gj k)) (e.map (eY (gj k))) g w c f) :
  Ds F.tW [.agg [.d (.int .u8 k),de gQ e,B Ok]] (gM (gj k) (if Ok=Th then w else c) (if Ok=Th then c else w)):=by
 apply agu;have⟨p1,p2,p3,p4,p5⟩:=Lo _ (Lq k);have⟨p,hp⟩:=bD (gj k);have pk:=ahq hk;rw[<-hp]at p1 p2 p3 p4 p5 R pk ⊢
 have bu:=apn p1 p3 p4 ae (λr hr=>by
  obtain⟨x,_,rfl⟩:=Zw.1 hr
  grind[eY,gE,HU]) (λr hr z hz=>by
  grind[eY,gE]) hE R Ok
 have⟨C,hC⟩:=bD (if Ok=Th then w else c)
 have⟨W,hW⟩:=bD (if Ok=Th then c else w)
 rw[<-hC,<-hW]at bu ⊢;have em:bf (e.map (eY p))=.d (.sl (RW e) (e.map λx=>row (eY p x))):=by simp[aj,Function.comp_def]
 have ok1:∀m:Mz,okV (bf m)=Th:=λ_=>rfl
 have ok2:okV (aj di p)=Th:=rfl;have ok3:okV (de gQ e)=Th:=rfl;simp[gM]at bu;simp only[tW];simp[ok3];refine cd pk ?_;simp;refine lo (Ul (kk:=k) (Ok:=Ok) he hb p4 _ _ _ _ e [] rfl ?_);simp
 have⟨h',e1,hh⟩:=mO (bz 2) (L:=RW e) (cells:=e.map λx=>row (eY p x)) (h:=[(1,.vars [.d (.int .u8 k),de gQ e,B Ok]),(1,.vars [.d aW,.d aW,.d aW]),(bz 2).b (RW e) (e.map λx=>row (eY p x)),ah]) rfl (by simp[bz])
 obtain ⟨x,hx⟩:∃x,h'=[(1,.vars [.d (.int .u8 k),de gQ e,B Ok]),(1,.vars [.d aW,.d aW,.d aW]),x,ah]:=by
  rcases hh with⟨_,hh⟩|⟨_,hh⟩
  .grind
  .exact⟨_,hh⟩
 rw[<-em]at e1;have sp:∀h:Hp,bQ h (aj di p)=Wf (aj di p,h):=λh=>rfl
 have sb:∀h:Hp,bQ h (B Ok)=Wf (B Ok,h):=λh=>rfl
 refine xa (ds:=[aj di p,bf (e.map (eY p)),B Ok]) (h':=h') (by simp_all[bY]) bu ?_;rw[show ∀h:Hp,(if fk (V.tup [V.agg [aj di p,bf C,bf W],I 0])=Th then h else h')=h' from λ_=>rfl,hx];simp[ok1,ok2];exact⟨_,aM⟩
structure abB(p:aw)(C W:Mz):Prop where
 t:rJ p C W
 hw:uV (RW p) W
 hc:uV (RW p) C
 bw:RW W=2->dC 157464 W
theorem ahE(hE6:10^6<=E)(hE:E<=10^9)(h1:∀m:Mz,RW m<=3->dC 9 m->abD E m){e:List I4}(hk:k<256)(he:RW e<=3)(hb:∀x∈e,oo x):
  ∃C W,Ds F.tW [.agg [.d (.int .u8 k),de gQ e,B Ok]] (gM (gj k) C W)∧abB (gj k) C W∧dC E W:=by
 have⟨p1,p2,p3,p4,p5⟩:=Lo _ (Lq k);have Rg:∀y:I4,RW (eY (gj k) y)=RW (gj k):=λy=>by grind[eY,gE,HU]
 have hsm:∀(y:I4),∀z∈eY (gj k) y,z.natAbs<=9:=λy z hz=>by
  grind[eY,gE]
 have bd:dC 9 (e.map (eY (gj k))):=λi j=>by
  by_cases hi:i<RW (e.map (eY (gj k)))
  .by_cases hj:j<RW (gj k)
   .have hel:nth [] (e.map (eY (gj k))) i=eY (gj k) (e[i]'(by grind)):=by rw[qR _ _ hi,List.getElem_map]
    grind[Dk]
   .rw[Pt (n:=RW (gj k)) (λi hi=>by grind[qR]) aa];simp
  .rw[A7 aa];simp
 obtain ⟨g,w,c,f,R⟩:=akp (n:=RW (gj k)) (m:=e.map (eY (gj k))) hE6 hE (h1 _ (by simpa using he) bd) p4 ae (λi hi=>by
  grind[qR]) bd
 have lw:jG (RW (gj k)) w:=Dr p3 aa R.hw (R.bw.mono hE);have lc:jG (RW (gj k)) c:=Dr p3 aa R.hc (R.bc.mono am);refine⟨_,_,ai9 (Ok:=Ok) hk he hb hE R,?_⟩;cases Ok with
 |false=>exact⟨⟨⟨p1,lc,lw,Mj aa R.hc (R.bc.mono am),100000,f,Z8 _,R.cw,R.wc⟩,R.hw,R.hc,R.sw⟩,R.bw⟩
 |true=>exact⟨⟨⟨p1,lw,lc,Mj aa R.hw (R.bw.mono hE),100000,f,Z8 _,R.wc,R.cw⟩,R.hc,R.hw,R.sc⟩,R.bc.mono hE6⟩
section
variable{p:aw}{c w:Mz}
end
theorem YL{A E:Nat}:∀{x v:aw},(∀z∈x,z.natAbs<=A)->(∀z∈v,z.natAbs<=E)->(md x v).natAbs<=RW x*(A*E)
 |[],v,_,_=>by simp[md]
 |a::x,[],_,_=>by simp[md]
 | a::x,b::v,hx,hv=>by
  have ih:=YL (x:=x) (v:=v) (λz hz=>hx z ae) λz hz=>hv z ae
  have h1:=Xz (a*b) (md x v);rw[Zl]at h1;have h2:=Zr (hx a ac) (hv b ac)
  grind[md,Nat.add_mul]
section
variable{p:aw}{c w:Mz}
end
theorem aml{e:List I4}:Ds F.xT [.agg [.d (.int .u8 k),de gQ e,B Ok]] (B (decide (RW e<=3))):=by
 apply agv;have l1:bh (de gQ e)=Wf (I (RW e)):=rfl;have ok3:okV (de gQ e)=Th:=rfl;by_cases h:RW e<=3
 .have h':(RW e:Int)<=3:=aa;simp only[xT];simp[l1,ok3,h']
  simp_all
 .have h':¬(RW e:Int)<=3:=aa;simp only[xT];simp[l1,ok3,h']
  grind[fp]
theorem aiK{p x:aw}(hp:ef p=0)(hl:RW x=RW p)(hx:∀z∈x,z.natAbs<=10):ot p [x]=0:=by
 have hs:oe x=Th:=by
  unfold oe;rw[Zz];intro z hz;have:=hx z hz;simp[Z7,dT];omega
 grind[ot,uf]
section
variable{p:aw}{c w:Mz}
end
theorem al6(x:Q):Ds F.BM [.agg (qT x)] (.agg (qT ((x.1.natAbs:Nat),x.2))):=by
 apply alX;have ab:=Cg x.1;have e:itoa ((x.1.natAbs:Nat):Int)=aA x.1.natAbs:=by simp[itoa]
 have eq1:qT ((x.1.natAbs:Nat),x.2)=[S (aA x.1.natAbs),S (aA x.2)]:=by simp only[qT,e]
 rw[eq1];simp[BM,qT];refine cd ab ?_;simp;simp[nD]
def S6(e:List (Int×Nat)):Prop:=RW e=4∧∀x∈e,(-128<=x.1∧x.1<=127)∧x.2<256
theorem four{e:List (Int×Nat)}(he:RW e=4):∃a b c d,e=[a,b,c,d]:=by
 match e,he with
 |[a,b,c,d],_=>exact⟨a,b,c,d,rfl⟩
def gX(k:Nat)(e:List I4)(Ok:Bool)(gs:List (List (Int×Nat))):bq:=[.d (.int .u8 k),de gQ e,B Ok]++gs.flatMap oi
def qZ(gs:List (List (Int×Nat))):Prop:=RW gs=4∧∀g∈gs,S6 g
def oA(n:Nat)(gs:List (List (Int×Nat)))(m:Nat):List (List Q):=(List.range m).map λi=>nr n (nth [] gs (i%4))
theorem aly(n:Nat)(gs:List (List (Int×Nat)))(m:Nat):oA n gs (m+1)=oA n gs m++[nr n (nth [] gs (m%4))]:=by simp[oA,Wu]
theorem M3(n:Nat)(gs:List (List (Int×Nat)))(m:Nat):RW (oA n gs m)=m:=by simp[oA]
theorem Gv{g:List (Int×Nat)}(h:RW g=4):RW (oi g)=8:=by obtain⟨a,b,c,d,rfl⟩:=four h;rfl
theorem Da{e:List I4}(h:qZ gs):RW (gX k e Ok gs)=35:=by
 have⟨h4,ho⟩:=h
 match gs,h4 with
 | [a,b,c,d],_=>
  simp only[gX,Xy,List.flatMap_nil,List.length_append,Gv (ho a ac).1,Gv (ho b ac).1,Gv (ho c ac).1,Gv (ho d ac).1];rfl
theorem ahI{e:List I4}(h:qZ gs)(hj:j<4):cut (gX k e Ok gs) (3+j*8) 8=Wf (oi (nth [] gs j)):=by
 have⟨h4,ho⟩:=h
 match gs,h4 with
 | [a,b,c,d],_=>
  obtain⟨a0,a1,a2,a3,rfl⟩:=four (ho a ac).1;obtain⟨b0,b1,b2,b3,rfl⟩:=four (ho b ac).1;obtain⟨c0,c1,c2,c3,rfl⟩:=four (ho c ac).1;obtain⟨d0,d1,d2,d3,rfl⟩:=four (ho d ac).1;have:j=0∨j=1∨j=2∨j=3:=aa;rcases this with rfl|rfl|rfl|rfl<;>rfl
theorem amk{e:List I4}(h:qZ gs):Ds F.AD [.agg (gX k e Ok gs)] (B (decide (RW e<=3))):=by
 apply ags;have fi:=aml (k:=k) (e:=e) (Ok:=Ok);have ok3:okV (de gQ e)=Th:=rfl;have hl:=Da (k:=k) (e:=e) (Ok:=Ok) h
 have hc:cut (gX k e Ok gs) 0 3=Wf [.d (.int .u8 k),de gQ e,B Ok]:=by
  rw[cut,ip aa];rfl
 simp only[AD];simp[hl,hc];refine cd (args:=[.agg [.d (.int .u8 k),de gQ e,B Ok]]) fi ?_ aM;simp
abbrev Bf(A:bq)(p:aw)(C W:Mz)(v:V)(b:Nat×Bk):Hp:=[(1,.vars A),(1,.vars [jP,jP,jP,jP]),(1,.vars [aj di p,bf C,bf W]),(1,.vars [aj di p,bf C,bf W,v]),b]
theorem Uf{k:Nat}{e:List I4}{Ok:Bool}{gs:List (List (Int×Nat))}(h:qZ gs){p:aw}(h0:0<RW p)(h4:RW p<=4){C W:Mz}(hW:RW W<1000)(g0:Hp)(K:KL):∀(m i:Nat),i+m=RW W ->
  K (.exit 0) [] (Bf (gX k e Ok gs) p C W ((bz 4).v (RW W) ((oA (RW p) gs (RW W)).map bX)) ((bz 4).b (RW W) ((oA (RW p) gs (RW W)).map bX))) ->
  lp (FS DA (.ptr 0 1 0 35) (.ptr 2 1 0 3) (.ptr 3 1 0 4)) [] g0 [I i] (Bf (gX k e Ok gs) p C W ((bz 4).v i ((oA (RW p) gs i).map bX)) ((bz 4).b i ((oA (RW p) gs i).map bX))) K
 | 0,i,hi,hK=>by
  have e1:i=RW W:=aa;subst e1;have l1:bh (bf W)=Wf (I (RW W)):=rfl;apply aL;simp only[FS];simp[l1];exact hK
 | m+1,i,hi,hK=>by
  have PJ:((i:Int)<(RW W:Int)):=aa;have l1:bh (bf W)=Wf (I (RW W)):=rfl;have hl:=Da (k:=k) (e:=e) (Ok:=Ok) h;have hj:i%4<4:=Y7 _ am;have hc:=ahI (k:=k) (e:=e) (Ok:=Ok) h hj;have⟨q4,qb⟩:=h.2 (nth [] gs (i%4)) (Dk (by rw[h.1];exact hj));have mk:=aja (p:=p) q4 qb h4 h0;have⟨j,hjj⟩:=bD (i%4)
  have er:(i:Int).tmod 4=(j:Int):=by rw[hjj];rfl
  have e4:((i+1:Nat):Int)=(i:Int)+1:=ac;have q4j:RW (nth [] gs j)=4:=by rw[hjj];exact q4
  have ih:=Uf h h0 h4 hW g0 K m (i+1) aa hK;rw[e4,aly,Yn,<-hjj]at ih;rw[<-hjj]at hc mk hj;have⟨s,hs⟩:=bD (nr (RW p) (nth [] gs j));rw[<-hs]at ih mk;have gl:=M3 (RW p) gs i;generalize oA (RW p) gs i=G at *;apply aL;simp only[FS]
  have hli:∀H,cI 1 [aW] [(0,aX s)] H=Wf ([bX s],H):=λH=>uk ..
  have i1:m5 4 8 (.ptr 0 1 3 35) (I (j:Int))=Wf (.ptr 0 1 (3+j*8) 35):=by simp[m5];omega
  have ht:((gX k e Ok gs).drop (3+j*8)).take 8=oi (nth [] gs j):=by
   rw[cut,ip aa]at hc;exact Option.some.inj hc
  have hj3:3+j*8<=27:=aa;have gl':RW (G.map bX)=i:=by simp[gl]
  simp[PJ,l1,er,i1,hl,hj3,ht]
  have sn:∀h:Hp,bY h [aj di p,.agg (oi (nth [] gs j))]=Wf ([aj di p,.agg (oi (nth [] gs j))],h):=λh=>by
   have⟨a0,a1,a2,a3,e⟩:=four q4j;rw[e];rfl
  refine cd mk ?_ (sn _);simp[hli];refine kM (bz 4) (L:=i) (Nd:=24) (k:=1) (cells:=G.map bX) (cs:=[bX s]) aa rfl (by simp[bz,gl]) rfl rfl (by intro t ht;cases ht) aa (by simp[bz]) ?_
  have DB:∀y:V,okV y=Th->st (Bf (gX k e Ok gs) p C W ((bz 4).v i (G.map bX)) ((bz 4).b (i+1) (G.map bX++[bX s]))) 1 (.ptr 3 1 3 4) y=Wf (Bf (gX k e Ok gs) p C W y ((bz 4).b (i+1) (G.map bX++[bX s]))):=λy hy=>by
   cases y<;>first|(simp[st,jk,aH,bP,hy];done)|cases hy
  have hs:∀b',(Bf (gX k e Ok gs) p C W ((bz 4).v i (G.map bX)) ((bz 4).b i (G.map bX))).set (bz 4).s b'=Bf (gX k e Ok gs) p C W ((bz 4).v i (G.map bX)) b':=λb'=>rfl
  have hov:okV ((bz 4).v (i+1) (G.map bX++[bX s]))=Th:=rfl;rw[hs];simp(disch:=try exact cC)[DB _ hov];rw[jX];apply lo;simp only[Zv,Yq,Acc.v,Acc.b,List.length_append,List.length_map,List.length_singleton]at ih;exact ih
theorem ai8{k:Nat}{e:List I4}{Ok:Bool}{gs:List (List (Int×Nat))}(h:qZ gs){p:aw}(h0:0<RW p)(h4:RW p<=4){C W:Mz}(hW:RW W<1000)(mk:Ds F.tW [.agg [.d (.int .u8 k),de gQ e,B Ok]] (gM p C W)) :
  Ds F.xS [.agg (gX k e Ok gs)] (dj p C W (oA (RW p) gs (RW W))):=by
 apply agr;have ok3:okV (de gQ e)=Th:=rfl;have hl:=Da (k:=k) (e:=e) (Ok:=Ok) h
 have hc:cut (gX k e Ok gs) 0 3=Wf [.d (.int .u8 k),de gQ e,B Ok]:=by
  rw[cut,ip aa];rfl
 have ok1:∀m:Mz,okV (bf m)=Th:=λ_=>rfl
 have ok2:okV (aj di p)=Th:=rfl;simp only[xS];simp[hl,hc];refine cd (args:=[.agg [.d (.int .u8 k),de gQ e,B Ok]]) mk ?_ aM;simp only[gM];simp[ok1,ok2];rw[hl];refine lo (Uf h h0 h4 hW _ _ (RW W) 0 aa ?_);have gl:=M3 (RW p) gs (RW W);generalize oA (RW p) gs (RW W)=G at *
 have hov:okV ((bz 4).v (RW W) (G.map bX))=Th:=by
  cases (RW W)<;>rfl
 simp[ok1,ok2,hov];have⟨h',e1,_⟩:=mO (bz 4) (L:=RW W) (cells:=G.map bX) (h:=[(1,Bk.vars (gX k e Ok gs)),(1,Bk.vars [aj di p,bf C,bf W,(bz 4).v (RW W) (G.map bX)]),(1,Bk.vars [aj di p,bf C,bf W]),(1,Bk.vars [aj di p,bf C,bf W,(bz 4).v (RW W) (G.map bX)]),(bz 4).b (RW W) (G.map bX)]) rfl (by simp[bz,gl])
 have e5:∀(h:Hp)(r:aw),bQ h (aj di r)=Wf (aj di r,h):=λh r=>rfl
 have e6:∀(h:Hp)(m:Mz),bQ h (bf m)=Wf (bf m,h):=λh m=>rfl
 refine⟨h',?_⟩;simp only[bQ,bY,e5,e6,e1,dj,bM];rw[<-gl];rfl
section
variable{p:aw}{c w w':Mz}{g:List (List Q)}{e:Int}
def pd(z:Int):Bool:=!decide (itoa z=[48])
theorem adv(z:Int):Ds F.xv [S (itoa z)] (B (pd z)):=by apply adP;simp only[xv];simp;exact fp (by by_cases h:itoa z=[48]<;>simp[pd,h])
theorem aoz{l:aw}(hN:RW l<1000000):Ds F.An [aj sI l,.fn F.xv [] []] (B (l.any pd)):=by
 apply ae7;simp[An];refine cd (v:=I (fL pd l)) (aeZ (HS l aa (λx=>by simp[bY,bQ]) λx _=>adv x)) ?_ ?_
 .simp;have:=DR pd l;have e:decide (0<=fL pd l)=l.any pd:=by rw[Yh];simpa using this
  rw[e];exact Ta ..
 .simp[bY,aj]
theorem Qb(h:rJ p c w){x:aw}(hl:RW x=RW p)(hx:lG x)(hr:kt x=0):Ds F.xw [gM p c w,aj di x] (.tup [B (!(dO w x).any pd),I 0]):=by
 apply adO;have hn:=h.lc.n12;have hli:∀h:Hp,cI 1 [aW] [(0,aj di x)] h=Wf ([row x],h):=λh=>uk ..
 have b:=Qj h (m:=[x]) ac (λr hr=>by rw[Wd]at hr;subst hr;omega);have e:rT (RW p) [x]=0:=by simp[rT,hr,hl]
 rw[e]at b;have ci:=aoz (l:=dO w x) (by have:=h.lw.ml;simp[dO];omega);simp only[xw,gM];simp[hli];refine cd (args:=[gM p c w,bf [x]]) b ?_ aM;simp;refine cd (args:=[gM p c w,aj di x]) (Qc h hl hx) ?_ aM;simp;refine cd ci ?_ aM;simp;exact⟨_,rfl⟩
end
def mY(a:Int)(b:Nat):Q:=if(ib a b).1=0 then(1,1)else(((ib a b).1.natAbs:Nat),(ib a b).2)
def kW(p:aw)(x:I4)(a:Int)(b:Nat):Tg:=⟨eY p x,itoa (mY a b).1,aA (mY a b).2⟩
theorem af3(z:Int):eU z=0↔z=0:=by
 unfold eU;by_cases h:z=0
 .simp[h]
 .simp only[h,iF];split<;>simp
theorem ai7{p:aw}{x:I4}{b:Nat}(h4:RW p<=4)(hx:oo x)(ha : -128<=a∧a<=127)(hb:b<256):
  Ds F.AB [aj di p,.agg [eE x.1,eE x.2.1,eE x.2.2.1,eE x.2.2.2,.d (.int .i8 a),.d (.int .u8 b)]] (.agg [aj di (kW p x a b).iv,S (kW p x a b).num,S (kW p x a b).den]):=by
 apply agm;have f1:=WY ha hb;have f2:=al6 (ib a b);have f3:=WZ (((ib a b).1.natAbs:Nat),(ib a b).2);have io:Ds F.tX [aj di p,.agg [eE x.1,eE x.2.1,eE x.2.2.1,eE x.2.2.2]] (aj di (eY p x)):=abE hx.1 hx.2.1 hx.2.2.1 hx.2.2.2 h4;have pt:=Dc (n:=1) (d:=1) am am am am am
 rw[Ut]at pt;have ok1:∀m:aw,okV (aj di m)=Th:=λ_=>rfl
 have e3:eU ((((ib a b).1.natAbs:Nat):Int))=0↔(ib a b).1=0:=by rw[af3];omega
 simp[qT]at f1 f2 f3 pt;simp[eE]at io ⊢;have sn:∀h:Hp,bY h [aj di p,.agg [.d (.int .i8 x.1),.d (.int .i8 x.2.1),.d (.int .i8 x.2.2.1),.d (.int .i8 x.2.2.2)]]=Wf ([aj di p,.agg [.d (.int .i8 x.1),.d (.int .i8 x.2.1),.d (.int .i8 x.2.2.1),.d (.int .i8 x.2.2.2)]],h):=λh=>by rfl
 simp only[AB];simp;refine cd f1 ?_;simp;refine cd f2 ?_ aM;simp;refine cd f3 ?_ aM;simp;by_cases h0:(ib a b).1=0
 .have e4:=e3.2 h0;apply cg;simp[e4];refine cd pt ?_;simp;refine cd io ?_ (sn _);simp[ok1];rw[kW,mY,ip h0];exact⟨_,rfl⟩
 .have e4:¬eU (((ib a b).1.natAbs:Nat):Int)=0:=λh=>h0 (e3.1 h)
  apply cg;simp[e4];refine cd io ?_ (sn _);simp[ok1];rw[kW,mY,iN h0];exact⟨_,rfl⟩
section
variable{p:aw}{c w:Mz}
def jb(w:Mz):Nat->List Tg->aw
 |_,[]=>[]
 |i,t::q=>if(dO w t.iv).any pd=Th then jb w (i+1) q else(i:Int)::jb w (i+1) q
theorem M4(h:rJ p c w){l:List Tg}(hl:RW l<1000)(hx:∀t∈l,RW t.iv=RW p∧lG t.iv∧kt t.iv=0)(b0:Nat×Bk)(hb:b0=(1,.vars [aj di p,bf c,bf w]))(h0:Hp)(hh:∃u v w,h0=[u,(0,v),w])(K:KL):∀(q a:List Tg)(z:aw),l=a++q->RW z<=RW a ->
  K (.exit 0) [lZ (z++jb w (RW a) q)] [b0,ah,iS (z++jb w (RW a) q)] ->
  lp (IV DA (.ptr 0 1 0 3) (dY l) (I (RW l))) [1] h0 [lZ z,I (RW a)] [b0,ah,iS z] K
 | [],a,z,e,hz,hK=>by
  simp only[Zo]at e;subst e;apply aL;have PJ:¬((RW l:Int)<(RW l:Int)):=aa;simp only[IV];simp[PJ]
  grind[jb]
 | t::q,a,z,e,hz,hK=>by
  apply aL;have PJ:((RW a:Int)<(RW l:Int)):=by rw[e];simp;omega
  have DQ:RW a<1000:=aa;have p1:=CE a q t;have p2:=CB a q t;rw[<-e]at p1 p2;have⟨x1,x2,x3⟩:=hx t ae;have te:=Qb h x1 x2 x3;have hbo:offB [1] b0.2=Th:=by rw[hb];rfl
  have okr:∀r,okV (aj di r)=Th:=λr=>rfl
  have rs:∀Y x,dl [1] 0 h0 [b0,(1,x),Y]=[b0,ah,Y]:=λY x=>by
   obtain⟨u,v,w,rfl⟩:=hh;rfl
  have ea:aD BinOp.add (I (RW a:Int)) (V.d (D.int iK.i64 1))=Wf (I ((RW a:Int)+1)):=by simp(disch:=omega) []
  have e4:((RW (a++[t]):Nat):Int)=(RW a:Int)+1:=ac;have e5:RW (a++[t])=RW a+1:=ac;have li:∀(i:Int)(h:Hp),cI 1 [.int .i64 0] [(0,I i)] h=Wf ([di i],h):=λi h=>rfl
  have lb:∀r:Hp,iJ (b0::r) 0 1=.vars [aj di p,bf c,bf w]:=λr=>by simp_all
  have⟨Z,hZ⟩:=bD (iS z);simp only[jb]at hK;simp only[IV];rw[<-hZ];simp[PJ];apply cg;simp[p1,p2,okr,lb];refine cd (args:=[gM p c w,aj di t.iv]) te ?_ aM;cases hq:(dO w t.iv).any pd with
  | true=>
   rw[ip hq]at hK;have ih:=M4 h hl hx b0 hb h0 hh K q (a++[t]) z ae aa ae;have cl:=DY hbo z ((RW a:Int)+1) (.vars [aj di t.iv,S t.num,S t.den]);rw[<-hZ]at cl ih;rw[e4]at ih;simp;apply cg;simp(disch:=omega) []
   simp_all
  | false=>
   rw[iN ae]at hK;have ih:=M4 h hl hx b0 hb h0 hh K q (a++[t]) (z++[(RW a:Int)]) ae ae ae;have ev:lZ (z++[(RW a:Int)])=jA.v (RW z+1) (z.map di++[di (RW a)]):=by simp[lZ]
   have eb:iS (z++[(RW a:Int)])=jA.b (RW z+1) (z.map di++[di (RW a)]):=by simp[iS]
   have cl:=DY hbo (z++[(RW a:Int)]) ((RW a:Int)+1) (.vars [aj di t.iv,S t.num,S t.den]);rw[ev,eb]at cl;rw[e4,ev,eb]at ih;simp;apply cg;simp[li];refine kM jA (L:=RW z) (cells:=z.map di) (Nd:=8) (k:=1) (cs:=[di (RW a)]) aa (by rw[hZ];rfl) (by simp[jA]) rfl rfl ae aa am ?_
   grind[xd,jA]
theorem amg(h:rJ p c w){l:List Tg}(hl:RW l<1000)(hs:∀t∈l,oM t)(hc:mK p l=0)(hx:∀t∈l,RW t.iv=RW p∧lG t.iv∧kt t.iv=0):Ds F.B5 [gM p c w,dY l] (.tup [aj di (jb w 0 l),I 0]):=by
 have hn:=h.lc.n12;have ck:=ZD (p:=p) (l:=l) aa aa hs;rw[hc]at ck;have l1:bh (dY l)=Wf (I (RW l)):=rfl;have⟨h',e5,_⟩:=mO jA (L:=RW (jb w 0 l)) (cells:=(jb w 0 l).map di) (h:=[(1,.vars [aj di p,bf c,bf w]),ah,iS (jb w 0 l)]) rfl (by simp[jA])
 have e7:bQ [(1,.vars [aj di p,bf c,bf w]),ah,iS (jb w 0 l)] (lZ (jb w 0 l))=Wf (.d (.sl (RW (jb w 0 l)) ((jb w 0 l).map di)),h'):=e5;apply aoe;simp only[B5,gM];simp;refine cd (args:=[gM p c w]) (JJ h) ?_ aM;simp;refine cd ck ?_ aM;simp[l1];refine lo (M4 h hl hx _ rfl _ ⟨_,_,_,rfl⟩ _ l [] [] rfl (Z8 _) ?_)
 simp;refine⟨h',?_⟩;simp only[bQ,bY,e7,List.nil_append,List.length_nil];rfl
end
section
variable{p:aw}{c w:Mz}{g:List (List Q)}
theorem LF{f:Tg->List Q}{t:Tg}(hd:nh p c w g f t):Ds F.vJ [dj p c w g,.agg [aj di t.iv,S t.num,S t.den]] (aX (f t)):=by apply age;have⟨a,b,h1,h2,h3⟩:=hd;simp only[vJ,dj,bM];simp;refine cd (args:=[dj p c w g,aj di t.iv]) h1 ?_ aM;simp;refine cd h2 ?_ aM;simp;refine cd h3 ?_ aM;simp;exact⟨_,z8 _ _⟩
theorem aoB{x y:List Q}{n e:Int}(hc:Ds F.kr [aj di p,aX x,aX y] (.tup [I n,I e])):Ds F.AA [dj p c w g,aX x,aX y] (I n):=by apply agl;simp only[AA,dj,bM];simp;refine cd hc ?_ aM;simp
theorem Ro(k:KL):∀(q q' p p':aw),RW p=RW p'->RW q=RW q'->RW (p++q)<1000000000->(q=q'->k (.exit 0) [] [])->(q≠q'->k .ret [B SM] []) ->
  lp (FN DA (aj di (p++q)) (aj di (p'++q'))) [] [] [I (RW p)] [] k
 | []=>by
  intro q' p p' hp hq hN h0 h1;have:q'=[]:=Zn hq.symm;subst this;apply aL;simp[FN]
  grind
 | x::q=>by
  intro q' p p' hp hq hN h0 h1;cases q' with
  |nil=>simp at hq
  |cons y q'=>
  simp at hq hN;apply aL;have hy:nth 0 (p'++y::q') (RW p)=y:=by rw[hp];simp
  have e1:bC [] 1 (aj di (p'++y::q')) (.d (.int .i64 (RW p:Int)))=Wf (.dptr ((p'++y::q').map di) (RW p)):=sQ di _ [] rfl ae;have e2:=Mh (p'++y::q') [] (j:=RW p) ae;rw[hy]at e2;simp(disch:=try exact cC)[FN,e1,e2];by_cases h:x=y
  .subst h;simp(disch:=omega) [];have:=Ro k q q' (p++[x]) (p'++[x]) ae hq ae (λg=>h0 (by rw[g])) (λg=>h1 ae)
   simp_all
  .simp[h]
   grind
theorem Rn{x y:aw}(hx:RW x<1000000000)(hy:RW y<1000000000):Ds F.sf [aj di x,aj di y] (B (decide (x=y))):=by
 apply agb;by_cases h:RW x=RW y
 .simp[sf,h];refine lo (Ro _ x y [] [] rfl h cU (λg=>?_) (λg=>?_))
  .simp
   simp_all
  .simp
   simp_all
 .simp[sf,h];exact fp (by simp;intro e;exact h (by rw[e]))
end
abbrev Mk:=I4×Int×Nat
def mD(m:Mk):bF:=[.int .i8 m.1.1,.int .i8 m.1.2.1,.int .i8 m.1.2.2.1,.int .i8 m.1.2.2.2,.int .i8 m.2.1,.int .u8 m.2.2]
def yq(m:Mk):Prop:=oo m.1∧(-128<=m.2.1∧m.2.1<=127)∧m.2.2<256
def gm(p:aw)(l:List Mk):List Tg:=l.map λm=>kW p m.1 m.2.1 m.2.2
def Bn:Acc:=⟨0,0,3,.none⟩
def Hj(l:List Tg):V:=Bn.v (RW l) (l.flatMap fx)
def Bm(l:List Tg):Nat×Bk:=Bn.b (RW l) (l.flatMap fx)
theorem Ue(m:Mk):RW (mD m)=6:=rfl
theorem UU{p:aw}(h4:RW p<=4){l:List Mk}(h8:RW l<=8)(hm:∀m∈l,yq m)(h0:Hp)(K:KL):∀(q a:List Mk),l=a++q->K (.exit 0) [Hj (gm p l)] [Bm (gm p l)] ->
  lp (FQ DA (aj di p) (de mD l)) [] h0 [Hj (gm p a),I (RW a)] [Bm (gm p a)] K
 | [],a,e,hK=>by
  simp only[Zo]at e;subst e;apply aL;have PJ:¬((RW l:Int)<(RW l:Int)):=aa;simp only[FQ];simp[PJ];exact hK
 | m::q,a,e,hK=>by
  apply aL;have PJ:((RW a:Int)<(RW l:Int)):=by rw[e];simp;omega
  have hl8:((RW a:Int)<8):=aa;have p1:∀h:Hp,bC h 6 (de mD l) (I (RW a))=Wf (.dptr (l.flatMap mD) (RW a*6)):=λh=>lX mD Ue _ h (k:=.i64) (i:=(RW a:Int)) aa PJ
  have p2:∀h:Hp,aG h 6 (.dptr (l.flatMap mD) (RW a*6))=Wf (.agg ((mD m).map .d)):=λh=>by
   have:=lV mD Ue m l h (j:=RW a) aa
   simp_all
  have⟨k1,k2,k3⟩:=hm m ae;have mk:=ai7 (p:=p) h4 k1 k2 k3;have ih:=UU h4 h8 hm h0 K q (a++[m]) ae hK;have e4:((RW (a++[m]):Nat):Int)=(RW a:Int)+1:=ac;have ll:RW (gm p a)=RW a:=by simp[gm]
  have⟨t,ht⟩:=bD (kW p m.1 m.2.1 m.2.2);have em:gm p (a++[m])=gm p a++[t]:=by simp[gm,ht]
  rw[<-ht]at mk;have ev:Hj (gm p a++[t])=Bn.v (RW (gm p a)+1) ((gm p a).flatMap fx++fx t):=by simp[Hj]
  have eb:Bm (gm p a++[t])=Bn.b (RW (gm p a)+1) ((gm p a).flatMap fx++fx t):=by simp[Bm]
  rw[e4,em,ev,eb]at ih;have li:∀H:Hp,cI 1 [aW,.str [],.str []] [(0,.agg [aj di t.iv,S t.num,S t.den])] H=Wf (fx t,H):=λH=>rfl
  have⟨Z,hZ⟩:=bD (Bm (gm p a));simp only[FQ];rw[<-hZ];simp[PJ,hl8,p1,p2];refine cd mk ?_ aM;simp[li];refine kM Bn (L:=RW (gm p a)) (cells:=(gm p a).flatMap fx) (Nd:=56) (k:=1) (cs:=fx t) aa (by rw[hZ];rfl) (jB fx tF (gm p a)) rfl rfl ae aa am ?_
  have ea:aD BinOp.add (I (RW a:Int)) (V.d (D.int iK.i64 1))=Wf (I ((RW a:Int)+1)):=by simp(disch:=omega) []
  refine xd ea ⟨ac,?_⟩;rw[jX];exact ih
theorem ajt{p:aw}(h4:RW p<=4){l:List Mk}(h8:RW l<=8)(hm:∀m∈l,yq m):Ds F.xR [aj di p,de mD l] (dY (gm p l)):=by apply agn;simp only[xR];simp;refine lo (UU h4 h8 hm _ _ l [] rfl ?_);simp;have:=OU Bn (L:=RW (gm p l)) (cells:=(gm p l).flatMap fx) (h:=[Bm (gm p l)]) rfl (jB fx tF (gm p l));exact this
section
variable{p:aw}{c w:Mz}{g:List (List Q)}
def o9(cm:Nat->Int)(z:ax):Nat->Nat
 |0=>0
 |k+1=>if 0<cm (nth 0 z k)then o9 cm z k else k+1
theorem Tf{f:Tg->List Q}{cq:List Q->List Q->Int}{l:List Tg}(hd:∀t∈l,nh p c w g f t)(hq:∀t∈l,∀u∈l,∃e:Int,Ds F.kr [aj di p,aX (f t),aX (f u)] (.tup [I (cq (f t) (f u)),I e]))
  {a b:List Tg} {t:Tg} (el:l=a++t::b) {z:ax} (hzl:RW z<1000) (hz:∀i∈z,i<RW l) {o:V} {r:Hp} (ho:∀k,k<RW z->∃s e j n,bC ((1,.vars (bM p c w g))::r) 1 o (I k)=Wf (.ptr s e j n)∧ld1 ((1,.vars (bM p c w g))::r) (.ptr s e j n)=Wf (I ((nth 0 z k:Nat):Int))) (h0:Hp) (hr:RW h0=RW r+1) (K:KL):∀k,k<=RW z ->
  K (.exit 2) [I (o9 (λy=>cq (f t) (f (nth nm l y))) z k)] ((1,.vars (bM p c w g))::r) ->
  lp (FO DA (dY l) (.ptr 0 1 0 4) o (I (RW a))) [] h0 [I k] ((1,.vars (bM p c w g))::r) K
 | 0,hk,hK=>by
  apply aL;simp only[FO];simp;exact hK
 | k+1,hk,hK=>by
  apply aL;have p1:=CE a b t;have p2:=CB a b t;rw[<-el]at p1 p2;have⟨s,e,j,n,o1,o2⟩:=ho k aa;have⟨y,ey⟩:=bD (nth 0 z k)
  have hy:y<RW l:=by
   rw[ey];refine hz _ ?_
   show z.getD k 0∈z
   simp only[List.getD,List.getElem?_eq_getElem (show k<RW z by omega),Option.getD_some];exact X2 _
  rw[<-ey]at o2;have⟨u,hu⟩:=bD (nth nm l y)
  have hum:u∈l:=by
   rw[hu]
   show l.getD y nm∈l
   simp only[List.getD,List.getElem?_eq_getElem hy,Option.getD_some];exact X2 _
  have htm:t∈l:=by rw[el];simp
  have p3:∀h:Hp,bC h 3 (dY l) (I (y:Nat))=Wf (.dptr (l.flatMap fx) (y*3)):=λh=>lX fx tF _ h (k:=.i64) (i:=(y:Int)) aa aa
  have p4:∀h:Hp,aG h 3 (.dptr (l.flatMap fx) (y*3))=Wf (.agg [aj di u.iv,S u.num,S u.den]):=λh=>by
   have:=lV fx tF nm l h (j:=y) hy;rw[<-hu]at this;exact this
  have⟨e',hc⟩:=hq t htm u hum;have cc:=aoB (c:=c) (w:=w) (g:=g) hc;simp only[o9,<-ey,<-hu]at hK;simp only[FO];have tl:RW (bM p c w g)=4:=rfl;have tt:(bM p c w g).take 4=bM p c w g:=rfl;have PJ:(0:Int)<(k:Int)+1:=aa;have em:(k:Int)+1-1=k:=aa;have o1':=LF (hd t htm);have o2':=LF (hd u hum);simp[p1,p2,tl,tt,PJ]
  refine cd (args:=[dj p c w g,.agg [aj di t.iv,S t.num,S t.den]]) o1' ?_ aM;simp(disch:=omega) [tl,tt,em,o1,o2,p3,p4];refine cd (args:=[dj p c w g,.agg [aj di u.iv,S u.num,S u.den]]) o2' ?_ aM;simp;refine cd (args:=[dj p c w g,aX (f t),aX (f u)]) cc ?_ aM;by_cases hk0:0<cq (f t) (f u)
  .rw[ip hk0]at hK;have ih:=Tf hd hq el hzl hz ho h0 hr K k aa hK;simp(disch:=try exact cC)[hk0,em];trivial
  .rw[iN hk0]at hK;simp[hk0];trivial
end
def Dg(e:Nat):Acc:=⟨3,e,1,.none⟩
def dN(i:Nat):D:=di i
def qP(e:Nat)(z:ax):V:=(Dg e).v (RW z) (z.map dN)
def sG(e:Nat)(z:ax):Nat×Bk:=(Dg e).b (RW z) (z.map dN)
def mI(z:ax)(k i:Nat):ax:=z.take k++i::z.drop k
theorem DO(hk:k<=RW z):RW (mI z k i)=RW z+1:=by grind[mI]
theorem Je{s Nd s' e len cap tot:Nat}{x:V}{cs:bF}{h:Hp}(hy:cellsOf h (.ref s' e o len cap tot)=Wf (k,cs))(hc:RW cs=k*n)(hq:kK dr s n Nd x k cs h q):cV dr s n Nd x (.ref s' e o len cap tot) h q:=by grind[cV]
theorem Df(e:Nat)(h:0<RW z):qP e z=.ref 3 (e+1) 0 (RW z) (RW z) (RW z)∧sG e z=(e+1,.data 1 (z.map dN) SM SM):=by unfold qP sG;have⟨m,hm⟩:∃m,RW z=m+1:=⟨RW z-1,aa⟩;simp[Acc.v,Acc.b,hm,Dg]
theorem ah0{t:Nat×Bk}{e:Nat}(hk:k<=RW z)(hz:RW z<1000)(hq:∀e' b1 b2,q (qP e' (mI z k i)) [t,b1,b2,sG e' (mI z k i)]):
  bnd (xH [t,ah,ah,sG e z] 1 (qP e z) Vc (Wf (I k)) (I k)) λv5=>kx 1 1 [.int .i64 0] [(0,I i)] [t,ah,ah,sG e z] λv6 h=>bnd (gU h 1 (qP e z) (Wf (I k)) Vc) λv7=>cV SM 2 1 8 v6 v7 h λv8 h=>cV SM 3 1 8 v5 v8 h q:=by
 have ls:∀(h:Hp)(b:Nat×Bk)(q:bG),h[1]?=Wf ah->q (.ref 1 1 0 1 1 1) (h.set 1 (1,.data 1 [dN i] Th SM))->kx 1 1 [.int .i64 0] [(0,I i)] h q:=λh b q hs hq=>by
  have e1:cI 1 [.int .i64 0] [(0,I (i:Int))] h=Wf ([dN i],h):=rfl
  simp_all
 cases z with
 | nil=>
  have k0:k=0:=by simpa using hk
  subst k0;have:=hq e (1,.data 1 [dN i] Th SM) ah;exact this
 | cons y z'=>
  have⟨z,hzz⟩:∃z,z=y::z':=⟨_,rfl⟩;rw[<-hzz]at hk hz hq ⊢;have⟨L,hL⟩:=bD (RW z);have hL0:0<L:=by rw[hL,hzz];simp
  have hk':=hk;rw[<-hL]at hk hz;have⟨v1,v2⟩:=Df e (z:=z) aa;rw[v1,v2,<-hL];have lm:RW (z.map dN)=L:=by simp[hL]
  have hg:∀a b c:Nat×Bk,aH [a,b,c,(e+1,.data 1 (z.map dN) SM SM)] 3 (e+1)=.data 1 (z.map dN) SM SM:=λa b c=>by simp[aH]
  have s1:xH [t,ah,ah,(e+1,.data 1 (z.map dN) SM SM)] 1 (.ref 3 (e+1) 0 L L L) Vc (Wf (I k)) (I k)=Wf (.ref 3 (e+1) 0 k k L):=by
   simp[xH,hg,eG,hk',hL]
  have s2:∀b,gU [t,b,ah,(e+1,.data 1 (z.map dN) SM SM)] 1 (.ref 3 (e+1) 0 L L L) (Wf (I k)) Vc=Wf (.ref 3 (e+1) k (L-k) (L-k) L):=λb=>by
   grind[gU,eG]
  rw[s1,B9];refine ls _ ah _ rfl ?_;simp only[List.set_cons_succ,List.set_cons_zero];rw[s2,B9];by_cases hkL:k=L
  .subst hkL;refine Je (k:=0) (cs:=[]) ?_ rfl ?_
   .grind[cellsOf]
   unfold kK;rw[ip rfl]
   show if 1<=1 then _ else _
   rw[ip (Z8 _)];refine Je (k:=1) (cs:=[dN i]) aM aM ?_;have k1:¬k+1<=k:=aa;have k2:(k+1)*8<=140737488355328:=aa;have:=hq e (1,.data 1 [dN i] Th SM) ah;have⟨w1,w2⟩:=Df e (z:=mI z k i) (by grind[DO]);rw[w1,w2,DO hk',<-hL]at this;have e1:mI z k i=z++[i]:=by simp[mI,hL]
   rw[e1]at this;unfold kK;rw[iN am];simp only[hg];rw[ip ⟨trivial,lm.symm,Z8 _,aa,rfl⟩,iN k1,ip k2];simp[lm,bP,hL]at this ⊢;rw[Zx ac];omega
  .have hkl:k<L:=aa;have lk:(L-k)=RW ((z.map dN).drop k):=by simp[hL]
   refine Je (k:=L-k) (cs:=(z.map dN).drop k) ?_ aa ?_
   .grind[cellsOf]
   have k0:¬L-k=0:=aa;have k1:¬1+(L-k)<=1:=aa;have k2:(1+(L-k))*8<=140737488355328:=aa;unfold kK;rw[iN k0];have hg1:aH [t,(1,.data 1 [dN i] Th SM),(0,Bk.none),(e+1,.data 1 (z.map dN) SM SM)] 1 1=.data 1 [dN i] Th SM:=rfl;simp only[hg1];rw[ip ⟨trivial,rfl,Z8 _,ac,aa⟩,iN k1,ip k2]
   have hn2:=λq':Nat->Hp->Prop=>show new [t,(1,.data 1 [dN i] Th SM),(0,Bk.none),(e+1,.data 1 (z.map dN) SM SM)] 2 (.data 1 (dN i::(z.map dN).drop k) SM SM) q'=q' 1 [t,(1,.data 1 [dN i] Th SM),(1,.data 1 (dN i::(z.map dN).drop k) SM SM),(e+1,.data 1 (z.map dN) SM SM)]from rfl
   simp only[iT,Y1,Yz,List.take_succ_cons,List.take_zero,List.cons_append,List.nil_append];rw[hn2];refine Je (k:=1+(L-k)) (cs:=dN i::(z.map dN).drop k) ?_ ae ?_
   .have e5:RW (dN i::(z.map dN).drop k)=1+(L-k):=by rw[List.length_cons,<-lk];omega
    simp only[cellsOf,aH];simp only[List.getElem?_cons_succ,List.getElem?_cons_zero,iT,Zh,Y1,e5,Z8,and_true,Yz];rw[Zx aa,<-lk];simp
   have k3:¬k+(1+(L-k))<=k:=aa;have k4:(k+(1+(L-k)))*8<=140737488355328:=aa;have:=hq (e+1) (1,.data 1 [dN i] Th SM) (1,.data 1 (dN i::(z.map dN).drop k) SM SM);have⟨w1,w2⟩:=Df (e+1) (z:=mI z k i) (by grind[DO]);rw[w1,w2,DO hk',<-hL]at this;unfold kK;rw[iN aa];simp only[hg]
   rw[ip ⟨trivial,lm.symm,Z8 _,aa,ae⟩,iN k3,ip k4];simp only[Zg,iF,Bool.or_self];rw[iN aa,ip aa];have e2:(k*1+RW (dN i::(z.map dN).drop k))=L+1:=by simp;omega
   have e3:(z.map dN).take k++dN i::(z.map dN).drop k=(mI z k i).map dN:=by simp[mI]
   simp only[Y1,Yz]at e2 ⊢;rw[e2,e3,show k+(1+(L-k))=L+1 by omega];exact this
def lY(m:Ms):Nat:=m.i.toNat
theorem Lu(cm:Nat->Int)(z:ax):∀k,o9 cm z k<=k
 |0=>Z8 _
 | k+1=>by
  have:=Lu cm z k
  grind[o9]
theorem Tj(cm:Nat->Int)(z w:ax):∀k,k<=RW z->o9 cm (z++w) k=o9 cm z k
 |0,_=>rfl
 | k+1,h=>by
  have e:nth 0 (z++w) k=nth 0 z k:=by simp[nth,List.getElem?_append_left (show k<RW z by omega)]
  rw[o9,o9,e,Tj cm z w k aa]
theorem akP{w:ax}(h:k<=RW z):mI (z++w) k i=mI z k i++w:=by grind[mI]
theorem VK{cf:Ms->Ms->Int}{cm:Nat->Int}{x:Ms}:∀{S:List Ms},(∀y∈S,(cf x y<0↔0<cm (lY y)))->((inn cf x S).map lY).reverse=mI ((S.map lY).reverse) (o9 cm ((S.map lY).reverse) (RW S)) (lY x)
 |[],_=>rfl
 | y::S,h=>by
  have ih:=VK (x:=x) (S:=S) (λz hz=>h z ae);have hl:RW ((S.map lY).reverse)=RW S:=ac;have h1:=h y ac
  have e:nth 0 ((S.map lY).reverse++[lY y]) (RW S)=lY y:=by
   rw[<-hl];exact aip ..
  have lk:=Lu cm ((S.map lY).reverse) (RW S);rw[Zv,List.reverse_cons,List.length_cons,o9,e];unfold inn;by_cases hc:cf x y<0
  .rw[ip hc,ip (h1.1 hc),Tj _ _ _ _ aa,akP aa,Zv,List.reverse_cons,ih]
  grind[mI]
def jO(cq:List Q->List Q->Int)(f:Tg->List Q)(l:List Tg):ax:=((pz (λx y=>cq y.d x.d) [] (gP f 0 l)).map lY).reverse
theorem T6(f:Tg->List Q)(t:Tg):∀(a:List Tg)(i:Nat),gP f i (a++[t])=gP f i a++[⟨t,f t,((i+RW a:Nat):Int)⟩]
 |[],i=>by rfl
 | u::a,i=>by
  have:=T6 f t a (i+1);simp only[List.cons_append,gP,this,List.length_cons];rw[show i+1+RW a=i+(RW a+1) by omega]
theorem VN(cf:Ms->Ms->Int)(x:Ms):∀(q a:List Ms),pz cf a (q++[x])=inn cf x (pz cf a q)
 |[],a=>rfl
 |y::q,a=>by simp[List.cons_append,pz,VN cf x q]
theorem G4(f:Tg->List Q):∀(a:List Tg)(i:Nat),∀m∈gP f i a,∃j,j<RW a∧m.i=((i+j:Nat):Int)∧m.t=nth nm a j
 |[],_,m,hm=>by trivial
 | u::a,i,m,hm=>by
  rcases Zy.mp hm with rfl|h
  .exact⟨0,ac,ac,rfl⟩
  .have⟨j,h1,h2,h3⟩:=G4 f a (i+1) m h;exact⟨j+1,ae,aa,cU⟩
theorem Lt(cq:List Q->List Q->Int)(f:Tg->List Q)(l:List Tg):RW (jO cq f l)=RW l:=by
 have:=(Bz (λx y:Ms=>cq y.d x.d) (gP f 0 l) []).length_eq
 grind[jO,ug]
theorem ah1(cq:List Q->List Q->Int)(f:Tg->List Q)(l:List Tg):(jO cq f l).map dN=((iO cq f l).map (·.i)).map di:=by
 have h:∀m∈pz (λx y:Ms=>cq y.d x.d) [] (gP f 0 l),dN (lY m)=di m.i:=λm hm=>by
  grind[Bz,G4,dN,lY]
 grind[jO,iO,Ae,List.map_reverse,List.map_congr_left]
theorem ah2{cq:List Q->List Q->Int}(hn:∀a b,cq a b = -cq b a)(f:Tg->List Q){l a q:List Tg}{t:Tg}(e:l=a++t::q):
  jO cq f (a++[t])=mI (jO cq f a) (o9 (λy=>cq (f t) (f (nth nm l y))) (jO cq f a) (RW (jO cq f a))) (RW a):=by
 have hl:=Lt cq f a
 have h:=VK (cf:=λx y:Ms=>cq y.d x.d) (cm:=λy=>cq (f t) (f (nth nm l y))) (x:=⟨t,f t,((0+RW a:Nat):Int)⟩) (S:=pz (λx y=>cq y.d x.d) [] (gP f 0 a)) (λy hy=>by
  have hy':=(Bz (λx y:Ms=>cq y.d x.d) (gP f 0 a) []).mem_iff.mp hy;have⟨j,h1,h2,h3⟩:=G4 f a 0 y cU;have h4:=(G5 f a 0 y cU).2;have e1:lY y=j:=by simp[lY,h2]
  have e2:nth nm l j=y.t:=by rw[e,h3];simp[nth,List.getElem?_append_left h1]
  grind)
 have hl2:RW (pz (λx y:Ms=>cq y.d x.d) [] (gP f 0 a))=RW (jO cq f a):=by simp[jO]
 rw[hl2]at h;have e3:lY ⟨t,f t,((0+RW a:Nat):Int)⟩=RW a:=by simp[lY]
 grind[jO,T6,VN]
section
variable{p:aw}{c w:Mz}{g:List (List Q)}
theorem Te{f:Tg->List Q}{cq:List Q->List Q->Int}{l:List Tg}(hl:RW l<1000)(hd:∀t∈l,nh p c w g f t)(hq:∀t∈l,∀u∈l,∃e:Int,Ds F.kr [aj di p,aX (f t),aX (f u)] (.tup [I (cq (f t) (f u)),I e]))(hn:∀a b,cq a b = -cq b a)(K:KL):∀(q a:List Tg)(e:Nat),l=a++q ->
  (∀e,K (.exit 0) [qP e (jO cq f l)] [(1,.vars (bM p c w g)),ah,ah,sG e (jO cq f l)]) ->
  lp (FP DA (dY l) (.ptr 0 1 0 4)) [1,2] [(1,.vars (bM p c w g)),ah,ah,ah] [qP e (jO cq f a),I (RW a)] [(1,.vars (bM p c w g)),ah,ah,sG e (jO cq f a)] K
 | [],a,e,el,hK=>by
  simp[Zo]at el;subst el;apply aL;have l1:bh (dY l)=Wf (I (RW l)):=rfl;have PJ:¬((RW l:Int)<(RW l:Int)):=aa;simp only[FP];simp[l1,PJ]
  grind
 | t::q,a,e,el,hK=>by
  have ih:=λe=>Te hl hd hq hn K q (a++[t]) e ae hK
  rw[ah2 hn f el]at ih;have zl:=Lt cq f a;have⟨z,hz⟩:=bD (jO cq f a);rw[<-hz]at ih zl ⊢;have DQ:RW a<RW l:=by rw[el];simp
  have PJ:((RW a:Int)<(RW l:Int)):=aa;have l1:bh (dY l)=Wf (I (RW l)):=rfl
  have l2:bh (qP e z)=Wf (I (RW z)):=by
   unfold qP;cases (RW z)<;>rfl
  have zm:∀i∈z,i<RW l:=λi hi=>by
   rw[hz]at hi;obtain⟨m,hm,rfl⟩:=Zw.1 (List.mem_reverse.1 hi)
   grind[Bz,G4,lY]
  have kle:=Lu (λy=>cq (f t) (f (nth nm l y))) z (RW z);apply aL;simp only[FP];simp[l1,PJ,l2];refine lo (Tf (z:=z) hd hq el aa zm (r:=[ah,ah,sG e z]) ?_ _ rfl _ (RW z) (Z8 _) ?_)
  .intro k hk;have⟨w1,w2⟩:=Df e (z:=z) aa;refine⟨3,e+1,k,RW z,?_,?_⟩
   .grind[bC,aH]
   .rw[w2];simp[ld1,aH,nth,hk];rfl
  refine ah0 kle aa λe' b1 b2=>?_
  have ea:aD BinOp.add (I (RW a:Int)) (V.d (D.int iK.i64 1))=Wf (I ((RW a:Int)+1)):=by simp(disch:=omega) []
  have⟨w1,w2⟩:=Df e' (z:=mI z (o9 (λy=>cq (f t) (f (nth nm l y))) z (RW z)) (RW a)) (by grind[DO]);have ih:=ih e';rw[w1,w2]at ih ⊢;have e4:((RW (a++[t]):Nat):Int)=(RW a:Int)+1:=ac;rw[e4]at ih;exact xd ea ⟨aM,ih⟩
theorem ahZ{f:Tg->List Q}{cq:List Q->List Q->Int}{l:List Tg}(hl:RW l<1000)(hd:∀t∈l,nh p c w g f t)(hq:∀t∈l,∀u∈l,∃e:Int,Ds F.kr [aj di p,aX (f t),aX (f u)] (.tup [I (cq (f t) (f u)),I e]))(hn:∀a b,cq a b = -cq b a) :
  Ds F.Ay [dj p c w g,dY l] (aj di ((iO cq f l).map (·.i))):=by
 apply agd;simp only[Ay,dj,bM];simp;refine lo (Te hl hd hq hn _ l [] 0 rfl λe=>?_);have z1:=ah1 cq f l;have z2:RW (jO cq f l)=RW ((iO cq f l).map (·.i)):=by rw[Lt,List.length_map,Fl]
 have:=OU (Dg e) (L:=RW (jO cq f l)) (cells:=(jO cq f l).map dN) (h:=[(1,.vars (bM p c w g)),ah,ah,sG e (jO cq f l)]) rfl (by simp[Dg]);rw[z1,z2]at this
 show out (aj di ((iO cq f l).map (·.i))) (qP e (jO cq f l)) [(1,.vars (bM p c w g)),ah,ah,sG e (jO cq f l)]
 unfold qP;rw[z1,z2];exact this
end
def wS(u x:Ve):Int:=u 0*x 0+u 1*x 1+u 2*x 2+u 3*x 3
def v4(a b c d:Int):Ve:=λj=>if j=0 then a else if j=1 then b else if j=2 then c else if j=3 then d else 0
theorem Ed(u:Ve)(a b c d:Int):wS u (v4 a b c d)=u 0*a+u 1*b+u 2*c+u 3*d:=rfl
def OX(a b c x:Ve):Prop:=(∃j,x j≠0)∧(∀j,4<=j->x j=0)∧(∀j,(x j).natAbs<=4374)∧wS a x=0∧wS b x=0∧wS c x=0
theorem Cu(a b c d:Int)(j:Nat)(h:4<=j):v4 a b c d j=0:=by unfold v4;rw[iN aa,iN aa,iN aa,iN aa]
theorem Cw{c:Int}{S:Nat}(ha:a.natAbs<=S)(hb:b.natAbs<=S)(hc:c.natAbs<=S)(hd:d.natAbs<=S)(j:Nat):(v4 a b c d j).natAbs<=S:=by
 unfold v4
 repeat' split
 all_goals first|assumption|simp
theorem Cv{c:Int}(h:a≠0∨b≠0∨c≠0∨d≠0):∃j,v4 a b c d j≠0:=by
 rcases h with h|h|h|h
 .exact⟨0,h⟩
 .exact⟨1,h⟩
 .exact⟨2,h⟩
 .exact⟨3,h⟩
def eO(a b c d:Int):Int:=a*d-b*c
def iV(a b c:Ve)(i j k:Nat):Int:=a i*eO (b j) (b k) (c j) (c k)-a j*eO (b i) (b k) (c i) (c k)+a k*eO (b i) (b j) (c i) (c j)
theorem Dp{B:Nat}(ha:a.natAbs<=A)(hb:b.natAbs<=B):(a*b).natAbs<=A*B:=by rw[Zl];exact Zr ha hb
theorem Iu{c:Int}(ha:a.natAbs<=9)(hb:b.natAbs<=9)(hc:c.natAbs<=9)(hd:d.natAbs<=9):(eO a b c d).natAbs<=162:=by have h1:=Dp ha hd;have h2:=Dp hb hc;unfold eO;omega
theorem amK{a b c:Ve}(ha:∀j,(a j).natAbs<=9)(hb:∀j,(b j).natAbs<=9)(hc:∀j,(c j).natAbs<=9)(i j k:Nat):(iV a b c i j k).natAbs<=4374:=by have h1:=Dp (ha i) (Iu (hb j) (hb k) (hc j) (hc k));have h2:=Dp (ha j) (Iu (hb i) (hb k) (hc i) (hc k));have h3:=Dp (ha k) (Iu (hb i) (hb j) (hc i) (hc j));unfold iV;omega
theorem Ke{a b c:Ve}(ha:∀j,(a j).natAbs<=9)(hb:∀j,(b j).natAbs<=9)
  (d1:iV c a b 0 1 2=0) (d2:iV c a b 0 1 3=0) (d3:iV c a b 0 2 3=0) (d4:iV c a b 1 2 3=0)
  (h:∃i j,i<4∧j<4∧eO (a i) (a j) (b i) (b j)≠0):∃x,OX a b c x:=by
 have bd:∀i j,(eO (a i) (a j) (b i) (b j)).natAbs<=4374:=λi j=>Z1 (Iu (ha _) (ha _) (hb _) (hb _)) am
 have bn:∀i j,(- eO (a i) (a j) (b i) (b j)).natAbs<=4374:=λi j=>by rw[X0];exact bd i j
 have z:(0:Int).natAbs<=4374:=am;by_cases h1:eO (a 0) (a 1) (b 0) (b 1)≠0∨eO (a 0) (a 2) (b 0) (b 2)≠0∨eO (a 1) (a 2) (b 1) (b 2)≠0
 .refine⟨v4 (eO (a 1) (a 2) (b 1) (b 2)) (- eO (a 0) (a 2) (b 0) (b 2)) (eO (a 0) (a 1) (b 0) (b 1)) 0,Cv aa,Cu _ _ _ _,Cw (bd _ _) (bn _ _) (bd _ _) z,?_,?_,?_⟩<;>rw[Ed]<;>simp only[eO,iV]at * <;>grind
 by_cases h2:eO (a 0) (a 3) (b 0) (b 3)≠0∨eO (a 1) (a 3) (b 1) (b 3)≠0
 .refine⟨v4 (eO (a 1) (a 3) (b 1) (b 3)) (- eO (a 0) (a 3) (b 0) (b 3)) 0 (eO (a 0) (a 1) (b 0) (b 1)),Cv aa,Cu _ _ _ _,Cw (bd _ _) (bn _ _) z (bd _ _),?_,?_,?_⟩<;>rw[Ed]<;>simp only[eO,iV]at * <;>grind
 refine⟨v4 0 (eO (a 2) (a 3) (b 2) (b 3)) (- eO (a 1) (a 3) (b 1) (b 3)) (eO (a 1) (a 2) (b 1) (b 2)),Cv ?_,Cu _ _ _ _,Cw z (bd _ _) (bn _ _) (bd _ _),?_,?_,?_⟩
 .have⟨i,j,hi,hj,hn⟩:=h;have sw:∀i j,eO (a i) (a j) (b i) (b j) = - eO (a j) (a i) (b j) (b i):=λi j=>by simp[eO];grind
  have se:∀i,eO (a i) (a i) (b i) (b i)=0:=λi=>by simp only[eO];grind
  have i4:i=0∨i=1∨i=2∨i=3:=aa;have j4:j=0∨j=1∨j=2∨j=3:=aa;rcases i4 with rfl|rfl|rfl|rfl<;>rcases j4 with rfl|rfl|rfl|rfl<;>grind
 all_goals rw[Ed];simp only[eO,iV]at *;grind
theorem amJ(u:Ve)(i j:Nat)(hi:i<4)(hj:j<4)(hij:i≠j)(p q:Int):wS u (λt=>if t=i then p else if t=j then q else 0)=u i*p+u j*q:=by have i4:i=0∨i=1∨i=2∨i=3:=aa;have j4:j=0∨j=1∨j=2∨j=3:=aa;rcases i4 with rfl|rfl|rfl|rfl<;>rcases j4 with rfl|rfl|rfl|rfl<;>simp_all[wS]<;>omega
theorem aeA{a b c:Ve}(ha:∀j,(a j).natAbs<=9)(hb:∀j,(b j).natAbs<=9)(hc:∀j,(c j).natAbs<=9):∃x,OX a b c x:=by
 by_cases hd:iV a b c 0 1 2=0∧iV a b c 0 1 3=0∧iV a b c 0 2 3=0∧iV a b c 1 2 3=0
 case neg=>
  have bd:=amK ha hb hc;have bn:∀i j k,(- iV a b c i j k).natAbs<=4374:=λi j k=>by rw[X0];exact bd i j k
  refine⟨v4 (iV a b c 1 2 3) (- iV a b c 0 2 3) (iV a b c 0 1 3) (- iV a b c 0 1 2),Cv aa,Cu _ _ _ _,Cw (bd ..) (bn ..) (bd ..) (bn ..),?_,?_,?_⟩<;>rw[Ed]<;>simp[eO,iV]<;>grind
 have⟨d1,d2,d3,d4⟩:=hd;have cyc:∀i j k,iV c a b i j k=iV a b c i j k:=λi j k=>by simp[eO,iV];grind
 have cyc2:∀i j k,iV b a c i j k = - iV a b c i j k:=λi j k=>by simp[eO,iV];grind
 by_cases h1:∃i j,i<4∧j<4∧eO (a i) (a j) (b i) (b j)≠0
 .exact Ke ha hb (by rw[cyc];exact d1) (by rw[cyc];exact d2) (by rw[cyc];exact d3) (by rw[cyc];exact d4) h1
 by_cases h2:∃i j,i<4∧j<4∧eO (a i) (a j) (c i) (c j)≠0
 .have⟨x,x1,x2,x3,x4,x5,x6⟩:=Ke (c:=b) ha hc (by rw[cyc2,d1];rfl) (by rw[cyc2,d2];rfl) (by rw[cyc2,d3];rfl) (by rw[cyc2,d4];rfl) h2;exact⟨x,x1,x2,x3,x4,x6,x5⟩
 by_cases h3:∃i j,i<4∧j<4∧eO (b i) (b j) (c i) (c j)≠0
 .have⟨x,x1,x2,x3,x4,x5,x6⟩:=Ke (c:=a) hb hc d1 d2 d3 d4 h3;exact⟨x,x1,x2,x3,x6,x4,x5⟩
 have g1:∀i j,i<4->j<4->eO (a i) (a j) (b i) (b j)=0:=λi j hi hj=>Classical.byContradiction λh=>h1 ⟨i,j,hi,hj,h⟩
 have g2:∀i j,i<4->j<4->eO (a i) (a j) (c i) (c j)=0:=λi j hi hj=>Classical.byContradiction λh=>h2 ⟨i,j,hi,hj,h⟩
 have g3:∀i j,i<4->j<4->eO (b i) (b j) (c i) (c j)=0:=λi j hi hj=>Classical.byContradiction λh=>h3 ⟨i,j,hi,hj,h⟩
 -- all rows go one way
 by_cases hz:∃i,i<4∧(a i≠0∨b i≠0∨c i≠0)
 .have⟨i,hi,hn⟩:=hz;have⟨j,hj,hij⟩:∃j,j<4∧i≠j:=⟨if i=0 then 1 else 0,by split<;>omega,by split<;>omega⟩
  have go:∀r:Ve,(∀j,(r j).natAbs<=9)->r i≠0->r j*a i=r i*a j->r j*b i=r i*b j->r j*c i=r i*c j->∃x,OX a b c x:=λr hr hri e1 e2 e3=>by
   refine⟨λt=>if t=i then r j else if t=j then-r i else 0,⟨j,?_⟩,λt ht=>?_,λt=>?_,?_,?_,?_⟩
   .simp only[iN (Ne.symm hij),iT];omega
   .simp[iN (show t≠i by omega),iN (show t≠j by omega)]
   .have:=hr i;have:=hr j;simp only
    repeat' split
    all_goals omega
   all_goals rw[amJ _ _ _ hi hj hij];grind
  have k1:=g1 i j hi hj;have k2:=g2 i j hi hj;have k3:=g3 i j hi hj;simp[eO]at k1 k2 k3;rcases hn with hn|hn|hn
  .exact go a ha hn ae ae ae
  .exact go b hb hn ae ae ae
  .exact go c hc hn ae ae ae
 ·have z:∀i,i<4->a i=0∧b i=0∧c i=0:=λi hi=>by
   refine⟨?_,?_,?_⟩<;>exact Classical.byContradiction λh=>hz ⟨i,hi,aa⟩
  have z0:=z 0 am;have z1:=z 1 am;have z2:=z 2 am;have z3:=z 3 am;refine⟨v4 1 0 0 0,Cv am,Cu _ _ _ _,Cw am am am am,?_,?_,?_⟩<;>rw[Ed]<;>simp[z0,z1,z2,z3]
theorem akx(hm:RW m<=3)(hb:dC 9 m)(hs:∀v,bV (vs C) v↔dJ 4 (eT m) v)(h1:RW C=1):∀x∈C,∀j,(x.2 j).natAbs<=4374:=by
 obtain ⟨y,rfl⟩:∃y,C=[y]:=by
  match C,h1 with
  |[y],_=>exact⟨y,rfl⟩
 have⟨x,⟨j0,hx0⟩,hx1,hx2,e0,e1,e2⟩:=aeA (a:=ve (nth [] m 0)) (b:=ve (nth [] m 1)) (c:=ve (nth [] m 2)) (hb 0) (hb 1) (hb 2)
 have hk:dJ 4 (eT m) x:=by
  refine⟨λu hu=>Ec (λg hg=>?_) hu,hx1⟩;obtain⟨r,hr,rfl⟩:=Zw.1 hg;obtain⟨i,hi,rfl⟩:=Zj.1 hr;have e3:m[i]=nth [] m i:=by rw[nth,Z6,List.getElem?_eq_getElem hi];rfl
  have hd:∀u,dM 4 u x=wS u x:=λu=>by simp[dM,wS]
  rw[e3,hd];have:i=0∨i=1∨i=2:=aa;rcases this with rfl|rfl|rfl<;>assumption
 have⟨ks,hk⟩:=(hs x).2 hk;intro z hz j;rw[Wd]at hz;subst hz;cases ks with
 |nil=>rw[hk,zn]at hx0;exact absurd rfl hx0
 | cons t ks=>
  have ex:∀i,x i=t*z.2 i:=λi=>by
   rw[hk]
   show t*z.2 i+gr ks [] i=_
   cases ks<;>simp[gr]
  have ht:t≠0:=λh=>hx0 (by rw[ex,h,Int.zero_mul])
  have h2:=hx2 j;rw[ex,Zl]at h2;exact Z1 (Nat.le_mul_of_pos_left _ aa) h2
end Go.Vm
namespace Go.Proofs
open Go.Shelf
def Tryz.laysPu14_ren:Go.Shelf.Ren:=⟨λ|14=>201|16=>211|17=>178|19=>218|20=>219|21=>197|22=>198|23=>199|24=>200|25=>212|27=>127|26=>213|28=>166|29=>189|30=>207|31=>208|32=>209|33=>210|35=>204|34=>214|36=>215|37=>216|38=>217|39=>220|40=>221|n=>n,λ|9=>9|3=>3|22=>202|24=>199|25=>255|4=>4|34=>251|5=>5|36=>230|37=>238|0=>0|39=>252|21=>21|44=>268|47=>276|50=>279|48=>277|2=>2|52=>262|55=>264|59=>272|60=>258|20=>20|61=>273|65=>280|66=>281|67=>282|n=>n,λ|0=>0|1=>1|2=>2|3=>3|4=>4|n=>n⟩
theorem Tryz.laysPu14:Go.Proofs.LaysPu.n14 Tryz.prog Tryz.laysPu14_ren:={
 mixed:=aJ
 f14:=func201.trans (RT Wf aJ)
 f16:=func211.trans (RT Wf aJ)
 f17:=func178.trans (RT Wf aJ)
 f19:=func218.trans (RT Wf aJ)
 f20:=func219.trans (RT Wf aJ)
 f21:=func197.trans (RT Wf aJ)
 f22:=func198.trans (RT Wf aJ)
 f23:=func199.trans (RT Wf aJ)
 f24:=func200.trans (RT Wf aJ)
 f25:=func212.trans (RT Wf aJ)
 f26:=func213.trans (RT Wf aJ)
 f27:=func127.trans (RT Wf aJ)
 f28:=func166.trans (RT Wf aJ)
 f29:=func189.trans (RT Wf aJ)
 f30:=func207.trans (RT Wf aJ)
 f31:=func208.trans (RT Wf aJ)
 f32:=func209.trans (RT Wf aJ)
 f33:=func210.trans (RT Wf aJ)
 f34:=func214.trans (RT Wf aJ)
 f35:=func204.trans (RT Wf aJ)
 f36:=func215.trans (RT Wf aJ)
 f37:=func216.trans (RT Wf aJ)
 f38:=func217.trans (RT Wf aJ)
 f39:=func220.trans (RT Wf aJ)
 f40:=func221.trans (RT Wf aJ)
 t0:=underlying0
 a0:=isAgg0
 z0:=sizeOf0
 v0:=zeroValue0
 i0:=aJ
 t2:=underlying2
 a2:=isAgg2
 z2:=sizeOf2
 v2:=zeroValue2
 i2:=aJ
 t3:=underlying3
 a3:=isAgg3
 z3:=sizeOf3
 v3:=zeroValue3
 i3:=aJ
 t4:=underlying4
 a4:=isAgg4
 z4:=sizeOf4
 v4:=zeroValue4
 i4:=aJ
 t5:=underlying5
 a5:=isAgg5
 z5:=sizeOf5
 v5:=zeroValue5
 i5:=aJ
 t9:=underlying9
 a9:=isAgg9
 z9:=sizeOf9
 v9:=zeroValue9
 i9:=aJ
 t20:=underlying20
 a20:=isAgg20
 z20:=sizeOf20
 v20:=zeroValue20
 i20:=aJ
 t21:=underlying21
 a21:=isAgg21
 z21:=sizeOf21
 v21:=zeroValue21
 i21:=aJ
 t22:=underlying202
 a22:=isAgg202
 z22:=sizeOf202
 v22:=zeroValue202
 i22:=aJ
 t24:=underlying199
 a24:=isAgg199
 z24:=sizeOf199
 v24:=zeroValue199
 i24:=aJ
 t25:=underlying255
 a25:=isAgg255
 z25:=sizeOf255
 v25:=zeroValue255
 i25:=aJ
 t34:=underlying251
 a34:=isAgg251
 z34:=sizeOf251
 v34:=zeroValue251
 i34:=aJ
 c34:=aJ
 t36:=underlying230
 a36:=isAgg230
 z36:=sizeOf230
 v36:=zeroValue230
 i36:=aJ
 t37:=underlying238
 a37:=isAgg238
 z37:=sizeOf238
 v37:=zeroValue238
 i37:=aJ
 t39:=underlying252
 a39:=isAgg252
 z39:=sizeOf252
 v39:=zeroValue252
 i39:=aJ
 t44:=underlying268
 a44:=isAgg268
 z44:=sizeOf268
 v44:=zeroValue268
 i44:=aJ
 t47:=underlying276
 a47:=isAgg276
 z47:=sizeOf276
 v47:=zeroValue276
 i47:=aJ
 t48:=underlying277
 a48:=isAgg277
 z48:=sizeOf277
 v48:=zeroValue277
 i48:=aJ
 t50:=underlying279
 a50:=isAgg279
 z50:=sizeOf279
 v50:=zeroValue279
 i50:=aJ
 t52:=underlying262
 a52:=isAgg262
 z52:=sizeOf262
 v52:=zeroValue262
 i52:=aJ
 t55:=underlying264
 a55:=isAgg264
 z55:=sizeOf264
 v55:=zeroValue264
 i55:=aJ
 t59:=underlying272
 a59:=isAgg272
 z59:=sizeOf272
 v59:=zeroValue272
 i59:=aJ
 t60:=underlying258
 a60:=isAgg258
 z60:=sizeOf258
 v60:=zeroValue258
 i60:=aJ
 t61:=underlying273
 a61:=isAgg273
 z61:=sizeOf273
 t65:=underlying280
 a65:=isAgg280
 z65:=sizeOf280
 v65:=zeroValue280
 i65:=aJ
 t66:=underlying281
 a66:=isAgg281
 z66:=sizeOf281
 v66:=zeroValue281
 i66:=aJ
 t67:=underlying282
 a67:=isAgg282
 z67:=sizeOf282
 v67:=zeroValue282
 i67:=aJ
 g0:=aJ
 m0:=aJ
 g1:=aJ
 m1:=aJ
 g2:=aJ
 m2:=aJ
 g3:=aJ
 m3:=aJ
 g4:=aJ
 m4:=by kernel_rfl}
def Tryz.laysC174_ren:Go.Shelf.Ren:=⟨λ|174=>183|247=>196|245=>178|287=>211|279=>197|280=>198|281=>199|282=>200|321=>218|322=>219|316=>212|171=>127|205=>213|243=>166|246=>189|283=>207|284=>208|285=>209|286=>210|129=>204|317=>214|318=>215|319=>216|320=>217|337=>220|338=>221|n=>n,λ|9=>9|3=>3|2=>2|75=>199|85=>241|4=>4|167=>251|5=>5|53=>202|175=>255|46=>230|168=>252|37=>238|0=>0|210=>268|21=>21|127=>276|145=>279|143=>277|171=>262|173=>264|212=>272|51=>258|20=>20|213=>273|232=>280|233=>281|80=>282|n=>n,λ|15=>0|16=>1|17=>2|18=>3|19=>4|n=>n⟩
theorem Tryz.laysC174:Go.Proofs.LaysC.n174 Tryz.prog Tryz.laysC174_ren:={
 mixed:=aJ
 f129:=func204.trans (RT Wf aJ)
 f171:=func127.trans (RT Wf aJ)
 f174:=func183.trans (RT Wf aJ)
 f205:=func213.trans (RT Wf aJ)
 f243:=func166.trans (RT Wf aJ)
 f245:=func178.trans (RT Wf aJ)
 f246:=func189.trans (RT Wf aJ)
 f247:=func196.trans (RT Wf aJ)
 f279:=func197.trans (RT Wf aJ)
 f280:=func198.trans (RT Wf aJ)
 f281:=func199.trans (RT Wf aJ)
 f282:=func200.trans (RT Wf aJ)
 f283:=func207.trans (RT Wf aJ)
 f284:=func208.trans (RT Wf aJ)
 f285:=func209.trans (RT Wf aJ)
 f286:=func210.trans (RT Wf aJ)
 f287:=func211.trans (RT Wf aJ)
 f316:=func212.trans (RT Wf aJ)
 f317:=func214.trans (RT Wf aJ)
 f318:=func215.trans (RT Wf aJ)
 f319:=func216.trans (RT Wf aJ)
 f320:=func217.trans (RT Wf aJ)
 f321:=func218.trans (RT Wf aJ)
 f322:=func219.trans (RT Wf aJ)
 f337:=func220.trans (RT Wf aJ)
 f338:=func221.trans (RT Wf aJ)
 t0:=underlying0
 a0:=isAgg0
 z0:=sizeOf0
 v0:=zeroValue0
 t2:=underlying2
 a2:=isAgg2
 z2:=sizeOf2
 v2:=zeroValue2
 t3:=underlying3
 a3:=isAgg3
 z3:=sizeOf3
 v3:=zeroValue3
 t4:=underlying4
 a4:=isAgg4
 z4:=sizeOf4
 v4:=zeroValue4
 t5:=underlying5
 a5:=isAgg5
 z5:=sizeOf5
 v5:=zeroValue5
 t9:=underlying9
 a9:=isAgg9
 z9:=sizeOf9
 v9:=zeroValue9
 t20:=underlying20
 a20:=isAgg20
 z20:=sizeOf20
 v20:=zeroValue20
 t21:=underlying21
 a21:=isAgg21
 z21:=sizeOf21
 v21:=zeroValue21
 t37:=underlying238
 a37:=isAgg238
 z37:=sizeOf238
 v37:=zeroValue238
 t46:=underlying230
 a46:=isAgg230
 z46:=sizeOf230
 v46:=zeroValue230
 t51:=underlying258
 a51:=isAgg258
 z51:=sizeOf258
 v51:=zeroValue258
 t53:=underlying202
 a53:=isAgg202
 z53:=sizeOf202
 v53:=zeroValue202
 t75:=underlying199
 a75:=isAgg199
 z75:=sizeOf199
 v75:=zeroValue199
 t85:=underlying241
 a85:=isAgg241
 z85:=sizeOf241
 v85:=zeroValue241
 t127:=underlying276
 a127:=isAgg276
 z127:=sizeOf276
 v127:=zeroValue276
 t143:=underlying277
 a143:=isAgg277
 z143:=sizeOf277
 v143:=zeroValue277
 t145:=underlying279
 a145:=isAgg279
 z145:=sizeOf279
 v145:=zeroValue279
 t167:=underlying251
 a167:=isAgg251
 z167:=sizeOf251
 v167:=zeroValue251
 t168:=underlying252
 a168:=isAgg252
 z168:=sizeOf252
 v168:=zeroValue252
 t171:=underlying262
 a171:=isAgg262
 z171:=sizeOf262
 v171:=zeroValue262
 t173:=underlying264
 a173:=isAgg264
 z173:=sizeOf264
 v173:=zeroValue264
 t175:=underlying255
 a175:=isAgg255
 z175:=sizeOf255
 v175:=zeroValue255
 t210:=underlying268
 a210:=isAgg268
 z210:=sizeOf268
 v210:=zeroValue268
 t212:=underlying272
 a212:=isAgg272
 z212:=sizeOf272
 v212:=zeroValue272
 t213:=underlying273
 a213:=isAgg273
 z213:=sizeOf273
 t232:=underlying280
 a232:=isAgg280
 z232:=sizeOf280
 v232:=zeroValue280
 t233:=underlying281
 a233:=isAgg281
 z233:=sizeOf281
 v233:=zeroValue281
 g15:=aJ
 g16:=aJ
 g17:=aJ
 g18:=aJ
 g19:=aJ
 t80:=underlying282
 a80:=isAgg282
 z80:=sizeOf282
 v80:=zeroValue282
 i0:=aJ
 i2:=aJ
 i3:=aJ
 i4:=aJ
 i5:=aJ
 i9:=aJ
 i20:=aJ
 i21:=aJ
 i37:=aJ
 i46:=aJ
 i51:=aJ
 i53:=aJ
 i75:=aJ
 i80:=aJ
 i85:=aJ
 i127:=aJ
 i143:=aJ
 i145:=aJ
 i167:=aJ
 i168:=aJ
 i171:=aJ
 i173:=aJ
 i175:=aJ
 i210:=aJ
 i212:=aJ
 i232:=aJ
 i233:=aJ
 m15:=aJ
 m16:=aJ
 m17:=aJ
 m18:=aJ
 m19:=aJ
 c0:=aJ
 c2:=aJ
 c3:=aJ
 c4:=aJ
 c5:=aJ
 c9:=aJ
 c20:=aJ
 c21:=aJ
 c37:=aJ
 c46:=aJ
 c51:=aJ
 c53:=aJ
 c75:=aJ
 c80:=aJ
 c85:=aJ
 c127:=aJ
 c143:=aJ
 c145:=aJ
 c167:=aJ
 c168:=aJ
 c171:=aJ
 c173:=aJ
 c175:=aJ
 c210:=aJ
 c212:=aJ
 c213:=aJ
 c232:=aJ
 c233:=by kernel_rfl}
end Go.Proofs
namespace Go.Vm
open Go Go.Am
variable{l:bA}
theorem YK:∀(l:bA)(a:Nat),a<=iu a l
 |[],a=>Z8 _
 | c::l,a=>by
  have h:a*10+(c.toNat-48)<=iu (a*10+(c.toNat-48)) l:=YK l _;have e:iu a (c::l)=iu (a*10+(c.toNat-48)) l:=rfl;generalize iu a (c::l)=y at *;generalize iu (a*10+(c.toNat-48)) l=z at *;generalize c.toNat-48=d at *;omega
theorem GB:∀(l:bA)(a:Nat),l.all nM=Th->iu a l<10000000000000000000->Lib.parseUintM (2^64-1) a l=.ok (iu a l)
 |[],a,_,_=>rfl
 | c::l,a,h,hd=>by
  simp only[List.all_cons,Z7,nM,Nat.ble_eq]at h;have e:iu a (c::l)=iu (a*10+(c.toNat-48)) l:=rfl;rw[e]at hd ⊢;have hge:=YK l (a*10+(c.toNat-48));rw[Lib.parseUintM,ip h.1,iN aa,iN aa];exact GB l _ h.2 hd
theorem frz(w:wO)(e:TypeId)(s:ByteArray):w.heap.size<=(Lib.bytesWorld w e s).heap.size∧(∀c,c<w.heap.size->(Lib.bytesWorld w e s).heap[c]?=w.heap[c]?)∧(Lib.bytesWorld w e s).os=w.os∧(Lib.bytesWorld w e s).output=w.output:=
 ⟨by rw[Lib.bytesWorld_size];omega,λc hc=>Lib.bytesWorld_at_old w e s c hc,rfl,rfl⟩
theorem am8{c:UInt8}(h:nM c=Th):¬c.toNat=43∧¬c.toNat=45:=by simp only[nM,Z7,Nat.ble_eq]at h;omega
theorem ahR(MT:l≠[])(hall:l.all nM=Th)(PJ:iu 0 l<9223372036854775808):Lib.parseIntB 64 l=.ok (iu 0 l:Int):=by
 cases l with
 |nil=>exact absurd rfl MT
 | cons c r=>
  have hc:=am8 (Zz.1 hall c ac)
  have hp:Lib.parseUintB 64 (c::r)=.ok (iu 0 (c::r)):=by
   rw[Lib.parseUintB,iN MT];exact GB _ _ hall aa
  unfold Lib.parseIntB;simp only[hc.1,hc.2,or_self,iF,hp];rw[iN dG,iN ac]
theorem ahQ(MT:l≠[])(hall:l.all nM=Th)(PJ:iu 0 l<9223372036854775808):Lib.parseIntB 64 (45::l)=.ok (-(iu 0 l:Int)):=by
 have hp:Lib.parseUintB 64 l=.ok (iu 0 l):=by
  rw[Lib.parseUintB,iN MT];exact GB _ _ hall aa
 have h45:(45:UInt8).toNat=45:=rfl;unfold Lib.parseIntB;simp only[h45,or_true,iT,hp];rw[iN ac,iN dG]
theorem ah3:abC X:=by
 intro f args v h;simp only[X]at h;split at h
 .rename_i hf;obtain rfl:=Zk hf;unfold C7 at h;split at h
  .rename_i s a b;split at h
   .rename_i hc;obtain⟨rfl,rfl,MT,hall,hsz,PJ⟩:=hc;obtain rfl:=Option.some.inj h;refine⟨rfl,rfl,.inr ⟨⟨_,func201,aJ,aJ⟩,λw=>?_⟩⟩
    have hp:Lib.parseUintB 64 s.data.toList=.ok (iu 0 s.data.toList):=by
     rw[Lib.parseUintB,iN MT];exact GB _ _ hall PJ
    have hsz2:s.size=RW s.data.toList:=by rw[Array.length_toList];rfl
    have hmax:s.size≤9223372036854775806:=aa;refine(Go.Proofs.Any.strconv_ParseUint_10_at64_ok Go.Proofs.Tryz.laysPu14 s hmax _ hp w).mono ?_;rintro e w' ⟨rfl,rfl|rfl⟩
    .exact⟨rfl,Z8 _,λ_ _=>rfl,rfl,rfl⟩
    .exact⟨rfl,frz w _ s⟩
   .cases h
  .cases h
 .split at h
  .rename_i hf;obtain rfl:=Zk hf
   have key:∀(s:ByteArray)(z:Int),RW s.data.toList≤1001→Lib.parseIntB 64 s.data.toList=.ok z→v=.tuple #[.int .i64 z,.nilIface]→args=[.string s,.int .i64 10,.int .i64 64] →
     eH args=Th∧plain v=Th∧(O5 X F.vj args v∨(∃fn,Go.Proofs.Tryz.prog.funcs[F.vj]?=Wf fn∧fn.body.isNone=SM∧(fn.name == "runtime.NumGoroutine")=SM) ∧
     ∀w,Calls Go.Proofs.Tryz.prog F.vj args.toArray w λe w'=>e=.returned v∧w.heap.size≤w'.heap.size∧(∀c,c<w.heap.size→w'.heap[c]?=w.heap[c]?)∧w'.os=w.os∧w'.output=w.output):=by
    intro s z hl hp hv ha;subst hv;subst ha;refine⟨rfl,rfl,.inr ⟨⟨_,func183,aJ,aJ⟩,λw=>?_⟩⟩;have hsz2:s.size=RW s.data.toList:=by rw[Array.length_toList];rfl
    refine(Go.Proofs.Any.strconv_ParseInt_10_at64_ok Go.Proofs.Tryz.laysC174 s aa z hp w).mono ?_;rintro e w' ⟨rfl,rfl|⟨t,rfl⟩⟩
    .exact⟨rfl,Z8 _,λ_ _=>rfl,rfl,rfl⟩
    .exact⟨rfl,frz w _ t⟩
   unfold GA at h;split at h
   .rename_i s a b;split at h
    .rename_i hab;obtain⟨rfl,rfl⟩:=hab;split at h
     .rename_i l hs;split at h
      .rename_i hc;have⟨MT,hall,hsz,PJ⟩:=hc;obtain rfl:=Option.some.inj h;exact key s _ (by rw[hs];simp;omega) (by rw[hs];exact ahQ MT hall PJ) rfl rfl
      .cases h
     .rename_i l hs;split at h
      .rename_i hc;have⟨MT,hall,hsz,PJ⟩:=hc;obtain rfl:=Option.some.inj h;exact key s _ aa (ahR MT hall PJ) rfl rfl
      .cases h
    .cases h
   .cases h
  .cases h
end Go.Vm
namespace Go.Proofs
open Go.RowKit Go.Shelf
attribute [local go_sem] Oper.semAt_some
def OY(W:wO)(B o k c s:Nat):Prop:=∃(a:Option Addr)(cap:Nat),W.cell? ⟨B,o,Vc⟩=Wf (.slice a k cap)∧(0<k->a=Wf ⟨c,s,Vc⟩)
def abx(W:wO)(B o B2 o2 k c s c2 s2:Nat)(us vs:au):Prop:=
 OY W B o k c s∧OY W B2 o2 k c2 s2∧(∀(i:Nat) v,us[i]?=Wf v->W.cell? ⟨c,s+i,Vc⟩=Wf v)∧∀(i:Nat) v,vs[i]?=Wf v->W.cell? ⟨c2,s2+i,Vc⟩=Wf v
set_option maxRecDepth 100000 in
set_option maxHeartbeats 2000000 in
theorem aqk(l B o k c s c2 s2:Nat)(us vs:au)(hu:RW us=k)(hv:RW vs=k)(hk:k<4611686018427387904)(J Jx:Nat->wO->Prop)
  (hV:∀i W1,J i W1->abx W1 B o B (o+1) k c s c2 s2 us vs)
  (hY:∀(i:Nat) x y W1,J i W1->us[i]?=Wf x->vs[i]?=Wf y->YieldAt (Go.Am.Fw Vc) 0 Tryz.prog l #[x,y] W1 λe W'=>(e=.returned (.bool Th)∧J (i+1) W')∨(e=.returned (.bool SM)∧Jx (i+1) W'))
  (W:wO) (h0:J 0 W) :
  CallsIn (Go.Am.Fw Vc) 1 Tryz.prog 156 #[.func (.yield l) #[] #[],.pointer (Wf ⟨B,o,Vc⟩)] W λe W'=>(∃v,e=.returned v)∧(J k W'∨∃i,Jx i W'):=by
 refine callsIn_of_wp func156 rfl trivial ?_ rfl;simp only[Tryz.ntmps156,List.size_toArray,List.length_cons,List.length_nil,Nat.reduceAdd,Nat.reduceSub,Array.replicate_succ,Array.replicate_zero,List.push_toArray,List.append_toArray,List.nil_append,List.cons_append];have⟨⟨a,cap,hc0,ha⟩,_⟩:=hV 0 W h0
 gi_wp2
 gi_loopw [8] (λi wr=>∃j:Nat,j<=k∧i=.int .i64 j∧J j wr) (λi _=>k-(intOf i).toNat)
 case atStart=>grind
 case round=>
  obtain⟨j,hj,rfl,hJs⟩:=hrel;by_cases PJ:j<k
  .obtain rfl:=ha aa;have ex:∃x,us[j]?=Wf x:=⟨_,List.getElem?_eq_getElem aa⟩;have ey:∃y,vs[j]?=Wf y:=⟨_,List.getElem?_eq_getElem aa⟩;have⟨x,hx⟩:=ex;have⟨y,hy'⟩:=ey;have⟨_,⟨a2,cap2,hc2,ha2⟩,hus,hvs⟩:=hV j wr hJs;obtain rfl:=ha2 aa;have hcx:=hus j x hx;have hcy:=hvs j y hy';have⟨fn,tmps,assign,body,hy,hR⟩:=hY j x y wr hJs hx hy'
   clear hx hy' hus hvs
   gi_wp2
   apply hR.mono;rintro e W3 (⟨rfl,hJ3⟩|⟨rfl,hJx3⟩)
   .gi_wp2
    go_roundw
    case rel=>exact⟨j+1,aa,ac,hJ3⟩
    case measure=>simp[intOf];omega
   .gi_wp2
    refine bodyPost_ret (results_none rfl _ _ _) rfl ?_;exact⟨⟨_,rfl⟩,.inr ⟨_,hJx3⟩⟩
  .obtain rfl:j=k:=aa
   gi_wp2
   simp_all[bodyPost_end,results_none]
end Go.Proofs
namespace Go.Vm
open Go Go.Am Go.Proofs
noncomputable section
variable{f:FuncId}{p q v a b:Value}{xs:List au}
theorem ao4{P:Program}{args:Array Value}{w:wO}{R:Ending->wO->Prop}(h:CallsIn (Fw Vc) 1 P f args w R):CallsIn (Fw Vc) 0 P f args w R:=
 ⟨h.1,λcs _=>h.2 cs (λd hd=>by trivial)⟩
def jz(x:au):Value:=x.headD default
def qI(x:au):Value:=x.tail.headD default
theorem O7:∀(us vs:au),RW us=RW vs->(((us.zip vs).map λx=>[x.1,x.2]).map jz)=us∧(((us.zip vs).map λx=>[x.1,x.2]).map qI)=vs
 |[],[],_=>⟨rfl,rfl⟩
 | u::us,v::vs,h=>by
  have⟨h1,h2⟩:=O7 us vs ae;simp only[List.zip_cons_cons,Zv,h1,h2];trivial
 |[],_::_,h=>by simp at h
 |_::_,[],h=>by simp at h
theorem O6{H:AH}(h:xg H p q=Wf xs):fH H 1 p=Wf (RW xs,xs.map jz)∧fH H 1 q=Wf (RW xs,xs.map qI)∧RW xs<4611686018427387904∧yO p=Th∧yO q=Th ∧
  ∀x∈xs,x=[jz x,qI x]∧plain (jz x)=Th∧plain (qI x)=Th:=by
 unfold xg at h;split at h
 case h_2=>cases h
 rename_i k us k' vs hp hq;split at h
 case isFalse=>cases h
 rename_i hc;have⟨h1,h2,h3,h4,h5,h6,h7⟩:=hc;simp only[Z9]at h;subst h;have⟨m1,m2⟩:=O7 us vs aa;have hl:RW ((us.zip vs).map λx=>[x.1,x.2])=k:=by simp;omega
 rw[m1,m2,hl];simp only[Z7]at h5;refine⟨hp,by rw[hq,h1],h4,h5.1,h5.2,λx hx=>?_⟩;obtain⟨⟨a,b⟩,hab,rfl⟩:=Zw.1 hx;have:=List.of_mem_zip hab;have e1:=Zz.1 h6 a this.1;have e2:=Zz.1 h7 b this.2;simp only[Z7]at e1 e2;exact⟨rfl,e1.1,e2.1⟩
theorem QX{X:dh}{φ:bI}(hp:yO p=Th)(hv:aC φ p v):∃c s:Nat,∀(φ':bI)(H':AH)(w':wO)(k:Nat)(us:au),bB X φ' H' w'->gJ φ φ'->fH H' 1 p=Wf (k,us)->RW us=k->(∀u∈us,plain u=Th) ->
  ∀B o v',w'.cell? ⟨B,o,Vc⟩=Wf v'->aC φ' p v'->OY w' B o k c s∧∀(i:Nat) u,us[i]?=Wf u->w'.cell? ⟨c,s+i,Vc⟩=Wf u:=by
 cases p<;>simp only[yO]at hp<;>try cases hp
 rename_i a n cap;cases a with
 | none=>
  refine⟨0,0,λφ' H' w' k us hh _ hs hk _ B o v' hc hv'=>?_⟩;have e:=sy hv';subst e;cases n with
  | zero=>
   simp only[fH,Z9,Z5]at hs;obtain⟨rfl,rfl⟩:=hs;exact⟨⟨Vc,cap,hc,λh=>absurd h aa⟩,λi u hi=>by simp at hi⟩
  |succ n=>trivial
 | some a=>
  obtain⟨a',c',rfl,hs⟩:=oh hv
  have DP:a.spot=Vc∧∃pl,φ a.block=Wf pl:=by
   rcases hs with⟨h1,_,pl,hp,_⟩|⟨h1,_,_,_,pl,hp⟩
   .grind
   .grind
  have⟨hsp,pl,DP⟩:=DP;have⟨b,off,sp⟩:=a;simp only at hsp DP;subst hsp;refine⟨pl.c,pl.s+off,λφ' H' w' k us hh Fm hs' hk hpl' B o v' hc hv'=>?_⟩;obtain⟨⟨b2,o2,s2⟩,c2,rfl,hs2⟩:=oh hv';have hpb:=Fm _ _ DP;simp only[fH]at hs';split at hs'
  .rename_i hn;simp only[Z9,Z5]at hs';obtain⟨rfl,rfl⟩:=hs';subst hn;exact⟨⟨_,c2,hc,λh=>absurd h aa⟩,λi u hi=>by simp at hi⟩
  .rename_i hn;simp only[Y1,Z3,Z5]at hs';obtain⟨cs,hr,rfl,rfl⟩:=hs';have⟨L7,r1,r2,r3,r4⟩:=hh.read hr hpb
   have hb:b2=pl.c∧o2=pl.s+off∧s2=Vc:=by
    rcases hs2 with⟨_,h2,pl2,hp2,h3,h4,_⟩|⟨_,h0,_⟩
    .grind
    .omega
   obtain⟨rfl,rfl,rfl⟩:=hb;refine⟨⟨_,c2,hc,λ_=>rfl⟩,λi u hi=>?_⟩
   grind[aE.at,qy,aC.of_plain]
theorem ahF{x:au}(h:x=[jz x,qI x]∧plain (jz x)=Th∧plain (qI x)=Th):eH x=Th:=by grind[eH]
theorem ac3(DP:∀x∈xs,x=[jz x,qI x]∧plain (jz x)=Th∧plain (qI x)=Th){i:Nat}(ha:(xs.map jz)[i]?=Wf a)(hb:(xs.map qI)[i]?=Wf b):xs[i]?=Wf [a,b]:=by grind
theorem amb {fn:Func}(h:Tryz.prog.funcs[f]?=Wf fn)(hb:fn.body.isNone=SM)(hn:(fn.name == "runtime.NumGoroutine")=SM):∃fn,X.P.funcs[f]?=Wf fn∧fn.body.isNone=SM∧(fn.name == "runtime.NumGoroutine")=SM:=⟨fn,h,hb,hn⟩
set_option maxRecDepth 100000 in
theorem amd:∃fn,X.P.funcs[156]?=Wf fn∧fn.body.isNone=SM∧(fn.name == "runtime.NumGoroutine")=SM:=amb func156 rfl aM
theorem aga:Ji X:=by
 intro gf lb H xs h0;have h:tV gf lb H=Wf xs:=h0;clear h0;unfold tV at h;split at h
 .rename_i hg;have hg:gf=156:=Zk hg;subst hg;split at h
  case h_2=>cases h
  rename_i b o;split at h
  case h_2=>cases h
  rename_i p q d hrd;have⟨s1,s2,s3,s4,s5,DP⟩:=O6 h;refine⟨λx hx=>ahF (DP x hx),amd,λφ w lb' hh hl=>?_⟩;simp only[aE]at hl;obtain⟨v',r,rfl,hv',rfl⟩:=hl;obtain⟨pl,hpb,rfl⟩:=vU hv';have⟨L7,r1,r2,r3,r4⟩:=hh.read hrd hpb;simp only[aE]at r1;obtain⟨p',_,rfl,hp',q',_,rfl,hq',d',_,rfl,hd',rfl⟩:=r1;have⟨c,s,RC⟩:=QX (X:=X) s4 hp'
  have⟨c2,s2',base2⟩:=QX (X:=X) s5 hq';refine⟨λW=>abx W pl.c (pl.s+o) pl.c (pl.s+o+1) (RW xs) c s c2 s2' (xs.map jz) (xs.map qI),λφ' H' w' hh' Fm hl' hs hk=>?_,λl J Jx W hV hY h0=>?_⟩
  .have hk:(cX H' b o 3).getD []=(cX H b o 3).getD []:=hk;have hs:tV 156 [.pointer (Wf ⟨b,o,Vc⟩)] H'=Wf xs:=hs;rw[hrd]at hk
   have hrd':cX H' b o 3=Wf [p,q,d]:=by
    cases hr:cX H' b o 3 with
    |none=>grind
    |some cs=>grind
   have hz:xg H' p q=Wf xs:=by
    unfold tV at hs;rw[show Nat.beq 156 F.rZ=Th from rfl]at hs;simp only[hrd']at hs;exact hs
   have⟨t1,t2,_⟩:=O6 hz;have⟨ds',u1,u2,u3,u4⟩:=hh'.read hrd' (Fm _ _ hpb);simp only[aE]at u1;obtain⟨p2,_,rfl,hp2,q2,_,rfl,hq2,d2,_,rfl,hd2,rfl⟩:=u1;have k0:=u4 0 p2 rfl;have k1:=u4 1 q2 rfl;rw[qy]at k0 k1;have⟨w1,w2⟩:=RC φ' H' w' _ _ hh' Fm t1 ac (λu hu=>by grind) _ _ _ k0 hp2
   have⟨w3,w4⟩:=base2 φ' H' w' _ _ hh' Fm t2 ac (λu hu=>by grind) _ _ _ k1 hq2;trivial
  .exact ao4 (aqk l pl.c (pl.s+o) (RW xs) c s c2 s2' (xs.map jz) (xs.map qI) ac ac s3 J Jx hV (λi x y W1 hJ hx hy=>hY i [x,y] W1 hJ (ac3 DP hx hy)) W h0)
 .rename_i hf;split at h
  case h_2=>cases h
  rename_i hg;rw[show F.KU=F.rZ from rfl,hf]at hg;cases hg
end
end Go.Vm
set_option maxRecDepth 100000
namespace Go.Vm
open Go Go.Am
theorem ama:(List.range X.P.funcs.size).all (λf=>!X.allow f||match X.P.funcs[f]? with
  |some fn=>GJ X.P fn&&(match fn.body with|some c=>mB Y fn.ntmps c|none=>Th)
  |none=>Th)=Th:=dw
theorem XJ{f:FuncId}{fn:Func}(ha:X.allow f=Th)(hf:X.P.funcs[f]?=Wf fn):GJ X.P fn=Th∧(match fn.body with|some c=>mB Y fn.ntmps c|none=>Th)=Th:=by
 have PJ:f<X.P.funcs.size:=by
  rcases Zi f X.P.funcs.size with h|h
  .exact h
  .rw[Array.getElem?_eq_none h]at hf;cases hf
 have:=Zz.1 ama f (Xi.2 PJ);rw[ha,hf]at this;simpa using this
theorem vOk:EC Y where
 y:=yOk
 fns f fn c ha hf hc:=by have:=(XJ ha hf).2;rw[hc]at this;exact this
theorem aie:O1 X where
 mixed:=by rfl
 fns f fn ha hf:=(XJ ha hf).1
 orc:=ah3
 seq:=aga
end Go.Vm
