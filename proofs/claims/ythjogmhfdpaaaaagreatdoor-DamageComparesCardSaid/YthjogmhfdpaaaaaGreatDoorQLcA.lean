/- Lemmas. -/
import Derived.Test.YthjogmhfdpaaaaaGreatDoorQTrB
import Derived.Shelf.Pu.ParseUintPublic10
import Derived.Shelf.Strconv.ParseIntPublic10
import Derived.RangeFuncBox
import Derived.Shelf.Abstract
import Derived.WalkKit
import Derived.OwnWalkIn
import Derived.TacticsInMore
import Derived.LoopIn
set_option linter.unusedVariables false
set_option linter.unusedSimpArgs false
open Go.Proofs.Tryz
open Option renaming some->Wf,none->Vc
open Bool renaming true->Th,false->SM
open Go renaming World->wO
open List renaming replicate->So,length->RW
namespace Go.Vm
variable{x:Nat×Ve}{m:Mz}{v u:Ve}{o j n i A E N k:Nat}{us z:ax}{C:List (Nat×Ve)}{r:aw}{l:List af}{Ok dr:Bool}{gs:List (List (Int×Nat))}{a b d:Int}{q:bH}
def dU:ax->Ve->Ve->Int
 |[],_,_=>0
 |i::us,e,x=>e i*x i+dU us e x
theorem NM(a b:Int)(e f x:Ve):∀us,dU us (λi=>a*e i-b*f i) x=a*dU us e x-b*dU us f x
 |[]=>by simp[dU]
 |i::us=>by simp[dU,NM a b e f x us];grind
theorem ZH(a:Int)(e x:Ve):∀us,dU us e (λi=>a*x i)=a*dU us e x
 |[]=>by simp[dU]
 |i::us=>by simp[dU,ZH a e x us];grind
theorem NO{e x y:Ve}:∀{us},(∀i∈us,x i=y i)->dU us e x=dU us e y
 |[],_=>rfl
 |i::us,h=>by simp[dU,h i ac,NO (us:=us) λj hj=>h j ae]
theorem Eg{e x:Ve}:∀{us},(∀i∈us,e i*x i=0)->dU us e x=0
 |[],_=>rfl
 |i::us,h=>by simp only[dU,h i ac,Eg (us:=us) λj hj=>h j ae];rfl
theorem ZG{e x:Ve}:∀{us},dU us e x≠0->∃i∈us,e i*x i≠0
 |[],h=>absurd rfl h
 | i::us,h=>by
  by_cases h1:e i*x i=0
  .simp only[dU,h1,Xa]at h;have⟨j,hj,h2⟩:=ZG h
   grind
  .exact⟨i,ac,h1⟩
theorem wW{e x:Ve}{j:Nat}:∀{us:ax},j∈us->dU us e x=e j*x j+dU (us.erase j) e x
 | i::us,h=>by
  by_cases hi:i=j
  .subst hi;rw[List.erase_cons_head];rfl
  ·have hj:j∈us:=by
    rcases Zx.1 h with h|h
    .omega
    .exact h
   rw[List.erase_cons_tail ae];simp[dU,wW hj];omega
theorem NP{e x:Ve}{A S:Nat}:∀{us:ax},(∀i∈us,(e i).natAbs<=A)->(∀i∈us,(x i).natAbs<=S)->(dU us e x).natAbs<=RW us*(A*S)
 |[],_,_=>by simp[dU]
 | i::us,h1,h2=>by
  have ih:=NP (us:=us) (λj hj=>h1 j ae) (λj hj=>h2 j ae);have a1:=Xz (e i*x i) (dU us e x);rw[Zl]at a1;have a2:=Zr (h1 i ac) (h2 i ac)
  grind[dU,Nat.add_mul]
def qA:Nat->Nat->Nat
 |0,_=>0
 |1,_=>1
 |u+2,A=>(u+1)*A*qA (u+1) (2*A*A)
theorem QQ:∀(u:Nat){A:Nat},1<=A->1<=qA (u+1) A
 |0,A,h=>by simp[qA]
 | u+1,A,h=>by
  have h2:1*1<=A*A:=Zr h h;have h1:=QQ u (A:=2*A*A) ae;have h3:1*1*1<=(u+1)*A*qA (u+1) (2*A*A):=Zr (Zr aa h) h1;trivial
theorem J3:∀(k:Nat)(us:ax),RW us=k->us.Nodup->∀(A:Nat),1<=A->∀(es:List Ve)(l x:Ve),(∀e∈es,∀i∈us,(e i).natAbs<=A)->(∀e∈es,dU us e x=0)->dU us l x≠0 ->
  ∃y:Ve,(∀e∈es,dU us e y=0)∧dU us l y≠0∧(∀i,(y i).natAbs<=qA (RW us) A)∧∀i,i ∉ us->y i=0
 | 0,us,hk,hn,A,hA,es,l,x,hb,h0,hl=>by
  rw[Ye.1 hk]at hl;trivial
 | k+1,us,hk,hn,A,hA,es,l,x,hb,h0,hl=>by
  by_cases all:∀e∈es,∀i∈us,e i=0
  .have⟨i,hi,h1⟩:=ZG hl
   refine ⟨λt=>if t=i then 1 else 0,λe he=>Eg λt ht=>by rw[all e he t ht,Int.zero_mul],?_,λt=>?_,λt ht=>by
    grind⟩
   .rw[wW hi,Eg (us:=us.erase i)]
    .rw[ip rfl,Int.mul_one,Int.add_zero];exact λh=>h1 (by rw[h,Int.zero_mul])
    grind
   grind[QQ]
  ·obtain ⟨e1,he1,j,hj,ha⟩:∃e1,e1∈es∧∃j,j∈us∧e1 j≠0:=by
    grind
   have hk2:RW (us.erase j)=k:=by rw[List.length_erase_of_mem hj];omega
   have hn2:(us.erase j).Nodup:=hn.erase j;have hsub:∀i∈us.erase j,i∈us∧i≠j:=λi hi=>⟨(hn.mem_erase_iff.1 hi).2,(hn.mem_erase_iff.1 hi).1⟩
   have hA2:1*1<=A*A:=Zr hA hA
   have hred:∀e:Ve,dU (us.erase j) (λi=>e1 j*e i-e j*e1 i) x=e1 j*dU us e x-e j*dU us e1 x:=λe=>by
    rw[NM,wW (e:=e) hj,wW (e:=e1) hj]
    grind
   obtain ⟨y,y1,y2,y3,y4⟩:=J3 k (us.erase j) hk2 hn2 (2*A*A) ae (es.map λe i=>e1 j*e i-e j*e1 i) (λi=>e1 j*l i-l j*e1 i) x (λe' he' i hi=>by
     obtain⟨e,he,rfl⟩:=Zw.1 he';have⟨hi,_⟩:=hsub i hi
     show(e1 j*e i-e j*e1 i).natAbs<=_
     have b1:=Int.natAbs_sub_le (e1 j*e i) (e j*e1 i);rw[Zl,Zl]at b1;have b2:=Zr (hb e1 he1 j hj) (hb e he i hi);have b3:=Zr (hb e he j hj) (hb e1 he1 i hi)
     grind) (λe' he'=>by
     grind) (by
     simp_all)
   have hval:∀e:Ve,dU us e (λt=>if t=j then -dU (us.erase j) e1 y else e1 j*y t)=dU (us.erase j) (λi=>e1 j*e i-e j*e1 i) y:=λe=>by
    rw[wW hj,ip rfl,NM,NO (y:=λt=>e1 j*y t) (λt ht=>iN (hsub t ht).2),ZH]
    grind
   refine⟨_,λe he=>(hval e).trans (y1 _ (Zw.2 ⟨e,he,rfl⟩)),ae,λt=>?_,λt ht=>?_⟩
   .cases k with
    | zero=>
     rw[Ye.1 hk2]at y2;trivial
    | succ u=>
     rw[hk]
     show(if t=j then -dU (us.erase j) e1 y else e1 j*y t).natAbs<=(u+1)*A*qA (u+1) (2*A*A)
     rw[hk2]at y3;split
     .rw[X0,Nat.mul_assoc];have:=NP (us:=us.erase j) (e:=e1) (x:=y) (λi hi=>hb e1 he1 i (hsub i hi).1) (λi _=>y3 i)
      grind
     .rw[Zl,Nat.mul_assoc];have b1:=Zr (hb e1 he1 j hj) (y3 t)
      grind
   grind
theorem JS{m:List (Nat×Ve)}(h:bV (vs m) v):bV (vs (x::m)) v:=
 bV.le (λg hg=>bV.mem (by grind[vs])) h
theorem MH:∀{m:List (Nat×Ve)}{o:Nat},fV o m->∀(u:Ve),∃(D:Int)(s:Ve),D≠0∧bV (vs m) s∧∀y∈m,D*u y.1-s y.1=0
 |[],o,H,u=>⟨1,λ_=>0,aa,bV.zero _,λy hy=>by cases hy⟩
 | (l,h)::m,o,⟨⟨a,b,c⟩,d,r⟩,u=>by
  have⟨D,s,h1,h2,h3⟩:=MH r (λi=>h l*u i-u l*h i);refine⟨D*h l,λi=>D*u l*h i+s i,Wt h1 aa,((bV.mem (by simp[vs])).mul _).add (JS h2),λy hy=>?_⟩;rcases Zx.1 hy with rfl|hy
  .have:s l=0:=ul r h2 l aa
   grind
  grind
theorem DN:∀{m:List (Nat×Ve)}{o:Nat},fV o m->∀x∈m,∃v,bV (vs m) v∧v x.1≠0∧(∀j,j<x.1->v j=0)∧∀y∈m,y.1≠x.1->v y.1=0
 | (l,h)::m,o,H,x,hx=>by
  have H':=H;have⟨⟨a,b,c⟩,d,r⟩:=H';rcases Zx.1 hx with rfl|hx
  .have⟨D,s,h1,h2,h3⟩:=MH r h;have z:∀j,j<=l->s j=0:=λj hj=>ul r h2 j aa
   refine⟨λi=>D*h i-s i,((bV.mem (by simp[vs])).mul D).sub (JS h2),?_,λj hj=>?_,λy hy MT=>?_⟩
   .show D*h l-s l≠0
    rw[z l (Z8 _),Int.sub_zero];exact Wt h1 aa
   .show D*h j-s j=0
    rw[z j aa,c j hj];simp
   grind
  .have⟨v,v1,v2,v3,v4⟩:=DN r x hx;have:=yJ r x hx;refine⟨v,JS v1,v2,v3,λy hy MT=>?_⟩;rcases Zx.1 hy with rfl|hy
   .exact v3 l aa
   grind
theorem VG:∀{m:List (Nat×Ve)}{o:Nat},fV o m->∀x∈m,∀z∈m,(x.2 z.1).natAbs<=(z.2 z.1).natAbs
 | (l,h)::m,o,⟨⟨a,b,c⟩,d,r⟩,x,hx,z,hz=>by
  rcases Zx.1 hx with rfl|hx
  .rcases Zx.1 hz with rfl|hz
   .omega
   grind
  .rcases Zx.1 hz with rfl|hz
   .have:x.2 l=0:=ul r (bV.mem (Zw.2 ⟨x,hx,rfl⟩)) l aa
    grind
   .exact VG r x hx z hz
theorem aam{m:List (Nat×Ve)}{o S:Nat}(H:fV o m)(w:Nat->Ve)(hw:∀x∈m,bV (vs m) (w x.1)∧w x.1 x.1≠0∧(∀y∈m,y.1≠x.1->w x.1 y.1=0)∧∀j,(w x.1 j).natAbs<=S) :
  ∀(J:List (Nat×Ve)),(∀x∈J,x∈m)->∀(c:Nat)(u:Ve),bV (vs m) u->(∀y∈m,y ∉ J->u y.1=0)->(∀y∈J,(u y.1).natAbs<=c*(w y.1 y.1).natAbs)->∀j,(u j).natAbs<=c*(RW J*S)
 | [],_,c,u,hu,hz,_,j=>by
  rcases wD H hu with h|⟨x,hx,_,h,_⟩
  .grind
  .exact absurd (hz x hx ac) h
 | x::J,hJ,c,u,hu,hz,hb,j=>by
  have⟨w1,w2,w3,w4⟩:=hw x (hJ x ac)
  have ih:=aam H w hw J (λy hy=>hJ y ae) (c*(w x.1 x.1).natAbs) (λi=>w x.1 x.1*u i-u x.1*w x.1 i) ((hu.mul _).sub (w1.mul _)) (λy hy hn=>by
   by_cases e:y.1=x.1
   .grind
   .show w x.1 x.1*u y.1-u x.1*w x.1 y.1=0
    rw [w3 y hy e,hz y hy (λh=>by
     rcases Zx.1 h with h|h
     .exact e (by rw[h])
     trivial)]
    simp) (λy hy=>by
   show(w x.1 x.1*u y.1-u x.1*w x.1 y.1).natAbs<=_
   by_cases e:y.1=x.1
   .rw[e,show w x.1 x.1*u x.1-u x.1*w x.1 x.1=0 by grind];simp
   .rw[w3 y (hJ y ae) e,Int.mul_zero,Int.sub_zero,Zl];have:=Z4 (w x.1 x.1).natAbs (hb y ae)
    grind) j
  have h1:((w x.1 x.1)*u j).natAbs<=(w x.1 x.1*u j-u x.1*w x.1 j).natAbs+(u x.1*w x.1 j).natAbs:=by
   have:=Xz (w x.1 x.1*u j-u x.1*w x.1 j) (u x.1*w x.1 j)
   rwa [Int.sub_add_cancel]at this
  rw[Zl,Zl (u x.1)]at h1;have h2:=Zr (hb x ac) (w4 j)
  have h3:(w x.1 x.1).natAbs*(u j).natAbs<=(w x.1 x.1).natAbs*(c*(RW (x::J)*S)):=by
   calc (w x.1 x.1).natAbs*(u j).natAbs<=c*(w x.1 x.1).natAbs*(RW J*S)+c*(w x.1 x.1).natAbs*S:=Z1 h1 (Nat.add_le_add ih h2)
    _=(w x.1 x.1).natAbs*(c*(RW (x::J)*S)):=by grind
  exact Nat.le_of_mul_le_mul_left h3 (Int.natAbs_pos.2 w2)
theorem aan{m:List (Nat×Ve)}{S:Nat}(H:fV o m)(hw:∀x∈m,∃v,bV (vs m) v∧v x.1≠0∧(∀y∈m,y.1≠x.1->v y.1=0)∧∀j,(v j).natAbs<=S):∀x∈m,∀j,(x.2 j).natAbs<=RW m*S:=by
 intro x hx j
 let P:Nat->Ve->Prop:=λl v=>bV (vs m) v∧v l≠0∧(∀y∈m,y.1≠l->v y.1=0)∧∀j,(v j).natAbs<=S
 let w:Nat->Ve:=λl=>Classical.epsilon (P l)
 have hP:∀y∈m,P y.1 (w y.1):=λy hy=>Classical.epsilon_spec (hw y hy)
 have:=aam H w hP m (λy hy=>hy) 1 x.2 (bV.mem (Zw.2 ⟨x,hx,rfl⟩)) (λy hy hn=>absurd hy hn) (λy hy=>by
  have⟨p1,p2,p3,p4⟩:=hP y hy;rcases wD H p1 with h|⟨z,hz,z1,z2,z3⟩
  .grind
  .have e:z.1=y.1:=Classical.byContradiction λhn=>z2 (p3 z hz hn)
   have h1:=VG H x hx z hz;rw[<-e,W0];refine Z1 h1 ?_;rw[<-e]at z2 z3;exact Xk aa (Int.natAbs_dvd_natAbs.2 z3)) j
 omega
theorem ZI(e x:Ve):∀us ws,dU (us++ws) e x=dU us e x+dU ws e x
 |[],ws=>by simp[dU]
 |i::us,ws=>by simp only[List.cons_append,dU,ZI e x us ws];omega
theorem uz(e x:Ve):∀n,dK n e x=dU (List.range n) e x
 |0=>rfl
 |n+1=>by rw[Wu,ZI,<-uz e x n];simp[dU,dK]
theorem M8:∀(os us:ax),us.Nodup->os.Nodup->(∀c∈os,c∈us)->(os.foldl List.erase us).Nodup∧RW (os.foldl List.erase us)+RW os=RW us∧∀c,c∈os.foldl List.erase us↔c∈us∧c ∉ os
 |[],us,h1,h2,h3=>⟨h1,rfl,λc=>by simp⟩
 | a::os,us,h1,h2,h3=>by
  rw[Xx]at h2;have⟨i1,i2,i3⟩:=M8 os (us.erase a) (h1.erase a) h2.2 (λc hc=>h1.mem_erase_iff.2 ⟨λe=>h2.1 (e▸hc),h3 c ae⟩)
  grind
theorem NN{e x:Ve}:∀{os us:ax},us.Nodup->os.Nodup->(∀c∈os,c∈us)->(∀c∈os,x c=0)->dU (os.foldl List.erase us) e x=dU us e x
 |[],us,_,_,_,_=>rfl
 | a::os,us,h1,h2,h3,h4=>by
  rw[Xx]at h2;have ha:=h3 a ac;simp only[List.foldl_cons];rw[NN (h1.erase a) h2.2 (λc hc=>h1.mem_erase_iff.2 ⟨λe=>h2.1 (e▸hc),h3 c ae⟩) (λc hc=>h4 c ae),wW (us:=us) ha,h4 a ac];simp
theorem ZF{x:Ve}(hj:j∈us)(hn:us.Nodup):dU us (λc=>if c=j then 1 else 0) x=x j:=by
 rw[wW hj,Eg (us:=us.erase j)]
 .simp
 grind
def leads(m:List (Nat×Ve)):ax:=m.map (·.1)
theorem LZ:∀{m:List (Nat×Ve)}{o:Nat},fV o m->(leads m).Nodup
 |[],_,_=>List.nodup_nil
 | (l,h)::m,o,H=>by
  refine Xx.2 ⟨λhl=>?_,LZ H.2.2⟩;have⟨x,hx,e⟩:=Zw.1 hl;have:=yJ H.2.2 x hx
  grind
theorem SS{m:List (Nat×Ve)}(H:fV o m)(hn:∀x∈m,x.1<n)(hx:x∈m):∃os:ax,os.Nodup∧RW os+1=RW m∧(∀c∈os,c<n)∧(∀c,c∈os↔(∃y∈m,y.1=c)∧c≠x.1):=by
 have hd:=LZ H;have hm:x.1∈leads m:=Zw.2 ⟨x,hx,rfl⟩;refine⟨(leads m).erase x.1,hd.erase _,?_,λc hc=>?_,λc=>?_⟩
 .grind[leads]
 .obtain⟨y,hy,rfl⟩:=Zw.1 (hd.mem_erase_iff.1 hc).2
  grind
 grind[leads]
theorem Hd{m:List (Nat×Ve)}(H:fV o m)(hn:∀x∈m,x.1<n):RW m<=n:=by
 obtain ⟨_,h,_⟩:=M8 (leads m) (List.range n) W4 (LZ H) (λc hc=>by
  obtain⟨x,hx,rfl⟩:=Zw.1 hc
  grind)
 grind[leads]
theorem Pf(hl:Ln n m)(hj:n<=j):eZ m i j=0:=by
 by_cases hi:i<RW m
 .have:=hl i hi;rw[eZ,nth,Z6,List.getElem?_eq_none aa];rfl
 .rw[eZ,show nth [] m i=[] by rw[nth,Z6,List.getElem?_eq_none aa];rfl];rfl
theorem akc(h:∀i,i<RW m->dK n (ve (nth [] m i)) v=0)(h0:∀j,n<=j->v j=0):dG n (eQ m) v:=by
 refine⟨λu hu=>D7 (λg hg=>?_) hu,h0⟩;obtain⟨r,hr,rfl⟩:=Zw.1 hg;obtain⟨i,hi,rfl⟩:=Zj.1 hr;have e1:m[i]=nth [] m i:=by rw[nth,Z6,List.getElem?_eq_getElem hi];rfl
 grind
theorem U6(H:fV o C)(hs:∀v,bV (vs C) v↔dG n (eQ m) v)(hA:1<=A)(hb:dy A m):∀x∈C,∀j,(x.2 j).natAbs<=RW C*qA (n+1-RW C) A:=by
 have hk:∀x∈C,dG n (eQ m) x.2:=λx hx=>(hs _).1 (bV.mem (Zw.2 ⟨x,hx,rfl⟩))
 have hp:∀{C:List (Nat×Ve)}{o:Nat},fV o C->∀x∈C,0<x.2 x.1:=by
  intro C
  induction C with
  |nil=>simp
  | cons y C ih=>
   intro o H x hx;have⟨l,h⟩:=y;rcases Zx.1 hx with rfl|hx
   .exact H.1.2.1
   .exact ih H.2.2 x hx
 have hn:∀x∈C,x.1<n:=λx hx=>Decidable.byContradiction λh=>by
  have h1:=(hk x hx).2 x.1 aa
  grind
 refine aan H λx hx=>?_
 have⟨v,v1,v2,v3,v4⟩:=DN H x hx;have⟨os,o1,o2,o3,o4⟩:=SS H hn hx;have osr:∀c∈os,c∈List.range n:=λc hc=>Xi.2 (o3 c hc)
 have⟨u1,u2,u3⟩:=M8 os (List.range n) W4 o1 osr;have hxu:x.1∈os.foldl List.erase (List.range n):=(u3 _).2 ⟨Xi.2 (hn x hx),λh=>((o4 _).1 h).2 rfl⟩
 have vz:∀c∈os,v c=0:=λc hc=>by
  grind
 obtain ⟨y,y1,y2,y3,y4⟩:=J3 _ _ rfl u1 A hA (m.map ve) (λc=>if c=x.1 then 1 else 0) v (λe he i _=>by
  obtain⟨r,hr,rfl⟩:=Zw.1 he;obtain⟨k,hk,rfl⟩:=Zj.1 hr;have e1:m[k]=nth [] m k:=by rw[nth,Z6,List.getElem?_eq_getElem hk];rfl
  rw[e1];exact hb k i) (λe he=>by
  rw[NN W4 o1 osr vz,<-uz];exact((hs v).1 v1).1 e (bV.mem he)) (by grind[ZF])
 rw[ZF hxu u1]at y2;have yz:∀c∈os,y c=0:=λc hc=>y4 c λh=>((u3 c).1 h).2 hc
 refine⟨y,(hs y).2 (akc (λi hi=>?_) λj hj=>y4 j λh=>?_),y2,λz hz MT=>yz z.1 ((o4 _).2 ⟨⟨z,hz,rfl⟩,MT⟩),?_⟩
 .rw[uz,<-NN W4 o1 osr yz]
  grind[nth.eq_1]
 .grind
 ·have e:RW (os.foldl List.erase (List.range n))=n+1-RW C:=by
   rw[List.length_range]at u2;omega
  grind
theorem Qv(h:eQ m v):∃X:Ve,∀c,v c=dK (RW m) (λk=>eZ m k c) X:=by
 have key:∀(l:List Ve),(∀g∈l,∃X:Ve,∀c,g c=dK (RW m) (λk=>eZ m k c) X)->∀ks,∃X:Ve,∀c,gv ks l c=dK (RW m) (λk=>eZ m k c) X:=by
  intro l
  induction l with
  |nil=>intro _ ks;exact⟨λ_=>0,λc=>by cases ks<;>exact(wK _ _).symm⟩
  | cons g l ih=>
   intro hg ks;cases ks with
   |nil=>exact⟨λ_=>0,λc=>(wK _ _).symm⟩
   | cons k ks=>
    have⟨X,hX⟩:=hg g ac;have⟨Y,hY⟩:=ih (λx hx=>hg x ae) ks;refine⟨λi=>k*X i+Y i,λc=>?_⟩;rw[BE,yP,<-hX,<-hY];rfl
 obtain⟨ks,rfl⟩:=h;refine key _ (λg hg=>?_) ks;obtain⟨r,hr,rfl⟩:=Zw.1 hg;obtain⟨i,hi,rfl⟩:=Zj.1 hr;have e1:m[i]=nth [] m i:=by rw[nth,Z6,List.getElem?_eq_getElem hi];rfl
 refine⟨λj=>if j=i then 1 else 0,λc=>?_⟩;rw[Ih,ip hi,e1];rfl
theorem ZX{m:Mz}(X:Ve):∀r,r<=RW m->eQ m λc=>dK r (λk=>eZ m k c) X
 |0,_=>bV.zero _
 | r+1,hr=>by
  have h1:=(ZX (m:=m) X r aa).add ((j9 (m:=m) (i:=r) aa).mul (X r))
  have e:(λc=>dK r (λk=>eZ m k c) X+X r*ve (nth [] m r) c)=λc=>dK (r+1) (λk=>eZ m k c) X:=funext λc=>by
   show _+X r*eZ m r c=_+eZ m r c*X r
   grind
  rwa [e]at h1
theorem Qy(H:fV o C)(h1:∀v,eQ m v->bV (vs C) v)(h2:∀v,bV (vs C) v->∃D:Int,D≠0∧eQ m λi=>D*v i)(hA:1<=A)(hb:dy A m):
  ∀x∈C,∀j,(x.2 j).natAbs<=RW C*(RW m*(A*qA (RW m) A)):=by
 refine aan H λx hx=>?_
 have⟨v,v1,v2,v3,v4⟩:=DN H x hx;have⟨D,d1,d2⟩:=h2 v v1;have⟨X,hX⟩:=Qv d2
 obtain ⟨os,o1,o2,o3,o4⟩:=SS (n:=(C.map (·.1)).sum+1) H (λy hy=>by
  have:∀(l:ax) a,a∈l->a<=l.sum:=by
   intro l
   induction l with
   |nil=>trivial
   | cons b l ih=>
    grind
  have:=this _ _ (Zw.2 ⟨y,hy,rfl⟩:y.1∈C.map (·.1));omega) hx
 have dz:∀c,D*v c=dU (List.range (RW m)) (λk=>eZ m k c) X:=λc=>by grind[uz]
 obtain ⟨y,y1,y2,y3,y4⟩:=J3 (RW m) (List.range (RW m)) List.length_range W4 A hA (os.map λc k=>eZ m k c) (λk=>eZ m k x.1) X (λe he i _=>by
  obtain⟨c,hc,rfl⟩:=Zw.1 he;exact hb i c) (λe he=>by
  obtain⟨c,hc,rfl⟩:=Zw.1 he;obtain⟨⟨z,hz,rfl⟩,MT⟩:=(o4 c).1 hc
  grind) (by grind[Wt])
 refine⟨λc=>dK (RW m) (λk=>eZ m k c) y,h1 _ (ZX y (RW m) (Z8 _)),?_,λz hz MT=>?_,λj=>?_⟩
 .grind[uz]
 .grind[uz]
 .show(dK (RW m) (λk=>eZ m k j) y).natAbs<=_
  rw[uz];rw[List.length_range]at y3;have:=NP (us:=List.range (RW m)) (e:=λk=>eZ m k j) (x:=y) (λi _=>hb i j) (λi _=>y3 i)
  grind
theorem U7{n f:Nat}:∀{C:List (Nat×Ve)}{o:Nat},fV o C->(∀x∈C,x.1<n)->f<n->(∀x∈C,x.1≠f)->∃k:Ve,k f≠0∧(∀x∈C,dK n x.2 k=0)∧∀j,j≠f->(∀x∈C,x.1≠j)->k j=0
 |[],o,H,hn,hf,MT=>⟨λj=>if j=f then 1 else 0,ac,λx hx=>absurd hx Y3,λj hj _=>iN hj⟩
 | (l,h)::C,o,⟨⟨a,b,c⟩,d,r⟩,hn,hf,MT=>by
  have⟨k,k1,k2,k3⟩:=U7 r (λx hx=>hn x ae) hf (λx hx=>MT x ae);have hl:=hn (l,h) ac;have hlf:=MT (l,h) ac
  have dt:∀g:Ve,dK n g (λj=>h l*k j + -(dK n h k)*(if j=l then 1 else 0))=h l*dK n g k-dK n h k*g l:=λg=>by
   rw[BE,yP,yP,Ih,ip hl,Int.neg_mul];omega
  refine⟨λj=>h l*k j + -(dK n h k)*(if j=l then 1 else 0),?_,λx hx=>?_,λj hj hx=>?_⟩
  .show h l*k f + -(dK n h k)*(if f=l then 1 else 0)≠0
   rw[iN (λe=>hlf e.symm),Int.mul_zero,Int.add_zero];exact Wt aa k1
  .rw[dt];rcases Zx.1 hx with rfl|hx
   .grind
   .have:x.2 l=0:=ul r (bV.mem (Zw.2 ⟨x,hx,rfl⟩)) l aa
    grind
  .show h l*k j + -(dK n h k)*(if j=l then 1 else 0)=0
   rw[iN (λe=>hx (l,h) ac e.symm),k3 j hj (λy hy=>hx y ae)];simp
theorem aka{S:Ve->Prop}(H:fV o C)(hn:∀x∈C,x.1<n)(hs:∀v,bV (vs C) v↔S v)(hS:∀u,S u->∀j,n<=j->u j=0)(hu:dG n (dG n S) u):∃D:Int,D≠0∧S λi=>D*u i:=by
 have⟨D,s,h1,h2,h3⟩:=MH H u;have hsS:=(hs s).1 h2;have hsk:dG n (dG n S) s:=⟨λw hw=>by rw[wL];exact hw.1 s hsS,hS s hsS⟩;have hd:dG n (dG n S) λi=>D*u i + -1*s i:=(hu.mul D).add (hsk.mul (-1))
 have hz:∀f,D*u f + -1*s f=0:=λf=>by
  by_cases hf:f<n
  .by_cases hl:∃x∈C,x.1=f
   .grind
   .have⟨k,k1,k2,k3⟩:=U7 H hn hf (λx hx e=>hl ⟨x,hx,e⟩)
    let k':Ve:=λj=>if j<n then k j else 0
    have dk:∀g:Ve,dK n g k'=dK n g k:=λg=>by
     grind[uz,NO]
    have hk:dG n S k':=⟨λw hw=>by
     grind[D7,vs],λj hj=>iN aa⟩
    have h4:=hd.1 k' hk
    have hval:dK n k' (λi=>D*u i + -1*s i)=k f*(D*u f + -1*s f):=by
     have hfr:f∈List.range n:=Xi.2 hf;rw[uz,wW hfr,Eg (us:=(List.range n).erase f)]
     .grind
     .intro t ht;have⟨t1,t2⟩:=W4.mem_erase_iff.1 ht;by_cases hx:∃x∈C,x.1=t
      .obtain⟨x,hx,rfl⟩:=hx;have:=h3 x hx;rw[show D*u x.1 + -1*s x.1=0 by omega,Int.mul_zero]
      grind
    grind[Int.mul_eq_zero]
  .have a1:=hu.2 f aa;have a2:=hS s hsS f aa
   grind
 refine⟨D,h1,?_⟩;have e:(λi=>D*u i)=s:=funext λi=>by grind
 grind
theorem aag{B:Nat}:∀(r:Nat){f g c o:Nat}{m:Mz}{x:Nat×Mz},IP B f r c o m=Wf x->f<=g->IP B g r c o m=Wf x
 |0,f,g,c,o,m,x,h,_=>h
 | r+1,f,g,c,o,m,x,h,hg=>by
  have h2:kC [] (λr=>r) (λ_ r=>r) B f (r+1) c o m=Wf x:=h
  show kC [] (λr=>r) (λ_ r=>r) B g (r+1) c o m=Wf x
  simp[kC]at h2 ⊢;split at h2
  .rename_i ho;rw[ip ho];split at h2
   .rename_i o1 m1 hr;have hr2:lZ [] (λr=>r) (λ_ r=>r) B c g o m=Wf (o1,m1):=KQ f g hr hg;rw[hr2];exact aag r h2 hg
   trivial
  grind
theorem MW{B f g c:Nat}{x:Nat×Mz}(h:mU B f c m=Wf x)(hg:f<=g):mU B g c m=Wf x:=aag c h hg
theorem Mo{B f g:Nat}{z:Mz}(h:kW B f n m=Wf z)(hg:f<=g):kW B g n m=Wf z:=by grind[kW,MW,Er]
def rU(k:Nat)(m:List (Nat×Ve)):List (Nat×Ve):=(m.filter λx=>decide (k<=x.1)).map λx=>(x.1-k,λj=>x.2 (k+j))
theorem VI(k:Nat):∀{m:List (Nat×Ve)}{o:Nat},fV o m->fV (o-k) (rU k m)
 |[],o,H=>trivial
 | (l,h)::m,o,⟨⟨a,b,c⟩,d,r⟩=>by
  have ih:=VI k r;by_cases hk:k<=l
  .have e:rU k ((l,h)::m)=(l-k,λj=>h (k+j))::rU k m:=by simp[rU,List.filter_cons,hk]
   rw[e];refine⟨⟨aa,?_,λj hj=>c _ aa⟩,λx hx=>?_,?_⟩
   .show 0<h (k+(l-k))
    rw[show k+(l-k)=l by omega];exact b
   .obtain⟨y,hy,rfl⟩:=Zw.1 hx;have⟨hy,hky⟩:=Xw.1 hy;have hky:k<=y.1:=by simpa using hky
    show 0<=h (k+(y.1-k))∧h (k+(y.1-k))<y.2 (k+(y.1-k))
    rw[show k+(y.1-k)=y.1 by omega]
    grind
   .rw[show l+1-k=l-k+1 by omega]at ih;exact ih
  .have e:rU k ((l,h)::m)=rU k m:=by simp[rU,List.filter_cons,hk]
   rw[e];exact akP aa ih
theorem Bf{L:Nat->Nat}{m:Mz}:∀{r i k:Nat},i<=k->k<i+r->(L k,ve (nth [] m k))∈jv L m r i
 |0,i,k,a,b=>by omega
 | r+1,i,k,a,b=>by
  by_cases e:k=i
  .grind[jv]
  .exact W8 _ (Bf aa aa)
theorem apl{L:Nat->Nat}{w:Mz}(H:Hm (RW m+n) (RW m+n) o L w)(e:iD (iE n m) w):
  ∃C,fV 0 C∧(∀v,bV (vs C) v↔dG n (eQ m) v)∧∀r∈lW (RW m) (w.take o),∃x∈C,ve r=x.2:=by
 have⟨tl,H2,e2⟩:=DO H;have sp:∀u,eQ (w.take o) u↔jZ n m u:=λu=>(((e.trans e2) u).symm).trans (O2 u)
 have hh:=sH H2 o 0 0 aa (λ_=>Zb _);refine⟨rU (RW m) (jv L (w.take o) o 0),by have:=VI (RW m) hh;grind,λv=>?_,λr hr=>?_⟩
 .constructor
  .refine λh=>dG.spn (λg hg=>?_) h
   obtain⟨x',hx',rfl⟩:=Zw.1 hg;obtain⟨x,hx,rfl⟩:=Zw.1 hx';have⟨hx,hk⟩:=Xw.1 hx;have hk:RW m<=x.1:=by simpa using hk
   obtain⟨i,_,hi,rfl⟩:=yo hx;have hw:=(sp (ve (nth [] (w.take o) i))).1 (j9 aa);refine⟨λu hu=>?_,λj hj=>hw.2 _ aa⟩;refine D7 (λg hg=>?_) hu;obtain⟨r,hr,rfl⟩:=Zw.1 hg;obtain⟨k,hk2,rfl⟩:=Zj.1 hr;have e1:m[k]=nth [] m k:=by rw[nth,Z6,List.getElem?_eq_getElem hk2];rfl
   rw[e1,<-hw.1 k hk2];have hk:RW m<=L i:=hk;exact H2.low i aa k aa
  .intro h
   let u:Ve:=λj=>if j<RW m then 0 else v (j-RW m)
   have hsh:(λj=>u (RW m+j))=v:=funext λj=>by
    grind
   have hw:jZ n m u:=by
    refine⟨λi hi=>?_,λj hj=>?_⟩
    .rw[hsh,h.1 _ (j9 hi)]
     grind
    .show(if j<RW m then 0 else v (j-RW m))=0
     rw[iN aa];exact h.2 _ aa
   have h1:=(sp u).2 hw;rw[<-sG H2 (Z8 _)]at h1;have h2:=MI hh (RW m) h1 (λj hj=>ip hj);have h3:=Qw (RW m) h2;rw[hsh]at h3
   have e3:(vs ((jv L (w.take o) o 0).filter λx=>decide (RW m<=x.1))).map (λg j=>g (RW m+j))=vs (rU (RW m) (jv L (w.take o) o 0)):=by
    simp[vs,rU,Wb,Function.comp_def]
   grind
 .obtain⟨y,hy,rfl⟩:=Zw.1 hr;have⟨hy,hb⟩:=Xw.1 hy;obtain⟨i,hi,rfl⟩:=Zj.1 hy;have e1:(w.take o)[i]=nth [] (w.take o) i:=by rw[nth,Z6,List.getElem?_eq_getElem hi];rfl
  rw[e1]at hb ⊢;have hb:=((Ot _ _).1 hb).2
  have hk:RW m<=L i:=Decidable.byContradiction λhn=>by
   have:=H2.pos i aa;have h0:=hb (L i) aa
   grind
  refine⟨_,Zw.2 ⟨(L i,ve (nth [] (w.take o) i)),Xw.2 ⟨Bf aa aa,ae⟩,rfl⟩,funext λj=>Lo _ _ _⟩
theorem abF(hE:1<=E)(hb:dy E m):dy E (iE n m):=λi j=>by
 by_cases hi:i<n
 .have:=Ci (m:=m) hi j;simp[ve]at this;simp only[eZ,this];split
  .exact hb j i
  .split<;>simp<;>omega
 grind[nth.eq_1,zq]
theorem AS(h:RW m<=i)(j:Nat):eZ m i j=0:=by rw[eZ,show nth [] m i=[] by rw[nth,Z6,List.getElem?_eq_none h];rfl];rfl
theorem Mn(hn:n<=4)(hE:E<=10^9)(hb:dy (10^9) m)(hcan:∀C:List (Nat×Ve),fV 0 C->(∀v,bV (vs C) v↔dG n (eQ m) v)->∀x∈C,∀j,(x.2 j).natAbs<=E):
  ∃f z,kW 100000 f n m=Wf z∧dy E z:=by
 have⟨f0,h0⟩:=MU (RW m+n) (Jj n m) (by grind[zq]) (abF au hb);have⟨o,w,hw⟩:=h0 f0 (Z8 _);have⟨⟨L,H⟩,e,hlw⟩:=HP (Jj n m) hw;have⟨C,hC,hs,hr⟩:=apl H e
 have hbl:dy (10^9) (lW (RW m) (w.take o)):=λi j=>by
  by_cases hi:i<RW (lW (RW m) (w.take o))
  .have⟨x,hx,ex⟩:=hr (lW (RW m) (w.take o))[i] (X2 hi);have e1:(lW (RW m) (w.take o))[i]=nth [] (lW (RW m) (w.take o)) i:=by rw[nth,Z6,List.getElem?_eq_getElem hi];rfl
   rw[e1]at ex;have:=congrFun ex j
   grind[ve]
  .rw[AS aa];simp
 have Rg:RW (lW (RW m) (w.take o))<=4:=by
  have h1:RW (lW (RW m) (w.take o))<=RW (w.take o):=by
   simp only[lW,List.length_map];exact List.length_filter_le _ _
  have h2:RW (w.take o)<=RW w:=by rw[Zq];omega
  rw[hlw,zq]at h2;omega
 have key:∃f z,kW 100000 f n m=Wf z:=by
  have⟨f1,h1⟩:=MU n (aaK (DO H).2.1.ln) Rg hbl;have⟨o1,w1,hw1⟩:=h1 (max f0 f1) aa;by_cases hz:lW (RW m) (w.take o)=[]
  .refine⟨f0,[],?_⟩;unfold kW;rw[hw]
   show(if lW (RW m) (w.take o)=[]then Wf []else _)=Wf []
   grind
  .refine⟨max f0 f1,w1.take o1,?_⟩;unfold kW;rw[MW hw (by omega:f0<=max f0 f1)]
   show (if lW (RW m) (w.take o)=[]then Wf []else match mU 100000 (max f0 f1) n (lW (RW m) (w.take o))with
    |some (o,w)=>Wf (w.take o)
    |none=>Vc)=_
   grind
 have⟨f,z,hz⟩:=key;have⟨⟨L2,H2⟩,s2⟩:=Hy hz;refine⟨f,z,hz,λi j=>?_⟩;by_cases hi:i<RW z
 .have:=hcan (jv L2 z (RW z) 0) (sH H2 (RW z) 0 0 aa (λ_=>Zb _)) (λv=>by grind[sG]) _ (Bf aa (by omega:i<0+RW z)) j;exact this
 .rw[AS aa];simp
def uM(n:Nat)(m:Mz):Prop:=∃L,Hm n n (RW m) L m
structure OP(E n:Nat)(m g w c:Mz)(f:Nat):Prop where
 g0:∃o g',mU 100000 f n m=Wf (o,g')∧g'.take o=g
 gw:kW 100000 f n g=Wf w
 wc:kW 100000 f n w=Wf c
 cw:kW 100000 f n c=Wf w
 hg:uM n g
 hw:uM n w
 hc:uM n c
 bg:dy (10^9) g
 bw:dy E w
 bc:dy (10^6) c
 sw:RW w=2->dy 157464 w
 sc:RW c=2->dy 157464 c
def abo(E:Nat)(m:Mz):Prop:=∀C:List (Nat×Ve),fV 0 C->(∀v,bV (vs C) v↔dG 4 (eQ m) v)->RW C=1->∀x∈C,∀j,(x.2 j).natAbs<=E
theorem aj7(hE:10^6<=E)(hE9:E<=10^9)(h1:abo E m)(hn:n<=4)(hm:RW m<=3)(hl:Ln n m)(hb:dy 9 m):∃g w c f,OP E n m g w c f:=by
 -- the form of the rows
 have⟨f0,h0⟩:=MU n hl aa (hb.mono au);have⟨o,g',hg'⟩:=h0 f0 (Z8 _);have⟨⟨Lg,Hg⟩,eg⟩:=WJ hl hg';obtain⟨g,rfl⟩:=bD (g'.take o)
 have out:∀u,eQ m u->∀j,n<=j->u j=0:=λu hu j hj=>by
  have⟨X,hX⟩:=Qv hu;rw[hX j,show(λk=>eZ m k j)=λ_=>0 from funext λk=>Pf hl hj,wL];exact wK _ _
 have hC0:=sH Hg (RW (g'.take o)) 0 0 aa (λ_=>Zb _);have sC0:∀v,bV (vs (jv Lg (g'.take o) (RW (g'.take o)) 0)) v↔eQ m v:=λv=>by rw[sG Hg (Z8 _)];exact(eg v).symm
 have ltC0:∀x∈jv Lg (g'.take o) (RW (g'.take o)) 0,x.1<n:=λx hx=>by
  obtain⟨k,_,hk,rfl⟩:=yo hx;exact Hg.lt k aa
 have sm:RW m*(9*qA (RW m) 9)<=78732:=by
  have:RW m=0∨RW m=1∨RW m=2∨RW m=3:=aa;rcases this with h|h|h|h<;>rw[h]<;>decide
 have small:∀(C:List (Nat×Ve)),RW C<=4->RW C*(RW m*(9*qA (RW m) 9))<=10^6:=λC hC=>by
  have:=Zr hC sm;omega
 have bg:dy (10^9) (g'.take o):=λi j=>by
  by_cases hi:i<RW (g'.take o)
  .have h1:=Qy hC0 (λv hv=>(sC0 v).2 hv) (λv hv=>⟨1,aa,ae⟩) aa hb _ (Bf aa (by omega:i<0+RW (g'.take o))) j;have h2:=small _ (Z1 (Hd hC0 ltC0) hn);exact Z1 h1 (Z1 h2 au)
  .rw[AS aa];simp
 -- bounds of the kernels
 have can1:∀C:List (Nat×Ve),fV 0 C->(∀v,bV (vs C) v↔dG n (eQ m) v)->∀x∈C,∀j,(x.2 j).natAbs<=E:=λC hC hs x hx j=>by
  have PJ:∀x∈C,x.1<n:=λx hx=>Decidable.byContradiction λh=>by
   have h1:=((hs x.2).1 (bV.mem (Zw.2 ⟨x,hx,rfl⟩))).2 x.1 aa
   have hp:∀{C:List (Nat×Ve)}{o:Nat},fV o C->∀x∈C,0<x.2 x.1:=by
    intro C
    induction C with
    |nil=>simp
    | cons y C ih=>
     intro o H x hx;have⟨l,h⟩:=y;rcases Zx.1 hx with rfl|hx
     .exact H.1.2.1
     .exact ih H.2.2 x hx
   grind
  have hcl:=Hd hC PJ;have hc0:0<RW C:=List.length_pos_of_mem hx;by_cases h4:n=4∧RW C=1
  .rw[h4.1]at hs;exact h1 C hC hs h4.2 x hx j
  refine Z1 (Z1 (U6 hC hs aa hb x hx j) ?_) hE;generalize (RW C)=t at *;have h1:n=0∨n=1∨n=2∨n=3∨n=4:=aa;have h2:t=1∨t=2∨t=3∨t=4:=aa
  rcases h1 with h|h|h|h|h<;>subst h<;>rcases h2 with h|h|h|h<;>subst h<;>first
   |decide
   |omega
 have can2:∀C:List (Nat×Ve),fV 0 C->(∀v,bV (vs C) v↔dG n (dG n (eQ m)) v)->RW C<=4∧∀x∈C,∀j,(x.2 j).natAbs<=RW C*(RW m*(9*qA (RW m) 9)):=λC hC hs=>by
  have PJ:∀x∈C,x.1<n:=λx hx=>Decidable.byContradiction λh=>by
   have h1:=((hs x.2).1 (bV.mem (Zw.2 ⟨x,hx,rfl⟩))).2 x.1 aa;rcases wD hC (v:=x.2) (bV.mem (Zw.2 ⟨x,hx,rfl⟩))with z|⟨y,hy,y1,y2,_⟩
   .have hr:=DN hC x hx;have⟨v,v1,v2,v3,v4⟩:=hr;exact v2 (((hs v).1 v1).2 x.1 aa)
   .have⟨v,v1,v2,v3,v4⟩:=DN hC x hx;exact v2 (((hs v).1 v1).2 x.1 aa)
  refine⟨Z1 (Hd hC PJ) hn,Qy hC (λv hv=>(hs v).2 ⟨λu hu=>by rw[wL];exact hu.1 v hv,out v hv⟩) (λv hv=>?_) aa hb⟩;exact aka hC0 ltC0 sC0 out ((hs v).1 hv)
 have eK:∀{S T:Ve->Prop},(∀v,S v↔T v)->∀v,dG n S v↔dG n T v:=λh v=>⟨Mh λu hu=>(h u).2 hu,Mh λu hu=>(h u).1 hu⟩
 -- the kernels
 have⟨f1,w,hw,bw⟩:=Mn (E:=E) hn hE9 bg (λC hC hs=>can1 C hC λv=>(hs v).trans (eK (λu=>(eg u).symm) v));have⟨Hw,sw⟩:=Hy hw;have sw':∀v,eQ w v↔dG n (eQ m) v:=λv=>(sw v).trans (eK (λu=>(eg u).symm) v)
 obtain ⟨f2,c,hc,bc⟩:=Mn (E:=10^6) hn au (bw.mono hE9) (λC hC hs x hx j=>by
  grind)
 have⟨Hc,sc⟩:=Hy hc;have sc':∀v,eQ c v↔dG n (dG n (eQ m)) v:=λv=>(sc v).trans (eK sw' v)
 have s3:∀v,dG n (eQ c) v↔dG n (eQ m) v:=λv=>(eK sc' v).trans (akb out v)
 have⟨f3,w2,hw2,_⟩:=Mn (E:=E) hn hE9 (bc.mono au) (λC hC hs=>can1 C hC λv=>(hs v).trans (s3 v));have⟨⟨L2,H2⟩,sw2⟩:=Hy hw2;have⟨Lw,Hw'⟩:=Hw;have ew:w2=w:=akQ H2 Hw' λv=>((sw2 v).trans (s3 v)).trans (sw' v).symm
 subst ew;refine⟨_,_,c,max (max f0 f1) (max f2 f3),⟨o,g',MW hg' aa,rfl⟩,Mo hw aa,Mo hc aa,Mo hw2 aa,⟨Lg,Hg⟩,⟨Lw,Hw'⟩,Hc,bg,bw,bc,λh2 i j=>?_,λh2 i j=>?_⟩
 .by_cases hi:i<RW w2
  case neg=>rw[AS aa];simp
  have h1:=U6 (sH Hw' (RW w2) 0 0 aa (λ_=>Zb _)) (λv=>by rw[sG Hw' (Z8 _)];exact sw' v) aa hb _ (Bf aa (by omega:i<0+RW w2)) j;rw[Be,h2]at h1;refine Z1 h1 ?_;have h1:n=0∨n=1∨n=2∨n=3∨n=4:=aa;rcases h1 with h|h|h|h|h<;>rw[h]<;>decide
 .by_cases hi:i<RW c
  case neg=>rw[AS aa];simp
  have⟨Lc,Hc'⟩:=Hc;have⟨_,h1⟩:=can2 _ (sH Hc' (RW c) 0 0 aa (λ_=>Zb _)) (λv=>by grind[sG]);have h3:=h1 _ (Bf aa (by omega:i<0+RW c)) j;rw[Be,h2]at h3;exact Z1 h3 (Z1 (Z4 2 sm) au)
open Go Go.Am Go.Big
theorem qK{α:Type}(d:α)(m:List α)(h:i<RW m):nth d m i=m[i]:=by rw[nth,Z6,List.getElem?_eq_getElem h];rfl
theorem VK(H:uM n m):RW m<=n:=by
 have⟨L,H⟩:=H
 have:=Hd (n:=n) (sH H (RW m) 0 0 aa (λ_=>Zb _)) (λx hx=>by
  obtain⟨k,_,hk,rfl⟩:=yo hx;exact H.lt k aa)
 grind[Be]
theorem VJ(H:uM n m):∀r∈m,RW r=n:=λr hr=>by
 have⟨L,H⟩:=H;obtain⟨i,hi,rfl⟩:=Zj.1 hr;have:=H.ln i hi
 grind[qK]
theorem Ou(hb:dy E m):∀r∈m,∀z∈r,z.natAbs<=E:=λr hr z hz=>by
 obtain⟨i,hi,rfl⟩:=Zj.1 hr;obtain⟨j,hj,rfl⟩:=Zj.1 hz;have:=hb i j
 grind[qK]
theorem Dm(h1:0<n)(h2:n<=12)(H:uM n m)(hb:dy (10^9) m):jD n m:=
 ⟨h1,h2,by have:=VK H;omega,VJ H,λr hr z hz=>by have:=Ou hb r hr z hz;omega⟩
theorem ahq{l:Nat}(h1:∀j,j<l->nth 0 r j=0)(h2:nth 0 r l≠0):oV r=l:=by
 have hl:l<RW r:=Decidable.byContradiction λh=>h2 (by rw[nth,Z6,List.getElem?_eq_none aa];rfl)
 have:r.findIdx? (λn=>n !=0)=Wf l:=by
  rw[List.findIdx?_eq_some_iff_getElem];refine⟨hl,by grind[qK],λj hj=>?_⟩;rw[<-qK 0 r aa,h1 j hj];simp
 grind[oV,gn]
theorem VN{n:Nat}{m:Mz}{L:Nat->Nat}(H:Hm n n (RW m) L m):∀(q a:Mz)(b:Int),m=a++q->(∀i,i<RW m->i=RW a->b<L i)->um b a q=Th
 |[],a,b,e,hb=>rfl
 | r::q,a,b,e,hb=>by
  have DQ:RW a<RW m:=by rw[e];simp
  have er:nth [] m (RW a)=r:=by rw[qK _ _ DQ];simp[e]
  have p1:=H.pos (RW a) DQ;have p2:=H.low (RW a) DQ;simp only[eZ,er]at p1 p2;have hp:=ahq p2 aa;have hb':=hb (RW a) DQ rfl;simp only[um,hp,Int.toNat_natCast];rw[iN aa,iN]
  .refine VN H q (a++[r]) _ (by simp[e]) λi hi he=>?_
   rw[List.length_append,List.length_singleton]at he;subst he;have:=H.inc (RW a) (RW a+1) aa hi;omega
  .rw[Bool.not_eq_true,List.any_eq_false];intro o ho;obtain⟨j,hj,rfl⟩:=Zj.1 ho;have eo:nth [] m j=a[j]:=by rw[qK _ _ aa];simp[e,List.getElem_append_left hj]
   have:=H.red j (RW a) hj DQ
   grind[tf]
theorem P0{c:Nat}(hc:c<=12):∀{m:Mz},(∀r∈m,RW r=c)->(∀r∈m,∀z∈r,z.natAbs<=1000000000)->rM c m=0
 |[],_,_=>rfl
 | r::q,h1,h2=>by
  have hr:=h1 r ac;simp only[rM];rw[iN aa,iN aa,iN]
  .exact P0 hc (λx hx=>h1 x ae) λx hx=>h2 x ae
  .rw[Bool.not_eq_true,List.any_eq_false];intro z hz;have:=h2 r ac z hz
   grind[yK]
theorem KR(h1:RW r<=64)(h2:∀z∈r,z.natAbs<=1000000000):mN r=0:=by
 unfold mN;rw[iN];rintro(h|h)
 .omega
 grind[vV]
theorem Su{n:Nat}(hn:n<=64):∀{m:Mz},(∀r∈m,RW r=n)->(∀r∈m,∀z∈r,z.natAbs<=1000000000)->qF n m=0
 |[],_,_=>rfl
 | r::q,h1,h2=>by
  have hr:=h1 r ac;simp only[qF];rw[KR aa (h2 r ac),iN au,iN aa];exact Su hn (λx hx=>h1 x ae) λx hx=>h2 x ae
theorem UZ(hn:n<=12)(hm:RW m<=12)(h1:∀r∈m,RW r=n)(h2:∀r∈m,∀z∈r,z.natAbs<=1000000000):qN n m=0:=by unfold qN;rw[iN aa,iN aa];exact Su aa h1 h2
theorem L3(hn:n<=12)(H:uM n m)(hb:dy (10^9) m):sy n m=0:=by
 have hl:=VK H;have hr:=VJ H;have hz:=Ou hb;have hz':∀r∈m,∀z∈r,z.natAbs<=1000000000:=λr hr z hzz=>hz r hr z hzz
 unfold sy;rw[UZ hn aa hr hz',iN au,ip];unfold qP
 have t0:pL m=0:=by
  unfold pL;rw[iN aa];refine P0 ?_ (λr hr'=>?_) hz'
  .cases m with
   |nil=>simp[nth]
   |cons x q=>have:=hr x ac;grind[nth]
  .rw[hr r hr'];cases m with
   |nil=>cases hr'
   |cons x q=>have:=hr x ac;grind[nth]
 have⟨L,H⟩:=H;rw[t0,VN H m [] (-1) rfl (λi _ _=>by omega)];rfl
def iP(N:Nat)(r0 o:Nat×Bk)(l:List af):Hp:=r0::o::ah::fT l::(l.map af.k++So (N-RW l) ah)
theorem Li{r0 o:Nat×Bk}(h:RW l<=N):RW (iP N r0 o l)=N+4:=by grind[iP]
theorem Tl{r0 o:Nat×Bk}(h:RW l<=12):iP 12 r0 o l++So 14 ah=iP 26 r0 o l:=by simp only[iP,List.cons_append,List.append_assoc,List.replicate_append_replicate];rw[show 12-RW l+14=26-RW l by omega]
theorem ah0{r0 o:Nat×Bk}(h:RW l<=12):(iP 26 r0 o l).take 16=iP 12 r0 o l:=by rw[<-Tl h,X6 (by rw[Li h])]
section
variable{r0:Nat×Bk}(hr0:cg 16 r0.2=Th)
include hr0
theorem GH{o:Nat×Bk}(ho:cg 16 o.2=Th)(hl:∀R∈l,R.s<16):((iP N r0 o l).all λx=>cg 16 x.2)=Th:=by simp only[iP,List.all_cons,Yn,ho,hr0,FY,AT,X7,X9];exact Bool.and_eq_true_iff.2 ⟨rfl,Do hl⟩
theorem Ui{m:cM}(hm:RW m<=12)(hr:∀r∈m,RW r<1000000)(hz:∀r∈m,∀z∈r,-9223372036854775808<z∧z<9223372036854775808)(h0:Hp)(K:KL) :
  ∀(q a:cM)(o:Nat×Bk),m=a++q->o=mO ah (cO Th 4 a)->K (.exit 0) [ju 3 (cO Th 4 m)] (iP 26 r0 (mO ah (cO Th 4 m)) (cO Th 4 m)) ->
  lp (Hq DA 16 (bh m) (I (RW m))) [] h0 [ju 3 (cO Th 4 a),I (RW a)] (iP 26 r0 o (cO Th 4 a)) K
 | [],a,o,e,hu,hK=>by
  simp[Zn]at e;subst e;apply aL;simp only[Hq];have PJ:¬((RW m:Int)<(RW m:Int)):=aa
  simp_all
 | r::q,a,o,e,hu,hK=>by
  apply aL;have PJ:((RW a:Int)<(RW m:Int)):=by rw[e];simp;omega
  have hl:RW a<RW m:=aa;have hrm:r∈m:=by rw[e];simp
  have⟨H,hH⟩:=bD (iP 26 r0 o (cO Th 4 a));have i1:bq H 1 (bh m) (I (RW a))=Wf (.dptr (m.map row) (RW a)):=by rw[e];exact uh row a r q _ _
  have i2:ld1 H (.dptr (m.map row) (RW a))=Wf (ai di r):=by
   rw[nr row m _ hl];simp only[e,Zf (Z8 _),Y7,Y8];rfl
  have Rg:RW H=30:=by rw[hH,Li dE]
  have hu1:(H.all λx=>cg (RW H) x.2)=Th:=by
   rw[Rg];refine Cn (b:=16) aa ?_;rw[hH];have hlt16:∀R∈cO Th 4 a,R.s<16:=λR hR=>by have:=yl Th 4 a R hR;omega
   exact GH hr0 (by rw[hu];exact GB rfl hlt16) hlt16
  rw[<-hH];simp only[Hq];simp[PJ,i1,i2]
  have g1:H[RW a+4]?=Wf ah:=by
   rw[hH];simp only[iP,List.getElem?_cons_succ];rw[List.getElem?_append_right ac,List.getElem?_replicate,ip dE]
  refine ql (RW a+4) ?_;refine jQ (LK (Rd.data _ r) (hz r hrm) (hr r hrm) hu1) g1 ?_;have⟨R,hR⟩:∃R:af,R=⟨RW a+4,1,[],[],true,RW r,r⟩:=⟨_,rfl⟩;have v1:V.ref (RW a+4) (0+1) 0 (RW r) (RW r) (RW (r.map sI))=R.v:=by rw[hR];simp[af.v,af.tot]
  have k1:((0+1,Bk.data 1 (r.map sI) Th SM):Nat×Bk)=R.k:=by rw[hR];simp[af.k]
  have e1:H.set (RW a+4) R.k=r0::o::ah::fT (cO Th 4 a)::((cO Th 4 a++[R]).map af.k++So (26-RW (cO Th 4 a++[R])) ah):=by
   rw[hH];simp only[iP,List.set_cons_succ];rw[Yy _ _ ac];simp only[List.length_map,G8,Y7,Yt,List.length_append,List.append_assoc,Zv,Yp,List.length_cons,List.length_nil];rw[show 26-RW a=(26-(RW a+1))+1 by omega,List.replicate_succ,List.set_cons_zero];rfl
  have l2:cO Th 4 (a++[r])=cO Th 4 a++[R]:=by rw[LV,hR]
  rw[v1,k1,e1,<-l2];simp;refine ql 1 ?_;simp;refine G0 (e:=o.1) (b:=o.2) rfl (v:=R.v) rfl ?_;simp;refine ql 3 ?_;simp;refine(G3 (l:=cO Th 4 a) (R:=R) dE (by simp[qu,aH]) rfl ?_);rw[<-l2];have ih:=Ui hm hr hz h0 K q (a++[r]) (o.1+1,.vars [R.v]) (by simp[e]) (by rw[l2,S6,hu]) hK
  have e2:(RW (a++[r]):Int)=(RW a:Int)+1:=ac;rw[e2]at ih;simp(disch:=try exact cj);apply lo;have e3:26-RW (cO Th 4 (a++[r]))=25-RW a:=ac
  grind[iP.eq_1,kh]
theorem aiZ{m:cM}(hm:RW m<=12)(hr:∀r∈m,RW r<1000000)(hz:∀r∈m,∀z∈r,-9223372036854775808<z∧z<9223372036854775808):
  CI Y F.p6 [bh m] (iP 12 r0 ah []) (ju 3 (cO Th 4 m)) (iP 12 r0 (mO ah (cO Th 4 m)) (cO Th 4 m)):=by
 apply ajN;have hl:RW (iP 12 r0 ah [])=16:=rfl;have l1:bf (bh m)=Wf (I (RW m)):=rfl;have hlt16:∀R∈cO Th 4 m,R.s<16:=λR hR=>by have:=yl Th 4 m R hR;omega
 rw[hl];simp only[p6];rw[Tl ac];simp[l1];refine lo (Ui hr0 hm hr hz _ _ m [] ah rfl rfl ?_);simp;refine⟨by rw[ah0 dE],GH hr0 (GB rfl hlt16) hlt16,.inl ⟨rfl,?_⟩⟩;unfold ju;split
 .rfl
 rfl
end
theorem agq{so eo:Nat}{h:Hp}{m:List af}(hs:h[so]?=Wf (eo,.vars (m.map af.v)))(hr:∀R∈m,vU h R)(hc:∀R∈m,RW R.r<=R.cap)(h0:m≠[])(ho:o<=RW m):
  ∃h1,bW h (.ref so eo 0 o (RW m) (RW m))=Wf (kU ((m.map af.r).take o),h1)∧∀(s e:Nat)(vs:bA),s≠so->h[s]?=Wf (e,Bk.vars vs)->h1[s]?=Wf (e,Bk.vars vs):=by
 have⟨h1,e1,v1⟩:=Jz m h hr hc;have g1:=v1 _ _ _ hs;have g0:aH h so eo=.vars (m.map af.v):=by simp[aH,hs]
 have hd:wN (m.map af.v)=Vc:=by
  cases m with
  |nil=>trivial
  |cons R m=>rfl
 refine⟨bP h1 so eo (.data 1 (m.map λR=>jX R.r) SM Th),?_,λs e vs MT hg=>?_⟩
 .have t1:dS h (.ref so eo 0 o (RW m) (RW m))=Vc:=by simp[dS,g0,hd]
  have t2:xj h (.ref so eo 0 o (RW m) (RW m))=Wf (.sl o ((m.map λR=>jX R.r).take o),bP h1 so eo (.data 1 (m.map λR=>jX R.r) SM Th)):=by
   simp only[xj,g0,e1];have:aH h1 so eo=.vars (m.map af.v):=by simp[aH,g1]
   simp only[this];rw[ip ae];simp
  simp_all[bW,kU,ai,Function.comp_def]
 grind[bP.eq_1]
theorem aj9{n Bd f o':Nat}{m z':Mz}(hB:Bd<=100000)(h0:0<n)(hn:n<=12)(hl:qN n m=0)(hm:RW m<=12)(hr:∀r∈m,RW r=n)(hz:∀r∈m,∀z∈r,-9223372036854775808<z∧z<9223372036854775808)
  (hf:mU Bd f n m=Wf (o',z')) (ho:jD n (z'.take o')):Ds F.Bi [I n,bh m] (.tup [iI n (z'.take o'),I 0]):=by
 apply aj3;simp only[Bi];simp;have hrl:∀r∈m,RW r<1000000:=λr hr'=>by grind
 have ck:=UY (n:=n) (m:=m) aa hrl;rw[hl]at ck;refine cd ck ?_ aN;have⟨r0,hr0⟩:∃r0:Nat×Bk,r0=(1,.vars [I 0,jO]):=⟨_,rfl⟩;have u0:cg 16 r0.2=Th:=by rw[hr0];rfl
 have hH:([(1,Bk.vars [V.d (D.int IntKind.i64 0),V.d aR]),(0,Bk.none),(0,Bk.none),(0,Bk.none),(0,Bk.none),(0,Bk.none),(0,Bk.none),(0,Bk.none),(0,Bk.none),(0,Bk.none),(0,Bk.none),(0,Bk.none),(0,Bk.none),(0,Bk.none),(0,Bk.none),(0,Bk.none)]:Hp)=iP 12 r0 ah []:=by rw[hr0];rfl
 have c1:=aiZ u0 hm hrl hz;have ok1:okV (bh (z'.take o'))=Th:=rfl;have c3:=LI (m:=z'.take o') (n:=n) (by grind[jD.ml]) (λr hr'=>by grind[jD.rl]) ho.sm;simp;rw[hH];by_cases hm0:m=[]
 .subst hm0
  have hz0:z'=[]:=by
   have hfm:=(HP (n:=n) (λi hi=>by simp at hi) hf).2.2;exact Zo hfm
  subst hz0;rw[List.take_nil]at c3 ⊢;have c1':CI Y F.p6 [bh []] (iP 12 r0 ah []) jO (iP 12 r0 ah []):=c1;refine gJ c1' ?_ ac;refine gJ (UI (h:=iP 12 r0 ah []) (n:=n) ?_) ?_ ac
  .exact GH (N:=12) u0 rfl (λR hR=>by cases hR)
  refine za (ds:=[kU [],I n]) (h':=iP 12 r0 ah []) rfl c3 ?_;rw[hr0];simp[iI,ok1];exact⟨_,aN⟩
 .have⟨l,hll⟩:=bD (cO Th 4 m);have hln:RW l=RW m:=by rw[hll];simp
  have hl0:l≠[]:=λe=>hm0 ae
  have hlr:l.map af.r=m:=by rw[hll,LS]
  have hnth:∀i,i<RW l->nth af.z l i=⟨i+4,1,[],[],true,RW (nth [] m i),nth [] m i⟩:=λi hi=>by rw[hll,LU Th 4 _ i aa]
  have hnl:∀i,i<RW l->RW (nth [] m i)=n:=λi hi=>by rw[qK _ _ aa];grind
  have⟨o,hoo⟩:=bD (mO ah l)
  have uo:cg 16 o.2=Th:=by
   rw[hoo];exact GB rfl λR hR=>by rw[hll]at hR;have:=yl Th 4 m R hR;omega
  rw[<-hll,<-hoo]at c1;have⟨H,hHe⟩:=bD (iP 12 r0 o l);have hHl:RW H=16:=by rw[hHe,Li aa]
  have T:Tr (RW H) H H 3 (RW l) n l:=by
   refine⟨?_,λi hi=>?_,λi j hi hj hij=>?_,λi hi=>?_,λi hi=>?_,λ_ _ _=>rfl,aa,λi hi=>?_,?_,Z8 _,λs h1 h2=>by omega⟩
   .grind[iP,fT]
   .have h5:=G9 Th m 4 [r0,o,ah,fT l] (So (12-RW l) ah) rfl (nR l i) (by grind[ya]);rw[<-hll]at h5;rw[hHe];exact h5
   .grind
   .grind
   .grind
   .grind
   .rw[hHl,hHe];exact GH u0 uo λR hR=>by rw[hll]at hR;have:=yl Th 4 m R hR;omega
  have⟨m1,f1,f2⟩:=MV (hlr.symm▸hf);have⟨⟨⟨h1,T1,e1⟩,hQ⟩,q1,q2⟩:=MX (Q:=λR=>n<=R.cap∧4<=R.s) (λ_ _ h=>h) T (λi hi=>by rw[nR,hnth i hi];exact⟨ae,ac⟩) f1;have fo:=LX hB aa aa (Z8 _) T f1 T1 e1;have lv:ju 3 l=.ref 3 (RW l) 0 (RW l) (RW l) (RW l):=by rw[ju,iN hl0]
  rw[lv,<-hHe]at c1;refine gJ c1 ?_ ac;refine gJ fo ?_ ac;have hm1:m1≠[]:=λe=>hl0 ae
  have g0:h1[0]?=Wf (1,.vars [I 0,jO]):=by
   rw[T1.fr 0 aa (λi hi=>by grind),hHe,hr0];rfl
  have T1o:=T1.o;rw[<-q2]at T1o ⊢
  obtain ⟨h3,e3,v3⟩:=agq (o:=o') T1o (λR hR=>by
   obtain⟨i,hi,rfl⟩:=AY hR;exact⟨SM,T1.r i hi⟩) (λR hR=>by
   grind[AY,Tr.ln]) hm1 aa
  rw[f2]at e3;have g3:=v3 0 1 _ aa g0
  have hs3:∀c w:V,okV c=Th->okV w=Th->st h3 2 (.ptr 0 1 0 2) (.agg [c,w])=Wf (h3.set 0 (1,.vars [c,w])):=λc w hc hw=>by
   grind[st,jj,aH,bP]
  have h3l:0<RW h3:=(List.getElem?_eq_some_iff.1 g3).1
  have hl3:∀c w:V,aG (h3.set 0 (1,.vars [c,w])) 2 (.ptr 0 1 0 2)=Wf (.agg [c,w]):=λc w=>by
   simp[aG,aH,List.getElem?_set_self h3l]
  have sI:∀h:Hp,bW h (I n)=Wf (I n,h):=λh=>rfl
  refine za (ds:=[kU (z'.take o'),I n]) (h':=h3) (by grind[bY]) c3 ?_;have hs4:=hs3 (I n) (bh (z'.take o')) rfl ok1;have hl4:=hl3 (I n) (bh (z'.take o'));rw[show(if fk (V.tup [iI n (z'.take o'),I 0])=Th then h1 else h3)=h3 from rfl];simp only[iI];simp[hs4,hl4];exact⟨_,aN⟩
abbrev I4:=Int×Int×Int×Int
def gQ(x:I4):bF:=[.int .i8 x.1,.int .i8 x.2.1,.int .i8 x.2.2.1,.int .i8 x.2.2.2]
theorem VD(x:I4):RW (gQ x)=4:=rfl
def HJ(x:I4):aw:=[x.1,x.2.1,x.2.2.1,x.2.2.2]
def lJ(x:I4):Prop:=(-128<=x.1∧x.1<=127)∧(-128<=x.2.1∧x.2.1<=127)∧(-128<=x.2.2.1∧x.2.2.1<=127)∧(-128<=x.2.2.2∧x.2.2.2<=127)
def eU(p:aw)(x:I4):Rw:=gH (RW p) (HJ x)
theorem aoY{p:aw}{g w c:Mz}{f:Nat}(hp:d8 p=0)(h0:0<RW p)(h4:RW p<=4)(hm:RW m<=3)(hr:∀r∈m,RW r=RW p)(hz:∀r∈m,∀z∈r,z.natAbs<=9)(hE:E<=10^9)(R:OP E (RW p) m g w c f)(Ok:Bool):
  Ds F.Aq [ai di p,bh m,B Ok] (.tup [jT p (if Ok=Th then w else c) (if Ok=Th then c else w),I 0]):=by
 apply af8;have⟨o,g',hf,hg⟩:=R.g0;have lg:jD (RW p) g:=Dm h0 aa R.hg R.bg;have lw:jD (RW p) w:=Dm h0 aa R.hw (R.bw.mono hE);have lc:jD (RW p) c:=Dm h0 aa R.hc (R.bc.mono au)
 have c1:=aj9 (n:=RW p) (m:=m) (Z8 100000) h0 aa (UZ aa aa hr λr hr' z hz'=>by grind) aa hr (λr hr' z hz'=>by grind) hf ae;rw[hg]at c1;have hlc:=L3 aa R.hg R.bg;have c2:=T8 (Z8 100000) hlc lg R.gw lw.rl (by grind[jD.ml]) R.wc lc;have c3:=U3 (Z8 100000) hlc lg R.gw lw
 have cp:=AG (p:=p) aa;rw[hp]at cp;have l1:bf (ai di p)=Wf (I (RW p)):=rfl;have ok1:∀m:Mz,okV (bh m)=Th:=λ_=>rfl
 have ok2:okV (ai di p)=Th:=rfl;simp[iI]at c1 c2 c3;simp only[Aq];simp;refine cd cp ?_;simp[l1];refine cd c1 ?_ aN;simp[ok1];refine cd c2 ?_ aN;simp[ok1];refine cd c3 ?_ aN;simp[ok1];cases Ok with
 | false=>
  apply cx;simp[ok1,ok2];exact⟨_,aN⟩
 | true=>
  apply cx;simp[ok1,ok2];exact⟨_,aN⟩
theorem TY{p:aw}{e:List I4}{kk:Nat}{Ok:Bool}(he:RW e<=3)(hb:∀x∈e,lJ x)(hp:RW p<=4)(b1 b3:Nat×Bk)(h0:Hp)(K:KL):∀(q a:List I4),e=a++q ->
  K (.exit 0) [(bz 2).v (RW e) (e.map λx=>row (eU p x))] [(1,.vars [.d (.int .u8 kk),de gQ e,B Ok]),b1,(bz 2).b (RW e) (e.map λx=>row (eU p x)),b3] ->
  lp (FL DA (.ptr 0 1 0 3) (ai di p)) [] h0 [(bz 2).v (RW a) (a.map λx=>row (eU p x)),I (RW a)] [(1,.vars [.d (.int .u8 kk),de gQ e,B Ok]),b1,(bz 2).b (RW a) (a.map λx=>row (eU p x)),b3] K
 | [],a,e1,hK=>by
  simp[Zn]at e1;subst e1;apply aL;have PJ:¬((RW e:Int)<(RW e:Int)):=aa;have l1:bf (de gQ e)=Wf (I (RW e)):=rfl;simp only[FL];simp[PJ,l1];exact hK
 | x::q,a,e1,hK=>by
  apply aL;have PJ:((RW a:Int)<(RW e:Int)):=by rw[e1];simp;omega
  have h3:((RW a:Int)<3):=aa;have DQ:RW a<RW e:=aa;have hx2:nth (0,0,0,0) e (RW a)=x:=by rw[qK _ _ DQ];simp[e1]
  have hm:=hb x ae;have io:Ds F.tP [ai di p,.agg [eA x.1,eA x.2.1,eA x.2.2.1,eA x.2.2.2]] (ai di (eU p x)):=abp hm.1 hm.2.1 hm.2.2.1 hm.2.2.2 hp;have l1:bf (de gQ e)=Wf (I (RW e)):=rfl;have i1:=λh=>kX gQ VD e h (k:=.i64) (i:=(RW a:Int)) aa aa
  have i2:=λh=>kV gQ VD (0,0,0,0) e h (j:=RW a) DQ
  rw[hx2]at i2;simp[Int.toNat_natCast]at i1;have i2':∀h,aG h 4 (.dptr (e.flatMap gQ) (RW a*4))=Wf (.agg [eA x.1,eA x.2.1,eA x.2.2.1,eA x.2.2.2]):=i2;have⟨H,hH⟩:∃H:Hp,H=[(1,.vars [.d (.int .u8 kk),de gQ e,B Ok]),b1,(bz 2).b (RW a) (a.map λx=>row (eU p x)),b3]:=⟨_,rfl⟩;have g1:iR H 0 1=.vars [.d (.int .u8 kk),de gQ e,B Ok]:=by rw[hH];rfl
  have li1:cL 1 [aR] [(0,ai di (eU p x))] H=Wf ([row (eU p x)],H):=wh ..;have sn:bY H [ai di p,.agg [eA x.1,eA x.2.1,eA x.2.2.1,eA x.2.2.2]]=Wf ([ai di p,.agg [eA x.1,eA x.2.1,eA x.2.2.1,eA x.2.2.2]],H):=by simp[bY,bW,eA]
  rw[<-hH];simp only[FL];simp[PJ,h3,l1,g1,i1,i2'];refine cd io ?_ sn;simp[li1];refine mG (bz 2) (Nd:=24) (k:=1) (cs:=[row (eU p x)]) aa (by rw[hH];rfl) (by simp[bz]) aN rfl ae aa (by simp[bz]) ?_
  have hs:H.set (bz 2).s ((bz 2).b (RW a+1) ((a.map λx=>row (eU p x))++[row (eU p x)]))=[(1,.vars [.d (.int .u8 kk),de gQ e,B Ok]),b1,(bz 2).b (RW a+1) ((a.map λx=>row (eU p x))++[row (eU p x)]),b3]:=by rw[hH];rfl
  rw[hs];have ih:=TY (kk:=kk) (Ok:=Ok) he hb hp b1 b3 h0 K q (a++[x]) ae hK;have e4:(RW (a++[x]):Int)=(RW a:Int)+1:=ac;rw[e4,Yt,List.length_append]at ih;simp(disch:=try exact cj)
  simp_all[kh]
theorem aiQ{k:Nat}{e:List I4}{Ok:Bool}{E:Nat}{g w c:Mz}{f:Nat}(hk:k<256)(he:RW e<=3)(hb:∀x∈e,lJ x)(hE:E<=10^9)(R:OP E (RW (fP k)) (e.map (eU (fP k))) g w c f) :
  Ds F.tO [.agg [.d (.int .u8 k),de gQ e,B Ok]] (jT (fP k) (if Ok=Th then w else c) (if Ok=Th then c else w)):=by
 apply af9;have⟨p1,p2,p3,p4,p5⟩:=K5 _ (K6 k);have⟨p,hp⟩:=bD (fP k);have pk:=ag6 hk;rw[<-hp]at p1 p2 p3 p4 p5 R pk ⊢
 have bu:=aoY p1 p3 p4 ae (λr hr=>by
  obtain⟨x,_,rfl⟩:=Zw.1 hr
  grind[eU,gH,HJ]) (λr hr z hz=>by
  grind[eU,gH]) hE R Ok
 have⟨C,hC⟩:=bD (if Ok=Th then w else c)
 have⟨W,hW⟩:=bD (if Ok=Th then c else w)
 rw[<-hC,<-hW]at bu ⊢;have em:bh (e.map (eU p))=.d (.sl (RW e) (e.map λx=>row (eU p x))):=by simp[ai,Function.comp_def]
 have ok1:∀m:Mz,okV (bh m)=Th:=λ_=>rfl
 have ok2:okV (ai di p)=Th:=rfl;have ok3:okV (de gQ e)=Th:=rfl;simp[jT]at bu;simp only[tO];simp[ok3];refine cd pk ?_;simp;refine lo (TY (kk:=k) (Ok:=Ok) he hb p4 _ _ _ _ e [] rfl ?_);simp
 have⟨h',e1,hh⟩:=oC (bz 2) (L:=RW e) (cells:=e.map λx=>row (eU p x)) (h:=[(1,.vars [.d (.int .u8 k),de gQ e,B Ok]),(1,.vars [.d aR,.d aR,.d aR]),(bz 2).b (RW e) (e.map λx=>row (eU p x)),ah]) rfl (by simp[bz])
 obtain ⟨x,hx⟩:∃x,h'=[(1,.vars [.d (.int .u8 k),de gQ e,B Ok]),(1,.vars [.d aR,.d aR,.d aR]),x,ah]:=by
  rcases hh with⟨_,hh⟩|⟨_,hh⟩
  .grind
  .exact⟨_,hh⟩
 rw[<-em]at e1;have sp:∀h:Hp,bW h (ai di p)=Wf (ai di p,h):=λh=>rfl
 have sb:∀h:Hp,bW h (B Ok)=Wf (B Ok,h):=λh=>rfl
 refine za (ds:=[ai di p,bh (e.map (eU p)),B Ok]) (h':=h') (by simp_all[bY]) bu ?_;rw[show ∀h:Hp,(if fk (V.tup [V.agg [ai di p,bh C,bh W],I 0])=Th then h else h')=h' from λ_=>rfl,hx];simp[ok1,ok2];exact⟨_,aN⟩
structure abm(p:aw)(C W:Mz):Prop where
 t:w7 p C W
 hw:uM (RW p) W
 hc:uM (RW p) C
 bw:RW W=2->dy 157464 W
theorem ahk(hE6:10^6<=E)(hE:E<=10^9)(h1:∀m:Mz,RW m<=3->dy 9 m->abo E m){e:List I4}(hk:k<256)(he:RW e<=3)(hb:∀x∈e,lJ x):
  ∃C W,Ds F.tO [.agg [.d (.int .u8 k),de gQ e,B Ok]] (jT (fP k) C W)∧abm (fP k) C W∧dy E W:=by
 have⟨p1,p2,p3,p4,p5⟩:=K5 _ (K6 k);have Rg:∀y:I4,RW (eU (fP k) y)=RW (fP k):=λy=>by grind[eU,gH,HJ]
 have hsm:∀(y:I4),∀z∈eU (fP k) y,z.natAbs<=9:=λy z hz=>by
  grind[eU,gH]
 have bd:dy 9 (e.map (eU (fP k))):=λi j=>by
  by_cases hi:i<RW (e.map (eU (fP k)))
  .by_cases hj:j<RW (fP k)
   .have hel:nth [] (e.map (eU (fP k))) i=eU (fP k) (e[i]'(by grind)):=by rw[qK _ _ hi,List.getElem_map]
    grind[Db]
   .rw[Pf (n:=RW (fP k)) (λi hi=>by grind[qK]) aa];simp
  .rw[AS aa];simp
 obtain ⟨g,w,c,f,R⟩:=aj7 (n:=RW (fP k)) (m:=e.map (eU (fP k))) hE6 hE (h1 _ (by simpa using he) bd) p4 ae (λi hi=>by
  grind[qK]) bd
 have lw:jD (RW (fP k)) w:=Dm p3 aa R.hw (R.bw.mono hE);have lc:jD (RW (fP k)) c:=Dm p3 aa R.hc (R.bc.mono au);refine⟨_,_,aiQ (Ok:=Ok) hk he hb hE R,?_⟩;cases Ok with
 |false=>exact⟨⟨⟨p1,lc,lw,L3 aa R.hc (R.bc.mono au),100000,f,Z8 _,R.cw,R.wc⟩,R.hw,R.hc,R.sw⟩,R.bw⟩
 |true=>exact⟨⟨⟨p1,lw,lc,L3 aa R.hw (R.bw.mono hE),100000,f,Z8 _,R.wc,R.cw⟩,R.hc,R.hw,R.sc⟩,R.bc.mono hE6⟩
section
variable{p:aw}{c w:Mz}
end
theorem XS{A E:Nat}:∀{x v:aw},(∀z∈x,z.natAbs<=A)->(∀z∈v,z.natAbs<=E)->(lU x v).natAbs<=RW x*(A*E)
 |[],v,_,_=>by simp[lU]
 |a::x,[],_,_=>by simp[lU]
 | a::x,b::v,hx,hv=>by
  have ih:=XS (x:=x) (v:=v) (λz hz=>hx z ae) λz hz=>hv z ae
  have h1:=Xz (a*b) (lU x v);rw[Zl]at h1;have h2:=Zr (hx a ac) (hv b ac)
  grind[lU,Nat.add_mul]
section
variable{p:aw}{c w:Mz}
end
theorem alX{e:List I4}:Ds F.xI [.agg [.d (.int .u8 k),de gQ e,B Ok]] (B (decide (RW e<=3))):=by
 apply aga;have l1:bf (de gQ e)=Wf (I (RW e)):=rfl;have ok3:okV (de gQ e)=Th:=rfl;by_cases h:RW e<=3
 .have h':(RW e:Int)<=3:=aa;simp only[xI];simp[l1,ok3,h']
  simp_all
 .have h':¬(RW e:Int)<=3:=aa;simp only[xI];simp[l1,ok3,h']
  grind[eG]
theorem aiq{p x:aw}(hp:d8 p=0)(hl:RW x=RW p)(hx:∀z∈x,z.natAbs<=10):oc p [x]=0:=by
 have hs:nV x=Th:=by
  unfold nV;rw[Zz];intro z hz;have:=hx z hz;simp[Z7,dT];omega
 grind[oc,tX]
section
variable{p:aw}{c w:Mz}
end
theorem alJ(x:Q):Ds F.BA [.agg (qT x)] (.agg (qT ((x.1.natAbs:Nat),x.2))):=by
 apply alC;have ab:=B6 x.1;have e:itoa ((x.1.natAbs:Nat):Int)=aA x.1.natAbs:=by simp[itoa]
 have eq1:qT ((x.1.natAbs:Nat),x.2)=[S (aA x.1.natAbs),S (aA x.2)]:=by simp only[qT,e]
 rw[eq1];simp[BA,qT];refine cd ab ?_;simp;simp[nh]
def SL(e:List (Int×Nat)):Prop:=RW e=4∧∀x∈e,(-128<=x.1∧x.1<=127)∧x.2<256
theorem four{e:List (Int×Nat)}(he:RW e=4):∃a b c d,e=[a,b,c,d]:=by
 match e,he with
 |[a,b,c,d],_=>exact⟨a,b,c,d,rfl⟩
def fO(k:Nat)(e:List I4)(Ok:Bool)(gs:List (List (Int×Nat))):bA:=[.d (.int .u8 k),de gQ e,B Ok]++gs.flatMap nY
def qe(gs:List (List (Int×Nat))):Prop:=RW gs=4∧∀g∈gs,SL g
def oi(n:Nat)(gs:List (List (Int×Nat)))(m:Nat):List (List Q):=(List.range m).map λi=>m6 n (nth [] gs (i%4))
theorem alf(n:Nat)(gs:List (List (Int×Nat)))(m:Nat):oi n gs (m+1)=oi n gs m++[m6 n (nth [] gs (m%4))]:=by simp[oi,Wu]
theorem MO(n:Nat)(gs:List (List (Int×Nat)))(m:Nat):RW (oi n gs m)=m:=by simp[oi]
theorem Gm{g:List (Int×Nat)}(h:RW g=4):RW (nY g)=8:=by obtain⟨a,b,c,d,rfl⟩:=four h;rfl
theorem AI{e:List I4}(h:qe gs):RW (fO k e Ok gs)=35:=by
 have⟨h4,ho⟩:=h
 match gs,h4 with
 | [a,b,c,d],_=>
  simp only[fO,Xy,List.flatMap_nil,List.length_append,Gm (ho a ac).1,Gm (ho b ac).1,Gm (ho c ac).1,Gm (ho d ac).1];rfl
theorem aho{e:List I4}(h:qe gs)(hj:j<4):cut (fO k e Ok gs) (3+j*8) 8=Wf (nY (nth [] gs j)):=by
 have⟨h4,ho⟩:=h
 match gs,h4 with
 | [a,b,c,d],_=>
  obtain⟨a0,a1,a2,a3,rfl⟩:=four (ho a ac).1;obtain⟨b0,b1,b2,b3,rfl⟩:=four (ho b ac).1;obtain⟨c0,c1,c2,c3,rfl⟩:=four (ho c ac).1;obtain⟨d0,d1,d2,d3,rfl⟩:=four (ho d ac).1;have:j=0∨j=1∨j=2∨j=3:=aa;rcases this with rfl|rfl|rfl|rfl<;>rfl
theorem WT{e:List I4}(h:qe gs):Ds F.xH [.agg (fO k e Ok gs)] (B (decide (RW e<=3))):=by
 apply af7;have fi:=alX (k:=k) (e:=e) (Ok:=Ok);have ok3:okV (de gQ e)=Th:=rfl;have hl:=AI (k:=k) (e:=e) (Ok:=Ok) h
 have hc:cut (fO k e Ok gs) 0 3=Wf [.d (.int .u8 k),de gQ e,B Ok]:=by
  rw[cut,ip aa];rfl
 simp only[xH];simp[hl,hc];refine cd (args:=[.agg [.d (.int .u8 k),de gQ e,B Ok]]) fi ?_ aN;simp
abbrev AX(A:bA)(p:aw)(C W:Mz)(v:V)(b:Nat×Bk):Hp:=[(1,.vars A),(1,.vars [jO,jO,jO,jO]),(1,.vars [ai di p,bh C,bh W]),(1,.vars [ai di p,bh C,bh W,v]),b]
theorem TS{k:Nat}{e:List I4}{Ok:Bool}{gs:List (List (Int×Nat))}(h:qe gs){p:aw}(h0:0<RW p)(h4:RW p<=4){C W:Mz}(hW:RW W<1000)(g0:Hp)(K:KL):∀(m i:Nat),i+m=RW W ->
  K (.exit 0) [] (AX (fO k e Ok gs) p C W ((bz 4).v (RW W) ((oi (RW p) gs (RW W)).map bQ)) ((bz 4).b (RW W) ((oi (RW p) gs (RW W)).map bQ))) ->
  lp (FK DA (.ptr 0 1 0 35) (.ptr 2 1 0 3) (.ptr 3 1 0 4)) [] g0 [I i] (AX (fO k e Ok gs) p C W ((bz 4).v i ((oi (RW p) gs i).map bQ)) ((bz 4).b i ((oi (RW p) gs i).map bQ))) K
 | 0,i,hi,hK=>by
  have e1:i=RW W:=aa;subst e1;have l1:bf (bh W)=Wf (I (RW W)):=rfl;apply aL;simp only[FK];simp[l1];exact hK
 | m+1,i,hi,hK=>by
  have PJ:((i:Int)<(RW W:Int)):=aa;have l1:bf (bh W)=Wf (I (RW W)):=rfl;have hl:=AI (k:=k) (e:=e) (Ok:=Ok) h;have hj:i%4<4:=Y5 _ au;have hc:=aho (k:=k) (e:=e) (Ok:=Ok) h hj;have⟨q4,qb⟩:=h.2 (nth [] gs (i%4)) (Db (by rw[h.1];exact hj));have mk:=aiR (p:=p) q4 qb h4 h0;have⟨j,hjj⟩:=bD (i%4)
  have er:(i:Int).tmod 4=(j:Int):=by rw[hjj];rfl
  have e4:((i+1:Nat):Int)=(i:Int)+1:=ac;have q4j:RW (nth [] gs j)=4:=by rw[hjj];exact q4
  have ih:=TS h h0 h4 hW g0 K m (i+1) aa hK;rw[e4,alf,Yt,<-hjj]at ih;rw[<-hjj]at hc mk hj;have⟨s,hs⟩:=bD (m6 (RW p) (nth [] gs j));rw[<-hs]at ih mk;have gl:=MO (RW p) gs i;generalize oi (RW p) gs i=G at *;apply aL;simp only[FK]
  have hli:∀H,cL 1 [aR] [(0,aW s)] H=Wf ([bQ s],H):=λH=>wh ..
  have i1:mT 4 8 (.ptr 0 1 3 35) (I (j:Int))=Wf (.ptr 0 1 (3+j*8) 35):=by simp[mT];omega
  have ht:((fO k e Ok gs).drop (3+j*8)).take 8=nY (nth [] gs j):=by
   rw[cut,ip aa]at hc;exact Option.some.inj hc
  have hj3:3+j*8<=27:=aa;have gl':RW (G.map bQ)=i:=by simp[gl]
  simp[PJ,l1,er,i1,hl,hj3,ht]
  have sn:∀h:Hp,bY h [ai di p,.agg (nY (nth [] gs j))]=Wf ([ai di p,.agg (nY (nth [] gs j))],h):=λh=>by
   have⟨a0,a1,a2,a3,e⟩:=four q4j;rw[e];rfl
  refine cd mk ?_ (sn _);simp[hli];refine mG (bz 4) (L:=i) (Nd:=24) (k:=1) (cells:=G.map bQ) (cs:=[bQ s]) aa rfl (by simp[bz,gl]) rfl rfl (by intro t ht;cases ht) aa (by simp[bz]) ?_
  have DB:∀y:V,okV y=Th->st (AX (fO k e Ok gs) p C W ((bz 4).v i (G.map bQ)) ((bz 4).b (i+1) (G.map bQ++[bQ s]))) 1 (.ptr 3 1 3 4) y=Wf (AX (fO k e Ok gs) p C W y ((bz 4).b (i+1) (G.map bQ++[bQ s]))):=λy hy=>by
   cases y<;>first|(simp[st,jj,aH,bP,hy];done)|cases hy
  have hs:∀b',(AX (fO k e Ok gs) p C W ((bz 4).v i (G.map bQ)) ((bz 4).b i (G.map bQ))).set (bz 4).s b'=AX (fO k e Ok gs) p C W ((bz 4).v i (G.map bQ)) b':=λb'=>rfl
  have hov:okV ((bz 4).v (i+1) (G.map bQ++[bQ s]))=Th:=rfl;rw[hs];simp(disch:=try exact cj)[DB _ hov];rw[kh];apply lo;simp only[Zv,Yp,Acc.v,Acc.b,List.length_append,List.length_map,List.length_singleton]at ih;exact ih
theorem aiP{k:Nat}{e:List I4}{Ok:Bool}{gs:List (List (Int×Nat))}(h:qe gs){p:aw}(h0:0<RW p)(h4:RW p<=4){C W:Mz}(hW:RW W<1000)(mk:Ds F.tO [.agg [.d (.int .u8 k),de gQ e,B Ok]] (jT p C W)) :
  Ds F.vF [.agg (fO k e Ok gs)] (cG p C W (oi (RW p) gs (RW W))):=by
 apply af6;have ok3:okV (de gQ e)=Th:=rfl;have hl:=AI (k:=k) (e:=e) (Ok:=Ok) h
 have hc:cut (fO k e Ok gs) 0 3=Wf [.d (.int .u8 k),de gQ e,B Ok]:=by
  rw[cut,ip aa];rfl
 have ok1:∀m:Mz,okV (bh m)=Th:=λ_=>rfl
 have ok2:okV (ai di p)=Th:=rfl;simp only[vF];simp[hl,hc];refine cd (args:=[.agg [.d (.int .u8 k),de gQ e,B Ok]]) mk ?_ aN;simp only[jT];simp[ok1,ok2];rw[hl];refine lo (TS h h0 h4 hW _ _ (RW W) 0 aa ?_);have gl:=MO (RW p) gs (RW W);generalize oi (RW p) gs (RW W)=G at *
 have hov:okV ((bz 4).v (RW W) (G.map bQ))=Th:=by
  cases (RW W)<;>rfl
 simp[ok1,ok2,hov];have⟨h',e1,_⟩:=oC (bz 4) (L:=RW W) (cells:=G.map bQ) (h:=[(1,Bk.vars (fO k e Ok gs)),(1,Bk.vars [ai di p,bh C,bh W,(bz 4).v (RW W) (G.map bQ)]),(1,Bk.vars [ai di p,bh C,bh W]),(1,Bk.vars [ai di p,bh C,bh W,(bz 4).v (RW W) (G.map bQ)]),(bz 4).b (RW W) (G.map bQ)]) rfl (by simp[bz,gl])
 have e5:∀(h:Hp)(r:aw),bW h (ai di r)=Wf (ai di r,h):=λh r=>rfl
 have e6:∀(h:Hp)(m:Mz),bW h (bh m)=Wf (bh m,h):=λh m=>rfl
 refine⟨h',?_⟩;simp only[bW,bY,e5,e6,e1,cG,bG];rw[<-gl];rfl
section
variable{p:aw}{c w w':Mz}{g:List (List Q)}{e:Int}
end
def mR(a:Int)(b:Nat):Q:=if(ia a b).1=0 then(1,1)else(((ia a b).1.natAbs:Nat),(ia a b).2)
def kS(p:aw)(x:I4)(a:Int)(b:Nat):Tg:=⟨eU p x,itoa (mR a b).1,aA (mR a b).2⟩
theorem afJ(z:Int):eS z=0↔z=0:=by
 unfold eS;by_cases h:z=0
 .simp[h]
 .simp only[h,iF];split<;>simp
theorem aiO{p:aw}{x:I4}{b:Nat}(h4:RW p<=4)(hx:lJ x)(ha : -128<=a∧a<=127)(hb:b<256):
  Ds F.An [ai di p,.agg [eA x.1,eA x.2.1,eA x.2.2.1,eA x.2.2.2,.d (.int .i8 a),.d (.int .u8 b)]] (.agg [ai di (kS p x a b).iv,S (kS p x a b).num,S (kS p x a b).den]):=by
 apply af1;have f1:=WE ha hb;have f2:=alJ (ia a b);have f3:=WG (((ia a b).1.natAbs:Nat),(ia a b).2);have io:Ds F.tP [ai di p,.agg [eA x.1,eA x.2.1,eA x.2.2.1,eA x.2.2.2]] (ai di (eU p x)):=abp hx.1 hx.2.1 hx.2.2.1 hx.2.2.2 h4;have pt:=CZ (n:=1) (d:=1) au au au au au
 rw[Ub]at pt;have ok1:∀m:aw,okV (ai di m)=Th:=λ_=>rfl
 have e3:eS ((((ia a b).1.natAbs:Nat):Int))=0↔(ia a b).1=0:=by rw[afJ];omega
 simp[qT]at f1 f2 f3 pt;simp[eA]at io ⊢;have sn:∀h:Hp,bY h [ai di p,.agg [.d (.int .i8 x.1),.d (.int .i8 x.2.1),.d (.int .i8 x.2.2.1),.d (.int .i8 x.2.2.2)]]=Wf ([ai di p,.agg [.d (.int .i8 x.1),.d (.int .i8 x.2.1),.d (.int .i8 x.2.2.1),.d (.int .i8 x.2.2.2)]],h):=λh=>by rfl
 simp only[An];simp;refine cd f1 ?_;simp;refine cd f2 ?_ aN;simp;refine cd f3 ?_ aN;simp;by_cases h0:(ia a b).1=0
 .have e4:=e3.2 h0;apply cx;simp[e4];refine cd pt ?_;simp;refine cd io ?_ (sn _);simp[ok1];rw[kS,mR,ip h0];exact⟨_,rfl⟩
 .have e4:¬eS (((ia a b).1.natAbs:Nat):Int)=0:=λh=>h0 (e3.1 h)
  apply cx;simp[e4];refine cd io ?_ (sn _);simp[ok1];rw[kS,mR,iN h0];exact⟨_,rfl⟩
section
variable{p:aw}{c w:Mz}
end
section
variable{p:aw}{c w:Mz}{g:List (List Q)}
theorem GI{f:Tg->List Q}{t:Tg}(hd:mZ p c w g f t):Ds F.tN [cG p c w g,.agg [ai di t.iv,S t.num,S t.den]] (aW (f t)):=by apply afU;have⟨a,b,h1,h2,h3⟩:=hd;simp only[tN,cG,bG];simp;refine cd (args:=[cG p c w g,ai di t.iv]) h1 ?_ aN;simp;refine cd h2 ?_ aN;simp;refine cd h3 ?_ aN;simp;exact⟨_,zQ _ _⟩
theorem ZT{x y:List Q}{n e:Int}(hc:Ds F.iM [ai di p,aW x,aW y] (.tup [I n,I e])):Ds F.xF [cG p c w g,aW x,aW y] (I n):=by apply af0;simp only[xF,cG,bG];simp;refine cd hc ?_ aN;simp
end
abbrev Mk:=I4×Int×Nat
def mf(m:Mk):bF:=[.int .i8 m.1.1,.int .i8 m.1.2.1,.int .i8 m.1.2.2.1,.int .i8 m.1.2.2.2,.int .i8 m.2.1,.int .u8 m.2.2]
def ye(m:Mk):Prop:=lJ m.1∧(-128<=m.2.1∧m.2.1<=127)∧m.2.2<256
def gm(p:aw)(l:List Mk):List Tg:=l.map λm=>kS p m.1 m.2.1 m.2.2
def Bb:Acc:=⟨0,0,3,.none⟩
def G7(l:List Tg):V:=Bb.v (RW l) (l.flatMap fh)
def Ba(l:List Tg):Nat×Bk:=Bb.b (RW l) (l.flatMap fh)
theorem TR(m:Mk):RW (mf m)=6:=rfl
theorem UB{p:aw}(h4:RW p<=4){l:List Mk}(h8:RW l<=8)(hm:∀m∈l,ye m)(h0:Hp)(K:KL):∀(q a:List Mk),l=a++q->K (.exit 0) [G7 (gm p l)] [Ba (gm p l)] ->
  lp (FJ DA (ai di p) (de mf l)) [] h0 [G7 (gm p a),I (RW a)] [Ba (gm p a)] K
 | [],a,e,hK=>by
  simp only[Zn]at e;subst e;apply aL;have PJ:¬((RW l:Int)<(RW l:Int)):=aa;simp only[FJ];simp[PJ];exact hK
 | m::q,a,e,hK=>by
  apply aL;have PJ:((RW a:Int)<(RW l:Int)):=by rw[e];simp;omega
  have hl8:((RW a:Int)<8):=aa;have p1:∀h:Hp,bq h 6 (de mf l) (I (RW a))=Wf (.dptr (l.flatMap mf) (RW a*6)):=λh=>kX mf TR _ h (k:=.i64) (i:=(RW a:Int)) aa PJ
  have p2:∀h:Hp,aG h 6 (.dptr (l.flatMap mf) (RW a*6))=Wf (.agg ((mf m).map .d)):=λh=>by
   have:=kV mf TR m l h (j:=RW a) aa
   simp_all
  have⟨k1,k2,k3⟩:=hm m ae;have mk:=aiO (p:=p) h4 k1 k2 k3;have ih:=UB h4 h8 hm h0 K q (a++[m]) ae hK;have e4:((RW (a++[m]):Nat):Int)=(RW a:Int)+1:=ac;have ll:RW (gm p a)=RW a:=by simp[gm]
  have⟨t,ht⟩:=bD (kS p m.1 m.2.1 m.2.2);have em:gm p (a++[m])=gm p a++[t]:=by simp[gm,ht]
  rw[<-ht]at mk;have ev:G7 (gm p a++[t])=Bb.v (RW (gm p a)+1) ((gm p a).flatMap fh++fh t):=by simp[G7]
  have eb:Ba (gm p a++[t])=Bb.b (RW (gm p a)+1) ((gm p a).flatMap fh++fh t):=by simp[Ba]
  rw[e4,em,ev,eb]at ih;have li:∀H:Hp,cL 1 [aR,.str [],.str []] [(0,.agg [ai di t.iv,S t.num,S t.den])] H=Wf (fh t,H):=λH=>rfl
  have⟨Z,hZ⟩:=bD (Ba (gm p a));simp only[FJ];rw[<-hZ];simp[PJ,hl8,p1,p2];refine cd mk ?_ aN;simp[li];refine mG Bb (L:=RW (gm p a)) (cells:=(gm p a).flatMap fh) (Nd:=56) (k:=1) (cs:=fh t) aa (by rw[hZ];rfl) (jy fh rL (gm p a)) rfl rfl ae aa au ?_
  have ea:aD BinOp.add (I (RW a:Int)) (V.d (D.int IntKind.i64 1))=Wf (I ((RW a:Int)+1)):=by simp(disch:=omega) []
  refine BV ea ⟨ac,?_⟩;rw[kh];exact ih
theorem aja{p:aw}(h4:RW p<=4){l:List Mk}(h8:RW l<=8)(hm:∀m∈l,ye m):Ds F.xG [ai di p,de mf l] (dL (gm p l)):=by apply af2;simp only[xG];simp;refine lo (UB h4 h8 hm _ _ l [] rfl ?_);simp;have:=OH Bb (L:=RW (gm p l)) (cells:=(gm p l).flatMap fh) (h:=[Ba (gm p l)]) rfl (jy fh rL (gm p l));exact this
section
variable{p:aw}{c w:Mz}{g:List (List Q)}
def oW(cm:Nat->Int)(z:ax):Nat->Nat
 |0=>0
 |k+1=>if 0<cm (nth 0 z k)then oW cm z k else k+1
theorem SX{f:Tg->List Q}{cq:List Q->List Q->Int}{l:List Tg}(hd:∀t∈l,mZ p c w g f t)(hq:∀t∈l,∀u∈l,∃e:Int,Ds F.iM [ai di p,aW (f t),aW (f u)] (.tup [I (cq (f t) (f u)),I e]))
  {a b:List Tg} {t:Tg} (el:l=a++t::b) {z:ax} (hzl:RW z<1000) (hz:∀i∈z,i<RW l) {o:V} {r:Hp} (ho:∀k,k<RW z->∃s e j n,bq ((1,.vars (bG p c w g))::r) 1 o (I k)=Wf (.ptr s e j n)∧ld1 ((1,.vars (bG p c w g))::r) (.ptr s e j n)=Wf (I ((nth 0 z k:Nat):Int))) (h0:Hp) (hr:RW h0=RW r+1) (K:KL):∀k,k<=RW z ->
  K (.exit 2) [I (oW (λy=>cq (f t) (f (nth fM l y))) z k)] ((1,.vars (bG p c w g))::r) ->
  lp (FH DA (dL l) (.ptr 0 1 0 4) o (I (RW a))) [] h0 [I k] ((1,.vars (bG p c w g))::r) K
 | 0,hk,hK=>by
  apply aL;simp only[FH];simp;exact hK
 | k+1,hk,hK=>by
  apply aL;have p1:=JE a b t;have p2:=JD a b t;rw[<-el]at p1 p2;have⟨s,e,j,n,o1,o2⟩:=ho k aa;have⟨y,ey⟩:=bD (nth 0 z k)
  have hy:y<RW l:=by
   rw[ey];refine hz _ ?_
   show z.getD k 0∈z
   simp only[List.getD,List.getElem?_eq_getElem (show k<RW z by omega),Option.getD_some];exact X2 _
  rw[<-ey]at o2;have⟨u,hu⟩:=bD (nth fM l y)
  have hum:u∈l:=by
   rw[hu]
   show l.getD y fM∈l
   simp only[List.getD,List.getElem?_eq_getElem hy,Option.getD_some];exact X2 _
  have htm:t∈l:=by rw[el];simp
  have p3:∀h:Hp,bq h 3 (dL l) (I (y:Nat))=Wf (.dptr (l.flatMap fh) (y*3)):=λh=>kX fh rL _ h (k:=.i64) (i:=(y:Int)) aa aa
  have p4:∀h:Hp,aG h 3 (.dptr (l.flatMap fh) (y*3))=Wf (.agg [ai di u.iv,S u.num,S u.den]):=λh=>by
   have:=kV fh rL fM l h (j:=y) hy;rw[<-hu]at this;exact this
  have⟨e',hc⟩:=hq t htm u hum;have cc:=ZT (c:=c) (w:=w) (g:=g) hc;simp only[oW,<-ey,<-hu]at hK;simp only[FH];have tl:RW (bG p c w g)=4:=rfl;have tt:(bG p c w g).take 4=bG p c w g:=rfl;have PJ:(0:Int)<(k:Int)+1:=aa;have em:(k:Int)+1-1=k:=aa;have o1':=GI (hd t htm);have o2':=GI (hd u hum);simp[p1,p2,tl,tt,PJ]
  refine cd (args:=[cG p c w g,.agg [ai di t.iv,S t.num,S t.den]]) o1' ?_ aN;simp(disch:=omega) [tl,tt,em,o1,o2,p3,p4];refine cd (args:=[cG p c w g,.agg [ai di u.iv,S u.num,S u.den]]) o2' ?_ aN;simp;refine cd (args:=[cG p c w g,aW (f t),aW (f u)]) cc ?_ aN;by_cases hk0:0<cq (f t) (f u)
  .rw[ip hk0]at hK;have ih:=SX hd hq el hzl hz ho h0 hr K k aa hK;simp(disch:=try exact cj)[hk0,em];trivial
  .rw[iN hk0]at hK;simp[hk0];trivial
end
def C5(e:Nat):Acc:=⟨3,e,1,.none⟩
def dN(i:Nat):D:=di i
def qI(e:Nat)(z:ax):V:=(C5 e).v (RW z) (z.map dN)
def sf(e:Nat)(z:ax):Nat×Bk:=(C5 e).b (RW z) (z.map dN)
def mA(z:ax)(k i:Nat):ax:=z.take k++i::z.drop k
theorem DJ(hk:k<=RW z):RW (mA z k i)=RW z+1:=by grind[mA]
theorem IX{s Nd s' e len cap tot:Nat}{x:V}{cs:bF}{h:Hp}(hy:cellsOf h (.ref s' e o len cap tot)=Wf (k,cs))(hc:RW cs=k*n)(hq:kG dr s n Nd x k cs h q):cX dr s n Nd x (.ref s' e o len cap tot) h q:=by grind[cX]
theorem C4(e:Nat)(h:0<RW z):qI e z=.ref 3 (e+1) 0 (RW z) (RW z) (RW z)∧sf e z=(e+1,.data 1 (z.map dN) SM SM):=by unfold qI sf;have⟨m,hm⟩:∃m,RW z=m+1:=⟨RW z-1,aa⟩;simp[Acc.v,Acc.b,hm,C5]
theorem ahG{t:Nat×Bk}{e:Nat}(hk:k<=RW z)(hz:RW z<1000)(hq:∀e' b1 b2,q (qI e' (mA z k i)) [t,b1,b2,sf e' (mA z k i)]):
  bnd (xx [t,ah,ah,sf e z] 1 (qI e z) Vc (Wf (I k)) (I k)) λv5=>kt 1 1 [.int .i64 0] [(0,I i)] [t,ah,ah,sf e z] λv6 h=>bnd (gU h 1 (qI e z) (Wf (I k)) Vc) λv7=>cX SM 2 1 8 v6 v7 h λv8 h=>cX SM 3 1 8 v5 v8 h q:=by
 have ls:∀(h:Hp)(b:Nat×Bk)(q:bH),h[1]?=Wf ah->q (.ref 1 1 0 1 1 1) (h.set 1 (1,.data 1 [dN i] Th SM))->kt 1 1 [.int .i64 0] [(0,I i)] h q:=λh b q hs hq=>by
  have e1:cL 1 [.int .i64 0] [(0,I (i:Int))] h=Wf ([dN i],h):=rfl
  simp_all
 cases z with
 | nil=>
  have k0:k=0:=by simpa using hk
  subst k0;have:=hq e (1,.data 1 [dN i] Th SM) ah;exact this
 | cons y z'=>
  have⟨z,hzz⟩:∃z,z=y::z':=⟨_,rfl⟩;rw[<-hzz]at hk hz hq ⊢;have⟨L,hL⟩:=bD (RW z);have hL0:0<L:=by rw[hL,hzz];simp
  have hk':=hk;rw[<-hL]at hk hz;have⟨v1,v2⟩:=C4 e (z:=z) aa;rw[v1,v2,<-hL];have lm:RW (z.map dN)=L:=by simp[hL]
  have hg:∀a b c:Nat×Bk,aH [a,b,c,(e+1,.data 1 (z.map dN) SM SM)] 3 (e+1)=.data 1 (z.map dN) SM SM:=λa b c=>by simp[aH]
  have s1:xx [t,ah,ah,(e+1,.data 1 (z.map dN) SM SM)] 1 (.ref 3 (e+1) 0 L L L) Vc (Wf (I k)) (I k)=Wf (.ref 3 (e+1) 0 k k L):=by
   simp[xx,hg,eD,hk',hL]
  have s2:∀b,gU [t,b,ah,(e+1,.data 1 (z.map dN) SM SM)] 1 (.ref 3 (e+1) 0 L L L) (Wf (I k)) Vc=Wf (.ref 3 (e+1) k (L-k) (L-k) L):=λb=>by
   grind[gU,eD]
  rw[s1,BU];refine ls _ ah _ rfl ?_;simp only[List.set_cons_succ,List.set_cons_zero];rw[s2,BU];by_cases hkL:k=L
  .subst hkL;refine IX (k:=0) (cs:=[]) ?_ rfl ?_
   .grind[cellsOf]
   unfold kG;rw[ip rfl]
   show if 1<=1 then _ else _
   rw[ip (Z8 _)];refine IX (k:=1) (cs:=[dN i]) aN aN ?_;have k1:¬k+1<=k:=aa;have k2:(k+1)*8<=140737488355328:=aa;have:=hq e (1,.data 1 [dN i] Th SM) ah;have⟨w1,w2⟩:=C4 e (z:=mA z k i) (by grind[DJ]);rw[w1,w2,DJ hk',<-hL]at this;have e1:mA z k i=z++[i]:=by simp[mA,hL]
   rw[e1]at this;unfold kG;rw[iN au];simp only[hg];rw[ip ⟨trivial,lm.symm,Z8 _,aa,rfl⟩,iN k1,ip k2];simp[lm,bP,hL]at this ⊢;rw[Zy ac];omega
  .have hkl:k<L:=aa;have lk:(L-k)=RW ((z.map dN).drop k):=by simp[hL]
   refine IX (k:=L-k) (cs:=(z.map dN).drop k) ?_ aa ?_
   .grind[cellsOf]
   have k0:¬L-k=0:=aa;have k1:¬1+(L-k)<=1:=aa;have k2:(1+(L-k))*8<=140737488355328:=aa;unfold kG;rw[iN k0];have hg1:aH [t,(1,.data 1 [dN i] Th SM),(0,Bk.none),(e+1,.data 1 (z.map dN) SM SM)] 1 1=.data 1 [dN i] Th SM:=rfl;simp only[hg1];rw[ip ⟨trivial,rfl,Z8 _,ac,aa⟩,iN k1,ip k2]
   have hn2:=λq':Nat->Hp->Prop=>show new [t,(1,.data 1 [dN i] Th SM),(0,Bk.none),(e+1,.data 1 (z.map dN) SM SM)] 2 (.data 1 (dN i::(z.map dN).drop k) SM SM) q'=q' 1 [t,(1,.data 1 [dN i] Th SM),(1,.data 1 (dN i::(z.map dN).drop k) SM SM),(e+1,.data 1 (z.map dN) SM SM)]from rfl
   simp only[iT,Y1,Yz,List.take_succ_cons,List.take_zero,List.cons_append,List.nil_append];rw[hn2];refine IX (k:=1+(L-k)) (cs:=dN i::(z.map dN).drop k) ?_ ae ?_
   .have e5:RW (dN i::(z.map dN).drop k)=1+(L-k):=by rw[List.length_cons,<-lk];omega
    simp only[cellsOf,aH];simp only[List.getElem?_cons_succ,List.getElem?_cons_zero,iT,Zh,Y1,e5,Z8,and_true,Yz];rw[Zy aa,<-lk];simp
   have k3:¬k+(1+(L-k))<=k:=aa;have k4:(k+(1+(L-k)))*8<=140737488355328:=aa;have:=hq (e+1) (1,.data 1 [dN i] Th SM) (1,.data 1 (dN i::(z.map dN).drop k) SM SM);have⟨w1,w2⟩:=C4 (e+1) (z:=mA z k i) (by grind[DJ]);rw[w1,w2,DJ hk',<-hL]at this;unfold kG;rw[iN aa];simp only[hg]
   rw[ip ⟨trivial,lm.symm,Z8 _,aa,ae⟩,iN k3,ip k4];simp only[Zg,iF,Bool.or_self];rw[iN aa,ip aa];have e2:(k*1+RW (dN i::(z.map dN).drop k))=L+1:=by simp;omega
   have e3:(z.map dN).take k++dN i::(z.map dN).drop k=(mA z k i).map dN:=by simp[mA]
   simp only[Y1,Yz]at e2 ⊢;rw[e2,e3,show k+(1+(L-k))=L+1 by omega];exact this
def lO(m:Ms):Nat:=m.i.toNat
theorem La(cm:Nat->Int)(z:ax):∀k,oW cm z k<=k
 |0=>Z8 _
 | k+1=>by
  have:=La cm z k
  grind[oW]
theorem SZ(cm:Nat->Int)(z w:ax):∀k,k<=RW z->oW cm (z++w) k=oW cm z k
 |0,_=>rfl
 | k+1,h=>by
  have e:nth 0 (z++w) k=nth 0 z k:=by simp[nth,List.getElem?_append_left (show k<RW z by omega)]
  rw[oW,oW,e,SZ cm z w k aa]
theorem akx{w:ax}(h:k<=RW z):mA (z++w) k i=mA z k i++w:=by grind[mA]
theorem Vs{cf:Ms->Ms->Int}{cm:Nat->Int}{x:Ms}:∀{S:List Ms},(∀y∈S,(cf x y<0↔0<cm (lO y)))->((inn cf x S).map lO).reverse=mA ((S.map lO).reverse) (oW cm ((S.map lO).reverse) (RW S)) (lO x)
 |[],_=>rfl
 | y::S,h=>by
  have ih:=Vs (x:=x) (S:=S) (λz hz=>h z ae);have hl:RW ((S.map lO).reverse)=RW S:=ac;have h1:=h y ac
  have e:nth 0 ((S.map lO).reverse++[lO y]) (RW S)=lO y:=by
   rw[<-hl];exact ah5 ..
  have lk:=La cm ((S.map lO).reverse) (RW S);rw[Zv,List.reverse_cons,List.length_cons,oW,e];unfold inn;by_cases hc:cf x y<0
  .rw[ip hc,ip (h1.1 hc),SZ _ _ _ _ aa,akx aa,Zv,List.reverse_cons,ih]
  grind[mA]
def jM(cq:List Q->List Q->Int)(f:Tg->List Q)(l:List Tg):ax:=((pf (λx y=>cq y.d x.d) [] (gF f 0 l)).map lO).reverse
theorem TL(f:Tg->List Q)(t:Tg):∀(a:List Tg)(i:Nat),gF f i (a++[t])=gF f i a++[⟨t,f t,((i+RW a:Nat):Int)⟩]
 |[],i=>by rfl
 | u::a,i=>by
  have:=TL f t a (i+1);simp only[List.cons_append,gF,this,List.length_cons];rw[show i+1+RW a=i+(RW a+1) by omega]
theorem Vv(cf:Ms->Ms->Int)(x:Ms):∀(q a:List Ms),pf cf a (q++[x])=inn cf x (pf cf a q)
 |[],a=>rfl
 |y::q,a=>by simp[List.cons_append,pf,Vv cf x q]
theorem Dj(f:Tg->List Q):∀(a:List Tg)(i:Nat),∀m∈gF f i a,∃j,j<RW a∧m.i=((i+j:Nat):Int)∧m.t=nth fM a j
 |[],_,m,hm=>by trivial
 | u::a,i,m,hm=>by
  rcases Zx.mp hm with rfl|h
  .exact⟨0,ac,ac,rfl⟩
  .have⟨j,h1,h2,h3⟩:=Dj f a (i+1) m h;exact⟨j+1,ae,aa,cU⟩
theorem K9(cq:List Q->List Q->Int)(f:Tg->List Q)(l:List Tg):RW (jM cq f l)=RW l:=by
 have:=(Bm (λx y:Ms=>cq y.d x.d) (gF f 0 l) []).length_eq
 grind[jM,tY]
theorem ahH(cq:List Q->List Q->Int)(f:Tg->List Q)(l:List Tg):(jM cq f l).map dN=((ja cq f l).map (·.i)).map di:=by
 have h:∀m∈pf (λx y:Ms=>cq y.d x.d) [] (gF f 0 l),dN (lO m)=di m.i:=λm hm=>by
  grind[Bm,Dj,dN,lO]
 grind[jM,ja,zU,List.map_reverse,List.map_congr_left]
theorem ahI{cq:List Q->List Q->Int}(hn:∀a b,cq a b = -cq b a)(f:Tg->List Q){l a q:List Tg}{t:Tg}(e:l=a++t::q):
  jM cq f (a++[t])=mA (jM cq f a) (oW (λy=>cq (f t) (f (nth fM l y))) (jM cq f a) (RW (jM cq f a))) (RW a):=by
 have hl:=K9 cq f a
 have h:=Vs (cf:=λx y:Ms=>cq y.d x.d) (cm:=λy=>cq (f t) (f (nth fM l y))) (x:=⟨t,f t,((0+RW a:Nat):Int)⟩) (S:=pf (λx y=>cq y.d x.d) [] (gF f 0 a)) (λy hy=>by
  have hy':=(Bm (λx y:Ms=>cq y.d x.d) (gF f 0 a) []).mem_iff.mp hy;have⟨j,h1,h2,h3⟩:=Dj f a 0 y cU;have h4:=(Dk f a 0 y cU).2;have e1:lO y=j:=by simp[lO,h2]
  have e2:nth fM l j=y.t:=by rw[e,h3];simp[nth,List.getElem?_append_left h1]
  grind)
 have hl2:RW (pf (λx y:Ms=>cq y.d x.d) [] (gF f 0 a))=RW (jM cq f a):=by simp[jM]
 rw[hl2]at h;have e3:lO ⟨t,f t,((0+RW a:Nat):Int)⟩=RW a:=by simp[lO]
 grind[jM,TL,Vv]
section
variable{p:aw}{c w:Mz}{g:List (List Q)}
theorem SU{f:Tg->List Q}{cq:List Q->List Q->Int}{l:List Tg}(hl:RW l<1000)(hd:∀t∈l,mZ p c w g f t)(hq:∀t∈l,∀u∈l,∃e:Int,Ds F.iM [ai di p,aW (f t),aW (f u)] (.tup [I (cq (f t) (f u)),I e]))(hn:∀a b,cq a b = -cq b a)(K:KL):∀(q a:List Tg)(e:Nat),l=a++q ->
  (∀e,K (.exit 0) [qI e (jM cq f l)] [(1,.vars (bG p c w g)),ah,ah,sf e (jM cq f l)]) ->
  lp (FI DA (dL l) (.ptr 0 1 0 4)) [1,2] [(1,.vars (bG p c w g)),ah,ah,ah] [qI e (jM cq f a),I (RW a)] [(1,.vars (bG p c w g)),ah,ah,sf e (jM cq f a)] K
 | [],a,e,el,hK=>by
  simp[Zn]at el;subst el;apply aL;have l1:bf (dL l)=Wf (I (RW l)):=rfl;have PJ:¬((RW l:Int)<(RW l:Int)):=aa;simp only[FI];simp[l1,PJ]
  grind
 | t::q,a,e,el,hK=>by
  have ih:=λe=>SU hl hd hq hn K q (a++[t]) e ae hK
  rw[ahI hn f el]at ih;have zl:=K9 cq f a;have⟨z,hz⟩:=bD (jM cq f a);rw[<-hz]at ih zl ⊢;have DQ:RW a<RW l:=by rw[el];simp
  have PJ:((RW a:Int)<(RW l:Int)):=aa;have l1:bf (dL l)=Wf (I (RW l)):=rfl
  have l2:bf (qI e z)=Wf (I (RW z)):=by
   unfold qI;cases (RW z)<;>rfl
  have zm:∀i∈z,i<RW l:=λi hi=>by
   rw[hz]at hi;obtain⟨m,hm,rfl⟩:=Zw.1 (List.mem_reverse.1 hi)
   grind[Bm,Dj,lO]
  have kle:=La (λy=>cq (f t) (f (nth fM l y))) z (RW z);apply aL;simp only[FI];simp[l1,PJ,l2];refine lo (SX (z:=z) hd hq el aa zm (r:=[ah,ah,sf e z]) ?_ _ rfl _ (RW z) (Z8 _) ?_)
  .intro k hk;have⟨w1,w2⟩:=C4 e (z:=z) aa;refine⟨3,e+1,k,RW z,?_,?_⟩
   .grind[bq,aH]
   .rw[w2];simp[ld1,aH,nth,hk];rfl
  refine ahG kle aa λe' b1 b2=>?_
  have ea:aD BinOp.add (I (RW a:Int)) (V.d (D.int IntKind.i64 1))=Wf (I ((RW a:Int)+1)):=by simp(disch:=omega) []
  have⟨w1,w2⟩:=C4 e' (z:=mA z (oW (λy=>cq (f t) (f (nth fM l y))) z (RW z)) (RW a)) (by grind[DJ]);have ih:=ih e';rw[w1,w2]at ih ⊢;have e4:((RW (a++[t]):Nat):Int)=(RW a:Int)+1:=ac;rw[e4]at ih;exact BV ea ⟨aN,ih⟩
theorem SV{f:Tg->List Q}{cq:List Q->List Q->Int}{l:List Tg}(hl:RW l<1000)(hd:∀t∈l,mZ p c w g f t)(hq:∀t∈l,∀u∈l,∃e:Int,Ds F.iM [ai di p,aW (f t),aW (f u)] (.tup [I (cq (f t) (f u)),I e]))(hn:∀a b,cq a b = -cq b a) :
  Ds F.tM [cG p c w g,dL l] (ai di ((ja cq f l).map (·.i))):=by
 apply afT;simp only[tM,cG,bG];simp;refine lo (SU hl hd hq hn _ l [] 0 rfl λe=>?_);have z1:=ahH cq f l;have z2:RW (jM cq f l)=RW ((ja cq f l).map (·.i)):=by rw[K9,List.length_map,Fe]
 have:=OH (C5 e) (L:=RW (jM cq f l)) (cells:=(jM cq f l).map dN) (h:=[(1,.vars (bG p c w g)),ah,ah,sf e (jM cq f l)]) rfl (by simp[C5]);rw[z1,z2]at this
 show out (ai di ((ja cq f l).map (·.i))) (qI e (jM cq f l)) [(1,.vars (bG p c w g)),ah,ah,sf e (jM cq f l)]
 unfold qI;rw[z1,z2];exact this
end
def wM(u x:Ve):Int:=u 0*x 0+u 1*x 1+u 2*x 2+u 3*x 3
def v4(a b c d:Int):Ve:=λj=>if j=0 then a else if j=1 then b else if j=2 then c else if j=3 then d else 0
theorem D8(u:Ve)(a b c d:Int):wM u (v4 a b c d)=u 0*a+u 1*b+u 2*c+u 3*d:=rfl
def OK(a b c x:Ve):Prop:=(∃j,x j≠0)∧(∀j,4<=j->x j=0)∧(∀j,(x j).natAbs<=4374)∧wM a x=0∧wM b x=0∧wM c x=0
theorem Ck(a b c d:Int)(j:Nat)(h:4<=j):v4 a b c d j=0:=by unfold v4;rw[iN aa,iN aa,iN aa,iN aa]
theorem Cm{c:Int}{S:Nat}(ha:a.natAbs<=S)(hb:b.natAbs<=S)(hc:c.natAbs<=S)(hd:d.natAbs<=S)(j:Nat):(v4 a b c d j).natAbs<=S:=by
 unfold v4
 repeat' split
 all_goals first|assumption|simp
theorem Cl{c:Int}(h:a≠0∨b≠0∨c≠0∨d≠0):∃j,v4 a b c d j≠0:=by
 rcases h with h|h|h|h
 .exact⟨0,h⟩
 .exact⟨1,h⟩
 .exact⟨2,h⟩
 .exact⟨3,h⟩
def eM(a b c d:Int):Int:=a*d-b*c
def iU(a b c:Ve)(i j k:Nat):Int:=a i*eM (b j) (b k) (c j) (c k)-a j*eM (b i) (b k) (c i) (c k)+a k*eM (b i) (b j) (c i) (c j)
theorem Dh{B:Nat}(ha:a.natAbs<=A)(hb:b.natAbs<=B):(a*b).natAbs<=A*B:=by rw[Zl];exact Zr ha hb
theorem Ii{c:Int}(ha:a.natAbs<=9)(hb:b.natAbs<=9)(hc:c.natAbs<=9)(hd:d.natAbs<=9):(eM a b c d).natAbs<=162:=by have h1:=Dh ha hd;have h2:=Dh hb hc;unfold eM;omega
theorem amq{a b c:Ve}(ha:∀j,(a j).natAbs<=9)(hb:∀j,(b j).natAbs<=9)(hc:∀j,(c j).natAbs<=9)(i j k:Nat):(iU a b c i j k).natAbs<=4374:=by have h1:=Dh (ha i) (Ii (hb j) (hb k) (hc j) (hc k));have h2:=Dh (ha j) (Ii (hb i) (hb k) (hc i) (hc k));have h3:=Dh (ha k) (Ii (hb i) (hb j) (hc i) (hc j));unfold iU;omega
theorem J1{a b c:Ve}(ha:∀j,(a j).natAbs<=9)(hb:∀j,(b j).natAbs<=9)
  (d1:iU c a b 0 1 2=0) (d2:iU c a b 0 1 3=0) (d3:iU c a b 0 2 3=0) (d4:iU c a b 1 2 3=0)
  (h:∃i j,i<4∧j<4∧eM (a i) (a j) (b i) (b j)≠0):∃x,OK a b c x:=by
 have bd:∀i j,(eM (a i) (a j) (b i) (b j)).natAbs<=4374:=λi j=>Z1 (Ii (ha _) (ha _) (hb _) (hb _)) au
 have bn:∀i j,(- eM (a i) (a j) (b i) (b j)).natAbs<=4374:=λi j=>by rw[X0];exact bd i j
 have z:(0:Int).natAbs<=4374:=au;by_cases h1:eM (a 0) (a 1) (b 0) (b 1)≠0∨eM (a 0) (a 2) (b 0) (b 2)≠0∨eM (a 1) (a 2) (b 1) (b 2)≠0
 .refine⟨v4 (eM (a 1) (a 2) (b 1) (b 2)) (- eM (a 0) (a 2) (b 0) (b 2)) (eM (a 0) (a 1) (b 0) (b 1)) 0,Cl aa,Ck _ _ _ _,Cm (bd _ _) (bn _ _) (bd _ _) z,?_,?_,?_⟩<;>rw[D8]<;>simp only[eM,iU]at * <;>grind
 by_cases h2:eM (a 0) (a 3) (b 0) (b 3)≠0∨eM (a 1) (a 3) (b 1) (b 3)≠0
 .refine⟨v4 (eM (a 1) (a 3) (b 1) (b 3)) (- eM (a 0) (a 3) (b 0) (b 3)) 0 (eM (a 0) (a 1) (b 0) (b 1)),Cl aa,Ck _ _ _ _,Cm (bd _ _) (bn _ _) z (bd _ _),?_,?_,?_⟩<;>rw[D8]<;>simp only[eM,iU]at * <;>grind
 refine⟨v4 0 (eM (a 2) (a 3) (b 2) (b 3)) (- eM (a 1) (a 3) (b 1) (b 3)) (eM (a 1) (a 2) (b 1) (b 2)),Cl ?_,Ck _ _ _ _,Cm z (bd _ _) (bn _ _) (bd _ _),?_,?_,?_⟩
 .have⟨i,j,hi,hj,hn⟩:=h;have sw:∀i j,eM (a i) (a j) (b i) (b j) = - eM (a j) (a i) (b j) (b i):=λi j=>by simp[eM];grind
  have se:∀i,eM (a i) (a i) (b i) (b i)=0:=λi=>by simp only[eM];grind
  have i4:i=0∨i=1∨i=2∨i=3:=aa;have j4:j=0∨j=1∨j=2∨j=3:=aa;rcases i4 with rfl|rfl|rfl|rfl<;>rcases j4 with rfl|rfl|rfl|rfl<;>grind
 all_goals rw[D8];simp only[eM,iU]at *;grind
theorem amo(u:Ve)(i j:Nat)(hi:i<4)(hj:j<4)(hij:i≠j)(p q:Int):wM u (λt=>if t=i then p else if t=j then q else 0)=u i*p+u j*q:=by have i4:i=0∨i=1∨i=2∨i=3:=aa;have j4:j=0∨j=1∨j=2∨j=3:=aa;rcases i4 with rfl|rfl|rfl|rfl<;>rcases j4 with rfl|rfl|rfl|rfl<;>simp_all[wM]<;>omega
theorem aei{a b c:Ve}(ha:∀j,(a j).natAbs<=9)(hb:∀j,(b j).natAbs<=9)(hc:∀j,(c j).natAbs<=9):∃x,OK a b c x:=by
 by_cases hd:iU a b c 0 1 2=0∧iU a b c 0 1 3=0∧iU a b c 0 2 3=0∧iU a b c 1 2 3=0
 case neg=>
  have bd:=amq ha hb hc;have bn:∀i j k,(- iU a b c i j k).natAbs<=4374:=λi j k=>by rw[X0];exact bd i j k
  refine⟨v4 (iU a b c 1 2 3) (- iU a b c 0 2 3) (iU a b c 0 1 3) (- iU a b c 0 1 2),Cl aa,Ck _ _ _ _,Cm (bd ..) (bn ..) (bd ..) (bn ..),?_,?_,?_⟩<;>rw[D8]<;>simp[eM,iU]<;>grind
 have⟨d1,d2,d3,d4⟩:=hd;have cyc:∀i j k,iU c a b i j k=iU a b c i j k:=λi j k=>by simp[eM,iU];grind
 have cyc2:∀i j k,iU b a c i j k = - iU a b c i j k:=λi j k=>by simp[eM,iU];grind
 by_cases h1:∃i j,i<4∧j<4∧eM (a i) (a j) (b i) (b j)≠0
 .exact J1 ha hb (by rw[cyc];exact d1) (by rw[cyc];exact d2) (by rw[cyc];exact d3) (by rw[cyc];exact d4) h1
 by_cases h2:∃i j,i<4∧j<4∧eM (a i) (a j) (c i) (c j)≠0
 .have⟨x,x1,x2,x3,x4,x5,x6⟩:=J1 (c:=b) ha hc (by rw[cyc2,d1];rfl) (by rw[cyc2,d2];rfl) (by rw[cyc2,d3];rfl) (by rw[cyc2,d4];rfl) h2;exact⟨x,x1,x2,x3,x4,x6,x5⟩
 by_cases h3:∃i j,i<4∧j<4∧eM (b i) (b j) (c i) (c j)≠0
 .have⟨x,x1,x2,x3,x4,x5,x6⟩:=J1 (c:=a) hb hc d1 d2 d3 d4 h3;exact⟨x,x1,x2,x3,x6,x4,x5⟩
 have g1:∀i j,i<4->j<4->eM (a i) (a j) (b i) (b j)=0:=λi j hi hj=>Classical.byContradiction λh=>h1 ⟨i,j,hi,hj,h⟩
 have g2:∀i j,i<4->j<4->eM (a i) (a j) (c i) (c j)=0:=λi j hi hj=>Classical.byContradiction λh=>h2 ⟨i,j,hi,hj,h⟩
 have g3:∀i j,i<4->j<4->eM (b i) (b j) (c i) (c j)=0:=λi j hi hj=>Classical.byContradiction λh=>h3 ⟨i,j,hi,hj,h⟩
 -- all rows go one way
 by_cases hz:∃i,i<4∧(a i≠0∨b i≠0∨c i≠0)
 .have⟨i,hi,hn⟩:=hz;have⟨j,hj,hij⟩:∃j,j<4∧i≠j:=⟨if i=0 then 1 else 0,by split<;>omega,by split<;>omega⟩
  have go:∀r:Ve,(∀j,(r j).natAbs<=9)->r i≠0->r j*a i=r i*a j->r j*b i=r i*b j->r j*c i=r i*c j->∃x,OK a b c x:=λr hr hri e1 e2 e3=>by
   refine⟨λt=>if t=i then r j else if t=j then-r i else 0,⟨j,?_⟩,λt ht=>?_,λt=>?_,?_,?_,?_⟩
   .simp only[iN (Ne.symm hij),iT];omega
   .simp[iN (show t≠i by omega),iN (show t≠j by omega)]
   .have:=hr i;have:=hr j;simp only
    repeat' split
    all_goals omega
   all_goals rw[amo _ _ _ hi hj hij];grind
  have k1:=g1 i j hi hj;have k2:=g2 i j hi hj;have k3:=g3 i j hi hj;simp[eM]at k1 k2 k3;rcases hn with hn|hn|hn
  .exact go a ha hn ae ae ae
  .exact go b hb hn ae ae ae
  .exact go c hc hn ae ae ae
 ·have z:∀i,i<4->a i=0∧b i=0∧c i=0:=λi hi=>by
   refine⟨?_,?_,?_⟩<;>exact Classical.byContradiction λh=>hz ⟨i,hi,aa⟩
  have z0:=z 0 au;have z1:=z 1 au;have z2:=z 2 au;have z3:=z 3 au;refine⟨v4 1 0 0 0,Cl au,Ck _ _ _ _,Cm au au au au,?_,?_,?_⟩<;>rw[D8]<;>simp[z0,z1,z2,z3]
theorem akf(hm:RW m<=3)(hb:dy 9 m)(hs:∀v,bV (vs C) v↔dG 4 (eQ m) v)(h1:RW C=1):∀x∈C,∀j,(x.2 j).natAbs<=4374:=by
 obtain ⟨y,rfl⟩:∃y,C=[y]:=by
  match C,h1 with
  |[y],_=>exact⟨y,rfl⟩
 have⟨x,⟨j0,hx0⟩,hx1,hx2,e0,e1,e2⟩:=aei (a:=ve (nth [] m 0)) (b:=ve (nth [] m 1)) (c:=ve (nth [] m 2)) (hb 0) (hb 1) (hb 2)
 have hk:dG 4 (eQ m) x:=by
  refine⟨λu hu=>D7 (λg hg=>?_) hu,hx1⟩;obtain⟨r,hr,rfl⟩:=Zw.1 hg;obtain⟨i,hi,rfl⟩:=Zj.1 hr;have e3:m[i]=nth [] m i:=by rw[nth,Z6,List.getElem?_eq_getElem hi];rfl
  have hd:∀u,dK 4 u x=wM u x:=λu=>by simp[dK,wM]
  rw[e3,hd];have:i=0∨i=1∨i=2:=aa;rcases this with rfl|rfl|rfl<;>assumption
 have⟨ks,hk⟩:=(hs x).2 hk;intro z hz j;rw[List.mem_singleton]at hz;subst hz;cases ks with
 |nil=>rw[hk,y9]at hx0;exact absurd rfl hx0
 | cons t ks=>
  have ex:∀i,x i=t*z.2 i:=λi=>by
   rw[hk]
   show t*z.2 i+gv ks [] i=_
   cases ks<;>simp[gv]
  have ht:t≠0:=λh=>hx0 (by rw[ex,h,Int.zero_mul])
  have h2:=hx2 j;rw[ex,Zl]at h2;exact Z1 (Nat.le_mul_of_pos_left _ aa) h2
end Go.Vm
namespace Go.Proofs
open Go.Shelf
def Tryz.laysPu14_ren:Go.Shelf.Ren:=⟨λ|14=>208|16=>198|17=>178|19=>212|20=>213|21=>199|22=>200|23=>201|24=>202|25=>214|27=>86|26=>215|28=>120|29=>150|30=>182|31=>183|32=>184|33=>185|35=>204|34=>203|36=>205|37=>206|38=>207|39=>216|40=>217|n=>n,λ|9=>9|3=>3|22=>214|24=>201|25=>259|4=>4|34=>258|5=>5|36=>189|37=>246|0=>0|39=>261|21=>21|44=>273|47=>275|50=>278|48=>276|2=>2|52=>243|55=>247|59=>266|60=>237|20=>20|61=>267|65=>279|66=>280|67=>281|n=>n,λ|0=>1|1=>2|2=>0|3=>3|4=>4|n=>n⟩
theorem Tryz.laysPu14:Go.Proofs.LaysPu.n14 Tryz.prog Tryz.laysPu14_ren:={
 mixed:=aJ
 f14:=func208.trans (RT Wf aJ)
 f16:=func198.trans (RT Wf aJ)
 f17:=func178.trans (RT Wf aJ)
 f19:=func212.trans (RT Wf aJ)
 f20:=func213.trans (RT Wf aJ)
 f21:=func199.trans (RT Wf aJ)
 f22:=func200.trans (RT Wf aJ)
 f23:=func201.trans (RT Wf aJ)
 f24:=func202.trans (RT Wf aJ)
 f25:=func214.trans (RT Wf aJ)
 f26:=func215.trans (RT Wf aJ)
 f27:=func86.trans (RT Wf aJ)
 f28:=func120.trans (RT Wf aJ)
 f29:=func150.trans (RT Wf aJ)
 f30:=func182.trans (RT Wf aJ)
 f31:=func183.trans (RT Wf aJ)
 f32:=func184.trans (RT Wf aJ)
 f33:=func185.trans (RT Wf aJ)
 f34:=func203.trans (RT Wf aJ)
 f35:=func204.trans (RT Wf aJ)
 f36:=func205.trans (RT Wf aJ)
 f37:=func206.trans (RT Wf aJ)
 f38:=func207.trans (RT Wf aJ)
 f39:=func216.trans (RT Wf aJ)
 f40:=func217.trans (RT Wf aJ)
 t0:=underlying0
 a0:=isAgg0
 z0:=sizeOf0
 v0:=zeroValue0
 i0:=aJ
 t2:=underlying2
 a2:=isAgg2
 z2:=sizeOf2
 v2:=zeroValue2
 i2:=aJ
 t3:=underlying3
 a3:=isAgg3
 z3:=sizeOf3
 v3:=zeroValue3
 i3:=aJ
 t4:=underlying4
 a4:=isAgg4
 z4:=sizeOf4
 v4:=zeroValue4
 i4:=aJ
 t5:=underlying5
 a5:=isAgg5
 z5:=sizeOf5
 v5:=zeroValue5
 i5:=aJ
 t9:=underlying9
 a9:=isAgg9
 z9:=sizeOf9
 v9:=zeroValue9
 i9:=aJ
 t20:=underlying20
 a20:=isAgg20
 z20:=sizeOf20
 v20:=zeroValue20
 i20:=aJ
 t21:=underlying21
 a21:=isAgg21
 z21:=sizeOf21
 v21:=zeroValue21
 i21:=aJ
 t22:=underlying214
 a22:=isAgg214
 z22:=sizeOf214
 v22:=zeroValue214
 i22:=aJ
 t24:=underlying201
 a24:=isAgg201
 z24:=sizeOf201
 v24:=zeroValue201
 i24:=aJ
 t25:=underlying259
 a25:=isAgg259
 z25:=sizeOf259
 v25:=zeroValue259
 i25:=aJ
 t34:=underlying258
 a34:=isAgg258
 z34:=sizeOf258
 v34:=zeroValue258
 i34:=aJ
 c34:=aJ
 t36:=underlying189
 a36:=isAgg189
 z36:=sizeOf189
 v36:=zeroValue189
 i36:=aJ
 t37:=underlying246
 a37:=isAgg246
 z37:=sizeOf246
 v37:=zeroValue246
 i37:=aJ
 t39:=underlying261
 a39:=isAgg261
 z39:=sizeOf261
 v39:=zeroValue261
 i39:=aJ
 t44:=underlying273
 a44:=isAgg273
 z44:=sizeOf273
 v44:=zeroValue273
 i44:=aJ
 t47:=underlying275
 a47:=isAgg275
 z47:=sizeOf275
 v47:=zeroValue275
 i47:=aJ
 t48:=underlying276
 a48:=isAgg276
 z48:=sizeOf276
 v48:=zeroValue276
 i48:=aJ
 t50:=underlying278
 a50:=isAgg278
 z50:=sizeOf278
 v50:=zeroValue278
 i50:=aJ
 t52:=underlying243
 a52:=isAgg243
 z52:=sizeOf243
 v52:=zeroValue243
 i52:=aJ
 t55:=underlying247
 a55:=isAgg247
 z55:=sizeOf247
 v55:=zeroValue247
 i55:=aJ
 t59:=underlying266
 a59:=isAgg266
 z59:=sizeOf266
 v59:=zeroValue266
 i59:=aJ
 t60:=underlying237
 a60:=isAgg237
 z60:=sizeOf237
 v60:=zeroValue237
 i60:=aJ
 t61:=underlying267
 a61:=isAgg267
 z61:=sizeOf267
 t65:=underlying279
 a65:=isAgg279
 z65:=sizeOf279
 v65:=zeroValue279
 i65:=aJ
 t66:=underlying280
 a66:=isAgg280
 z66:=sizeOf280
 v66:=zeroValue280
 i66:=aJ
 t67:=underlying281
 a67:=isAgg281
 z67:=sizeOf281
 v67:=zeroValue281
 i67:=aJ
 g0:=aJ
 m0:=aJ
 g1:=aJ
 m1:=aJ
 g2:=aJ
 m2:=aJ
 g3:=aJ
 m3:=aJ
 g4:=aJ
 m4:=by kernel_rfl}
def Tryz.laysC174_ren:Go.Shelf.Ren:=⟨λ|174=>143|247=>177|245=>178|287=>198|279=>199|280=>200|281=>201|282=>202|321=>212|322=>213|316=>214|171=>86|205=>215|243=>120|246=>150|283=>182|284=>183|285=>184|286=>185|129=>204|317=>203|318=>205|319=>206|320=>207|337=>216|338=>217|n=>n,λ|9=>9|3=>3|2=>2|75=>201|85=>202|4=>4|167=>258|5=>5|53=>214|175=>259|46=>189|168=>261|37=>246|0=>0|210=>273|21=>21|127=>275|145=>278|143=>276|171=>243|173=>247|212=>266|51=>237|20=>20|213=>267|232=>279|233=>280|80=>281|n=>n,λ|15=>1|16=>2|17=>0|18=>3|19=>4|n=>n⟩
theorem Tryz.laysC174:Go.Proofs.LaysC.n174 Tryz.prog Tryz.laysC174_ren:={
 mixed:=aJ
 f129:=func204.trans (RT Wf aJ)
 f171:=func86.trans (RT Wf aJ)
 f174:=func143.trans (RT Wf aJ)
 f205:=func215.trans (RT Wf aJ)
 f243:=func120.trans (RT Wf aJ)
 f245:=func178.trans (RT Wf aJ)
 f246:=func150.trans (RT Wf aJ)
 f247:=func177.trans (RT Wf aJ)
 f279:=func199.trans (RT Wf aJ)
 f280:=func200.trans (RT Wf aJ)
 f281:=func201.trans (RT Wf aJ)
 f282:=func202.trans (RT Wf aJ)
 f283:=func182.trans (RT Wf aJ)
 f284:=func183.trans (RT Wf aJ)
 f285:=func184.trans (RT Wf aJ)
 f286:=func185.trans (RT Wf aJ)
 f287:=func198.trans (RT Wf aJ)
 f316:=func214.trans (RT Wf aJ)
 f317:=func203.trans (RT Wf aJ)
 f318:=func205.trans (RT Wf aJ)
 f319:=func206.trans (RT Wf aJ)
 f320:=func207.trans (RT Wf aJ)
 f321:=func212.trans (RT Wf aJ)
 f322:=func213.trans (RT Wf aJ)
 f337:=func216.trans (RT Wf aJ)
 f338:=func217.trans (RT Wf aJ)
 t0:=underlying0
 a0:=isAgg0
 z0:=sizeOf0
 v0:=zeroValue0
 t2:=underlying2
 a2:=isAgg2
 z2:=sizeOf2
 v2:=zeroValue2
 t3:=underlying3
 a3:=isAgg3
 z3:=sizeOf3
 v3:=zeroValue3
 t4:=underlying4
 a4:=isAgg4
 z4:=sizeOf4
 v4:=zeroValue4
 t5:=underlying5
 a5:=isAgg5
 z5:=sizeOf5
 v5:=zeroValue5
 t9:=underlying9
 a9:=isAgg9
 z9:=sizeOf9
 v9:=zeroValue9
 t20:=underlying20
 a20:=isAgg20
 z20:=sizeOf20
 v20:=zeroValue20
 t21:=underlying21
 a21:=isAgg21
 z21:=sizeOf21
 v21:=zeroValue21
 t37:=underlying246
 a37:=isAgg246
 z37:=sizeOf246
 v37:=zeroValue246
 t46:=underlying189
 a46:=isAgg189
 z46:=sizeOf189
 v46:=zeroValue189
 t51:=underlying237
 a51:=isAgg237
 z51:=sizeOf237
 v51:=zeroValue237
 t53:=underlying214
 a53:=isAgg214
 z53:=sizeOf214
 v53:=zeroValue214
 t75:=underlying201
 a75:=isAgg201
 z75:=sizeOf201
 v75:=zeroValue201
 t85:=underlying202
 a85:=isAgg202
 z85:=sizeOf202
 v85:=zeroValue202
 t127:=underlying275
 a127:=isAgg275
 z127:=sizeOf275
 v127:=zeroValue275
 t143:=underlying276
 a143:=isAgg276
 z143:=sizeOf276
 v143:=zeroValue276
 t145:=underlying278
 a145:=isAgg278
 z145:=sizeOf278
 v145:=zeroValue278
 t167:=underlying258
 a167:=isAgg258
 z167:=sizeOf258
 v167:=zeroValue258
 t168:=underlying261
 a168:=isAgg261
 z168:=sizeOf261
 v168:=zeroValue261
 t171:=underlying243
 a171:=isAgg243
 z171:=sizeOf243
 v171:=zeroValue243
 t173:=underlying247
 a173:=isAgg247
 z173:=sizeOf247
 v173:=zeroValue247
 t175:=underlying259
 a175:=isAgg259
 z175:=sizeOf259
 v175:=zeroValue259
 t210:=underlying273
 a210:=isAgg273
 z210:=sizeOf273
 v210:=zeroValue273
 t212:=underlying266
 a212:=isAgg266
 z212:=sizeOf266
 v212:=zeroValue266
 t213:=underlying267
 a213:=isAgg267
 z213:=sizeOf267
 t232:=underlying279
 a232:=isAgg279
 z232:=sizeOf279
 v232:=zeroValue279
 t233:=underlying280
 a233:=isAgg280
 z233:=sizeOf280
 v233:=zeroValue280
 g15:=aJ
 g16:=aJ
 g17:=aJ
 g18:=aJ
 g19:=aJ
 t80:=underlying281
 a80:=isAgg281
 z80:=sizeOf281
 v80:=zeroValue281
 i0:=aJ
 i2:=aJ
 i3:=aJ
 i4:=aJ
 i5:=aJ
 i9:=aJ
 i20:=aJ
 i21:=aJ
 i37:=aJ
 i46:=aJ
 i51:=aJ
 i53:=aJ
 i75:=aJ
 i80:=aJ
 i85:=aJ
 i127:=aJ
 i143:=aJ
 i145:=aJ
 i167:=aJ
 i168:=aJ
 i171:=aJ
 i173:=aJ
 i175:=aJ
 i210:=aJ
 i212:=aJ
 i232:=aJ
 i233:=aJ
 m15:=aJ
 m16:=aJ
 m17:=aJ
 m18:=aJ
 m19:=aJ
 c0:=aJ
 c2:=aJ
 c3:=aJ
 c4:=aJ
 c5:=aJ
 c9:=aJ
 c20:=aJ
 c21:=aJ
 c37:=aJ
 c46:=aJ
 c51:=aJ
 c53:=aJ
 c75:=aJ
 c80:=aJ
 c85:=aJ
 c127:=aJ
 c143:=aJ
 c145:=aJ
 c167:=aJ
 c168:=aJ
 c171:=aJ
 c173:=aJ
 c175:=aJ
 c210:=aJ
 c212:=aJ
 c213:=aJ
 c232:=aJ
 c233:=by kernel_rfl}
end Go.Proofs
namespace Go.Vm
open Go Go.Am
variable{l:bB}
theorem XR:∀(l:bB)(a:Nat),a<=ir a l
 |[],a=>Z8 _
 | c::l,a=>by
  have h:a*10+(c.toNat-48)<=ir (a*10+(c.toNat-48)) l:=XR l _;have e:ir a (c::l)=ir (a*10+(c.toNat-48)) l:=rfl;generalize ir a (c::l)=y at *;generalize ir (a*10+(c.toNat-48)) l=z at *;generalize c.toNat-48=d at *;omega
theorem Gw:∀(l:bB)(a:Nat),l.all nF=Th->ir a l<10000000000000000000->Lib.parseUintM (2^64-1) a l=.ok (ir a l)
 |[],a,_,_=>rfl
 | c::l,a,h,hd=>by
  simp only[List.all_cons,Z7,nF,Nat.ble_eq]at h;have e:ir a (c::l)=ir (a*10+(c.toNat-48)) l:=rfl;rw[e]at hd ⊢;have hge:=XR l (a*10+(c.toNat-48));rw[Lib.parseUintM,ip h.1,iN aa,iN aa];exact Gw l _ h.2 hd
theorem frz(w:wO)(e:TypeId)(s:ByteArray):w.heap.size<=(Lib.bytesWorld w e s).heap.size∧(∀c,c<w.heap.size->(Lib.bytesWorld w e s).heap[c]?=w.heap[c]?)∧(Lib.bytesWorld w e s).os=w.os∧(Lib.bytesWorld w e s).output=w.output:=
 ⟨by rw[Lib.bytesWorld_size];omega,λc hc=>Lib.bytesWorld_at_old w e s c hc,rfl,rfl⟩
theorem amN{c:UInt8}(h:nF c=Th):¬c.toNat=43∧¬c.toNat=45:=by simp only[nF,Z7,Nat.ble_eq]at h;omega
theorem ahx(MT:l≠[])(hall:l.all nF=Th)(PJ:ir 0 l<9223372036854775808):Lib.parseIntB 64 l=.ok (ir 0 l:Int):=by
 cases l with
 |nil=>exact absurd rfl MT
 | cons c r=>
  have hc:=amN (Zz.1 hall c ac)
  have hp:Lib.parseUintB 64 (c::r)=.ok (ir 0 (c::r)):=by
   rw[Lib.parseUintB,iN MT];exact Gw _ _ hall aa
  unfold Lib.parseIntB;simp only[hc.1,hc.2,or_self,iF,hp];rw[iN dE,iN ac]
theorem ahw(MT:l≠[])(hall:l.all nF=Th)(PJ:ir 0 l<9223372036854775808):Lib.parseIntB 64 (45::l)=.ok (-(ir 0 l:Int)):=by
 have hp:Lib.parseUintB 64 l=.ok (ir 0 l):=by
  rw[Lib.parseUintB,iN MT];exact Gw _ _ hall aa
 have h45:(45:UInt8).toNat=45:=rfl;unfold Lib.parseIntB;simp only[h45,or_true,iT,hp];rw[iN ac,iN dE]
theorem ahJ:abn X:=by
 intro f args v h;simp only[X]at h;split at h
 .rename_i hf;obtain rfl:=Zk hf;unfold CU at h;split at h
  .rename_i s a b;split at h
   .rename_i hc;obtain⟨rfl,rfl,MT,hall,hsz,PJ⟩:=hc;obtain rfl:=Option.some.inj h;refine⟨rfl,rfl,.inr ⟨⟨_,func208,aJ,aJ⟩,λw=>?_⟩⟩
    have hp:Lib.parseUintB 64 s.data.toList=.ok (ir 0 s.data.toList):=by
     rw[Lib.parseUintB,iN MT];exact Gw _ _ hall PJ
    have hsz2:s.size=RW s.data.toList:=by rw[Array.length_toList];rfl
    have hmax:s.size≤9223372036854775806:=aa;refine(Go.Proofs.Any.strconv_ParseUint_10_at64_ok Go.Proofs.Tryz.laysPu14 s hmax _ hp w).mono ?_;rintro e w' ⟨rfl,rfl|rfl⟩
    .exact⟨rfl,Z8 _,λ_ _=>rfl,rfl,rfl⟩
    .exact⟨rfl,frz w _ s⟩
   .cases h
  .cases h
 .split at h
  .rename_i hf;obtain rfl:=Zk hf
   have key:∀(s:ByteArray)(z:Int),RW s.data.toList≤1001→Lib.parseIntB 64 s.data.toList=.ok z→v=.tuple #[.int .i64 z,.nilIface]→args=[.string s,.int .i64 10,.int .i64 64] →
     eE args=Th∧plain v=Th∧(OS X F.u7 args v∨(∃fn,Go.Proofs.Tryz.prog.funcs[F.u7]?=Wf fn∧fn.body.isNone=SM∧(fn.name == "runtime.NumGoroutine")=SM) ∧
     ∀w,Calls Go.Proofs.Tryz.prog F.u7 args.toArray w λe w'=>e=.returned v∧w.heap.size≤w'.heap.size∧(∀c,c<w.heap.size→w'.heap[c]?=w.heap[c]?)∧w'.os=w.os∧w'.output=w.output):=by
    intro s z hl hp hv ha;subst hv;subst ha;refine⟨rfl,rfl,.inr ⟨⟨_,func143,aJ,aJ⟩,λw=>?_⟩⟩;have hsz2:s.size=RW s.data.toList:=by rw[Array.length_toList];rfl
    refine(Go.Proofs.Any.strconv_ParseInt_10_at64_ok Go.Proofs.Tryz.laysC174 s aa z hp w).mono ?_;rintro e w' ⟨rfl,rfl|⟨t,rfl⟩⟩
    .exact⟨rfl,Z8 _,λ_ _=>rfl,rfl,rfl⟩
    .exact⟨rfl,frz w _ t⟩
   unfold Gv at h;split at h
   .rename_i s a b;split at h
    .rename_i hab;obtain⟨rfl,rfl⟩:=hab;split at h
     .rename_i l hs;split at h
      .rename_i hc;have⟨MT,hall,hsz,PJ⟩:=hc;obtain rfl:=Option.some.inj h;exact key s _ (by rw[hs];simp;omega) (by rw[hs];exact ahw MT hall PJ) rfl rfl
      .cases h
     .rename_i l hs;split at h
      .rename_i hc;have⟨MT,hall,hsz,PJ⟩:=hc;obtain rfl:=Option.some.inj h;exact key s _ aa (ahx MT hall PJ) rfl rfl
      .cases h
    .cases h
   .cases h
  .cases h
end Go.Vm
namespace Go.Proofs
open Go.RowKit Go.Shelf
attribute [local go_sem] Oper.semAt_some
def OL(W:wO)(B o k c s:Nat):Prop:=∃(a:Option Addr)(cap:Nat),W.cell? ⟨B,o,Vc⟩=Wf (.slice a k cap)∧(0<k->a=Wf ⟨c,s,Vc⟩)
def abj(W:wO)(B o B2 o2 k c s c2 s2:Nat)(us vs:am):Prop:=
 OL W B o k c s∧OL W B2 o2 k c2 s2∧(∀(i:Nat) v,us[i]?=Wf v->W.cell? ⟨c,s+i,Vc⟩=Wf v)∧∀(i:Nat) v,vs[i]?=Wf v->W.cell? ⟨c2,s2+i,Vc⟩=Wf v
set_option maxRecDepth 100000 in
set_option maxHeartbeats 2000000 in
theorem apR(l B o k c s c2 s2:Nat)(us vs:am)(hu:RW us=k)(hv:RW vs=k)(hk:k<4611686018427387904)(J Jx:Nat->wO->Prop)
  (hV:∀i W1,J i W1->abj W1 B o B (o+1) k c s c2 s2 us vs)
  (hY:∀(i:Nat) x y W1,J i W1->us[i]?=Wf x->vs[i]?=Wf y->YieldAt (Go.Am.Fw Vc) 0 Tryz.prog l #[x,y] W1 λe W'=>(e=.returned (.bool Th)∧J (i+1) W')∨(e=.returned (.bool SM)∧Jx (i+1) W'))
  (W:wO) (h0:J 0 W) :
  CallsIn (Go.Am.Fw Vc) 1 Tryz.prog 172 #[.func (.yield l) #[] #[],.pointer (Wf ⟨B,o,Vc⟩)] W λe W'=>(∃v,e=.returned v)∧(J k W'∨∃i,Jx i W'):=by
 refine callsIn_of_wp func172 rfl trivial ?_ rfl;simp only[Tryz.ntmps172,List.size_toArray,List.length_cons,List.length_nil,Nat.reduceAdd,Nat.reduceSub,Array.replicate_succ,Array.replicate_zero,List.push_toArray,List.append_toArray,List.nil_append,List.cons_append];have⟨⟨a,cap,hc0,ha⟩,_⟩:=hV 0 W h0
 gi_wp2
 gi_loopw [8] (λi wr=>∃j:Nat,j<=k∧i=.int .i64 j∧J j wr) (λi _=>k-(intOf i).toNat)
 case atStart=>grind
 case round=>
  obtain⟨j,hj,rfl,hJs⟩:=hrel;by_cases PJ:j<k
  .obtain rfl:=ha aa;have ex:∃x,us[j]?=Wf x:=⟨_,List.getElem?_eq_getElem aa⟩;have ey:∃y,vs[j]?=Wf y:=⟨_,List.getElem?_eq_getElem aa⟩;have⟨x,hx⟩:=ex;have⟨y,hy'⟩:=ey;have⟨_,⟨a2,cap2,hc2,ha2⟩,hus,hvs⟩:=hV j wr hJs;obtain rfl:=ha2 aa;have hcx:=hus j x hx;have hcy:=hvs j y hy';have⟨fn,tmps,assign,body,hy,hR⟩:=hY j x y wr hJs hx hy'
   clear hx hy' hus hvs
   gi_wp2
   apply hR.mono;rintro e W3 (⟨rfl,hJ3⟩|⟨rfl,hJx3⟩)
   .gi_wp2
    go_roundw
    case rel=>exact⟨j+1,aa,ac,hJ3⟩
    case measure=>simp[intOf];omega
   .gi_wp2
    refine bodyPost_ret (results_none rfl _ _ _) rfl ?_;exact⟨⟨_,rfl⟩,.inr ⟨_,hJx3⟩⟩
  .obtain rfl:j=k:=aa
   gi_wp2
   simp_all[bodyPost_end,results_none]
end Go.Proofs
namespace Go.Vm
open Go Go.Am Go.Proofs
noncomputable section
variable{f:FuncId}{p q v a b:Value}{xs:List am}
theorem aoG{P:Program}{args:Array Value}{w:wO}{R:Ending->wO->Prop}(h:CallsIn (Fw Vc) 1 P f args w R):CallsIn (Fw Vc) 0 P f args w R:=
 ⟨h.1,λcs _=>h.2 cs (λd hd=>by trivial)⟩
def jw(x:am):Value:=x.headD default
def qB(x:am):Value:=x.tail.headD default
theorem OU:∀(us vs:am),RW us=RW vs->(((us.zip vs).map λx=>[x.1,x.2]).map jw)=us∧(((us.zip vs).map λx=>[x.1,x.2]).map qB)=vs
 |[],[],_=>⟨rfl,rfl⟩
 | u::us,v::vs,h=>by
  have⟨h1,h2⟩:=OU us vs ae;simp only[List.zip_cons_cons,Zv,h1,h2];trivial
 |[],_::_,h=>by simp at h
 |_::_,[],h=>by simp at h
theorem OT{H:AH}(h:w8 H p q=Wf xs):fH H 1 p=Wf (RW xs,xs.map jw)∧fH H 1 q=Wf (RW xs,xs.map qB)∧RW xs<4611686018427387904∧yC p=Th∧yC q=Th ∧
  ∀x∈xs,x=[jw x,qB x]∧plain (jw x)=Th∧plain (qB x)=Th:=by
 unfold w8 at h;split at h
 case h_2=>cases h
 rename_i k us k' vs hp hq;split at h
 case isFalse=>cases h
 rename_i hc;have⟨h1,h2,h3,h4,h5,h6,h7⟩:=hc;simp only[Z9]at h;subst h;have⟨m1,m2⟩:=OU us vs aa;have hl:RW ((us.zip vs).map λx=>[x.1,x.2])=k:=by simp;omega
 rw[m1,m2,hl];simp only[Z7]at h5;refine⟨hp,by rw[hq,h1],h4,h5.1,h5.2,λx hx=>?_⟩;obtain⟨⟨a,b⟩,hab,rfl⟩:=Zw.1 hx;have:=List.of_mem_zip hab;have e1:=Zz.1 h6 a this.1;have e2:=Zz.1 h7 b this.2;simp only[Z7]at e1 e2;exact⟨rfl,e1.1,e2.1⟩
theorem QM{X:dh}{φ:bI}(hp:yC p=Th)(hv:aC φ p v):∃c s:Nat,∀(φ':bI)(H':AH)(w':wO)(k:Nat)(us:am),bC X φ' H' w'->gM φ φ'->fH H' 1 p=Wf (k,us)->RW us=k->(∀u∈us,plain u=Th) ->
  ∀B o v',w'.cell? ⟨B,o,Vc⟩=Wf v'->aC φ' p v'->OL w' B o k c s∧∀(i:Nat) u,us[i]?=Wf u->w'.cell? ⟨c,s+i,Vc⟩=Wf u:=by
 cases p<;>simp only[yC]at hp<;>try cases hp
 rename_i a n cap;cases a with
 | none=>
  refine⟨0,0,λφ' H' w' k us hh _ hs hk _ B o v' hc hv'=>?_⟩;have e:=rZ hv';subst e;cases n with
  | zero=>
   simp only[fH,Z9,Z5]at hs;obtain⟨rfl,rfl⟩:=hs;exact⟨⟨Vc,cap,hc,λh=>absurd h aa⟩,λi u hi=>by simp at hi⟩
  |succ n=>trivial
 | some a=>
  obtain⟨a',c',rfl,hs⟩:=nX hv
  have DP:a.spot=Vc∧∃pl,φ a.block=Wf pl:=by
   rcases hs with⟨h1,_,pl,hp,_⟩|⟨h1,_,_,_,pl,hp⟩
   .grind
   .grind
  have⟨hsp,pl,DP⟩:=DP;have⟨b,off,sp⟩:=a;simp only at hsp DP;subst hsp;refine⟨pl.c,pl.s+off,λφ' H' w' k us hh Fm hs' hk hpl' B o v' hc hv'=>?_⟩;obtain⟨⟨b2,o2,s2⟩,c2,rfl,hs2⟩:=nX hv';have hpb:=Fm _ _ DP;simp only[fH]at hs';split at hs'
  .rename_i hn;simp only[Z9,Z5]at hs';obtain⟨rfl,rfl⟩:=hs';subst hn;exact⟨⟨_,c2,hc,λh=>absurd h aa⟩,λi u hi=>by simp at hi⟩
  .rename_i hn;simp only[Y1,Z3,Z5]at hs';obtain⟨cs,hr,rfl,rfl⟩:=hs';have⟨L7,r1,r2,r3,r4⟩:=hh.read hr hpb
   have hb:b2=pl.c∧o2=pl.s+off∧s2=Vc:=by
    rcases hs2 with⟨_,h2,pl2,hp2,h3,h4,_⟩|⟨_,h0,_⟩
    .grind
    .omega
   obtain⟨rfl,rfl,rfl⟩:=hb;refine⟨⟨_,c2,hc,λ_=>rfl⟩,λi u hi=>?_⟩
   grind[aE.at,qm,aC.of_plain]
theorem ahl{x:am}(h:x=[jw x,qB x]∧plain (jw x)=Th∧plain (qB x)=Th):eE x=Th:=by grind[eE]
theorem acI(DP:∀x∈xs,x=[jw x,qB x]∧plain (jw x)=Th∧plain (qB x)=Th){i:Nat}(ha:(xs.map jw)[i]?=Wf a)(hb:(xs.map qB)[i]?=Wf b):xs[i]?=Wf [a,b]:=by grind
theorem alO {fn:Func}(h:Tryz.prog.funcs[f]?=Wf fn)(hb:fn.body.isNone=SM)(hn:(fn.name == "runtime.NumGoroutine")=SM):∃fn,X.P.funcs[f]?=Wf fn∧fn.body.isNone=SM∧(fn.name == "runtime.NumGoroutine")=SM:=⟨fn,h,hb,hn⟩
set_option maxRecDepth 100000 in
theorem alQ:∃fn,X.P.funcs[172]?=Wf fn∧fn.body.isNone=SM∧(fn.name == "runtime.NumGoroutine")=SM:=alO func172 rfl aN
theorem afR:I6 X:=by
 intro gf lb H xs h0;have h:tL gf lb H=Wf xs:=h0;clear h0;unfold tL at h;split at h
 .rename_i hg;have hg:gf=172:=Zk hg;subst hg;split at h
  case h_2=>cases h
  rename_i b o;split at h
  case h_2=>cases h
  rename_i p q d hrd;have⟨s1,s2,s3,s4,s5,DP⟩:=OT h;refine⟨λx hx=>ahl (DP x hx),alQ,λφ w lb' hh hl=>?_⟩;simp only[aE]at hl;obtain⟨v',r,rfl,hv',rfl⟩:=hl;obtain⟨pl,hpb,rfl⟩:=vN hv';have⟨L7,r1,r2,r3,r4⟩:=hh.read hrd hpb;simp only[aE]at r1;obtain⟨p',_,rfl,hp',q',_,rfl,hq',d',_,rfl,hd',rfl⟩:=r1;have⟨c,s,RC⟩:=QM (X:=X) s4 hp'
  have⟨c2,s2',base2⟩:=QM (X:=X) s5 hq';refine⟨λW=>abj W pl.c (pl.s+o) pl.c (pl.s+o+1) (RW xs) c s c2 s2' (xs.map jw) (xs.map qB),λφ' H' w' hh' Fm hl' hs hk=>?_,λl J Jx W hV hY h0=>?_⟩
  .have hk:(cW H' b o 3).getD []=(cW H b o 3).getD []:=hk;have hs:tL 172 [.pointer (Wf ⟨b,o,Vc⟩)] H'=Wf xs:=hs;rw[hrd]at hk
   have hrd':cW H' b o 3=Wf [p,q,d]:=by
    cases hr:cW H' b o 3 with
    |none=>grind
    |some cs=>grind
   have hz:w8 H' p q=Wf xs:=by
    unfold tL at hs;rw[show Nat.beq 172 F.rS=Th from rfl]at hs;simp only[hrd']at hs;exact hs
   have⟨t1,t2,_⟩:=OT hz;have⟨ds',u1,u2,u3,u4⟩:=hh'.read hrd' (Fm _ _ hpb);simp only[aE]at u1;obtain⟨p2,_,rfl,hp2,q2,_,rfl,hq2,d2,_,rfl,hd2,rfl⟩:=u1;have k0:=u4 0 p2 rfl;have k1:=u4 1 q2 rfl;rw[qm]at k0 k1;have⟨w1,w2⟩:=RC φ' H' w' _ _ hh' Fm t1 ac (λu hu=>by grind) _ _ _ k0 hp2
   have⟨w3,w4⟩:=base2 φ' H' w' _ _ hh' Fm t2 ac (λu hu=>by grind) _ _ _ k1 hq2;trivial
  .exact aoG (apR l pl.c (pl.s+o) (RW xs) c s c2 s2' (xs.map jw) (xs.map qB) ac ac s3 J Jx hV (λi x y W1 hJ hx hy=>hY i [x,y] W1 hJ (acI DP hx hy)) W h0)
 .rename_i hf;split at h
  case h_2=>cases h
  rename_i hg;rw[show F.KD=F.rS from rfl,hf]at hg;cases hg
end
end Go.Vm
set_option maxRecDepth 100000
namespace Go.Vm
open Go Go.Am
theorem alN:(List.range X.P.funcs.size).all (λf=>!X.allow f||match X.P.funcs[f]? with
  |some fn=>GE X.P fn&&(match fn.body with|some c=>md Y fn.ntmps c|none=>Th)
  |none=>Th)=Th:=du
theorem WQ{f:FuncId}{fn:Func}(ha:X.allow f=Th)(hf:X.P.funcs[f]?=Wf fn):GE X.P fn=Th∧(match fn.body with|some c=>md Y fn.ntmps c|none=>Th)=Th:=by
 have PJ:f<X.P.funcs.size:=by
  rcases Zi f X.P.funcs.size with h|h
  .exact h
  .rw[Array.getElem?_eq_none h]at hf;cases hf
 have:=Zz.1 alN f (Xi.2 PJ);rw[ha,hf]at this;simpa using this
theorem vOk:Ez Y where
 y:=yOk
 fns f fn c ha hf hc:=by have:=(WQ ha hf).2;rw[hc]at this;exact this
theorem ahU:OO X where
 mixed:=by rfl
 fns f fn ha hf:=(WQ ha hf).1
 orc:=ahJ
 seq:=afR
end Go.Vm
