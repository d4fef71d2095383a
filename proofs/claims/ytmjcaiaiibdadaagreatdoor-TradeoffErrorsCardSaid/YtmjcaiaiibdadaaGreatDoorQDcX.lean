/- Lemmas. -/
import Derived.Test.YtmjcaiaiibdadaaGreatDoorQStr
import Derived.Shelf.Pu.ParseUintPublic10
import Derived.Shelf.Strconv.ParseIntPublic10
import Derived.RangeFuncBox
import Derived.Shelf.Abstract
import Derived.WalkKit
import Derived.OwnWalkIn
import Derived.TacticsInMore
import Derived.LoopIn
set_option linter.unusedVariables false
set_option linter.unusedSimpArgs false
namespace Go.Vm
variable{x:Nat×Ve}{m C:List (Nat×Ve)}{v u:Ve}{o j n i A f g E:Nat}
def dU:LnQ->Ve->Ve->Int
 |[],_,_=>0
 |i::us,e,x=>e i*x i+dU us e x
theorem OW(a b:Int)(e f x:Ve):∀us,dU us (λi=>a*e i-b*f i) x=a*dU us e x-b*dU us f x
 |[]=>by simp[dU]
 |i::us=>by simp only[dU,OW a b e f x us];grind
theorem ZJ(a:Int)(e x:Ve):∀us,dU us e (λi=>a*x i)=a*dU us e x
 |[]=>by simp[dU]
 |i::us=>by simp only[dU,ZJ a e x us];grind
theorem Gx{e x y:Ve}:∀{us},(∀i∈us,x i=y i)->dU us e x=dU us e y
 |[],_=>rfl
 |i::us,h=>by simp only[dU,h i ac,Gx (us:=us) λj hj=>h j (by grind)]
theorem AT{e x:Ve}:∀{us},(∀i∈us,e i*x i=0)->dU us e x=0
 |[],_=>rfl
 |i::us,h=>by simp only[dU,h i ac,AT (us:=us) λj hj=>h j (by grind)];rfl
theorem adl{e x:Ve}:∀{us},dU us e x≠0->∃i∈us,e i*x i≠0
 |[],h=>absurd rfl h
 | i::us,h=>by
  by_cases h1:e i*x i=0
  .simp only[dU,h1,Int.zero_add]at h;obtain⟨j,hj,h2⟩:=adl h
   grind
  .exact⟨i,ac,h1⟩
theorem rr{e x:Ve}{j:Nat}:∀{us:LnQ},j∈us->dU us e x=e j*x j+dU (us.erase j) e x
 | i::us,h=>by
  by_cases hi:i=j
  .subst hi;rw[List.erase_cons_head];rfl
  ·have hj:j∈us:=by
    rcases Zx.1 h with h|h
    .omega
    .exact h
   rw[List.erase_cons_tail (by grind)];simp only[dU,rr hj];omega
theorem ZK{e x:Ve}{A S:Nat}:∀{us:LnQ},(∀i∈us,(e i).natAbs<=A)->(∀i∈us,(x i).natAbs<=S)->(dU us e x).natAbs<=us.length*(A*S)
 |[],_,_=>by simp[dU]
 | i::us,h1,h2=>by
  have ih:=ZK (us:=us) (λj hj=>h1 j (by grind)) (λj hj=>h2 j (by grind));have a1:=Int.natAbs_add_le (e i*x i) (dU us e x);rw[Y7]at a1;have a2:=Zp (h1 i ac) (h2 i ac)
  grind[dU,Nat.add_mul]
def slB:Nat->Nat->Nat
 |0,_=>0
 |1,_=>1
 |u+2,A=>(u+1)*A*slB (u+1) (2*A*A)
theorem PN:∀(u:Nat){A:Nat},1<=A->1<=slB (u+1) A
 |0,A,h=>by simp[slB]
 | u+1,A,h=>by
  have h2:1*1<=A*A:=Zp h h;have h1:=PN u (A:=2*A*A) (by grind);have h3:1*1*1<=(u+1)*A*slB (u+1) (2*A*A):=Zp (Zp aa h) h1;trivial
theorem slv:∀(k:Nat)(us:LnQ),us.length=k->us.Nodup->∀(A:Nat),1<=A->∀(es:List Ve)(l x:Ve),(∀e∈es,∀i∈us,(e i).natAbs<=A)->(∀e∈es,dU us e x=0)->dU us l x≠0 ->
  ∃y:Ve,(∀e∈es,dU us e y=0)∧dU us l y≠0∧(∀i,(y i).natAbs<=slB us.length A)∧∀i,i ∉ us->y i=0
 | 0,us,hk,hn,A,hA,es,l,x,hb,h0,hl=>by
  rw[Yi.1 hk]at hl;trivial
 | k+1,us,hk,hn,A,hA,es,l,x,hb,h0,hl=>by
  by_cases all:∀e∈es,∀i∈us,e i=0
  .obtain⟨i,hi,h1⟩:=adl hl
   refine ⟨λt=>if t=i then 1 else 0,λe he=>AT λt ht=>by rw[all e he t ht,Int.zero_mul],?_,λt=>?_,λt ht=>by
    grind⟩
   .rw[rr hi,AT (us:=us.erase i)]
    .rw[if_pos rfl,Int.mul_one,Int.add_zero];exact λh=>h1 (by rw[h,Int.zero_mul])
    grind
   grind[PN]
  ·obtain ⟨e1,he1,j,hj,ha⟩:∃e1,e1∈es∧∃j,j∈us∧e1 j≠0:=by
    grind
   have hk2:(us.erase j).length=k:=by rw[List.length_erase_of_mem hj];omega
   have hn2:(us.erase j).Nodup:=hn.erase j;have hsub:∀i∈us.erase j,i∈us∧i≠j:=λi hi=>⟨(hn.mem_erase_iff.1 hi).2,(hn.mem_erase_iff.1 hi).1⟩
   have hA2:1*1<=A*A:=Zp hA hA
   have hred:∀e:Ve,dU (us.erase j) (λi=>e1 j*e i-e j*e1 i) x=e1 j*dU us e x-e j*dU us e1 x:=λe=>by
    rw[OW,rr (e:=e) hj,rr (e:=e1) hj]
    grind
   obtain ⟨y,y1,y2,y3,y4⟩:=slv k (us.erase j) hk2 hn2 (2*A*A) (by grind) (es.map λe i=>e1 j*e i-e j*e1 i) (λi=>e1 j*l i-l j*e1 i) x (λe' he' i hi=>by
     obtain⟨e,he,rfl⟩:=Zw.1 he';obtain⟨hi,_⟩:=hsub i hi
     show(e1 j*e i-e j*e1 i).natAbs<=_
     have b1:=Int.natAbs_sub_le (e1 j*e i) (e j*e1 i);rw[Y7,Y7]at b1;have b2:=Zp (hb e1 he1 j hj) (hb e he i hi);have b3:=Zp (hb e he j hj) (hb e1 he1 i hi)
     grind) (λe' he'=>by
     grind) (by
     simp_all)
   have hjn:j ∉ us.erase j:=λh=>(hsub j h).2 rfl
   have hval:∀e:Ve,dU us e (λt=>if t=j then -dU (us.erase j) e1 y else e1 j*y t)=dU (us.erase j) (λi=>e1 j*e i-e j*e1 i) y:=λe=>by
    rw[rr hj,if_pos rfl,OW,Gx (y:=λt=>e1 j*y t) (λt ht=>if_neg (hsub t ht).2),ZJ]
    grind
   refine⟨_,λe he=>(hval e).trans (y1 _ (Zw.2 ⟨e,he,rfl⟩)),by grind,λt=>?_,λt ht=>?_⟩
   .cases k with
    | zero=>
     rw[Yi.1 hk2]at y2;trivial
    | succ u=>
     rw[hk]
     show(if t=j then -dU (us.erase j) e1 y else e1 j*y t).natAbs<=(u+1)*A*slB (u+1) (2*A*A)
     rw[hk2]at y3;split
     .rw[Xz,Nat.mul_assoc];have:=ZK (us:=us.erase j) (e:=e1) (x:=y) (λi hi=>hb e1 he1 i (hsub i hi).1) (λi _=>y3 i)
      grind
     .rw[Y7,Nat.mul_assoc];have b1:=Zp (hb e1 he1 j hj) (y3 t)
      grind
   grind
theorem EE(h:Spn (vs m) v):Spn (vs (x::m)) v:=
 Spn.le (λg hg=>Spn.mem (by grind[vs])) h
theorem J1:∀{m:List (Nat×Ve)}{o:Nat},Hnf o m->∀(u:Ve),∃(D:Int)(s:Ve),D≠0∧Spn (vs m) s∧∀y∈m,D*u y.1-s y.1=0
 |[],o,H,u=>⟨1,λ_=>0,aa,Spn.zero _,λy hy=>by cases hy⟩
 | (l,h)::m,o,⟨⟨a,b,c⟩,d,r⟩,u=>by
  obtain⟨D,s,h1,h2,h3⟩:=J1 r (λi=>h l*u i-u l*h i);refine⟨D*h l,λi=>D*u l*h i+s i,Yc h1 aa,((Spn.mem (by simp[vs])).mul _).add (EE h2),λy hy=>?_⟩;rcases Zx.1 hy with rfl|hy
  .have:s l=0:=rV r h2 l aa
   grind
  grind
theorem Ay:∀{m:List (Nat×Ve)}{o:Nat},Hnf o m->∀x∈m,∃v,Spn (vs m) v∧v x.1≠0∧(∀j,j<x.1->v j=0)∧∀y∈m,y.1≠x.1->v y.1=0
 | (l,h)::m,o,H,x,hx=>by
  have H':=H;obtain⟨⟨a,b,c⟩,d,r⟩:=H';rcases Zx.1 hx with rfl|hx
  .obtain⟨D,s,h1,h2,h3⟩:=J1 r h;have z:∀j,j<=l->s j=0:=λj hj=>rV r h2 j aa
   refine⟨λi=>D*h i-s i,((Spn.mem (by simp[vs])).mul D).sub (EE h2),?_,λj hj=>?_,λy hy hne=>?_⟩
   .show D*h l-s l≠0
    rw[z l (Z8 _),Int.sub_zero];exact Yc h1 aa
   .show D*h j-s j=0
    have hj:j<l:=hj;rw[z j aa,c j hj];simp
   grind
  .obtain⟨v,v1,v2,v3,v4⟩:=Ay r x hx;have:=zf r x hx;refine⟨v,EE v1,v2,v3,λy hy hne=>?_⟩;rcases Zx.1 hy with rfl|hy
   .exact v3 l aa
   grind
theorem QS:∀{m:List (Nat×Ve)}{o:Nat},Hnf o m->∀x∈m,∀z∈m,(x.2 z.1).natAbs<=(z.2 z.1).natAbs
 | (l,h)::m,o,⟨⟨a,b,c⟩,d,r⟩,x,hx,z,hz=>by
  rcases Zx.1 hx with rfl|hx
  .rcases Zx.1 hz with rfl|hz
   .omega
   grind
  .rcases Zx.1 hz with rfl|hz
   .have:x.2 l=0:=rV r (Spn.mem (Zw.2 ⟨x,hx,rfl⟩)) l aa
    grind
   .exact QS r x hx z hz
theorem ZZ{m:List (Nat×Ve)}{o S:Nat}(H:Hnf o m)(w:Nat->Ve)(hw:∀x∈m,Spn (vs m) (w x.1)∧w x.1 x.1≠0∧(∀y∈m,y.1≠x.1->w x.1 y.1=0)∧∀j,(w x.1 j).natAbs<=S) :
  ∀(J:List (Nat×Ve)),(∀x∈J,x∈m)->∀(c:Nat)(u:Ve),Spn (vs m) u->(∀y∈m,y ∉ J->u y.1=0)->(∀y∈J,(u y.1).natAbs<=c*(w y.1 y.1).natAbs)->∀j,(u j).natAbs<=c*(J.length*S)
 | [],_,c,u,hu,hz,_,j=>by
  rcases rc H hu with h|⟨x,hx,_,h,_⟩
  .grind
  .exact absurd (hz x hx ac) h
 | x::J,hJ,c,u,hu,hz,hb,j=>by
  obtain⟨w1,w2,w3,w4⟩:=hw x (hJ x ac)
  have ih:=ZZ H w hw J (λy hy=>hJ y (by grind)) (c*(w x.1 x.1).natAbs) (λi=>w x.1 x.1*u i-u x.1*w x.1 i) ((hu.mul _).sub (w1.mul _)) (λy hy hn=>by
   by_cases e:y.1=x.1
   .grind
   .show w x.1 x.1*u y.1-u x.1*w x.1 y.1=0
    rw [w3 y hy e,hz y hy (λh=>by
     rcases Zx.1 h with h|h
     .exact e (by rw[h])
     trivial)]
    simp) (λy hy=>by
   show(w x.1 x.1*u y.1-u x.1*w x.1 y.1).natAbs<=_
   by_cases e:y.1=x.1
   .rw[e,show w x.1 x.1*u x.1-u x.1*w x.1 x.1=0 by grind];simp
   .rw[w3 y (hJ y (by grind)) e,Int.mul_zero,Int.sub_zero,Y7];have:=Z0 (w x.1 x.1).natAbs (hb y (by grind))
    grind) j
  have h1:((w x.1 x.1)*u j).natAbs<=(w x.1 x.1*u j-u x.1*w x.1 j).natAbs+(u x.1*w x.1 j).natAbs:=by
   have:=Int.natAbs_add_le (w x.1 x.1*u j-u x.1*w x.1 j) (u x.1*w x.1 j)
   rwa [Int.sub_add_cancel]at this
  rw[Y7,Y7 (u x.1)]at h1;have h2:=Zp (hb x ac) (w4 j)
  have h3:(w x.1 x.1).natAbs*(u j).natAbs<=(w x.1 x.1).natAbs*(c*((x::J).length*S)):=by
   calc (w x.1 x.1).natAbs*(u j).natAbs<=c*(w x.1 x.1).natAbs*(J.length*S)+c*(w x.1 x.1).natAbs*S:=Zy h1 (Nat.add_le_add ih h2)
    _=(w x.1 x.1).natAbs*(c*((x::J).length*S)):=by grind
  exact Nat.le_of_mul_le_mul_left h3 (Int.natAbs_pos.2 w2)
theorem aaa{S:Nat}(H:Hnf o m)(hw:∀x∈m,∃v,Spn (vs m) v∧v x.1≠0∧(∀y∈m,y.1≠x.1->v y.1=0)∧∀j,(v j).natAbs<=S):∀x∈m,∀j,(x.2 j).natAbs<=m.length*S:=by
 intro x hx j
 let P:Nat->Ve->Prop:=λl v=>Spn (vs m) v∧v l≠0∧(∀y∈m,y.1≠l->v y.1=0)∧∀j,(v j).natAbs<=S
 let w:Nat->Ve:=λl=>Classical.epsilon (P l)
 have hP:∀y∈m,P y.1 (w y.1):=λy hy=>Classical.epsilon_spec (hw y hy)
 have:=ZZ H w hP m (λy hy=>hy) 1 x.2 (Spn.mem (Zw.2 ⟨x,hx,rfl⟩)) (λy hy hn=>absurd hy hn) (λy hy=>by
  obtain⟨p1,p2,p3,p4⟩:=hP y hy;rcases rc H p1 with h|⟨z,hz,z1,z2,z3⟩
  .grind
  .have e:z.1=y.1:=Classical.byContradiction λhn=>z2 (p3 z hz hn)
   have h1:=QS H x hx z hz;rw[<-e,Wl];refine Zy h1 ?_;rw[<-e]at z2 z3;exact Wd aa (Int.natAbs_dvd_natAbs.2 z3)) j
 omega
theorem ZL(e x:Ve):∀us ws,dU (us++ws) e x=dU us e x+dU ws e x
 |[],ws=>by simp[dU]
 |i::us,ws=>by simp only[List.cons_append,dU,ZL e x us ws];omega
theorem ov(e x:Ve):∀n,dtV n e x=dU (List.range n) e x
 |0=>rfl
 |n+1=>by rw[Wn,ZL,<-ov e x n];simp[dU,dtV]
theorem ers:∀(os us:LnQ),us.Nodup->os.Nodup->(∀c∈os,c∈us)->(os.foldl List.erase us).Nodup∧(os.foldl List.erase us).length+os.length=us.length∧∀c,c∈os.foldl List.erase us↔c∈us∧c ∉ os
 |[],us,h1,h2,h3=>⟨h1,rfl,λc=>by simp⟩
 | a::os,us,h1,h2,h3=>by
  rw[List.nodup_cons]at h2;obtain⟨i1,i2,i3⟩:=ers os (us.erase a) (h1.erase a) h2.2 (λc hc=>h1.mem_erase_iff.2 ⟨λe=>h2.1 (e▸hc),h3 c (by grind)⟩)
  grind
theorem OX{e x:Ve}:∀{os us:LnQ},us.Nodup->os.Nodup->(∀c∈os,c∈us)->(∀c∈os,x c=0)->dU (os.foldl List.erase us) e x=dU us e x
 |[],us,_,_,_,_=>rfl
 | a::os,us,h1,h2,h3,h4=>by
  rw[List.nodup_cons]at h2;have ha:=h3 a ac;simp only[List.foldl_cons];rw[OX (h1.erase a) h2.2 (λc hc=>h1.mem_erase_iff.2 ⟨λe=>h2.1 (e▸hc),h3 c (by grind)⟩) (λc hc=>h4 c (by grind)),rr (us:=us) ha,h4 a ac];simp
theorem Rl{x:Ve}{us:LnQ}(hj:j∈us)(hn:us.Nodup):dU us (λc=>if c=j then 1 else 0) x=x j:=by
 rw[rr hj,AT (us:=us.erase j)]
 .simp
 grind
def leads(m:List (Nat×Ve)):LnQ:=m.map (·.1)
theorem xf:∀{m:List (Nat×Ve)}{o:Nat},Hnf o m->(leads m).Nodup
 |[],_,_=>List.nodup_nil
 | (l,h)::m,o,H=>by
  refine List.nodup_cons.2 ⟨λhl=>?_,xf H.2.2⟩;obtain⟨x,hx,e⟩:=Zw.1 hl;have:=zf H.2.2 x hx
  grind
theorem VU(H:Hnf o m)(hn:∀x∈m,x.1<n)(hx:x∈m):∃os:LnQ,os.Nodup∧os.length+1=m.length∧(∀c∈os,c<n)∧(∀c,c∈os↔(∃y∈m,y.1=c)∧c≠x.1):=by
 have hd:=xf H;have hm:x.1∈leads m:=Zw.2 ⟨x,hx,rfl⟩;refine⟨(leads m).erase x.1,hd.erase _,?_,λc hc=>?_,λc=>?_⟩
 .grind[leads]
 .obtain⟨y,hy,rfl⟩:=Zw.1 (hd.mem_erase_iff.1 hc).2
  grind
 grind[leads]
theorem xN(H:Hnf o m)(hn:∀x∈m,x.1<n):m.length<=n:=by
 obtain ⟨_,h,_⟩:=ers (leads m) (List.range n) Xb (xf H) (λc hc=>by
  obtain⟨x,hx,rfl⟩:=Zw.1 hc
  grind)
 grind[leads]
theorem T6{m:Mz}(hl:Ln n m)(hj:n<=j):eZ m i j=0:=by
 by_cases hi:i<m.length
 .have:=hl i hi;rw[eZ,nth,Z6,List.getElem?_eq_none aa];rfl
 .rw[eZ,show nth [] m i=[] by rw[nth,Z6,List.getElem?_eq_none aa];rfl];rfl
theorem aeo{m:Mz}(h:∀i,i<m.length->dtV n (ve (nth [] m i)) v=0)(h0:∀j,n<=j->v j=0):Krn n (SpZ m) v:=by
 refine⟨λu hu=>AP (λg hg=>?_) hu,h0⟩;obtain⟨r,hr,rfl⟩:=Zw.1 hg;obtain⟨i,hi,rfl⟩:=Zi.1 hr;have e1:m[i]=nth [] m i:=by rw[nth,Z6,List.getElem?_eq_getElem hi];rfl
 grind
theorem XG{m:Mz}(H:Hnf o C)(hs:∀v,Spn (vs C) v↔Krn n (SpZ m) v)(hA:1<=A)(hb:BdE A m):∀x∈C,∀j,(x.2 j).natAbs<=C.length*slB (n+1-C.length) A:=by
 have hk:∀x∈C,Krn n (SpZ m) x.2:=λx hx=>(hs _).1 (Spn.mem (Zw.2 ⟨x,hx,rfl⟩))
 have hp:∀{C:List (Nat×Ve)}{o:Nat},Hnf o C->∀x∈C,0<x.2 x.1:=by
  intro C
  induction C with
  |nil=>simp
  | cons y C ih=>
   intro o H x hx;obtain⟨l,h⟩:=y;rcases Zx.1 hx with rfl|hx
   .exact H.1.2.1
   .exact ih H.2.2 x hx
 have hn:∀x∈C,x.1<n:=λx hx=>Decidable.byContradiction λh=>by
  have h1:=(hk x hx).2 x.1 aa
  grind
 refine aaa H λx hx=>?_
 obtain⟨v,v1,v2,v3,v4⟩:=Ay H x hx;obtain⟨os,o1,o2,o3,o4⟩:=VU H hn hx;have osr:∀c∈os,c∈List.range n:=λc hc=>Wy.2 (o3 c hc)
 obtain⟨u1,u2,u3⟩:=ers os (List.range n) Xb o1 osr;have hxu:x.1∈os.foldl List.erase (List.range n):=(u3 _).2 ⟨Wy.2 (hn x hx),λh=>((o4 _).1 h).2 rfl⟩
 have vz:∀c∈os,v c=0:=λc hc=>by
  grind
 obtain ⟨y,y1,y2,y3,y4⟩:=slv _ _ rfl u1 A hA (m.map ve) (λc=>if c=x.1 then 1 else 0) v (λe he i _=>by
  obtain⟨r,hr,rfl⟩:=Zw.1 he;obtain⟨k,hk,rfl⟩:=Zi.1 hr;have e1:m[k]=nth [] m k:=by rw[nth,Z6,List.getElem?_eq_getElem hk];rfl
  rw[e1];exact hb k i) (λe he=>by
  rw[OX Xb o1 osr vz,<-ov];exact((hs v).1 v1).1 e (Spn.mem he)) (by grind[Rl])
 rw[Rl hxu u1]at y2;have yz:∀c∈os,y c=0:=λc hc=>y4 c λh=>((u3 c).1 h).2 hc
 refine⟨y,(hs y).2 (aeo (λi hi=>?_) λj hj=>y4 j λh=>?_),y2,λz hz hne=>yz z.1 ((o4 _).2 ⟨⟨z,hz,rfl⟩,hne⟩),?_⟩
 .rw[ov,<-OX Xb o1 osr yz]
  grind[nth.eq_1]
 .grind
 ·have e:(os.foldl List.erase (List.range n)).length=n+1-C.length:=by
   rw[List.length_range]at u2;omega
  grind
theorem Ld{m:Mz}(h:SpZ m v):∃X:Ve,∀c,v c=dtV m.length (λk=>eZ m k c) X:=by
 have key:∀(l:List Ve),(∀g∈l,∃X:Ve,∀c,g c=dtV m.length (λk=>eZ m k c) X)->∀ks,∃X:Ve,∀c,cmb ks l c=dtV m.length (λk=>eZ m k c) X:=by
  intro l
  induction l with
  |nil=>intro _ ks;exact⟨λ_=>0,λc=>by cases ks<;>exact(re _ _).symm⟩
  | cons g l ih=>
   intro hg ks;cases ks with
   |nil=>exact⟨λ_=>0,λc=>(re _ _).symm⟩
   | cons k ks=>
    obtain⟨X,hX⟩:=hg g ac;obtain⟨Y,hY⟩:=ih (λx hx=>hg x (by grind)) ks;refine⟨λi=>k*X i+Y i,λc=>?_⟩;rw[xT,vB,<-hX,<-hY];rfl
 obtain⟨ks,rfl⟩:=h;refine key _ (λg hg=>?_) ks;obtain⟨r,hr,rfl⟩:=Zw.1 hg;obtain⟨i,hi,rfl⟩:=Zi.1 hr;have e1:m[i]=nth [] m i:=by rw[nth,Z6,List.getElem?_eq_getElem hi];rfl
 refine⟨λj=>if j=i then 1 else 0,λc=>?_⟩;rw[AO,if_pos hi,e1];rfl
theorem Nf{m:Mz}(X:Ve):∀r,r<=m.length->SpZ m λc=>dtV r (λk=>eZ m k c) X
 |0,_=>Spn.zero _
 | r+1,hr=>by
  have h1:=(Nf (m:=m) X r aa).add ((ik (m:=m) (i:=r) aa).mul (X r))
  have e:(λc=>dtV r (λk=>eZ m k c) X+X r*ve (nth [] m r) c)=λc=>dtV (r+1) (λk=>eZ m k c) X:=funext λc=>by
   show _+X r*eZ m r c=_+eZ m r c*X r
   grind
  rwa [e]at h1
theorem PK{m:Mz}(H:Hnf o C)(h1:∀v,SpZ m v->Spn (vs C) v)(h2:∀v,Spn (vs C) v->∃D:Int,D≠0∧SpZ m λi=>D*v i)(hA:1<=A)(hb:BdE A m):
  ∀x∈C,∀j,(x.2 j).natAbs<=C.length*(m.length*(A*slB m.length A)):=by
 refine aaa H λx hx=>?_
 obtain⟨v,v1,v2,v3,v4⟩:=Ay H x hx;obtain⟨D,d1,d2⟩:=h2 v v1;obtain⟨X,hX⟩:=Ld d2
 obtain ⟨os,o1,o2,o3,o4⟩:=VU (n:=(C.map (·.1)).sum+1) H (λy hy=>by
  have:∀(l:LnQ) a,a∈l->a<=l.sum:=by
   intro l
   induction l with
   |nil=>trivial
   | cons b l ih=>
    grind
  have:=this _ _ (Zw.2 ⟨y,hy,rfl⟩:y.1∈C.map (·.1));omega) hx
 have dz:∀c,D*v c=dU (List.range m.length) (λk=>eZ m k c) X:=λc=>by grind[ov]
 obtain ⟨y,y1,y2,y3,y4⟩:=slv m.length (List.range m.length) List.length_range Xb A hA (os.map λc k=>eZ m k c) (λk=>eZ m k x.1) X (λe he i _=>by
  obtain⟨c,hc,rfl⟩:=Zw.1 he;exact hb i c) (λe he=>by
  obtain⟨c,hc,rfl⟩:=Zw.1 he;obtain⟨⟨z,hz,rfl⟩,hne⟩:=(o4 c).1 hc
  grind) (by grind[Yc])
 refine⟨λc=>dtV m.length (λk=>eZ m k c) y,h1 _ (Nf y m.length (Z8 _)),?_,λz hz hne=>?_,λj=>?_⟩
 .grind[ov]
 .grind[ov]
 .show(dtV m.length (λk=>eZ m k j) y).natAbs<=_
  rw[ov];rw[List.length_range]at y3;have:=ZK (us:=List.range m.length) (e:=λk=>eZ m k j) (x:=y) (λi _=>hb i j) (λi _=>y3 i)
  grind
theorem XH{n f:Nat}:∀{C:List (Nat×Ve)}{o:Nat},Hnf o C->(∀x∈C,x.1<n)->f<n->(∀x∈C,x.1≠f)->∃k:Ve,k f≠0∧(∀x∈C,dtV n x.2 k=0)∧∀j,j≠f->(∀x∈C,x.1≠j)->k j=0
 |[],o,H,hn,hf,hne=>⟨λj=>if j=f then 1 else 0,ac,λx hx=>absurd hx Yp,λj hj _=>if_neg hj⟩
 | (l,h)::C,o,⟨⟨a,b,c⟩,d,r⟩,hn,hf,hne=>by
  obtain⟨k,k1,k2,k3⟩:=XH r (λx hx=>hn x (by grind)) hf (λx hx=>hne x (by grind));have hl:=hn (l,h) ac;have hlf:=hne (l,h) ac
  have dt:∀g:Ve,dtV n g (λj=>h l*k j + -(dtV n h k)*(if j=l then 1 else 0))=h l*dtV n g k-dtV n h k*g l:=λg=>by
   rw[xT,vB,vB,AO,if_pos hl,Int.neg_mul];omega
  refine⟨λj=>h l*k j + -(dtV n h k)*(if j=l then 1 else 0),?_,λx hx=>?_,λj hj hx=>?_⟩
  .show h l*k f + -(dtV n h k)*(if f=l then 1 else 0)≠0
   rw[if_neg (λe=>hlf e.symm),Int.mul_zero,Int.add_zero];exact Yc aa k1
  .rw[dt];rcases Zx.1 hx with rfl|hx
   .grind
   .have:x.2 l=0:=rV r (Spn.mem (Zw.2 ⟨x,hx,rfl⟩)) l aa
    grind
  .show h l*k j + -(dtV n h k)*(if j=l then 1 else 0)=0
   rw[if_neg (λe=>hx (l,h) ac e.symm),k3 j hj (λy hy=>hx y (by grind))];simp
theorem XF{S:Ve->Prop}(H:Hnf o C)(hn:∀x∈C,x.1<n)(hs:∀v,Spn (vs C) v↔S v)(hS:∀u,S u->∀j,n<=j->u j=0)(hu:Krn n (Krn n S) u):∃D:Int,D≠0∧S λi=>D*u i:=by
 obtain⟨D,s,h1,h2,h3⟩:=J1 H u;have hsS:=(hs s).1 h2;have hsk:Krn n (Krn n S) s:=⟨λw hw=>by rw[rj];exact hw.1 s hsS,hS s hsS⟩;have hd:Krn n (Krn n S) λi=>D*u i + -1*s i:=(hu.mul D).add (hsk.mul (-1))
 have hz:∀f,D*u f + -1*s f=0:=λf=>by
  by_cases hf:f<n
  .by_cases hl:∃x∈C,x.1=f
   .grind
   .obtain⟨k,k1,k2,k3⟩:=XH H hn hf (λx hx e=>hl ⟨x,hx,e⟩)
    let k':Ve:=λj=>if j<n then k j else 0
    have dk:∀g:Ve,dtV n g k'=dtV n g k:=λg=>by
     grind[ov,Gx]
    have hk:Krn n S k':=⟨λw hw=>by
     grind[AP,vs],λj hj=>if_neg aa⟩
    have h4:=hd.1 k' hk
    have hval:dtV n k' (λi=>D*u i + -1*s i)=k f*(D*u f + -1*s f):=by
     have hfr:f∈List.range n:=Wy.2 hf;rw[ov,rr hfr,AT (us:=(List.range n).erase f)]
     .grind
     .intro t ht;obtain⟨t1,t2⟩:=Xb.mem_erase_iff.1 ht;by_cases hx:∃x∈C,x.1=t
      .obtain⟨x,hx,rfl⟩:=hx;have:=h3 x hx;rw[show D*u x.1 + -1*s x.1=0 by omega,Int.mul_zero]
      grind
    grind[Int.mul_eq_zero]
  .have a1:=hu.2 f aa;have a2:=hS s hsS f aa
   grind
 refine⟨D,h1,?_⟩;have e:(λi=>D*u i)=s:=funext λi=>by grind
 grind
theorem Rt{B:Nat}:∀(r:Nat){f g c o:Nat}{m:Mz}{x:Nat×Mz},clZ B f r c o m=some x->f<=g->clZ B g r c o m=some x
 |0,f,g,c,o,m,x,h,_=>h
 | r+1,f,g,c,o,m,x,h,hg=>by
  have h2:pI [] (λr=>r) (λ_ r=>r) B f (r+1) c o m=some x:=h
  show pI [] (λr=>r) (λ_ r=>r) B g (r+1) c o m=some x
  simp only[pI]at h2 ⊢;split at h2
  .rename_i ho;rw[if_pos ho];split at h2
   .rename_i o1 m1 hr;have hr2:nI [] (λr=>r) (λ_ r=>r) B c g o m=some (o1,m1):=Js f g hr hg;rw[hr2];exact Rt r h2 hg
   trivial
  grind
theorem Cb{B c:Nat}{m:Mz}{x:Nat×Mz}(h:rK B f c m=some x)(hg:f<=g):rK B g c m=some x:=Rt c h hg
theorem FQ{B:Nat}{m z:Mz}(h:vq B f n m=some z)(hg:f<=g):vq B g n m=some z:=by grind[vq,Cb,aal]
def shC(k:Nat)(m:List (Nat×Ve)):List (Nat×Ve):=(m.filter λx=>decide (k<=x.1)).map λx=>(x.1-k,λj=>x.2 (k+j))
theorem XU(k:Nat):∀{m:List (Nat×Ve)}{o:Nat},Hnf o m->Hnf (o-k) (shC k m)
 |[],o,H=>trivial
 | (l,h)::m,o,⟨⟨a,b,c⟩,d,r⟩=>by
  have ih:=XU k r;by_cases hk:k<=l
  .have e:shC k ((l,h)::m)=(l-k,λj=>h (k+j))::shC k m:=by simp[shC,List.filter_cons,hk]
   rw[e];refine⟨⟨aa,?_,λj hj=>c _ aa⟩,λx hx=>?_,?_⟩
   .show 0<h (k+(l-k))
    rw[show k+(l-k)=l by omega];exact b
   .obtain⟨y,hy,rfl⟩:=Zw.1 hx;obtain⟨hy,hky⟩:=Xw.1 hy;have hky:k<=y.1:=by simpa using hky
    show 0<=h (k+(y.1-k))∧h (k+(y.1-k))<y.2 (k+(y.1-k))
    rw[show k+(y.1-k)=y.1 by omega]
    grind
   .rw[show l+1-k=l-k+1 by omega]at ih;exact ih
  .have e:shC k ((l,h)::m)=shC k m:=by simp[shC,List.filter_cons,hk]
   rw[e];exact XT aa ih
theorem xP{L:Nat->Nat}{m:Mz}:∀{r i k:Nat},i<=k->k<i+r->(L k,ve (nth [] m k))∈ldZ L m r i
 |0,i,k,a,b=>by omega
 | r+1,i,k,a,b=>by
  by_cases e:k=i
  .grind[ldZ]
  .exact List.mem_cons_of_mem _ (xP aa aa)
theorem acF{L:Nat->Nat}{m w:Mz}(H:Hm (m.length+n) (m.length+n) o L w)(e:SpE (lG n m) w):
  ∃C,Hnf 0 C∧(∀v,Spn (vs C) v↔Krn n (SpZ m) v)∧∀r∈wE m.length (w.take o),∃x∈C,ve r=x.2:=by
 obtain⟨tl,H2,e2⟩:=Az H;have sp:∀u,SpZ (w.take o) u↔Wid n m u:=λu=>(((e.trans e2) u).symm).trans (Hz u)
 have hh:=tU H2 o 0 0 aa (λ_=>Y9 _);refine⟨shC m.length (ldZ L (w.take o) o 0),by have:=XU m.length hh;grind,λv=>?_,λr hr=>?_⟩
 .constructor
  .refine λh=>Krn.spn (λg hg=>?_) h
   obtain⟨x',hx',rfl⟩:=Zw.1 hg;obtain⟨x,hx,rfl⟩:=Zw.1 hx';obtain⟨hx,hk⟩:=Xw.1 hx;have hk:m.length<=x.1:=by simpa using hk
   obtain⟨i,_,hi,rfl⟩:=vj hx;have hw:=(sp (ve (nth [] (w.take o) i))).1 (ik aa);refine⟨λu hu=>?_,λj hj=>hw.2 _ aa⟩;refine AP (λg hg=>?_) hu;obtain⟨r,hr,rfl⟩:=Zw.1 hg;obtain⟨k,hk2,rfl⟩:=Zi.1 hr;have e1:m[k]=nth [] m k:=by rw[nth,Z6,List.getElem?_eq_getElem hk2];rfl
   rw[e1,<-hw.1 k hk2];have hk:m.length<=L i:=hk;exact H2.low i aa k aa
  .intro h
   let u:Ve:=λj=>if j<m.length then 0 else v (j-m.length)
   have hsh:(λj=>u (m.length+j))=v:=funext λj=>by
    grind
   have hw:Wid n m u:=by
    refine⟨λi hi=>?_,λj hj=>?_⟩
    .rw[hsh,h.1 _ (ik hi)]
     grind
    .show(if j<m.length then 0 else v (j-m.length))=0
     rw[if_neg aa];exact h.2 _ aa
   have h1:=(sp u).2 hw;rw[<-qJ H2 (Z8 _)]at h1;have h2:=zg hh m.length h1 (λj hj=>if_pos hj);have h3:=HR m.length h2;rw[hsh]at h3
   have e3:(vs ((ldZ L (w.take o) o 0).filter λx=>decide (m.length<=x.1))).map (λg j=>g (m.length+j))=vs (shC m.length (ldZ L (w.take o) o 0)):=by
    simp[vs,shC,Wj,Function.comp_def]
   grind
 .obtain⟨y,hy,rfl⟩:=Zw.1 hr;obtain⟨hy,hb⟩:=Xw.1 hy;obtain⟨i,hi,rfl⟩:=Zi.1 hy;have e1:(w.take o)[i]=nth [] (w.take o) i:=by rw[nth,Z6,List.getElem?_eq_getElem hi];rfl
  rw[e1]at hb ⊢;have hb:=((Kx _ _).1 hb).2
  have hk:m.length<=L i:=Decidable.byContradiction λhn=>by
   have:=H2.pos i aa;have h0:=hb (L i) aa
   grind
  refine⟨_,Zw.2 ⟨(L i,ve (nth [] (w.take o) i)),Xw.2 ⟨xP aa aa,by grind⟩,rfl⟩,funext λj=>JA _ _ _⟩
theorem aaG{m:Mz}(hE:1<=E)(hb:BdE E m):BdE E (lG n m):=λi j=>by
 by_cases hi:i<n
 .have:=zy (m:=m) hi j;simp only[ve]at this;simp only[eZ,this];split
  .exact hb j i
  .split<;>simp<;>omega
 grind[nth.eq_1,t8]
theorem uz{m:Mz}(h:m.length<=i)(j:Nat):eZ m i j=0:=by rw[eZ,show nth [] m i=[] by rw[nth,Z6,List.getElem?_eq_none h];rfl];rfl
theorem FP{m:Mz}(hn:n<=4)(hE:E<=10^9)(hb:BdE (10^9) m)(hcan:∀C:List (Nat×Ve),Hnf 0 C->(∀v,Spn (vs C) v↔Krn n (SpZ m) v)->∀x∈C,∀j,(x.2 j).natAbs<=E):
  ∃f z,vq 100000 f n m=some z∧BdE E z:=by
 obtain⟨f0,h0⟩:=Ca (m.length+n) (IZ n m) (by grind[t8]) (aaG af hb);obtain⟨o,w,hw⟩:=h0 f0 (Z8 _);obtain⟨⟨L,H⟩,e,hlw⟩:=D9 (IZ n m) hw;obtain⟨C,hC,hs,hr⟩:=acF H e
 have hbl:BdE (10^9) (wE m.length (w.take o)):=λi j=>by
  by_cases hi:i<(wE m.length (w.take o)).length
  .obtain⟨x,hx,ex⟩:=hr (wE m.length (w.take o))[i] (Yl hi);have e1:(wE m.length (w.take o))[i]=nth [] (wE m.length (w.take o)) i:=by rw[nth,Z6,List.getElem?_eq_getElem hi];rfl
   rw[e1]at ex;have:=congrFun ex j
   grind[ve]
  .rw[uz aa];simp
 have hlen:(wE m.length (w.take o)).length<=4:=by
  have h1:(wE m.length (w.take o)).length<=(w.take o).length:=by
   simp only[wE,List.length_map];exact List.length_filter_le _ _
  have h2:(w.take o).length<=w.length:=by rw[Zr];omega
  rw[hlw,t8]at h2;omega
 have key:∃f z,vq 100000 f n m=some z:=by
  obtain⟨f1,h1⟩:=Ca n (Rz (Az H).2.1.ln) hlen hbl;obtain⟨o1,w1,hw1⟩:=h1 (max f0 f1) aa;by_cases hz:wE m.length (w.take o)=[]
  .refine⟨f0,[],?_⟩;unfold vq;rw[hw]
   show(if wE m.length (w.take o)=[]then some []else _)=some []
   grind
  .refine⟨max f0 f1,w1.take o1,?_⟩;unfold vq;rw[Cb hw (by omega:f0<=max f0 f1)]
   show (if wE m.length (w.take o)=[]then some []else match rK 100000 (max f0 f1) n (wE m.length (w.take o))with
    |some (o,w)=>some (w.take o)
    |none=>none)=_
   grind
 obtain⟨f,z,hz⟩:=key;obtain⟨⟨L2,H2⟩,s2⟩:=Aq hz;refine⟨f,z,hz,λi j=>?_⟩;by_cases hi:i<z.length
 .have:=hcan (ldZ L2 z z.length 0) (tU H2 z.length 0 0 aa (λ_=>Y9 _)) (λv=>by grind[qJ]) _ (xP aa (by omega:i<0+z.length)) j;exact this
 .rw[uz aa];simp
def HmF(n:Nat)(m:Mz):Prop:=∃L,Hm n n m.length L m
structure ae6(E n:Nat)(m g w c:Mz)(f:Nat):Prop where
 g0:∃o g',rK 100000 f n m=some (o,g')∧g'.take o=g
 gw:vq 100000 f n g=some w
 wc:vq 100000 f n w=some c
 cw:vq 100000 f n c=some w
 hg:HmF n g
 hw:HmF n w
 hc:HmF n c
 bg:BdE (10^9) g
 bw:BdE E w
 bc:BdE (10^6) c
 sw:w.length=2->BdE 157464 w
 sc:c.length=2->BdE 157464 c
def se(E:Nat)(m:Mz):Prop:=∀C:List (Nat×Ve),Hnf 0 C->(∀v,Spn (vs C) v↔Krn 4 (SpZ m) v)->C.length=1->∀x∈C,∀j,(x.2 j).natAbs<=E
theorem Es{m:Mz}(hb:BdE 9 m):se (10^9) m:=λC hC hs h1 x hx j=>by
 have:=XG hC hs aa hb x hx j;rw[h1]at this;exact Zy this af
theorem abF{m:Mz}(hE:10^6<=E)(hE9:E<=10^9)(h1:se E m)(hn:n<=4)(hm:m.length<=3)(hl:Ln n m)(hb:BdE 9 m):∃g w c f,ae6 E n m g w c f:=by
 -- the form of the rows
 obtain⟨f0,h0⟩:=Ca n hl aa (hb.mono af);obtain⟨o,g',hg'⟩:=h0 f0 (Z8 _);obtain⟨⟨Lg,Hg⟩,eg⟩:=Iz hl hg';obtain⟨g,rfl⟩:=nmQ (g'.take o)
 have out:∀u,SpZ m u->∀j,n<=j->u j=0:=λu hu j hj=>by
  obtain⟨X,hX⟩:=Ld hu;rw[hX j,show(λk=>eZ m k j)=λ_=>0 from funext λk=>T6 hl hj,rj];exact re _ _
 have hC0:=tU Hg (g'.take o).length 0 0 aa (λ_=>Y9 _);have sC0:∀v,Spn (vs (ldZ Lg (g'.take o) (g'.take o).length 0)) v↔SpZ m v:=λv=>by rw[qJ Hg (Z8 _)];exact(eg v).symm
 have ltC0:∀x∈ldZ Lg (g'.take o) (g'.take o).length 0,x.1<n:=λx hx=>by
  obtain⟨k,_,hk,rfl⟩:=vj hx;exact Hg.lt k aa
 have sm:m.length*(9*slB m.length 9)<=78732:=by
  have:m.length=0∨m.length=1∨m.length=2∨m.length=3:=aa;rcases this with h|h|h|h<;>rw[h]<;>decide
 have small:∀(C:List (Nat×Ve)),C.length<=4->C.length*(m.length*(9*slB m.length 9))<=10^6:=λC hC=>by
  have:=Zp hC sm;omega
 have bg:BdE (10^9) (g'.take o):=λi j=>by
  by_cases hi:i<(g'.take o).length
  .have h1:=PK hC0 (λv hv=>(sC0 v).2 hv) (λv hv=>⟨1,aa,by grind⟩) aa hb _ (xP aa (by omega:i<0+(g'.take o).length)) j;have h2:=small _ (Zy (xN hC0 ltC0) hn);exact Zy h1 (Zy h2 af)
  .rw[uz aa];simp
 -- bounds of the kernels
 have can1:∀C:List (Nat×Ve),Hnf 0 C->(∀v,Spn (vs C) v↔Krn n (SpZ m) v)->∀x∈C,∀j,(x.2 j).natAbs<=E:=λC hC hs x hx j=>by
  have hlt:∀x∈C,x.1<n:=λx hx=>Decidable.byContradiction λh=>by
   have h1:=((hs x.2).1 (Spn.mem (Zw.2 ⟨x,hx,rfl⟩))).2 x.1 aa
   have hp:∀{C:List (Nat×Ve)}{o:Nat},Hnf o C->∀x∈C,0<x.2 x.1:=by
    intro C
    induction C with
    |nil=>simp
    | cons y C ih=>
     intro o H x hx;obtain⟨l,h⟩:=y;rcases Zx.1 hx with rfl|hx
     .exact H.1.2.1
     .exact ih H.2.2 x hx
   grind
  have hcl:=xN hC hlt;have hc0:0<C.length:=List.length_pos_of_mem hx;by_cases h4:n=4∧C.length=1
  .rw[h4.1]at hs;exact h1 C hC hs h4.2 x hx j
  refine Zy (Zy (XG hC hs aa hb x hx j) ?_) hE;generalize C.length=t at *;have h1:n=0∨n=1∨n=2∨n=3∨n=4:=aa;have h2:t=1∨t=2∨t=3∨t=4:=aa
  rcases h1 with h|h|h|h|h<;>subst h<;>rcases h2 with h|h|h|h<;>subst h<;>first
   |decide
   |omega
 have can2:∀C:List (Nat×Ve),Hnf 0 C->(∀v,Spn (vs C) v↔Krn n (Krn n (SpZ m)) v)->C.length<=4∧∀x∈C,∀j,(x.2 j).natAbs<=C.length*(m.length*(9*slB m.length 9)):=λC hC hs=>by
  have hlt:∀x∈C,x.1<n:=λx hx=>Decidable.byContradiction λh=>by
   have h1:=((hs x.2).1 (Spn.mem (Zw.2 ⟨x,hx,rfl⟩))).2 x.1 aa;rcases rc hC (v:=x.2) (Spn.mem (Zw.2 ⟨x,hx,rfl⟩))with z|⟨y,hy,y1,y2,_⟩
   .have hr:=Ay hC x hx;obtain⟨v,v1,v2,v3,v4⟩:=hr;exact v2 (((hs v).1 v1).2 x.1 aa)
   .obtain⟨v,v1,v2,v3,v4⟩:=Ay hC x hx;exact v2 (((hs v).1 v1).2 x.1 aa)
  refine⟨Zy (xN hC hlt) hn,PK hC (λv hv=>(hs v).2 ⟨λu hu=>by rw[rj];exact hu.1 v hv,out v hv⟩) (λv hv=>?_) aa hb⟩;exact XF hC0 ltC0 sC0 out ((hs v).1 hv)
 have eK:∀{S T:Ve->Prop},(∀v,S v↔T v)->∀v,Krn n S v↔Krn n T v:=λh v=>⟨FO λu hu=>(h u).2 hu,FO λu hu=>(h u).1 hu⟩
 -- the kernels
 obtain⟨f1,w,hw,bw⟩:=FP (E:=E) hn hE9 bg (λC hC hs=>can1 C hC λv=>(hs v).trans (eK (λu=>(eg u).symm) v));obtain⟨Hw,sw⟩:=Aq hw;have sw':∀v,SpZ w v↔Krn n (SpZ m) v:=λv=>(sw v).trans (eK (λu=>(eg u).symm) v)
 obtain ⟨f2,c,hc,bc⟩:=FP (E:=10^6) hn af (bw.mono hE9) (λC hC hs x hx j=>by
  obtain⟨h1,h2⟩:=can2 C hC λv=>(hs v).trans (eK sw' v)
  exact Zy (h2 x hx j) (small C h1))
 obtain⟨Hc,sc⟩:=Aq hc;have sc':∀v,SpZ c v↔Krn n (Krn n (SpZ m)) v:=λv=>(sc v).trans (eK sw' v)
 have s3:∀v,Krn n (SpZ c) v↔Krn n (SpZ m) v:=λv=>(eK sc' v).trans (S4 out v)
 obtain⟨f3,w2,hw2,_⟩:=FP (E:=E) hn hE9 (bc.mono af) (λC hC hs=>can1 C hC λv=>(hs v).trans (s3 v));obtain⟨⟨L2,H2⟩,sw2⟩:=Aq hw2;obtain⟨Lw,Hw'⟩:=Hw;have ew:w2=w:=abP H2 Hw' λv=>((sw2 v).trans (s3 v)).trans (sw' v).symm
 subst ew;refine⟨_,_,c,max (max f0 f1) (max f2 f3),⟨o,g',Cb hg' aa,rfl⟩,FQ hw aa,FQ hc aa,FQ hw2 aa,⟨Lg,Hg⟩,⟨Lw,Hw'⟩,Hc,bg,bw,bc,λh2 i j=>?_,λh2 i j=>?_⟩
 .by_cases hi:i<w2.length
  case neg=>rw[uz aa];simp
  have h1:=XG (tU Hw' w2.length 0 0 aa (λ_=>Y9 _)) (λv=>by rw[qJ Hw' (Z8 _)];exact sw' v) aa hb _ (xP aa (by omega:i<0+w2.length)) j;rw[xO,h2]at h1;refine Zy h1 ?_;have h1:n=0∨n=1∨n=2∨n=3∨n=4:=aa;rcases h1 with h|h|h|h|h<;>rw[h]<;>decide
 .by_cases hi:i<c.length
  case neg=>rw[uz aa];simp
  obtain⟨Lc,Hc'⟩:=Hc;obtain⟨_,h1⟩:=can2 _ (tU Hc' c.length 0 0 aa (λ_=>Y9 _)) (λv=>by rw[qJ Hc' (Z8 _)];exact sc' v);have h3:=h1 _ (xP aa (by omega:i<0+c.length)) j;rw[xO,h2]at h3;exact Zy h3 (Zy (Z0 2 sm) af)
end Go.Vm
namespace Go.Proofs
open Go.Shelf
def Tryz.laysPu14_ren:Go.Shelf.Ren:=⟨λ|14=>217|16=>193|17=>168|19=>213|20=>214|21=>194|22=>195|23=>196|24=>197|25=>215|27=>120|26=>216|28=>152|29=>183|30=>207|31=>208|32=>209|33=>210|35=>222|34=>221|36=>223|37=>224|38=>225|39=>228|40=>229|n=>n,λ|9=>9|3=>3|22=>209|24=>184|25=>240|4=>4|34=>239|5=>5|36=>195|37=>248|0=>0|39=>242|21=>21|44=>266|47=>273|50=>276|48=>274|2=>2|52=>255|55=>258|59=>271|60=>223|20=>20|61=>272|65=>278|66=>279|67=>280|n=>n,λ|0=>0|1=>1|2=>2|3=>3|4=>4|n=>n⟩
theorem Tryz.laysPu14:Go.Proofs.LaysPu.n14 Tryz.prog Tryz.laysPu14_ren:={
 mixed:=ag
 f14:=Tryz.func217.trans (congrArg some ag)
 f16:=Tryz.func193.trans (congrArg some ag)
 f17:=Tryz.func168.trans (congrArg some ag)
 f19:=Tryz.func213.trans (congrArg some ag)
 f20:=Tryz.func214.trans (congrArg some ag)
 f21:=Tryz.func194.trans (congrArg some ag)
 f22:=Tryz.func195.trans (congrArg some ag)
 f23:=Tryz.func196.trans (congrArg some ag)
 f24:=Tryz.func197.trans (congrArg some ag)
 f25:=Tryz.func215.trans (congrArg some ag)
 f26:=Tryz.func216.trans (congrArg some ag)
 f27:=Tryz.func120.trans (congrArg some ag)
 f28:=Tryz.func152.trans (congrArg some ag)
 f29:=Tryz.func183.trans (congrArg some ag)
 f30:=Tryz.func207.trans (congrArg some ag)
 f31:=Tryz.func208.trans (congrArg some ag)
 f32:=Tryz.func209.trans (congrArg some ag)
 f33:=Tryz.func210.trans (congrArg some ag)
 f34:=Tryz.func221.trans (congrArg some ag)
 f35:=Tryz.func222.trans (congrArg some ag)
 f36:=Tryz.func223.trans (congrArg some ag)
 f37:=Tryz.func224.trans (congrArg some ag)
 f38:=Tryz.func225.trans (congrArg some ag)
 f39:=Tryz.func228.trans (congrArg some ag)
 f40:=Tryz.func229.trans (congrArg some ag)
 t0:=Tryz.underlying0
 a0:=Tryz.isAgg0
 z0:=Tryz.sizeOf0
 v0:=Tryz.zeroValue0
 i0:=ag
 t2:=Tryz.underlying2
 a2:=Tryz.isAgg2
 z2:=Tryz.sizeOf2
 v2:=Tryz.zeroValue2
 i2:=ag
 t3:=Tryz.underlying3
 a3:=Tryz.isAgg3
 z3:=Tryz.sizeOf3
 v3:=Tryz.zeroValue3
 i3:=ag
 t4:=Tryz.underlying4
 a4:=Tryz.isAgg4
 z4:=Tryz.sizeOf4
 v4:=Tryz.zeroValue4
 i4:=ag
 t5:=Tryz.underlying5
 a5:=Tryz.isAgg5
 z5:=Tryz.sizeOf5
 v5:=Tryz.zeroValue5
 i5:=ag
 t9:=Tryz.underlying9
 a9:=Tryz.isAgg9
 z9:=Tryz.sizeOf9
 v9:=Tryz.zeroValue9
 i9:=ag
 t20:=Tryz.underlying20
 a20:=Tryz.isAgg20
 z20:=Tryz.sizeOf20
 v20:=Tryz.zeroValue20
 i20:=ag
 t21:=Tryz.underlying21
 a21:=Tryz.isAgg21
 z21:=Tryz.sizeOf21
 v21:=Tryz.zeroValue21
 i21:=ag
 t22:=Tryz.underlying209
 a22:=Tryz.isAgg209
 z22:=Tryz.sizeOf209
 v22:=Tryz.zeroValue209
 i22:=ag
 t24:=Tryz.underlying184
 a24:=Tryz.isAgg184
 z24:=Tryz.sizeOf184
 v24:=Tryz.zeroValue184
 i24:=ag
 t25:=Tryz.underlying240
 a25:=Tryz.isAgg240
 z25:=Tryz.sizeOf240
 v25:=Tryz.zeroValue240
 i25:=ag
 t34:=Tryz.underlying239
 a34:=Tryz.isAgg239
 z34:=Tryz.sizeOf239
 v34:=Tryz.zeroValue239
 i34:=ag
 c34:=ag
 t36:=Tryz.underlying195
 a36:=Tryz.isAgg195
 z36:=Tryz.sizeOf195
 v36:=Tryz.zeroValue195
 i36:=ag
 t37:=Tryz.underlying248
 a37:=Tryz.isAgg248
 z37:=Tryz.sizeOf248
 v37:=Tryz.zeroValue248
 i37:=ag
 t39:=Tryz.underlying242
 a39:=Tryz.isAgg242
 z39:=Tryz.sizeOf242
 v39:=Tryz.zeroValue242
 i39:=ag
 t44:=Tryz.underlying266
 a44:=Tryz.isAgg266
 z44:=Tryz.sizeOf266
 v44:=Tryz.zeroValue266
 i44:=ag
 t47:=Tryz.underlying273
 a47:=Tryz.isAgg273
 z47:=Tryz.sizeOf273
 v47:=Tryz.zeroValue273
 i47:=ag
 t48:=Tryz.underlying274
 a48:=Tryz.isAgg274
 z48:=Tryz.sizeOf274
 v48:=Tryz.zeroValue274
 i48:=ag
 t50:=Tryz.underlying276
 a50:=Tryz.isAgg276
 z50:=Tryz.sizeOf276
 v50:=Tryz.zeroValue276
 i50:=ag
 t52:=Tryz.underlying255
 a52:=Tryz.isAgg255
 z52:=Tryz.sizeOf255
 v52:=Tryz.zeroValue255
 i52:=ag
 t55:=Tryz.underlying258
 a55:=Tryz.isAgg258
 z55:=Tryz.sizeOf258
 v55:=Tryz.zeroValue258
 i55:=ag
 t59:=Tryz.underlying271
 a59:=Tryz.isAgg271
 z59:=Tryz.sizeOf271
 v59:=Tryz.zeroValue271
 i59:=ag
 t60:=Tryz.underlying223
 a60:=Tryz.isAgg223
 z60:=Tryz.sizeOf223
 v60:=Tryz.zeroValue223
 i60:=ag
 t61:=Tryz.underlying272
 a61:=Tryz.isAgg272
 z61:=Tryz.sizeOf272
 t65:=Tryz.underlying278
 a65:=Tryz.isAgg278
 z65:=Tryz.sizeOf278
 v65:=Tryz.zeroValue278
 i65:=ag
 t66:=Tryz.underlying279
 a66:=Tryz.isAgg279
 z66:=Tryz.sizeOf279
 v66:=Tryz.zeroValue279
 i66:=ag
 t67:=Tryz.underlying280
 a67:=Tryz.isAgg280
 z67:=Tryz.sizeOf280
 v67:=Tryz.zeroValue280
 i67:=ag
 g0:=ag
 m0:=ag
 g1:=ag
 m1:=ag
 g2:=ag
 m2:=ag
 g3:=ag
 m3:=ag
 g4:=ag
 m4:=by kernel_rfl}
def Tryz.laysC174_ren:Go.Shelf.Ren:=⟨λ|174=>134|247=>167|245=>168|287=>193|279=>194|280=>195|281=>196|282=>197|321=>213|322=>214|316=>215|171=>120|205=>216|243=>152|246=>183|283=>207|284=>208|285=>209|286=>210|129=>222|317=>221|318=>223|319=>224|320=>225|337=>228|338=>229|n=>n,λ|9=>9|3=>3|2=>2|75=>184|85=>185|4=>4|167=>239|5=>5|53=>209|175=>240|46=>195|168=>242|37=>248|0=>0|210=>266|21=>21|127=>273|145=>276|143=>274|171=>255|173=>258|212=>271|51=>223|20=>20|213=>272|232=>278|233=>279|80=>280|n=>n,λ|15=>0|16=>1|17=>2|18=>3|19=>4|n=>n⟩
theorem Tryz.laysC174:Go.Proofs.LaysC.n174 Tryz.prog Tryz.laysC174_ren:={
 mixed:=ag
 f129:=Tryz.func222.trans (congrArg some ag)
 f171:=Tryz.func120.trans (congrArg some ag)
 f174:=Tryz.func134.trans (congrArg some ag)
 f205:=Tryz.func216.trans (congrArg some ag)
 f243:=Tryz.func152.trans (congrArg some ag)
 f245:=Tryz.func168.trans (congrArg some ag)
 f246:=Tryz.func183.trans (congrArg some ag)
 f247:=Tryz.func167.trans (congrArg some ag)
 f279:=Tryz.func194.trans (congrArg some ag)
 f280:=Tryz.func195.trans (congrArg some ag)
 f281:=Tryz.func196.trans (congrArg some ag)
 f282:=Tryz.func197.trans (congrArg some ag)
 f283:=Tryz.func207.trans (congrArg some ag)
 f284:=Tryz.func208.trans (congrArg some ag)
 f285:=Tryz.func209.trans (congrArg some ag)
 f286:=Tryz.func210.trans (congrArg some ag)
 f287:=Tryz.func193.trans (congrArg some ag)
 f316:=Tryz.func215.trans (congrArg some ag)
 f317:=Tryz.func221.trans (congrArg some ag)
 f318:=Tryz.func223.trans (congrArg some ag)
 f319:=Tryz.func224.trans (congrArg some ag)
 f320:=Tryz.func225.trans (congrArg some ag)
 f321:=Tryz.func213.trans (congrArg some ag)
 f322:=Tryz.func214.trans (congrArg some ag)
 f337:=Tryz.func228.trans (congrArg some ag)
 f338:=Tryz.func229.trans (congrArg some ag)
 t0:=Tryz.underlying0
 a0:=Tryz.isAgg0
 z0:=Tryz.sizeOf0
 v0:=Tryz.zeroValue0
 t2:=Tryz.underlying2
 a2:=Tryz.isAgg2
 z2:=Tryz.sizeOf2
 v2:=Tryz.zeroValue2
 t3:=Tryz.underlying3
 a3:=Tryz.isAgg3
 z3:=Tryz.sizeOf3
 v3:=Tryz.zeroValue3
 t4:=Tryz.underlying4
 a4:=Tryz.isAgg4
 z4:=Tryz.sizeOf4
 v4:=Tryz.zeroValue4
 t5:=Tryz.underlying5
 a5:=Tryz.isAgg5
 z5:=Tryz.sizeOf5
 v5:=Tryz.zeroValue5
 t9:=Tryz.underlying9
 a9:=Tryz.isAgg9
 z9:=Tryz.sizeOf9
 v9:=Tryz.zeroValue9
 t20:=Tryz.underlying20
 a20:=Tryz.isAgg20
 z20:=Tryz.sizeOf20
 v20:=Tryz.zeroValue20
 t21:=Tryz.underlying21
 a21:=Tryz.isAgg21
 z21:=Tryz.sizeOf21
 v21:=Tryz.zeroValue21
 t37:=Tryz.underlying248
 a37:=Tryz.isAgg248
 z37:=Tryz.sizeOf248
 v37:=Tryz.zeroValue248
 t46:=Tryz.underlying195
 a46:=Tryz.isAgg195
 z46:=Tryz.sizeOf195
 v46:=Tryz.zeroValue195
 t51:=Tryz.underlying223
 a51:=Tryz.isAgg223
 z51:=Tryz.sizeOf223
 v51:=Tryz.zeroValue223
 t53:=Tryz.underlying209
 a53:=Tryz.isAgg209
 z53:=Tryz.sizeOf209
 v53:=Tryz.zeroValue209
 t75:=Tryz.underlying184
 a75:=Tryz.isAgg184
 z75:=Tryz.sizeOf184
 v75:=Tryz.zeroValue184
 t85:=Tryz.underlying185
 a85:=Tryz.isAgg185
 z85:=Tryz.sizeOf185
 v85:=Tryz.zeroValue185
 t127:=Tryz.underlying273
 a127:=Tryz.isAgg273
 z127:=Tryz.sizeOf273
 v127:=Tryz.zeroValue273
 t143:=Tryz.underlying274
 a143:=Tryz.isAgg274
 z143:=Tryz.sizeOf274
 v143:=Tryz.zeroValue274
 t145:=Tryz.underlying276
 a145:=Tryz.isAgg276
 z145:=Tryz.sizeOf276
 v145:=Tryz.zeroValue276
 t167:=Tryz.underlying239
 a167:=Tryz.isAgg239
 z167:=Tryz.sizeOf239
 v167:=Tryz.zeroValue239
 t168:=Tryz.underlying242
 a168:=Tryz.isAgg242
 z168:=Tryz.sizeOf242
 v168:=Tryz.zeroValue242
 t171:=Tryz.underlying255
 a171:=Tryz.isAgg255
 z171:=Tryz.sizeOf255
 v171:=Tryz.zeroValue255
 t173:=Tryz.underlying258
 a173:=Tryz.isAgg258
 z173:=Tryz.sizeOf258
 v173:=Tryz.zeroValue258
 t175:=Tryz.underlying240
 a175:=Tryz.isAgg240
 z175:=Tryz.sizeOf240
 v175:=Tryz.zeroValue240
 t210:=Tryz.underlying266
 a210:=Tryz.isAgg266
 z210:=Tryz.sizeOf266
 v210:=Tryz.zeroValue266
 t212:=Tryz.underlying271
 a212:=Tryz.isAgg271
 z212:=Tryz.sizeOf271
 v212:=Tryz.zeroValue271
 t213:=Tryz.underlying272
 a213:=Tryz.isAgg272
 z213:=Tryz.sizeOf272
 t232:=Tryz.underlying278
 a232:=Tryz.isAgg278
 z232:=Tryz.sizeOf278
 v232:=Tryz.zeroValue278
 t233:=Tryz.underlying279
 a233:=Tryz.isAgg279
 z233:=Tryz.sizeOf279
 v233:=Tryz.zeroValue279
 g15:=ag
 g16:=ag
 g17:=ag
 g18:=ag
 g19:=ag
 t80:=Tryz.underlying280
 a80:=Tryz.isAgg280
 z80:=Tryz.sizeOf280
 v80:=Tryz.zeroValue280
 i0:=ag
 i2:=ag
 i3:=ag
 i4:=ag
 i5:=ag
 i9:=ag
 i20:=ag
 i21:=ag
 i37:=ag
 i46:=ag
 i51:=ag
 i53:=ag
 i75:=ag
 i80:=ag
 i85:=ag
 i127:=ag
 i143:=ag
 i145:=ag
 i167:=ag
 i168:=ag
 i171:=ag
 i173:=ag
 i175:=ag
 i210:=ag
 i212:=ag
 i232:=ag
 i233:=ag
 m15:=ag
 m16:=ag
 m17:=ag
 m18:=ag
 m19:=ag
 c0:=ag
 c2:=ag
 c3:=ag
 c4:=ag
 c5:=ag
 c9:=ag
 c20:=ag
 c21:=ag
 c37:=ag
 c46:=ag
 c51:=ag
 c53:=ag
 c75:=ag
 c80:=ag
 c85:=ag
 c127:=ag
 c143:=ag
 c145:=ag
 c167:=ag
 c168:=ag
 c171:=ag
 c173:=ag
 c175:=ag
 c210:=ag
 c212:=ag
 c213:=ag
 c232:=ag
 c233:=by kernel_rfl}
end Go.Proofs
namespace Go.Vm
open Go Go.Am
variable{l:LuQ}
theorem Rf:∀(l:LuQ)(a:Nat),a<=qg a l
 |[],a=>Z8 _
 | c::l,a=>by
  have h:a*10+(c.toNat-48)<=qg (a*10+(c.toNat-48)) l:=Rf l _;have e:qg a (c::l)=qg (a*10+(c.toNat-48)) l:=rfl;generalize qg a (c::l)=y at *;generalize qg (a*10+(c.toNat-48)) l=z at *;generalize c.toNat-48=d at *;omega
theorem rT:∀(l:LuQ)(a:Nat),l.all pm=true->qg a l<10000000000000000000->Lib.parseUintM (2^64-1) a l=.ok (qg a l)
 |[],a,_,_=>rfl
 | c::l,a,h,hd=>by
  simp only[List.all_cons,Z7,pm,Nat.ble_eq]at h;have e:qg a (c::l)=qg (a*10+(c.toNat-48)) l:=rfl;rw[e]at hd ⊢;have hge:=Rf l (a*10+(c.toNat-48));rw[Lib.parseUintM,if_pos h.1,if_neg aa,if_neg aa];exact rT l _ h.2 hd
theorem frz(w:World)(e:TypeId)(s:ByteArray):w.heap.size<=(Lib.bytesWorld w e s).heap.size∧(∀c,c<w.heap.size->(Lib.bytesWorld w e s).heap[c]?=w.heap[c]?)∧(Lib.bytesWorld w e s).os=w.os∧(Lib.bytesWorld w e s).output=w.output:=
 ⟨by rw[Lib.bytesWorld_size];omega,λc hc=>Lib.bytesWorld_at_old w e s c hc,rfl,rfl⟩
theorem ZC{c:UInt8}(h:pm c=true):¬c.toNat=43∧¬c.toNat=45:=by simp only[pm,Z7,Nat.ble_eq]at h;omega
theorem SE(hne:l≠[])(hall:l.all pm=true)(hlt:qg 0 l<9223372036854775808):Lib.parseIntB 64 l=.ok (qg 0 l:Int):=by
 cases l with
 |nil=>exact absurd rfl hne
 | cons c r=>
  have hc:=ZC (Z1.1 hall c ac)
  have hp:Lib.parseUintB 64 (c::r)=.ok (qg 0 (c::r)):=by
   rw[Lib.parseUintB,if_neg hne];exact rT _ _ hall aa
  unfold Lib.parseIntB;simp only[hc.1,hc.2,or_self,if_false,hp];rw[if_neg aX,if_neg ac]
theorem SD(hne:l≠[])(hall:l.all pm=true)(hlt:qg 0 l<9223372036854775808):Lib.parseIntB 64 (45::l)=.ok (-(qg 0 l:Int)):=by
 have hp:Lib.parseUintB 64 l=.ok (qg 0 l):=by
  rw[Lib.parseUintB,if_neg hne];exact rT _ _ hall aa
 have h45:(45:UInt8).toNat=45:=rfl;unfold Lib.parseIntB;simp only[h45,or_true,if_true,hp];rw[if_neg ac,if_neg aX]
theorem afU:adx X:=by
 intro f args v h;simp only[X]at h;split at h
 .rename_i hf;obtain rfl:=Zk hf;unfold LV at h;split at h
  .rename_i s a b;split at h
   .rename_i hc;obtain⟨rfl,rfl,hne,hall,hsz,hlt⟩:=hc;obtain rfl:=Option.some.inj h;refine⟨rfl,rfl,.inr ⟨⟨_,Go.Proofs.Tryz.func217,ag,ag⟩,λw=>?_⟩⟩
    have hp:Lib.parseUintB 64 s.data.toList=.ok (qg 0 s.data.toList):=by
     rw[Lib.parseUintB,if_neg hne];exact rT _ _ hall hlt
    have hsz2:s.size=s.data.toList.length:=by rw[Array.length_toList];rfl
    have hmax:s.size≤9223372036854775806:=aa;refine(Go.Proofs.Any.strconv_ParseUint_10_at64_ok Go.Proofs.Tryz.laysPu14 s hmax _ hp w).mono ?_;rintro e w' ⟨rfl,rfl|rfl⟩
    .exact⟨rfl,Z8 _,λ_ _=>rfl,rfl,rfl⟩
    .exact⟨rfl,frz w _ s⟩
   .cases h
  .cases h
 .split at h
  .rename_i hf;obtain rfl:=Zk hf
   have key:∀(s:ByteArray)(z:Int),s.data.toList.length≤1001→Lib.parseIntB 64 s.data.toList=.ok z→v=.tuple #[.int .i64 z,.nilIface]→args=[.string s,.int .i64 10,.int .i64 64] →
     cX args=true∧plain v=true∧(Pj X F.fE args v∨(∃fn,Go.Proofs.Tryz.prog.funcs[F.fE]?=some fn∧fn.body.isNone=false∧(fn.name == "runtime.NumGoroutine")=false) ∧
     ∀w,Calls Go.Proofs.Tryz.prog F.fE args.toArray w λe w'=>e=.returned v∧w.heap.size≤w'.heap.size∧(∀c,c<w.heap.size→w'.heap[c]?=w.heap[c]?)∧w'.os=w.os∧w'.output=w.output):=by
    intro s z hl hp hv ha;subst hv;subst ha;refine⟨rfl,rfl,.inr ⟨⟨_,Go.Proofs.Tryz.func134,ag,ag⟩,λw=>?_⟩⟩;have hsz2:s.size=s.data.toList.length:=by rw[Array.length_toList];rfl
    refine(Go.Proofs.Any.strconv_ParseInt_10_at64_ok Go.Proofs.Tryz.laysC174 s aa z hp w).mono ?_;rintro e w' ⟨rfl,rfl|⟨t,rfl⟩⟩
    .exact⟨rfl,Z8 _,λ_ _=>rfl,rfl,rfl⟩
    .exact⟨rfl,frz w _ t⟩
   unfold Qe at h;split at h
   .rename_i s a b;split at h
    .rename_i hab;obtain⟨rfl,rfl⟩:=hab;split at h
     .rename_i l hs;split at h
      .rename_i hc;obtain⟨hne,hall,hsz,hlt⟩:=hc;obtain rfl:=Option.some.inj h;exact key s _ (by rw[hs];simp;omega) (by rw[hs];exact SD hne hall hlt) rfl rfl
      .cases h
     .rename_i l hs;split at h
      .rename_i hc;obtain⟨hne,hall,hsz,hlt⟩:=hc;obtain rfl:=Option.some.inj h;exact key s _ aa (SE hne hall hlt) rfl rfl
      .cases h
    .cases h
   .cases h
  .cases h
end Go.Vm
namespace Go.Proofs
open Go.RowKit Go.Shelf
attribute [local go_sem] Oper.semAt_some
def ae5(W:World)(B o k c s:Nat):Prop:=∃(a:Option Addr)(cap:Nat),W.cell? ⟨B,o,none⟩=some (.slice a k cap)∧(0<k->a=some ⟨c,s,none⟩)
def agJ(W:World)(B o B2 o2 k c s c2 s2:Nat)(us vs:LvQ):Prop:=
 ae5 W B o k c s∧ae5 W B2 o2 k c2 s2∧(∀(i:Nat) v,us[i]?=some v->W.cell? ⟨c,s+i,none⟩=some v)∧∀(i:Nat) v,vs[i]?=some v->W.cell? ⟨c2,s2+i,none⟩=some v
set_option maxRecDepth 100000 in
set_option maxHeartbeats 2000000 in
theorem acS(l B o k c s c2 s2:Nat)(us vs:LvQ)(hu:us.length=k)(hv:vs.length=k)(hk:k<4611686018427387904)(J Jx:Nat->World->Prop)
  (hV:∀i W1,J i W1->agJ W1 B o B (o+1) k c s c2 s2 us vs)
  (hY:∀(i:Nat) x y W1,J i W1->us[i]?=some x->vs[i]?=some y->YieldAt (Go.Am.Fw none) 0 Tryz.prog l #[x,y] W1 λe W'=>(e=.returned (.bool true)∧J (i+1) W')∨(e=.returned (.bool false)∧Jx (i+1) W'))
  (W:World) (h0:J 0 W) :
  CallsIn (Go.Am.Fw none) 1 Tryz.prog 204 #[.func (.yield l) #[] #[],.pointer (some ⟨B,o,none⟩)] W λe W'=>(∃v,e=.returned v)∧(J k W'∨∃i,Jx i W'):=by
 refine callsIn_of_wp Tryz.func204 rfl trivial ?_ rfl;simp only[Tryz.ntmps204,List.size_toArray,List.length_cons,List.length_nil,Nat.reduceAdd,Nat.reduceSub,Array.replicate_succ,Array.replicate_zero,List.push_toArray,List.append_toArray,List.nil_append,List.cons_append];obtain⟨⟨a,cap,hc0,ha⟩,_⟩:=hV 0 W h0
 gi_wp2
 gi_loopw [8] (λi wr=>∃j:Nat,j<=k∧i=.int .i64 j∧J j wr) (λi _=>k-(intOf i).toNat)
 case atStart=>grind
 case round=>
  obtain⟨j,hj,rfl,hJs⟩:=hrel;by_cases hlt:j<k
  .obtain rfl:=ha aa;have ex:∃x,us[j]?=some x:=⟨_,List.getElem?_eq_getElem aa⟩;have ey:∃y,vs[j]?=some y:=⟨_,List.getElem?_eq_getElem aa⟩;obtain⟨x,hx⟩:=ex;obtain⟨y,hy'⟩:=ey;obtain⟨_,⟨a2,cap2,hc2,ha2⟩,hus,hvs⟩:=hV j wr hJs;obtain rfl:=ha2 aa;have hcx:=hus j x hx;have hcy:=hvs j y hy';obtain⟨fn,tmps,assign,body,hy,hR⟩:=hY j x y wr hJs hx hy'
   clear hx hy' hus hvs
   gi_wp2
   refine hR.mono ?_;rintro e W3 (⟨rfl,hJ3⟩|⟨rfl,hJx3⟩)
   .gi_wp2
    go_roundw
    case rel=>exact⟨j+1,aa,ac,hJ3⟩
    case measure=>simp[intOf];omega
   .gi_wp2
    refine bodyPost_ret (results_none rfl _ _ _) rfl ?_;exact⟨⟨_,rfl⟩,.inr ⟨_,hJx3⟩⟩
  .obtain rfl:j=k:=aa
   gi_wp2
   simp_all[bodyPost_end,results_none]
end Go.Proofs
namespace Go.Vm
open Go Go.Am Go.Proofs
noncomputable section
variable{f:FuncId}{p q v a b:Value}{xs:List LvQ}
theorem TG{P:Program}{args:Array Value}{w:World}{R:Ending->World->Prop}(h:CallsIn (Fw none) 1 P f args w R):CallsIn (Fw none) 0 P f args w R:=
 ⟨h.1,λcs _=>h.2 cs (λd hd=>by trivial)⟩
def hd1(x:LvQ):Value:=x.headD default
def sd1(x:LvQ):Value:=x.tail.headD default
theorem Pk:∀(us vs:LvQ),us.length=vs.length->(((us.zip vs).map λx=>[x.1,x.2]).map hd1)=us∧(((us.zip vs).map λx=>[x.1,x.2]).map sd1)=vs
 |[],[],_=>⟨rfl,rfl⟩
 | u::us,v::vs,h=>by
  obtain⟨h1,h2⟩:=Pk us vs (by grind);simp only[List.zip_cons_cons,Zs,h1,h2];trivial
 |[],_::_,h=>by simp at h
 |_::_,[],h=>by simp at h
theorem KE{H:AH}(h:ND H p q=some xs):nC H 1 p=some (xs.length,xs.map hd1)∧nC H 1 q=some (xs.length,xs.map sd1)∧xs.length<4611686018427387904∧OE p=true∧OE q=true ∧
  ∀x∈xs,x=[hd1 x,sd1 x]∧plain (hd1 x)=true∧plain (sd1 x)=true:=by
 unfold ND at h;split at h
 case h_2=>cases h
 rename_i k us k' vs hp hq;split at h
 case isFalse=>cases h
 rename_i hc;obtain⟨h1,h2,h3,h4,h5,h6,h7⟩:=hc;simp only[Z9]at h;subst h;obtain⟨m1,m2⟩:=Pk us vs aa;have hl:((us.zip vs).map λx=>[x.1,x.2]).length=k:=by simp;omega
 rw[m1,m2,hl];simp only[Z7]at h5;refine⟨hp,by rw[hq,h1],h4,h5.1,h5.2,λx hx=>?_⟩;obtain⟨⟨a,b⟩,hab,rfl⟩:=Zw.1 hx;have:=List.of_mem_zip hab;have e1:=Z1.1 h6 a this.1;have e2:=Z1.1 h7 b this.2;simp only[Z7]at e1 e2;exact⟨rfl,e1.1,e2.1⟩
theorem PM{X:Cfg}{φ:bJ}(hp:OE p=true)(hv:ak φ p v):∃c s:Nat,∀(φ':bJ)(H':AH)(w':World)(k:Nat)(us:LvQ),bh X φ' H' w'->PLe φ φ'->nC H' 1 p=some (k,us)->us.length=k->(∀u∈us,plain u=true) ->
  ∀B o v',w'.cell? ⟨B,o,none⟩=some v'->ak φ' p v'->ae5 w' B o k c s∧∀(i:Nat) u,us[i]?=some u->w'.cell? ⟨c,s+i,none⟩=some u:=by
 cases p<;>simp only[OE]at hp<;>try cases hp
 rename_i a n cap;cases a with
 | none=>
  refine⟨0,0,λφ' H' w' k us hh _ hs hk _ B o v' hc hv'=>?_⟩;have e:=gW hv';subst e;cases n with
  | zero=>
   simp only[nC,Z9,Z5]at hs;obtain⟨rfl,rfl⟩:=hs;exact⟨⟨none,cap,hc,λh=>absurd h aa⟩,λi u hi=>by simp at hi⟩
  |succ n=>trivial
 | some a=>
  obtain⟨a',c',rfl,hs⟩:=iq hv
  have hpl:a.spot=none∧∃pl,φ a.block=some pl:=by
   rcases hs with⟨h1,_,pl,hp,_⟩|⟨h1,_,_,_,pl,hp⟩
   .grind
   .grind
  obtain⟨hsp,pl,hpl⟩:=hpl;obtain⟨b,off,sp⟩:=a;simp only at hsp hpl;subst hsp;refine⟨pl.c,pl.s+off,λφ' H' w' k us hh hle hs' hk hpl' B o v' hc hv'=>?_⟩;obtain⟨⟨b2,o2,s2⟩,c2,rfl,hs2⟩:=iq hv';have hpb:=hle _ _ hpl;simp only[nC]at hs';split at hs'
  .rename_i hn;simp only[Z9,Z5]at hs';obtain⟨rfl,rfl⟩:=hs';subst hn;exact⟨⟨_,c2,hc,λh=>absurd h aa⟩,λi u hi=>by simp at hi⟩
  .rename_i hn;simp only[X8,Z4,Z5]at hs';obtain⟨cs,hr,rfl,rfl⟩:=hs';obtain⟨cs',r1,r2,r3,r4⟩:=hh.read hr hpb
   have hb:b2=pl.c∧o2=pl.s+off∧s2=none:=by
    rcases hs2 with⟨_,h2,pl2,hp2,h3,h4,_⟩|⟨_,h0,_⟩
    .grind
    .omega
   obtain⟨rfl,rfl,rfl⟩:=hb;refine⟨⟨_,c2,hc,λ_=>rfl⟩,λi u hi=>?_⟩
   grind[am.at,o6,ak.of_plain]
theorem SC{x:LvQ}(h:x=[hd1 x,sd1 x]∧plain (hd1 x)=true∧plain (sd1 x)=true):cX x=true:=by grind[cX]
theorem adM(hpl:∀x∈xs,x=[hd1 x,sd1 x]∧plain (hd1 x)=true∧plain (sd1 x)=true){i:Nat}(ha:(xs.map hd1)[i]?=some a)(hb:(xs.map sd1)[i]?=some b):xs[i]?=some [a,b]:=by grind
theorem aey {fn:Func}(h:Tryz.prog.funcs[f]?=some fn)(hb:fn.body.isNone=false)(hn:(fn.name == "runtime.NumGoroutine")=false):∃fn,X.P.funcs[f]?=some fn∧fn.body.isNone=false∧(fn.name == "runtime.NumGoroutine")=false:=⟨fn,h,hb,hn⟩
set_option maxRecDepth 100000 in
theorem aeA:∃fn,X.P.funcs[204]?=some fn∧fn.body.isNone=false∧(fn.name == "runtime.NumGoroutine")=false:=aey Tryz.func204 rfl (by rfl)
theorem afN:RI X:=by
 intro gf lb H xs h0;have h:Jq gf lb H=some xs:=h0;clear h0;unfold Jq at h;split at h
 .rename_i hg;have hg:gf=204:=Zk hg;subst hg;split at h
  case h_2=>cases h
  rename_i b o;split at h
  case h_2=>cases h
  rename_i p q d hrd;obtain⟨s1,s2,s3,s4,s5,hpl⟩:=KE h;refine⟨λx hx=>SC (hpl x hx),aeA,λφ w lb' hh hl=>?_⟩;simp only[am]at hl;obtain⟨v',r,rfl,hv',rfl⟩:=hl;obtain⟨pl,hpb,rfl⟩:=tB hv';obtain⟨cs',r1,r2,r3,r4⟩:=hh.read hrd hpb;simp only[am]at r1;obtain⟨p',_,rfl,hp',q',_,rfl,hq',d',_,rfl,hd',rfl⟩:=r1;obtain⟨c,s,base⟩:=PM (X:=X) s4 hp'
  obtain⟨c2,s2',base2⟩:=PM (X:=X) s5 hq';refine⟨λW=>agJ W pl.c (pl.s+o) pl.c (pl.s+o+1) xs.length c s c2 s2' (xs.map hd1) (xs.map sd1),λφ' H' w' hh' hle hl' hs hk=>?_,λl J Jx W hV hY h0=>?_⟩
  .have hk:(b9 H' b o 3).getD []=(b9 H b o 3).getD []:=hk;have hs:Jq 204 [.pointer (some ⟨b,o,none⟩)] H'=some xs:=hs;rw[hrd]at hk
   have hrd':b9 H' b o 3=some [p,q,d]:=by
    cases hr:b9 H' b o 3 with
    |none=>grind
    |some cs=>grind
   have hz:ND H' p q=some xs:=by
    unfold Jq at hs;rw[show Nat.beq 204 F.dO=true from rfl]at hs;simp only[hrd']at hs;exact hs
   obtain⟨t1,t2,_⟩:=KE hz;obtain⟨ds',u1,u2,u3,u4⟩:=hh'.read hrd' (hle _ _ hpb);simp only[am]at u1;obtain⟨p2,_,rfl,hp2,q2,_,rfl,hq2,d2,_,rfl,hd2,rfl⟩:=u1;have k0:=u4 0 p2 rfl;have k1:=u4 1 q2 rfl;rw[o6]at k0 k1;obtain⟨w1,w2⟩:=base φ' H' w' _ _ hh' hle t1 ac (λu hu=>by grind) _ _ _ k0 hp2
   obtain⟨w3,w4⟩:=base2 φ' H' w' _ _ hh' hle t2 ac (λu hu=>by grind) _ _ _ k1 hq2;trivial
  .exact TG (acS l pl.c (pl.s+o) xs.length c s c2 s2' (xs.map hd1) (xs.map sd1) ac ac s3 J Jx hV (λi x y W1 hJ hx hy=>hY i [x,y] W1 hJ (adM hpl hx hy)) W h0)
 .rename_i hf;split at h
  case h_2=>cases h
  rename_i hg;rw[show F.uV=F.dO from rfl,hf]at hg;cases hg
end
end Go.Vm
set_option maxRecDepth 100000
namespace Go.Vm
open Go Go.Am
variable{j len cap n b c N:Nat}{i:Int}
theorem aex:(List.range X.P.funcs.size).all (λf=>!X.allow f||match X.P.funcs[f]? with
  |some fn=>abk X.P fn&&(match fn.body with|some c=>j5 Y fn.ntmps c|none=>true)
  |none=>true)=true:=aJ
theorem adf{f:FuncId}{fn:Func}(ha:X.allow f=true)(hf:X.P.funcs[f]?=some fn):abk X.P fn=true∧(match fn.body with|some c=>j5 Y fn.ntmps c|none=>true)=true:=by
 have hlt:f<X.P.funcs.size:=by
  rcases Zg f X.P.funcs.size with h|h
  .exact h
  .rw[Array.getElem?_eq_none h]at hf;cases hf
 have:=Z1.1 aex f (Wy.2 hlt);rw[ha,hf]at this;simpa using this
theorem vOk:VOk Y where
 y:=yOk
 fns f fn c ha hf hc:=by have:=(adf ha hf).2;rw[hc]at this;exact this
theorem aeb:Pi X where
 mixed:=by rfl
 fns f fn ha hf:=(adf ha hf).1
 orc:=afU
 seq:=afN
open Go.Big
def u6(n:Nat):D:=.int .u64 n
abbrev U(n:Int):V:=.d (.int .u64 n)
@[simp]theorem aiC(n:Nat):V.d (u6 n)=U n:=id rfl
def pcs(n:Nat):V:=lst u6 (dig Z n)
theorem ad7(n:Nat):pcs n=lst u6 (dig Z n):=rfl
theorem FM(l:LnQ)(h:Hp)(hl:j<l.length):ld1 h (.dptr (l.map u6) j)=some (U (nth 0 l j:Nat)):=eV u6 0 l h hl
section
variable{h:Hp}{s e tot:Nat}{l:LnQ}{ex fr:Bool}
theorem Dp(hg:h[s]?=some (e,.data 1 (l.map u6) ex fr))(ht:tot=l.length)(h0:0<=i)(h1:i<len)(k:IntKind):ixV h 1 (.ref s e 0 len cap tot) (.d (.int k i))=some (.ptr s e i.toNat tot):=by simp only[ixV,dQ hg];rw[if_pos ⟨by simp[ht],h0,h1⟩];simp
theorem JW(hg:h[s]?=some (e,.data 1 (l.map u6) ex fr))(ht:tot=l.length)(hj:j<l.length):ld1 h (.ptr s e j tot)=some (U (nth 0 l j:Nat)):=by
 have e1:tot=(l.map u6).length:=by simp[ht]
 simp only[ld1,dQ hg,if_pos e1,List.getElem?_map,List.getElem?_eq_getElem hj,Option.map_some,cO 0 l j hj];rfl
theorem Sd(hg:h[s]?=some (e,.data 1 (l.map u6) ex false))(ht:tot=l.length)(hj:j<l.length)(x:Nat):st h 1 (.ptr s e j tot) (U x)=some (h.set s (e,.data 1 ((l.set j x).map u6) ex false)):=by
 have e1:(l.map u6).take j++[u6 x]++(l.map u6).drop (j+1)=(l.set j x).map u6:=by
  rw[W8,Ym,if_pos aX];simp
 simp only[st,if_true,sto,dQ hg,kJ,toD];rw[if_pos ⟨trivial,by simp[ht],aX⟩];simp only[bL,List.length_singleton];rw[<-e1];rfl
theorem ahG(hg:h[s]?=some (e,.data 1 (l.map u6) ex fr))(ht:tot=l.length)(h0:0<=i)(h1:i<=cap)(hlc:len<=cap):slV h 1 (.ref s e 0 len cap tot) none (some (I i))=some (.ref s e 0 i.toNat cap tot):=by simp only[slV,dQ hg,boV];rw[if_pos ⟨aa,h1⟩];simp[ht,hlc]
theorem yJ(hg:h[s]?=some (e,.data 1 (l.map u6) ex fr))(ht:tot=l.length)(h1:len<=cap)(hc:cap<=tot):bV h (.ref s e 0 len cap tot)=some (lst u6 (l.take len),h.set s (e,.data 1 (l.map u6) ex true)):=by simp only[bV,toD,dQ hg];rw[if_pos ⟨by simp[ht],h1,aX⟩];simp[lst,List.map_take,bL];omega
end
theorem HC{h:Hp}{s e cap tot:Nat}{l:LnQ}{ex fr:Bool}(hg:h[s]?=some (e,.data 1 (l.map u6) ex fr))(ht:tot=l.length)(hc:cap<=tot)(hb:cap<1000000000000)(k:KL)(h0:Hp)(hh:h0.length=h.length):∀len,len<=cap->k (.exit 0) [.ref s e 0 (iN (l.take len)).length cap tot] h->lp (bQ (CX Y) h.length) [] h0 [.ref s e 0 len cap tot] h k
 | 0,hl,hk=>by
  refine aj ?_;simp[bQ];simpa[iN]using hk
 | len+1,hl,hk=>by
  have e1:=Dp hg ht (len:=len+1) (cap:=cap) (i:=(len:Int)) aa aa .i64;have e2:=JW hg ht (j:=len) aa;have e3:=ahG hg ht (len:=len+1) (cap:=cap) (i:=(len:Int)) aa aa aa;have e4:l.take (len+1)=l.take len++[nth 0 l len]:=by rw[cO 0 l len aa,List.take_append_getElem]
  rw[Int.toNat_natCast]at e1 e3;refine aj ?_;by_cases h2:nth 0 l len=0
  .rw[e4,h2,rC]at hk;have ih:=HC hg ht hc hb k h0 hh len aa hk;simp(disch:=try exact ae)[bQ,e1,e2,e3,h2,hh];exact ih
  .rw[e4,yD h2]at hk;have e5:(l.take len++[nth 0 l len]).length=len+1:=by simp;omega
   rw[e5]at hk;simp(disch:=try exact ae)[bQ,e1,e2,e3,h2];exact hk
theorem ug{h:Hp}(hu:(h.all λx=>ax h.length x.2)=true){s e tot:Nat}{l:LnQ}{ex fr:Bool}(hg:h[s]?=some (e,.data 1 (l.map u6) ex fr))(ht:tot=l.length)(hc:cap<=tot)(hb:cap<1000000000000)(hl:len<=cap):
  CI Y F.az [.ref s e 0 len cap tot] h (.ref s e 0 (iN (l.take len)).length cap tot) h:=by refine qh ?_;simp[az];refine lo (HC hg ht hc hb _ _ rfl len hl ?_);simp;have hs:=bf hg;refine⟨ac,by simpa using hu,.inl ⟨rfl,?_⟩⟩;simp[under,hs]
theorem RU{h:Hp}{l0:LnQ}(k:KL)(h0:Hp)(hh:h0.length=h.length):∀l:LnQ,l.length<1000000000000->k (.exit 0) [lst u6 (iN l)] h->lp (bQ (CX Y) h.length) [] h0 [lst u6 l] h k:=by
 intro l hb hk
 induction hn:l.length generalizing l with
 | zero=>
  have:l=[]:=Zl hn;subst this;refine aj ?_;simp[bQ];exact hk
 | succ n ih=>
  obtain⟨l,x,rfl⟩:∃l' x,l=l'++[x]:=⟨l.dropLast,l.getLast (by intro e;simp[e]at hn),(List.dropLast_concat_getLast _).symm⟩;have hl:l.length=n:=by simpa using hn
  have e1:=λh:Hp=>mR u6 (l++[x]) h (k:=.i64) (i:=(l.length:Int)) aa aX
  have e2:=λh:Hp=>FM (l++[x]) h (j:=l.length) ac
  have e3:=λh:Hp=>afG u6 (l++[x]) h (i:=(l.length:Int)) aa aX ac
  have e4:nth 0 (l++[x]) l.length=x:=ac;simp only[Int.toNat_natCast,Ww]at e1 e3;rw[e4]at e2;have e5:((l++[x]).length:Int)=(l.length:Int)+1:=ac;have e6:aO (lst u6 (l++[x]))=some (I ((l.length:Int)+1)):=by rw[<-e5];rfl
  have hb2:l.length<1000000000000:=by simp at hb;omega
  refine aj ?_;by_cases hx:x=0
  .subst hx;rw[rC]at hk;simp(disch:=try exact ae)[bQ,e1,e2,e3,e6,hh];exact ih l hb2 hk hl
  .rw[yD hx]at hk;simp(disch:=try exact ae)[bQ,e1,e2,e3,e6,hx];exact hk
theorem aaO{h:Hp}(hu:(h.all λx=>ax h.length x.2)=true){l:LnQ}(hb:l.length<1000000000000):CI Y F.az [lst u6 l] h (lst u6 (iN l)) h:=by refine qh ?_;simp[az];refine lo (RU (l0:=l) _ _ rfl l hb ?_);simp;refine⟨ac,by simpa using hu,.inl ⟨rfl,rfl⟩⟩
def RdP(h:Hp)(a:V)(l:LnQ):Prop:=aO a=some (I l.length)∧∀(t:Hp)(i:Nat),i<l.length->∃p,ixV (h++t) 1 a (I i)=some p∧ld1 (h++t) p=some (U (nth 0 l i:Nat))
theorem aaC(h:Hp)(l:LnQ):RdP h (lst u6 l) l:=by refine⟨rfl,λt i hi=>⟨.dptr (l.map u6) i,?_,FM l _ hi⟩⟩;have:=mR u6 l (h++t) (k:=.i64) (i:=(i:Int)) aa aa;trivial
theorem Fv{l:LnQ}{i:Nat}(h:i<n):nth 0 (l.take n) i=nth 0 l i:=by grind[nth]
theorem KC{h:Hp}{s e tot:Nat}{l:LnQ}{ex fr:Bool}(hg:h[s]?=some (e,.data 1 (l.map u6) ex fr))(ht:tot=l.length)(hl:len<=tot):RdP h (.ref s e 0 len cap tot) (l.take len):=by
 have e1:(l.take len).length=len:=by simp;omega
 refine⟨by simp_all,λt i hi=>⟨.ptr s e i tot,?_,?_⟩⟩
 .have hs:=bf hg;have:=Dp (h:=h++t) (by rw[List.getElem?_append_left hs];exact hg) ht (len:=len) (cap:=cap) (i:=(i:Int)) aa aa .i64;trivial
 .have hs:=bf hg;rw[Fv aa];exact JW (h:=h++t) (by rw[List.getElem?_append_left hs];exact hg) ht aa
def pH(h:Hp)(o:LnQ):Hp:=h++[(1,.data 1 (o.map u6) true false),nnQ]
theorem BE(h:Hp)(o:LnQ):(pH h o)[h.length]?=some (1,.data 1 (o.map u6) true false):=by simp[pH]
theorem VP(h:Hp)(o o':LnQ):(pH h o).set h.length (1,.data 1 (o'.map u6) true false)=pH h o':=by simp[pH]
@[simp]theorem VR(h:Hp)(o:LnQ):(pH h o).length=h.length+2:=by simp[pH]
theorem aaf{s:Nat}(hbc:b<=c)(h:Nat.blt s b=true):Nat.blt s c=true:=by grind[Wz]
mutual
theorem K0{b c:Nat}(hbc:b<=c):∀v:V,under b v=true->under c v=true
 |.ref s ..,h=>aaf hbc h
 |.ptr s ..,h=>aaf hbc h
 |.agg l,h=>sf hbc l h
 |.tup l,h=>sf hbc l h
 | .fn _ x y,h=>by
  simp only[under,Z7]at h ⊢;exact⟨sf hbc x h.1,sf hbc y h.2⟩
 |.ifc _ x,h=>K0 hbc x h
 |.new ..,h=>by cases h
 |.junk,_=>rfl
 |.d _,_=>rfl
 |.dptr ..,_=>rfl
 |.cut _,h=>by cases h
theorem sf{b c:Nat}(hbc:b<=c):∀l:LwQ,ju b l=true->ju c l=true
 |[],_=>rfl
 | x::l,h=>by
  simp only[ju,Z7]at h ⊢;exact⟨K0 hbc x h.1,sf hbc l h.2⟩
end
theorem ub(hbc:b<=c){x:Bk}(h:ax b x=true):ax c x=true:=by
 cases x with
 |vars l=>exact sf hbc l h
 |none=>rfl
 |data n cs ex fr=>rfl
theorem Pg(hbc:b<=c){h:Hp}(hu:(h.all λx=>ax b x.2)=true):(h.all λx=>ax c x.2)=true:=by grind[ub]
section
variable{h:Hp}{t0 t1:V}{da db:LnQ}
theorem RZ(hb:RdP h t1 db)(hsb:aF Z db){x i:Nat}(hx:x<Z)(hN:i+db.length<N)(hNb:N<1000000000000)(k:KL)(h0:Hp)(hh:h0.length=h.length+2)(T:Nat)(o0:LnQ):
  ∀(r c j:Nat)(o:LnQ),j+r=db.length->c<Z->o.length=N->aF Z o->val Z o+Z^(i+j)*(c+x*val Z (db.drop j))=T->(∀m,i+db.length<=m->nth 0 o m=nth 0 o0 m) ->
  (∀c' o',c'<Z->o'.length=N->aF Z o'->val Z o'+Z^(i+db.length)*c'=T->(∀m,i+db.length<=m->nth 0 o' m=nth 0 o0 m)->k (.exit 2) [U (c':Nat)] (pH h o')) ->
  lp (iz (CX Y) h.length (.ref h.length 1 0 N N N) (I i) (U x) t1 (I db.length)) [] h0 [U c,I j] (pH h o) k:=by
 intro r
 induction r with
 | zero=>
  intro c j o hj hc ho hs hv hf hk;have hjl:j=db.length:=aa;subst hjl;have hd:db.drop db.length=[]:=List.drop_length;rw[hd]at hv;simp only[val,Nat.mul_zero,Nat.add_zero]at hv;refine aj ?_;simp[iz]
  grind
 | succ r ih=>
  intro c j o hj hc ho hs hv hf hk;have hjl:j<db.length:=aa;obtain⟨m,hm⟩:=nmQ (i+j);rw[<-hm]at hv;have hij:m<o.length:=aa;obtain⟨y,hy2⟩:=mnQ (db.getD j 0);have hy:=hsb.getD bC j;have hw:=hs.getD bC m;have hst:=V9 (B:=Z) (o:=o) (j:=m) (c:=c) (a:=x) (y:=db.getD j 0) (v:=val Z (db.drop (j+1))) hij;rw[<-qK,hv]at hst;rw[hy2]at hy hst
  obtain⟨p,hp⟩:=nmQ (x*y);have hxy:p<=999999999*999999999:=by rw[hp];exact Zp (by grind[Z]) (by grind[Z])
  have hpi:(x:Int)*(y:Int)=(p:Int):=by rw[hp];simp
  rw[<-hp]at hst;have e1:((i:Int)+(j:Int))=(m:Int):=aa;have hZ:Z=1000000000:=rfl;obtain⟨w,hwd⟩:=mnQ (o.getD m 0);rw[hwd]at hst hw;obtain⟨pb,r1,r2⟩:=hb.2 [(1,.data 1 (o.map u6) true false),nnQ] j hjl;rw[show nth 0 db j=y from hy2]at r2;have r3:=Dp (BE h o) ho.symm (len:=N) (cap:=N) (i:=(m:Int)) aa aa .i64;have r4:=JW (BE h o) ho.symm hij
  have r5:=Sd (BE h o) ho.symm hij ((c+w+p)%Z);rw[show nth 0 o m=w from hwd]at r4;rw[Int.toNat_natCast]at r3;rw[VP]at r5
  change ixV (pH h o) 1 t1 (I j)=some pb at r1
  change ld1 (pH h o) pb=_ at r2
  have ih2:=ih ((c+w+p)/Z) (j+1) (o.set m ((c+w+p)%Z)) aa (by grind) (by grind) (hs.set (Yy _ bC)) (by rw[show i+(j+1)=m+1 by omega];omega)
   (λn hn=>by rw[<-hf n hn];simp[nth,List.getElem?_set_ne (show m≠n by omega)]) hk
  clear hst hk ih hv;obtain⟨t,ht⟩:=mnQ (c+w+p);have ht2:t<1000000000000000000+2000000000:=by simp only[hZ]at *;omega
  rw[ht]at ih2 r5;obtain⟨tm,htm⟩:=mnQ (t%Z);obtain⟨td,htd⟩:=mnQ (t/Z);rw[htm]at ih2 r5;rw[htd]at ih2;have e2:(c:Int)+((w:Int)+(p:Int))=(t:Int):=aa;have e3:((t:Int)%1000000000)=(tm:Int):=by simp only[hZ]at htm;omega
  have e4:((t:Int)/1000000000)=(td:Int):=by simp only[hZ]at htd;omega
  refine aj ?_;simp(disch:=try exact ae)[iz,r1,r2,r3,r4,e1,hpi,e2,Zv,Zu,e3,e4,r5];trivial
theorem NP(ha:RdP h t0 da)(hsa:aF Z da)(hb:RdP h t1 db)(hsb:aF Z db)(hla:da.length<100000000)(hlb:db.length<100000000)(k:KL)(h0:Hp)(hh:h0.length=h.length+2)(hN:N=da.length+db.length):
  ∀(r i:Nat)(o:LnQ),i+r=da.length->o.length=N->aF Z o->val Z o=val Z (da.take i)*val Z db->(∀m,i+db.length<=m->nth 0 o m=0) ->
  (∀o',o'.length=N->aF Z o'->val Z o'=val Z da*val Z db->k (.exit 0) [] (pH h o')) ->
  lp (iA (CX Y) h.length t1 (.ref h.length 1 0 N N N) t0 (I da.length)) [] h0 [I i] (pH h o) k:=by
 intro r
 induction r with
 | zero=>
  intro i o hi ho hs hv hf hk;refine aj ?_;have g:¬i<da.length:=aa;simp[iA,g];rw[show i=da.length by omega,Xk]at hv
  grind
 | succ r ih=>
  intro i o hi ho hs hv hf hk;have hil:i<da.length:=aa;obtain⟨pa,r1,r2⟩:=ha.2 [(1,.data 1 (o.map u6) true false),nnQ] i hil;obtain⟨x,hx⟩:=mnQ (nth 0 da i);have hxs:x<Z:=by rw[<-hx];exact hsa.getD bC i
  rw[hx]at r2
  change ixV (pH h o) 1 t0 (I i)=some pa at r1
  change ld1 (pH h o) pa=_ at r2
  have hl:=hb.1;refine aj ?_;simp(disch:=try exact ae)[iA,r1,r2,hl];refine lo (RZ hb hsb hxs aa aa _ _ (VR h o) (val Z o+Z^i*(x*val Z db)) o db.length 0 0 o aa bC ho hs ac (λ_ _=>rfl) λc' o' hc' ho' hs' hv' hf'=>?_);simp only[lu];obtain⟨m,hm⟩:=nmQ (i+db.length)
  have hml:m<o'.length:=aa;have r3:=Dp (BE h o') ho'.symm (len:=N) (cap:=N) (i:=(m:Int)) aa aa .i64;have r5:=Sd (BE h o') ho'.symm hml c';rw[Int.toNat_natCast]at r3;rw[VP]at r5;have e1:((i:Int)+(db.length:Int))=(m:Int):=aa;have e0:nth 0 o' m=0:=by rw[hf' m aa,hf m aa]
  have hvs:=xC (B:=Z) o' m c' hml;rw[show o'.getD m 0=0 from e0]at hvs
  have ih2:=ih (i+1) (o'.set m c') aa (by grind) (hs'.set hc') (by
   rw[yu da hil,show da.getD i 0=x from hx,Nat.add_mul,<-hv]
   grind) (λn hn=>by
   simp only[nth,Z6,List.getElem?_set_ne (show m≠n by omega)];have:=hf' n aa;rw[hf n aa]at this;exact this) hk
  clear hvs hv' ih hk;simp(disch:=try exact ae)[hl,e1,r3,r5];trivial
theorem HE(hu:(h.all λx=>ax h.length x.2)=true)(ha:RdP h t0 da)(hsa:aF Z da)(hb:RdP h t1 db)(hsb:aF Z db)(hla:da.length<100000000)(hlb:db.length<100000000)(hN:N=da.length+db.length):
  CI Y F.dd [t0,t1] h (.new 1 ((bK N (val Z da*val Z db)).map u6) true (dig Z (val Z da*val Z db)).length N) h:=by
 refine vF ?_;have l0:=ha.1;have l1:=hb.1;have e1:((da.length:Int)+(db.length:Int))=(N:Int):=aa;simp(disch:=try exact ae)[dd,l0,l1,e1]
 have e2:h++[(1,Bk.data 1 (List.replicate N (D.int IntKind.u64 0)) true false),nnQ]=pH h (List.replicate N 0):=by
  simp[pH,u6]
 have e3:(h++[(0,Bk.none),(0,Bk.none)]).set h.length (1,Bk.data 1 (List.replicate N (D.int IntKind.u64 0)) true false)=pH h (List.replicate N 0):=by
  simp[pH,u6]
 try simp only[e3]
 try rw[e2]
 refine lo (NP ha hsa hb hsb hla hlb _ _ (VR ..) hN da.length 0 (List.replicate N 0) aa ac (λx hx=>by grind[bC]) (by simp[Bi,val]) (λm _=>by
  grind[nth]) λo ho hs hv=>?_)
 simp only[lu];have ht:iN (o.take N)=dig Z (val Z da*val Z db):=by rw[Z2 aa,<-hv,rW ay hs]
 have hu2:((pH h o).all λx=>ax (pH h o).length x.2)=true:=by
  have hm:(h.all λx=>ax (pH h o).length x.2)=true:=Pg ac hu;rw[pH,Zb,<-pH,hm];rfl
 have tr:=ug hu2 (BE h o) ho.symm (len:=N) (cap:=N) (Z8 _) aa (Z8 _);rw[ht]at tr;refine gP tr ?_ ac;have hol:o=bK N (val Z da*val Z db):=by rw[<-hv,<-ho];exact Ea o hs
 rw[<-hol];refine⟨by simp[pH],aa,.inr (.inr (.inl ⟨h.length,1,_,N,1,o.map u6,true,by grind,Z8 _,by simp[aw,pH],rfl⟩))⟩
def trimS(n:Nat):LnQ:=if n=0 then[]else[n]
theorem Ud(n:Nat):iN [n]=trimS n:=by rfl
theorem RS(n:Nat):val Z (trimS n)=n:=by grind[trimS,val]
theorem K2(h:n<Z):aF Z (trimS n):=by
 unfold trimS;split
 .exact λx hx=>by cases hx
 .exact λx hx=>by grind
theorem ER(hu:(h.all λx=>ax h.length x.2)=true){f:Nat}(hf:f<Z)(hf0:0<f)(ha:RdP (h++[nnQ,nnQ]) t0 da)(hsa:aF Z da)(hla:da.length<100000000)(hN:N=da.length+1):
  CI Y F.cj [t0,U f] h (.new 1 ((bK N (val Z da*f)).map u6) true (dig Z (val Z da*f)).length N) h:=by
 refine uF ?_
 have hli:∀h:Hp,eC 1 [D.int .u64 0] [(0,U f)] h=some ([u6 f],h):=λh=>by
  rfl
 have hu2:((h++[(0,Bk.none),nnQ]).all λx=>ax (h++[(0,Bk.none),nnQ]).length x.2)=true:=by
  rw[Zb,Pg ac hu];rfl
 simp[cj,hli];have t1:=aaO hu2 (l:=[f]) ac;rw[Ud]at t1;refine gP (args:=[lst u6 [f]]) t1 ?_ (by simp[lst]) (by simp[lst]);have hfl:(trimS f).length=1:=by simp[trimS,show f≠0 by omega]
 have t2:=HE hu2 ha hsa (aaC _ (trimS f)) (K2 hf) hla aa (N:=N) aa;rw[RS]at t2;simp;refine gz (e:=0) (b:=.none) t2 ac ?_;refine⟨ac,aa,.inr (.inr (.inl ⟨h.length+1,1,_,N,1,(bK N (val Z da*f)).map u6,true,by rfl,aa,by simp[aw],rfl⟩))⟩
end
def sP(h:Hp)(s e:Nat)(ex:Bool)(l:LnQ):Hp:=h.set s (e,.data 1 (l.map u6) ex false)
theorem sS{h:Hp}{s e:Nat}{ex:Bool}{l:LnQ}(hs:s<h.length):(sP h s e ex l)[s]?=some (e,.data 1 (l.map u6) ex false):=by simp[sP,hs]
theorem UP{h:Hp}{s e:Nat}{ex:Bool}{l l':LnQ}:(sP h s e ex l).set s (e,.data 1 (l'.map u6) ex false)=sP h s e ex l':=by simp[sP]
@[simp]theorem ahJ{h:Hp}{s e:Nat}{ex:Bool}{l:LnQ}:(sP h s e ex l).length=h.length:=by simp[sP]
theorem Bw{h:Hp}{s e:Nat}{ex:Bool}{l:LnQ}(hu:(h.all λx=>ax b x.2)=true):((sP h s e ex l).all λx=>ax b x.2)=true:=by
 rw[Z1]at hu ⊢;intro x hx;rcases Yn hx with h1|h1
 .grind
 .rw[h1];rfl
def RdS(P:Hp->Prop)(a:V)(l:LnQ):Prop:=aO a=some (I l.length)∧∀(t:Hp)(i:Nat),P t->i<l.length->∃p,ixV t 1 a (I i)=some p∧ld1 t p=some (U (nth 0 l i:Nat))
def jd(g at_:Nat)(db:LnQ):Nat->Nat->Nat->Nat->LnQ->Nat×LnQ
 |0,_,_,w,l=>(w,l)
 | r+1,k,c,w,l=>
  if nth 0 l (at_+k)<(c+g*nth 0 db k)%Z+w then jd g at_ db r (k+1) ((c+g*nth 0 db k)/Z) 1 (l.set (at_+k) (nth 0 l (at_+k)+Z-((c+g*nth 0 db k)%Z+w)))
  else jd g at_ db r (k+1) ((c+g*nth 0 db k)/Z) 0 (l.set (at_+k) (nth 0 l (at_+k)-((c+g*nth 0 db k)%Z+w)))
section
variable{h:Hp}{s e tot at_ g:Nat}{ex:Bool}{t1:V}{db:LnQ}
theorem R7(hs:s<h.length)(hb:RdS (λt=>∃l,t=sP h s e ex l) t1 db)(hsb:aF Z db)(hg:g<Z)(hat:at_+db.length<tot)(ht:tot<1000000000000)(hlen:tot=len)(k:KL)(h0:Hp)(hh:h0.length=h.length):
  ∀(r j c w:Nat)(l:LnQ),j+r=db.length+1->c<Z->w<=1->l.length=tot->aF Z l ->
  k (.exit 0) [I ((jd g at_ db r j c w l).1:Nat)] (sP h s e ex (jd g at_ db r j c w l).2) ->
  lp (fX (CX Y) h.length (.ref s e 0 len cap tot) t1 (U g) (I at_)) [] h0 [U c,I w,I j] (sP h s e ex l) k:=by
 intro r
 induction r with
 | zero=>
  intro j c w l hj hc hw hl hsl hk;refine aj ?_;have g1:¬j<=db.length:=aa;have hl1:=hb.1;simp[fX,hl1,g1];exact hk
 | succ r ih=>
  intro j c w l hj hc hw hl hsl hk;have hjl:j<=db.length:=aa;obtain⟨m,hm⟩:=nmQ (at_+j);have hml:m<l.length:=aa;obtain⟨y,hy⟩:=mnQ (nth 0 db j);have hys:y<Z:=by rw[<-hy];exact hsb.getD bC j
  obtain⟨x,hx⟩:=mnQ (nth 0 l m);have hxs:x<Z:=by rw[<-hx];exact hsl.getD bC m
  obtain⟨p,hp⟩:=nmQ (g*y);have hxy:p<=999999999*999999999:=by rw[hp];exact Zp (by grind[Z]) (by grind[Z])
  have hpi:(g:Int)*(y:Int)=(p:Int):=by rw[hp];simp
  have e1:((at_:Int)+(j:Int))=(m:Int):=aa;have hZ:Z=1000000000:=rfl;have hl1:=hb.1;have r3:=Dp (sS (e:=e) (ex:=ex) (l:=l) hs) hl.symm (len:=len) (cap:=cap) (i:=(m:Int)) aa aa .i64;have r4:=JW (sS (e:=e) (ex:=ex) (l:=l) hs) hl.symm hml;have r5:=Sd (sS (e:=e) (ex:=ex) (l:=l) hs) hl.symm hml;simp only[UP]at r5;rw[hx]at r4;rw[Int.toNat_natCast]at r3
  rw[jd,hy,<-hp,<-hm,hx]at hk;have hsm:(∀v,v<Z->aF Z (l.set m v)):=λv hv=>hsl.set hv
  obtain⟨t,ht1⟩:=mnQ (c+p);rw[ht1]at hk;obtain⟨tm,htm⟩:=mnQ (t%Z);obtain⟨td,htd⟩:=mnQ (t/Z);rw[htm,htd]at hk;have ht2:t<1000000000000000000:=by simp only[hZ]at *;omega
  have htdZ:td<Z:=by simp only[hZ]at *;omega
  have htmZ:tm<Z:=by simp only[hZ]at *;omega
  have e3:((t:Int)%1000000000)=(tm:Int):=by simp only[hZ]at htm;omega
  have e4:((t:Int)/1000000000)=(td:Int):=by simp only[hZ]at htd;omega
  have main:∀(v:Nat)(w':Nat),v<Z->w'<=1->k (.exit 0) [I ((jd g at_ db r (j+1) td w' (l.set m v)).1:Nat)] (sP h s e ex (jd g at_ db r (j+1) td w' (l.set m v)).2) ->
    lp (fX (CX Y) h.length (.ref s e 0 len cap tot) t1 (U g) (I at_)) [] h0 [U td,I w',I (j+1:Nat)] (sP h s e ex (l.set m v)) k:=λv w' hv hw' hk'=>
   ih (j+1) td w' (l.set m v) aa htdZ hw' (by grind) (hsm v hv) hk'
  clear ih;have e2:(c:Int)+(p:Int)=(t:Int):=aa;refine aj ?_;simp[fX,hl1,hjl];refine gQ (l:=[U t]) (h:=sP h s e ex l) (λq=>?_) ?_
  .by_cases g2:j<db.length
   .obtain⟨pb,q1,q2⟩:=hb.2 (sP h s e ex l) j ⟨l,rfl⟩ g2;rw[hy]at q2;simp(disch:=try exact ae)[g2,q1,q2,hpi,e2]
   .have hy0:nth 0 db j=0:=by simp[nth,List.getElem?_eq_none (show db.length<=j by omega)]
    rw[hy]at hy0;subst hy0;simp only[Nat.mul_zero]at hp;subst hp;obtain rfl:c=t:=aa;simp[g2]
  .simp(disch:=try exact ae)[e1,r3,r4,Zv,Zu,e3,e4];by_cases hxt:x<tm+w
   .rw[if_pos hxt]at hk;obtain⟨v,hv⟩:=mnQ (x+Z-(tm+w));rw[hv]at hk;have hvZ:v<Z:=aa;have e5:(x:Int)-tm-w<0:=aa;have e6:(x:Int)-tm-w+1000000000=v:=by simp only[hZ]at hv;omega
    have r6:=r5 v;refine gQ (l:=[I v,I (1:Nat)]) (h:=sP h s e ex l) (λq=>?_) ?_
    .simp(disch:=try exact ae)[e5,e6]
    .simp(disch:=try exact ae)[e1,r3,r6];simpa using main v 1 hvZ (Z8 _) hk
   .rw[if_neg hxt]at hk;obtain⟨v,hv⟩:=mnQ (x-(tm+w));rw[hv]at hk;have hvZ:v<Z:=aa;have e5:¬((x:Int)-tm-w<0):=aa;have e6:(x:Int)-tm-w=v:=aa;have r6:=r5 v;refine gQ (l:=[I v,I (0:Nat)]) (h:=sP h s e ex l) (λq=>?_) ?_
    .rw[e6]at e5 ⊢;simp[e5]
    .simp(disch:=try exact ae)[e1,r3,r6];simpa using main v 0 hvZ (Y9 _) hk
theorem K9(hu:(h.all λx=>ax h.length x.2)=true)(hs:s<h.length)(hb:RdS (λt=>∃l,t=sP h s e ex l) t1 db)(hsb:aF Z db)(hg:g<Z)(hat:at_+db.length<tot)(ht:tot<1000000000000){l:LnQ}(hl:l.length=tot)(hsl:aF Z l):
  CI Y F.dJ [.ref s e 0 tot tot tot,t1,U g,I at_] (sP h s e ex l) (B (decide (0<(jd g at_ db (db.length+1) 0 0 0 l).1))) (sP h s e ex (jd g at_ db (db.length+1) 0 0 0 l).2):=by refine wz ?_;simp[dJ];refine lo (R7 hs hb hsb hg hat ht rfl _ _ ac (db.length+1) 0 0 0 l aa bC (Y9 _) hl hsl ?_);simp;refine⟨(Z2 ac).symm,?_,.inl ⟨rfl,rfl⟩⟩;exact Bw hu
def rL(at_:Nat)(db:LnQ):Nat->Nat->Nat->LnQ->LnQ
 |0,_,_,l=>l
 |r+1,k,c,l=>rL at_ db r (k+1) ((c+nth 0 l (at_+k)+nth 0 db k)/Z) (l.set (at_+k) ((c+nth 0 l (at_+k)+nth 0 db k)%Z))
theorem TL(hs:s<h.length)(hb:RdS (λt=>∃l,t=sP h s e ex l) t1 db)(hsb:aF Z db)(hat:at_+db.length<tot)(ht:tot<1000000000000)(hlen:tot=len)(k:KL)(h0:Hp)(hh:h0.length=h.length):
  ∀(r j c:Nat)(l:LnQ),j+r=db.length+1->c<Z->l.length=tot->aF Z l ->
  k (.exit 0) [] (sP h s e ex (rL at_ db r j c l)) ->
  lp (jb (CX Y) h.length (.ref s e 0 len cap tot) t1 (I at_)) [] h0 [U c,I j] (sP h s e ex l) k:=by
 intro r
 induction r with
 | zero=>
  intro j c l hj hc hl hsl hk;refine aj ?_;have g1:¬j<=db.length:=aa;have hl1:=hb.1;simp[jb,hl1,g1];exact hk
 | succ r ih=>
  intro j c l hj hc hl hsl hk;have hjl:j<=db.length:=aa;obtain⟨m,hm⟩:=nmQ (at_+j);have hml:m<l.length:=aa;obtain⟨y,hy⟩:=mnQ (nth 0 db j);have hys:y<Z:=by rw[<-hy];exact hsb.getD bC j
  obtain⟨x,hx⟩:=mnQ (nth 0 l m);have hxs:x<Z:=by rw[<-hx];exact hsl.getD bC m
  have e1:((at_:Int)+(j:Int))=(m:Int):=aa;have hZ:Z=1000000000:=rfl;have hl1:=hb.1;have r3:=Dp (sS (e:=e) (ex:=ex) (l:=l) hs) hl.symm (len:=len) (cap:=cap) (i:=(m:Int)) aa aa .i64;have r4:=JW (sS (e:=e) (ex:=ex) (l:=l) hs) hl.symm hml;have r5:=Sd (sS (e:=e) (ex:=ex) (l:=l) hs) hl.symm hml;simp only[UP]at r5;rw[hx]at r4;rw[Int.toNat_natCast]at r3
  rw[rL,hy,<-hm,hx]at hk;obtain⟨t,ht1⟩:=mnQ (c+x+y);rw[ht1]at hk;obtain⟨tm,htm⟩:=mnQ (t%Z);obtain⟨td,htd⟩:=mnQ (t/Z);rw[htm,htd]at hk;have ht2:t<3000000000:=by simp only[hZ]at *;omega
  have htdZ:td<Z:=by simp only[hZ]at *;omega
  have htmZ:tm<Z:=by simp only[hZ]at *;omega
  have e3:((t:Int)%1000000000)=(tm:Int):=by simp only[hZ]at htm;omega
  have e4:((t:Int)/1000000000)=(td:Int):=by simp only[hZ]at htd;omega
  have ih2:=ih (j+1) td (l.set m tm) aa htdZ (by grind) (hsl.set htmZ) hk;have r6:=r5 tm;clear ih;refine aj ?_;simp(disch:=try exact ae)[jb,hl1,hjl,e1,r3,r4];refine gQ (l:=[U t]) (h:=sP h s e ex l) (λq=>?_) ?_
  .by_cases g2:j<db.length
   .obtain⟨pb,q1,q2⟩:=hb.2 (sP h s e ex l) j ⟨l,rfl⟩ g2;rw[hy]at q2;have e2:(c:Int)+(x:Int)+(y:Int)=(t:Int):=aa;simp(disch:=try exact ae)[g2,q1,q2,e2]
   .have hy0:nth 0 db j=0:=by simp[nth,List.getElem?_eq_none (show db.length<=j by omega)]
    rw[hy]at hy0;subst hy0;have e2:(c:Int)+(x:Int)=(t:Int):=aa;simp[g2,e2]
  .simp(disch:=try exact ae)[e1,r3,r4,Zv,Zu,e3,e4,r6];trivial
theorem Nt(hu:(h.all λx=>ax h.length x.2)=true)(hs:s<h.length)(hb:RdS (λt=>∃l,t=sP h s e ex l) t1 db)(hsb:aF Z db)(hat:at_+db.length<tot)(ht:tot<1000000000000){l:LnQ}(hl:l.length=tot)(hsl:aF Z l):
  CI Y F.cI [.ref s e 0 tot tot tot,t1,I at_] (sP h s e ex l) (.tup []) (sP h s e ex (rL at_ db (db.length+1) 0 0 l)):=by refine wC ?_;simp[cI];refine lo (TL hs hb hsb hat ht rfl _ _ ac (db.length+1) 0 0 l aa bC hl hsl ?_);simp;refine⟨(Z2 ac).symm,?_,.inl ⟨rfl,rfl⟩⟩;exact Bw hu
end
end Go.Vm
namespace Go.Big
section
variable{B:Nat}
theorem mB(l:LnQ)(i:Nat)(h:i<=l.length):val B l=val B (l.take i)+B^i*val B (l.drop i):=by have:=val_append (B:=B) (l.take i) (l.drop i);rw[Xu,Zr,Ys h]at this;exact this
theorem aaN(l:LnQ)(z:Nat):val B (l++List.replicate z 0)=val B l:=by rw[val_append,Bi];simp
theorem K4(hB:0<B){l:LnQ}{n:Nat}(h:val B l<B^n):val B (l.drop n)=0:=by
 rcases Zg n l.length with h1|h1
 .have:=mB (B:=B) l n aa;rcases Ze (val B (l.drop n))with h2|h2
  .exact h2
  .have:=Z0 (B^n) h2;omega
 .rw[Y8 h1];rfl
variable{L lD lB x0 x1 x2 y0 y1 D v g r hi:Nat}
structure Gs(B L lD lB x0 x1 x2 y0 y1 D v hi:Nat):Prop where
 B0:0<B
 D_eq:D=lD+L*(x0+B*hi)
 v_eq:v=lB+L*(y0+B*y1)
 lDL:lD<L
 lBL:lB<L
 hx0:x0<B
 hy0:y0<B
 hy1:0<y1
 hD:D<B*v
theorem Gs.vpos(G:Gs B L lD lB x0 x1 x2 y0 y1 D v hi):L*B<=v:=by
 rw[G.v_eq]
 have h1:L*B<=L*(y0+B*y1):=Z0 L (by
  have:=Z0 B G.hy1;omega)
 omega
theorem Gs.pos(G:Gs B L lD lB x0 x1 x2 y0 y1 D v hi):0<v:=by have:=G.vpos;have h1:=G.lDL;have h2:0<L*B:=X3 aa G.B0;omega
theorem Gs.first(G:Gs B L lD lB x0 x1 x2 y0 y1 D v hi):D/v<=hi/y1:=by
 have hvp:=G.pos;rw[Xh G.hy1];have h1:D/v*v<=D:=Ws D v;generalize D/v=q at *
 have h2:q*(L*(B*y1))<=q*v:=Z0 q (by
  rw[G.v_eq];have:=Z0 L (Nat.le_add_left (B*y1) y0);omega)
 have h3:D<L*B*(hi+1):=by
  rw[G.D_eq];have:=G.lDL;have h4:=Z0 L (show x0+1+B*hi<=B*(hi+1) by rw[Zn];have:=G.hx0;omega);rw[<-Nat.mul_assoc]at h4
  have h5:L*(x0+1+B*hi)=L+L*(x0+B*hi):=by
   rw[show x0+1+B*hi=1+(x0+B*hi) by omega,Zn];simp
  omega
 have h6:q*(L*(B*y1))=L*B*(q*y1):=by
  rw[<-Nat.mul_assoc L B y1,Y0]
 have h7:L*B*(q*y1)<L*B*(hi+1):=aa;have:=Nat.lt_of_mul_lt_mul_left h7;omega
theorem Gs.far(G:Gs B L lD lB x0 x1 x2 y0 y1 D v hi)(h:B<=g):D/v<g:=by have:=(W5 G.pos).2 G.hD;omega
theorem Gs.over(G:Gs B L lD lB x0 x1 x2 y0 y1 D v hi)(he:g*y1+r=hi)(h:r*B+x0<g*y0):D/v<g:=by
 rw[W5 G.pos]
 have h1:L*(x0+1+B*hi)<=g*v:=by
  rw[G.v_eq];have h2:g*(L*(y0+B*y1))<=g*(lB+L*(y0+B*y1)):=Z0 g aa
  have h3:g*(L*(y0+B*y1))=L*(g*y0+B*(g*y1)):=by
   rw[Y0 g L,Zn,Y0 g B]
  have h4:L*(x0+1+B*hi)<=L*(g*y0+B*(g*y1)):=Z0 L (by
   rw[<-he,Zn,Zo B r];omega)
  omega
 have h5:L*(x0+1+B*hi)=L+L*(x0+B*hi):=by
  rw[show x0+1+B*hi=1+(x0+B*hi) by omega,Zn];simp
 have:=G.lDL;rw[G.D_eq];omega
theorem Gs.near(G:Gs B L lD lB x0 x1 x2 y0 y1 D v hi)(he:g*y1+r=hi)(hg:g<B)(h:¬(r<B∧r*B+x0<g*y0)):g*v<D+v:=by
 have h0:g*(y0+B*y1)<=x0+B*hi:=by
  rw[Zn,Y0 g B,<-he,Zn];by_cases hr:r<B
  .have:¬r*B+x0<g*y0:=λh'=>h ⟨hr,h'⟩
   rw[Zo r B]at this;omega
  .have h1:g*y0<=B*B:=Zp aa (by have:=G.hy0;omega);have h2:=Z0 B (show B<=r by omega);omega
 have h1:=Z0 L h0
 have h2:g*lB<L*B:=by
  have:=Zp (show g<=B-1 by omega) (show lB<=L by have:=G.lBL;omega);have hL:0<L:=by have:=G.lBL;omega
  have h3:(B-1)*L+L=L*B:=by
   have:=G.B0;obtain⟨b,rfl⟩:∃b,B=b+1:=⟨B-1,aa⟩;rw[Nat.add_sub_cancel,Zo L,Xp]
  omega
 have h3:g*v=g*lB+L*(g*(y0+B*y1)):=by
  rw[G.v_eq,Zn,Y0 g L]
 have h4:=G.vpos;have h5:=G.D_eq;omega
end
end Go.Big
namespace Go.Vm
open Go Go.Am Go.Big
variable{l:LnQ}{h h1 h2:Hp}{a b va vb:V}
theorem yV{m n v:Nat}(h:m≠n):nth 0 (l.set m v) n=nth 0 l n:=by simp[nth,List.getElem?_set_ne h]
structure Frm(l l':LnQ)(a b:Nat):Prop where
 len:l'.length=l.length
 same:∀m,m<a∨b<=m->nth 0 l' m=nth 0 l m
theorem Ey{g at_:Nat}(hg:g<Z){db:LnQ}(hsb:aF Z db):∀(r j c w:Nat)(l:LnQ),at_+j+r<=l.length->c<Z->w<=1->aF Z l->c+g*val Z (db.drop j)<Z^r ->
  Frm l (jd g at_ db r j c w l).2 (at_+j) (at_+j+r)∧aF Z (jd g at_ db r j c w l).2∧(jd g at_ db r j c w l).1<=1 ∧
  val Z (jd g at_ db r j c w l).2+Z^(at_+j)*(c+g*val Z (db.drop j)+w)=val Z l+Z^(at_+j+r)*(jd g at_ db r j c w l).1
 | 0,j,c,w,l,hl,hc,hw,hs,hT=>by
  have h0:c+g*val Z (db.drop j)=0:=by simp at hT;omega
  refine⟨⟨rfl,λ_ _=>rfl⟩,hs,hw,?_⟩;rw[h0,Zj];rfl
 | r+1,j,c,w,l,hl,hc,hw,hs,hT=>by
  obtain⟨m,hm⟩:=nmQ (at_+j);have hml:m<l.length:=aa;obtain⟨x,hx⟩:=mnQ (nth 0 l m);have hxs:x<Z:=by rw[<-hx];exact hs.getD bC m
  obtain⟨y,hy⟩:=mnQ (nth 0 db j);rw[jd,hy,<-hm,hx];have hvd:val Z (db.drop j)=y+Z*val Z (db.drop (j+1)):=by rw[qK,show db.getD j 0=y from hy]
  obtain⟨V,hV⟩:=mnQ (val Z (db.drop (j+1)));rw[hvd,hV]at hT ⊢;obtain⟨t,ht⟩:=mnQ (c+g*y);rw[ht];obtain⟨tm,htm⟩:=mnQ (t%Z);obtain⟨td,htd⟩:=mnQ (t/Z);have hdm:t=tm+Z*td:=by rw[<-htm,<-htd];exact(Xo t Z).symm
  have htmZ:tm<Z:=by rw[<-htm];exact Yy _ bC
  rw[htm,htd]
  have hsum:c+g*(y+Z*V)=tm+Z*(td+g*V):=by
   rw[Zn,Y0 g Z,Zn];omega
  rw[hsum]at hT ⊢
  have hT2:td+g*V<Z^r:=by
   rw[Nat.pow_succ,Zo (Z^r)]at hT;have:Z*(td+g*V)<Z*Z^r:=aa;exact Nat.lt_of_mul_lt_mul_left this
  have htdZ:td<Z∨True:=.inr trivial
  have step:∀(v w':Nat),v<Z->w'<=1->v+(tm+w)=x+Z*w'->td<Z ->
    Frm l (jd g at_ db r (j+1) td w' (l.set m v)).2 (at_+j) (at_+j+(r+1))∧aF Z (jd g at_ db r (j+1) td w' (l.set m v)).2∧(jd g at_ db r (j+1) td w' (l.set m v)).1<=1 ∧
    val Z (jd g at_ db r (j+1) td w' (l.set m v)).2+Z^m*(tm+Z*(td+g*V)+w)=val Z l+Z^(m+(r+1))*(jd g at_ db r (j+1) td w' (l.set m v)).1:=by
   intro v w' hv hw' he htd2;obtain⟨⟨f1,f2⟩,i2,i3,i4⟩:=Ey hg hsb (g:=g) (at_:=at_) r (j+1) td w' (l.set m v) aX htd2 hw' (hs.set hv) (by rw[hV];exact hT2);refine⟨⟨by rw[f1];simp,λn hn=>?_⟩,i2,i3,?_⟩
   .rw[f2 n aa,yV aa]
   .have hvs:=xC (B:=Z) l m v hml;rw[show l.getD m 0=x from hx]at hvs;rw[hV,show at_+(j+1)=m+1 by omega]at i4;rw[show m+(r+1)=m+1+r by omega];generalize val Z (jd g at_ db r (j+1) td w' (l.set m v)).2=R at *;generalize(jd g at_ db r (j+1) td w' (l.set m v)).1=W at *;generalize val Z (l.set m v)=R1 at *;generalize val Z l=R0 at *;generalize td+g*V=T at *
    rw[Nat.pow_succ Z m,Nat.mul_assoc (Z^m) Z (T+w')]at i4;generalize Z^m=P at *;have h1:P*v+P*(tm+w)=P*x+P*(Z*w'):=by rw[<-Zn,<-Zn,he]
    have h2:P*(Z*(T+w'))=P*(Z*T)+P*(Z*w'):=by rw[Zn Z,Zn]
    have h3:P*(tm+Z*T+w)=P*(tm+w)+P*(Z*T):=by rw[<-Zn];congr 1;omega
    omega
  have htd2:td<Z:=by
   have hy2:y<Z:=by rw[<-hy];exact hsb.getD bC j
   have:=Zp (show g<=999999999 by simp only[Z]at hg;omega) (show y<=999999999 by simp only[Z]at hy2;omega);simp only[Z]at *;omega
  rw[<-hm]at step;by_cases hlt:x<tm+w
  .simp only[if_pos hlt];exact step _ 1 aa (Z8 _) aa htd2
  .simp only[if_neg hlt];exact step _ 0 aa (Y9 _) aa htd2
theorem GE{at_:Nat}{db:LnQ}(hsb:aF Z db):∀(r j c:Nat)(l:LnQ),at_+j+r<=l.length->c<=1->aF Z l ->
  Frm l (rL at_ db r j c l) (at_+j) (at_+j+r)∧aF Z (rL at_ db r j c l) ∧
  ∃ce,val Z (rL at_ db r j c l)+Z^(at_+j+r)*(ce+val Z (db.drop (j+r)))=val Z l+Z^(at_+j)*(c+val Z (db.drop j))
 |0,j,c,l,hl,hc,hs=>⟨⟨rfl,λ_ _=>rfl⟩,hs,c,rfl⟩
 | r+1,j,c,l,hl,hc,hs=>by
  obtain⟨m,hm⟩:=nmQ (at_+j);have hml:m<l.length:=aa;obtain⟨x,hx⟩:=mnQ (nth 0 l m);have hxs:x<Z:=by rw[<-hx];exact hs.getD bC m
  obtain⟨y,hy⟩:=mnQ (nth 0 db j);have hys:y<Z:=by rw[<-hy];exact hsb.getD bC j
  rw[rL,hy,<-hm,hx];have hvd:val Z (db.drop j)=y+Z*val Z (db.drop (j+1)):=by rw[qK,show db.getD j 0=y from hy]
  obtain⟨t,ht⟩:=mnQ (c+x+y);rw[ht];obtain⟨tm,htm⟩:=mnQ (t%Z);obtain⟨td,htd⟩:=mnQ (t/Z);have hdm:t=tm+Z*td:=by rw[<-htm,<-htd];exact(Xo t Z).symm
  have htmZ:tm<Z:=by rw[<-htm];exact Yy _ bC
  have htd1:td<=1:=by simp only[Z]at *;omega
  rw[htm,htd];obtain⟨⟨f1,f2⟩,i2,ce,i4⟩:=GE hsb (at_:=at_) r (j+1) td (l.set m tm) aX htd1 (hs.set htmZ);refine⟨⟨by rw[f1];simp,λn hn=>?_⟩,i2,ce,?_⟩
  .rw[f2 n aa,yV aa]
  .have hvs:=xC (B:=Z) l m tm hml;rw[show l.getD m 0=x from hx]at hvs;rw[show at_+(j+1)=m+1 by omega,show j+1+r=j+(r+1) by omega]at i4;rw[show m+(r+1)=m+1+r by omega,hvd];generalize val Z (rL at_ db r (j+1) td (l.set m tm))=R at *;generalize val Z (l.set m tm)=R1 at *;generalize val Z l=R0 at *;generalize val Z (db.drop (j+1))=V at *
   rw[Nat.pow_succ Z m,Nat.mul_assoc (Z^m) Z (td+V)]at i4;generalize Z^(m+1+r)*(ce+val Z (db.drop (j+(r+1))))=Q at *;generalize Z^m=P at *;have h1:P*tm+P*(Z*td)=P*x+P*(c+y):=by rw[<-Zn,<-Zn,<-hdm,<-ht];congr 1;omega
   have h2:P*(Z*(td+V))=P*(Z*td)+P*(Z*V):=by rw[Zn Z,Zn]
   have h3:P*(c+(y+Z*V))=P*(c+y)+P*(Z*V):=by rw[<-Zn];congr 1;omega
   omega
theorem Frm.take{l l':LnQ}{a b:Nat}(h:Frm l l' a b):l'.take a=l.take a:=by
 refine Wu (by simp[h.len]) λi h1 h2=>?_
 simp only[Zr]at h1 h2;have:=h.same i (.inl aa);rw[cO _ _ _ aa,cO _ _ _ aa]at this;simpa using this
theorem Frm.drop{l l':LnQ}{a b:Nat}(h:Frm l l' a b):l'.drop b=l.drop b:=by
 refine Wu (by simp[h.len]) λi h1 h2=>?_
 simp only[Yq]at h1 h2;have:=h.same (b+i) (.inr aa);rw[cO _ _ _ aa,cO _ _ _ aa]at this;simpa using this
theorem Tw{al db:LnQ}{i g:Nat}(hsa:aF Z al)(hsb:aF Z db)(hi:i+db.length<al.length)(hg:g<Z)(hD:val Z (al.drop i)<Z*val Z db)(h1:g*val Z db<val Z (al.drop i)+val Z db)(h2:val Z (al.drop i)/val Z db<=g)
  {w:Nat} {l1 l2:LnQ} (hw:(jd g i db (db.length+1) 0 0 0 al).1=w) (hl1:(jd g i db (db.length+1) 0 0 0 al).2=l1) (hl2:rL i db (db.length+1) 0 0 l1=l2) :
  (l1.length=al.length∧aF Z l1) ∧
  (w=0->aF Z l1∧l1.length=al.length∧l1.take i=al.take i∧g=val Z (al.drop i)/val Z db∧val Z (l1.drop i)=val Z (al.drop i)%val Z db) ∧
  (0<w->aF Z l2∧l2.length=al.length∧l2.take i=al.take i∧0<g∧g-1=val Z (al.drop i)/val Z db∧val Z (l2.drop i)=val Z (al.drop i)%val Z db):=by
 have hvb:=jR (B:=Z) bC hsb
 have hvp:0<val Z db:=by
  rcases Ze (val Z db)with h|h
  .rw[h]at hD;simp at hD
  .exact h
 have hpow:Z^(db.length+1)=Z*Z^db.length:=by rw[Nat.pow_succ,Zo]
 have hDlt:val Z (al.drop i)<Z^(db.length+1):=by
  rw[hpow];exact Nat.lt_trans hD (Nat.mul_lt_mul_of_pos_left hvb bC)
 have htop:val Z (al.drop (i+(db.length+1)))=0:=by
  rw[<-List.drop_drop];exact K4 bC hDlt
 obtain ⟨f,s1,w1,e⟩:=Ey hg hsb (db.length+1) 0 0 0 al aa bC (Y9 _) hsa (by
  rw[Yu,Zj,hpow];have a1:=Z0 g (show val Z db<=Z^db.length by omega);have a2:=Nat.mul_lt_mul_of_pos_right hg (show 0<Z^db.length from Xf bC);omega) (at_:=i) (g:=g)
 rw[hw,hl1]at e;rw[hl1]at f s1;rw[hw]at w1;simp only[Nat.add_zero,Yu,Zj]at e f;have len1:=f.len
 have below:∀{l:LnQ},aF Z l->l.drop (i+(db.length+1))=al.drop (i+(db.length+1))->val Z (l.drop i)<Z^(db.length+1):=λ{l} hs he=>by
  have hz:=mB (B:=Z) (l.drop i) (min (db.length+1) (l.drop i).length) (Nat.min_le_right ..);by_cases hc:db.length+1<=(l.drop i).length
  .rw[Ys hc,List.drop_drop,he,htop,Nat.mul_zero,Nat.add_zero]at hz;rw[hz];have:=jR (B:=Z) bC ((hs.drop i).take (db.length+1));rw[Zr,Ys hc]at this;exact this
  .have:=jR (B:=Z) bC (hs.drop i);exact Z3 this (Zz bC aa)
 have hsp:∀{l:LnQ},l.length=al.length->l.take i=al.take i->val Z l=val Z (al.take i)+Z^i*val Z (l.drop i):=λ{l} h h'=>by
  rw[<-h'];exact mB l i aa
 have hal:=mB (B:=Z) al i aa;have hdm:=W7 (val Z (al.drop i)) (val Z db);have hml:=Yy (val Z (al.drop i)) hvp;have b1:=below s1 f.drop;rw[hsp len1 f.take,hal,X7,Nat.mul_assoc (Z^i)]at e
 have e2:val Z (l1.drop i)+g*val Z db=val Z (al.drop i)+Z^(db.length+1)*w:=by
  have:Z^i*(val Z (l1.drop i)+g*val Z db)=Z^i*(val Z (al.drop i)+Z^(db.length+1)*w):=by rw[Zn,Zn];omega
  exact Xv (Xf bC) this
 obtain⟨D,hDe⟩:=mnQ (val Z (al.drop i));obtain⟨v,hve⟩:=mnQ (val Z db);refine⟨⟨len1,s1⟩,λw0=>?_,λwp=>?_⟩
 .subst w0;rw[Nat.mul_zero,Nat.add_zero]at e2
  have hq:g=val Z (al.drop i)/val Z db:=by
   refine Nat.le_antisymm ?_ h2;rw[Xh hvp];omega
  refine⟨s1,len1,f.take,hq,?_⟩;rw[<-hq]at hdm;rw[Zo]at hdm;omega
 .have hw1:w=1:=aa;subst hw1;obtain⟨f2,s2,ce,e3⟩:=GE hsb (at_:=i) (db.length+1) 0 0 l1 aa (Y9 _) s1;rw[hl2]at f2 s2 e3;simp only[Nat.add_zero,Yu,Zj]at e3 f2;have hdn:db.drop (db.length+1)=[]:=Y8 aa;rw[hdn,show val Z []=0 from rfl]at e3;simp only[Nat.add_zero]at e3
  have len2:l2.length=al.length:=by rw[f2.len,len1]
  have tk2:l2.take i=al.take i:=by rw[f2.take,f.take]
  have b2:=below s2 (by rw[f2.drop,f.drop]);rw[hsp len2 tk2,hsp len1 f.take,X7,Nat.mul_assoc (Z^i)]at e3
  have e4:val Z (l2.drop i)+Z^(db.length+1)*ce=val Z (l1.drop i)+val Z db:=by
   have:Z^i*(val Z (l2.drop i)+Z^(db.length+1)*ce)=Z^i*(val Z (l1.drop i)+val Z db):=by rw[Zn,Zn];omega
   exact Xv (Xf bC) this
  have hgl:g*val Z db<=(val Z (al.drop i)/val Z db+1)*val Z db:=by
   rcases Zg (val Z (al.drop i)/val Z db+1) g with h3|h3
   .exfalso;have h4:=Zt (val Z db) (show val Z (al.drop i)/val Z db+2<=g by omega);rw[Nat.add_mul,Zo (val Z (al.drop i)/val Z db)]at h4;omega
   .exact Zt _ h3
  have hgp:0<g:=by
   rcases Ze g with h|h
   .subst h;omega
   .exact h
  have hgq:g=val Z (al.drop i)/val Z db+1:=by
   refine Nat.le_antisymm ?_ ?_
   .exact Nat.le_of_mul_le_mul_right hgl hvp
   .rw[Nat.succ_le_iff,W5 hvp];omega
  refine⟨s2,len2,tk2,hgp,aa,?_⟩;rw[hgq,Nat.add_mul,Wl,Zo (val Z (al.drop i)/val Z db)]at e2;generalize Z^(db.length+1)=P at *
  have hce:ce=1:=by
   rcases Zg ce 1 with h|h
   .have:ce=0:=aa;subst this;omega
   .rcases Zg ce 2 with h'|h'
    .omega
    .have:=Z0 P h';omega
  subst hce;omega
def Jw(o:LnQ):Hp:=[(1,.data 1 (o.map u6) true false),nnQ]
theorem zW(o:LnQ):(Jw o)[0]?=some (1,.data 1 (o.map u6) true false):=rfl
theorem VV(o o':LnQ):(Jw o).set 0 (1,.data 1 (o'.map u6) true false)=Jw o':=rfl
@[simp]theorem afW(o:LnQ):(Jw o).length=2:=rfl
theorem Cz{p:LnQ}(hsp:aF Z p)(hpl:p.length<1000000000000){n N:Nat}(hn:0<n)(hnZ:n<=Z)(hN:N=p.length)(k:KL)(h0:Hp)(hh:h0.length=2) :
  ∀(i:Nat)(o:LnQ)(r:Nat),i<=p.length->o.length=N->aF Z o->r<n->val Z (p.drop i)=n*val Z (o.drop i)+r ->
  (∀o' r',o'.length=N->aF Z o'->r'<n->val Z p=n*val Z o'+r'->k (.exit 0) [U (r':Nat)] (Jw o')) ->
  lp (iB (CX Y) (lst u6 p) (U n) (.ref 0 1 0 N N N)) [] h0 [U r,I ((i:Int)-1)] (Jw o) k
 | 0,o,r,hi,ho,hso,hr,hv,hk=>by
  refine aj ?_;simp[iB];exact hk o r ho hso hr (by simpa using hv)
 | i+1,o,r,hi,ho,hso,hr,hv,hk=>by
  obtain⟨x,hx⟩:=mnQ (nth 0 p i);have hxs:x<Z:=by rw[<-hx];exact hsp.getD bC i
  have e1:=λh:Hp=>mR u6 p h (k:=.i64) (i:=(i:Int)) aa aa
  have e2:=λh:Hp=>FM p h (j:=i) aa
  rw[hx]at e2;have r3:=Dp (zW o) ho.symm (len:=N) (cap:=N) (i:=(i:Int)) aa aa .i64;have r5:=Sd (zW o) ho.symm (j:=i) aa;simp only[VV]at r5;simp only[Int.toNat_natCast]at e1 r3;have e0:((i+1:Nat):Int)-1=(i:Int):=aa;have hZ:Z=1000000000:=rfl;obtain⟨t,ht⟩:=mnQ (r*Z+x);obtain⟨q,hq⟩:=mnQ (t/n)
  obtain⟨r2,hr2⟩:=mnQ (t%n);have hdm:n*q+r2=t:=by rw[<-hq,<-hr2];exact W7 t n
  have hr2n:r2<n:=by rw[<-hr2];exact Yy _ hn
  have htn:t<Z*n:=by
   have:=Zt Z (show r+1<=n by omega);rw[Nat.add_mul,Zo n Z]at this;omega
  have hqZ:q<Z:=by rw[<-hq];exact Wx (by rw[Zo];exact htn)
  have htb:t<1000000000000000001:=by
   have:=Z0 Z hnZ;simp only[hZ]at *;omega
  have hdr:(o.set i q).drop i=q::o.drop (i+1):=by
   rw[List.drop_set,if_neg aa,Zc];rw[Yx (show i<o.length by omega)];rfl
  have ih:=Cz hsp hpl hn hnZ hN k h0 hh i (o.set i q) r2 aa (by simpa using ho) (hso.set hqZ) hr2n (by
   rw[qK,show p.getD i 0=x from hx,hv,hdr];simp only[val];rw[Zn,Zn,Y0 n Z,Zo Z r];omega) hk
  have r6:=r5 q;have e3:(r:Int)*1000000000+(x:Int)=(t:Int):=by simp only[hZ]at ht;omega
  have e4:(t:Int)/(n:Int)=(q:Int):=by rw[<-hq];simp
  have e5:(t:Int)%(n:Int)=(r2:Int):=by rw[<-hr2];simp
  have hrb:r<1000000000:=by simp only[hZ]at hnZ;omega
  have hn0:¬((n:Int)=0):=aa;have hqb:(q:Int)<18446744073709551616:=by simp only[hZ]at hqZ;omega
  refine aj ?_;rw[e0];simp(disch:=try exact ae)[iB,e1,e2,e3,r3,hn0,Zv,Zu,e4,e5,r6,hh];simpa using ih
theorem HD(l:LnQ):∃z,l=iN l++List.replicate z 0:=by
 induction hn:l.length generalizing l with
 | zero=>
  have:l=[]:=Zl hn;subst this;exact⟨0,rfl⟩
 | succ n ih=>
  obtain⟨l,x,rfl⟩:∃l' x,l=l'++[x]:=⟨l.dropLast,l.getLast (by intro e;simp[e]at hn),(List.dropLast_concat_getLast _).symm⟩;by_cases hx:x=0
  .subst hx;rw[rC];obtain⟨z,hz⟩:=ih l (by simpa using hn);refine⟨z+1,?_⟩
   conv=>lhs;rw[hz]
   rw[List.append_assoc,List.replicate_succ']
  .rw[yD hx];exact⟨0,ac⟩
theorem Bq:l.take (iN l).length=iN l:=by obtain⟨z,hz⟩:=HD l;generalize iN l=t at *;subst hz;rw[Yd rfl]
theorem zJ(h:Hp)(n:Int):bV h (U n)=some (U n,h):=rfl
theorem cZ(ha:bV h a=some (va,h1))(hb:bV h1 b=some (vb,h2)):out (.tup [va,vb]) (.tup [a,b]) h:=
 ⟨h2,by simp only[bV,aK,ha,hb]⟩
theorem jB{h3:Hp}{c vc:V}(ha:bV h a=some (va,h1))(hb:bV h1 b=some (vb,h2))(hc:bV h2 c=some (vc,h3)):out (.tup [va,vb,vc]) (.tup [a,b,c]) h:=
 ⟨h3,by simp only[bV,aK,ha,hb,hc]⟩
theorem HV{a n:Nat}(ha:(dig Z a).length<100000000)(hn:0<n)(hnZ:n<=Z):CP Y F.de [pcs a,U n] (.tup [pcs (a/n),U (a%n:Nat)]):=by
 refine vH ?_;obtain⟨p,hp⟩:=mnQ (dig Z a);have hsp:aF Z p:=by rw[<-hp];exact df ay a
 have hval:val Z p=a:=by rw[<-hp];exact jT ay a
 rw[pcs,hp];rw[hp]at ha;simp(disch:=try exact ae)[de];have e2:[(1,Bk.data 1 (List.replicate p.length (D.int IntKind.u64 0)) true false),nnQ]=Jw (List.replicate p.length 0):=by simp[Jw,u6]
 rw[e2];refine lo (Cz hsp aa hn hnZ rfl _ _ rfl p.length (List.replicate p.length 0) 0 (Z8 _) ac (λx hx=>by rw[Xt]at hx;rw[hx.2];exact bC) hn (by rw[List.drop_length,Y8 ac];simp[val]) λo r ho hs hr hv=>?_);simp only[lu];rw[hval]at hv
 have hq:val Z o=a/n:=by rw[hv,Nat.mul_add_div hn,Xc hr,Nat.add_zero]
 have hr2:r=a%n:=by rw[hv,Nat.mul_add_mod,Ya hr]
 have ht:iN (o.take p.length)=dig Z (a/n):=by rw[Z2 aa,<-hq,rW ay hs]
 have tr:=ug (h:=Jw o) rfl (zW o) ho.symm (len:=p.length) (cap:=p.length) (Z8 _) aa (Z8 _);rw[ht]at tr;refine gP tr ?_ ac
 have htl:o.take (dig Z (a/n)).length=dig Z (a/n):=by
  have h2:iN o=dig Z (a/n):=by rw[<-hq,rW ay hs]
  rw[<-h2];exact Bq
 have sn:=yJ (zW o) ho.symm (len:=(dig Z (a/n)).length) (cap:=p.length) (by rw[p6 ay,<-hq,<-ho];exact jR bC hs) (Z8 _);rw[htl]at sn;have e6:((a:Int)%(n:Int))=((a%n:Nat):Int):=ac;rw[hr2,e6];exact cZ sn (zJ _ _)
end Go.Vm
