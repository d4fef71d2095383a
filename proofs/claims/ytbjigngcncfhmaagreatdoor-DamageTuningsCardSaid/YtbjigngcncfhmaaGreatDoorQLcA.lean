/- Lemmas. -/
import Derived.Test.YtbjigngcncfhmaaGreatDoorQTrB
import Derived.Shelf.Pu.ParseUintPublic10
import Derived.Shelf.Strconv.ParseIntPublic10
import Derived.RangeFuncBox
import Derived.Shelf.Abstract
import Derived.WalkKit
import Derived.OwnWalkIn
import Derived.TacticsInMore
import Derived.LoopIn
import Derived.ProofKit
import Derived.OpenShut
import Derived.Deep.DeepHandedRow
import Derived.Deep.Matrix
import Derived.Lib.LaidTab
import Derived.Test.YtbjigngcncfhmaaGreatDoorTie
import Derived.Test.YtbjigngcncfhmaaGreatDoorCards
set_option linter.unusedVariables false
set_option linter.unusedSimpArgs false
namespace Go.Vm
variable{j n i A f E b N k:Nat}{m:Mz}{o:Nat×Bk}{v u:Ve}{C:List (Nat×Ve)}{a d by_:Int}{r:LiQ}{l:List Tg}{vals:Bool}{gs:List (List (Int×Nat))}
theorem WY(e x:Ve):∀us ws,dU (us++ws) e x=dU us e x+dU ws e x
 |[],ws=>by simp[dU]
 |i::us,ws=>by simp only[List.cons_append,dU,WY e x us ws];omega
theorem oh(e x:Ve):∀n,dtV n e x=dU (List.range n) e x
 |0=>rfl
 |n+1=>by rw[Xe,WY,<-oh e x n];simp[dU,dtV]
theorem ers:∀(os us:LnQ),us.Nodup->os.Nodup->(∀c∈os,c∈us)->(os.foldl List.erase us).Nodup∧(os.foldl List.erase us).length+os.length=us.length∧∀c,c∈os.foldl List.erase us↔c∈us∧c ∉ os
 |[],us,h1,h2,h3=>⟨h1,rfl,λc=>by simp⟩
 | a::os,us,h1,h2,h3=>by
  rw[List.nodup_cons]at h2;obtain⟨i1,i2,i3⟩:=ers os (us.erase a) (h1.erase a) h2.2 (λc hc=>h1.mem_erase_iff.2 ⟨λe=>h2.1 (e▸hc),h3 c (by grind)⟩)
  grind
theorem Of{e x:Ve}:∀{os us:LnQ},us.Nodup->os.Nodup->(∀c∈os,c∈us)->(∀c∈os,x c=0)->dU (os.foldl List.erase us) e x=dU us e x
 |[],us,_,_,_,_=>rfl
 | a::os,us,h1,h2,h3,h4=>by
  rw[List.nodup_cons]at h2;have ha:=h3 a ac;simp only[List.foldl_cons];rw[Of (h1.erase a) h2.2 (λc hc=>h1.mem_erase_iff.2 ⟨λe=>h2.1 (e▸hc),h3 c (by grind)⟩) (λc hc=>h4 c (by grind)),qH (us:=us) ha,h4 a ac];simp
theorem Qk{x:Ve}{us:LnQ}(hj:j∈us)(hn:us.Nodup):dU us (λc=>if c=j then 1 else 0) x=x j:=by
 rw[qH hj,AA (us:=us.erase j)]
 .simp
 grind
def leads(m:List (Nat×Ve)):LnQ:=m.map (·.1)
theorem wJ:∀{m:List (Nat×Ve)}{o:Nat},Hnf o m->(leads m).Nodup
 |[],_,_=>List.nodup_nil
 | (l,h)::m,o,H=>by
  refine List.nodup_cons.2 ⟨λhl=>?_,wJ H.2.2⟩;obtain⟨x,hx,e⟩:=Zw.1 hl;have:=yI H.2.2 x hx
  grind
theorem UR{m:List (Nat×Ve)}{o:Nat}(H:Hnf o m)(hn:∀x∈m,x.1<n){x:Nat×Ve}(hx:x∈m):∃os:LnQ,os.Nodup∧os.length+1=m.length∧(∀c∈os,c<n)∧(∀c,c∈os↔(∃y∈m,y.1=c)∧c≠x.1):=by
 have hd:=wJ H;have hm:x.1∈leads m:=Zw.2 ⟨x,hx,rfl⟩;refine⟨(leads m).erase x.1,hd.erase _,?_,λc hc=>?_,λc=>?_⟩
 .grind[leads]
 .obtain⟨y,hy,rfl⟩:=Zw.1 (hd.mem_erase_iff.1 hc).2
  grind
 grind[leads]
theorem xm{m:List (Nat×Ve)}{o:Nat}(H:Hnf o m)(hn:∀x∈m,x.1<n):m.length<=n:=by
 obtain ⟨_,h,_⟩:=ers (leads m) (List.range n) Xi (wJ H) (λc hc=>by
  obtain⟨x,hx,rfl⟩:=Zw.1 hc
  grind)
 grind[leads]
theorem SK(hl:Ln n m)(hj:n<=j):eZ m i j=0:=by
 by_cases hi:i<m.length
 .have:=hl i hi;rw[eZ,nth,Z6,List.getElem?_eq_none aa];rfl
 .rw[eZ,show nth [] m i=[] by rw[nth,Z6,List.getElem?_eq_none aa];rfl];rfl
theorem adx(h:∀i,i<m.length->dtV n (ve (nth [] m i)) v=0)(h0:∀j,n<=j->v j=0):Krn n (SpZ m) v:=by
 refine⟨λu hu=>Aq (λg hg=>?_) hu,h0⟩;obtain⟨r,hr,rfl⟩:=Zw.1 hg;obtain⟨i,hi,rfl⟩:=Zj.1 hr;have e1:m[i]=nth [] m i:=by rw[nth,Z6,List.getElem?_eq_getElem hi];rfl
 grind
theorem VI{o:Nat}(H:Hnf o C)(hs:∀v,Spn (vs C) v↔Krn n (SpZ m) v)(hA:1<=A)(hb:BdE A m):∀x∈C,∀j,(x.2 j).natAbs<=C.length*slB (n+1-C.length) A:=by
 have hk:∀x∈C,Krn n (SpZ m) x.2:=λx hx=>(hs _).1 (Spn.mem (Zw.2 ⟨x,hx,rfl⟩))
 have hp:∀{C:List (Nat×Ve)}{o:Nat},Hnf o C->∀x∈C,0<x.2 x.1:=by
  intro C
  induction C with
  |nil=>simp
  | cons y C ih=>
   intro o H x hx;obtain⟨l,h⟩:=y;rcases Zu.1 hx with rfl|hx
   .exact H.1.2.1
   .exact ih H.2.2 x hx
 have hn:∀x∈C,x.1<n:=λx hx=>Decidable.byContradiction λh=>by
  have h1:=(hk x hx).2 x.1 aa
  grind
 refine XM H λx hx=>?_
 obtain⟨v,v1,v2,v3,v4⟩:=zZ H x hx;obtain⟨os,o1,o2,o3,o4⟩:=UR H hn hx;have osr:∀c∈os,c∈List.range n:=λc hc=>W6.2 (o3 c hc)
 obtain⟨u1,u2,u3⟩:=ers os (List.range n) Xi o1 osr;have hxu:x.1∈os.foldl List.erase (List.range n):=(u3 _).2 ⟨W6.2 (hn x hx),λh=>((o4 _).1 h).2 rfl⟩
 have vz:∀c∈os,v c=0:=λc hc=>by
  grind
 obtain ⟨y,y1,y2,y3,y4⟩:=slv _ _ rfl u1 A hA (m.map ve) (λc=>if c=x.1 then 1 else 0) v (λe he i _=>by
  obtain⟨r,hr,rfl⟩:=Zw.1 he;obtain⟨k,hk,rfl⟩:=Zj.1 hr;have e1:m[k]=nth [] m k:=by rw[nth,Z6,List.getElem?_eq_getElem hk];rfl
  rw[e1];exact hb k i) (λe he=>by
  rw[Of Xi o1 osr vz,<-oh];exact((hs v).1 v1).1 e (Spn.mem he)) (by grind[Qk])
 rw[Qk hxu u1]at y2;have yz:∀c∈os,y c=0:=λc hc=>y4 c λh=>((u3 c).1 h).2 hc
 refine⟨y,(hs y).2 (adx (λi hi=>?_) λj hj=>y4 j λh=>?_),y2,λz hz hne=>yz z.1 ((o4 _).2 ⟨⟨z,hz,rfl⟩,hne⟩),?_⟩
 .rw[oh,<-Of Xi o1 osr yz]
  grind[nth.eq_1]
 .grind
 ·have e:(os.foldl List.erase (List.range n)).length=n+1-C.length:=by
   rw[List.length_range]at u2;omega
  grind
theorem KG(h:SpZ m v):∃X:Ve,∀c,v c=dtV m.length (λk=>eZ m k c) X:=by
 have key:∀(l:List Ve),(∀g∈l,∃X:Ve,∀c,g c=dtV m.length (λk=>eZ m k c) X)->∀ks,∃X:Ve,∀c,cmb ks l c=dtV m.length (λk=>eZ m k c) X:=by
  intro l
  induction l with
  |nil=>intro _ ks;exact⟨λ_=>0,λc=>by cases ks<;>exact(qF _ _).symm⟩
  | cons g l ih=>
   intro hg ks;cases ks with
   |nil=>exact⟨λ_=>0,λc=>(qF _ _).symm⟩
   | cons k ks=>
    obtain⟨X,hX⟩:=hg g ac;obtain⟨Y,hY⟩:=ih (λx hx=>hg x (by grind)) ks;refine⟨λi=>k*X i+Y i,λc=>?_⟩;rw[xt,u9,<-hX,<-hY];rfl
 obtain⟨ks,rfl⟩:=h;refine key _ (λg hg=>?_) ks;obtain⟨r,hr,rfl⟩:=Zw.1 hg;obtain⟨i,hi,rfl⟩:=Zj.1 hr;have e1:m[i]=nth [] m i:=by rw[nth,Z6,List.getElem?_eq_getElem hi];rfl
 refine⟨λj=>if j=i then 1 else 0,λc=>?_⟩;rw[Ap,if_pos hi,e1];rfl
theorem MF{m:Mz}(X:Ve):∀r,r<=m.length->SpZ m λc=>dtV r (λk=>eZ m k c) X
 |0,_=>Spn.zero _
 | r+1,hr=>by
  have h1:=(MF (m:=m) X r aa).add ((ia (m:=m) (i:=r) aa).mul (X r))
  have e:(λc=>dtV r (λk=>eZ m k c) X+X r*ve (nth [] m r) c)=λc=>dtV (r+1) (λk=>eZ m k c) X:=funext λc=>by
   show _+X r*eZ m r c=_+eZ m r c*X r
   grind
  rwa [e]at h1
theorem OT{o:Nat}(H:Hnf o C)(h1:∀v,SpZ m v->Spn (vs C) v)(h2:∀v,Spn (vs C) v->∃D:Int,D≠0∧SpZ m λi=>D*v i)(hA:1<=A)(hb:BdE A m):
  ∀x∈C,∀j,(x.2 j).natAbs<=C.length*(m.length*(A*slB m.length A)):=by
 refine XM H λx hx=>?_
 obtain⟨v,v1,v2,v3,v4⟩:=zZ H x hx;obtain⟨D,d1,d2⟩:=h2 v v1;obtain⟨X,hX⟩:=KG d2
 obtain ⟨os,o1,o2,o3,o4⟩:=UR (n:=(C.map (·.1)).sum+1) H (λy hy=>by
  have:∀(l:LnQ) a,a∈l->a<=l.sum:=by
   intro l
   induction l with
   |nil=>trivial
   | cons b l ih=>
    grind
  have:=this _ _ (Zw.2 ⟨y,hy,rfl⟩:y.1∈C.map (·.1));omega) hx
 have dz:∀c,D*v c=dU (List.range m.length) (λk=>eZ m k c) X:=λc=>by grind[oh]
 obtain ⟨y,y1,y2,y3,y4⟩:=slv m.length (List.range m.length) List.length_range Xi A hA (os.map λc k=>eZ m k c) (λk=>eZ m k x.1) X (λe he i _=>by
  obtain⟨c,hc,rfl⟩:=Zw.1 he;exact hb i c) (λe he=>by
  obtain⟨c,hc,rfl⟩:=Zw.1 he;obtain⟨⟨z,hz,rfl⟩,hne⟩:=(o4 c).1 hc
  grind) (by grind[Wt])
 refine⟨λc=>dtV m.length (λk=>eZ m k c) y,h1 _ (MF y m.length (Z8 _)),?_,λz hz hne=>?_,λj=>?_⟩
 .grind[oh]
 .grind[oh]
 .show(dtV m.length (λk=>eZ m k j) y).natAbs<=_
  rw[oh];rw[List.length_range]at y3;have:=WX (us:=List.range m.length) (e:=λk=>eZ m k j) (x:=y) (λi _=>hb i j) (λi _=>y3 i)
  grind
theorem VJ{n f:Nat}:∀{C:List (Nat×Ve)}{o:Nat},Hnf o C->(∀x∈C,x.1<n)->f<n->(∀x∈C,x.1≠f)->∃k:Ve,k f≠0∧(∀x∈C,dtV n x.2 k=0)∧∀j,j≠f->(∀x∈C,x.1≠j)->k j=0
 |[],o,H,hn,hf,hne=>⟨λj=>if j=f then 1 else 0,ac,λx hx=>absurd hx Y1,λj hj _=>if_neg hj⟩
 | (l,h)::C,o,⟨⟨a,b,c⟩,d,r⟩,hn,hf,hne=>by
  obtain⟨k,k1,k2,k3⟩:=VJ r (λx hx=>hn x (by grind)) hf (λx hx=>hne x (by grind));have hl:=hn (l,h) ac;have hlf:=hne (l,h) ac
  have dt:∀g:Ve,dtV n g (λj=>h l*k j + -(dtV n h k)*(if j=l then 1 else 0))=h l*dtV n g k-dtV n h k*g l:=λg=>by
   rw[xt,u9,u9,Ap,if_pos hl,Int.neg_mul];omega
  refine⟨λj=>h l*k j + -(dtV n h k)*(if j=l then 1 else 0),?_,λx hx=>?_,λj hj hx=>?_⟩
  .show h l*k f + -(dtV n h k)*(if f=l then 1 else 0)≠0
   rw[if_neg (λe=>hlf e.symm),Int.mul_zero,Int.add_zero];exact Wt aa k1
  .rw[dt];rcases Zu.1 hx with rfl|hx
   .grind
   .have:x.2 l=0:=rz r (Spn.mem (Zw.2 ⟨x,hx,rfl⟩)) l aa
    grind
  .show h l*k j + -(dtV n h k)*(if j=l then 1 else 0)=0
   rw[if_neg (λe=>hx (l,h) ac e.symm),k3 j hj (λy hy=>hx y (by grind))];simp
theorem VH{o:Nat}{S:Ve->Prop}(H:Hnf o C)(hn:∀x∈C,x.1<n)(hs:∀v,Spn (vs C) v↔S v)(hS:∀u,S u->∀j,n<=j->u j=0)(hu:Krn n (Krn n S) u):∃D:Int,D≠0∧S λi=>D*u i:=by
 obtain⟨D,s,h1,h2,h3⟩:=Jy H u;have hsS:=(hs s).1 h2;have hsk:Krn n (Krn n S) s:=⟨λw hw=>by rw[qG];exact hw.1 s hsS,hS s hsS⟩;have hd:Krn n (Krn n S) λi=>D*u i + -1*s i:=(hu.mul D).add (hsk.mul (-1))
 have hz:∀f,D*u f + -1*s f=0:=λf=>by
  by_cases hf:f<n
  .by_cases hl:∃x∈C,x.1=f
   .grind
   .obtain⟨k,k1,k2,k3⟩:=VJ H hn hf (λx hx e=>hl ⟨x,hx,e⟩)
    let k':Ve:=λj=>if j<n then k j else 0
    have dk:∀g:Ve,dtV n g k'=dtV n g k:=λg=>by
     grind[oh,FX]
    have hk:Krn n S k':=⟨λw hw=>by
     grind[Aq,vs],λj hj=>if_neg aa⟩
    have h4:=hd.1 k' hk
    have hval:dtV n k' (λi=>D*u i + -1*s i)=k f*(D*u f + -1*s f):=by
     have hfr:f∈List.range n:=W6.2 hf;rw[oh,qH hfr,AA (us:=(List.range n).erase f)]
     .grind
     .intro t ht;obtain⟨t1,t2⟩:=Xi.mem_erase_iff.1 ht;by_cases hx:∃x∈C,x.1=t
      .obtain⟨x,hx,rfl⟩:=hx;have:=h3 x hx;rw[show D*u x.1 + -1*s x.1=0 by omega,Int.mul_zero]
      grind
    grind[Int.mul_eq_zero]
  .have a1:=hu.2 f aa;have a2:=hS s hsS f aa
   grind
 refine⟨D,h1,?_⟩;have e:(λi=>D*u i)=s:=funext λi=>by grind
 grind
theorem Qr{B:Nat}:∀(r:Nat){f g c o:Nat}{m:Mz}{x:Nat×Mz},clZ B f r c o m=some x->f<=g->clZ B g r c o m=some x
 |0,f,g,c,o,m,x,h,_=>h
 | r+1,f,g,c,o,m,x,h,hg=>by
  have h2:pj [] (λr=>r) (λ_ r=>r) B f (r+1) c o m=some x:=h
  show pj [] (λr=>r) (λ_ r=>r) B g (r+1) c o m=some x
  simp only[pj]at h2 ⊢;split at h2
  .rename_i ho;rw[if_pos ho];split at h2
   .rename_i o1 m1 hr;have hr2:nB [] (λr=>r) (λ_ r=>r) B c g o m=some (o1,m1):=IV f g hr hg;rw[hr2];exact Qr r h2 hg
   trivial
  grind
theorem BJ{B g c:Nat}{x:Nat×Mz}(h:qV B f c m=some x)(hg:f<=g):qV B g c m=some x:=Qr c h hg
theorem Fi{B g:Nat}{z:Mz}(h:uT B f n m=some z)(hg:f<=g):uT B g n m=some z:=by grind[uT,BJ,XX]
def shC(k:Nat)(m:List (Nat×Ve)):List (Nat×Ve):=(m.filter λx=>decide (k<=x.1)).map λx=>(x.1-k,λj=>x.2 (k+j))
theorem VT(k:Nat):∀{m:List (Nat×Ve)}{o:Nat},Hnf o m->Hnf (o-k) (shC k m)
 |[],o,H=>trivial
 | (l,h)::m,o,⟨⟨a,b,c⟩,d,r⟩=>by
  have ih:=VT k r;by_cases hk:k<=l
  .have e:shC k ((l,h)::m)=(l-k,λj=>h (k+j))::shC k m:=by simp[shC,List.filter_cons,hk]
   rw[e];refine⟨⟨aa,?_,λj hj=>c _ aa⟩,λx hx=>?_,?_⟩
   .show 0<h (k+(l-k))
    rw[show k+(l-k)=l by omega];exact b
   .obtain⟨y,hy,rfl⟩:=Zw.1 hx;obtain⟨hy,hky⟩:=X6.1 hy;have hky:k<=y.1:=by simpa using hky
    show 0<=h (k+(y.1-k))∧h (k+(y.1-k))<y.2 (k+(y.1-k))
    rw[show k+(y.1-k)=y.1 by omega]
    grind
   .rw[show l+1-k=l-k+1 by omega]at ih;exact ih
  .have e:shC k ((l,h)::m)=shC k m:=by simp[shC,List.filter_cons,hk]
   rw[e];exact VS aa ih
theorem xo{L:Nat->Nat}{m:Mz}:∀{r i k:Nat},i<=k->k<i+r->(L k,ve (nth [] m k))∈ldZ L m r i
 |0,i,k,a,b=>by omega
 | r+1,i,k,a,b=>by
  by_cases e:k=i
  .grind[ldZ]
  .exact List.mem_cons_of_mem _ (xo aa aa)
theorem abu{o:Nat}{L:Nat->Nat}{w:Mz}(H:Hm (m.length+n) (m.length+n) o L w)(e:SpE (lu n m) w):
  ∃C,Hnf 0 C∧(∀v,Spn (vs C) v↔Krn n (SpZ m) v)∧∀r∈vW m.length (w.take o),∃x∈C,ve r=x.2:=by
 obtain⟨tl,H2,e2⟩:=z8 H;have sp:∀u,SpZ (w.take o) u↔Wid n m u:=λu=>(((e.trans e2) u).symm).trans (G1 u)
 have hh:=tE H2 o 0 0 aa (λ_=>Zc _);refine⟨shC m.length (ldZ L (w.take o) o 0),by have:=VT m.length hh;grind,λv=>?_,λr hr=>?_⟩
 .constructor
  .refine λh=>Krn.spn (λg hg=>?_) h
   obtain⟨x',hx',rfl⟩:=Zw.1 hg;obtain⟨x,hx,rfl⟩:=Zw.1 hx';obtain⟨hx,hk⟩:=X6.1 hx;have hk:m.length<=x.1:=by simpa using hk
   obtain⟨i,_,hi,rfl⟩:=uO hx;have hw:=(sp (ve (nth [] (w.take o) i))).1 (ia aa);refine⟨λu hu=>?_,λj hj=>hw.2 _ aa⟩;refine Aq (λg hg=>?_) hu;obtain⟨r,hr,rfl⟩:=Zw.1 hg;obtain⟨k,hk2,rfl⟩:=Zj.1 hr;have e1:m[k]=nth [] m k:=by rw[nth,Z6,List.getElem?_eq_getElem hk2];rfl
   rw[e1,<-hw.1 k hk2];have hk:m.length<=L i:=hk;exact H2.low i aa k aa
  .intro h
   let u:Ve:=λj=>if j<m.length then 0 else v (j-m.length)
   have hsh:(λj=>u (m.length+j))=v:=funext λj=>by
    grind
   have hw:Wid n m u:=by
    refine⟨λi hi=>?_,λj hj=>?_⟩
    .rw[hsh,h.1 _ (ia hi)]
     grind
    .show(if j<m.length then 0 else v (j-m.length))=0
     rw[if_neg aa];exact h.2 _ aa
   have h1:=(sp u).2 hw;rw[<-qq H2 (Z8 _)]at h1;have h2:=yJ hh m.length h1 (λj hj=>if_pos hj);have h3:=Hj m.length h2;rw[hsh]at h3
   have e3:(vs ((ldZ L (w.take o) o 0).filter λx=>decide (m.length<=x.1))).map (λg j=>g (m.length+j))=vs (shC m.length (ldZ L (w.take o) o 0)):=by
    simp[vs,shC,Wp,Function.comp_def]
   grind
 .obtain⟨y,hy,rfl⟩:=Zw.1 hr;obtain⟨hy,hb⟩:=X6.1 hy;obtain⟨i,hi,rfl⟩:=Zj.1 hy;have e1:(w.take o)[i]=nth [] (w.take o) i:=by rw[nth,Z6,List.getElem?_eq_getElem hi];rfl
  rw[e1]at hb ⊢;have hb:=((JZ _ _).1 hb).2
  have hk:m.length<=L i:=Decidable.byContradiction λhn=>by
   have:=H2.pos i aa;have h0:=hb (L i) aa
   grind
  refine⟨_,Zw.2 ⟨(L i,ve (nth [] (w.take o) i)),X6.2 ⟨xo aa aa,by grind⟩,rfl⟩,funext λj=>I7 _ _ _⟩
theorem YT(hE:1<=E)(hb:BdE E m):BdE E (lu n m):=λi j=>by
 by_cases hi:i<n
 .have:=yZ (m:=m) hi j;simp only[ve]at this;simp only[eZ,this];split
  .exact hb j i
  .split<;>simp<;>omega
 grind[nth.eq_1,tN]
theorem ub(h:m.length<=i)(j:Nat):eZ m i j=0:=by rw[eZ,show nth [] m i=[] by rw[nth,Z6,List.getElem?_eq_none h];rfl];rfl
theorem Fh(hn:n<=4)(hE:E<=10^9)(hb:BdE (10^9) m)(hcan:∀C:List (Nat×Ve),Hnf 0 C->(∀v,Spn (vs C) v↔Krn n (SpZ m) v)->∀x∈C,∀j,(x.2 j).natAbs<=E):
  ∃f z,uT 100000 f n m=some z∧BdE E z:=by
 obtain⟨f0,h0⟩:=BI (m.length+n) (Iv n m) (by grind[tN]) (YT af hb);obtain⟨o,w,hw⟩:=h0 f0 (Z8 _);obtain⟨⟨L,H⟩,e,hlw⟩:=DF (Iv n m) hw;obtain⟨C,hC,hs,hr⟩:=abu H e
 have hbl:BdE (10^9) (vW m.length (w.take o)):=λi j=>by
  by_cases hi:i<(vW m.length (w.take o)).length
  .obtain⟨x,hx,ex⟩:=hr (vW m.length (w.take o))[i] (Xs hi);have e1:(vW m.length (w.take o))[i]=nth [] (vW m.length (w.take o)) i:=by rw[nth,Z6,List.getElem?_eq_getElem hi];rfl
   rw[e1]at ex;have:=congrFun ex j
   grind[ve]
  .rw[ub aa];simp
 have hlen:(vW m.length (w.take o)).length<=4:=by
  have h1:(vW m.length (w.take o)).length<=(w.take o).length:=by
   simp only[vW,List.length_map];exact List.length_filter_le _ _
  have h2:(w.take o).length<=w.length:=by rw[Zr];omega
  rw[hlw,tN]at h2;omega
 have key:∃f z,uT 100000 f n m=some z:=by
  obtain⟨f1,h1⟩:=BI n (Qw (z8 H).2.1.ln) hlen hbl;obtain⟨o1,w1,hw1⟩:=h1 (max f0 f1) aa;by_cases hz:vW m.length (w.take o)=[]
  .refine⟨f0,[],?_⟩;unfold uT;rw[hw]
   show(if vW m.length (w.take o)=[]then some []else _)=some []
   grind
  .refine⟨max f0 f1,w1.take o1,?_⟩;unfold uT;rw[BJ hw (by omega:f0<=max f0 f1)]
   show (if vW m.length (w.take o)=[]then some []else match qV 100000 (max f0 f1) n (vW m.length (w.take o))with
    |some (o,w)=>some (w.take o)
    |none=>none)=_
   grind
 obtain⟨f,z,hz⟩:=key;obtain⟨⟨L2,H2⟩,s2⟩:=zS hz;refine⟨f,z,hz,λi j=>?_⟩;by_cases hi:i<z.length
 .have:=hcan (ldZ L2 z z.length 0) (tE H2 z.length 0 0 aa (λ_=>Zc _)) (λv=>by grind[qq]) _ (xo aa (by omega:i<0+z.length)) j;exact this
 .rw[ub aa];simp
def HmF(n:Nat)(m:Mz):Prop:=∃L,Hm n n m.length L m
structure aek(E n:Nat)(m g w c:Mz)(f:Nat):Prop where
 g0:∃o g',qV 100000 f n m=some (o,g')∧g'.take o=g
 gw:uT 100000 f n g=some w
 wc:uT 100000 f n w=some c
 cw:uT 100000 f n c=some w
 hg:HmF n g
 hw:HmF n w
 hc:HmF n c
 bg:BdE (10^9) g
 bw:BdE E w
 bc:BdE (10^6) c
 sw:w.length=2->BdE 157464 w
 sc:c.length=2->BdE 157464 c
def af3(E:Nat)(m:Mz):Prop:=∀C:List (Nat×Ve),Hnf 0 C->(∀v,Spn (vs C) v↔Krn 4 (SpZ m) v)->C.length=1->∀x∈C,∀j,(x.2 j).natAbs<=E
theorem aaA(hE:10^6<=E)(hE9:E<=10^9)(h1:af3 E m)(hn:n<=4)(hm:m.length<=3)(hl:Ln n m)(hb:BdE 9 m):∃g w c f,aek E n m g w c f:=by
 -- the form of the rows
 obtain⟨f0,h0⟩:=BI n hl aa (hb.mono af);obtain⟨o,g',hg'⟩:=h0 f0 (Z8 _);obtain⟨⟨Lg,Hg⟩,eg⟩:=H5 hl hg';obtain⟨g,rfl⟩:=nmQ (g'.take o)
 have out:∀u,SpZ m u->∀j,n<=j->u j=0:=λu hu j hj=>by
  obtain⟨X,hX⟩:=KG hu;rw[hX j,show(λk=>eZ m k j)=λ_=>0 from funext λk=>SK hl hj,qG];exact qF _ _
 have hC0:=tE Hg (g'.take o).length 0 0 aa (λ_=>Zc _);have sC0:∀v,Spn (vs (ldZ Lg (g'.take o) (g'.take o).length 0)) v↔SpZ m v:=λv=>by rw[qq Hg (Z8 _)];exact(eg v).symm
 have ltC0:∀x∈ldZ Lg (g'.take o) (g'.take o).length 0,x.1<n:=λx hx=>by
  obtain⟨k,_,hk,rfl⟩:=uO hx;exact Hg.lt k aa
 have sm:m.length*(9*slB m.length 9)<=78732:=by
  have:m.length=0∨m.length=1∨m.length=2∨m.length=3:=aa;rcases this with h|h|h|h<;>rw[h]<;>decide
 have small:∀(C:List (Nat×Ve)),C.length<=4->C.length*(m.length*(9*slB m.length 9))<=10^6:=λC hC=>by
  have:=Zp hC sm;omega
 have bg:BdE (10^9) (g'.take o):=λi j=>by
  by_cases hi:i<(g'.take o).length
  .have h1:=OT hC0 (λv hv=>(sC0 v).2 hv) (λv hv=>⟨1,aa,by grind⟩) aa hb _ (xo aa (by omega:i<0+(g'.take o).length)) j;have h2:=small _ (Zy (xm hC0 ltC0) hn);exact Zy h1 (Zy h2 af)
  .rw[ub aa];simp
 -- bounds of the kernels
 have can1:∀C:List (Nat×Ve),Hnf 0 C->(∀v,Spn (vs C) v↔Krn n (SpZ m) v)->∀x∈C,∀j,(x.2 j).natAbs<=E:=λC hC hs x hx j=>by
  have hlt:∀x∈C,x.1<n:=λx hx=>Decidable.byContradiction λh=>by
   have h1:=((hs x.2).1 (Spn.mem (Zw.2 ⟨x,hx,rfl⟩))).2 x.1 aa
   have hp:∀{C:List (Nat×Ve)}{o:Nat},Hnf o C->∀x∈C,0<x.2 x.1:=by
    intro C
    induction C with
    |nil=>simp
    | cons y C ih=>
     intro o H x hx;obtain⟨l,h⟩:=y;rcases Zu.1 hx with rfl|hx
     .exact H.1.2.1
     .exact ih H.2.2 x hx
   grind
  have hcl:=xm hC hlt;have hc0:0<C.length:=List.length_pos_of_mem hx;by_cases h4:n=4∧C.length=1
  .rw[h4.1]at hs;exact h1 C hC hs h4.2 x hx j
  refine Zy (Zy (VI hC hs aa hb x hx j) ?_) hE;generalize C.length=t at *;have h1:n=0∨n=1∨n=2∨n=3∨n=4:=aa;have h2:t=1∨t=2∨t=3∨t=4:=aa
  rcases h1 with h|h|h|h|h<;>subst h<;>rcases h2 with h|h|h|h<;>subst h<;>first
   |decide
   |omega
 have can2:∀C:List (Nat×Ve),Hnf 0 C->(∀v,Spn (vs C) v↔Krn n (Krn n (SpZ m)) v)->C.length<=4∧∀x∈C,∀j,(x.2 j).natAbs<=C.length*(m.length*(9*slB m.length 9)):=λC hC hs=>by
  have hlt:∀x∈C,x.1<n:=λx hx=>Decidable.byContradiction λh=>by
   have h1:=((hs x.2).1 (Spn.mem (Zw.2 ⟨x,hx,rfl⟩))).2 x.1 aa;rcases qE hC (v:=x.2) (Spn.mem (Zw.2 ⟨x,hx,rfl⟩))with z|⟨y,hy,y1,y2,_⟩
   .have hr:=zZ hC x hx;obtain⟨v,v1,v2,v3,v4⟩:=hr;exact v2 (((hs v).1 v1).2 x.1 aa)
   .obtain⟨v,v1,v2,v3,v4⟩:=zZ hC x hx;exact v2 (((hs v).1 v1).2 x.1 aa)
  refine⟨Zy (xm hC hlt) hn,OT hC (λv hv=>(hs v).2 ⟨λu hu=>by rw[qG];exact hu.1 v hv,out v hv⟩) (λv hv=>?_) aa hb⟩;exact VH hC0 ltC0 sC0 out ((hs v).1 hv)
 have eK:∀{S T:Ve->Prop},(∀v,S v↔T v)->∀v,Krn n S v↔Krn n T v:=λh v=>⟨Fe λu hu=>(h u).2 hu,Fe λu hu=>(h u).1 hu⟩
 -- the kernels
 obtain⟨f1,w,hw,bw⟩:=Fh (E:=E) hn hE9 bg (λC hC hs=>can1 C hC λv=>(hs v).trans (eK (λu=>(eg u).symm) v));obtain⟨Hw,sw⟩:=zS hw;have sw':∀v,SpZ w v↔Krn n (SpZ m) v:=λv=>(sw v).trans (eK (λu=>(eg u).symm) v)
 obtain ⟨f2,c,hc,bc⟩:=Fh (E:=10^6) hn af (bw.mono hE9) (λC hC hs x hx j=>by
  obtain⟨h1,h2⟩:=can2 C hC λv=>(hs v).trans (eK sw' v)
  exact Zy (h2 x hx j) (small C h1))
 obtain⟨Hc,sc⟩:=zS hc;have sc':∀v,SpZ c v↔Krn n (Krn n (SpZ m)) v:=λv=>(sc v).trans (eK sw' v)
 have s3:∀v,Krn n (SpZ c) v↔Krn n (SpZ m) v:=λv=>(eK sc' v).trans (RN out v)
 obtain⟨f3,w2,hw2,_⟩:=Fh (E:=E) hn hE9 (bc.mono af) (λC hC hs=>can1 C hC λv=>(hs v).trans (s3 v));obtain⟨⟨L2,H2⟩,sw2⟩:=zS hw2;obtain⟨Lw,Hw'⟩:=Hw;have ew:w2=w:=aaI H2 Hw' λv=>((sw2 v).trans (s3 v)).trans (sw' v).symm
 subst ew;refine⟨_,_,c,max (max f0 f1) (max f2 f3),⟨o,g',BJ hg' aa,rfl⟩,Fi hw aa,Fi hc aa,Fi hw2 aa,⟨Lg,Hg⟩,⟨Lw,Hw'⟩,Hc,bg,bw,bc,λh2 i j=>?_,λh2 i j=>?_⟩
 .by_cases hi:i<w2.length
  case neg=>rw[ub aa];simp
  have h1:=VI (tE Hw' w2.length 0 0 aa (λ_=>Zc _)) (λv=>by rw[qq Hw' (Z8 _)];exact sw' v) aa hb _ (xo aa (by omega:i<0+w2.length)) j;rw[xn,h2]at h1;refine Zy h1 ?_;have h1:n=0∨n=1∨n=2∨n=3∨n=4:=aa;rcases h1 with h|h|h|h|h<;>rw[h]<;>decide
 .by_cases hi:i<c.length
  case neg=>rw[ub aa];simp
  obtain⟨Lc,Hc'⟩:=Hc;obtain⟨_,h1⟩:=can2 _ (tE Hc' c.length 0 0 aa (λ_=>Zc _)) (λv=>by rw[qq Hc' (Z8 _)];exact sc' v);have h3:=h1 _ (xo aa (by omega:i<0+c.length)) j;rw[xn,h2]at h3;exact Zy h3 (Zy (Z2 2 sm) af)
def dt4(u x:Ve):Int:=u 0*x 0+u 1*x 1+u 2*x 2+u 3*x 3
def v4(a b c d:Int):Ve:=λj=>if j=0 then a else if j=1 then b else if j=2 then c else if j=3 then d else 0
theorem Mn(u:Ve)(a b c d:Int):dt4 u (v4 a b c d)=u 0*a+u 1*b+u 2*c+u 3*d:=rfl
def Sm4(a b c x:Ve):Prop:=(∃j,x j≠0)∧(∀j,4<=j->x j=0)∧(∀j,(x j).natAbs<=4374)∧dt4 a x=0∧dt4 b x=0∧dt4 c x=0
theorem D5(a b c d:Int)(j:Nat)(h:4<=j):v4 a b c d j=0:=by unfold v4;rw[if_neg aa,if_neg aa,if_neg aa,if_neg aa]
theorem Kt{b c:Int}{S:Nat}(ha:a.natAbs<=S)(hb:b.natAbs<=S)(hc:c.natAbs<=S)(hd:d.natAbs<=S)(j:Nat):(v4 a b c d j).natAbs<=S:=by
 unfold v4
 repeat' split
 all_goals first|assumption|simp
theorem Kr{b c:Int}(h:a≠0∨b≠0∨c≠0∨d≠0):∃j,v4 a b c d j≠0:=by
 rcases h with h|h|h|h
 .exact⟨0,h⟩
 .exact⟨1,h⟩
 .exact⟨2,h⟩
 .exact⟨3,h⟩
def dt2(a b c d:Int):Int:=a*d-b*c
def dt3(a b c:Ve)(i j k:Nat):Int:=a i*dt2 (b j) (b k) (c j) (c k)-a j*dt2 (b i) (b k) (c i) (c k)+a k*dt2 (b i) (b j) (c i) (c j)
theorem EY{b:Int}{B:Nat}(ha:a.natAbs<=A)(hb:b.natAbs<=B):(a*b).natAbs<=A*B:=by rw[Y9];exact Zp ha hb
theorem JI{b c:Int}(ha:a.natAbs<=9)(hb:b.natAbs<=9)(hc:c.natAbs<=9)(hd:d.natAbs<=9):(dt2 a b c d).natAbs<=162:=by have h1:=EY ha hd;have h2:=EY hb hc;unfold dt2;omega
theorem adS{a b c:Ve}(ha:∀j,(a j).natAbs<=9)(hb:∀j,(b j).natAbs<=9)(hc:∀j,(c j).natAbs<=9)(i j k:Nat):(dt3 a b c i j k).natAbs<=4374:=by have h1:=EY (ha i) (JI (hb j) (hb k) (hc j) (hc k));have h2:=EY (ha j) (JI (hb i) (hb k) (hc i) (hc k));have h3:=EY (ha k) (JI (hb i) (hb j) (hc i) (hc j));unfold dt3;omega
theorem IH{a b c:Ve}(ha:∀j,(a j).natAbs<=9)(hb:∀j,(b j).natAbs<=9)
  (d1:dt3 c a b 0 1 2=0) (d2:dt3 c a b 0 1 3=0) (d3:dt3 c a b 0 2 3=0) (d4:dt3 c a b 1 2 3=0)
  (h:∃i j,i<4∧j<4∧dt2 (a i) (a j) (b i) (b j)≠0):∃x,Sm4 a b c x:=by
 have bd:∀i j,(dt2 (a i) (a j) (b i) (b j)).natAbs<=4374:=λi j=>Zy (JI (ha _) (ha _) (hb _) (hb _)) af
 have bn:∀i j,(- dt2 (a i) (a j) (b i) (b j)).natAbs<=4374:=λi j=>by rw[Xz];exact bd i j
 have z:(0:Int).natAbs<=4374:=af;by_cases h1:dt2 (a 0) (a 1) (b 0) (b 1)≠0∨dt2 (a 0) (a 2) (b 0) (b 2)≠0∨dt2 (a 1) (a 2) (b 1) (b 2)≠0
 .refine⟨v4 (dt2 (a 1) (a 2) (b 1) (b 2)) (- dt2 (a 0) (a 2) (b 0) (b 2)) (dt2 (a 0) (a 1) (b 0) (b 1)) 0,Kr aa,D5 _ _ _ _,Kt (bd _ _) (bn _ _) (bd _ _) z,?_,?_,?_⟩<;>rw[Mn]<;>simp only[dt2,dt3]at * <;>grind
 by_cases h2:dt2 (a 0) (a 3) (b 0) (b 3)≠0∨dt2 (a 1) (a 3) (b 1) (b 3)≠0
 .refine⟨v4 (dt2 (a 1) (a 3) (b 1) (b 3)) (- dt2 (a 0) (a 3) (b 0) (b 3)) 0 (dt2 (a 0) (a 1) (b 0) (b 1)),Kr aa,D5 _ _ _ _,Kt (bd _ _) (bn _ _) z (bd _ _),?_,?_,?_⟩<;>rw[Mn]<;>simp only[dt2,dt3]at * <;>grind
 refine⟨v4 0 (dt2 (a 2) (a 3) (b 2) (b 3)) (- dt2 (a 1) (a 3) (b 1) (b 3)) (dt2 (a 1) (a 2) (b 1) (b 2)),Kr ?_,D5 _ _ _ _,Kt z (bd _ _) (bn _ _) (bd _ _),?_,?_,?_⟩
 .obtain⟨i,j,hi,hj,hn⟩:=h;have sw:∀i j,dt2 (a i) (a j) (b i) (b j) = - dt2 (a j) (a i) (b j) (b i):=λi j=>by simp only[dt2];grind
  have se:∀i,dt2 (a i) (a i) (b i) (b i)=0:=λi=>by simp only[dt2];grind
  have i4:i=0∨i=1∨i=2∨i=3:=aa;have j4:j=0∨j=1∨j=2∨j=3:=aa;rcases i4 with rfl|rfl|rfl|rfl<;>rcases j4 with rfl|rfl|rfl|rfl<;>grind
 all_goals rw[Mn];simp only[dt2,dt3]at *;grind
theorem aaY(u:Ve)(i j:Nat)(hi:i<4)(hj:j<4)(hij:i≠j)(p q:Int):dt4 u (λt=>if t=i then p else if t=j then q else 0)=u i*p+u j*q:=by have i4:i=0∨i=1∨i=2∨i=3:=aa;have j4:j=0∨j=1∨j=2∨j=3:=aa;rcases i4 with rfl|rfl|rfl|rfl<;>rcases j4 with rfl|rfl|rfl|rfl<;>simp_all[dt4]<;>omega
theorem acS{a b c:Ve}(ha:∀j,(a j).natAbs<=9)(hb:∀j,(b j).natAbs<=9)(hc:∀j,(c j).natAbs<=9):∃x,Sm4 a b c x:=by
 by_cases hd:dt3 a b c 0 1 2=0∧dt3 a b c 0 1 3=0∧dt3 a b c 0 2 3=0∧dt3 a b c 1 2 3=0
 case neg=>
  have bd:=adS ha hb hc;have bn:∀i j k,(- dt3 a b c i j k).natAbs<=4374:=λi j k=>by rw[Xz];exact bd i j k
  refine⟨v4 (dt3 a b c 1 2 3) (- dt3 a b c 0 2 3) (dt3 a b c 0 1 3) (- dt3 a b c 0 1 2),Kr aa,D5 _ _ _ _,Kt (bd ..) (bn ..) (bd ..) (bn ..),?_,?_,?_⟩<;>rw[Mn]<;>simp only[dt2,dt3]<;>grind
 obtain⟨d1,d2,d3,d4⟩:=hd;have cyc:∀i j k,dt3 c a b i j k=dt3 a b c i j k:=λi j k=>by simp only[dt2,dt3];grind
 have cyc2:∀i j k,dt3 b a c i j k = - dt3 a b c i j k:=λi j k=>by simp only[dt2,dt3];grind
 by_cases h1:∃i j,i<4∧j<4∧dt2 (a i) (a j) (b i) (b j)≠0
 .exact IH ha hb (by rw[cyc];exact d1) (by rw[cyc];exact d2) (by rw[cyc];exact d3) (by rw[cyc];exact d4) h1
 by_cases h2:∃i j,i<4∧j<4∧dt2 (a i) (a j) (c i) (c j)≠0
 .obtain⟨x,x1,x2,x3,x4,x5,x6⟩:=IH (c:=b) ha hc (by rw[cyc2,d1];rfl) (by rw[cyc2,d2];rfl) (by rw[cyc2,d3];rfl) (by rw[cyc2,d4];rfl) h2;exact⟨x,x1,x2,x3,x4,x6,x5⟩
 by_cases h3:∃i j,i<4∧j<4∧dt2 (b i) (b j) (c i) (c j)≠0
 .obtain⟨x,x1,x2,x3,x4,x5,x6⟩:=IH (c:=a) hb hc d1 d2 d3 d4 h3;exact⟨x,x1,x2,x3,x6,x4,x5⟩
 have g1:∀i j,i<4->j<4->dt2 (a i) (a j) (b i) (b j)=0:=λi j hi hj=>Classical.byContradiction λh=>h1 ⟨i,j,hi,hj,h⟩
 have g2:∀i j,i<4->j<4->dt2 (a i) (a j) (c i) (c j)=0:=λi j hi hj=>Classical.byContradiction λh=>h2 ⟨i,j,hi,hj,h⟩
 have g3:∀i j,i<4->j<4->dt2 (b i) (b j) (c i) (c j)=0:=λi j hi hj=>Classical.byContradiction λh=>h3 ⟨i,j,hi,hj,h⟩
 -- all rows go one way
 by_cases hz:∃i,i<4∧(a i≠0∨b i≠0∨c i≠0)
 .obtain⟨i,hi,hn⟩:=hz;obtain⟨j,hj,hij⟩:∃j,j<4∧i≠j:=⟨if i=0 then 1 else 0,by split<;>omega,by split<;>omega⟩
  have go:∀r:Ve,(∀j,(r j).natAbs<=9)->r i≠0->r j*a i=r i*a j->r j*b i=r i*b j->r j*c i=r i*c j->∃x,Sm4 a b c x:=λr hr hri e1 e2 e3=>by
   refine⟨λt=>if t=i then r j else if t=j then-r i else 0,⟨j,?_⟩,λt ht=>?_,λt=>?_,?_,?_,?_⟩
   .simp only[if_neg (Ne.symm hij),if_true];omega
   .simp only[if_neg (show t≠i by omega),if_neg (show t≠j by omega)]
   .have:=hr i;have:=hr j;simp only
    repeat' split
    all_goals omega
   all_goals rw[aaY _ _ _ hi hj hij];grind
  have k1:=g1 i j hi hj;have k2:=g2 i j hi hj;have k3:=g3 i j hi hj;simp only[dt2]at k1 k2 k3;rcases hn with hn|hn|hn
  .exact go a ha hn (by grind) (by grind) (by grind)
  .exact go b hb hn (by grind) (by grind) (by grind)
  .exact go c hc hn (by grind) (by grind) (by grind)
 ·have z:∀i,i<4->a i=0∧b i=0∧c i=0:=λi hi=>by
   refine⟨?_,?_,?_⟩<;>exact Classical.byContradiction λh=>hz ⟨i,hi,aa⟩
  have z0:=z 0 af;have z1:=z 1 af;have z2:=z 2 af;have z3:=z 3 af;refine⟨v4 1 0 0 0,Kr af,D5 _ _ _ _,Kt af af af af,?_,?_,?_⟩<;>rw[Mn]<;>simp[z0,z1,z2,z3]
theorem aaB(hm:m.length<=3)(hb:BdE 9 m)(hs:∀v,Spn (vs C) v↔Krn 4 (SpZ m) v)(h1:C.length=1):∀x∈C,∀j,(x.2 j).natAbs<=4374:=by
 obtain ⟨y,rfl⟩:∃y,C=[y]:=by
  match C,h1 with
  |[y],_=>exact⟨y,rfl⟩
 obtain⟨x,⟨j0,hx0⟩,hx1,hx2,e0,e1,e2⟩:=acS (a:=ve (nth [] m 0)) (b:=ve (nth [] m 1)) (c:=ve (nth [] m 2)) (hb 0) (hb 1) (hb 2)
 have hk:Krn 4 (SpZ m) x:=by
  refine⟨λu hu=>Aq (λg hg=>?_) hu,hx1⟩;obtain⟨r,hr,rfl⟩:=Zw.1 hg;obtain⟨i,hi,rfl⟩:=Zj.1 hr;have e3:m[i]=nth [] m i:=by rw[nth,Z6,List.getElem?_eq_getElem hi];rfl
  have hd:∀u,dtV 4 u x=dt4 u x:=λu=>by simp[dtV,dt4]
  rw[e3,hd];have:i=0∨i=1∨i=2:=aa;rcases this with rfl|rfl|rfl<;>assumption
 obtain⟨ks,hk⟩:=(hs x).2 hk;intro z hz j;rw[Xh]at hz;subst hz;cases ks with
 |nil=>rw[hk,vk]at hx0;exact absurd rfl hx0
 | cons t ks=>
  have ex:∀i,x i=t*z.2 i:=λi=>by
   rw[hk]
   show t*z.2 i+cmb ks [] i=_
   cases ks<;>simp[cmb]
  have ht:t≠0:=λh=>hx0 (by rw[ex,h,Int.zero_mul])
  have h2:=hx2 j;rw[ex,Y9]at h2;exact Zy (Nat.le_mul_of_pos_left _ aa) h2
open Go Go.Am Go.Big
theorem sd{α:Type}(d:α)(m:List α)(h:i<m.length):nth d m i=m[i]:=by rw[nth,Z6,List.getElem?_eq_getElem h];rfl
theorem PS(H:HmF n m):m.length<=n:=by
 obtain⟨L,H⟩:=H
 have:=xm (n:=n) (tE H m.length 0 0 aa (λ_=>Zc _)) (λx hx=>by
  obtain⟨k,_,hk,rfl⟩:=uO hx;exact H.lt k aa)
 grind[xn]
theorem VU(H:HmF n m):∀r∈m,r.length=n:=λr hr=>by
 obtain⟨L,H⟩:=H;obtain⟨i,hi,rfl⟩:=Zj.1 hr;have:=H.ln i hi
 grind[sd]
theorem XZ(hb:BdE E m):∀r∈m,∀z∈r,z.natAbs<=E:=λr hr z hz=>by
 obtain⟨i,hi,rfl⟩:=Zj.1 hr;obtain⟨j,hj,rfl⟩:=Zj.1 hz;have:=hb i j
 grind[sd]
theorem zK(h1:0<n)(h2:n<=12)(H:HmF n m)(hb:BdE (10^9) m):sy n m:=
 ⟨h1,h2,by have:=PS H;omega,VU H,λr hr z hz=>by have:=XZ hb r hr z hz;omega⟩
theorem UK{l:Nat}(h1:∀j,j<l->nth 0 r j=0)(h2:nth 0 r l≠0):piv r=l:=by
 have hl:l<r.length:=Decidable.byContradiction λh=>h2 (by rw[nth,Z6,List.getElem?_eq_none aa];rfl)
 have:r.findIdx? (λn=>n !=0)=some l:=by
  rw[List.findIdx?_eq_some_iff_getElem];refine⟨hl,by grind[sd],λj hj=>?_⟩;rw[<-sd 0 r aa,h1 j hj];simp
 grind[piv,idx]
theorem PW{n:Nat}{m:Mz}{L:Nat->Nat}(H:Hm n n m.length L m):∀(q a:Mz)(b:Int),m=a++q->(∀i,i<m.length->i=a.length->b<L i)->Jz b a q=true
 |[],a,b,e,hb=>rfl
 | r::q,a,b,e,hb=>by
  have hal:a.length<m.length:=by rw[e];simp
  have er:nth [] m a.length=r:=by rw[sd _ _ hal];simp[e]
  have p1:=H.pos a.length hal;have p2:=H.low a.length hal;simp only[eZ,er]at p1 p2;have hp:=UK p2 aa;have hb':=hb a.length hal rfl;simp only[Jz,hp,Int.toNat_natCast];rw[if_neg aa,if_neg]
  .refine PW H q (a++[r]) _ (by simp[e]) λi hi he=>?_
   rw[List.length_append,List.length_singleton]at he;subst he;have:=H.inc a.length (a.length+1) aa hi;omega
  .rw[Bool.not_eq_true,List.any_eq_false];intro o ho;obtain⟨j,hj,rfl⟩:=Zj.1 ho;have eo:nth [] m j=a[j]:=by rw[sd _ _ aa];simp[e,List.getElem_append_left hj]
   have:=H.red j a.length hj hal
   grind[upF]
theorem ON{c:Nat}(hc:c<=12):∀{m:Mz},(∀r∈m,r.length=c)->(∀r∈m,∀z∈r,z.natAbs<=1000000000)->Gl c m=0
 |[],_,_=>rfl
 | r::q,h1,h2=>by
  have hr:=h1 r ac;simp only[Gl];rw[if_neg aa,if_neg aa,if_neg]
  .exact ON hc (λx hx=>h1 x (by grind)) λx hx=>h2 x (by grind)
  .rw[Bool.not_eq_true,List.any_eq_false];intro z hz;have:=h2 r ac z hz
   grind[NZ]
theorem Uy(h1:r.length<=64)(h2:∀z∈r,z.natAbs<=1000000000):rcB r=0:=by
 unfold rcB;rw[if_neg];rintro(h|h)
 .omega
 grind[Cl]
theorem K7{n:Nat}(hn:n<=64):∀{m:Mz},(∀r∈m,r.length=n)->(∀r∈m,∀z∈r,z.natAbs<=1000000000)->wB n m=0
 |[],_,_=>rfl
 | r::q,h1,h2=>by
  have hr:=h1 r ac;simp only[wB];rw[Uy aa (h2 r ac),if_neg af,if_neg aa];exact K7 hn (λx hx=>h1 x (by grind)) λx hx=>h2 x (by grind)
theorem VF(hn:n<=12)(hm:m.length<=12)(h1:∀r∈m,r.length=n)(h2:∀r∈m,∀z∈r,z.natAbs<=1000000000):lcB n m=0:=by unfold lcB;rw[if_neg aa,if_neg aa];exact K7 aa h1 h2
theorem Ju(hn:n<=12)(H:HmF n m)(hb:BdE (10^9) m):Gz n m=0:=by
 have hl:=PS H;have hr:=VU H;have hz:=XZ hb;have hz':∀r∈m,∀z∈r,z.natAbs<=1000000000:=λr hr z hzz=>hz r hr z hzz
 unfold Gz;rw[VF hn aa hr hz',if_neg af,if_pos];unfold hfB
 have t0:tcB m=0:=by
  unfold tcB;rw[if_neg aa];refine ON ?_ (λr hr'=>?_) hz'
  .cases m with
   |nil=>simp[nth]
   |cons x q=>have:=hr x ac;grind[nth]
  .rw[hr r hr'];cases m with
   |nil=>cases hr'
   |cons x q=>have:=hr x ac;grind[nth]
 obtain⟨L,H⟩:=H;rw[t0,PW H m [] (-1) rfl (λi _ _=>by omega)];rfl
def ofN(N:Nat)(r0 o:Nat×Bk)(l:List RwL):Hp:=r0::o::nnQ::loB l::(l.map RwL.k++List.replicate (N-l.length) nnQ)
theorem I6{r0:Nat×Bk}{l:List RwL}(h:l.length<=N):(ofN N r0 o l).length=N+4:=by grind[ofN]
theorem Pq{r0:Nat×Bk}{l:List RwL}(h:l.length<=12):ofN 12 r0 o l++List.replicate 14 nnQ=ofN 26 r0 o l:=by simp only[ofN,List.cons_append,List.append_assoc,List.replicate_append_replicate];rw[show 12-l.length+14=26-l.length by omega]
theorem UW{r0:Nat×Bk}{l:List RwL}(h:l.length<=12):(ofN 26 r0 o l).take 16=ofN 12 r0 o l:=by rw[<-Pq h,Ye (by rw[I6 h])]
section
variable{r0:Nat×Bk}(hr0:aF 16 r0.2=true)
include hr0
theorem Pp{l:List RwL}(ho:aF 16 o.2=true)(hl:∀R∈l,R.s<16):((ofN N r0 o l).all λx=>aF 16 x.2)=true:=by simp only[ofN,List.all_cons,Y2,ho,hr0,IU,Bi,Yf,Yp];exact Bool.and_eq_true_iff.2 ⟨rfl,LM hl⟩
theorem Cn{m:LLQ}(hm:m.length<=12)(hr:∀r∈m,r.length<1000000)(hz:∀r∈m,∀z∈r,-9223372036854775808<z∧z<9223372036854775808)(h0:Hp)(K:KL) :
  ∀(q a:LLQ)(o:Nat×Bk),m=a++q->o=ooF nnQ (lgR true 4 a)->K (.exit 0) [loV 3 (lgR true 4 m)] (ofN 26 r0 (ooF nnQ (lgR true 4 m)) (lgR true 4 m)) ->
  lp (lR (CX Y) 16 (mat m) (I m.length)) [] h0 [loV 3 (lgR true 4 a),I a.length] (ofN 26 r0 o (lgR true 4 a)) K
 | [],a,o,e,hu,hK=>by
  simp only[Zm]at e;subst e;refine aj ?_;simp only[lR];have hlt:¬((m.length:Int)<(m.length:Int)):=aa;simp[hlt]
  grind
 | r::q,a,o,e,hu,hK=>by
  refine aj ?_;have hlt:((a.length:Int)<(m.length:Int)):=by rw[e];simp;omega
  have hl:a.length<m.length:=aa;have hrm:r∈m:=by rw[e];simp
  obtain⟨H,hH⟩:=nmQ (ofN 26 r0 o (lgR true 4 a));have i1:ixV H 1 (mat m) (I a.length)=some (.dptr (m.map row) a.length):=by rw[e];exact uU row a r q _ _
  have i2:ld1 H (.dptr (m.map row) a.length)=some (lst di r):=by
   rw[pA row m _ hl];simp only[e,Zg (Z8 _),Y7,Y6];rfl
  have hlen:H.length=30:=by rw[hH,I6 aN]
  have hu1:(H.all λx=>aF H.length x.2)=true:=by
   rw[hlen];refine tP (b:=16) aa ?_;rw[hH];have hlt16:∀R∈lgR true 4 a,R.s<16:=λR hR=>by have:=E8 true 4 a R hR;omega
   exact Pp hr0 (by rw[hu];exact Pk rfl hlt16) hlt16
  rw[<-hH];simp only[lR];simp[hlt,i1,i2]
  have g1:H[a.length+4]?=some nnQ:=by
   rw[hH];simp only[ofN,List.getElem?_cons_succ];rw[List.getElem?_append_right ac,List.getElem?_replicate,if_pos aN]
  refine vv (a.length+4) ?_;refine iz (Bs (Rd.data _ r) (hz r hrm) (hr r hrm) hu1) g1 ?_;obtain⟨R,hR⟩:∃R:RwL,R=⟨a.length+4,1,[],[],true,r.length,r⟩:=⟨_,rfl⟩;have v1:V.ref (a.length+4) (0+1) 0 r.length r.length (r.map sI).length=R.v:=by rw[hR];simp[RwL.v,RwL.tot]
  have k1:((0+1,Bk.data 1 (r.map sI) true false):Nat×Bk)=R.k:=by rw[hR];simp[RwL.k]
  have e1:H.set (a.length+4) R.k=r0::o::nnQ::loB (lgR true 4 a)::((lgR true 4 a++[R]).map RwL.k++List.replicate (26-(lgR true 4 a++[R]).length) nnQ):=by
   rw[hH];simp only[ofN,List.set_cons_succ];rw[Y4 _ _ ac];simp only[List.length_map,Dw,Y7,Yw,List.length_append,List.append_assoc,Zv,Yv,List.length_cons,List.length_nil];rw[show 26-a.length=(26-(a.length+1))+1 by omega,List.replicate_succ,List.set_cons_zero];rfl
  have l2:lgR true 4 (a++[r])=lgR true 4 a++[R]:=by rw[Jq,hR]
  rw[v1,k1,e1,<-l2];simp;refine vv 1 ?_;simp;refine Ji (e:=o.1) (b:=o.2) rfl (v:=R.v) rfl ?_;simp;refine vv 3 ?_;simp;refine(Dv (l:=lgR true 4 a) (R:=R) aN (by simp[rN,ax]) rfl ?_);rw[<-l2];have ih:=Cn hm hr hz h0 K q (a++[r]) (o.1+1,.vars [R.v]) (by simp[e]) (by rw[l2,Pm,hu]) hK
  have e2:((a++[r]).length:Int)=(a.length:Int)+1:=ac;rw[e2]at ih;simp(disch:=try exact ae);refine lo ?_;have e3:26-(lgR true 4 (a++[r])).length=25-a.length:=ac
  grind[ofN.eq_1,eu]
theorem LJ{m:LLQ}(hm:m.length<=12)(hr:∀r∈m,r.length<1000000)(hz:∀r∈m,∀z∈r,-9223372036854775808<z∧z<9223372036854775808):
  CI Y F.cN [mat m] (ofN 12 r0 nnQ []) (loV 3 (lgR true 4 m)) (ofN 12 r0 (ooF nnQ (lgR true 4 m)) (lgR true 4 m)):=by
 refine zP ?_;have hl:(ofN 12 r0 nnQ []).length=16:=rfl;have l1:aX (mat m)=some (I m.length):=rfl;have hlt16:∀R∈lgR true 4 m,R.s<16:=λR hR=>by have:=E8 true 4 m R hR;omega
 rw[hl];simp only[cN];rw[Pq ac];simp[l1];refine lo (Cn hr0 hm hr hz _ _ m [] nnQ rfl rfl ?_);simp;refine⟨by rw[UW aN],Pp hr0 (Pk rfl hlt16) hlt16,.inl ⟨rfl,?_⟩⟩;unfold loV;split
 .rfl
 rfl
end
theorem Nq{so eo o:Nat}{h:Hp}{m:List RwL}(hs:h[so]?=some (eo,.vars (m.map RwL.v)))(hr:∀R∈m,Lp h R)(hc:∀R∈m,R.r.length<=R.cap)(h0:m≠[])(ho:o<=m.length):
  ∃h1,bH h (.ref so eo 0 o m.length m.length)=some (uN ((m.map RwL.r).take o),h1)∧∀(s e:Nat)(vs:LwQ),s≠so->h[s]?=some (e,Bk.vars vs)->h1[s]?=some (e,Bk.vars vs):=by
 obtain⟨h1,e1,v1⟩:=IA m h hr hc;have g1:=v1 _ _ _ hs;have g0:ax h so eo=.vars (m.map RwL.v):=by simp[ax,hs]
 have hd:Mo (m.map RwL.v)=none:=by
  cases m with
  |nil=>trivial
  |cons R m=>rfl
 refine⟨bK h1 so eo (.data 1 (m.map λR=>tA R.r) false true),?_,λs e vs hne hg=>?_⟩
 .have t1:toD h (.ref so eo 0 o m.length m.length)=none:=by simp[toD,g0,hd]
  have t2:M9 h (.ref so eo 0 o m.length m.length)=some (.sl o ((m.map λR=>tA R.r).take o),bK h1 so eo (.data 1 (m.map λR=>tA R.r) false true)):=by
   simp only[M9,g0,e1];have:ax h1 so eo=.vars (m.map RwL.v):=by simp[ax,g1]
   simp only[this];rw[if_pos (by grind)];simp
  simp_all[bH,uN,lst,Function.comp_def]
 grind[bK.eq_1]
theorem adw{n Bd f o':Nat}{m z':Mz}(hB:Bd<=100000)(h0:0<n)(hn:n<=12)(hl:lcB n m=0)(hm:m.length<=12)(hr:∀r∈m,r.length=n)(hz:∀r∈m,∀z∈r,-9223372036854775808<z∧z<9223372036854775808)
  (hf:qV Bd f n m=some (o',z')) (ho:sy n (z'.take o')):CP Y F.qc [I n,mat m] (.tup [qB n (z'.take o'),I 0]):=by
 refine Jw ?_;simp only[qc];simp;have hrl:∀r∈m,r.length<1000000:=λr hr'=>by grind
 have ck:=HS (n:=n) (m:=m) aa hrl;rw[hl]at ck;refine cd ck ?_ (by rfl);obtain⟨r0,hr0⟩:∃r0:Nat×Bk,r0=(1,.vars [I 0,nlV]):=⟨_,rfl⟩;have u0:aF 16 r0.2=true:=by rw[hr0];rfl
 have hH:([(1,Bk.vars [V.d (D.int IntKind.i64 0),V.d nPQ]),(0,Bk.none),(0,Bk.none),(0,Bk.none),(0,Bk.none),(0,Bk.none),(0,Bk.none),(0,Bk.none),(0,Bk.none),(0,Bk.none),(0,Bk.none),(0,Bk.none),(0,Bk.none),(0,Bk.none),(0,Bk.none),(0,Bk.none)]:Hp)=ofN 12 r0 nnQ []:=by rw[hr0];rfl
 have c1:=LJ u0 hm hrl hz;have ok1:okV (mat (z'.take o'))=true:=rfl;have c3:=yD (m:=z'.take o') (n:=n) (by grind[sy.ml]) (λr hr'=>by grind[sy.rl]) ho.sm;simp;rw[hH];by_cases hm0:m=[]
 .subst hm0
  have hz0:z'=[]:=by
   have hfm:=(DF (n:=n) (λi hi=>by simp at hi) hf).2.2;exact Zo hfm
  subst hz0;rw[List.take_nil]at c3 ⊢;have c1':CI Y F.cN [mat []] (ofN 12 r0 nnQ []) nlV (ofN 12 r0 nnQ []):=c1;refine fT c1' ?_ ac;refine fT (HQ (h:=ofN 12 r0 nnQ []) (n:=n) ?_) ?_ ac
  .exact Pp (N:=12) u0 rfl (λR hR=>by cases hR)
  refine yS (ds:=[uN [],I n]) (h':=ofN 12 r0 nnQ []) rfl c3 ?_;rw[hr0];simp[qB,ok1];exact⟨_,by rfl⟩
 .obtain⟨l,hll⟩:=nmQ (lgR true 4 m);have hln:l.length=m.length:=by rw[hll];simp
  have hl0:l≠[]:=λe=>hm0 (by grind)
  have hlr:l.map RwL.r=m:=by rw[hll,Vw]
  have hnth:∀i,i<l.length->nth RwL.z l i=⟨i+4,1,[],[],true,(nth [] m i).length,nth [] m i⟩:=λi hi=>by rw[hll,Jp true 4 _ i aa]
  have hnl:∀i,i<l.length->(nth [] m i).length=n:=λi hi=>by rw[sd _ _ aa];grind
  obtain⟨o,hoo⟩:=nmQ (ooF nnQ l)
  have uo:aF 16 o.2=true:=by
   rw[hoo];exact Pk rfl λR hR=>by rw[hll]at hR;have:=E8 true 4 m R hR;omega
  rw[<-hll,<-hoo]at c1;obtain⟨H,hHe⟩:=nmQ (ofN 12 r0 o l);have hHl:H.length=16:=by rw[hHe,I6 aa]
  have T:Tr H.length H H 3 l.length n l:=by
   refine⟨?_,λi hi=>?_,λi j hi hj hij=>?_,λi hi=>?_,λi hi=>?_,λ_ _ _=>rfl,aa,λi hi=>?_,?_,Z8 _,λs h1 h2=>by omega⟩
   .grind[ofN,loB]
   .have h5:=Dx true m 4 [r0,o,nnQ,loB l] (List.replicate (12-l.length) nnQ) rfl (nR l i) (by grind[yA]);rw[<-hll]at h5;rw[hHe];exact h5
   .grind
   .grind
   .grind
   .grind
   .rw[hHl,hHe];exact Pp u0 uo λR hR=>by rw[hll]at hR;have:=E8 true 4 m R hR;omega
  obtain⟨m1,f1,f2⟩:=JD (hlr.symm▸hf);obtain⟨⟨⟨h1,T1,e1⟩,hQ⟩,q1,q2⟩:=FJ (Q:=λR=>n<=R.cap∧4<=R.s) (λ_ _ h=>h) T (λi hi=>by rw[nR,hnth i hi];exact⟨by grind,ac⟩) f1;have fo:=E9 hB aa aa (Z8 _) T f1 T1 e1;have lv:loV 3 l=.ref 3 l.length 0 l.length l.length l.length:=by rw[loV,if_neg hl0]
  rw[lv,<-hHe]at c1;refine fT c1 ?_ ac;refine fT fo ?_ ac;have hm1:m1≠[]:=λe=>hl0 (by grind)
  have g0:h1[0]?=some (1,.vars [I 0,nlV]):=by
   rw[T1.fr 0 aa (λi hi=>by grind),hHe,hr0];rfl
  have T1o:=T1.o;rw[<-q2]at T1o ⊢
  obtain ⟨h3,e3,v3⟩:=Nq (o:=o') T1o (λR hR=>by
   obtain⟨i,hi,rfl⟩:=Bp hR;exact⟨false,T1.r i hi⟩) (λR hR=>by
   grind[Bp,Tr.ln]) hm1 aa
  rw[f2]at e3;have g3:=v3 0 1 _ aa g0
  have hs3:∀c w:V,okV c=true->okV w=true->st h3 2 (.ptr 0 1 0 2) (.agg [c,w])=some (h3.set 0 (1,.vars [c,w])):=λc w hc hw=>by
   grind[st,sto,ax,bK]
  have h3l:0<h3.length:=(List.getElem?_eq_some_iff.1 g3).1
  have hl3:∀c w:V,ldA (h3.set 0 (1,.vars [c,w])) 2 (.ptr 0 1 0 2)=some (.agg [c,w]):=λc w=>by
   simp[ldA,ax,List.getElem?_set_self h3l]
  have sI:∀h:Hp,bH h (I n)=some (I n,h):=λh=>rfl
  refine yS (ds:=[uN (z'.take o'),I n]) (h':=h3) (by grind[aH]) c3 ?_;have hs4:=hs3 (I n) (mat (z'.take o')) rfl ok1;have hl4:=hl3 (I n) (mat (z'.take o'));rw[show(if cS (V.tup [qB n (z'.take o'),I 0])=true then h1 else h3)=h3 from rfl];simp only[qB];simp[hs4,hl4];exact⟨_,by rfl⟩
abbrev I4:=Int×Int×Int×Int
variable{x:I4}
def i4D(x:I4):LdQ:=[.int .i8 x.1,.int .i8 x.2.1,.int .i8 x.2.2.1,.int .i8 x.2.2.2]
theorem PQ(x:I4):(i4D x).length=4:=rfl
def i4L(x:I4):LiQ:=[x.1,x.2.1,x.2.2.1,x.2.2.2]
def ok4(x:I4):Prop:=(-128<=x.1∧x.1<=127)∧(-128<=x.2.1∧x.2.1<=127)∧(-128<=x.2.2.1∧x.2.2.1<=127)∧(-128<=x.2.2.2∧x.2.2.2<=127)
def mkI(p:LiQ)(x:I4):Rw:=itv p.length (i4L x)
theorem On{p:LiQ}{g w c:Mz}(hp:pcB p=0)(h0:0<p.length)(h4:p.length<=4)(hm:m.length<=3)(hr:∀r∈m,r.length=p.length)(hz:∀r∈m,∀z∈r,z.natAbs<=9)(hE:E<=10^9)(R:aek E p.length m g w c f)(vals:Bool):
  CP Y F.gB [lst di p,mat m,B vals] (.tup [tpV p (if vals=true then w else c) (if vals=true then c else w),I 0]):=by
 refine wz ?_;obtain⟨o,g',hf,hg⟩:=R.g0;have lg:sy p.length g:=zK h0 aa R.hg R.bg;have lw:sy p.length w:=zK h0 aa R.hw (R.bw.mono hE);have lc:sy p.length c:=zK h0 aa R.hc (R.bc.mono af)
 have c1:=adw (n:=p.length) (m:=m) (Z8 100000) h0 aa (VF aa aa hr λr hr' z hz'=>by grind) aa hr (λr hr' z hz'=>by grind) hf (by grind);rw[hg]at c1;have hlc:=Ju aa R.hg R.bg;have c2:=Pz (Z8 100000) hlc lg R.gw lw.rl (by grind[sy.ml]) R.wc lc;have c3:=PM (Z8 100000) hlc lg R.gw lw
 have cp:=mA (p:=p) aa;rw[hp]at cp;have l1:aX (lst di p)=some (I p.length):=rfl;have ok1:∀m:Mz,okV (mat m)=true:=λ_=>rfl
 have ok2:okV (lst di p)=true:=rfl;simp only[qB]at c1 c2 c3;simp only[gB];simp;refine cd cp ?_;simp[l1];refine cd c1 ?_ (by rfl);simp[ok1];refine cd c2 ?_ (by rfl);simp[ok1];refine cd c3 ?_ (by rfl);simp[ok1];cases vals with
 | false=>
  refine bM ?_;simp[ok1,ok2];exact⟨_,by rfl⟩
 | true=>
  refine bM ?_;simp[ok1,ok2];exact⟨_,by rfl⟩
theorem Vd{p:LiQ}{e:List I4}{kk:Nat}{vals:Bool}(he:e.length<=3)(hb:∀x∈e,ok4 x)(hp:p.length<=4)(b1 b3:Nat×Bk)(h0:Hp)(K:KL):∀(q a:List I4),e=a++q ->
  K (.exit 0) [(acU 2).v e.length (e.map λx=>row (mkI p x))] [(1,.vars [.d (.int .u8 kk),gk i4D e,B vals]),b1,(acU 2).b e.length (e.map λx=>row (mkI p x)),b3] ->
  lp (jO (CX Y) (.ptr 0 1 0 3) (lst di p)) [] h0 [(acU 2).v a.length (a.map λx=>row (mkI p x)),I a.length] [(1,.vars [.d (.int .u8 kk),gk i4D e,B vals]),b1,(acU 2).b a.length (a.map λx=>row (mkI p x)),b3] K
 | [],a,e1,hK=>by
  simp only[Zm]at e1;subst e1;refine aj ?_;have hlt:¬((e.length:Int)<(e.length:Int)):=aa;have l1:aX (gk i4D e)=some (I e.length):=rfl;simp only[jO];simp[hlt,l1];exact hK
 | x::q,a,e1,hK=>by
  refine aj ?_;have hlt:((a.length:Int)<(e.length:Int)):=by rw[e1];simp;omega
  have h3:((a.length:Int)<3):=aa;have hal:a.length<e.length:=aa;have hx2:nth (0,0,0,0) e a.length=x:=by rw[sd _ _ hal];simp[e1]
  have hm:=hb x (by grind);have io:CP Y F.cn [lst di p,.agg [i8V x.1,i8V x.2.1,i8V x.2.2.1,i8V x.2.2.2]] (lst di (mkI p x)):=Cy hm.1 hm.2.1 hm.2.2.1 hm.2.2.2 hp;have l1:aX (gk i4D e)=some (I e.length):=rfl;have i1:=λh=>jW i4D PQ e h (k:=.i64) (i:=(a.length:Int)) aa aa
  have i2:=λh=>kD i4D PQ (0,0,0,0) e h (j:=a.length) hal
  rw[hx2]at i2;simp only[Int.toNat_natCast]at i1;have i2':∀h,ldA h 4 (.dptr (e.flatMap i4D) (a.length*4))=some (.agg [i8V x.1,i8V x.2.1,i8V x.2.2.1,i8V x.2.2.2]):=i2;obtain⟨H,hH⟩:∃H:Hp,H=[(1,.vars [.d (.int .u8 kk),gk i4D e,B vals]),b1,(acU 2).b a.length (a.map λx=>row (mkI p x)),b3]:=⟨_,rfl⟩;have g1:md H 0 1=.vars [.d (.int .u8 kk),gk i4D e,B vals]:=by rw[hH];rfl
  have li1:du 1 [nPQ] [(0,lst di (mkI p x))] H=some ([row (mkI p x)],H):=Jo ..;have sn:aH H [lst di p,.agg [i8V x.1,i8V x.2.1,i8V x.2.2.1,i8V x.2.2.2]]=some ([lst di p,.agg [i8V x.1,i8V x.2.1,i8V x.2.2.1,i8V x.2.2.2]],H):=by simp[aH,bH,i8V]
  rw[<-hH];simp only[jO];simp[hlt,h3,l1,g1,i1,i2'];refine cd io ?_ sn;simp[li1];refine j6 (acU 2) (by_:=24) (k:=1) (cs:=[row (mkI p x)]) aa (by rw[hH];rfl) (by simp[acU]) (by rfl) rfl (by grind) aa (by simp[acU]) ?_
  have hs:H.set (acU 2).s ((acU 2).b (a.length+1) ((a.map λx=>row (mkI p x))++[row (mkI p x)]))=[(1,.vars [.d (.int .u8 kk),gk i4D e,B vals]),b1,(acU 2).b (a.length+1) ((a.map λx=>row (mkI p x))++[row (mkI p x)]),b3]:=by rw[hH];rfl
  rw[hs];have ih:=Vd (kk:=kk) (vals:=vals) he hb hp b1 b3 h0 K q (a++[x]) (by grind) hK;have e4:((a++[x]).length:Int)=(a.length:Int)+1:=ac;rw[e4,Yw,List.length_append]at ih;simp(disch:=try exact ae)
  simp_all[eu]
theorem RA{k:Nat}{e:List I4}{vals:Bool}{E:Nat}{g w c:Mz}{f:Nat}(hk:k<256)(he:e.length<=3)(hb:∀x∈e,ok4 x)(hE:E<=10^9)(R:aek E (kL k).length (e.map (mkI (kL k))) g w c f) :
  CP Y F.dL [.agg [.d (.int .u8 k),gk i4D e,B vals]] (tpV (kL k) (if vals=true then w else c) (if vals=true then c else w)):=by
 refine xJ ?_;obtain⟨p1,p2,p3,p4,p5⟩:=UI _ (Bf k);obtain⟨p,hp⟩:=nmQ (kL k);have pk:=Lb hk;rw[<-hp]at p1 p2 p3 p4 p5 R pk ⊢
 have bu:=On p1 p3 p4 (by grind) (λr hr=>by
  obtain⟨x,_,rfl⟩:=Zw.1 hr
  grind[mkI,itv,i4L]) (λr hr z hz=>by
  grind[mkI,itv]) hE R vals
 obtain⟨C,hC⟩:=nmQ (if vals=true then w else c)
 obtain⟨W,hW⟩:=nmQ (if vals=true then c else w)
 rw[<-hC,<-hW]at bu ⊢;have em:mat (e.map (mkI p))=.d (.sl e.length (e.map λx=>row (mkI p x))):=by simp[lst,Function.comp_def]
 have ok1:∀m:Mz,okV (mat m)=true:=λ_=>rfl
 have ok2:okV (lst di p)=true:=rfl;have ok3:okV (gk i4D e)=true:=rfl;simp only[tpV]at bu;simp only[dL];simp[ok3];refine cd pk ?_;simp;refine lo (Vd (kk:=k) (vals:=vals) he hb p4 _ _ _ _ e [] rfl ?_);simp
 obtain⟨h',e1,hh⟩:=k9 (acU 2) (L:=e.length) (cells:=e.map λx=>row (mkI p x)) (h:=[(1,.vars [.d (.int .u8 k),gk i4D e,B vals]),(1,.vars [.d nPQ,.d nPQ,.d nPQ]),(acU 2).b e.length (e.map λx=>row (mkI p x)),nnQ]) rfl (by simp[acU])
 obtain ⟨x,hx⟩:∃x,h'=[(1,.vars [.d (.int .u8 k),gk i4D e,B vals]),(1,.vars [.d nPQ,.d nPQ,.d nPQ]),x,nnQ]:=by
  rcases hh with⟨_,hh⟩|⟨_,hh⟩
  .grind
  .exact⟨_,hh⟩
 rw[<-em]at e1;have sp:∀h:Hp,bH h (lst di p)=some (lst di p,h):=λh=>rfl
 have sb:∀h:Hp,bH h (B vals)=some (B vals,h):=λh=>rfl
 refine yS (ds:=[lst di p,mat (e.map (mkI p)),B vals]) (h':=h') (by simp_all[aH]) bu ?_;rw[show ∀h:Hp,(if cS (V.tup [V.agg [lst di p,mat C,mat W],I 0])=true then h else h')=h' from λ_=>rfl,hx];simp[ok1,ok2];exact⟨_,by rfl⟩
structure af2(p:LiQ)(C W:Mz):Prop where
 t:Da p C W
 hw:HmF p.length W
 hc:HmF p.length C
 bw:W.length=2->BdE 157464 W
theorem aaa(hE6:10^6<=E)(hE:E<=10^9)(h1:∀m:Mz,m.length<=3->BdE 9 m->af3 E m){e:List I4}(hk:k<256)(he:e.length<=3)(hb:∀x∈e,ok4 x):
  ∃C W,CP Y F.dL [.agg [.d (.int .u8 k),gk i4D e,B vals]] (tpV (kL k) C W)∧af2 (kL k) C W∧BdE E W:=by
 obtain⟨p1,p2,p3,p4,p5⟩:=UI _ (Bf k);have hlen:∀y:I4,(mkI (kL k) y).length=(kL k).length:=λy=>by grind[mkI,itv,i4L]
 have hsm:∀(y:I4),∀z∈mkI (kL k) y,z.natAbs<=9:=λy z hz=>by
  grind[mkI,itv]
 have bd:BdE 9 (e.map (mkI (kL k))):=λi j=>by
  by_cases hi:i<(e.map (mkI (kL k))).length
  .by_cases hj:j<(kL k).length
   .have hel:nth [] (e.map (mkI (kL k))) i=mkI (kL k) (e[i]'(by grind)):=by rw[sd _ _ hi,List.getElem_map]
    grind[Dk]
   .rw[SK (n:=(kL k).length) (λi hi=>by grind[sd]) aa];simp
  .rw[ub aa];simp
 obtain ⟨g,w,c,f,R⟩:=aaA (n:=(kL k).length) (m:=e.map (mkI (kL k))) hE6 hE (h1 _ (by simpa using he) bd) p4 (by grind) (λi hi=>by
  grind[sd]) bd
 have lw:sy (kL k).length w:=zK p3 aa R.hw (R.bw.mono hE);have lc:sy (kL k).length c:=zK p3 aa R.hc (R.bc.mono af);refine⟨_,_,RA (vals:=vals) hk he hb hE R,?_⟩;cases vals with
 |false=>exact⟨⟨⟨p1,lc,lw,Ju aa R.hc (R.bc.mono af),100000,f,Z8 _,R.cw,R.wc⟩,R.hw,R.hc,R.sw⟩,R.bw⟩
 |true=>exact⟨⟨⟨p1,lw,lc,Ju aa R.hw (R.bw.mono hE),100000,f,Z8 _,R.wc,R.cw⟩,R.hc,R.hw,R.sc⟩,R.bc.mono hE6⟩
section
variable{p:LiQ}{c w:Mz}
end
section
variable{p:LiQ}{c w:Mz}
end
theorem Sa{e:List I4}:CP Y F.fJ [.agg [.d (.int .u8 k),gk i4D e,B vals]] (B (decide (e.length<=3))):=by
 refine xK ?_;have l1:aX (gk i4D e)=some (I e.length):=rfl;have ok3:okV (gk i4D e)=true:=rfl;by_cases h:e.length<=3
 .have h':(e.length:Int)<=3:=aa;simp only[fJ];simp[l1,ok3,h']
  simp_all
 .have h':¬(e.length:Int)<=3:=aa;simp only[fJ];simp[l1,ok3,h']
  grind[gH]
theorem adn{p x:LiQ}(hp:pcB p=0)(hl:x.length=p.length)(hx:∀z∈x,z.natAbs<=10):mzB p [x]=0:=by
 have hs:smR x=true:=by
  unfold smR;rw[Z1];intro z hz;have:=hx z hz;simp only[Z7,decide_eq_true_eq];omega
 grind[mzB,Je]
theorem YI{s s' e es by_ k:Nat}{cs:LdQ}{b0:Bk}{h:Hp}{y:V}{q:kkQ}{u:PU q}(hk:0<k)(hs':h[s']?=some (e,.data 1 [] true false))(hs:h[s]?=some (es,b0))(hcs:cs.length=k)(hy:cellsOf h y=some (k,cs))(hyn:∀t,y≠.d (.str t))(hb:k*by_<=140737488355328)
  (hq:q (.ref s (es+1) 0 k k k) (h.set s (es+1,.data 1 cs false false))):rh (apV false s 1 by_ (.ref s' e 0 0 0 0) y h) q u:=by
 refine abB (cells:=[]) (L:=0) hk hs' hs rfl aa hy hyn (by grind) ?_
 grind
section
variable{p:LiQ}{c w:Mz}
end
theorem V2(x:Q):CP Y F.og [.agg (qT x)] (.agg (qT ((x.1.natAbs:Nat),x.2))):=by
 refine FG ?_;have ab:=xC x.1;have e:itoa ((x.1.natAbs:Nat):Int)=ah x.1.natAbs:=by simp[itoa]
 have eq1:qT ((x.1.natAbs:Nat),x.2)=[S (ah x.1.natAbs),S (ah x.2)]:=by simp only[qT,e]
 rw[eq1];simp[og,qT];refine cd ab ?_;simp;simp[jm]
def pOk(e:List (Int×Nat)):Prop:=e.length=4∧∀x∈e,(-128<=x.1∧x.1<=127)∧x.2<256
theorem four{e:List (Int×Nat)}(he:e.length=4):∃a b c d,e=[a,b,c,d]:=by
 match e,he with
 |[a,b,c,d],_=>exact⟨a,b,c,d,rfl⟩
def r9(k:Nat)(e:List I4)(vals:Bool)(gs:List (List (Int×Nat))):LwQ:=[.d (.int .u8 k),gk i4D e,B vals]++gs.flatMap zx
def Cr(gs:List (List (Int×Nat))):Prop:=gs.length=4∧∀g∈gs,pOk g
def uj(n:Nat)(gs:List (List (Int×Nat)))(m:Nat):List (List Q):=(List.range m).map λi=>AW n (nth [] gs (i%4))
theorem N2(n:Nat)(gs:List (List (Int×Nat)))(m:Nat):uj n gs (m+1)=uj n gs m++[AW n (nth [] gs (m%4))]:=by simp[uj,Xe]
theorem BF(n:Nat)(gs:List (List (Int×Nat)))(m:Nat):(uj n gs m).length=m:=by simp[uj]
theorem zw{g:List (Int×Nat)}(h:g.length=4):(zx g).length=8:=by obtain⟨a,b,c,d,rfl⟩:=four h;rfl
theorem zB{e:List I4}(h:Cr gs):(r9 k e vals gs).length=35:=by
 obtain⟨h4,ho⟩:=h
 match gs,h4 with
 | [a,b,c,d],_=>
  simp only[r9,Xy,List.flatMap_nil,List.length_append,zw (ho a ac).1,zw (ho b ac).1,zw (ho c ac).1,zw (ho d ac).1];rfl
theorem UJ{e:List I4}(h:Cr gs)(hj:j<4):cut (r9 k e vals gs) (3+j*8) 8=some (zx (nth [] gs j)):=by
 obtain⟨h4,ho⟩:=h
 match gs,h4 with
 | [a,b,c,d],_=>
  obtain⟨a0,a1,a2,a3,rfl⟩:=four (ho a ac).1;obtain⟨b0,b1,b2,b3,rfl⟩:=four (ho b ac).1;obtain⟨c0,c1,c2,c3,rfl⟩:=four (ho c ac).1;obtain⟨d0,d1,d2,d3,rfl⟩:=four (ho d ac).1;have:j=0∨j=1∨j=2∨j=3:=aa;rcases this with rfl|rfl|rfl|rfl<;>rfl
theorem R9{e:List I4}(h:Cr gs):CP Y F.ie [.agg (r9 k e vals gs)] (B (decide (e.length<=3))):=by
 refine xI ?_;have fi:=Sa (k:=k) (e:=e) (vals:=vals);have ok3:okV (gk i4D e)=true:=rfl;have hl:=zB (k:=k) (e:=e) (vals:=vals) h
 have hc:cut (r9 k e vals gs) 0 3=some [.d (.int .u8 k),gk i4D e,B vals]:=by
  rw[cut,if_pos aa];rfl
 simp only[ie];simp[hl,hc];refine cd (args:=[.agg [.d (.int .u8 k),gk i4D e,B vals]]) fi ?_ (by rfl);simp
abbrev Rx(A:LwQ)(p:LiQ)(C W:Mz)(v:V)(b:Nat×Bk):Hp:=[(1,.vars A),(1,.vars [nlV,nlV,nlV,nlV]),(1,.vars [lst di p,mat C,mat W]),(1,.vars [lst di p,mat C,mat W,v]),b]
theorem Py{k:Nat}{e:List I4}{vals:Bool}{gs:List (List (Int×Nat))}(h:Cr gs){p:LiQ}(h0:0<p.length)(h4:p.length<=4){C W:Mz}(hW:W.length<1000)(g0:Hp)(K:KL):∀(m i:Nat),i+m=W.length ->
  K (.exit 0) [] (Rx (r9 k e vals gs) p C W ((acU 4).v W.length ((uj p.length gs W.length).map szD)) ((acU 4).b W.length ((uj p.length gs W.length).map szD))) ->
  lp (jN (CX Y) (.ptr 0 1 0 35) (.ptr 2 1 0 3) (.ptr 3 1 0 4)) [] g0 [I i] (Rx (r9 k e vals gs) p C W ((acU 4).v i ((uj p.length gs i).map szD)) ((acU 4).b i ((uj p.length gs i).map szD))) K
 | 0,i,hi,hK=>by
  have e1:i=W.length:=aa;subst e1;have l1:aX (mat W)=some (I W.length):=rfl;refine aj ?_;simp only[jN];simp[l1];exact hK
 | m+1,i,hi,hK=>by
  have hlt:((i:Int)<(W.length:Int)):=aa;have l1:aX (mat W)=some (I W.length):=rfl;have hl:=zB (k:=k) (e:=e) (vals:=vals) h;have hj:i%4<4:=Y3 _ af;have hc:=UJ (k:=k) (e:=e) (vals:=vals) h hj;obtain⟨q4,qb⟩:=h.2 (nth [] gs (i%4)) (Dk (by rw[h.1];exact hj));have mk:=RE (p:=p) q4 qb h4 h0;obtain⟨j,hjj⟩:=nmQ (i%4)
  have er:(i:Int).tmod 4=(j:Int):=by rw[hjj];rfl
  have e4:((i+1:Nat):Int)=(i:Int)+1:=ac;have q4j:(nth [] gs j).length=4:=by rw[hjj];exact q4
  have ih:=Py h h0 h4 hW g0 K m (i+1) aa hK;rw[e4,N2,Yw,<-hjj]at ih;rw[<-hjj]at hc mk hj;obtain⟨s,hs⟩:=nmQ (AW p.length (nth [] gs j));rw[<-hs]at ih mk;have gl:=BF p.length gs i;generalize uj p.length gs i=G at *;refine aj ?_;simp only[jN]
  have hli:∀H,du 1 [nPQ] [(0,szV s)] H=some ([szD s],H):=λH=>Jo ..
  have i1:ixP 4 8 (.ptr 0 1 3 35) (I (j:Int))=some (.ptr 0 1 (3+j*8) 35):=by simp[ixP];omega
  have ht:((r9 k e vals gs).drop (3+j*8)).take 8=zx (nth [] gs j):=by
   rw[cut,if_pos aa]at hc;exact Option.some.inj hc
  have hj3:3+j*8<=27:=aa;have gl':(G.map szD).length=i:=by simp[gl]
  simp[hlt,l1,er,i1,hl,hj3,ht]
  have sn:∀h:Hp,aH h [lst di p,.agg (zx (nth [] gs j))]=some ([lst di p,.agg (zx (nth [] gs j))],h):=λh=>by
   obtain⟨a0,a1,a2,a3,e⟩:=four q4j;rw[e];rfl
  refine cd mk ?_ (sn _);simp[hli];refine j6 (acU 4) (L:=i) (by_:=24) (k:=1) (cells:=G.map szD) (cs:=[szD s]) aa rfl (by simp[acU,gl]) rfl rfl (by intro t ht;cases ht) aa (by simp[acU]) ?_
  have hst:∀y:V,okV y=true->st (Rx (r9 k e vals gs) p C W ((acU 4).v i (G.map szD)) ((acU 4).b (i+1) (G.map szD++[szD s]))) 1 (.ptr 3 1 3 4) y=some (Rx (r9 k e vals gs) p C W y ((acU 4).b (i+1) (G.map szD++[szD s]))):=λy hy=>by
   cases y<;>first|(simp[st,sto,ax,bK,hy];done)|cases hy
  have hs:∀b',(Rx (r9 k e vals gs) p C W ((acU 4).v i (G.map szD)) ((acU 4).b i (G.map szD))).set (acU 4).s b'=Rx (r9 k e vals gs) p C W ((acU 4).v i (G.map szD)) b':=λb'=>rfl
  have hov:okV ((acU 4).v (i+1) (G.map szD++[szD s]))=true:=rfl;rw[hs];simp(disch:=try exact ae)[hst _ hov];rw[eu];refine lo ?_;simp only[Zv,Yv,Acc.v,Acc.b,List.length_append,List.length_map,List.length_singleton]at ih;exact ih
theorem Rz{k:Nat}{e:List I4}{vals:Bool}{gs:List (List (Int×Nat))}(h:Cr gs){p:LiQ}(h0:0<p.length)(h4:p.length<=4){C W:Mz}(hW:W.length<1000)(mk:CP Y F.dL [.agg [.d (.int .u8 k),gk i4D e,B vals]] (tpV p C W)) :
  CP Y F.ic [.agg (r9 k e vals gs)] (tuV p C W (uj p.length gs W.length)):=by
 refine xH ?_;have ok3:okV (gk i4D e)=true:=rfl;have hl:=zB (k:=k) (e:=e) (vals:=vals) h
 have hc:cut (r9 k e vals gs) 0 3=some [.d (.int .u8 k),gk i4D e,B vals]:=by
  rw[cut,if_pos aa];rfl
 have ok1:∀m:Mz,okV (mat m)=true:=λ_=>rfl
 have ok2:okV (lst di p)=true:=rfl;simp only[ic];simp[hl,hc];refine cd (args:=[.agg [.d (.int .u8 k),gk i4D e,B vals]]) mk ?_ (by rfl);simp only[tpV];simp[ok1,ok2];rw[hl];refine lo (Py h h0 h4 hW _ _ W.length 0 aa ?_);have gl:=BF p.length gs W.length;generalize uj p.length gs W.length=G at *
 have hov:okV ((acU 4).v W.length (G.map szD))=true:=by
  cases W.length<;>rfl
 simp[ok1,ok2,hov];obtain⟨h',e1,_⟩:=k9 (acU 4) (L:=W.length) (cells:=G.map szD) (h:=[(1,Bk.vars (r9 k e vals gs)),(1,Bk.vars [lst di p,mat C,mat W,(acU 4).v W.length (G.map szD)]),(1,Bk.vars [lst di p,mat C,mat W]),(1,Bk.vars [lst di p,mat C,mat W,(acU 4).v W.length (G.map szD)]),(acU 4).b W.length (G.map szD)]) rfl (by simp[acU,gl])
 have e5:∀(h:Hp)(r:LiQ),bH h (lst di r)=some (lst di r,h):=λh r=>rfl
 have e6:∀(h:Hp)(m:Mz),bH h (mat m)=some (mat m,h):=λh m=>rfl
 refine⟨h',?_⟩;simp only[bH,aH,e5,e6,e1,tuV,tuC];rw[<-gl];rfl
section
variable{p:LiQ}{c w w':Mz}{g:List (List Q)}{e:Int}
def TuE(p:LiQ)(c w:Mz)(g:List (List Q))(e:Int):Prop:=CP Y F.fk [tuV p c w g] (I e)
theorem YY(h:Da p c w)(hg:g.length<1000)(hn:g.length≠w.length):TuE p c w g 5:=by refine rO ?_;have hwl:=h.lw.ml;have l1:aX (lst szD g)=some (I g.length):=rfl;have l2:aX (mat w)=some (I w.length):=rfl;have g1:¬(g.length:Int)=w.length:=aa;simp only[fk,tuV,tuC];simp;refine cd (args:=[tpV p c w]) (rP h) ?_ (by rfl);simp[l1,l2,g1]
theorem SQ(h:Da p c w)(h1:w'.length<1000000)(h2:∀r∈w',r.length<1000000)(hn:w≠w'):TuE p c w' g 14:=by refine rO ?_;have a1:=wd h h1 h2;rw[if_neg hn]at a1;simp only[fk,tuV,tuC];simp;refine cd (args:=[tpV p c w']) a1 ?_ (by rfl);simp
theorem AG(h:TuE p c w g e)(he:e≠0):CP Y F.iG [tuV p c w g,tgs l] (.tup [lst di [],I e]):=by refine Az ?_;simp only[iG,tuV,tuC];simp;refine cd (args:=[tuV p c w g]) h ?_ (by rfl);simp[he];exact⟨_,rfl⟩
theorem adf(h:TuE p c w g e)(he:e≠0){t:Tg}:CP Y F.mE [tuV p c w g,.agg [lst di t.iv,S t.num,S t.den]] (.tup [lst di [],I e]):=by
 refine Cw ?_;have hli:∀h,du 1 [nPQ,.str [],.str []] [(0,.agg [lst di t.iv,S t.num,S t.den])] h=some (tgD t,h):=λh=>by simp[du,gK,jG,toD,norm,lst,row,tgD]
 have et:V.d (.sl 1 (tgD t))=tgs [t]:=by simp[tgs,gk]
 simp only[mE,tuV,tuC];simp[hli];rw[et];refine cd (args:=[tuV p c w g,tgs [t]]) (AG h he) ?_ (by rfl);simp[he];exact⟨_,rfl⟩
theorem Em(h:TuE p c w g e)(he:e≠0):CP Y F.fj [tuV p c w g,tgs l] (.tup [lst di [],I e]):=by refine vu ?_;simp only[fj,tuV,tuC];simp;refine cd (args:=[tuV p c w g,tgs l]) (AG h he) ?_ (by rfl);simp[he];exact⟨_,rfl⟩
theorem JA(h:TuE p c w g e)(he:e≠0):CP Y F.d7 [tuV p c w g,tgs l] (.tup [lst di [],lst di [],I e]):=by refine sY ?_;simp only[d7,tuV,tuC];simp;refine cd (args:=[tuV p c w g,tgs l]) (Em h he) ?_ (by rfl);simp[he];exact⟨_,rfl⟩
theorem ZA(h:TuE p c w g e)(he:e≠0):CP Y F.ql [tuV p c w g,tgs l] (.tup [lst di [],I e]):=by refine JN ?_;simp only[ql,tuV,tuC];simp;refine cd (args:=[tuV p c w g,tgs l]) (AG h he) ?_ (by rfl);simp[he];exact⟨_,rfl⟩
theorem Ro(h:TuE p c w g e)(he:e≠0):CP Y F.oj [tuV p c w g,tgs l] (.tup [lst di [],I e]):=by refine FU ?_;simp only[oj,tuV,tuC];simp;refine cd (args:=[tuV p c w g,tgs l]) (Em h he) ?_ (by rfl);simp[he];exact⟨_,rfl⟩
theorem Od(h:TuE p c w g e)(he:e≠0):CP Y F.jb [tuV p c w g,tgs l] (.tup [lst di [],I e]):=by refine ya ?_;simp only[jb,tuV,tuC];simp;refine cd (args:=[tuV p c w g,tgs l]) (AG h he) ?_ (by rfl);simp[he];exact⟨_,rfl⟩
theorem GU(h:TuE p c w g e)(he:e≠0):CP Y F.kY [tuV p c w g,tuV p c w g,tgs l] (.tup [I 0,I e]):=by
 refine BV ?_;have hli:∀h,du 2 [nPQ,nPQ,nPQ,nPQ] [(0,.agg [lst di p,mat c,mat w,lst szD g]),(1,.agg [lst di p,mat c,mat w,lst szD g])] h=some (tuD p c w g++tuD p c w g,h):=λh=>by simp[du,gK,jG,toD,norm,lst,row,tuD]
 have i1:∀h:Hp,ixV h 4 (.d (.sl 2 (tuD p c w g++tuD p c w g))) (.d (.int .i64 0))=some (.dptr (tuD p c w g++tuD p c w g) 0):=λh=>rfl
 have i2:∀h:Hp,ldA h 4 (.dptr (tuD p c w g++tuD p c w g) 0)=some (.agg [lst di p,mat c,mat w,lst szD g]):=λh=>rfl
 have l1:aX (.d (.sl 2 (tuD p c w g++tuD p c w g)))=some (I 2):=rfl;simp only[kY,tuV,tuC];simp[hli,l1];refine lo (aj ?_);have ok1:∀m:LiQ,okV (lst di m)=true:=λ_=>rfl
 have ok2:∀m:Mz,okV (mat m)=true:=λ_=>rfl
 have ok4:∀g:List (List Q),okV (lst szD g)=true:=λ_=>rfl
 simp only[sZ];simp[i1,i2,ok1,ok2,ok4];refine cd (args:=[tuV p c w g]) h ?_ (by rfl);simp[he];exact⟨_,rfl⟩
theorem R7(h:CP Y F.bY [tpV p c w] (I e))(he:e≠0):CP Y F.jZ [tpV p c w,tgs l] (.tup [lst di [],I e]):=by refine wS ?_;simp only[jZ,tpV];simp;refine cd (args:=[tpV p c w]) h ?_ (by rfl);simp[he];exact⟨_,rfl⟩
def nzT(z:Int):Bool:=!decide (itoa z=[48])
theorem acJ(z:Int):CP Y F.cu [S (itoa z)] (B (nzT z)):=by refine qZ ?_;simp only[cu];simp(disch:=try exact ae);exact gH (by by_cases h:itoa z=[48]<;>simp[nzT,h])
theorem FZ{l:LiQ}(hN:l.length<1000000):CP Y F.bi [lst sI l,.fn F.cu [] []] (B (l.any nzT)):=by
 refine nS ?_;simp(disch:=try exact ae)[bi];refine cd (v:=I (idx nzT l)) (oS (DC l aa (λx=>by simp[aH,bH]) λx _=>acJ x)) ?_ ?_
 .simp(disch:=try exact ae);have:=zW nzT l;have e:decide (0<=idx nzT l)=l.any nzT:=by rw[Yn];simpa using this
  rw[e];exact Li ..
 .simp[aH,lst]
theorem Gk(h:Da p c w){x:LiQ}(hl:x.length=p.length)(hx:bd9 x)(hr:rcB x=0):CP Y F.d9 [tpV p c w,lst di x] (.tup [B (!(kw w x).any nzT),I 0]):=by
 refine ta ?_;have hn:=h.lc.n12;have hli:∀h:Hp,du 1 [nPQ] [(0,lst di x)] h=some ([row x],h):=λh=>Jo ..
 have b:=He h (m:=[x]) ac (λr hr=>by rw[Xh]at hr;subst hr;omega);have e:tbB p.length [x]=0:=by simp[tbB,hr,hl]
 rw[e]at b;have ci:=FZ (l:=kw w x) (by have:=h.lw.ml;simp[kw];omega);simp only[d9,tpV];simp[hli];refine cd (args:=[tpV p c w,mat [x]]) b ?_ (by rfl);simp;refine cd (args:=[tpV p c w,lst di x]) (G9 h hl hx) ?_ (by rfl);simp;refine cd ci ?_ (by rfl);simp;exact⟨_,rfl⟩
def fxA:Acc:=⟨2,0,1,.none⟩
theorem R8(h:Da p c w){t:Tg}(hs:TgS t)(hc:dmB p [t]=0)(hl:t.iv.length=p.length)(hx:bd9 t.iv)(hr:rcB t.iv=0):∃l:LiQ,CP Y F.jZ [tpV p c w,tgs [t]] (.tup [lst di l,I 0]):=by
 have hn:=h.lc.n12;have ck:=FN (p:=p) aa (l:=[t]) ac (λy hy=>by rw[Xh]at hy;subst hy;exact hs);rw[hc]at ck;have te:=Gk h hl hx hr;have l1:aX (tgs [t])=some (I 1):=rfl
 have i1:∀h:Hp,ixV h 3 (tgs [t]) (.d (.int .i64 0))=some (.dptr (tgD t) 0):=λh=>by
  have:=jW tgD ze [t] h (k:=.i64) (i:=0) aa ac;simpa[tgs]using this
 have i2:∀h:Hp,ldA h 3 (.dptr (tgD t) 0)=some (.agg [lst di t.iv,S t.num,S t.den]):=λh=>rfl
 have ok1:∀m:LiQ,okV (lst di m)=true:=λ_=>rfl
 refine⟨if(kw w t.iv).any nzT=true then[]else[0],?_⟩;refine wS ?_;simp only[jZ,tpV];simp;refine cd (args:=[tpV p c w]) (rP h) ?_ (by rfl);simp;refine cd ck ?_ (by rfl);simp[l1];refine lo (aj ?_);simp only[me];simp;refine bM ?_;simp[i1,i2,ok1];refine cd (args:=[tpV p c w,lst di t.iv]) te ?_ (by rfl)
 have hl1:∀h:Hp,du 1 [.int .i64 0] [(0,I 0)] h=some ([di 0],h):=λh=>rfl
 cases hz:(kw w t.iv).any nzT with
 | true=>
  simp;refine bM ?_;simp;refine⟨by rfl,lo (aj ?_)⟩;rw[show aP [1] 0 [(1,Bk.vars [lst di p,mat c,mat w]),(0,Bk.none),(0,Bk.none)] [(1,Bk.vars [lst di p,mat c,mat w]),(1,Bk.vars [lst di t.iv,S t.num,S t.den]),(0,Bk.none)]=[(1,Bk.vars [lst di p,mat c,mat w]),(0,Bk.none),(0,Bk.none)]from rfl];simp only[me];simp;exact⟨_,rfl⟩
 | false=>
  simp;refine bM ?_;simp[hl1];refine j6 fxA (L:=0) (by_:=8) (k:=1) (cells:=[]) (cs:=[di 0]) aa rfl rfl rfl rfl (by intro t ht;cases ht) aa af ?_;simp;refine⟨by rfl,aj ?_⟩
  show me (CX Y) (.ptr 0 1 0 3) (tgs [t]) (I 1) [.ref 2 1 0 1 1 1,I 1] [(1,Bk.vars [lst di p,mat c,mat w]),(0,Bk.none),(1,Bk.data 1 [di 0] false false)] _
  simp only[me];simp;exact⟨_,rfl⟩
end
def mkW(a:Int)(b:Nat):Q:=if(frq a b).1=0 then(1,1)else(((frq a b).1.natAbs:Nat),(frq a b).2)
def mkT(p:LiQ)(x:I4)(a:Int)(b:Nat):Tg:=⟨mkI p x,itoa (mkW a b).1,ah (mkW a b).2⟩
theorem ZM(z:Int):sgn z=0↔z=0:=by
 unfold sgn;by_cases h:z=0
 .simp[h]
 .simp only[h,if_false];split<;>simp
theorem Ry{p:LiQ}(h4:p.length<=4)(hx:ok4 x)(ha : -128<=a∧a<=127)(hb:b<256):
  CP Y F.ib [lst di p,.agg [i8V x.1,i8V x.2.1,i8V x.2.2.1,i8V x.2.2.2,.d (.int .i8 a),.d (.int .u8 b)]] (.agg [lst di (mkT p x a b).iv,S (mkT p x a b).num,S (mkT p x a b).den]):=by
 refine xG ?_;have f1:=xZ ha hb;have f2:=V2 (frq a b);have f3:=H4 (((frq a b).1.natAbs:Nat),(frq a b).2);have io:CP Y F.cn [lst di p,.agg [i8V x.1,i8V x.2.1,i8V x.2.2.1,i8V x.2.2.2]] (lst di (mkI p x)):=Cy hx.1 hx.2.1 hx.2.2.1 hx.2.2.2 h4;have pt:=t6 (n:=1) (d:=1) af af af af af
 rw[LI]at pt;have ok1:∀m:LiQ,okV (lst di m)=true:=λ_=>rfl
 have e3:sgn ((((frq a b).1.natAbs:Nat):Int))=0↔(frq a b).1=0:=by rw[ZM];omega
 simp only[qT]at f1 f2 f3 pt;simp only[i8V]at io ⊢;have sn:∀h:Hp,aH h [lst di p,.agg [.d (.int .i8 x.1),.d (.int .i8 x.2.1),.d (.int .i8 x.2.2.1),.d (.int .i8 x.2.2.2)]]=some ([lst di p,.agg [.d (.int .i8 x.1),.d (.int .i8 x.2.1),.d (.int .i8 x.2.2.1),.d (.int .i8 x.2.2.2)]],h):=λh=>by rfl
 simp only[ib];simp;refine cd f1 ?_;simp;refine cd f2 ?_ (by rfl);simp;refine cd f3 ?_ (by rfl);simp;by_cases h0:(frq a b).1=0
 .have e4:=e3.2 h0;refine bM ?_;simp[e4];refine cd pt ?_;simp;refine cd io ?_ (sn _);simp[ok1];rw[mkT,mkW,if_pos h0];exact⟨_,rfl⟩
 .have e4:¬sgn (((frq a b).1.natAbs:Nat):Int)=0:=λh=>h0 (e3.1 h)
  refine bM ?_;simp[e4];refine cd io ?_ (sn _);simp[ok1];rw[mkT,mkW,if_neg h0];exact⟨_,rfl⟩
theorem ZZ{e:List I4}(hk:k<256)(he:e.length<=3)(hb:∀x∈e,ok4 x):
  ∃C W,CP Y F.dL [.agg [.d (.int .u8 k),gk i4D e,B vals]] (tpV (kL k) C W)∧af2 (kL k) C W∧BdE (10^6) W:=
 aaa af af (λm hm hb C hC hs h1 x hx j=>Zy (aaB hm hb hs h1 x hx j) af) hk he hb
section
variable{p:LiQ}{c w:Mz}
end
section
variable{p:LiQ}{c w w':Mz}{e:Int}
end
section
variable{p:LiQ}{c w:Mz}{g:List (List Q)}
end
section
variable{p:LiQ}{c w:Mz}
end
theorem ahm(z:Int)(a b:Hp):(if cS (I z)=true then a else b)=a:=rfl
theorem Ri{v:V}(h:cS v=false)(a b:Hp):(if cS v=true then a else b)=b:=by rw[h];rfl
theorem aab{e:List I4}(h:Cr gs)(H:Hp):aH H [.agg (r9 k e vals gs)]=some ([.agg (r9 k e vals gs)],H):=by
 obtain⟨h4,ho⟩:=h
 match gs,h4 with
 | [a,b,c,d],_=>
  obtain⟨a0,a1,a2,a3,rfl⟩:=four (ho a ac).1;obtain⟨b0,b1,b2,b3,rfl⟩:=four (ho b ac).1;obtain⟨c0,c1,c2,c3,rfl⟩:=four (ho c ac).1;obtain⟨d0,d1,d2,d3,rfl⟩:=four (ho d ac).1;rfl
theorem adr(a:Int)(b:Nat):okQ (mkW a b)∧qL 30 (mkW a b)∧0<(mkW a b).1:=by
 unfold mkW;by_cases h:(frq a b).1=0
 .rw[if_pos h];exact⟨(EP aa).1,(EP aa).2,af⟩
 .rw[if_neg h];obtain⟨z,hz,hb⟩:=ac0 a b;obtain⟨l1,l2⟩:=ae2 af hz;refine⟨⟨(VZ a b).1,?_⟩,⟨?_,?_⟩,?_⟩
  .have:=(VZ a b).2;simpa using this
  .exact Zy (fM (d:=3) (show((((frq a b).1.natAbs:Nat):Int)).natAbs<10^3 by omega) af) af
  .exact Zy (fM (d:=3) (show(frq a b).2<10^3 by omega) af) af
  .show(0:Int)<((frq a b).1.natAbs:Nat)
   omega
theorem ads{p:LiQ}(hp:pcB p=0)(h4:p.length<=4):TgS (mkT p x a b)∧dmB p [mkT p x a b]=0∧(mkI p x).length=p.length∧∀z∈mkI p x,z.natAbs<=9:=by
 have hl:(mkI p x).length=p.length:=by grind[mkI,itv,i4L]
 have hz:∀z∈mkI p x,z.natAbs<=9:=λz hz=>by grind[mkI,itv]
 obtain⟨w1,w2,w3⟩:=adr a b;have rf:rdF (mkT p x a b).num (mkT p x a b).den=some (mkW a b):=Nw w1 w2
 have t1:(mkT p x a b).num.length<=30:=by
  have e:(mkT p x a b).num=ah (mkW a b).1.natAbs:=by
   show itoa (mkW a b).1=_
   unfold itoa;rw[if_neg aa]
  rw[e];exact Zy (Nat.le_of_eq (bf _ _)) w2.1
 have t2:(mkT p x a b).den.length<=30:=Zy (Nat.le_of_eq (bf _ _)) w2.2;refine⟨⟨?_,?_,?_⟩,?_,hl,hz⟩
 .omega
 .omega
 .show(mkI p x).length<_;omega
 .have mz:mzB p [(mkT p x a b).iv]=0:=adn hp hl λz h=>by have:=hz z h;omega
  have wt:wtE (mkT p x a b)=0:=by
   unfold wtE;rw[rf]
   show(if(mkW a b).1<=0 then 3 else if _ then 4 else 0)=(0:Int)
   rw[if_neg aa,if_neg aa]
  simp[dmB,hp,GG,tgE,mz,wt]
abbrev dtH(A M X:Nat×Bk)(p:LiQ)(C:Mz)(y:V)(g:List (List Q))(s4 s5 s6 s7:Nat×Bk):Hp:=[A,M,(1,.vars [lst di p,mat C,y,lst szD g]),X,s4,s5,s6,s7]
set_option maxRecDepth 100000 in
theorem Jv{e:List I4}(hk:k<256)(hb:∀x∈e,ok4 x)(hgs:Cr gs)(hx:ok4 x)(ha : -128<=a∧a<=127)(hbb:b<256)(hby : -128<=by_∧by_<=127):
  CP Y F.cQ [.agg (r9 k e vals gs),.agg [i8V x.1,i8V x.2.1,i8V x.2.2.1,i8V x.2.2.2,.d (.int .i8 a),.d (.int .u8 b)],.d (.int .i8 by_)] (B true):=by
 refine qO ?_;have hl:=zB (k:=k) (e:=e) (vals:=vals) hgs;have ht:(r9 k e vals gs).take 35=r9 k e vals gs:=Z3 aa;have sn1:=aab (k:=k) (e:=e) (vals:=vals) hgs;have fi:=R9 (k:=k) (e:=e) (vals:=vals) hgs;simp only[cQ];simp[hl,ht];refine cd Ff ?_;simp[hl,ht];refine cd fi ?_ (sn1 _)
 by_cases he:e.length<=3
 case neg=>
  simp[he];refine cd Ff ?_;simp
 obtain⟨p1,p2,p3,p4,p5⟩:=UI _ (Bf k);obtain⟨C,W,mk,PL,b6⟩:=ZZ (vals:=vals) hk he hb;obtain⟨p,hp⟩:=nmQ (kL k);rw[<-hp]at p1 p3 p4 mk PL;have T:=PL.t;have hwl:=T.lw.ml;have mt:=Rz (vals:=vals) (gs:=gs) hgs p3 p4 aa mk;have gl:=BF p.length gs W.length;obtain⟨G,hG⟩:=nmQ (uj p.length gs W.length);rw[<-hG]at mt gl
 have mx:=Ry (p:=p) (x:=x) (a:=a) (b:=b) p4 hx ha hbb;obtain⟨ts,tc,tl,tz⟩:=ads (p:=p) (x:=x) (a:=a) (b:=b) p1 p4;have tiv:(mkT p x a b).iv=mkI p x:=rfl;rw[<-tiv]at tl tz;obtain⟨t,ht'⟩:=nmQ (mkT p x a b);rw[<-ht']at mx ts tc tl tz;have ok1:∀m:Mz,okV (mat m)=true:=λ_=>rfl
 have ok2:∀m:LiQ,okV (lst di m)=true:=λ_=>rfl
 have ok4:∀g:List (List Q),okV (lst szD g)=true:=λ_=>rfl
 have e5:∀(h:Hp)(r:LiQ),bH h (lst di r)=some (lst di r,h):=λh r=>rfl
 have e6:∀(h:Hp)(m:Mz),bH h (mat m)=some (mat m,h):=λh m=>rfl
 have e7:∀(h:Hp)(g:List (List Q)),bH h (lst szD g)=some (lst szD g,h):=λh g=>rfl
 have lG:aX (lst szD G)=some (I W.length):=by rw[<-gl];rfl
 simp only[i8V]at mx ⊢;have snM:∀h:Hp,aH h [lst di p,.agg [.d (.int .i8 x.1),.d (.int .i8 x.2.1),.d (.int .i8 x.2.2.1),.d (.int .i8 x.2.2.2),.d (.int .i8 a),.d (.int .u8 b)]]=some ([lst di p,.agg [.d (.int .i8 x.1),.d (.int .i8 x.2.1),.d (.int .i8 x.2.2.1),.d (.int .i8 x.2.2.2),.d (.int .i8 a),.d (.int .u8 b)]],h):=λh=>by rfl
 obtain⟨zr,hzr⟩:∃zr:LiQ,zr=List.replicate p.length 0:=⟨_,rfl⟩;have zl:zr.length=p.length:=by rw[hzr];simp
 simp only[tuV,tuC]at mt;simp[he,hl,ht];refine cd mt ?_ (sn1 _);simp[ok1,ok2,ok4];refine cd mx ?_ (snM _);simp[ok2,lG];obtain⟨A,hA⟩:∃A:Nat×Bk,A=(1,Bk.vars (r9 k e vals gs)):=⟨_,rfl⟩;obtain⟨M,hM⟩:∃M:Nat×Bk,M=(1,Bk.vars [.d (.int .i8 x.1),.d (.int .i8 x.2.1),.d (.int .i8 x.2.2.1),.d (.int .i8 x.2.2.2),.d (.int .i8 a),.d (.int .u8 b)]):=⟨_,rfl⟩
 obtain⟨X,hX⟩:∃X:Nat×Bk,X=(1,Bk.vars [lst di t.iv,S t.num,S t.den]):=⟨_,rfl⟩;rw[<-hA,<-hM,<-hX]
 have hZ:∀(r:LiQ)(s:Nat)(h:Hp)(e:Nat),r.length=p.length->h[s]?=some (e,.data 1 (r.map di) true false)->du 1 [nPQ] [(0,.ref s e 0 p.length p.length p.length)] h=some ([row r],h.set s (e,.data 1 (r.map di) true true)):=λr s h e zl hs=>by
  have hg:ax h s e=.data 1 (r.map di) true false:=by simp[ax,hs]
  simp[du,gK,jG,toD,hg,zl,Z3,bK,row]
 have eZ:((List.replicate p.length 0).map di)=zr.map di:=by rw[hzr]
 have hl0:∀h:Hp,du 0 [nPQ] [] h=some ([],h):=λh=>rfl
 have lp1:aX (lst di p)=some (I p.length):=rfl
 obtain ⟨P,hP⟩:∃P:LwQ->Hp->Prop,P=λl h=>∃y w' g' er s4 s5 s6 s7 t5 t7,l=[]∧h=dtH A M X p C y g' s4 s5 s6 s7 ∧
  bH (dtH A M X p C y g' s4 s5 s6 s7) y=some (mat w',dtH A M X p C y g' s4 t5 s6 t7)∧bH (dtH A M X p C y g' s4 t5 s6 t7) y=some (mat w',dtH A M X p C y g' s4 t5 s6 t7) ∧
  er≠0∧TuE p C w' g' er∧((w'=W∧y=mat W∧t5=s5∧t7=s7)∨CP Y F.bY [tpV p C w'] (I 14)):=⟨_,rfl⟩
 have hc:(0<W.length∧by_.tmod 2=0)∨(0<W.length∧by_.tmod 2≠0)∨W=[]:=by
  by_cases h0:W=[]
  .exact .inr (.inr h0)
  .have:=Xv.2 h0;by_cases h1:by_.tmod 2=0
   .exact .inl ⟨this,h1⟩
   .exact .inr (.inl ⟨this,h1⟩)
 have more:∀(y:V)(s4 s5 s6 s7 t5 t7:Nat×Bk),bH (dtH A M X p C y G s4 s5 s6 s7) y=some (mat (W++[zr]),dtH A M X p C y G s4 t5 s6 t7)->bH (dtH A M X p C y G s4 t5 s6 t7) y=some (mat (W++[zr]),dtH A M X p C y G s4 t5 s6 t7)->P [] (dtH A M X p C y G s4 s5 s6 s7):=by
  intro y s4 s5 s6 s7 t5 t7 h1 h2;have hw1:(W++[zr]).length<1000000:=by simp;omega
  have hw2:∀r∈W++[zr],r.length<1000000:=λr hr=>by
   have hn:=T.lc.n12;rcases Xx.1 hr with hr|hr
   .rw[T.lw.rl r hr];omega
   .rw[Xh]at hr;rw[hr];omega
  have hn:¬W=W++[zr]:=λe0=>by have:=congrArg List.length e0;simp at this
  have ck:=wd T hw1 hw2;rw[if_neg hn]at ck;rw[hP];exact⟨y,_,G,14,s4,s5,s6,s7,t5,t7,rfl,rfl,h1,h2,af,SQ T hw1 hw2 hn,.inr ck⟩
 have stY:∀(y v:V)(s4 s5 s6 s7:Nat×Bk),okV v=true->st (dtH A M X p C y G s4 s5 s6 s7) 1 (.ptr 2 1 2 4) v=some (dtH A M X p C v G s4 s5 s6 s7):=λy v s4 s5 s6 s7 hv=>by
  cases v<;>first|(simp[st,sto,ax,bK,hv];done)|cases hv
 rcases hc with⟨h0,h1⟩|⟨h0,h1⟩|h0
 case' inl=>
  have slG:∀h,slV h 1 (lst szD G) (some (.d (.int .i64 1))) none=some (lst szD (G.drop 1)):=λh=>by
   have:=aeS szD G h (i:=1) aa aa aa;simpa using this
  simp[h0,h1];refine NS P ?_ ?_
  case' refine_2=>
   intro q hq;simp[slG,ok4];refine hq _ _ ?_;rw[hP];refine⟨mat W,W,G.tail,5,nnQ,nnQ,nnQ,nnQ,nnQ,nnQ,rfl,by rfl,rfl,rfl,af,YY T aN aN,.inl ⟨rfl,rfl,rfl,rfl⟩⟩
 case' inr.inl=>
  simp[h0,h1];refine NS P ?_ ?_
  case' refine_2=>
   intro q hq;simp[hl0];have wl:(W.map row).length=W.length:=ac;have ew:(W.map row++[row zr]).length=W.length+1:=ac;have em:mat (W++[zr])=.d (.sl (W.length+1) (W.map row++[row zr])):=by simp[lst]
   refine YI (s:=5) (s':=4) (e:=1) (es:=0) (by_:=24) (k:=W.length) (cs:=W.map row) h0 rfl rfl ac (by rfl) (by intro t ht;cases ht) aa ?_;have s1:=stY (mat W) (.ref 5 1 0 W.length W.length W.length) (1,.data 1 [] true false) (1,.data 1 (W.map row) false false) nnQ nnQ rfl;simp[s1,lp1]
   refine afl (s:=6) (e:=0) (b:=.none) (L:=p.length) (n:=p.length) rfl (Z8 _) aa ?_;rw[eZ];have z6:=hZ zr 6 [A,M,(1,.vars [lst di p,mat C,.ref 5 1 0 W.length W.length W.length,lst szD G]),X,(1,.data 1 [] true false),(1,.data 1 (W.map row) false false),(1,.data 1 (zr.map di) true false),nnQ] 1 zl rfl;simp[z6]
   have es:=λ(q:kkQ)=>abz (q:=q) (u:=.mk) (s:=7) (s':=5) (e:=1) (by_:=24) (n:=1) (k:=1) (L:=W.length) (cells:=W.map row) (cs:=[row zr]) (y:=.d (.sl 1 [row zr])) (h:=[A,M,(1,.vars [lst di p,mat C,.ref 5 1 0 W.length W.length W.length,lst szD G]),X,(1,.data 1 [] true false),(1,.data 1 (W.map row) false false),(1,.data 1 (zr.map di) true true),nnQ]) aa aa rfl ac rfl rfl (by intro t ht;cases ht) aa
   simp only[wl,ew]at es;refine es _ ?_;have s2:=stY (.ref 5 1 0 W.length W.length W.length) (.ref 5 1 0 (W.length+1) (W.length+1) (W.length+1)) (1,.data 1 [] true false) (1,.data 1 (W.map row++[row zr]) false false) (1,.data 1 (zr.map di) true true) nnQ rfl;simp[s2]
   exact hq _ _ (more _ _ _ _ _ (1,.data 1 (W.map row++[row zr]) false true) nnQ (by rw[em];simp[bH,toD,ax,bK,Z3]) (by rw[em];simp[bH,toD,ax,bK,Z3]))
 case' inr.inr=>
  simp[h0];refine NS P ?_ ?_
  case' refine_2=>
   intro q hq;simp[hl0];subst h0
   show apV false 5 1 24 (V.ref 4 1 0 0 0 0) (mat []) _ _
   rw[show ∀h q,apV false 5 1 24 (V.ref 4 1 0 0 0 0) (mat []) h q=q (V.ref 4 1 0 0 0 0) h from λ_ _=>rfl];have s1:=stY (mat []) (.ref 4 1 0 0 0 0) (1,.data 1 [] true false) nnQ nnQ nnQ rfl;simp[s1,lp1];refine afl (s:=6) (e:=0) (b:=.none) (L:=p.length) (n:=p.length) rfl (Z8 _) aa ?_;rw[eZ]
   have z6:=hZ zr 6 [A,M,(1,.vars [lst di p,mat C,.ref 4 1 0 0 0 0,lst szD G]),X,(1,.data 1 [] true false),nnQ,(1,.data 1 (zr.map di) true false),nnQ] 1 zl rfl;simp[z6];refine YI (s:=7) (s':=4) (e:=1) (es:=0) (by_:=24) (k:=1) (cs:=[row zr]) aa rfl rfl rfl (by rfl) (by intro t ht;cases ht) aa ?_
   have s2:=stY (.ref 4 1 0 0 0 0) (.ref 7 1 0 1 1 1) (1,.data 1 [] true false) nnQ (1,.data 1 (zr.map di) true true) (1,.data 1 [row zr] false false) rfl;simp[s2];exact hq _ _ (more _ _ _ _ _ nnQ (1,.data 1 [row zr] false true) (by rfl) (by rfl))
 all_goals
  rw[hP];rintro l h ⟨y,w',g',er,s4,s5,s6,s7,t5,t7,rfl,rfl,y1,y2,he0,hE,hw⟩;subst hX;have sT1:bH (dtH A M (1,Bk.vars [lst di t.iv,S t.num,S t.den]) p C y g' s4 s5 s6 s7) (.agg [lst di p,mat C,y,lst szD g'])=some (tuV p C w' g',dtH A M (1,Bk.vars [lst di t.iv,S t.num,S t.den]) p C y g' s4 t5 s6 t7):=by simp only[bH,aH,e5,e6,e7,y1,tuV,tuC]
  have sT2:bH (dtH A M (1,Bk.vars [lst di t.iv,S t.num,S t.den]) p C y g' s4 t5 s6 t7) (.agg [lst di p,mat C,y,lst szD g'])=some (tuV p C w' g',dtH A M (1,Bk.vars [lst di t.iv,S t.num,S t.den]) p C y g' s4 t5 s6 t7):=by simp only[bH,aH,e5,e6,e7,y2,tuV,tuC]
  have sP2:bH (dtH A M (1,Bk.vars [lst di t.iv,S t.num,S t.den]) p C y g' s4 t5 s6 t7) (.agg [lst di p,mat C,y])=some (tpV p C w',dtH A M (1,Bk.vars [lst di t.iv,S t.num,S t.den]) p C y g' s4 t5 s6 t7):=by simp only[bH,aH,e5,e6,y2,tpV]
  have sTg:∀h:Hp,bH h (V.d (.sl 1 (tgD t)))=some (tgs [t],h):=λh=>by
   have:V.d (.sl 1 (tgD t))=tgs [t]:=by simp[tgs,gk]
   rw[this];rfl
  have sX:∀h:Hp,bH h (.agg [lst di t.iv,S t.num,S t.den])=some (.agg [lst di t.iv,S t.num,S t.den],h):=λh=>rfl
  have hli:∀h,du 1 [nPQ,.str [],.str []] [(0,.agg [lst di t.iv,S t.num,S t.den])] h=some (tgD t,h):=λh=>by simp[du,gK,jG,toD,norm,lst,row,tgD]
  simp;refine cdz (by simp only[aH,sT1];rfl) hE ?_;rw[ahm];simp[he0,hli];refine cdz (by simp only[aH,sT1,sX];rfl) (adf hE he0) ?_;rw[Ri rfl];simp;refine cdz (by simp only[aH,sT2,sTg];rfl) (AG hE he0) ?_;rw[Ri rfl];simp;refine cdz (by simp only[aH,sT2,sTg];rfl) (JA hE he0) ?_;rw[Ri rfl];simp
  refine cdz (by simp only[aH,sT2,sTg];rfl) (ZA hE he0) ?_;rw[Ri rfl];simp;refine cdz (by simp only[aH,sT2,sTg];rfl) (Ro hE he0) ?_;rw[Ri rfl];simp;refine cdz (by simp only[aH,sT2,sTg];rfl) (Od hE he0) ?_;rw[Ri rfl];simp;refine cdz (by simp only[aH,sT2,sTg];rfl) (GU hE he0) ?_;rw[ite_self];simp
  rcases hw with⟨rfl,rfl,rfl,rfl⟩|h14
  .obtain⟨l,fx⟩:=R8 T (t:=t) ts tc tl (λz hz=>by have:=tz z hz;omega) (Uy aa λz hz=>by have:=tz z hz;omega);refine cdz (by simp only[aH,sP2,sTg];rfl) fx ?_;rw[ite_self];simp;refine cdz (by simp only[aH,sP2];rfl) (rP T) ?_;rw[ite_self];simp
  .refine cdz (by simp only[aH,sP2,sTg];rfl) (R7 h14 af) ?_;rw[ite_self];simp;refine cdz (by simp only[aH,sP2];rfl) h14 ?_;rw[ite_self];simp
end Go.Vm
namespace Go.Proofs
open Go.Shelf
def Tryz.laysPu14_ren:Go.Shelf.Ren:=⟨λ|14=>205|16=>202|17=>180|19=>214|20=>215|21=>197|22=>198|23=>199|24=>200|25=>212|27=>121|26=>213|28=>153|29=>178|30=>193|31=>194|32=>195|33=>196|35=>208|34=>207|36=>209|37=>210|38=>211|39=>218|40=>219|n=>n,λ|9=>9|3=>3|22=>172|24=>210|25=>261|4=>4|34=>256|5=>5|36=>130|37=>235|0=>0|39=>257|21=>21|44=>270|47=>275|50=>278|48=>276|2=>2|52=>251|55=>254|59=>266|60=>169|20=>20|61=>267|65=>279|66=>280|67=>281|n=>n,λ|0=>1|1=>2|2=>0|3=>3|4=>4|n=>n⟩
theorem Tryz.laysPu14:Go.Proofs.LaysPu.n14 Tryz.prog Tryz.laysPu14_ren:={
 mixed:=ag
 f14:=Tryz.func205.trans (congrArg some ag)
 f16:=Tryz.func202.trans (congrArg some ag)
 f17:=Tryz.func180.trans (congrArg some ag)
 f19:=Tryz.func214.trans (congrArg some ag)
 f20:=Tryz.func215.trans (congrArg some ag)
 f21:=Tryz.func197.trans (congrArg some ag)
 f22:=Tryz.func198.trans (congrArg some ag)
 f23:=Tryz.func199.trans (congrArg some ag)
 f24:=Tryz.func200.trans (congrArg some ag)
 f25:=Tryz.func212.trans (congrArg some ag)
 f26:=Tryz.func213.trans (congrArg some ag)
 f27:=Tryz.func121.trans (congrArg some ag)
 f28:=Tryz.func153.trans (congrArg some ag)
 f29:=Tryz.func178.trans (congrArg some ag)
 f30:=Tryz.func193.trans (congrArg some ag)
 f31:=Tryz.func194.trans (congrArg some ag)
 f32:=Tryz.func195.trans (congrArg some ag)
 f33:=Tryz.func196.trans (congrArg some ag)
 f34:=Tryz.func207.trans (congrArg some ag)
 f35:=Tryz.func208.trans (congrArg some ag)
 f36:=Tryz.func209.trans (congrArg some ag)
 f37:=Tryz.func210.trans (congrArg some ag)
 f38:=Tryz.func211.trans (congrArg some ag)
 f39:=Tryz.func218.trans (congrArg some ag)
 f40:=Tryz.func219.trans (congrArg some ag)
 t0:=Tryz.underlying0
 a0:=Tryz.isAgg0
 z0:=Tryz.sizeOf0
 v0:=Tryz.zeroValue0
 i0:=ag
 t2:=Tryz.underlying2
 a2:=Tryz.isAgg2
 z2:=Tryz.sizeOf2
 v2:=Tryz.zeroValue2
 i2:=ag
 t3:=Tryz.underlying3
 a3:=Tryz.isAgg3
 z3:=Tryz.sizeOf3
 v3:=Tryz.zeroValue3
 i3:=ag
 t4:=Tryz.underlying4
 a4:=Tryz.isAgg4
 z4:=Tryz.sizeOf4
 v4:=Tryz.zeroValue4
 i4:=ag
 t5:=Tryz.underlying5
 a5:=Tryz.isAgg5
 z5:=Tryz.sizeOf5
 v5:=Tryz.zeroValue5
 i5:=ag
 t9:=Tryz.underlying9
 a9:=Tryz.isAgg9
 z9:=Tryz.sizeOf9
 v9:=Tryz.zeroValue9
 i9:=ag
 t20:=Tryz.underlying20
 a20:=Tryz.isAgg20
 z20:=Tryz.sizeOf20
 v20:=Tryz.zeroValue20
 i20:=ag
 t21:=Tryz.underlying21
 a21:=Tryz.isAgg21
 z21:=Tryz.sizeOf21
 v21:=Tryz.zeroValue21
 i21:=ag
 t22:=Tryz.underlying172
 a22:=Tryz.isAgg172
 z22:=Tryz.sizeOf172
 v22:=Tryz.zeroValue172
 i22:=ag
 t24:=Tryz.underlying210
 a24:=Tryz.isAgg210
 z24:=Tryz.sizeOf210
 v24:=Tryz.zeroValue210
 i24:=ag
 t25:=Tryz.underlying261
 a25:=Tryz.isAgg261
 z25:=Tryz.sizeOf261
 v25:=Tryz.zeroValue261
 i25:=ag
 t34:=Tryz.underlying256
 a34:=Tryz.isAgg256
 z34:=Tryz.sizeOf256
 v34:=Tryz.zeroValue256
 i34:=ag
 c34:=ag
 t36:=Tryz.underlying130
 a36:=Tryz.isAgg130
 z36:=Tryz.sizeOf130
 v36:=Tryz.zeroValue130
 i36:=ag
 t37:=Tryz.underlying235
 a37:=Tryz.isAgg235
 z37:=Tryz.sizeOf235
 v37:=Tryz.zeroValue235
 i37:=ag
 t39:=Tryz.underlying257
 a39:=Tryz.isAgg257
 z39:=Tryz.sizeOf257
 v39:=Tryz.zeroValue257
 i39:=ag
 t44:=Tryz.underlying270
 a44:=Tryz.isAgg270
 z44:=Tryz.sizeOf270
 v44:=Tryz.zeroValue270
 i44:=ag
 t47:=Tryz.underlying275
 a47:=Tryz.isAgg275
 z47:=Tryz.sizeOf275
 v47:=Tryz.zeroValue275
 i47:=ag
 t48:=Tryz.underlying276
 a48:=Tryz.isAgg276
 z48:=Tryz.sizeOf276
 v48:=Tryz.zeroValue276
 i48:=ag
 t50:=Tryz.underlying278
 a50:=Tryz.isAgg278
 z50:=Tryz.sizeOf278
 v50:=Tryz.zeroValue278
 i50:=ag
 t52:=Tryz.underlying251
 a52:=Tryz.isAgg251
 z52:=Tryz.sizeOf251
 v52:=Tryz.zeroValue251
 i52:=ag
 t55:=Tryz.underlying254
 a55:=Tryz.isAgg254
 z55:=Tryz.sizeOf254
 v55:=Tryz.zeroValue254
 i55:=ag
 t59:=Tryz.underlying266
 a59:=Tryz.isAgg266
 z59:=Tryz.sizeOf266
 v59:=Tryz.zeroValue266
 i59:=ag
 t60:=Tryz.underlying169
 a60:=Tryz.isAgg169
 z60:=Tryz.sizeOf169
 v60:=Tryz.zeroValue169
 i60:=ag
 t61:=Tryz.underlying267
 a61:=Tryz.isAgg267
 z61:=Tryz.sizeOf267
 t65:=Tryz.underlying279
 a65:=Tryz.isAgg279
 z65:=Tryz.sizeOf279
 v65:=Tryz.zeroValue279
 i65:=ag
 t66:=Tryz.underlying280
 a66:=Tryz.isAgg280
 z66:=Tryz.sizeOf280
 v66:=Tryz.zeroValue280
 i66:=ag
 t67:=Tryz.underlying281
 a67:=Tryz.isAgg281
 z67:=Tryz.sizeOf281
 v67:=Tryz.zeroValue281
 i67:=ag
 g0:=ag
 m0:=ag
 g1:=ag
 m1:=ag
 g2:=ag
 m2:=ag
 g3:=ag
 m3:=ag
 g4:=ag
 m4:=by kernel_rfl}
def Tryz.laysC174_ren:Go.Shelf.Ren:=⟨λ|174=>157|247=>184|245=>180|287=>202|279=>197|280=>198|281=>199|282=>200|321=>214|322=>215|316=>212|171=>121|205=>213|243=>153|246=>178|283=>193|284=>194|285=>195|286=>196|129=>208|317=>207|318=>209|319=>210|320=>211|337=>218|338=>219|n=>n,λ|9=>9|3=>3|2=>2|75=>210|85=>213|4=>4|167=>256|5=>5|53=>172|175=>261|46=>130|168=>257|37=>235|0=>0|210=>270|21=>21|127=>275|145=>278|143=>276|171=>251|173=>254|212=>266|51=>169|20=>20|213=>267|232=>279|233=>280|80=>281|n=>n,λ|15=>1|16=>2|17=>0|18=>3|19=>4|n=>n⟩
theorem Tryz.laysC174:Go.Proofs.LaysC.n174 Tryz.prog Tryz.laysC174_ren:={
 mixed:=ag
 f129:=Tryz.func208.trans (congrArg some ag)
 f171:=Tryz.func121.trans (congrArg some ag)
 f174:=Tryz.func157.trans (congrArg some ag)
 f205:=Tryz.func213.trans (congrArg some ag)
 f243:=Tryz.func153.trans (congrArg some ag)
 f245:=Tryz.func180.trans (congrArg some ag)
 f246:=Tryz.func178.trans (congrArg some ag)
 f247:=Tryz.func184.trans (congrArg some ag)
 f279:=Tryz.func197.trans (congrArg some ag)
 f280:=Tryz.func198.trans (congrArg some ag)
 f281:=Tryz.func199.trans (congrArg some ag)
 f282:=Tryz.func200.trans (congrArg some ag)
 f283:=Tryz.func193.trans (congrArg some ag)
 f284:=Tryz.func194.trans (congrArg some ag)
 f285:=Tryz.func195.trans (congrArg some ag)
 f286:=Tryz.func196.trans (congrArg some ag)
 f287:=Tryz.func202.trans (congrArg some ag)
 f316:=Tryz.func212.trans (congrArg some ag)
 f317:=Tryz.func207.trans (congrArg some ag)
 f318:=Tryz.func209.trans (congrArg some ag)
 f319:=Tryz.func210.trans (congrArg some ag)
 f320:=Tryz.func211.trans (congrArg some ag)
 f321:=Tryz.func214.trans (congrArg some ag)
 f322:=Tryz.func215.trans (congrArg some ag)
 f337:=Tryz.func218.trans (congrArg some ag)
 f338:=Tryz.func219.trans (congrArg some ag)
 t0:=Tryz.underlying0
 a0:=Tryz.isAgg0
 z0:=Tryz.sizeOf0
 v0:=Tryz.zeroValue0
 t2:=Tryz.underlying2
 a2:=Tryz.isAgg2
 z2:=Tryz.sizeOf2
 v2:=Tryz.zeroValue2
 t3:=Tryz.underlying3
 a3:=Tryz.isAgg3
 z3:=Tryz.sizeOf3
 v3:=Tryz.zeroValue3
 t4:=Tryz.underlying4
 a4:=Tryz.isAgg4
 z4:=Tryz.sizeOf4
 v4:=Tryz.zeroValue4
 t5:=Tryz.underlying5
 a5:=Tryz.isAgg5
 z5:=Tryz.sizeOf5
 v5:=Tryz.zeroValue5
 t9:=Tryz.underlying9
 a9:=Tryz.isAgg9
 z9:=Tryz.sizeOf9
 v9:=Tryz.zeroValue9
 t20:=Tryz.underlying20
 a20:=Tryz.isAgg20
 z20:=Tryz.sizeOf20
 v20:=Tryz.zeroValue20
 t21:=Tryz.underlying21
 a21:=Tryz.isAgg21
 z21:=Tryz.sizeOf21
 v21:=Tryz.zeroValue21
 t37:=Tryz.underlying235
 a37:=Tryz.isAgg235
 z37:=Tryz.sizeOf235
 v37:=Tryz.zeroValue235
 t46:=Tryz.underlying130
 a46:=Tryz.isAgg130
 z46:=Tryz.sizeOf130
 v46:=Tryz.zeroValue130
 t51:=Tryz.underlying169
 a51:=Tryz.isAgg169
 z51:=Tryz.sizeOf169
 v51:=Tryz.zeroValue169
 t53:=Tryz.underlying172
 a53:=Tryz.isAgg172
 z53:=Tryz.sizeOf172
 v53:=Tryz.zeroValue172
 t75:=Tryz.underlying210
 a75:=Tryz.isAgg210
 z75:=Tryz.sizeOf210
 v75:=Tryz.zeroValue210
 t85:=Tryz.underlying213
 a85:=Tryz.isAgg213
 z85:=Tryz.sizeOf213
 v85:=Tryz.zeroValue213
 t127:=Tryz.underlying275
 a127:=Tryz.isAgg275
 z127:=Tryz.sizeOf275
 v127:=Tryz.zeroValue275
 t143:=Tryz.underlying276
 a143:=Tryz.isAgg276
 z143:=Tryz.sizeOf276
 v143:=Tryz.zeroValue276
 t145:=Tryz.underlying278
 a145:=Tryz.isAgg278
 z145:=Tryz.sizeOf278
 v145:=Tryz.zeroValue278
 t167:=Tryz.underlying256
 a167:=Tryz.isAgg256
 z167:=Tryz.sizeOf256
 v167:=Tryz.zeroValue256
 t168:=Tryz.underlying257
 a168:=Tryz.isAgg257
 z168:=Tryz.sizeOf257
 v168:=Tryz.zeroValue257
 t171:=Tryz.underlying251
 a171:=Tryz.isAgg251
 z171:=Tryz.sizeOf251
 v171:=Tryz.zeroValue251
 t173:=Tryz.underlying254
 a173:=Tryz.isAgg254
 z173:=Tryz.sizeOf254
 v173:=Tryz.zeroValue254
 t175:=Tryz.underlying261
 a175:=Tryz.isAgg261
 z175:=Tryz.sizeOf261
 v175:=Tryz.zeroValue261
 t210:=Tryz.underlying270
 a210:=Tryz.isAgg270
 z210:=Tryz.sizeOf270
 v210:=Tryz.zeroValue270
 t212:=Tryz.underlying266
 a212:=Tryz.isAgg266
 z212:=Tryz.sizeOf266
 v212:=Tryz.zeroValue266
 t213:=Tryz.underlying267
 a213:=Tryz.isAgg267
 z213:=Tryz.sizeOf267
 t232:=Tryz.underlying279
 a232:=Tryz.isAgg279
 z232:=Tryz.sizeOf279
 v232:=Tryz.zeroValue279
 t233:=Tryz.underlying280
 a233:=Tryz.isAgg280
 z233:=Tryz.sizeOf280
 v233:=Tryz.zeroValue280
 g15:=ag
 g16:=ag
 g17:=ag
 g18:=ag
 g19:=ag
 t80:=Tryz.underlying281
 a80:=Tryz.isAgg281
 z80:=Tryz.sizeOf281
 v80:=Tryz.zeroValue281
 i0:=ag
 i2:=ag
 i3:=ag
 i4:=ag
 i5:=ag
 i9:=ag
 i20:=ag
 i21:=ag
 i37:=ag
 i46:=ag
 i51:=ag
 i53:=ag
 i75:=ag
 i80:=ag
 i85:=ag
 i127:=ag
 i143:=ag
 i145:=ag
 i167:=ag
 i168:=ag
 i171:=ag
 i173:=ag
 i175:=ag
 i210:=ag
 i212:=ag
 i232:=ag
 i233:=ag
 m15:=ag
 m16:=ag
 m17:=ag
 m18:=ag
 m19:=ag
 c0:=ag
 c2:=ag
 c3:=ag
 c4:=ag
 c5:=ag
 c9:=ag
 c20:=ag
 c21:=ag
 c37:=ag
 c46:=ag
 c51:=ag
 c53:=ag
 c75:=ag
 c80:=ag
 c85:=ag
 c127:=ag
 c143:=ag
 c145:=ag
 c167:=ag
 c168:=ag
 c171:=ag
 c173:=ag
 c175:=ag
 c210:=ag
 c212:=ag
 c213:=ag
 c232:=ag
 c233:=by kernel_rfl}
end Go.Proofs
namespace Go.Vm
open Go Go.Am
variable{l:LuQ}
theorem Qf:∀(l:LuQ)(a:Nat),a<=pO a l
 |[],a=>Z8 _
 | c::l,a=>by
  have h:a*10+(c.toNat-48)<=pO (a*10+(c.toNat-48)) l:=Qf l _;have e:pO a (c::l)=pO (a*10+(c.toNat-48)) l:=rfl;generalize pO a (c::l)=y at *;generalize pO (a*10+(c.toNat-48)) l=z at *;generalize c.toNat-48=d at *;omega
theorem rt:∀(l:LuQ)(a:Nat),l.all oW=true->pO a l<10000000000000000000->Lib.parseUintM (2^64-1) a l=.ok (pO a l)
 |[],a,_,_=>rfl
 | c::l,a,h,hd=>by
  simp only[List.all_cons,Z7,oW,Nat.ble_eq]at h;have e:pO a (c::l)=pO (a*10+(c.toNat-48)) l:=rfl;rw[e]at hd ⊢;have hge:=Qf l (a*10+(c.toNat-48));rw[Lib.parseUintM,if_pos h.1,if_neg aa,if_neg aa];exact rt l _ h.2 hd
theorem frz(w:World)(e:TypeId)(s:ByteArray):w.heap.size<=(Lib.bytesWorld w e s).heap.size∧(∀c,c<w.heap.size->(Lib.bytesWorld w e s).heap[c]?=w.heap[c]?)∧(Lib.bytesWorld w e s).os=w.os∧(Lib.bytesWorld w e s).output=w.output:=
 ⟨by rw[Lib.bytesWorld_size];omega,λc hc=>Lib.bytesWorld_at_old w e s c hc,rfl,rfl⟩
theorem WN{c:UInt8}(h:oW c=true):¬c.toNat=43∧¬c.toNat=45:=by simp only[oW,Z7,Nat.ble_eq]at h;omega
theorem Rk(hne:l≠[])(hall:l.all oW=true)(hlt:pO 0 l<9223372036854775808):Lib.parseIntB 64 l=.ok (pO 0 l:Int):=by
 cases l with
 |nil=>exact absurd rfl hne
 | cons c r=>
  have hc:=WN (Z1.1 hall c ac)
  have hp:Lib.parseUintB 64 (c::r)=.ok (pO 0 (c::r)):=by
   rw[Lib.parseUintB,if_neg hne];exact rt _ _ hall aa
  unfold Lib.parseIntB;simp only[hc.1,hc.2,or_self,if_false,hp];rw[if_neg aN,if_neg ac]
theorem Rj(hne:l≠[])(hall:l.all oW=true)(hlt:pO 0 l<9223372036854775808):Lib.parseIntB 64 (45::l)=.ok (-(pO 0 l:Int)):=by
 have hp:Lib.parseUintB 64 l=.ok (pO 0 l):=by
  rw[Lib.parseUintB,if_neg hne];exact rt _ _ hall aa
 have h45:(45:UInt8).toNat=45:=rfl;unfold Lib.parseIntB;simp only[h45,or_true,if_true,hp];rw[if_neg ac,if_neg aN]
theorem afb:acr X:=by
 intro f args v h;simp only[X]at h;split at h
 .rename_i hf;obtain rfl:=Zl hf;unfold La at h;split at h
  .rename_i s a b;split at h
   .rename_i hc;obtain⟨rfl,rfl,hne,hall,hsz,hlt⟩:=hc;obtain rfl:=Option.some.inj h;refine⟨rfl,rfl,.inr ⟨⟨_,Go.Proofs.Tryz.func205,ag,ag⟩,λw=>?_⟩⟩
    have hp:Lib.parseUintB 64 s.data.toList=.ok (pO 0 s.data.toList):=by
     rw[Lib.parseUintB,if_neg hne];exact rt _ _ hall hlt
    have hsz2:s.size=s.data.toList.length:=by rw[Array.length_toList];rfl
    have hmax:s.size≤9223372036854775806:=aa;refine(Go.Proofs.Any.strconv_ParseUint_10_at64_ok Go.Proofs.Tryz.laysPu14 s hmax _ hp w).mono ?_;rintro e w' ⟨rfl,rfl|rfl⟩
    .exact⟨rfl,Z8 _,λ_ _=>rfl,rfl,rfl⟩
    .exact⟨rfl,frz w _ s⟩
   .cases h
  .cases h
 .split at h
  .rename_i hf;obtain rfl:=Zl hf
   have key:∀(s:ByteArray)(z:Int),s.data.toList.length≤1001→Lib.parseIntB 64 s.data.toList=.ok z→v=.tuple #[.int .i64 z,.nilIface]→args=[.string s,.int .i64 10,.int .i64 64] →
     cV args=true∧plain v=true∧(OA X F.fv args v∨(∃fn,Go.Proofs.Tryz.prog.funcs[F.fv]?=some fn∧fn.body.isNone=false∧(fn.name == "runtime.NumGoroutine")=false) ∧
     ∀w,Calls Go.Proofs.Tryz.prog F.fv args.toArray w λe w'=>e=.returned v∧w.heap.size≤w'.heap.size∧(∀c,c<w.heap.size→w'.heap[c]?=w.heap[c]?)∧w'.os=w.os∧w'.output=w.output):=by
    intro s z hl hp hv ha;subst hv;subst ha;refine⟨rfl,rfl,.inr ⟨⟨_,Go.Proofs.Tryz.func157,ag,ag⟩,λw=>?_⟩⟩;have hsz2:s.size=s.data.toList.length:=by rw[Array.length_toList];rfl
    refine(Go.Proofs.Any.strconv_ParseInt_10_at64_ok Go.Proofs.Tryz.laysC174 s aa z hp w).mono ?_;rintro e w' ⟨rfl,rfl|⟨t,rfl⟩⟩
    .exact⟨rfl,Z8 _,λ_ _=>rfl,rfl,rfl⟩
    .exact⟨rfl,frz w _ t⟩
   unfold Pf at h;split at h
   .rename_i s a b;split at h
    .rename_i hab;obtain⟨rfl,rfl⟩:=hab;split at h
     .rename_i l hs;split at h
      .rename_i hc;obtain⟨hne,hall,hsz,hlt⟩:=hc;obtain rfl:=Option.some.inj h;exact key s _ (by rw[hs];simp;omega) (by rw[hs];exact Rj hne hall hlt) rfl rfl
      .cases h
     .rename_i l hs;split at h
      .rename_i hc;obtain⟨hne,hall,hsz,hlt⟩:=hc;obtain rfl:=Option.some.inj h;exact key s _ aa (Rk hne hall hlt) rfl rfl
      .cases h
    .cases h
   .cases h
  .cases h
end Go.Vm
namespace Go.Proofs
open Go.RowKit Go.Shelf
attribute [local go_sem] Oper.semAt_some
def aej(W:World)(B o k c s:Nat):Prop:=∃(a:Option Addr)(cap:Nat),W.cell? ⟨B,o,none⟩=some (.slice a k cap)∧(0<k->a=some ⟨c,s,none⟩)
def af0(W:World)(B o B2 o2 k c s c2 s2:Nat)(us vs:LvQ):Prop:=
 aej W B o k c s∧aej W B2 o2 k c2 s2∧(∀(i:Nat) v,us[i]?=some v->W.cell? ⟨c,s+i,none⟩=some v)∧∀(i:Nat) v,vs[i]?=some v->W.cell? ⟨c2,s2+i,none⟩=some v
set_option maxRecDepth 100000 in
set_option maxHeartbeats 2000000 in
theorem abF(l B o k c s c2 s2:Nat)(us vs:LvQ)(hu:us.length=k)(hv:vs.length=k)(hk:k<4611686018427387904)(J Jx:Nat->World->Prop)
  (hV:∀i W1,J i W1->af0 W1 B o B (o+1) k c s c2 s2 us vs)
  (hY:∀(i:Nat) x y W1,J i W1->us[i]?=some x->vs[i]?=some y->YieldAt (Go.Am.Fw none) 0 Tryz.prog l #[x,y] W1 λe W'=>(e=.returned (.bool true)∧J (i+1) W')∨(e=.returned (.bool false)∧Jx (i+1) W'))
  (W:World) (h0:J 0 W) :
  CallsIn (Go.Am.Fw none) 1 Tryz.prog 186 #[.func (.yield l) #[] #[],.pointer (some ⟨B,o,none⟩)] W λe W'=>(∃v,e=.returned v)∧(J k W'∨∃i,Jx i W'):=by
 refine callsIn_of_wp Tryz.func186 rfl trivial ?_ rfl;simp only[Tryz.ntmps186,List.size_toArray,List.length_cons,List.length_nil,Nat.reduceAdd,Nat.reduceSub,Array.replicate_succ,Array.replicate_zero,List.push_toArray,List.append_toArray,List.nil_append,List.cons_append];obtain⟨⟨a,cap,hc0,ha⟩,_⟩:=hV 0 W h0
 gi_wp2
 gi_loopw [8] (λi wr=>∃j:Nat,j<=k∧i=.int .i64 j∧J j wr) (λi _=>k-(intOf i).toNat)
 case atStart=>grind
 case round=>
  obtain⟨j,hj,rfl,hJs⟩:=hrel;by_cases hlt:j<k
  .obtain rfl:=ha aa;have ex:∃x,us[j]?=some x:=⟨_,List.getElem?_eq_getElem aa⟩;have ey:∃y,vs[j]?=some y:=⟨_,List.getElem?_eq_getElem aa⟩;obtain⟨x,hx⟩:=ex;obtain⟨y,hy'⟩:=ey;obtain⟨_,⟨a2,cap2,hc2,ha2⟩,hus,hvs⟩:=hV j wr hJs;obtain rfl:=ha2 aa;have hcx:=hus j x hx;have hcy:=hvs j y hy';obtain⟨fn,tmps,assign,body,hy,hR⟩:=hY j x y wr hJs hx hy'
   clear hx hy' hus hvs
   gi_wp2
   refine hR.mono ?_;rintro e W3 (⟨rfl,hJ3⟩|⟨rfl,hJx3⟩)
   .gi_wp2
    go_roundw
    case rel=>exact⟨j+1,aa,ac,hJ3⟩
    case measure=>simp[intOf];omega
   .gi_wp2
    refine bodyPost_ret (results_none rfl _ _ _) rfl ?_;exact⟨⟨_,rfl⟩,.inr ⟨_,hJx3⟩⟩
  .obtain rfl:j=k:=aa
   gi_wp2
   simp_all[bodyPost_end,results_none]
end Go.Proofs
namespace Go.Vm
open Go Go.Am Go.Proofs
noncomputable section
variable{f:FuncId}{p q v a b:Value}{xs:List LvQ}
theorem Su{P:Program}{args:Array Value}{w:World}{R:Ending->World->Prop}(h:CallsIn (Fw none) 1 P f args w R):CallsIn (Fw none) 0 P f args w R:=
 ⟨h.1,λcs _=>h.2 cs (λd hd=>by trivial)⟩
def hd1(x:LvQ):Value:=x.headD default
def sd1(x:LvQ):Value:=x.tail.headD default
theorem OB:∀(us vs:LvQ),us.length=vs.length->(((us.zip vs).map λx=>[x.1,x.2]).map hd1)=us∧(((us.zip vs).map λx=>[x.1,x.2]).map sd1)=vs
 |[],[],_=>⟨rfl,rfl⟩
 | u::us,v::vs,h=>by
  obtain⟨h1,h2⟩:=OB us vs (by grind);simp only[List.zip_cons_cons,Zv,h1,h2];trivial
 |[],_::_,h=>by simp at h
 |_::_,[],h=>by simp at h
theorem J8{H:AH}(h:MZ H p q=some xs):nf H 1 p=some (xs.length,xs.map hd1)∧nf H 1 q=some (xs.length,xs.map sd1)∧xs.length<4611686018427387904∧NT p=true∧NT q=true ∧
  ∀x∈xs,x=[hd1 x,sd1 x]∧plain (hd1 x)=true∧plain (sd1 x)=true:=by
 unfold MZ at h;split at h
 case h_2=>cases h
 rename_i k us k' vs hp hq;split at h
 case isFalse=>cases h
 rename_i hc;obtain⟨h1,h2,h3,h4,h5,h6,h7⟩:=hc;simp only[Z9]at h;subst h;obtain⟨m1,m2⟩:=OB us vs aa;have hl:((us.zip vs).map λx=>[x.1,x.2]).length=k:=by simp;omega
 rw[m1,m2,hl];simp only[Z7]at h5;refine⟨hp,by rw[hq,h1],h4,h5.1,h5.2,λx hx=>?_⟩;obtain⟨⟨a,b⟩,hab,rfl⟩:=Zw.1 hx;have:=List.of_mem_zip hab;have e1:=Z1.1 h6 a this.1;have e2:=Z1.1 h7 b this.2;simp only[Z7]at e1 e2;exact⟨rfl,e1.1,e2.1⟩
theorem OV{X:Cfg}{φ:bJ}(hp:NT p=true)(hv:am φ p v):∃c s:Nat,∀(φ':bJ)(H':AH)(w':World)(k:Nat)(us:LvQ),bp X φ' H' w'->PLe φ φ'->nf H' 1 p=some (k,us)->us.length=k->(∀u∈us,plain u=true) ->
  ∀B o v',w'.cell? ⟨B,o,none⟩=some v'->am φ' p v'->aej w' B o k c s∧∀(i:Nat) u,us[i]?=some u->w'.cell? ⟨c,s+i,none⟩=some u:=by
 cases p<;>simp only[NT]at hp<;>try cases hp
 rename_i a n cap;cases a with
 | none=>
  refine⟨0,0,λφ' H' w' k us hh _ hs hk _ B o v' hc hv'=>?_⟩;have e:=gM hv';subst e;cases n with
  | zero=>
   simp only[nf,Z9,Z5]at hs;obtain⟨rfl,rfl⟩:=hs;exact⟨⟨none,cap,hc,λh=>absurd h aa⟩,λi u hi=>by simp at hi⟩
  |succ n=>trivial
 | some a=>
  obtain⟨a',c',rfl,hs⟩:=ii hv
  have hpl:a.spot=none∧∃pl,φ a.block=some pl:=by
   rcases hs with⟨h1,_,pl,hp,_⟩|⟨h1,_,_,_,pl,hp⟩
   .grind
   .grind
  obtain⟨hsp,pl,hpl⟩:=hpl;obtain⟨b,off,sp⟩:=a;simp only at hsp hpl;subst hsp;refine⟨pl.c,pl.s+off,λφ' H' w' k us hh hle hs' hk hpl' B o v' hc hv'=>?_⟩;obtain⟨⟨b2,o2,s2⟩,c2,rfl,hs2⟩:=ii hv';have hpb:=hle _ _ hpl;simp only[nf]at hs';split at hs'
  .rename_i hn;simp only[Z9,Z5]at hs';obtain⟨rfl,rfl⟩:=hs';subst hn;exact⟨⟨_,c2,hc,λh=>absurd h aa⟩,λi u hi=>by simp at hi⟩
  .rename_i hn;simp only[Ya,Z4,Z5]at hs';obtain⟨cs,hr,rfl,rfl⟩:=hs';obtain⟨cs',r1,r2,r3,r4⟩:=hh.read hr hpb
   have hb:b2=pl.c∧o2=pl.s+off∧s2=none:=by
    rcases hs2 with⟨_,h2,pl2,hp2,h3,h4,_⟩|⟨_,h0,_⟩
    .grind
    .omega
   obtain⟨rfl,rfl,rfl⟩:=hb;refine⟨⟨_,c2,hc,λ_=>rfl⟩,λi u hi=>?_⟩
   grind[au.at,oQ,am.of_plain]
theorem Rh{x:LvQ}(h:x=[hd1 x,sd1 x]∧plain (hd1 x)=true∧plain (sd1 x)=true):cV x=true:=by grind[cV]
theorem acI(hpl:∀x∈xs,x=[hd1 x,sd1 x]∧plain (hd1 x)=true∧plain (sd1 x)=true){i:Nat}(ha:(xs.map hd1)[i]?=some a)(hb:(xs.map sd1)[i]?=some b):xs[i]?=some [a,b]:=by grind
theorem adI {fn:Func}(h:Tryz.prog.funcs[f]?=some fn)(hb:fn.body.isNone=false)(hn:(fn.name == "runtime.NumGoroutine")=false):∃fn,X.P.funcs[f]?=some fn∧fn.body.isNone=false∧(fn.name == "runtime.NumGoroutine")=false:=⟨fn,h,hb,hn⟩
set_option maxRecDepth 100000 in
theorem adK:∃fn,X.P.funcs[186]?=some fn∧fn.body.isNone=false∧(fn.name == "runtime.NumGoroutine")=false:=adI Tryz.func186 rfl (by rfl)
theorem ae1:QB X:=by
 intro gf lb H xs h0;have h:IT gf lb H=some xs:=h0;clear h0;unfold IT at h;split at h
 .rename_i hg;have hg:gf=186:=Zl hg;subst hg;split at h
  case h_2=>cases h
  rename_i b o;split at h
  case h_2=>cases h
  rename_i p q d hrd;obtain⟨s1,s2,s3,s4,s5,hpl⟩:=J8 h;refine⟨λx hx=>Rh (hpl x hx),adK,λφ w lb' hh hl=>?_⟩;simp only[au]at hl;obtain⟨v',r,rfl,hv',rfl⟩:=hl;obtain⟨pl,hpb,rfl⟩:=sN hv';obtain⟨cs',r1,r2,r3,r4⟩:=hh.read hrd hpb;simp only[au]at r1;obtain⟨p',_,rfl,hp',q',_,rfl,hq',d',_,rfl,hd',rfl⟩:=r1;obtain⟨c,s,base⟩:=OV (X:=X) s4 hp'
  obtain⟨c2,s2',base2⟩:=OV (X:=X) s5 hq';refine⟨λW=>af0 W pl.c (pl.s+o) pl.c (pl.s+o+1) xs.length c s c2 s2' (xs.map hd1) (xs.map sd1),λφ' H' w' hh' hle hl' hs hk=>?_,λl J Jx W hV hY h0=>?_⟩
  .have hk:(cg H' b o 3).getD []=(cg H b o 3).getD []:=hk;have hs:IT 186 [.pointer (some ⟨b,o,none⟩)] H'=some xs:=hs;rw[hrd]at hk
   have hrd':cg H' b o 3=some [p,q,d]:=by
    cases hr:cg H' b o 3 with
    |none=>grind
    |some cs=>grind
   have hz:MZ H' p q=some xs:=by
    unfold IT at hs;rw[show Nat.beq 186 F.dK=true from rfl]at hs;simp only[hrd']at hs;exact hs
   obtain⟨t1,t2,_⟩:=J8 hz;obtain⟨ds',u1,u2,u3,u4⟩:=hh'.read hrd' (hle _ _ hpb);simp only[au]at u1;obtain⟨p2,_,rfl,hp2,q2,_,rfl,hq2,d2,_,rfl,hd2,rfl⟩:=u1;have k0:=u4 0 p2 rfl;have k1:=u4 1 q2 rfl;rw[oQ]at k0 k1;obtain⟨w1,w2⟩:=base φ' H' w' _ _ hh' hle t1 ac (λu hu=>by grind) _ _ _ k0 hp2
   obtain⟨w3,w4⟩:=base2 φ' H' w' _ _ hh' hle t2 ac (λu hu=>by grind) _ _ _ k1 hq2;trivial
  .exact Su (abF l pl.c (pl.s+o) xs.length c s c2 s2' (xs.map hd1) (xs.map sd1) ac ac s3 J Jx hV (λi x y W1 hJ hx hy=>hY i [x,y] W1 hJ (acI hpl hx hy)) W h0)
 .rename_i hf;split at h
  case h_2=>cases h
  rename_i hg;rw[show F.uG=F.dK from rfl,hf]at hg;cases hg
end
end Go.Vm
set_option maxRecDepth 100000
namespace Go.Vm
open Go Go.Am
variable{f:FuncId}{a:Addr}{n m fuel:Nat}{α:Type}{t:TypeId}{W W':World}
theorem adH:(List.range X.P.funcs.size).all (λf=>!X.allow f||match X.P.funcs[f]? with
  |some fn=>aak X.P fn&&(match fn.body with|some c=>jR Y fn.ntmps c|none=>true)
  |none=>true)=true:=aR
theorem ab8{fn:Func}(ha:X.allow f=true)(hf:X.P.funcs[f]?=some fn):aak X.P fn=true∧(match fn.body with|some c=>jR Y fn.ntmps c|none=>true)=true:=by
 have hlt:f<X.P.funcs.size:=by
  rcases Zi f X.P.funcs.size with h|h
  .exact h
  .rw[Array.getElem?_eq_none h]at hf;cases hf
 have:=Z1.1 adH f (W6.2 hlt);rw[ha,hf]at this;simpa using this
theorem vOk:VOk Y where
 y:=yOk
 fns f fn c ha hf hc:=by have:=(ab8 ha hf).2;rw[hc]at this;exact this
theorem ade:Oz X where
 mixed:=by rfl
 fns f fn ha hf:=(ab8 ha hf).1
 orc:=afb
 seq:=ae1
mutual
def WD(w:World):D->Value->Prop
 |.int k n,v=>v=.int k n
 |.bool b,v=>v=.bool b
 |.str s,v=>v=.string ⟨⟨s⟩⟩
 |.pl u,v=>v=u∧plain u=true∧okCell u=true
 | .sl len cells,v=>(len=0∧cells=[]∧(v=.slice none 0 0∨∃a,v=.slice (some a) 0 0)) ∨
   ∃ c o cap n cs e fz,v=.slice (some ⟨c,o,none⟩) len cap∧len<=cap∧0<n∧cells.length=len*n ∧
    w.heap[c]?=some (.cells cs e fz)∧o+cells.length<=cs.size∧WDs w cells ((cs.toList.drop o).take cells.length)
def WDs(w:World):LdQ->LvQ->Prop
 |[],l=>l=[]
 |x::xs,l=>∃v vs,l=v::vs∧WD w x v∧WDs w xs vs
end
structure Ly(w:World)(φ:bJ)(F:Nat->Prop)(H:AH):Prop where
 rel:bp X φ H w
 wf:WF H
 fr:∀c,F c->c<H.n∧∃x,H.get c=some x∧x.st=1
 ro:∀c x,H.get c=some x->x.wr=false
 top:∀b p,φ b=some p->b<H.n
 pg:∃p,φ oG=some p
structure uw(φ:bJ)(F:Nat->Prop)(H:AH)(φ':bJ)(F':Nat->Prop)(H':AH):Prop where
 n:H.n<=H'.n
 le:PLe φ φ'
 fm:∀c,F c->F' c
 keep:∀c,c<H.n->H'.get c=H.get c
theorem uw.refl(φ:bJ)(F:Nat->Prop)(H:AH):uw φ F H φ F H:=⟨Z8 _,PLe.refl _,λ_ h=>h,λ_ _=>rfl⟩
theorem uw.trans{φ φ1 φ2:bJ}{F F1 F2:Nat->Prop}{H H1 H2:AH}(a:uw φ F H φ1 F1 H1)(b:uw φ1 F1 H1 φ2 F2 H2):uw φ F H φ2 F2 H2:=
 ⟨Zy a.n b.n,a.le.trans b.le,λc h=>b.fm c (a.fm c h),λc h=>by rw[b.keep c (Z0 h a.n),a.keep c h]⟩
theorem uw.leF{φ φ':bJ}{F F':Nat->Prop}{H H':AH}{w:World}(L:Ly w φ F H)(a:uw φ F H φ' F' H'):LeF F F' H H':=
 ⟨a.fm,λc hc=>a.keep c (L.fr c hc).1,λc x hx h0=>⟨x,by grind[keep,AH.get_lt],h0⟩⟩
def roB(b n:Nat)(cells:LvQ):Blk:={cells,st:=1,wr:=false,fam:=b,start:=0,shared:=false,exact:=true,esz:=n,ver:=1}
theorem Ly.push{w:World}{φ:bJ}{F:Nat->Prop}{H:AH}(L:Ly w φ F H){c o n:Nat}{us vs:LvQ}{cs:Array Value}{e:TypeId}{fz:Nat×Nat}(hh:w.heap[c]?=some (.cells cs e fz))
  (hlen:us.length=vs.length) (ho:o+us.length<=cs.size) (hvs:vs=(cs.toList.drop o).take us.length) (hr:au φ us vs) :
  Ly w (yV φ H.n ⟨c,o,us.length,n,cs.size,true⟩) (λx=>F x∨x=H.n) (H.push (roB H.n n us)) ∧
  uw φ F H (yV φ H.n ⟨c,o,us.length,n,cs.size,true⟩) (λx=>F x∨x=H.n) (H.push (roB H.n n us)):=by
 have hnone:φ H.n=none:=by
  cases hq:φ H.n with
  |none=>rfl
  |some p=>have:=L.top _ p hq;omega
 have hle:PLe φ (yV φ H.n ⟨c,o,us.length,n,cs.size,true⟩):=PLe.add hnone;have hn:(H.push (roB H.n n us)).n=H.n+1:=rfl;have old:∀b,b<H.n->(H.push (roB H.n n us)).get b=H.get b:=λb hb=>AH.get_push aa
 have new:(H.push (roB H.n n us)).get H.n=some (roB H.n n us):=AH.get_push_new H _
 have ro:∀b x,(H.push (roB H.n n us)).get b=some x->x.wr=false:=λb x hx=>by
  rcases Zi b H.n with h|h
  .grind[ro]
  .have hb:b=H.n:=by have:=AH.get_lt hx;omega
   subst hb;rw[new]at hx;cases hx;rfl
 refine ⟨⟨⟨λg hg=>?_,λb p hp=>?_,λb p x i v hp hx h1 hv=>?_,λb p x i hp hx h1 hi=>?_,λb b' p p' x x' _ _ hx hx' _ _ _ _=>.inl ⟨ro b x hx,ro b' x' hx'⟩⟩,?_,λb hb=>?_,ro,λb p hp=>?_,L.pg.imp λp hp=>hle _ p hp⟩,
  ⟨aa,hle,λx h=>.inl h,old⟩⟩
 .obtain⟨p,hp,h1⟩:=L.rel.glob g hg;exact⟨p,hle g p hp,h1⟩
 .by_cases hb:b=H.n
  .subst hb;rw[dO]at hp;cases hp;exact⟨_,cs,e,fz,new,by simp[roB],rfl,rfl,rfl,hh,rfl,ho⟩
  .rw[fU hb]at hp;obtain⟨x,r⟩:=L.rel.dom b p hp
   grind[top]
 .by_cases hb:b=H.n
  .subst hb;rw[dO]at hp;cases hp;rw[new]at hx;cases hx;obtain⟨v',h1,h2⟩:=hr.at (i:=i) hv
   grind[am.mono,cell_of_heap]
  .rw[fU hb]at hp;rw[old b (L.top b p hp)]at hx;obtain⟨v',h2,h3⟩:=L.rel.cell b p x i v hp hx h1 hv
   grind[am.mono]
 .grind
 .refine⟨by simp[AH.push,L.wf.len],λb x hx=>?_⟩;rcases Zi b H.n with h|h
  .rw[old b h]at hx;exact L.wf.fam b x hx
  .have hb:b=H.n:=by have:=AH.get_lt hx;omega
   subst hb;rw[new]at hx;cases hx;trivial
 .rcases hb with hb|rfl
  .obtain⟨h1,x,h2,h3⟩:=L.fr b hb;exact⟨aa,x,by grind,h3⟩
  .exact⟨aa,_,new,rfl⟩
 .by_cases hb:b=H.n
  .omega
  .rw[fU hb]at hp;have:=L.top b p hp;omega
mutual
theorem lay{w:World}:∀(d:D)(v:Value){φ:bJ}{F:Nat->Prop}{H:AH},Ly w φ F H->WD w d v ->
  ∃φ' F' H' u,Ly w φ' F' H'∧uw φ F H φ' F' H'∧am φ' u v∧RD F' H' d u
 |.int k n,v,φ,F,H,L,h=>⟨φ,F,H,v,L,uw.refl ..,by simp only[WD]at h;subst h;rfl,h⟩
 |.bool b,v,φ,F,H,L,h=>⟨φ,F,H,v,L,uw.refl ..,by simp only[WD]at h;subst h;rfl,h⟩
 |.str s,v,φ,F,H,L,h=>⟨φ,F,H,v,L,uw.refl ..,by simp only[WD]at h;subst h;rfl,h⟩
 |.pl u,v,φ,F,H,L,h=>⟨φ,F,H,v,L,uw.refl ..,by grind[WD,am.of_plain],h⟩
 | .sl len cells,v,φ,F,H,L,h=>by
  simp only[WD]at h;rcases h with⟨rfl,rfl,rfl|⟨a,rfl⟩⟩|⟨c,o,cap,n,cs,e,fz,rfl,hlc,hn,hlen,hh,ho,hds⟩
  .exact⟨φ,F,H,.slice none 0 0,L,uw.refl ..,rfl,.inl ⟨rfl,rfl,.inl rfl⟩⟩
  .obtain⟨p,hp⟩:=L.pg;obtain⟨x,_,_,_,hx,h0,_⟩:=L.rel.dom _ _ hp;exact⟨φ,F,H,.slice (some ⟨oG,0,none⟩) 0 0,L,uw.refl ..,⟨a,0,rfl,.inr ⟨rfl,rfl,rfl,rfl,p,hp⟩⟩,.inl ⟨rfl,rfl,.inr ⟨_,_,_,rfl,x,hx,h0⟩⟩⟩
  .obtain⟨φ1,F1,H1,us,L1,E1,r1,d1⟩:=lays cells _ L hds;have hl:us.length=cells.length:=by have:=d1.length;omega
   obtain⟨L2,E2⟩:=L1.push (us:=us) (n:=n) (o:=o) hh (by grind) aa (by rw[hl]) r1;refine⟨_,_,_,.slice (some ⟨H1.n,0,none⟩) len cap,L2,E1.trans E2,?_,?_⟩
   .refine⟨⟨c,o,none⟩,cap,rfl,.inl ⟨rfl,rfl,_,dO ..,rfl,rfl,.inl rfl⟩⟩
   .have new:(H1.push (roB H1.n n us)).get H1.n=some (roB H1.n n us):=AH.get_push_new H1 _;by_cases h0:len=0
    .subst h0;exact .inl ⟨rfl,Zo aa,.inr ⟨_,_,_,rfl,_,new,by simp[roB]⟩⟩
    .refine .inr ⟨H1.n,0,cap,us,n,rfl,aa,hlc,hn,hlen,.inr rfl,?_,RDs.mono (E2.leF L1) _ _ d1,_,new,.inl rfl⟩;rw[kK new rfl (by show 0+cells.length<=us.length;omega)]
     show some ((us.drop 0).take cells.length)=_
     grind
theorem lays{w:World}:∀(ds:LdQ)(vs:LvQ){φ:bJ}{F:Nat->Prop}{H:AH},Ly w φ F H->WDs w ds vs ->
  ∃φ' F' H' us,Ly w φ' F' H'∧uw φ F H φ' F' H'∧au φ' us vs∧RDs F' H' ds us
 |[],vs,φ,F,H,L,h=>⟨φ,F,H,[],L,uw.refl ..,by trivial,rfl⟩
 | d::ds,vs,φ,F,H,L,h=>by
  simp only[WDs]at h;obtain⟨v,vs,rfl,h1,h2⟩:=h;obtain⟨φ1,F1,H1,u,L1,E1,r1,d1⟩:=lay d v L h1;obtain⟨φ2,F2,H2,us,L2,E2,r2,d2⟩:=lays ds vs L1 h2;exact⟨φ2,F2,H2,u::us,L2,E1.trans E2,⟨v,vs,rfl,am.mono E2.le u v r1,r2⟩,⟨u,us,rfl,RD.mono (E2.leF L1) _ _ d1,d2⟩⟩
end
def aae:Nat->List Blk
 |0=>[]
 |n+1=>qJ::aae n
theorem Lh:∀(n i:Nat)(x:Blk),(aae n)[i]?=some x->x=qJ
 |0,_,_,h=>by trivial
 |n+1,0,x,h=>by grind[aae]
 |n+1,i+1,x,h=>Lh n i x (by trivial)
def Be:LvQ:=[.int .u64 1,.int .u64 10,.int .u64 100,.int .u64 1000,.int .u64 10000,.int .u64 100000,.int .u64 1000000,.int .u64 10000000,.int .u64 100000000,.int .u64 1000000000,.int .u64 10000000000,.int .u64 100000000000,
 .int .u64 1000000000000,.int .u64 10000000000000,.int .u64 100000000000000,.int .u64 1000000000000000,.int .u64 10000000000000000,.int .u64 100000000000000000,.int .u64 1000000000000000000,.int .u64 10000000000000000000]
def QC(w:World):Prop:=∃cs e fz,w.heap[oG]?=some (.cells cs e fz)∧20<=cs.size∧Be=cs.toList.take 20
def H00:AH:=⟨oG,aae oG⟩
theorem abM{b:Nat}{x:Blk}(h:H00.get b=some x):x=qJ:=by
 unfold AH.get at h;split at h
 .exact Lh _ _ _ h
 .trivial
theorem start{w:World}(hp:QC w):∃φ F H,Ly w φ F H∧pN Y F H:=by
 obtain⟨cs,e,fz,hh,hsz,hcs⟩:=hp
 let φ:bJ:=λb=>if b=oG then some ⟨oG,0,20,1,cs.size,true⟩else none
 let H:AH:=H00.push (roB oG 1 Be)
 have hn:H.n=oG+1:=rfl;have new:H.get oG=some (roB oG 1 Be):=AH.get_push_new H00 _
 have old:∀{b x},b≠oG->H.get b=some x->x=qJ:=λ{b x} hb hx=>by
  grind[H00,AH.get_push,abM]
 have hφ:∀{b p},φ b=some p->b=oG∧p=⟨oG,0,20,1,cs.size,true⟩:=λ{b p} h=>by
  grind
 have ro:∀b x,H.get b=some x->x.wr=false:=λb x hx=>by
  by_cases hb:b=oG
  .subst hb;rw[new]at hx;cases hx;rfl
  .rw[old hb hx];rfl
 have L:Ly w φ (· = oG) H:=by
  refine⟨⟨λg hg=>?_,λb p hp=>?_,λb p x i v hp hx h1 hv=>?_,λb p x i hp hx h1 hi=>?_,λb b' p p' x x' _ _ hx hx' _ _ _ _=>.inl ⟨ro b x hx,ro b' x' hx'⟩⟩,?_,?_,ro,λb p hp=>?_,⟨⟨oG,0,20,1,cs.size,true⟩,by rfl⟩⟩
  .have:g=oG:=by simpa[X]using hg
   exact⟨⟨oG,0,20,1,cs.size,true⟩,by grind,this.symm,rfl⟩
  .grind[roB]
  .obtain⟨rfl,rfl⟩:=hφ hp;rw[new]at hx;cases hx;have hv':Be[i]?=some v:=hv;refine⟨v,?_,?_⟩
   .grind[cell_of_heap]
   .have hm:v∈Be:=Yh hv';have:Be.all plain=true:=rfl
    grind[am.of_plain]
  .grind
  .refine⟨by rfl,λb x hx=>?_⟩;by_cases hb:b=oG
   .subst hb;rw[new]at hx;cases hx;trivial
   .rw[old hb hx];exact Zc _
  .rintro c rfl;exact⟨aa,_,new,rfl⟩
  .grind
 refine⟨φ,_,H,L,λg cs' hg=>?_⟩
 have hgp:g=oG∧cs'=Ld:=by
  simp only[Y]at hg;split at hg
  .simp_all
  .cases hg
 obtain⟨rfl,rfl⟩:=hgp;refine⟨X2 _,rfl,⟨_,new,rfl,af⟩,Be,?_,?_⟩
 .rfl
 simp[Ld,Be,RDs,RD]
open Go.ChangeShapes Go.WideShapes Go.ChangeAt Go.RowKit
section
variable{HH:Type}{enc:TypeId×Value->HH}{P:Program}{w:World}{base:Nat}{held:Bool}
theorem MI{v:Value}(h:w.cell? a=some v):∃cs e fz,w.heap[a.block]?=some (.cells cs e fz)∧a.spot=none∧cs[a.off]?=some v:=by
 unfold World.cell? at h;split at h
 .rename_i c e fz hc;split at h
  .cases h
  .rename_i hs;refine⟨c,e,fz,hc,?_,h⟩;cases hq:a.spot with
   |none=>rfl
   |some s=>rw[hq]at hs;simp at hs
 .cases h
theorem addr_add(a:Addr)(hs:a.spot=none)(i:Nat):a.add i=⟨a.block,a.off+i,none⟩:=by
 unfold Addr.add;split
 .rename_i h;subst h;cases a;simp at hs ⊢;exact hs
 .rfl
theorem Ie{vs:LvQ}(h:∀i v,vs[i]?=some v->w.cell? (a.add i)=some v)(hp:0<vs.length):
  ∃cs e fz,w.heap[a.block]?=some (.cells cs e fz)∧a.spot=none∧a.off+vs.length<=cs.size∧vs=(cs.toList.drop a.off).take vs.length:=by
 obtain⟨v0,h0⟩:∃v,vs[0]?=some v:=⟨vs[0],by simp[hp]⟩;obtain⟨cs,e,fz,hc,hs,_⟩:=MI (h 0 v0 h0);have ha0:a.add 0=a:=by unfold Addr.add;simp
 rw[ha0]at hc hs
 have at_:∀i v,vs[i]?=some v->cs[a.off+i]?=some v:=λi v hv=>by
  obtain⟨cs',e',fz',hc',_,hv'⟩:=MI (h i v hv);rw[addr_add a hs]at hc' hv';simp only at hc' hv';rw[hc]at hc';cases hc';exact hv'
 have hle:a.off+vs.length<=cs.size:=by
  have hl:=at_ (vs.length-1) vs[vs.length-1] (by rw[List.getElem?_eq_getElem]);have:=(Array.getElem?_eq_some_iff.1 hl).1;omega
 refine⟨cs,e,fz,hc,hs,hle,?_⟩;apply Yk;intro i;by_cases hi:i<vs.length
 .rw[List.getElem?_take_of_lt hi,List.getElem?_drop];have:=at_ i vs[i] (by rw[List.getElem?_eq_getElem hi]);rw[List.getElem?_eq_getElem hi];simpa using this.symm
 .rw[List.getElem?_eq_none aa,List.getElem?_eq_none aN]
end
inductive Sh where
 |int (k:IntKind)
 |bool
 |str
 |sl (e:Sh)
 |ar (n:Nat) (e:Sh)
 |st (fs:List Sh)
variable{s:Sh}
mutual
/-- A type has a shape. -/
def Typ(P:Program):Sh->TypeId->Prop
 |.int k,t=>P.underlying t=some (.int k)∧P.cellsOf t=1
 |.bool,t=>P.underlying t=some .bool∧P.cellsOf t=1
 |.str,t=>P.underlying t=some .string∧P.cellsOf t=1
 |.sl e,t=>∃u,P.underlying t=some (.slice u)∧P.cellsOf t=1∧0<P.cellsOf u∧Typ P e u
 |.ar n e,t=>∃u,P.underlying t=some (.array n u)∧P.cellsOf t=n*P.cellsOf u∧Typ P e u
 |.st fs,t=>∃l:List Field,P.underlying t=some (.struct l.toArray)∧SD P fs l 0 (P.cellsOf t)
def SD(P:Program):List Sh->List Field->Nat->Nat->Prop
 |[],l,o,n=>l=[]∧o=n
 |s::ss,l,o,n=>∃f r,l=f::r∧f.offset=o∧Typ P s f.type∧SD P ss r (o+P.cellsOf f.type) n
end
mutual
/-- Cells of a shape. -/
def Dat:Sh->LdQ->Prop
 |.int k,ds=>∃n,ds=[.int k n]∧(Lit.int k n).wf=true
 |.bool,ds=>∃b,ds=[.bool b]
 |.str,ds=>∃s:LuQ,ds=[.str s]∧s.length<=maxLen
 |.sl e,ds=>∃xs:List LdQ,ds=[.sl xs.length xs.flatten]∧∀x∈xs,Dat e x
 |.ar n e,ds=>∃xs:List LdQ,ds=xs.flatten∧xs.length=n∧∀x∈xs,Dat e x
 |.st ss,ds=>aem ss ds
def aem:List Sh->LdQ->Prop
 |[],ds=>ds=[]
 |s::ss,ds=>∃a b,ds=a++b∧Dat s a∧aem ss b
end
section
variable{HH:Type}{enc:TypeId×Value->HH}{P:Program}{w:World}{base:Nat}{held:Bool}
theorem WDs.append:∀{a b:LdQ}{u v:LvQ},WDs w a u->WDs w b v->WDs w (a++b) (u++v)
 |[],b,u,v,h,h2=>by grind[WDs]
 | x::a,b,u,v,h,h2=>by
  simp only[WDs]at h;obtain⟨y,u,rfl,h0,h1⟩:=h;exact⟨y,u++v,rfl,h0,h1.append h2⟩
theorem WDs.len:∀{a:LdQ}{u:LvQ},WDs w a u->a.length=u.length
 |[],u,h=>by grind[WDs]
 | x::a,u,h=>by
  simp only[WDs]at h;obtain⟨y,u,rfl,_,h1⟩:=h;simp[h1.len]
theorem uI{α:Type}(C:Nat->List α)(n:Nat):∀m,(∀i,i<m->(C i).length=n)->((List.range m).flatMap C).length=m*n∧∀i j,i<m->j<n->((List.range m).flatMap C)[i*n+j]?=(C i)[j]?
 |0,_=>⟨ac,λi j hi=>by omega⟩
 | m+1,h=>by
  obtain⟨h1,h2⟩:=uI C n m λi hi=>h i aa
  have e:(List.range (m+1)).flatMap C=(List.range m).flatMap C++C m:=by simp[Xe]
  rw[e];refine⟨by rw[List.length_append,h1,h m aa,X1],λi j hi hj=>?_⟩;by_cases him:i<m
  .rw[List.getElem?_append_left,h2 i j him hj];rw[h1]
   calc i*n+j<i*n+n:=aa
    _=(i+1)*n:=by rw[X1]
    _<=m*n:=Zs n him
  .obtain rfl:i=m:=aa
   simp_all
theorem AN(C:Nat->LvQ)(X:Nat->LdQ):∀m,(∀i,i<m->WDs w (X i) (C i))->WDs w ((List.range m).flatMap X) ((List.range m).flatMap C)
 |0,_=>rfl
 | m+1,h=>by
  simp only[Xe,Yl,Xy,List.flatMap_nil,Zm];exact(AN C X m λi hi=>h i aa).append (h m aa)
theorem QG{len cap:Nat}{vs:LvQ}{ds:LdQ}(hn:0<n)(hl:len<=cap)(hlen:vs.length=cap*n)(h:∀i v,vs[i]?=some v->w.cell? (a.add i)=some v)(hd:WDs w ds (vs.take (len*n)))(hds:ds.length=len*n):WD w (.sl len ds) (.slice (some a) len cap):=by
 simp only[WD];by_cases h0:cap=0
 .have e:len=0:=aa
  simp_all
 .have hpos:0<vs.length:=by rw[hlen];exact X0 aa hn
  have hle2:len*n<=vs.length:=by rw[hlen];exact Zs n hl
  obtain⟨cs,e,fz,hc,hs,hle,hvs⟩:=Ie h hpos;refine .inr ⟨a.block,a.off,cap,n,cs,e,fz,?_,hl,hn,hds,hc,aa,?_⟩
  .cases a;grind
  grind
def Opn(enc:TypeId×Value->HH)(P:Program)(w:World)(base:Nat)(held:Bool)(s:Sh):Prop:=
 ∀(t:TypeId)(fuel:Nat)(cs:LvQ)(x:DataW HH×List MemPlace),Typ P s t->DataW.trod enc P w base (λ_=>true) held fuel t cs=some x->cs.length=P.cellsOf t∧∃ds,Dat s ds∧WDs w ds cs
theorem JS[Inhabited α]{p:Nat->α->Prop}(h:∀i,i<m->∃x,p i x):∃f:Nat->α,∀i,i<m->p i (f i):=
 ⟨λi=>if hi:i<m then Classical.choose (h i hi)else default,λi hi=>by
  grind⟩
theorem adb(ih:Opn enc P w base held s):Opn enc P w base held (.sl s):=by
 intro t fuel cs x ht h;simp only[Typ]at ht;obtain⟨u,hu,hc1,hcu,hs⟩:=ht;rcases Deep.open_slice hu h with⟨rfl,_⟩|⟨a,len,cap,m,n,Dd,Pl,rfl,_,hlc,_,hm,_,hx⟩
 .exact⟨by grind,[.sl 0 []],⟨[],rfl,λx hx=>by cases hx⟩,_,_,rfl,.inl ⟨rfl,rfl,.inl rfl⟩,rfl⟩
 .simp only[if_true]at hm;subst hm;obtain⟨C,hC⟩:=JS (α:=LvQ) hx
  obtain ⟨E,hE⟩:=JS (α:=LdQ) (p:=λi e=>Dat s e∧WDs w e (C i)) (m:=m) λi hi=>by
   obtain⟨_,ds,h1,h2⟩:=ih _ _ _ _ hs (hC i hi).2
   grind
  have hCl:∀i,i<m->(C i).length=P.cellsOf u:=λi hi=>(World.cells?_some (hC i hi).1).2.1
  obtain⟨hl1,hl2⟩:=uI C (P.cellsOf u) m hCl;have hEl:∀i,i<m->(E i).length=P.cellsOf u:=λi hi=>by rw[(hE i hi).2.len,hCl i hi]
  refine⟨by grind,[.sl ((List.range len).map E).length ((List.range len).map E).flatten],⟨_,rfl,λx hx=>?_⟩,_,_,rfl,?_,rfl⟩
  .simp only[Zw,W6]at hx;obtain⟨i,hi,rfl⟩:=hx;exact(hE i aa).1
  .rw[List.length_map,List.length_range,<-List.flatMap_def];refine QG (vs:=(List.range m).flatMap C) hcu hlc hl1 (λi v hv=>?_) ?_ (uI E (P.cellsOf u) len λi hi=>hEl i aa).1
   .have hi:=(List.getElem?_eq_some_iff.1 hv).1;rw[hl1]at hi;have hdm:=Xf i (P.cellsOf u);have hmod:=Y3 i hcu;have hdiv:i/P.cellsOf u<m:=W5 (by grind);have e:i=i/P.cellsOf u*P.cellsOf u+i%P.cellsOf u:=by rw[Zq];exact hdm.symm
    have:=(World.cells?_some (hC _ hdiv).1).2.2 (i%P.cellsOf u) hmod
    grind[Addr.add_add]
   ·have e:((List.range m).flatMap C).take (len*P.cellsOf u)=(List.range len).flatMap C:=by
     have e1:List.range m=List.range len++(List.range (m-len)).map (len + ·):=by
      conv=>lhs;rw[show m=len+(m-len) by omega,List.range_add]
     rw[e1,Yl,Ye];exact(uI C (P.cellsOf u) len λi hi=>hCl i aa).1
    rw[e];exact AN C E len λi hi=>(hE i aa).2
theorem adc(ih:Opn enc P w base held s):Opn enc P w base held (.ar n s):=by
 intro t fuel cs x ht h;simp only[Typ]at ht;obtain⟨u,hu,hct,hs⟩:=ht;obtain⟨xs,m,_,_,hl,hxl,hx⟩:=DataW.trod_array hu h
 let C:Nat->LvQ:=λi=>(cs.drop (i*P.cellsOf u)).take (P.cellsOf u)
 obtain ⟨E,hE⟩:=JS (α:=LdQ) (p:=λi e=>Dat s e∧WDs w e (C i)) (m:=n) λi hi=>by
  have:=hx i hi;rw[List.getElem?_eq_getElem aa]at this;obtain⟨_,ds,h1,h2⟩:=ih _ _ _ _ hs this
  grind
 refine⟨hl,((List.range n).map E).flatten,⟨_,rfl,ac,λx hx=>?_⟩,?_⟩
 .grind
 .rw[<-List.flatMap_def]
  have e:∀m,m<=n->cs.take (m*P.cellsOf u)=(List.range m).flatMap C:=by
   intro m
   induction m with
   |zero=>simp
   | succ m ihm=>
    intro hm;rw[X1,List.take_add,ihm aa];simp[Xe,C]
  have:=e n (Z8 _);rw[Z3 aa]at this
  grind[AN]
mutual
theorem opn:∀s:Sh,Opn enc P w base held s
 | .int k=>by
  intro t fuel cs x ht h;simp only[Typ]at ht;obtain⟨n,rfl,_,hw⟩:=DataW.trod_int ht.1 h;exact⟨by grind,[.int k n],⟨n,rfl,hw⟩,_,_,rfl,rfl,rfl⟩
 | .bool=>by
  intro t fuel cs x ht h;simp only[Typ]at ht;obtain⟨b,rfl,_⟩:=DataW.trod_bool ht.1 h;exact⟨by grind,[.bool b],⟨b,rfl⟩,_,_,rfl,rfl,rfl⟩
 | .str=>by
  intro t fuel cs x ht h;simp only[Typ]at ht;obtain⟨s,rfl,_,hs⟩:=DataW.trod_string ht.1 h;exact⟨by grind,[.str s.data.toList],⟨_,rfl,by trivial⟩,_,_,rfl,rfl,rfl⟩
 |.sl e=>adb (opn e)
 |.ar n e=>adc (opn e)
 | .st ss=>by
  intro t fuel cs x ht h;simp only[Typ]at ht;obtain⟨l,hu,hl⟩:=ht;obtain⟨xs,m,_,_,hcl,hxl,hx⟩:=DataW.trod_struct hu h;refine⟨hcl,?_⟩
  have:=afc ss (l:=l) (o:=0) (n:=P.cellsOf t) (fuel:=m) (cs:=cs) hl hcl λf hf=>by
   obtain⟨i,hi⟩:=List.getElem?_of_mem hf;have h1:=hx i f (by grind)
   grind
  trivial
theorem afc:∀(ss:List Sh){l:List Field}{o n fuel:Nat}{cs:LvQ},SD P ss l o n->cs.length=n ->
  (∀f∈l,∃x,DataW.trod enc P w base (λ_=>true) held fuel f.type ((cs.drop f.offset).take (P.cellsOf f.type))=some x)->∃ds,aem ss ds∧WDs w ds (cs.drop o)
 | [],l,o,n,fuel,cs,ht,hl,h=>by
  simp only[SD]at ht;refine⟨[],rfl,?_⟩;rw[Zb aa];rfl
 | s::ss,l,o,n,fuel,cs,ht,hl,h=>by
  simp only[SD]at ht;obtain⟨f,r,rfl,rfl,h1,h2⟩:=ht;obtain⟨x,hx⟩:=h f ac;obtain⟨_,a,ha,wa⟩:=opn s _ _ _ _ h1 hx;obtain⟨b,hb,wb⟩:=afc ss h2 hl λg hg=>h g (by grind)
  refine⟨a++b,⟨a,b,rfl,ha,hb⟩,?_⟩
  have e:cs.drop f.offset=(cs.drop f.offset).take (P.cellsOf f.type)++cs.drop (f.offset+P.cellsOf f.type):=by
   rw[<-List.drop_drop,X4]
  grind[WDs.append]
end
inductive Ar where
 |one (x:D)
 |many (xs:LdQ)
def Ar.v:Ar->V
 |.one x=>.d x
 |.many xs=>.agg (xs.map .d)
def WA(w:World):Ar->Value->Prop
 |.one x,v=>WD w x v
 |.many xs,v=>∃ws,v=.agg ⟨ws⟩∧WDs w xs ws
def WAs(w:World):List Ar->LvQ->Prop
 |[],l=>l=[]
 |x::xs,l=>∃v vs,l=v::vs∧WA w x v∧WAs w xs vs
theorem TV{F1:Nat->Prop}{H1:AH}(φ0:LnQ)(h0:Hp):∀(ds:LdQ)(us:LvQ),RDs F1 H1 ds us->RVs φ0 F1 H1 h0 (ds.map .d) us
 |[],us,h=>by trivial
 | d::ds,us,h=>by
  simp only[RDs]at h;obtain⟨u,us,rfl,h1,h2⟩:=h;exact⟨u,us,rfl,h1,TV φ0 h0 ds us h2⟩
def RAs(F:Nat->Prop)(H:AH)(rs:List Ar)(us:LvQ):Prop:=∀φ0 h0,RVs φ0 F H h0 (rs.map Ar.v) us
theorem adv:∀(rs:List Ar)(vs:LvQ){φ:bJ}{F:Nat->Prop}{H:AH},Ly w φ F H->WAs w rs vs ->
  ∃φ' F' H' us,Ly w φ' F' H'∧uw φ F H φ' F' H'∧au φ' us vs∧RAs F' H' rs us
 |[],vs,φ,F,H,L,h=>⟨φ,F,H,[],L,uw.refl ..,by trivial,λ_ _=>rfl⟩
 | .one x::rs,vs,φ,F,H,L,h=>by
  simp only[WAs,WA]at h;obtain⟨v,vs,rfl,h1,h2⟩:=h;obtain⟨φ1,F1,H1,u,L1,E1,r1,d1⟩:=lay x v L h1;obtain⟨φ2,F2,H2,us,L2,E2,r2,d2⟩:=adv rs vs L1 h2;exact⟨φ2,F2,H2,u::us,L2,E1.trans E2,⟨v,vs,rfl,am.mono E2.le u v r1,r2⟩,λφ0 h0=>⟨u,us,rfl,RD.mono (E2.leF L1) _ _ d1,d2 φ0 h0⟩⟩
 | .many xs::rs,vs,φ,F,H,L,h=>by
  simp only[WAs,WA]at h;obtain⟨v,vs,rfl,⟨ws,rfl,h1⟩,h2⟩:=h;obtain⟨φ1,F1,H1,us1,L1,E1,r1,d1⟩:=lays xs ws L h1;obtain⟨φ2,F2,H2,us,L2,E2,r2,d2⟩:=adv rs vs L1 h2;exact⟨φ2,F2,H2,.agg ⟨us1⟩::us,L2,E1.trans E2,⟨_,vs,rfl,⟨ws,rfl,au.mono E2.le _ _ r1⟩,r2⟩,λφ0 h0=>⟨_,us,rfl,⟨us1,rfl,TV φ0 h0 _ _ (RDs.mono (E2.leF L1) _ _ d1)⟩,d2 φ0 h0⟩⟩
theorem JU{rs:List Ar}{vs:LvQ}{b:Bool}{w:World}(hc:CP Y f (rs.map Ar.v) (.d (.bool b)))(hw:WAs w rs vs)(hp:QC w)(h0:∀u,Y.X.orc f u=none:=by exact λ_=>rfl):
  Calls X.P f vs.toArray w λe w'=>e=.returned (.bool b)∧w'.os=w.os∧w'.output=w.output∧w.heap.size<=w'.heap.size∧∀c,c<w.heap.size->w'.heap[c]?=w.heap[c]?:=by
 obtain⟨φ,F,H,L,g⟩:=start hp;obtain⟨φ1,F1,H1,us,L1,E1,r1,d1⟩:=adv rs vs L hw;obtain⟨n,wv,H2,F2,hcall,hn,_,_,_,_,_,_,_,hr⟩:=af4 vOk hc F1 H1 us L1.wf L1.fr (g.mono (E1.leF L)) d1
 have hv:wv=.bool b:=by
  have:=hr [] [];simpa only[RV,RD]using this
 subst hv;refine(MJ ade hcall L1.rel (args':=vs.toArray) r1 h0).mono ?_;rintro e w' ⟨φ',v',rfl,h1,h2,h3,h4⟩;have hv':v'=.bool b:=(am.of_plain (.bool b) rfl v').1 h1;subst hv';refine⟨rfl,h3.os,h3.out,h3.size,λc hc=>h3.frame c hc ?_⟩;rintro⟨b',p,x,_,_,hx,_,hwr⟩
 grind[Ly.ro]
theorem acy{v:Value}{x:DataW HH×List MemPlace}(ht:Typ P s t)(hc:P.cellsOf t=1)(h:DataW.trod enc P w base (λ_=>true) held fuel t v.cells.toList=some x)(hv:∀cs,v≠.agg cs):
  ∃d,Dat s [d]∧WA w (.one d) v:=by
 obtain⟨hl,ds,h1,h2⟩:=opn s _ _ _ _ ht h
 have hcl:v.cells.toList=[v]:=by
  cases v<;>first|rfl|grind
 rw[hcl]at h2;have:=h2.len;obtain⟨d,rfl⟩:∃d,ds=[d]:=List.length_eq_one_iff.1 this;simp only[WDs]at h2;obtain⟨v',vs',e,h2,_⟩:=h2;simp only[List.cons.injEq]at e;obtain⟨rfl,_⟩:=e;exact⟨d,h1,h2⟩
theorem OC{v:Value}{x:DataW HH×List MemPlace}(ht:Typ P s t)(h:DataW.trod enc P w base (λ_=>true) held fuel t v.cells.toList=some x)(hv:∃cs,v=.agg cs):
  ∃ds,Dat s ds∧WA w (.many ds) v:=by obtain⟨hl,ds,h1,h2⟩:=opn s _ _ _ _ ht h;obtain⟨cs,rfl⟩:=hv;exact⟨ds,h1,cs.toList,rfl,h2⟩
theorem Ei{P:Program}{base:Nat}{fs:Array Field}{v:Value}(ht:P.underlying t=some (.struct fs))(h:Value.okWide P W .any base t v):∃cs,v=.agg cs:=by grind[Value.okWide]
end
theorem WU{f:α->LdQ}(q:α->Prop)(hs:∀ds,Dat s ds->∃a,ds=f a∧q a){d:D}(h:Dat (.sl s) [d]):∃l:List α,d=.sl l.length (l.flatMap f)∧∀a∈l,q a:=by
 simp only[Dat,List.cons.injEq,and_true]at h;obtain⟨xs,rfl,hx⟩:=h
 have:∀xs:List LdQ,(∀x∈xs,Dat s x)->∃l:List α,xs=l.map f∧∀a∈l,q a:=by
  intro xs
  induction xs with
  |nil=>simp
  | cons x xs ih=>
   intro h;obtain⟨n,rfl,hn⟩:=hs x (h x ac);obtain⟨zs,rfl,hz⟩:=ih λy hy=>h y (by grind)
   exact⟨n::zs,rfl,λm hm=>by grind⟩
 obtain⟨l,rfl,hl⟩:=this xs hx;exact⟨l,by rw[List.length_map,<-List.flatMap_def],hl⟩
def QD(W W':World):Prop:=W'.os=W.os∧W'.output=W.output∧W.heap.size<=W'.heap.size∧∀c,c<W.heap.size->W'.heap[c]?=W.heap[c]?
section
variable{H:Type}{enc:TypeId×Value->H}{P:Program}
theorem QD.but(h:QD W W')(may:MemPlace->Prop):W.keptBut W' may:=by
 refine⟨h.1,h.2.1,λi hi=>?_⟩;rw[h.2.2.2 i hi];cases hq:W.heap[i]? with
 |none=>simp
 |some o=>cases o<;>simp
theorem Rf{f:Func}{s:ChangeSpec}{apart fresh handsOn again:Bool}{W W':World}{args:Array Value}{v:Value}{ds gs:List (DataW H)}{before pa pv:List MemPlace}
  (hW:DataW.Whole enc P f.params.toList s.vars apart W args.toList ds gs before)
  (hres:∀(b:Nat)(sp:Nat->Bool)(hd:Bool),DataW.TrodAll enc P W' b sp hd f.resultTypes.toList (v.resultList f.resultTypes.size) (s.fn H (ds++gs)).results [])
  (hargs:∀sp:Nat->Bool,(∀p∈before,sp p.block=true)->DataW.TrodAll enc P W' 0 sp true f.params.toList args.toList (s.fn H (ds++gs)).args pa)
  (hvars:∀sp:Nat->Bool,(∀p∈before,sp p.block=true)->DataW.TrodVars enc P W' sp s.vars (s.fn H (ds++gs)).vars pv)
  (hps:before=pa++pv) (hk:QD W W')
  (hok:∀(j:Nat)(t:TypeId)(r:Value),f.resultTypes[j]?=some t->(v.resultList f.resultTypes.size)[j]?=some r->Value.okWide P W' .any 0 t r) :
  s.post enc P f apart fresh handsOn again W args v W':=by
 have hold:∀p∈before,(λb=>decide (b<W.heap.size)) p.block=true:=λp hp=>by simpa using hW.lt p hp
 have hlt:=hW.lt;refine⟨ds,gs,before,[],pa,pv,hW,hres _ _ _,hargs _ hold,hvars _ hold,World.keptBut_mono (λp hp=>⟨hp,?_⟩) (hk.but (· ∈ before)),λ_=>?_⟩
 .rw[hps,Xx]at hp;exact Or.inr hp
 .obtain⟨_,_,_,_,_,hz,hn⟩:=hW;refine⟨hok,_,_,([]++pa)++pv,⟨[]++pa,pv,trodAll_append (hargs _ (λ_ _=>rfl)) (hres _ _ _),hvars _ (λ_ _=>rfl),rfl,?_,?_⟩,?_⟩
  .intro b off hp;have hp':MemPlace.cell b off∈before:=by rw[hps];simpa using hp
   have hb:b<W.heap.size:=hlt _ hp';have:=hz b off hp';simp only[World.frozen?]at this ⊢;rw[hk.2.2.2 b hb];exact this
  .intro ha;have:=hn ha;rw[hps]at this;simpa using this
  .intro p hp _;rw[hps];simpa using hp
theorem zd(hl:laidOutB P=true){W W':World}(hk:QD W W'){sp:Nat->Bool}:∀{ts:List TypeId}{vs:LvQ}{ds:List (DataW H)}{ps:List MemPlace},(∀t∈ts,P.readableRec t=true∧t<P.types.size) ->
  DataW.TrodAll enc P W 0 (λ_=>true) true ts vs ds ps->(∀p∈ps,p.block<W.heap.size)->(∀p∈ps,sp p.block=true)->DataW.TrodAll enc P W' 0 sp true ts vs ds ps
 | [],vs,ds,ps,_,h,_,_=>by
  obtain⟨rfl,rfl,rfl⟩:=trodAll_nil h;exact trodAll_mk0
 | t::ts,vs,ds,ps,hr,h,hlt,hsp=>by
  obtain⟨v,vs',d,ds',p,q,rfl,rfl,rfl,h1,h2⟩:=trodAll_cons h;refine trodAll_cons_mk (WideElems.Trod_stays hl (hr t ac).1 (hr t ac).2 h1 (λx hx=>?_) λx hx=>hsp x (by simp[hx])) (zd hl hk (λu hu=>hr u (by simp[hu])) h2 (λx hx=>hlt x (by simp[hx])) λx hx=>hsp x (by simp[hx]));have hb:=hlt x (by simp[hx]);cases x with
  | cell b off=>
   simp only[World.sameAt,World.cell?];rw[hk.2.2.2 b hb]
  |map b=>exact hk.2.2.2 b hb
end
theorem Fb{P:Program}{w:World}:∀{l:List (String×DataW Unit)}{ps:List MemPlace},DataW.LaidVars P w l ps->∀n d,(n,d)∈l ->
  ∃g t cs fuel p,P.globalNamed n=some g∧(P.globals[g]?).map (·.type)=some t∧w.var? P n=some cs∧DataW.trod (λ_=>()) P w 0 (λ_=>true) false fuel t cs.toList=some (d,p)
 |[],_,_,_,_,hm=>by cases hm
 | (n',d')::r,ps,h,n,d,hm=>by
  obtain⟨g,t,cs,fuel,p,q,h1,h2,h3,h4,h5,_⟩:=h;rcases Zu.1 hm with e|e
  .cases e;exact⟨g,t,cs,fuel,p,h1,h2,h3,h4⟩
  .exact Fb h5 n d e
def ac8:LiQ:=[1,10,100,1000,10000,100000,1000000,10000000,100000000,1000000000,10000000000,100000000000,1000000000000,10000000000000,100000000000000,1000000000000000,10000000000000000,100000000000000000,1000000000000000000,10000000000000000000]
theorem ac6{P:Program}{W:World}{name:String}{t e:TypeId}(hg:P.globalNamed name=some oG)(hty:(P.globals[oG]?).map (·.type)=some t)(ht:P.underlying t=some (.array 20 e))(he:P.underlying e=some (.int .u64))(hce:P.cellsOf e=1)(hct:P.cellsOf t=20)
  {l:List (String×DataW Unit)} (hm:(name,Lib.tabData .u64 ac8)∈l) (h:laidMet P l W):QC W:=by
 obtain⟨ps,hv,_⟩:=h;obtain⟨g',t',cs,fuel,p,hg',ht',hvar,hd⟩:=Fb hv _ _ hm;obtain rfl:=Option.some.inj (hg.symm.trans hg');obtain rfl:=Option.some.inj (hty.symm.trans ht')
 have tab:Lib.TabIs P W name .u64 ac8:=by
  unfold Lib.TabIs;rw[hvar,<-Lib.cells_of_tab ht he hce hct hd]
 have hpv:∀i v,Be[i]?=some v->W.cell? ((⟨oG,0,none⟩:Addr).add i)=some v:=by
  intro i v hv;have hi:i<20:=(List.getElem?_eq_some_iff.1 hv).1;rw[addr_add _ rfl];have h1:=tab.cell hg i hi;simp only[Zk];rw[h1];have h2:Be=ac8.map λz=>Value.int .u64 z:=rfl
  rw[h2,List.getElem?_map,Z4]at hv;obtain⟨z,hz,rfl⟩:=hv;simp[hz]
 obtain⟨cs,e,fz,h1,_,h2,h3⟩:=Ie (w:=W) (a:=⟨oG,0,none⟩) (vs:=Be) hpv af;exact⟨cs,e,fz,h1,by simpa[Be]using h2,by simpa[Be]using h3⟩
end Go.Vm
