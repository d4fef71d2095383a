/- Lemmas. -/
import Derived.Test.YtiipdodkemakeaaGreatDoorQStr
set_option linter.unusedVariables false
set_option linter.unusedSimpArgs false
namespace Go.Vm
variable{n o i k f j A c E cap b N:Nat}{L L':Nat->Nat}{m w z:Mz}{u v:Ve}{x:Nat×Ve}{us l0 l':LnQ}{C:List (Nat×Ve)}
theorem acA{m':Mz}(H:Hm n n m.length L m)(H':Hm n n m'.length L' m')(e:SpE m m'):m=m':=by
 have h:=MB (uK H m.length 0 0 aa (fun _=>Y4 _)) (uK H' m'.length 0 0 aa (fun _=>Y4 _)) (fun v=>by
  rw[rj H (Z8 _),rj H' (Z8 _)];exact e v)
 have eo:m.length=m'.length:=by
  have:=congrArg List.length h
  rwa [zq,zq]at this
 refine Wg eo fun i h1 h2=>?_
 rw[<-eo]at h;have e1:m[i]=nth [] m i:=by rw[nth,Z6,List.getElem?_eq_getElem h1];rfl
 have e2:m'[i]=nth [] m' i:=by rw[nth,Z6,List.getElem?_eq_getElem h2];rfl
 rw[e1,e2];refine aeo ?_ (QM h i aa aa);rw[H.ln i h1,H'.ln i h2]
theorem aeX{α:Type}(d:α)(l:List α)(h:i<o):nth d (l.take o) i=nth d l i:=by grind[nth]
theorem zG(H:Hm n n o L m):(m.take o).length=o∧Hm n n o L (m.take o)∧SpE m (m.take o):=by
 have hl:(m.take o).length=o:=by rw[Zo];have:=H.le;omega
 have e:∀i,i<o->nth [] (m.take o) i=nth [] m i:=fun i hi=>aeX [] m hi
 have H2:Hm n n o L (m.take o):=
  ⟨aa,fun i hi=>by rw[e i aa];exact H.ln i (by grind),H.lt,H.inc,fun i hi=>by simp only[eZ,e i hi];exact H.pos i hi,fun i hi j hj=>by grind[Hm.low],
   fun i j h1 h2=>by simp only[eZ,e i aa,e j h2];exact H.red i j h1 h2,fun k a b=>by omega⟩
 refine⟨hl,H2,fun v=>?_⟩;have k1:=rj H (Z8 _) v;have k2:=rj H2 (Z8 _) v
 have k3:∀r i,i+r<=o->ldZ L (m.take o) r i=ldZ L m r i:=by
  intro r
  induction r with
  |zero=>intro i _;rfl
  |succ r ih=>intro i hi;simp only[ldZ,e i aa,ih (i+1) aa]
 grind
theorem Jh(l:LiQ)(k j:Nat):nth 0 (l.drop k) j=nth 0 l (k+j):=by simp[nth]
theorem Kc(k:Nat)(r:LiQ):Ai k r=true↔(∃j,nth 0 r j≠0)∧∀j,j<k->nth 0 r j=0:=by
 unfold Ai;cases h:r.findIdx? fun z=>decide (z≠0)with
 | none=>
  simp only[Y9,false_iff];rintro⟨⟨j,hj⟩,_⟩;rw[List.findIdx?_eq_none_iff]at h;by_cases hl:j<r.length
  .grind[Ze,nth.eq_1]
  .rw[nth,Z6,List.getElem?_eq_none aa]at hj;trivial
 | some i=>
  rw[List.findIdx?_eq_some_iff_getElem]at h;obtain⟨hi,h1,h2⟩:=h;simp only[decide_eq_true_eq]at h1 h2 ⊢;have g1:nth 0 r i=r[i]:=by rw[nth,Z6,List.getElem?_eq_getElem hi];rfl
  constructor
  .intro hk;refine⟨⟨i,aa⟩,fun j hj=>?_⟩;have hjl:j<r.length:=aa;have:=h2 j aa
   grind[nth.eq_1]
  .rintro⟨_,h3⟩;exact Decidable.byContradiction fun hn=>h1 (by rw[<-g1];exact h3 i aa)
theorem Krn.add{S:Ve->Prop}(hu:Krn n S u)(hv:Krn n S v):Krn n S fun i=>u i+v i:=
 ⟨fun w hw=>by rw[xg,hu.1 w hw,hv.1 w hw];rfl,fun j hj=>by show u j+v j=0;rw[hu.2 j hj,hv.2 j hj];rfl⟩
theorem Krn.mul{S:Ve->Prop}(k:Int)(hu:Krn n S u):Krn n S fun i=>k*u i:=
 ⟨fun w hw=>by rw[uO,hu.1 w hw,Wv],fun j hj=>by show k*u j=0;rw[hu.2 j hj,Wv]⟩
theorem Krn.zero(n:Nat)(S:Ve->Prop):Krn n S fun _=>0:=⟨fun w hw=>qm w n,fun _ _=>rfl⟩
theorem Krn.spn{S:Ve->Prop}:∀{l:List Ve},(∀g∈l,Krn n S g)->∀{v},Spn l v->Krn n S v:=fun{l} hl {v} hv=>by
 obtain⟨ks,rfl⟩:=hv
 induction l generalizing ks with
 |nil=>cases ks<;>exact Krn.zero n S
 | cons g l ih=>
  cases ks with
  |nil=>exact Krn.zero n S
  |cons k ks=>exact((hl g ae).mul k).add (ih (fun x hx=>hl x (by grind)) ks)
theorem Hj(k:Nat):∀{l:List Ve}{v:Ve},Spn l v->Spn (l.map fun g j=>g (k+j)) fun j=>v (k+j):=fun{l v} hv=>by
 obtain⟨ks,rfl⟩:=hv;refine⟨ks,?_⟩
 induction l generalizing ks with
 |nil=>cases ks<;>rfl
 | cons g l ih=>
  cases ks with
  |nil=>rfl
  | cons k' ks=>
   grind[cmb]
def tj(k:Nat)(m:Mz):Mz:=(m.filter (Ai k)).map (List.drop k)
theorem RE(h:Ln (k+n) m):Ln n (tj k m):=by
 have:∀r∈tj k m,r.length=n:=fun r hr=>by
  obtain⟨x,hx,rfl⟩:=Zy.1 hr;obtain⟨i,hi,rfl⟩:=Zd.1 (Xv.1 hx).1;have:=h i hi
  grind[nth.eq_1]
 intro i hi
 grind[nth.eq_1]
theorem IF(n:Nat)(m:Mz):Ln (m.length+n) (km n m):=fun i hi=>by
 grind[tA,Kt]
theorem aaO(H:Hm (m.length+n) (m.length+n) o L w)(e:SpE (km n m) w)(v:Ve):SpZ (tj m.length (w.take o)) v↔Krn n (SpZ m) v:=by
 obtain⟨tl,H2,e2⟩:=zG H;have sp:∀u,SpZ (w.take o) u↔Wid n m u:=fun u=>(((e.trans e2) u).symm).trans (G2 u)
 constructor
 .refine fun h=>Krn.spn (fun g hg=>?_) h
  obtain⟨r,hr,rfl⟩:=Zy.1 hg;obtain⟨x,hx,rfl⟩:=Zy.1 hr;obtain⟨hx,hb⟩:=Xv.1 hx;have hb:=((Kc _ _).1 hb).2;have hw:=(sp (ve x)).1 (Spn.mem (Zy.2 ⟨x,hx,rfl⟩));have ev:ve (x.drop m.length)=fun c=>ve x (m.length+c):=funext fun j=>Jh x m.length j
  rw[ev];refine⟨fun u hu=>?_,fun j hj=>hw.2 _ aa⟩;refine Dv (fun g hg=>?_) hu;obtain⟨r,hr,rfl⟩:=Zy.1 hg;obtain⟨i,hi,rfl⟩:=Zd.1 hr;have e1:m[i]=nth [] m i:=by rw[nth,Z6,List.getElem?_eq_getElem hi];rfl
  rw[e1,<-hw.1 i hi];exact hb i hi
 .intro h
  let u:Ve:=fun j=>if j<m.length then 0 else v (j-m.length)
  have hsh:(fun j=>u (m.length+j))=v:=funext fun j=>by
   grind
  have hw:Wid n m u:=by
   refine⟨fun i hi=>?_,fun j hj=>?_⟩
   .rw[hsh,h.1 _ (gr hi)]
    grind
   .show(if j<m.length then 0 else v (j-m.length))=0
    rw[if_neg aa];exact h.2 _ aa
  have h1:=(sp u).2 hw;rw[<-rj H2 (Z8 _)]at h1;have h2:=yq (uK H2 o 0 0 aa (fun _=>Y4 _)) m.length h1 (fun j hj=>if_pos hj);have h3:=Hj m.length h2;rw[hsh]at h3;refine Spn.le (fun g hg=>?_) h3;obtain⟨g',hg',rfl⟩:=Zy.1 hg;obtain⟨x,hx,rfl⟩:=Zy.1 hg';obtain⟨hx,hk⟩:=Xv.1 hx;obtain⟨i,_,hi,rfl⟩:=uB hx
  have hk:m.length<=L i:=by simpa using hk
  have hi':i<(w.take o).length:=aa;refine Spn.mem (Zy.2 ⟨(nth [] (w.take o) i).drop m.length,?_,funext fun j=>Jh _ _ _⟩);refine Zy.2 ⟨_,Xv.2 ⟨?_,(Kc _ _).2 ⟨⟨L i,?_⟩,fun j hj=>H2.low i aa j aa⟩⟩,rfl⟩
  .grind[nth.eq_1]
  .have:=H2.pos i aa
   grind
theorem afh(n:Nat):Hm n n 0 (fun _=>0) []:=
 have z:∀{i:Nat}{P:Prop},i<0->P:=fun h=>absurd h (Nat.not_lt_zero _)
 ⟨Z8 _,fun i hi=>z hi,fun i hi=>z hi,fun i j _ hj=>z hj,fun i hi=>z hi,fun i hi=>z hi,fun i j _ hj=>z hj,fun k _ hk=>z hk⟩
theorem Ib{B:Nat}(hl:Ln n m)(h:ql B f n m=some (o,w)):(∃L,Hm n n (w.take o).length L (w.take o))∧SpE m (w.take o):=by
 obtain⟨⟨L,H⟩,e,_⟩:=Dr hl h;obtain⟨tl,H2,e2⟩:=zG H
 grind[SpE.trans]
theorem zy{B:Nat}(h:uG B f n m=some z):(∃L,Hm n n z.length L z)∧∀v,SpZ z v↔Krn n (SpZ m) v:=by
 unfold uG at h;split at h
 .rename_i o w hw;obtain⟨⟨L,H⟩,e,_⟩:=Dr (IF n m) hw;have bs:=aaO H e;have ln:=RE (zG H).2.1.ln
  have hb:TP B f m.length n (w.take o)=if tj m.length (w.take o)=[]then some []else match ql B f n (tj m.length (w.take o))with
   |some (o,w)=>some (w.take o)
   |none=>none:=rfl
  rw[hb]at h;split at h
  .rename_i h0;cases h;rw[h0]at bs;exact⟨⟨fun _=>0,afh n⟩,bs⟩
  .split at h
   .rename_i o2 w2 hf;cases h;obtain⟨H3,e3⟩:=Ib ln hf;exact⟨H3,fun v=>((e3 v).symm).trans (bs v)⟩
   .cases h
 .cases h
def dU:LnQ->Ve->Ve->Int
 |[],_,_=>0
 |i::us,e,x=>e i*x i+dU us e x
theorem OR(a b:Int)(e f x:Ve):∀us,dU us (fun i=>a*e i-b*f i) x=a*dU us e x-b*dU us f x
 |[]=>by simp[dU]
 |i::us=>by simp only[dU,OR a b e f x us];grind
theorem aaj(a:Int)(e x:Ve):∀us,dU us e (fun i=>a*x i)=a*dU us e x
 |[]=>by simp[dU]
 |i::us=>by simp only[dU,aaj a e x us];grind
theorem FR{e x y:Ve}:∀{us},(∀i∈us,x i=y i)->dU us e x=dU us e y
 |[],_=>rfl
 |i::us,h=>by simp only[dU,h i ae,FR (us:=us) fun j hj=>h j (by grind)]
theorem Ab{e x:Ve}:∀{us},(∀i∈us,e i*x i=0)->dU us e x=0
 |[],_=>rfl
 |i::us,h=>by simp only[dU,h i ae,Ab (us:=us) fun j hj=>h j (by grind)];rfl
theorem ad3{e x:Ve}:∀{us},dU us e x≠0->∃i∈us,e i*x i≠0
 |[],h=>absurd rfl h
 | i::us,h=>by
  by_cases h1:e i*x i=0
  .simp only[dU,h1,Ww]at h;obtain⟨j,hj,h2⟩:=ad3 h
   grind
  .exact⟨i,ae,h1⟩
theorem qp{e x:Ve}{j:Nat}:∀{us:LnQ},j∈us->dU us e x=e j*x j+dU (us.erase j) e x
 | i::us,h=>by
  by_cases hi:i=j
  .subst hi;rw[List.erase_cons_head];rfl
  ·have hj:j∈us:=by
    rcases Zx.1 h with h|h
    .omega
    .exact h
   rw[List.erase_cons_tail (by grind)];simp only[dU,qp hj];omega
theorem aak{e x:Ve}{A S:Nat}:∀{us:LnQ},(∀i∈us,(e i).natAbs<=A)->(∀i∈us,(x i).natAbs<=S)->(dU us e x).natAbs<=us.length*(A*S)
 |[],_,_=>by simp[dU]
 | i::us,h1,h2=>by
  have ih:=aak (us:=us) (fun j hj=>h1 j (by grind)) (fun j hj=>h2 j (by grind));have a1:=Xy (e i*x i) (dU us e x);rw[Zl]at a1;have a2:=Zp (h1 i ae) (h2 i ae)
  grind[dU,Nat.add_mul]
def slB:Nat->Nat->Nat
 |0,_=>0
 |1,_=>1
 |u+2,A=>(u+1)*A*slB (u+1) (2*A*A)
theorem PK:∀(u:Nat){A:Nat},1<=A->1<=slB (u+1) A
 |0,A,h=>by simp[slB]
 | u+1,A,h=>by
  have h2:1*1<=A*A:=Zp h h;have h1:=PK u (A:=2*A*A) (by grind);have h3:1*1*1<=(u+1)*A*slB (u+1) (2*A*A):=Zp (Zp aa h) h1;trivial
theorem slv:∀(k:Nat)(us:LnQ),us.length=k->us.Nodup->∀(A:Nat),1<=A->∀(es:List Ve)(l x:Ve),(∀e∈es,∀i∈us,(e i).natAbs<=A)->(∀e∈es,dU us e x=0)->dU us l x≠0 ->
  ∃y:Ve,(∀e∈es,dU us e y=0)∧dU us l y≠0∧(∀i,(y i).natAbs<=slB us.length A)∧∀i,i ∉ us->y i=0
 | 0,us,hk,hn,A,hA,es,l,x,hb,h0,hl=>by
  rw[X7.1 hk]at hl;trivial
 | k+1,us,hk,hn,A,hA,es,l,x,hb,h0,hl=>by
  by_cases all:∀e∈es,∀i∈us,e i=0
  .obtain⟨i,hi,h1⟩:=ad3 hl
   refine ⟨fun t=>if t=i then 1 else 0,fun e he=>Ab fun t ht=>by rw[all e he t ht,Int.zero_mul],?_,fun t=>?_,fun t ht=>by
    grind⟩
   .rw[qp hi,Ab (us:=us.erase i)]
    .rw[if_pos rfl,Int.mul_one,Wd];exact fun h=>h1 (by rw[h,Int.zero_mul])
    grind
   grind[PK]
  ·obtain ⟨e1,he1,j,hj,ha⟩:∃e1,e1∈es∧∃j,j∈us∧e1 j≠0:=by
    grind
   have hk2:(us.erase j).length=k:=by rw[List.length_erase_of_mem hj];omega
   have hn2:(us.erase j).Nodup:=hn.erase j;have hsub:∀i∈us.erase j,i∈us∧i≠j:=fun i hi=>⟨(hn.mem_erase_iff.1 hi).2,(hn.mem_erase_iff.1 hi).1⟩
   have hA2:1*1<=A*A:=Zp hA hA
   have hred:∀e:Ve,dU (us.erase j) (fun i=>e1 j*e i-e j*e1 i) x=e1 j*dU us e x-e j*dU us e1 x:=fun e=>by
    rw[OR,qp (e:=e) hj,qp (e:=e1) hj]
    grind
   obtain ⟨y,y1,y2,y3,y4⟩:=slv k (us.erase j) hk2 hn2 (2*A*A) (by grind) (es.map fun e i=>e1 j*e i-e j*e1 i) (fun i=>e1 j*l i-l j*e1 i) x (fun e' he' i hi=>by
     obtain⟨e,he,rfl⟩:=Zy.1 he';obtain⟨hi,_⟩:=hsub i hi
     show(e1 j*e i-e j*e1 i).natAbs<=_
     have b1:=Int.natAbs_sub_le (e1 j*e i) (e j*e1 i);rw[Zl,Zl]at b1;have b2:=Zp (hb e1 he1 j hj) (hb e he i hi);have b3:=Zp (hb e he j hj) (hb e1 he1 i hi)
     grind) (fun e' he'=>by
     grind) (by
     simp_all)
   have hjn:j ∉ us.erase j:=fun h=>(hsub j h).2 rfl
   have hval:∀e:Ve,dU us e (fun t=>if t=j then -dU (us.erase j) e1 y else e1 j*y t)=dU (us.erase j) (fun i=>e1 j*e i-e j*e1 i) y:=fun e=>by
    rw[qp hj,if_pos rfl,OR,FR (y:=fun t=>e1 j*y t) (fun t ht=>if_neg (hsub t ht).2),aaj]
    grind
   refine⟨_,fun e he=>(hval e).trans (y1 _ (Zy.2 ⟨e,he,rfl⟩)),by grind,fun t=>?_,fun t ht=>?_⟩
   .cases k with
    | zero=>
     rw[X7.1 hk2]at y2;trivial
    | succ u=>
     rw[hk]
     show(if t=j then -dU (us.erase j) e1 y else e1 j*y t).natAbs<=(u+1)*A*slB (u+1) (2*A*A)
     rw[hk2]at y3;split
     .rw[Xw,Nat.mul_assoc];have:=aak (us:=us.erase j) (e:=e1) (x:=y) (fun i hi=>hb e1 he1 i (hsub i hi).1) (fun i _=>y3 i)
      grind
     .rw[Zl,Nat.mul_assoc];have b1:=Zp (hb e1 he1 j hj) (y3 t)
      grind
   grind
theorem Ec{m:List (Nat×Ve)}(h:Spn (vs m) v):Spn (vs (x::m)) v:=
 Spn.le (fun g hg=>Spn.mem (by grind[vs])) h
theorem JJ:∀{m:List (Nat×Ve)}{o:Nat},Hnf o m->∀(u:Ve),∃(D:Int)(s:Ve),D≠0∧Spn (vs m) s∧∀y∈m,D*u y.1-s y.1=0
 |[],o,H,u=>⟨1,fun _=>0,aa,Spn.zero _,fun y hy=>by cases hy⟩
 | (l,h)::m,o,⟨⟨a,b,c⟩,d,r⟩,u=>by
  obtain⟨D,s,h1,h2,h3⟩:=JJ r (fun i=>h l*u i-u l*h i);refine⟨D*h l,fun i=>D*u l*h i+s i,Yf h1 aa,((Spn.mem (by simp[vs])).mul _).add (Ec h2),fun y hy=>?_⟩;rcases Zx.1 hy with rfl|hy
  .have:s l=0:=re r h2 l aa
   grind
  grind
theorem zF:∀{m:List (Nat×Ve)}{o:Nat},Hnf o m->∀x∈m,∃v,Spn (vs m) v∧v x.1≠0∧(∀j,j<x.1->v j=0)∧∀y∈m,y.1≠x.1->v y.1=0
 | (l,h)::m,o,H,x,hx=>by
  have H':=H;obtain⟨⟨a,b,c⟩,d,r⟩:=H';rcases Zx.1 hx with rfl|hx
  .obtain⟨D,s,h1,h2,h3⟩:=JJ r h;have z:∀j,j<=l->s j=0:=fun j hj=>re r h2 j aa
   refine⟨fun i=>D*h i-s i,((Spn.mem (by simp[vs])).mul D).sub (Ec h2),?_,fun j hj=>?_,fun y hy hne=>?_⟩
   .show D*h l-s l≠0
    rw[z l (Z8 _),Int.sub_zero];exact Yf h1 aa
   .show D*h j-s j=0
    have hj:j<l:=hj;rw[z j aa,c j hj];simp
   grind
  .obtain⟨v,v1,v2,v3,v4⟩:=zF r x hx;have:=yp r x hx;refine⟨v,Ec v1,v2,v3,fun y hy hne=>?_⟩;rcases Zx.1 hy with rfl|hy
   .exact v3 l aa
   grind
theorem QS:∀{m:List (Nat×Ve)}{o:Nat},Hnf o m->∀x∈m,∀z∈m,(x.2 z.1).natAbs<=(z.2 z.1).natAbs
 | (l,h)::m,o,⟨⟨a,b,c⟩,d,r⟩,x,hx,z,hz=>by
  rcases Zx.1 hx with rfl|hx
  .rcases Zx.1 hz with rfl|hz
   .omega
   grind
  .rcases Zx.1 hz with rfl|hz
   .have:x.2 l=0:=re r (Spn.mem (Zy.2 ⟨x,hx,rfl⟩)) l aa
    grind
   .exact QS r x hx z hz
theorem aaz{m:List (Nat×Ve)}{o S:Nat}(H:Hnf o m)(w:Nat->Ve)(hw:∀x∈m,Spn (vs m) (w x.1)∧w x.1 x.1≠0∧(∀y∈m,y.1≠x.1->w x.1 y.1=0)∧∀j,(w x.1 j).natAbs<=S) :
  ∀(J:List (Nat×Ve)),(∀x∈J,x∈m)->∀(c:Nat)(u:Ve),Spn (vs m) u->(∀y∈m,y ∉ J->u y.1=0)->(∀y∈J,(u y.1).natAbs<=c*(w y.1 y.1).natAbs)->∀j,(u j).natAbs<=c*(J.length*S)
 | [],_,c,u,hu,hz,_,j=>by
  rcases qk H hu with h|⟨x,hx,_,h,_⟩
  .grind
  .exact absurd (hz x hx ae) h
 | x::J,hJ,c,u,hu,hz,hb,j=>by
  obtain⟨w1,w2,w3,w4⟩:=hw x (hJ x ae)
  have ih:=aaz H w hw J (fun y hy=>hJ y (by grind)) (c*(w x.1 x.1).natAbs) (fun i=>w x.1 x.1*u i-u x.1*w x.1 i) ((hu.mul _).sub (w1.mul _)) (fun y hy hn=>by
   by_cases e:y.1=x.1
   .grind
   .show w x.1 x.1*u y.1-u x.1*w x.1 y.1=0
    rw [w3 y hy e,hz y hy (fun h=>by
     rcases Zx.1 h with h|h
     .exact e (by rw[h])
     trivial)]
    simp) (fun y hy=>by
   show(w x.1 x.1*u y.1-u x.1*w x.1 y.1).natAbs<=_
   by_cases e:y.1=x.1
   .rw[e,show w x.1 x.1*u x.1-u x.1*w x.1 x.1=0 by grind];simp
   .rw[w3 y (hJ y (by grind)) e,Wv,Int.sub_zero,Zl];have:=Z0 (w x.1 x.1).natAbs (hb y (by grind))
    grind) j
  have h1:((w x.1 x.1)*u j).natAbs<=(w x.1 x.1*u j-u x.1*w x.1 j).natAbs+(u x.1*w x.1 j).natAbs:=by
   have:=Xy (w x.1 x.1*u j-u x.1*w x.1 j) (u x.1*w x.1 j)
   rwa [Int.sub_add_cancel]at this
  rw[Zl,Zl (u x.1)]at h1;have h2:=Zp (hb x ae) (w4 j)
  have h3:(w x.1 x.1).natAbs*(u j).natAbs<=(w x.1 x.1).natAbs*(c*((x::J).length*S)):=by
   calc (w x.1 x.1).natAbs*(u j).natAbs<=c*(w x.1 x.1).natAbs*(J.length*S)+c*(w x.1 x.1).natAbs*S:=Zz h1 (Nat.add_le_add ih h2)
    _=(w x.1 x.1).natAbs*(c*((x::J).length*S)):=by grind
  exact Nat.le_of_mul_le_mul_left h3 (Int.natAbs_pos.2 w2)
theorem aaA{m:List (Nat×Ve)}{S:Nat}(H:Hnf o m)(hw:∀x∈m,∃v,Spn (vs m) v∧v x.1≠0∧(∀y∈m,y.1≠x.1->v y.1=0)∧∀j,(v j).natAbs<=S):∀x∈m,∀j,(x.2 j).natAbs<=m.length*S:=by
 intro x hx j
 let P:Nat->Ve->Prop:=fun l v=>Spn (vs m) v∧v l≠0∧(∀y∈m,y.1≠l->v y.1=0)∧∀j,(v j).natAbs<=S
 let w:Nat->Ve:=fun l=>Classical.epsilon (P l)
 have hP:∀y∈m,P y.1 (w y.1):=fun y hy=>Classical.epsilon_spec (hw y hy)
 have:=aaz H w hP m (fun y hy=>hy) 1 x.2 (Spn.mem (Zy.2 ⟨x,hx,rfl⟩)) (fun y hy hn=>absurd hy hn) (fun y hy=>by
  obtain⟨p1,p2,p3,p4⟩:=hP y hy;rcases qk H p1 with h|⟨z,hz,z1,z2,z3⟩
  .grind
  .have e:z.1=y.1:=Classical.byContradiction fun hn=>z2 (p3 z hz hn)
   have h1:=QS H x hx z hz;rw[<-e,Xn];refine Zz h1 ?_;rw[<-e]at z2 z3;exact Xb aa (Int.natAbs_dvd_natAbs.2 z3)) j
 omega
theorem aal(e x:Ve):∀us ws,dU (us++ws) e x=dU us e x+dU ws e x
 |[],ws=>by simp[dU]
 |i::us,ws=>by simp only[List.cons_append,dU,aal e x us ws];omega
theorem mj(e x:Ve):∀n,dtV n e x=dU (List.range n) e x
 |0=>rfl
 |n+1=>by rw[V8,aal,<-mj e x n];simp[dU,dtV]
theorem ers:∀(os us:LnQ),us.Nodup->os.Nodup->(∀c∈os,c∈us)->(os.foldl List.erase us).Nodup∧(os.foldl List.erase us).length+os.length=us.length∧∀c,c∈os.foldl List.erase us↔c∈us∧c ∉ os
 |[],us,h1,h2,h3=>⟨h1,rfl,fun c=>by simp⟩
 | a::os,us,h1,h2,h3=>by
  rw[Xp]at h2;have ha:=h3 a ae;obtain⟨i1,i2,i3⟩:=ers os (us.erase a) (h1.erase a) h2.2 (fun c hc=>h1.mem_erase_iff.2 ⟨fun e=>h2.1 (e▸hc),h3 c (by grind)⟩)
  grind
theorem OS{e x:Ve}:∀{os us:LnQ},us.Nodup->os.Nodup->(∀c∈os,c∈us)->(∀c∈os,x c=0)->dU (os.foldl List.erase us) e x=dU us e x
 |[],us,_,_,_,_=>rfl
 | a::os,us,h1,h2,h3,h4=>by
  rw[Xp]at h2;have ha:=h3 a ae;simp only[List.foldl_cons];rw[OS (h1.erase a) h2.2 (fun c hc=>h1.mem_erase_iff.2 ⟨fun e=>h2.1 (e▸hc),h3 c (by grind)⟩) (fun c hc=>h4 c (by grind)),qp (us:=us) ha,h4 a ae];simp
theorem Rp{x:Ve}(hj:j∈us)(hn:us.Nodup):dU us (fun c=>if c=j then 1 else 0) x=x j:=by
 rw[qp hj,Ab (us:=us.erase j)]
 .simp
 grind
def leads(m:List (Nat×Ve)):LnQ:=m.map (·.1)
theorem wu:∀{m:List (Nat×Ve)}{o:Nat},Hnf o m->(leads m).Nodup
 |[],_,_=>List.nodup_nil
 | (l,h)::m,o,H=>by
  refine Xp.2 ⟨fun hl=>?_,wu H.2.2⟩;obtain⟨x,hx,e⟩:=Zy.1 hl;have:=yp H.2.2 x hx
  grind
theorem WC{m:List (Nat×Ve)}(H:Hnf o m)(hn:∀x∈m,x.1<n)(hx:x∈m):∃os:LnQ,os.Nodup∧os.length+1=m.length∧(∀c∈os,c<n)∧(∀c,c∈os↔(∃y∈m,y.1=c)∧c≠x.1):=by
 have hd:=wu H;have hm:x.1∈leads m:=Zy.2 ⟨x,hx,rfl⟩;refine⟨(leads m).erase x.1,hd.erase _,?_,fun c hc=>?_,fun c=>?_⟩
 .grind[leads]
 .obtain⟨y,hy,rfl⟩:=Zy.1 (hd.mem_erase_iff.1 hc).2
  grind
 grind[leads]
theorem w8{m:List (Nat×Ve)}(H:Hnf o m)(hn:∀x∈m,x.1<n):m.length<=n:=by
 obtain ⟨_,h,_⟩:=ers (leads m) (List.range n) Wq (wu H) (fun c hc=>by
  obtain⟨x,hx,rfl⟩:=Zy.1 hc
  grind)
 grind[leads]
theorem Ua(hl:Ln n m)(hj:n<=j):eZ m i j=0:=by
 by_cases hi:i<m.length
 .have:=hl i hi;rw[eZ,nth,Z6,List.getElem?_eq_none aa];rfl
 .rw[eZ,show nth [] m i=[] by rw[nth,Z6,List.getElem?_eq_none aa];rfl];rfl
theorem afc(h:∀i,i<m.length->dtV n (ve (nth [] m i)) v=0)(h0:∀j,n<=j->v j=0):Krn n (SpZ m) v:=by
 refine⟨fun u hu=>Dv (fun g hg=>?_) hu,h0⟩;obtain⟨r,hr,rfl⟩:=Zy.1 hg;obtain⟨i,hi,rfl⟩:=Zd.1 hr;have e1:m[i]=nth [] m i:=by rw[nth,Z6,List.getElem?_eq_getElem hi];rfl
 grind
theorem YG(H:Hnf o C)(hs:∀v,Spn (vs C) v↔Krn n (SpZ m) v)(hA:1<=A)(hb:BdE A m):∀x∈C,∀j,(x.2 j).natAbs<=C.length*slB (n+1-C.length) A:=by
 have hk:∀x∈C,Krn n (SpZ m) x.2:=fun x hx=>(hs _).1 (Spn.mem (Zy.2 ⟨x,hx,rfl⟩))
 have hp:∀{C:List (Nat×Ve)}{o:Nat},Hnf o C->∀x∈C,0<x.2 x.1:=by
  intro C
  induction C with
  |nil=>simp
  | cons y C ih=>
   intro o H x hx;obtain⟨l,h⟩:=y;rcases Zx.1 hx with rfl|hx
   .exact H.1.2.1
   .exact ih H.2.2 x hx
 have hn:∀x∈C,x.1<n:=fun x hx=>Decidable.byContradiction fun h=>by
  have h1:=(hk x hx).2 x.1 aa
  grind
 refine aaA H fun x hx=>?_
 obtain⟨v,v1,v2,v3,v4⟩:=zF H x hx;obtain⟨os,o1,o2,o3,o4⟩:=WC H hn hx;have osr:∀c∈os,c∈List.range n:=fun c hc=>Yl.2 (o3 c hc)
 obtain⟨u1,u2,u3⟩:=ers os (List.range n) Wq o1 osr;have hxu:x.1∈os.foldl List.erase (List.range n):=(u3 _).2 ⟨Yl.2 (hn x hx),fun h=>((o4 _).1 h).2 rfl⟩
 have vz:∀c∈os,v c=0:=fun c hc=>by
  grind
 obtain ⟨y,y1,y2,y3,y4⟩:=slv _ _ rfl u1 A hA (m.map ve) (fun c=>if c=x.1 then 1 else 0) v (fun e he i _=>by
  obtain⟨r,hr,rfl⟩:=Zy.1 he;obtain⟨k,hk,rfl⟩:=Zd.1 hr;have e1:m[k]=nth [] m k:=by rw[nth,Z6,List.getElem?_eq_getElem hk];rfl
  rw[e1];exact hb k i) (fun e he=>by
  rw[OS Wq o1 osr vz,<-mj];exact((hs v).1 v1).1 e (Spn.mem he)) (by grind[Rp])
 rw[Rp hxu u1]at y2;have yz:∀c∈os,y c=0:=fun c hc=>y4 c fun h=>((u3 c).1 h).2 hc
 refine⟨y,(hs y).2 (afc (fun i hi=>?_) fun j hj=>y4 j fun h=>?_),y2,fun z hz hne=>yz z.1 ((o4 _).2 ⟨⟨z,hz,rfl⟩,hne⟩),?_⟩
 .rw[mj,<-OS Wq o1 osr yz]
  grind[nth.eq_1]
 .grind
 ·have e:(os.foldl List.erase (List.range n)).length=n+1-C.length:=by
   rw[Xf]at u2;omega
  grind
theorem KX(h:SpZ m v):∃X:Ve,∀c,v c=dtV m.length (fun k=>eZ m k c) X:=by
 have key:∀(l:List Ve),(∀g∈l,∃X:Ve,∀c,g c=dtV m.length (fun k=>eZ m k c) X)->∀ks,∃X:Ve,∀c,cmb ks l c=dtV m.length (fun k=>eZ m k c) X:=by
  intro l
  induction l with
  |nil=>intro _ ks;exact⟨fun _=>0,fun c=>by cases ks<;>exact(qm _ _).symm⟩
  | cons g l ih=>
   intro hg ks;cases ks with
   |nil=>exact⟨fun _=>0,fun c=>(qm _ _).symm⟩
   | cons k ks=>
    obtain⟨X,hX⟩:=hg g ae;obtain⟨Y,hY⟩:=ih (fun x hx=>hg x (by grind)) ks;refine⟨fun i=>k*X i+Y i,fun c=>?_⟩;rw[xg,uO,<-hX,<-hY];rfl
 obtain⟨ks,rfl⟩:=h;refine key _ (fun g hg=>?_) ks;obtain⟨r,hr,rfl⟩:=Zy.1 hg;obtain⟨i,hi,rfl⟩:=Zd.1 hr;have e1:m[i]=nth [] m i:=by rw[nth,Z6,List.getElem?_eq_getElem hi];rfl
 refine⟨fun j=>if j=i then 1 else 0,fun c=>?_⟩;rw[zX,if_pos hi,e1];rfl
theorem M6{m:Mz}(X:Ve):∀r,r<=m.length->SpZ m fun c=>dtV r (fun k=>eZ m k c) X
 |0,_=>Spn.zero _
 | r+1,hr=>by
  have h1:=(M6 (m:=m) X r aa).add ((gr (m:=m) (i:=r) aa).mul (X r))
  have e:(fun c=>dtV r (fun k=>eZ m k c) X+X r*ve (nth [] m r) c)=fun c=>dtV (r+1) (fun k=>eZ m k c) X:=funext fun c=>by
   show _+X r*eZ m r c=_+eZ m r c*X r
   grind
  rwa [e]at h1
theorem PH(H:Hnf o C)(h1:∀v,SpZ m v->Spn (vs C) v)(h2:∀v,Spn (vs C) v->∃D:Int,D≠0∧SpZ m fun i=>D*v i)(hA:1<=A)(hb:BdE A m):
  ∀x∈C,∀j,(x.2 j).natAbs<=C.length*(m.length*(A*slB m.length A)):=by
 refine aaA H fun x hx=>?_
 obtain⟨v,v1,v2,v3,v4⟩:=zF H x hx;obtain⟨D,d1,d2⟩:=h2 v v1;obtain⟨X,hX⟩:=KX d2
 obtain ⟨os,o1,o2,o3,o4⟩:=WC (n:=(C.map (·.1)).sum+1) H (fun y hy=>by
  have:∀(l:LnQ) a,a∈l->a<=l.sum:=by
   intro l
   induction l with
   |nil=>trivial
   | cons b l ih=>
    grind
  have:=this _ _ (Zy.2 ⟨y,hy,rfl⟩:y.1∈C.map (·.1));omega) hx
 have dz:∀c,D*v c=dU (List.range m.length) (fun k=>eZ m k c) X:=fun c=>by grind[mj]
 obtain ⟨y,y1,y2,y3,y4⟩:=slv m.length (List.range m.length) Xf Wq A hA (os.map fun c k=>eZ m k c) (fun k=>eZ m k x.1) X (fun e he i _=>by
  obtain⟨c,hc,rfl⟩:=Zy.1 he;exact hb i c) (fun e he=>by
  obtain⟨c,hc,rfl⟩:=Zy.1 he;obtain⟨⟨z,hz,rfl⟩,hne⟩:=(o4 c).1 hc
  grind) (by grind[Yf])
 refine⟨fun c=>dtV m.length (fun k=>eZ m k c) y,h1 _ (M6 y m.length (Z8 _)),?_,fun z hz hne=>?_,fun j=>?_⟩
 .grind[mj]
 .grind[mj]
 .show(dtV m.length (fun k=>eZ m k j) y).natAbs<=_
  rw[mj];rw[Xf]at y3;have:=aak (us:=List.range m.length) (e:=fun k=>eZ m k j) (x:=y) (fun i _=>hb i j) (fun i _=>y3 i)
  grind
theorem YH{n f:Nat}:∀{C:List (Nat×Ve)}{o:Nat},Hnf o C->(∀x∈C,x.1<n)->f<n->(∀x∈C,x.1≠f)->∃k:Ve,k f≠0∧(∀x∈C,dtV n x.2 k=0)∧∀j,j≠f->(∀x∈C,x.1≠j)->k j=0
 |[],o,H,hn,hf,hne=>⟨fun j=>if j=f then 1 else 0,ae,fun x hx=>absurd hx Yp,fun j hj _=>if_neg hj⟩
 | (l,h)::C,o,⟨⟨a,b,c⟩,d,r⟩,hn,hf,hne=>by
  obtain⟨k,k1,k2,k3⟩:=YH r (fun x hx=>hn x (by grind)) hf (fun x hx=>hne x (by grind));have hl:=hn (l,h) ae;have hlf:=hne (l,h) ae
  have dt:∀g:Ve,dtV n g (fun j=>h l*k j + -(dtV n h k)*(if j=l then 1 else 0))=h l*dtV n g k-dtV n h k*g l:=fun g=>by
   rw[xg,uO,uO,zX,if_pos hl,Int.neg_mul];omega
  refine⟨fun j=>h l*k j + -(dtV n h k)*(if j=l then 1 else 0),?_,fun x hx=>?_,fun j hj hx=>?_⟩
  .show h l*k f + -(dtV n h k)*(if f=l then 1 else 0)≠0
   rw[if_neg (fun e=>hlf e.symm),Wv,Wd];exact Yf aa k1
  .rw[dt];rcases Zx.1 hx with rfl|hx
   .grind
   .have:x.2 l=0:=re r (Spn.mem (Zy.2 ⟨x,hx,rfl⟩)) l aa
    grind
  .show h l*k j + -(dtV n h k)*(if j=l then 1 else 0)=0
   rw[if_neg (fun e=>hx (l,h) ae e.symm),k3 j hj (fun y hy=>hx y (by grind))];simp
theorem YF{S:Ve->Prop}(H:Hnf o C)(hn:∀x∈C,x.1<n)(hs:∀v,Spn (vs C) v↔S v)(hS:∀u,S u->∀j,n<=j->u j=0)(hu:Krn n (Krn n S) u):∃D:Int,D≠0∧S fun i=>D*u i:=by
 obtain⟨D,s,h1,h2,h3⟩:=JJ H u;have hsS:=(hs s).1 h2;have hsk:Krn n (Krn n S) s:=⟨fun w hw=>by rw[qn];exact hw.1 s hsS,hS s hsS⟩;have hd:Krn n (Krn n S) fun i=>D*u i + -1*s i:=(hu.mul D).add (hsk.mul (-1))
 have hz:∀f,D*u f + -1*s f=0:=fun f=>by
  by_cases hf:f<n
  .by_cases hl:∃x∈C,x.1=f
   .grind
   .obtain⟨k,k1,k2,k3⟩:=YH H hn hf (fun x hx e=>hl ⟨x,hx,e⟩)
    let k':Ve:=fun j=>if j<n then k j else 0
    have dk:∀g:Ve,dtV n g k'=dtV n g k:=fun g=>by
     grind[mj,FR]
    have hk:Krn n S k':=⟨fun w hw=>by
     grind[Dv,vs],fun j hj=>if_neg aa⟩
    have h4:=hd.1 k' hk
    have hval:dtV n k' (fun i=>D*u i + -1*s i)=k f*(D*u f + -1*s f):=by
     have hfr:f∈List.range n:=Yl.2 hf;rw[mj,qp hfr,Ab (us:=(List.range n).erase f)]
     .grind
     .intro t ht;obtain⟨t1,t2⟩:=Wq.mem_erase_iff.1 ht;by_cases hx:∃x∈C,x.1=t
      .obtain⟨x,hx,rfl⟩:=hx;have:=h3 x hx;rw[show D*u x.1 + -1*s x.1=0 by omega,Wv]
      grind
    grind[Int.mul_eq_zero]
  .have a1:=hu.2 f aa;have a2:=hS s hsS f aa
   grind
 refine⟨D,h1,?_⟩;have e:(fun i=>D*u i)=s:=funext fun i=>by grind
 grind
theorem Rx{B:Nat}:∀(r:Nat){f g c o:Nat}{m:Mz}{x:Nat×Mz},clZ B f r c o m=some x->f<=g->clZ B g r c o m=some x
 |0,f,g,c,o,m,x,h,_=>h
 | r+1,f,g,c,o,m,x,h,hg=>by
  have h2:oQ [] (fun r=>r) (fun _ r=>r) B f (r+1) c o m=some x:=h
  show oQ [] (fun r=>r) (fun _ r=>r) B g (r+1) c o m=some x
  simp only[oQ]at h2 ⊢;split at h2
  .rename_i ho;rw[if_pos ho];split at h2
   .rename_i o1 m1 hr;have hr2:kC [] (fun r=>r) (fun _ r=>r) B c g o m=some (o1,m1):=Jb f g hr hg;rw[hr2];exact Rx r h2 hg
   trivial
  grind
theorem xd{B g:Nat}{x:Nat×Mz}(h:ql B f c m=some x)(hg:f<=g):ql B g c m=some x:=Rx c h hg
theorem Fa{B g:Nat}(h:uG B f n m=some z)(hg:f<=g):uG B g n m=some z:=by grind[uG,xd,TP]
def shC(k:Nat)(m:List (Nat×Ve)):List (Nat×Ve):=(m.filter fun x=>decide (k<=x.1)).map fun x=>(x.1-k,fun j=>x.2 (k+j))
theorem YU(k:Nat):∀{m:List (Nat×Ve)}{o:Nat},Hnf o m->Hnf (o-k) (shC k m)
 |[],o,H=>trivial
 | (l,h)::m,o,⟨⟨a,b,c⟩,d,r⟩=>by
  have ih:=YU k r;by_cases hk:k<=l
  .have e:shC k ((l,h)::m)=(l-k,fun j=>h (k+j))::shC k m:=by simp[shC,List.filter_cons,hk]
   rw[e];refine⟨⟨aa,?_,fun j hj=>c _ aa⟩,fun x hx=>?_,?_⟩
   .show 0<h (k+(l-k))
    rw[show k+(l-k)=l by omega];exact b
   .obtain⟨y,hy,rfl⟩:=Zy.1 hx;obtain⟨hy,hky⟩:=Xv.1 hy;have hky:k<=y.1:=by simpa using hky
    show 0<=h (k+(y.1-k))∧h (k+(y.1-k))<y.2 (k+(y.1-k))
    rw[show k+(y.1-k)=y.1 by omega]
    grind
   .rw[show l+1-k=l-k+1 by omega]at ih;exact ih
  .have e:shC k ((l,h)::m)=shC k m:=by simp[shC,List.filter_cons,hk]
   rw[e];exact YT aa ih
theorem zr{L:Nat->Nat}{m:Mz}:∀{r i k:Nat},i<=k->k<i+r->(L k,ve (nth [] m k))∈ldZ L m r i
 |0,i,k,a,b=>by omega
 | r+1,i,k,a,b=>by
  by_cases e:k=i
  .grind[ldZ]
  .exact List.mem_cons_of_mem _ (zr aa aa)
theorem adm(H:Hm (m.length+n) (m.length+n) o L w)(e:SpE (km n m) w):
  ∃C,Hnf 0 C∧(∀v,Spn (vs C) v↔Krn n (SpZ m) v)∧∀r∈tj m.length (w.take o),∃x∈C,ve r=x.2:=by
 obtain⟨tl,H2,e2⟩:=zG H;have sp:∀u,SpZ (w.take o) u↔Wid n m u:=fun u=>(((e.trans e2) u).symm).trans (G2 u)
 have hh:=uK H2 o 0 0 aa (fun _=>Y4 _);refine⟨shC m.length (ldZ L (w.take o) o 0),by have:=YU m.length hh;grind,fun v=>?_,fun r hr=>?_⟩
 .constructor
  .refine fun h=>Krn.spn (fun g hg=>?_) h
   obtain⟨x',hx',rfl⟩:=Zy.1 hg;obtain⟨x,hx,rfl⟩:=Zy.1 hx';obtain⟨hx,hk⟩:=Xv.1 hx;have hk:m.length<=x.1:=by simpa using hk
   obtain⟨i,_,hi,rfl⟩:=uB hx;have hw:=(sp (ve (nth [] (w.take o) i))).1 (gr aa);refine⟨fun u hu=>?_,fun j hj=>hw.2 _ aa⟩;refine Dv (fun g hg=>?_) hu;obtain⟨r,hr,rfl⟩:=Zy.1 hg;obtain⟨k,hk2,rfl⟩:=Zd.1 hr;have e1:m[k]=nth [] m k:=by rw[nth,Z6,List.getElem?_eq_getElem hk2];rfl
   rw[e1,<-hw.1 k hk2];have hk:m.length<=L i:=hk;exact H2.low i aa k aa
  .intro h
   let u:Ve:=fun j=>if j<m.length then 0 else v (j-m.length)
   have hsh:(fun j=>u (m.length+j))=v:=funext fun j=>by
    grind
   have hw:Wid n m u:=by
    refine⟨fun i hi=>?_,fun j hj=>?_⟩
    .rw[hsh,h.1 _ (gr hi)]
     grind
    .show(if j<m.length then 0 else v (j-m.length))=0
     rw[if_neg aa];exact h.2 _ aa
   have h1:=(sp u).2 hw;rw[<-rj H2 (Z8 _)]at h1;have h2:=yq hh m.length h1 (fun j hj=>if_pos hj);have h3:=Hj m.length h2;rw[hsh]at h3
   have e3:(vs ((ldZ L (w.take o) o 0).filter fun x=>decide (m.length<=x.1))).map (fun g j=>g (m.length+j))=vs (shC m.length (ldZ L (w.take o) o 0)):=by
    simp[vs,shC,V5,Function.comp_def]
   grind
 .obtain⟨y,hy,rfl⟩:=Zy.1 hr;obtain⟨hy,hb⟩:=Xv.1 hy;obtain⟨i,hi,rfl⟩:=Zd.1 hy;have e1:(w.take o)[i]=nth [] (w.take o) i:=by rw[nth,Z6,List.getElem?_eq_getElem hi];rfl
  rw[e1]at hb ⊢;have hb:=((Kc _ _).1 hb).2
  have hk:m.length<=L i:=Decidable.byContradiction fun hn=>by
   have:=H2.pos i aa;have h0:=hb (L i) aa
   grind
  refine⟨_,Zy.2 ⟨(L i,ve (nth [] (w.take o) i)),Xv.2 ⟨zr aa aa,by grind⟩,rfl⟩,funext fun j=>Jh _ _ _⟩
theorem abd(hE:1<=E)(hb:BdE E m):BdE E (km n m):=fun i j=>by
 by_cases hi:i<n
 .have:=yH (m:=m) hi j;simp only[ve]at this;simp only[eZ,this];split
  .exact hb j i
  .split<;>simp<;>omega
 grind[nth.eq_1,tA]
theorem wg(h:m.length<=i)(j:Nat):eZ m i j=0:=by rw[eZ,show nth [] m i=[] by rw[nth,Z6,List.getElem?_eq_none h];rfl];rfl
theorem E9(hn:n<=4)(hE:E<=10^9)(hb:BdE (10^9) m)(hcan:∀C:List (Nat×Ve),Hnf 0 C->(∀v,Spn (vs C) v↔Krn n (SpZ m) v)->∀x∈C,∀j,(x.2 j).natAbs<=E):
  ∃f z,uG 100000 f n m=some z∧BdE E z:=by
 obtain⟨f0,h0⟩:=Bz (m.length+n) (IF n m) (by grind[tA]) (abd af hb);obtain⟨o,w,hw⟩:=h0 f0 (Z8 _);obtain⟨⟨L,H⟩,e,hlw⟩:=Dr (IF n m) hw;obtain⟨C,hC,hs,hr⟩:=adm H e
 have hbl:BdE (10^9) (tj m.length (w.take o)):=fun i j=>by
  by_cases hi:i<(tj m.length (w.take o)).length
  .obtain⟨x,hx,ex⟩:=hr (tj m.length (w.take o))[i] (Ze hi);have e1:(tj m.length (w.take o))[i]=nth [] (tj m.length (w.take o)) i:=by rw[nth,Z6,List.getElem?_eq_getElem hi];rfl
   rw[e1]at ex;have:=congrFun ex j
   grind[ve]
  .rw[wg aa];simp
 have hlen:(tj m.length (w.take o)).length<=4:=by
  have h1:(tj m.length (w.take o)).length<=(w.take o).length:=by
   simp only[tj,List.length_map];exact List.length_filter_le _ _
  have h2:(w.take o).length<=w.length:=by rw[Zo];omega
  rw[hlw,tA]at h2;omega
 have key:∃f z,uG 100000 f n m=some z:=by
  obtain⟨f1,h1⟩:=Bz n (RE (zG H).2.1.ln) hlen hbl;obtain⟨o1,w1,hw1⟩:=h1 (max f0 f1) aa;by_cases hz:tj m.length (w.take o)=[]
  .refine⟨f0,[],?_⟩;unfold uG;rw[hw]
   show(if tj m.length (w.take o)=[]then some []else _)=some []
   grind
  .refine⟨max f0 f1,w1.take o1,?_⟩;unfold uG;rw[xd hw (by omega:f0<=max f0 f1)]
   show (if tj m.length (w.take o)=[]then some []else match ql 100000 (max f0 f1) n (tj m.length (w.take o))with
    |some (o,w)=>some (w.take o)
    |none=>none)=_
   grind
 obtain⟨f,z,hz⟩:=key;obtain⟨⟨L2,H2⟩,s2⟩:=zy hz;refine⟨f,z,hz,fun i j=>?_⟩;by_cases hi:i<z.length
 .have:=hcan (ldZ L2 z z.length 0) (uK H2 z.length 0 0 aa (fun _=>Y4 _)) (fun v=>by grind[rj]) _ (zr aa (by omega:i<0+z.length)) j;exact this
 .rw[wg aa];simp
def HmF(n:Nat)(m:Mz):Prop:=∃L,Hm n n m.length L m
structure af6(n:Nat)(m g w c:Mz)(f:Nat):Prop where
 g0:∃o g',ql 100000 f n m=some (o,g')∧g'.take o=g
 gw:uG 100000 f n g=some w
 wc:uG 100000 f n w=some c
 cw:uG 100000 f n c=some w
 hg:HmF n g
 hw:HmF n w
 hc:HmF n c
 bg:BdE (10^9) g
 bw:BdE (10^9) w
 bc:BdE (10^6) c
 sw:w.length=2->BdE (10^6) w
theorem acp(hn:n<=4)(hm:m.length<=3)(hl:Ln n m)(hb:BdE 9 m):∃g w c f,af6 n m g w c f:=by
 -- the form of the rows
 obtain⟨f0,h0⟩:=Bz n hl aa (hb.mono af);obtain⟨o,g',hg'⟩:=h0 f0 (Z8 _);obtain⟨⟨Lg,Hg⟩,eg⟩:=Ib hl hg';obtain⟨g,rfl⟩:=nmQ (g'.take o)
 have out:∀u,SpZ m u->∀j,n<=j->u j=0:=fun u hu j hj=>by
  obtain⟨X,hX⟩:=KX hu;rw[hX j,show(fun k=>eZ m k j)=fun _=>0 from funext fun k=>Ua hl hj,qn];exact qm _ _
 have hC0:=uK Hg (g'.take o).length 0 0 aa (fun _=>Y4 _);have sC0:∀v,Spn (vs (ldZ Lg (g'.take o) (g'.take o).length 0)) v↔SpZ m v:=fun v=>by rw[rj Hg (Z8 _)];exact(eg v).symm
 have ltC0:∀x∈ldZ Lg (g'.take o) (g'.take o).length 0,x.1<n:=fun x hx=>by
  obtain⟨k,_,hk,rfl⟩:=uB hx;exact Hg.lt k aa
 have small:∀(C:List (Nat×Ve)),C.length<=4->C.length*(m.length*(9*slB m.length 9))<=10^6:=fun C hC=>by
  have h1:m.length*(9*slB m.length 9)<=78732:=by
   have:m.length=0∨m.length=1∨m.length=2∨m.length=3:=aa;rcases this with h|h|h|h<;>rw[h]<;>decide
  have:=Zp hC h1;omega
 have bg:BdE (10^9) (g'.take o):=fun i j=>by
  by_cases hi:i<(g'.take o).length
  .have h1:=PH hC0 (fun v hv=>(sC0 v).2 hv) (fun v hv=>⟨1,aa,by grind⟩) aa hb _ (zr aa (by omega:i<0+(g'.take o).length)) j;have h2:=small _ (Zz (w8 hC0 ltC0) hn);exact Zz h1 (Zz h2 af)
  .rw[wg aa];simp
 -- bounds of the kernels
 have can1:∀C:List (Nat×Ve),Hnf 0 C->(∀v,Spn (vs C) v↔Krn n (SpZ m) v)->∀x∈C,∀j,(x.2 j).natAbs<=10^9:=fun C hC hs x hx j=>by
  refine Zz (YG hC hs aa hb x hx j) ?_
  have hlt:∀x∈C,x.1<n:=fun x hx=>Decidable.byContradiction fun h=>by
   have h1:=((hs x.2).1 (Spn.mem (Zy.2 ⟨x,hx,rfl⟩))).2 x.1 aa
   have hp:∀{C:List (Nat×Ve)}{o:Nat},Hnf o C->∀x∈C,0<x.2 x.1:=by
    intro C
    induction C with
    |nil=>simp
    | cons y C ih=>
     intro o H x hx;obtain⟨l,h⟩:=y;rcases Zx.1 hx with rfl|hx
     .exact H.1.2.1
     .exact ih H.2.2 x hx
   grind
  have hcl:=w8 hC hlt;have hc0:0<C.length:=List.length_pos_of_mem hx;generalize C.length=t at *;have h1:n=0∨n=1∨n=2∨n=3∨n=4:=aa;have h2:t=1∨t=2∨t=3∨t=4:=aa
  rcases h1 with h|h|h|h|h<;>subst h<;>rcases h2 with h|h|h|h<;>subst h<;>first
   |decide
   |omega
 have can2:∀C:List (Nat×Ve),Hnf 0 C->(∀v,Spn (vs C) v↔Krn n (Krn n (SpZ m)) v)->∀x∈C,∀j,(x.2 j).natAbs<=10^6:=fun C hC hs x hx j=>by
  have hlt:∀x∈C,x.1<n:=fun x hx=>Decidable.byContradiction fun h=>by
   have h1:=((hs x.2).1 (Spn.mem (Zy.2 ⟨x,hx,rfl⟩))).2 x.1 aa;rcases qk hC (v:=x.2) (Spn.mem (Zy.2 ⟨x,hx,rfl⟩))with z|⟨y,hy,y1,y2,_⟩
   .have hr:=zF hC x hx;obtain⟨v,v1,v2,v3,v4⟩:=hr;exact v2 (((hs v).1 v1).2 x.1 aa)
   .obtain⟨v,v1,v2,v3,v4⟩:=zF hC x hx;exact v2 (((hs v).1 v1).2 x.1 aa)
  refine Zz (PH hC (fun v hv=>(hs v).2 ⟨fun u hu=>by rw[qn];exact hu.1 v hv,out v hv⟩) (fun v hv=>?_) aa hb x hx j) (small C (Zz (w8 hC hlt) hn));exact YF hC0 ltC0 sC0 out ((hs v).1 hv)
 have eK:∀{S T:Ve->Prop},(∀v,S v↔T v)->∀v,Krn n S v↔Krn n T v:=fun h v=>⟨E8 fun u hu=>(h u).2 hu,E8 fun u hu=>(h u).1 hu⟩
 -- the kernels
 obtain⟨f1,w,hw,bw⟩:=E9 hn (Z8 _) bg (fun C hC hs=>can1 C hC fun v=>(hs v).trans (eK (fun u=>(eg u).symm) v));obtain⟨Hw,sw⟩:=zy hw;have sw':∀v,SpZ w v↔Krn n (SpZ m) v:=fun v=>(sw v).trans (eK (fun u=>(eg u).symm) v)
 obtain⟨f2,c,hc,bc⟩:=E9 hn af bw (fun C hC hs=>can2 C hC fun v=>(hs v).trans (eK sw' v));obtain⟨Hc,sc⟩:=zy hc;have sc':∀v,SpZ c v↔Krn n (Krn n (SpZ m)) v:=fun v=>(sc v).trans (eK sw' v)
 have s3:∀v,Krn n (SpZ c) v↔Krn n (SpZ m) v:=fun v=>(eK sc' v).trans (S8 out v)
 obtain⟨f3,w2,hw2,_⟩:=E9 hn (Z8 _) (bc.mono af) (fun C hC hs=>can1 C hC fun v=>(hs v).trans (s3 v));obtain⟨⟨L2,H2⟩,sw2⟩:=zy hw2;obtain⟨Lw,Hw'⟩:=Hw;have ew:w2=w:=acA H2 Hw' fun v=>((sw2 v).trans (s3 v)).trans (sw' v).symm
 subst ew;refine⟨_,_,c,max (max f0 f1) (max f2 f3),⟨o,g',xd hg' aa,rfl⟩,Fa hw aa,Fa hc aa,Fa hw2 aa,⟨Lg,Hg⟩,⟨Lw,Hw'⟩,Hc,bg,bw,bc,fun h2 i j=>?_⟩;by_cases hi:i<w2.length
 .have h1:=YG (uK Hw' w2.length 0 0 aa (fun _=>Y4 _)) (fun v=>by rw[rj Hw' (Z8 _)];exact sw' v) aa hb _ (zr aa (by omega:i<0+w2.length)) j;rw[zq,h2]at h1;refine Zz h1 ?_;have h1:n=0∨n=1∨n=2∨n=3∨n=4:=aa;rcases h1 with h|h|h|h|h<;>rw[h]<;>decide
 .rw[wg aa];simp
open Go Go.Am Go.Big
def u6(n:Nat):D:=.int .u64 n
abbrev U(n:Int):V:=.d (.int .u64 n)
@[simp]theorem akD(n:Nat):V.d (u6 n)=U n:=id rfl
def pcs(n:Nat):V:=lst u6 (dig Z n)
theorem aeR(n:Nat):pcs n=lst u6 (dig Z n):=rfl
theorem E6(l:LnQ)(h:Hp)(hl:j<l.length):ld1 h (.dptr (l.map u6) j)=some (U (nth 0 l j:Nat)):=gn u6 0 l h hl
variable{h:Hp}{s e tot:Nat}{l:LnQ}{ex fr:Bool}
theorem CF(hg:h[s]?=some (e,.data 1 (l.map u6) ex fr))(ht:tot=l.length){len:Nat}{i:Int}(h0:0<=i)(h1:i<len)(k:IntKind):ixV h 1 (.ref s e 0 len cap tot) (.d (.int k i))=some (.ptr s e i.toNat tot):=by simp only[ixV,d9 hg];rw[if_pos ⟨by simp[ht],h0,h1⟩];simp
theorem JF(hg:h[s]?=some (e,.data 1 (l.map u6) ex fr))(ht:tot=l.length)(hj:j<l.length):ld1 h (.ptr s e j tot)=some (U (nth 0 l j:Nat)):=by
 have e1:tot=(l.map u6).length:=by simp[ht]
 simp only[ld1,d9 hg,if_pos e1,List.getElem?_map,List.getElem?_eq_getElem hj,Option.map_some,cF 0 l j hj];rfl
theorem Sj(hg:h[s]?=some (e,.data 1 (l.map u6) ex false))(ht:tot=l.length)(hj:j<l.length)(x:Nat):st h 1 (.ptr s e j tot) (U x)=some (h.set s (e,.data 1 ((l.set j x).map u6) ex false)):=by
 have e1:(l.map u6).take j++[u6 x]++(l.map u6).drop (j+1)=(l.set j x).map u6:=by
  rw[Wy,Yr,if_pos aF];simp
 simp only[st,if_true,sto,d9 hg,jj,toD];rw[if_pos ⟨trivial,by simp[ht],aF⟩];simp only[bL,List.length_singleton];rw[<-e1];rfl
theorem ajr(hg:h[s]?=some (e,.data 1 (l.map u6) ex fr))(ht:tot=l.length){len:Nat}{i:Int}(h0:0<=i)(h1:i<=cap)(hlc:len<=cap):slV h 1 (.ref s e 0 len cap tot) none (some (I i))=some (.ref s e 0 i.toNat cap tot):=by simp only[slV,d9 hg,boV];rw[if_pos ⟨aa,h1⟩];simp[ht,hlc]
theorem vS(hg:h[s]?=some (e,.data 1 (l.map u6) ex fr))(ht:tot=l.length){len:Nat}(h1:len<=cap)(hc:cap<=tot):aD h (.ref s e 0 len cap tot)=some (lst u6 (l.take len),h.set s (e,.data 1 (l.map u6) ex true)):=by simp only[aD,toD,d9 hg];rw[if_pos ⟨by simp[ht],h1,aF⟩];simp[lst,List.map_take,bL];omega
theorem G6{h:Hp}{s e cap tot:Nat}{l:LnQ}{ex fr:Bool}(hg:h[s]?=some (e,.data 1 (l.map u6) ex fr))(ht:tot=l.length)(hc:cap<=tot)(hb:cap<1000000000000)(k:KL)(h0:Hp)(hh:h0.length=h.length):∀len,len<=cap->k (.exit 0) [.ref s e 0 (iI (l.take len)).length cap tot] h->lp (bO (CX Y) h.length) [] h0 [.ref s e 0 len cap tot] h k
 | 0,hl,hk=>by
  refine ak ?_;simp[bO];simpa[iI]using hk
 | len+1,hl,hk=>by
  have e1:=CF hg ht (len:=len+1) (cap:=cap) (i:=(len:Int)) aa aa .i64;have e2:=JF hg ht (j:=len) aa;have e3:=ajr hg ht (len:=len+1) (cap:=cap) (i:=(len:Int)) aa aa aa;have e4:l.take (len+1)=l.take len++[nth 0 l len]:=by rw[cF 0 l len aa,List.take_append_getElem]
  rw[Int.toNat_natCast]at e1 e3;refine ak ?_;by_cases h2:nth 0 l len=0
  .rw[e4,h2,qu]at hk;have ih:=G6 hg ht hc hb k h0 hh len aa hk;simp(disch:=try exact ac)[bO,e1,e2,e3,h2,hh];exact ih
  .rw[e4,xO h2]at hk;have e5:(l.take len++[nth 0 l len]).length=len+1:=by simp;omega
   rw[e5]at hk;simp(disch:=try exact ac)[bO,e1,e2,e3,h2];exact hk
theorem tG{h:Hp}(hu:(h.all fun x=>aB h.length x.2)=true){s e len tot:Nat}{l:LnQ}{ex fr:Bool}(hg:h[s]?=some (e,.data 1 (l.map u6) ex fr))(ht:tot=l.length)(hc:cap<=tot)(hb:cap<1000000000000)(hl:len<=cap):
  CI Y F.aA [.ref s e 0 len cap tot] h (.ref s e 0 (iI (l.take len)).length cap tot) h:=by refine pC ?_;simp[aA];refine lo (G6 hg ht hc hb _ _ rfl len hl ?_);simp;have hs:=aX hg;refine⟨ae,by simpa using hu,.inl ⟨rfl,?_⟩⟩;simp[under,hs]
theorem R2{h:Hp}{l0:LnQ}(k:KL)(h0:Hp)(hh:h0.length=h.length):∀l:LnQ,l.length<1000000000000->k (.exit 0) [lst u6 (iI l)] h->lp (bO (CX Y) h.length) [] h0 [lst u6 l] h k:=by
 intro l hb hk
 induction hn:l.length generalizing l with
 | zero=>
  have:l=[]:=Zn hn;subst this;refine ak ?_;simp[bO];exact hk
 | succ n ih=>
  obtain⟨l,x,rfl⟩:∃l' x,l=l'++[x]:=⟨l.dropLast,l.getLast (by intro e;simp[e]at hn),(List.dropLast_concat_getLast _).symm⟩;have hl:l.length=n:=by simpa using hn
  have e1:=fun h:Hp=>nQ u6 (l++[x]) h (k:=.i64) (i:=(l.length:Int)) aa aF
  have e2:=fun h:Hp=>E6 (l++[x]) h (j:=l.length) ae
  have e3:=fun h:Hp=>agO u6 (l++[x]) h (i:=(l.length:Int)) aa aF ae
  have e4:nth 0 (l++[x]) l.length=x:=ae;simp only[Int.toNat_natCast,Wi]at e1 e3;rw[e4]at e2;have e5:((l++[x]).length:Int)=(l.length:Int)+1:=ae;have e6:aY (lst u6 (l++[x]))=some (I ((l.length:Int)+1)):=by rw[<-e5];rfl
  have hb2:l.length<1000000000000:=by simp at hb;omega
  refine ak ?_;by_cases hx:x=0
  .subst hx;rw[qu]at hk;simp(disch:=try exact ac)[bO,e1,e2,e3,e6,hh];exact ih l hb2 hk hl
  .rw[xO hx]at hk;simp(disch:=try exact ac)[bO,e1,e2,e3,e6,hx];exact hk
theorem abj{h:Hp}(hu:(h.all fun x=>aB h.length x.2)=true){l:LnQ}(hb:l.length<1000000000000):CI Y F.aA [lst u6 l] h (lst u6 (iI l)) h:=by refine pC ?_;simp[aA];refine lo (R2 (l0:=l) _ _ rfl l hb ?_);simp;refine⟨ae,by simpa using hu,.inl ⟨rfl,rfl⟩⟩
def RdP(h:Hp)(a:V)(l:LnQ):Prop:=aY a=some (I l.length)∧∀(t:Hp)(i:Nat),i<l.length->∃p,ixV (h++t) 1 a (I i)=some p∧ld1 (h++t) p=some (U (nth 0 l i:Nat))
theorem RP(h:Hp)(l:LnQ):RdP h (lst u6 l) l:=by refine⟨rfl,fun t i hi=>⟨.dptr (l.map u6) i,?_,E6 l _ hi⟩⟩;have:=nQ u6 l (h++t) (k:=.i64) (i:=(i:Int)) aa aa;trivial
theorem EN{l:LnQ}(h:i<n):nth 0 (l.take n) i=nth 0 l i:=by grind[nth]
theorem DJ{h:Hp}{s e len tot:Nat}{l:LnQ}{ex fr:Bool}(hg:h[s]?=some (e,.data 1 (l.map u6) ex fr))(ht:tot=l.length)(hl:len<=tot):RdP h (.ref s e 0 len cap tot) (l.take len):=by
 have e1:(l.take len).length=len:=by simp;omega
 refine⟨by simp_all,fun t i hi=>⟨.ptr s e i tot,?_,?_⟩⟩
 .have hs:=aX hg;have:=CF (h:=h++t) (by rw[List.getElem?_append_left hs];exact hg) ht (len:=len) (cap:=cap) (i:=(i:Int)) aa aa .i64;trivial
 .have hs:=aX hg;rw[EN aa];exact JF (h:=h++t) (by rw[List.getElem?_append_left hs];exact hg) ht aa
def pH(h:Hp)(o:LnQ):Hp:=h++[(1,.data 1 (o.map u6) true false),nnQ]
theorem AW(h:Hp)(o:LnQ):(pH h o)[h.length]?=some (1,.data 1 (o.map u6) true false):=by simp[pH]
theorem VY(h:Hp)(o o':LnQ):(pH h o).set h.length (1,.data 1 (o'.map u6) true false)=pH h o':=by simp[pH]
@[simp]theorem VZ(h:Hp)(o:LnQ):(pH h o).length=h.length+2:=by simp[pH]
theorem aaI{s:Nat}(hbc:b<=c)(h:Nat.blt s b=true):Nat.blt s c=true:=by grind[Wu]
mutual
theorem KF{b c:Nat}(hbc:b<=c):∀v:V,under b v=true->under c v=true
 |.ref s ..,h=>aaI hbc h
 |.ptr s ..,h=>aaI hbc h
 |.agg l,h=>rE hbc l h
 |.tup l,h=>rE hbc l h
 | .fn _ x y,h=>by
  simp only[under,Z7]at h ⊢;exact⟨rE hbc x h.1,rE hbc y h.2⟩
 |.ifc _ x,h=>KF hbc x h
 |.new ..,h=>by cases h
 |.junk,_=>rfl
 |.d _,_=>rfl
 |.dptr ..,_=>rfl
 |.cut _,h=>by cases h
theorem rE{b c:Nat}(hbc:b<=c):∀l:LwQ,ji b l=true->ji c l=true
 |[],_=>rfl
 | x::l,h=>by
  simp only[ji,Z7]at h ⊢;exact⟨KF hbc x h.1,rE hbc l h.2⟩
end
theorem Ay(hbc:b<=c){x:Bk}(h:aB b x=true):aB c x=true:=by
 cases x with
 |vars l=>exact rE hbc l h
 |none=>rfl
 |data n cs ex fr=>rfl
theorem Pe(hbc:b<=c){h:Hp}(hu:(h.all fun x=>aB b x.2)=true):(h.all fun x=>aB c x.2)=true:=by grind[Ay]
variable{h:Hp}{t0 t1:V}{da db:LnQ}
theorem R5(hb:RdP h t1 db)(hsb:aH Z db){x:Nat}(hx:x<Z)(hN:i+db.length<N)(hNb:N<1000000000000)(k:KL)(h0:Hp)(hh:h0.length=h.length+2)(T:Nat)(o0:LnQ):
  ∀(r c j:Nat)(o:LnQ),j+r=db.length->c<Z->o.length=N->aH Z o->val Z o+Z^(i+j)*(c+x*val Z (db.drop j))=T->(∀m,i+db.length<=m->nth 0 o m=nth 0 o0 m) ->
  (∀c' o',c'<Z->o'.length=N->aH Z o'->val Z o'+Z^(i+db.length)*c'=T->(∀m,i+db.length<=m->nth 0 o' m=nth 0 o0 m)->k (.exit 2) [U (c':Nat)] (pH h o')) ->
  lp (ir (CX Y) h.length (.ref h.length 1 0 N N N) (I i) (U x) t1 (I db.length)) [] h0 [U c,I j] (pH h o) k:=by
 intro r
 induction r with
 | zero=>
  intro c j o hj hc ho hs hv hf hk;have hjl:j=db.length:=aa;subst hjl;have hd:db.drop db.length=[]:=List.drop_length;rw[hd]at hv;simp only[val,Nat.mul_zero,Nat.add_zero]at hv;refine ak ?_;simp[ir]
  grind
 | succ r ih=>
  intro c j o hj hc ho hs hv hf hk;have hjl:j<db.length:=aa;obtain⟨m,hm⟩:=nmQ (i+j);rw[<-hm]at hv;have hij:m<o.length:=aa;obtain⟨y,hy2⟩:=mnQ (db.getD j 0);have hy:=hsb.getD bC j;have hw:=hs.getD bC m;have hst:=WZ (B:=Z) (o:=o) (j:=m) (c:=c) (a:=x) (y:=db.getD j 0) (v:=val Z (db.drop (j+1))) hij;rw[<-qa,hv]at hst;rw[hy2]at hy hst
  obtain⟨p,hp⟩:=nmQ (x*y);have hxy:p<=999999999*999999999:=by rw[hp];exact Zp (by grind[Z]) (by grind[Z])
  have hpi:(x:Int)*(y:Int)=(p:Int):=by rw[hp];simp
  rw[<-hp]at hst;have e1:((i:Int)+(j:Int))=(m:Int):=aa;have hZ:Z=1000000000:=rfl;obtain⟨w,hwd⟩:=mnQ (o.getD m 0);rw[hwd]at hst hw;obtain⟨pb,r1,r2⟩:=hb.2 [(1,.data 1 (o.map u6) true false),nnQ] j hjl;rw[show nth 0 db j=y from hy2]at r2;have r3:=CF (AW h o) ho.symm (len:=N) (cap:=N) (i:=(m:Int)) aa aa .i64;have r4:=JF (AW h o) ho.symm hij
  have r5:=Sj (AW h o) ho.symm hij ((c+w+p)%Z);rw[show nth 0 o m=w from hwd]at r4;rw[Int.toNat_natCast]at r3;rw[VY]at r5
  change ixV (pH h o) 1 t1 (I j)=some pb at r1
  change ld1 (pH h o) pb=_ at r2
  have ih2:=ih ((c+w+p)/Z) (j+1) (o.set m ((c+w+p)%Z)) aa (by grind) (by grind) (hs.set (Yu _ bC)) (by rw[show i+(j+1)=m+1 by omega];omega)
   (fun n hn=>by rw[<-hf n hn];simp[nth,List.getElem?_set_ne (show m≠n by omega)]) hk
  clear hst hk ih hv;obtain⟨t,ht⟩:=mnQ (c+w+p);have ht2:t<1000000000000000000+2000000000:=by simp only[hZ]at *;omega
  rw[ht]at ih2 r5;obtain⟨tm,htm⟩:=mnQ (t%Z);obtain⟨td,htd⟩:=mnQ (t/Z);rw[htm]at ih2 r5;rw[htd]at ih2;have e2:(c:Int)+((w:Int)+(p:Int))=(t:Int):=aa;have e3:((t:Int)%1000000000)=(tm:Int):=by simp only[hZ]at htm;omega
  have e4:((t:Int)/1000000000)=(td:Int):=by simp only[hZ]at htd;omega
  refine ak ?_;simp(disch:=try exact ac)[ir,r1,r2,r3,r4,e1,hpi,e2,Zt,Zs,e3,e4,r5];trivial
theorem NM(ha:RdP h t0 da)(hsa:aH Z da)(hb:RdP h t1 db)(hsb:aH Z db)(hla:da.length<100000000)(hlb:db.length<100000000)(k:KL)(h0:Hp)(hh:h0.length=h.length+2)(hN:N=da.length+db.length):
  ∀(r i:Nat)(o:LnQ),i+r=da.length->o.length=N->aH Z o->val Z o=val Z (da.take i)*val Z db->(∀m,i+db.length<=m->nth 0 o m=0) ->
  (∀o',o'.length=N->aH Z o'->val Z o'=val Z da*val Z db->k (.exit 0) [] (pH h o')) ->
  lp (iu (CX Y) h.length t1 (.ref h.length 1 0 N N N) t0 (I da.length)) [] h0 [I i] (pH h o) k:=by
 intro r
 induction r with
 | zero=>
  intro i o hi ho hs hv hf hk;refine ak ?_;have g:¬i<da.length:=aa;simp[iu,g];rw[show i=da.length by omega,Xa]at hv
  grind
 | succ r ih=>
  intro i o hi ho hs hv hf hk;have hil:i<da.length:=aa;obtain⟨pa,r1,r2⟩:=ha.2 [(1,.data 1 (o.map u6) true false),nnQ] i hil;obtain⟨x,hx⟩:=mnQ (nth 0 da i);have hxs:x<Z:=by rw[<-hx];exact hsa.getD bC i
  rw[hx]at r2
  change ixV (pH h o) 1 t0 (I i)=some pa at r1
  change ld1 (pH h o) pa=_ at r2
  have hl:=hb.1;refine ak ?_;simp(disch:=try exact ac)[iu,r1,r2,hl];refine lo (R5 hb hsb hxs aa aa _ _ (VZ h o) (val Z o+Z^i*(x*val Z db)) o db.length 0 0 o aa bC ho hs ae (fun _ _=>rfl) fun c' o' hc' ho' hs' hv' hf'=>?_);simp only[kR];obtain⟨m,hm⟩:=nmQ (i+db.length)
  have hml:m<o'.length:=aa;have r3:=CF (AW h o') ho'.symm (len:=N) (cap:=N) (i:=(m:Int)) aa aa .i64;have r5:=Sj (AW h o') ho'.symm hml c';rw[Int.toNat_natCast]at r3;rw[VY]at r5;have e1:((i:Int)+(db.length:Int))=(m:Int):=aa;have e0:nth 0 o' m=0:=by rw[hf' m aa,hf m aa]
  have hvs:=wR (B:=Z) o' m c' hml;rw[show o'.getD m 0=0 from e0]at hvs
  have ih2:=ih (i+1) (o'.set m c') aa (by grind) (hs'.set hc') (by
   rw[xG da hil,show da.getD i 0=x from hx,Nat.add_mul,<-hv]
   grind) (fun n hn=>by
   simp only[nth,Z6,List.getElem?_set_ne (show m≠n by omega)];have:=hf' n aa;rw[hf n aa]at this;exact this) hk
  clear hvs hv' ih hk;simp(disch:=try exact ac)[hl,e1,r3,r5];trivial
theorem AA(hu:(h.all fun x=>aB h.length x.2)=true)(ha:RdP h t0 da)(hsa:aH Z da)(hb:RdP h t1 db)(hsb:aH Z db)(hla:da.length<100000000)(hlb:db.length<100000000)(hN:N=da.length+db.length):
  CI Y F.bz [t0,t1] h (.new 1 ((bq N (val Z da*val Z db)).map u6) true (dig Z (val Z da*val Z db)).length N) h:=by
 refine uR ?_;have l0:=ha.1;have l1:=hb.1;have e1:((da.length:Int)+(db.length:Int))=(N:Int):=aa;simp(disch:=try exact ac)[bz,l0,l1,e1]
 have e2:h++[(1,Bk.data 1 (List.replicate N (D.int IntKind.u64 0)) true false),nnQ]=pH h (List.replicate N 0):=by
  simp[pH,u6]
 have e3:(h++[(0,Bk.none),(0,Bk.none)]).set h.length (1,Bk.data 1 (List.replicate N (D.int IntKind.u64 0)) true false)=pH h (List.replicate N 0):=by
  simp[pH,u6]
 try simp only[e3]
 try rw[e2]
 refine lo (NM ha hsa hb hsb hla hlb _ _ (VZ ..) hN da.length 0 (List.replicate N 0) aa ae (fun x hx=>by grind[bC]) (by simp[Ax,val]) (fun m _=>by
  grind[nth]) fun o ho hs hv=>?_)
 simp only[kR];have ht:iI (o.take N)=dig Z (val Z da*val Z db):=by rw[Zw aa,<-hv,rr ay hs]
 have hu2:((pH h o).all fun x=>aB (pH h o).length x.2)=true:=by
  have hm:(h.all fun x=>aB (pH h o).length x.2)=true:=Pe ae hu;rw[pH,Yw,<-pH,hm];rfl
 have tr:=tG hu2 (AW h o) ho.symm (len:=N) (cap:=N) (Z8 _) aa (Z8 _);rw[ht]at tr;refine gL tr ?_ ae;have hol:o=bq N (val Z da*val Z db):=by rw[<-hv,<-ho];exact Dt o hs
 rw[<-hol];refine⟨by simp[pH],aa,.inr (.inr (.inl ⟨h.length,1,_,N,1,o.map u6,true,by grind,Z8 _,by simp[ax,pH],rfl⟩))⟩
def trimS(n:Nat):LnQ:=if n=0 then[]else[n]
theorem Uh(n:Nat):iI [n]=trimS n:=by rfl
theorem RZ(n:Nat):val Z (trimS n)=n:=by grind[trimS,val]
theorem KI(h:n<Z):aH Z (trimS n):=by
 unfold trimS;split
 .exact fun x hx=>by cases hx
 .exact fun x hx=>by grind
theorem Em(hu:(h.all fun x=>aB h.length x.2)=true)(hf:f<Z)(hf0:0<f)(ha:RdP (h++[nnQ,nnQ]) t0 da)(hsa:aH Z da)(hla:da.length<100000000)(hN:N=da.length+1):
  CI Y F.cg [t0,U f] h (.new 1 ((bq N (val Z da*f)).map u6) true (dig Z (val Z da*f)).length N) h:=by
 refine tV ?_
 have hli:∀h:Hp,eV 1 [D.int .u64 0] [(0,U f)] h=some ([u6 f],h):=fun h=>by
  rfl
 have hu2:((h++[(0,Bk.none),nnQ]).all fun x=>aB (h++[(0,Bk.none),nnQ]).length x.2)=true:=by
  rw[Yw,Pe ae hu];rfl
 simp[cg,hli];have t1:=abj hu2 (l:=[f]) ae;rw[Uh]at t1;refine gL (args:=[lst u6 [f]]) t1 ?_ (by simp[lst]) (by simp[lst]);have hfl:(trimS f).length=1:=by simp[trimS,show f≠0 by omega]
 have t2:=AA hu2 ha hsa (RP _ (trimS f)) (KI hf) hla aa (N:=N) aa;rw[RZ]at t2;simp;refine gv (e:=0) (b:=.none) t2 ae ?_;refine⟨ae,aa,.inr (.inr (.inl ⟨h.length+1,1,_,N,1,(bq N (val Z da*f)).map u6,true,by rfl,aa,by simp[ax],rfl⟩))⟩
def sP(h:Hp)(s e:Nat)(ex:Bool)(l:LnQ):Hp:=h.set s (e,.data 1 (l.map u6) ex false)
theorem rV{h:Hp}{s e:Nat}{ex:Bool}{l:LnQ}(hs:s<h.length):(sP h s e ex l)[s]?=some (e,.data 1 (l.map u6) ex false):=by simp[sP,hs]
theorem UX{h:Hp}{s e:Nat}{ex:Bool}{l:LnQ}:(sP h s e ex l).set s (e,.data 1 (l'.map u6) ex false)=sP h s e ex l':=by simp[sP]
@[simp]theorem aju{h:Hp}{s e:Nat}{ex:Bool}{l:LnQ}:(sP h s e ex l).length=h.length:=by simp[sP]
theorem AM{h:Hp}{s e:Nat}{ex:Bool}{l:LnQ}(hu:(h.all fun x=>aB b x.2)=true):((sP h s e ex l).all fun x=>aB b x.2)=true:=by
 rw[Z2]at hu ⊢;intro x hx;rcases Yv hx with h1|h1
 .grind
 .rw[h1];rfl
def RdS(P:Hp->Prop)(a:V)(l:LnQ):Prop:=aY a=some (I l.length)∧∀(t:Hp)(i:Nat),P t->i<l.length->∃p,ixV t 1 a (I i)=some p∧ld1 t p=some (U (nth 0 l i:Nat))
def iV(g at_:Nat)(db:LnQ):Nat->Nat->Nat->Nat->LnQ->Nat×LnQ
 |0,_,_,w,l=>(w,l)
 | r+1,k,c,w,l=>
  if nth 0 l (at_+k)<(c+g*nth 0 db k)%Z+w then iV g at_ db r (k+1) ((c+g*nth 0 db k)/Z) 1 (l.set (at_+k) (nth 0 l (at_+k)+Z-((c+g*nth 0 db k)%Z+w)))
  else iV g at_ db r (k+1) ((c+g*nth 0 db k)/Z) 0 (l.set (at_+k) (nth 0 l (at_+k)-((c+g*nth 0 db k)%Z+w)))
variable{h:Hp}{s e tot at_ g:Nat}{ex:Bool}{t1:V}{db:LnQ}
theorem Sb(hs:s<h.length)(hb:RdS (fun t=>∃l,t=sP h s e ex l) t1 db)(hsb:aH Z db)(hg:g<Z)(hat:at_+db.length<tot)(ht:tot<1000000000000){len:Nat}(hlen:tot=len)(k:KL)(h0:Hp)(hh:h0.length=h.length):
  ∀(r j c w:Nat)(l:LnQ),j+r=db.length+1->c<Z->w<=1->l.length=tot->aH Z l ->
  k (.exit 0) [I ((iV g at_ db r j c w l).1:Nat)] (sP h s e ex (iV g at_ db r j c w l).2) ->
  lp (fM (CX Y) h.length (.ref s e 0 len cap tot) t1 (U g) (I at_)) [] h0 [U c,I w,I j] (sP h s e ex l) k:=by
 intro r
 induction r with
 | zero=>
  intro j c w l hj hc hw hl hsl hk;refine ak ?_;have g1:¬j<=db.length:=aa;have hl1:=hb.1;simp[fM,hl1,g1];exact hk
 | succ r ih=>
  intro j c w l hj hc hw hl hsl hk;have hjl:j<=db.length:=aa;obtain⟨m,hm⟩:=nmQ (at_+j);have hml:m<l.length:=aa;obtain⟨y,hy⟩:=mnQ (nth 0 db j);have hys:y<Z:=by rw[<-hy];exact hsb.getD bC j
  obtain⟨x,hx⟩:=mnQ (nth 0 l m);have hxs:x<Z:=by rw[<-hx];exact hsl.getD bC m
  obtain⟨p,hp⟩:=nmQ (g*y);have hxy:p<=999999999*999999999:=by rw[hp];exact Zp (by grind[Z]) (by grind[Z])
  have hpi:(g:Int)*(y:Int)=(p:Int):=by rw[hp];simp
  have e1:((at_:Int)+(j:Int))=(m:Int):=aa;have hZ:Z=1000000000:=rfl;have hl1:=hb.1;have r3:=CF (rV (e:=e) (ex:=ex) (l:=l) hs) hl.symm (len:=len) (cap:=cap) (i:=(m:Int)) aa aa .i64;have r4:=JF (rV (e:=e) (ex:=ex) (l:=l) hs) hl.symm hml;have r5:=Sj (rV (e:=e) (ex:=ex) (l:=l) hs) hl.symm hml;simp only[UX]at r5;rw[hx]at r4;rw[Int.toNat_natCast]at r3
  rw[iV,hy,<-hp,<-hm,hx]at hk;have hsm:(∀v,v<Z->aH Z (l.set m v)):=fun v hv=>hsl.set hv
  obtain⟨t,ht1⟩:=mnQ (c+p);rw[ht1]at hk;obtain⟨tm,htm⟩:=mnQ (t%Z);obtain⟨td,htd⟩:=mnQ (t/Z);rw[htm,htd]at hk;have ht2:t<1000000000000000000:=by simp only[hZ]at *;omega
  have htdZ:td<Z:=by simp only[hZ]at *;omega
  have htmZ:tm<Z:=by simp only[hZ]at *;omega
  have e3:((t:Int)%1000000000)=(tm:Int):=by simp only[hZ]at htm;omega
  have e4:((t:Int)/1000000000)=(td:Int):=by simp only[hZ]at htd;omega
  have main:∀(v:Nat)(w':Nat),v<Z->w'<=1->k (.exit 0) [I ((iV g at_ db r (j+1) td w' (l.set m v)).1:Nat)] (sP h s e ex (iV g at_ db r (j+1) td w' (l.set m v)).2) ->
    lp (fM (CX Y) h.length (.ref s e 0 len cap tot) t1 (U g) (I at_)) [] h0 [U td,I w',I (j+1:Nat)] (sP h s e ex (l.set m v)) k:=fun v w' hv hw' hk'=>
   ih (j+1) td w' (l.set m v) aa htdZ hw' (by grind) (hsm v hv) hk'
  clear ih;have e2:(c:Int)+(p:Int)=(t:Int):=aa;refine ak ?_;simp[fM,hl1,hjl];refine gM (l:=[U t]) (h:=sP h s e ex l) (fun q=>?_) ?_
  .by_cases g2:j<db.length
   .obtain⟨pb,q1,q2⟩:=hb.2 (sP h s e ex l) j ⟨l,rfl⟩ g2;rw[hy]at q2;simp(disch:=try exact ac)[g2,q1,q2,hpi,e2]
   .have hy0:nth 0 db j=0:=by simp[nth,List.getElem?_eq_none (show db.length<=j by omega)]
    rw[hy]at hy0;subst hy0;simp only[Nat.mul_zero]at hp;subst hp;obtain rfl:c=t:=aa;simp[g2]
  .simp(disch:=try exact ac)[e1,r3,r4,Zt,Zs,e3,e4];by_cases hxt:x<tm+w
   .rw[if_pos hxt]at hk;obtain⟨v,hv⟩:=mnQ (x+Z-(tm+w));rw[hv]at hk;have hvZ:v<Z:=aa;have e5:(x:Int)-tm-w<0:=aa;have e6:(x:Int)-tm-w+1000000000=v:=by simp only[hZ]at hv;omega
    have r6:=r5 v;refine gM (l:=[I v,I (1:Nat)]) (h:=sP h s e ex l) (fun q=>?_) ?_
    .simp(disch:=try exact ac)[e5,e6]
    .simp(disch:=try exact ac)[e1,r3,r6];simpa using main v 1 hvZ (Z8 _) hk
   .rw[if_neg hxt]at hk;obtain⟨v,hv⟩:=mnQ (x-(tm+w));rw[hv]at hk;have hvZ:v<Z:=aa;have e5:¬((x:Int)-tm-w<0):=aa;have e6:(x:Int)-tm-w=v:=aa;have r6:=r5 v;refine gM (l:=[I v,I (0:Nat)]) (h:=sP h s e ex l) (fun q=>?_) ?_
    .rw[e6]at e5 ⊢;simp[e5]
    .simp(disch:=try exact ac)[e1,r3,r6];simpa using main v 0 hvZ (Y4 _) hk
theorem KT(hu:(h.all fun x=>aB h.length x.2)=true)(hs:s<h.length)(hb:RdS (fun t=>∃l,t=sP h s e ex l) t1 db)(hsb:aH Z db)(hg:g<Z)(hat:at_+db.length<tot)(ht:tot<1000000000000){l:LnQ}(hl:l.length=tot)(hsl:aH Z l):
  CI Y F.dJ [.ref s e 0 tot tot tot,t1,U g,I at_] (sP h s e ex l) (B (decide (0<(iV g at_ db (db.length+1) 0 0 0 l).1))) (sP h s e ex (iV g at_ db (db.length+1) 0 0 0 l).2):=by refine vy ?_;simp[dJ];refine lo (Sb hs hb hsb hg hat ht rfl _ _ ae (db.length+1) 0 0 0 l aa bC (Y4 _) hl hsl ?_);simp;refine⟨(Zw ae).symm,?_,.inl ⟨rfl,rfl⟩⟩;exact AM hu
def qJ(at_:Nat)(db:LnQ):Nat->Nat->Nat->LnQ->LnQ
 |0,_,_,l=>l
 |r+1,k,c,l=>qJ at_ db r (k+1) ((c+nth 0 l (at_+k)+nth 0 db k)/Z) (l.set (at_+k) ((c+nth 0 l (at_+k)+nth 0 db k)%Z))
theorem TQ(hs:s<h.length)(hb:RdS (fun t=>∃l,t=sP h s e ex l) t1 db)(hsb:aH Z db)(hat:at_+db.length<tot)(ht:tot<1000000000000){len:Nat}(hlen:tot=len)(k:KL)(h0:Hp)(hh:h0.length=h.length):
  ∀(r j c:Nat)(l:LnQ),j+r=db.length+1->c<Z->l.length=tot->aH Z l ->
  k (.exit 0) [] (sP h s e ex (qJ at_ db r j c l)) ->
  lp (iS (CX Y) h.length (.ref s e 0 len cap tot) t1 (I at_)) [] h0 [U c,I j] (sP h s e ex l) k:=by
 intro r
 induction r with
 | zero=>
  intro j c l hj hc hl hsl hk;refine ak ?_;have g1:¬j<=db.length:=aa;have hl1:=hb.1;simp[iS,hl1,g1];exact hk
 | succ r ih=>
  intro j c l hj hc hl hsl hk;have hjl:j<=db.length:=aa;obtain⟨m,hm⟩:=nmQ (at_+j);have hml:m<l.length:=aa;obtain⟨y,hy⟩:=mnQ (nth 0 db j);have hys:y<Z:=by rw[<-hy];exact hsb.getD bC j
  obtain⟨x,hx⟩:=mnQ (nth 0 l m);have hxs:x<Z:=by rw[<-hx];exact hsl.getD bC m
  have e1:((at_:Int)+(j:Int))=(m:Int):=aa;have hZ:Z=1000000000:=rfl;have hl1:=hb.1;have r3:=CF (rV (e:=e) (ex:=ex) (l:=l) hs) hl.symm (len:=len) (cap:=cap) (i:=(m:Int)) aa aa .i64;have r4:=JF (rV (e:=e) (ex:=ex) (l:=l) hs) hl.symm hml;have r5:=Sj (rV (e:=e) (ex:=ex) (l:=l) hs) hl.symm hml;simp only[UX]at r5;rw[hx]at r4;rw[Int.toNat_natCast]at r3
  rw[qJ,hy,<-hm,hx]at hk;obtain⟨t,ht1⟩:=mnQ (c+x+y);rw[ht1]at hk;obtain⟨tm,htm⟩:=mnQ (t%Z);obtain⟨td,htd⟩:=mnQ (t/Z);rw[htm,htd]at hk;have ht2:t<3000000000:=by simp only[hZ]at *;omega
  have htdZ:td<Z:=by simp only[hZ]at *;omega
  have htmZ:tm<Z:=by simp only[hZ]at *;omega
  have e3:((t:Int)%1000000000)=(tm:Int):=by simp only[hZ]at htm;omega
  have e4:((t:Int)/1000000000)=(td:Int):=by simp only[hZ]at htd;omega
  have ih2:=ih (j+1) td (l.set m tm) aa htdZ (by grind) (hsl.set htmZ) hk;have r6:=r5 tm;clear ih;refine ak ?_;simp(disch:=try exact ac)[iS,hl1,hjl,e1,r3,r4];refine gM (l:=[U t]) (h:=sP h s e ex l) (fun q=>?_) ?_
  .by_cases g2:j<db.length
   .obtain⟨pb,q1,q2⟩:=hb.2 (sP h s e ex l) j ⟨l,rfl⟩ g2;rw[hy]at q2;have e2:(c:Int)+(x:Int)+(y:Int)=(t:Int):=aa;simp(disch:=try exact ac)[g2,q1,q2,e2]
   .have hy0:nth 0 db j=0:=by simp[nth,List.getElem?_eq_none (show db.length<=j by omega)]
    rw[hy]at hy0;subst hy0;have e2:(c:Int)+(x:Int)=(t:Int):=aa;simp[g2,e2]
  .simp(disch:=try exact ac)[e1,r3,r4,Zt,Zs,e3,e4,r6];trivial
theorem Nk(hu:(h.all fun x=>aB h.length x.2)=true)(hs:s<h.length)(hb:RdS (fun t=>∃l,t=sP h s e ex l) t1 db)(hsb:aH Z db)(hat:at_+db.length<tot)(ht:tot<1000000000000){l:LnQ}(hl:l.length=tot)(hsl:aH Z l):
  CI Y F.cM [.ref s e 0 tot tot tot,t1,I at_] (sP h s e ex l) (.tup []) (sP h s e ex (qJ at_ db (db.length+1) 0 0 l)):=by refine vC ?_;simp[cM];refine lo (TQ hs hb hsb hat ht rfl _ _ ae (db.length+1) 0 0 l aa bC hl hsl ?_);simp;refine⟨(Zw ae).symm,?_,.inl ⟨rfl,rfl⟩⟩;exact AM hu
end Go.Vm
namespace Go.Big
section
variable{B:Nat}
theorem mb(l:LnQ)(i:Nat)(h:i<=l.length):val B l=val B (l.take i)+B^i*val B (l.drop i):=by have:=val_append (B:=B) (l.take i) (l.drop i);rw[Xx,Zo,Yx h]at this;exact this
theorem abh(l:LnQ)(z:Nat):val B (l++List.replicate z 0)=val B l:=by rw[val_append,Ax];simp
theorem KM(hB:0<B){l:LnQ}{n:Nat}(h:val B l<B^n):val B (l.drop n)=0:=by
 rcases Zg n l.length with h1|h1
 .have:=mb (B:=B) l n aa;rcases Zc (val B (l.drop n))with h2|h2
  .exact h2
  .have:=Z0 (B^n) h2;omega
 .rw[Y3 h1];rfl
variable{L lD lB x0 x1 x2 y0 y1 D v g r hi:Nat}
structure Gs(B L lD lB x0 x1 x2 y0 y1 D v hi:Nat):Prop where
 B0:0<B
 D_eq:D=lD+L*(x0+B*hi)
 v_eq:v=lB+L*(y0+B*y1)
 lDL:lD<L
 lBL:lB<L
 hx0:x0<B
 hy0:y0<B
 hy1:0<y1
 hD:D<B*v
theorem Gs.vpos(G:Gs B L lD lB x0 x1 x2 y0 y1 D v hi):L*B<=v:=by
 rw[G.v_eq]
 have h1:L*B<=L*(y0+B*y1):=Z0 L (by
  have:=Z0 B G.hy1;omega)
 omega
theorem Gs.pos(G:Gs B L lD lB x0 x1 x2 y0 y1 D v hi):0<v:=by have:=G.vpos;have h1:=G.lDL;have h2:0<L*B:=X9 aa G.B0;omega
theorem Gs.first(G:Gs B L lD lB x0 x1 x2 y0 y1 D v hi):D/v<=hi/y1:=by
 have hvp:=G.pos;rw[Xk G.hy1];have h1:D/v*v<=D:=Wc D v;generalize D/v=q at *
 have h2:q*(L*(B*y1))<=q*v:=Z0 q (by
  rw[G.v_eq];have:=Z0 L (Nat.le_add_left (B*y1) y0);omega)
 have h3:D<L*B*(hi+1):=by
  rw[G.D_eq];have:=G.lDL;have h4:=Z0 L (show x0+1+B*hi<=B*(hi+1) by rw[Zm];have:=G.hx0;omega);rw[<-Nat.mul_assoc]at h4
  have h5:L*(x0+1+B*hi)=L+L*(x0+B*hi):=by
   rw[show x0+1+B*hi=1+(x0+B*hi) by omega,Zm];simp
  omega
 have h6:q*(L*(B*y1))=L*B*(q*y1):=by
  rw[<-Nat.mul_assoc L B y1,Yz]
 have h7:L*B*(q*y1)<L*B*(hi+1):=aa;have:=W4 h7;omega
theorem Gs.far(G:Gs B L lD lB x0 x1 x2 y0 y1 D v hi)(h:B<=g):D/v<g:=by have:=(W6 G.pos).2 G.hD;omega
theorem Gs.over(G:Gs B L lD lB x0 x1 x2 y0 y1 D v hi)(he:g*y1+r=hi)(h:r*B+x0<g*y0):D/v<g:=by
 rw[W6 G.pos]
 have h1:L*(x0+1+B*hi)<=g*v:=by
  rw[G.v_eq];have h2:g*(L*(y0+B*y1))<=g*(lB+L*(y0+B*y1)):=Z0 g aa
  have h3:g*(L*(y0+B*y1))=L*(g*y0+B*(g*y1)):=by
   rw[Yz g L,Zm,Yz g B]
  have h4:L*(x0+1+B*hi)<=L*(g*y0+B*(g*y1)):=Z0 L (by
   rw[<-he,Zm,Zq B r];omega)
  omega
 have h5:L*(x0+1+B*hi)=L+L*(x0+B*hi):=by
  rw[show x0+1+B*hi=1+(x0+B*hi) by omega,Zm];simp
 have:=G.lDL;rw[G.D_eq];omega
theorem Gs.near(G:Gs B L lD lB x0 x1 x2 y0 y1 D v hi)(he:g*y1+r=hi)(hg:g<B)(h:¬(r<B∧r*B+x0<g*y0)):g*v<D+v:=by
 have h0:g*(y0+B*y1)<=x0+B*hi:=by
  rw[Zm,Yz g B,<-he,Zm];by_cases hr:r<B
  .have:¬r*B+x0<g*y0:=fun h'=>h ⟨hr,h'⟩
   rw[Zq r B]at this;omega
  .have h1:g*y0<=B*B:=Zp aa (by have:=G.hy0;omega);have h2:=Z0 B (show B<=r by omega);omega
 have h1:=Z0 L h0
 have h2:g*lB<L*B:=by
  have:=Zp (show g<=B-1 by omega) (show lB<=L by have:=G.lBL;omega);have hL:0<L:=by have:=G.lBL;omega
  have h3:(B-1)*L+L=L*B:=by
   have:=G.B0;obtain⟨b,rfl⟩:∃b,B=b+1:=⟨B-1,aa⟩;rw[Nat.add_sub_cancel,Zq L,Xh]
  omega
 have h3:g*v=g*lB+L*(g*(y0+B*y1)):=by
  rw[G.v_eq,Zm,Yz g L]
 have h4:=G.vpos;have h5:=G.D_eq;omega
theorem Gs.le(G:Gs B L lD lB x0 x1 x2 y0 y1 D v hi)(h:g*v<D+v):g<=D/v+1:=by
 have h1:=Xm D v;have h2:=Yu D G.pos;rcases Zg (D/v+1) g with h3|h3
 .have h4:=Zu v (show D/v+2<=g by omega);rw[Nat.add_mul,Zq (D/v) v]at h4;omega
 .exact h3
end
end Go.Big
namespace Go.Vm
open Go Go.Am Go.Big
variable{l:LnQ}{h h1 h2:Hp}{a b va vb:V}
theorem yb{m n v:Nat}(h:m≠n):nth 0 (l.set m v) n=nth 0 l n:=by simp[nth,List.getElem?_set_ne h]
structure Frm(l l':LnQ)(a b:Nat):Prop where
 len:l'.length=l.length
 same:∀m,m<a∨b<=m->nth 0 l' m=nth 0 l m
theorem D4{g at_:Nat}(hg:g<Z){db:LnQ}(hsb:aH Z db):∀(r j c w:Nat)(l:LnQ),at_+j+r<=l.length->c<Z->w<=1->aH Z l->c+g*val Z (db.drop j)<Z^r ->
  Frm l (iV g at_ db r j c w l).2 (at_+j) (at_+j+r)∧aH Z (iV g at_ db r j c w l).2∧(iV g at_ db r j c w l).1<=1 ∧
  val Z (iV g at_ db r j c w l).2+Z^(at_+j)*(c+g*val Z (db.drop j)+w)=val Z l+Z^(at_+j+r)*(iV g at_ db r j c w l).1
 | 0,j,c,w,l,hl,hc,hw,hs,hT=>by
  have h0:c+g*val Z (db.drop j)=0:=by simp at hT;omega
  refine⟨⟨rfl,fun _ _=>rfl⟩,hs,hw,?_⟩;rw[h0,Zi];rfl
 | r+1,j,c,w,l,hl,hc,hw,hs,hT=>by
  obtain⟨m,hm⟩:=nmQ (at_+j);have hml:m<l.length:=aa;obtain⟨x,hx⟩:=mnQ (nth 0 l m);have hxs:x<Z:=by rw[<-hx];exact hs.getD bC m
  obtain⟨y,hy⟩:=mnQ (nth 0 db j);rw[iV,hy,<-hm,hx];have hvd:val Z (db.drop j)=y+Z*val Z (db.drop (j+1)):=by rw[qa,show db.getD j 0=y from hy]
  obtain⟨V,hV⟩:=mnQ (val Z (db.drop (j+1)));rw[hvd,hV]at hT ⊢;obtain⟨t,ht⟩:=mnQ (c+g*y);rw[ht];obtain⟨tm,htm⟩:=mnQ (t%Z);obtain⟨td,htd⟩:=mnQ (t/Z);have hdm:t=tm+Z*td:=by rw[<-htm,<-htd];exact(Xe t Z).symm
  have htmZ:tm<Z:=by rw[<-htm];exact Yu _ bC
  rw[htm,htd]
  have hsum:c+g*(y+Z*V)=tm+Z*(td+g*V):=by
   rw[Zm,Yz g Z,Zm];omega
  rw[hsum]at hT ⊢
  have hT2:td+g*V<Z^r:=by
   rw[Nat.pow_succ,Zq (Z^r)]at hT;have:Z*(td+g*V)<Z*Z^r:=aa;exact W4 this
  have htdZ:td<Z∨True:=.inr trivial
  have step:∀(v w':Nat),v<Z->w'<=1->v+(tm+w)=x+Z*w'->td<Z ->
    Frm l (iV g at_ db r (j+1) td w' (l.set m v)).2 (at_+j) (at_+j+(r+1))∧aH Z (iV g at_ db r (j+1) td w' (l.set m v)).2∧(iV g at_ db r (j+1) td w' (l.set m v)).1<=1 ∧
    val Z (iV g at_ db r (j+1) td w' (l.set m v)).2+Z^m*(tm+Z*(td+g*V)+w)=val Z l+Z^(m+(r+1))*(iV g at_ db r (j+1) td w' (l.set m v)).1:=by
   intro v w' hv hw' he htd2;obtain⟨⟨f1,f2⟩,i2,i3,i4⟩:=D4 hg hsb (g:=g) (at_:=at_) r (j+1) td w' (l.set m v) aF htd2 hw' (hs.set hv) (by rw[hV];exact hT2);refine⟨⟨by rw[f1];simp,fun n hn=>?_⟩,i2,i3,?_⟩
   .rw[f2 n aa,yb aa]
   .have hvs:=wR (B:=Z) l m v hml;rw[show l.getD m 0=x from hx]at hvs;rw[hV,show at_+(j+1)=m+1 by omega]at i4;rw[show m+(r+1)=m+1+r by omega];generalize val Z (iV g at_ db r (j+1) td w' (l.set m v)).2=R at *;generalize(iV g at_ db r (j+1) td w' (l.set m v)).1=W at *;generalize val Z (l.set m v)=R1 at *;generalize val Z l=R0 at *;generalize td+g*V=T at *
    rw[Nat.pow_succ Z m,Nat.mul_assoc (Z^m) Z (T+w')]at i4;generalize Z^m=P at *;have h1:P*v+P*(tm+w)=P*x+P*(Z*w'):=by rw[<-Zm,<-Zm,he]
    have h2:P*(Z*(T+w'))=P*(Z*T)+P*(Z*w'):=by rw[Zm Z,Zm]
    have h3:P*(tm+Z*T+w)=P*(tm+w)+P*(Z*T):=by rw[<-Zm];congr 1;omega
    omega
  have htd2:td<Z:=by
   have hy2:y<Z:=by rw[<-hy];exact hsb.getD bC j
   have:=Zp (show g<=999999999 by simp only[Z]at hg;omega) (show y<=999999999 by simp only[Z]at hy2;omega);simp only[Z]at *;omega
  rw[<-hm]at step;by_cases hlt:x<tm+w
  .simp only[if_pos hlt];exact step _ 1 aa (Z8 _) aa htd2
  .simp only[if_neg hlt];exact step _ 0 aa (Y4 _) aa htd2
theorem F5{at_:Nat}{db:LnQ}(hsb:aH Z db):∀(r j c:Nat)(l:LnQ),at_+j+r<=l.length->c<=1->aH Z l ->
  Frm l (qJ at_ db r j c l) (at_+j) (at_+j+r)∧aH Z (qJ at_ db r j c l) ∧
  ∃ce,val Z (qJ at_ db r j c l)+Z^(at_+j+r)*(ce+val Z (db.drop (j+r)))=val Z l+Z^(at_+j)*(c+val Z (db.drop j))
 |0,j,c,l,hl,hc,hs=>⟨⟨rfl,fun _ _=>rfl⟩,hs,c,rfl⟩
 | r+1,j,c,l,hl,hc,hs=>by
  obtain⟨m,hm⟩:=nmQ (at_+j);have hml:m<l.length:=aa;obtain⟨x,hx⟩:=mnQ (nth 0 l m);have hxs:x<Z:=by rw[<-hx];exact hs.getD bC m
  obtain⟨y,hy⟩:=mnQ (nth 0 db j);have hys:y<Z:=by rw[<-hy];exact hsb.getD bC j
  rw[qJ,hy,<-hm,hx];have hvd:val Z (db.drop j)=y+Z*val Z (db.drop (j+1)):=by rw[qa,show db.getD j 0=y from hy]
  obtain⟨t,ht⟩:=mnQ (c+x+y);rw[ht];obtain⟨tm,htm⟩:=mnQ (t%Z);obtain⟨td,htd⟩:=mnQ (t/Z);have hdm:t=tm+Z*td:=by rw[<-htm,<-htd];exact(Xe t Z).symm
  have htmZ:tm<Z:=by rw[<-htm];exact Yu _ bC
  have htd1:td<=1:=by simp only[Z]at *;omega
  rw[htm,htd];obtain⟨⟨f1,f2⟩,i2,ce,i4⟩:=F5 hsb (at_:=at_) r (j+1) td (l.set m tm) aF htd1 (hs.set htmZ);refine⟨⟨by rw[f1];simp,fun n hn=>?_⟩,i2,ce,?_⟩
  .rw[f2 n aa,yb aa]
  .have hvs:=wR (B:=Z) l m tm hml;rw[show l.getD m 0=x from hx]at hvs;rw[show at_+(j+1)=m+1 by omega,show j+1+r=j+(r+1) by omega]at i4;rw[show m+(r+1)=m+1+r by omega,hvd];generalize val Z (qJ at_ db r (j+1) td (l.set m tm))=R at *;generalize val Z (l.set m tm)=R1 at *;generalize val Z l=R0 at *;generalize val Z (db.drop (j+1))=V at *
   rw[Nat.pow_succ Z m,Nat.mul_assoc (Z^m) Z (td+V)]at i4;generalize Z^(m+1+r)*(ce+val Z (db.drop (j+(r+1))))=Q at *;generalize Z^m=P at *;have h1:P*tm+P*(Z*td)=P*x+P*(c+y):=by rw[<-Zm,<-Zm,<-hdm,<-ht];congr 1;omega
   have h2:P*(Z*(td+V))=P*(Z*td)+P*(Z*V):=by rw[Zm Z,Zm]
   have h3:P*(c+(y+Z*V))=P*(c+y)+P*(Z*V):=by rw[<-Zm];congr 1;omega
   omega
theorem Frm.take{l l':LnQ}{a b:Nat}(h:Frm l l' a b):l'.take a=l.take a:=by
 refine Wg (by simp[h.len]) fun i h1 h2=>?_
 simp only[Zo]at h1 h2;have:=h.same i (.inl aa);rw[cF _ _ _ aa,cF _ _ _ aa]at this;simpa using this
theorem Frm.drop{l l':LnQ}{a b:Nat}(h:Frm l l' a b):l'.drop b=l.drop b:=by
 refine Wg (by simp[h.len]) fun i h1 h2=>?_
 simp only[Yt]at h1 h2;have:=h.same (b+i) (.inr aa);rw[cF _ _ _ aa,cF _ _ _ aa]at this;simpa using this
theorem Tw{al db:LnQ}{i g:Nat}(hsa:aH Z al)(hsb:aH Z db)(hi:i+db.length<al.length)(hg:g<Z)(hD:val Z (al.drop i)<Z*val Z db)(h1:g*val Z db<val Z (al.drop i)+val Z db)(h2:val Z (al.drop i)/val Z db<=g)
  {w:Nat} {l1 l2:LnQ} (hw:(iV g i db (db.length+1) 0 0 0 al).1=w) (hl1:(iV g i db (db.length+1) 0 0 0 al).2=l1) (hl2:qJ i db (db.length+1) 0 0 l1=l2) :
  (l1.length=al.length∧aH Z l1) ∧
  (w=0->aH Z l1∧l1.length=al.length∧l1.take i=al.take i∧g=val Z (al.drop i)/val Z db∧val Z (l1.drop i)=val Z (al.drop i)%val Z db) ∧
  (0<w->aH Z l2∧l2.length=al.length∧l2.take i=al.take i∧0<g∧g-1=val Z (al.drop i)/val Z db∧val Z (l2.drop i)=val Z (al.drop i)%val Z db):=by
 have hvb:=jD (B:=Z) bC hsb
 have hvp:0<val Z db:=by
  rcases Zc (val Z db)with h|h
  .rw[h]at hD;simp at hD
  .exact h
 have hpow:Z^(db.length+1)=Z*Z^db.length:=by rw[Nat.pow_succ,Zq]
 have hDlt:val Z (al.drop i)<Z^(db.length+1):=by
  rw[hpow];exact Nat.lt_trans hD (Nat.mul_lt_mul_of_pos_left hvb bC)
 have htop:val Z (al.drop (i+(db.length+1)))=0:=by
  rw[<-List.drop_drop];exact KM bC hDlt
 obtain ⟨f,s1,w1,e⟩:=D4 hg hsb (db.length+1) 0 0 0 al aa bC (Y4 _) hsa (by
  rw[Yc,Zi,hpow];have a1:=Z0 g (show val Z db<=Z^db.length by omega);have a2:=Nat.mul_lt_mul_of_pos_right hg (show 0<Z^db.length from Xo bC);omega) (at_:=i) (g:=g)
 rw[hw,hl1]at e;rw[hl1]at f s1;rw[hw]at w1;simp only[Nat.add_zero,Yc,Zi]at e f;have len1:=f.len
 have below:∀{l:LnQ},aH Z l->l.drop (i+(db.length+1))=al.drop (i+(db.length+1))->val Z (l.drop i)<Z^(db.length+1):=fun{l} hs he=>by
  have hz:=mb (B:=Z) (l.drop i) (min (db.length+1) (l.drop i).length) (Nat.min_le_right ..);by_cases hc:db.length+1<=(l.drop i).length
  .rw[Yx hc,List.drop_drop,he,htop,Nat.mul_zero,Nat.add_zero]at hz;rw[hz];have:=jD (B:=Z) bC ((hs.drop i).take (db.length+1));rw[Zo,Yx hc]at this;exact this
  .have:=jD (B:=Z) bC (hs.drop i);exact Z3 this (Z4 bC aa)
 have hsp:∀{l:LnQ},l.length=al.length->l.take i=al.take i->val Z l=val Z (al.take i)+Z^i*val Z (l.drop i):=fun{l} h h'=>by
  rw[<-h'];exact mb l i aa
 have hal:=mb (B:=Z) al i aa;have hdm:=Xm (val Z (al.drop i)) (val Z db);have hml:=Yu (val Z (al.drop i)) hvp;have b1:=below s1 f.drop;rw[hsp len1 f.take,hal,Yk,Nat.mul_assoc (Z^i)]at e
 have e2:val Z (l1.drop i)+g*val Z db=val Z (al.drop i)+Z^(db.length+1)*w:=by
  have:Z^i*(val Z (l1.drop i)+g*val Z db)=Z^i*(val Z (al.drop i)+Z^(db.length+1)*w):=by rw[Zm,Zm];omega
  exact Xl (Xo bC) this
 obtain⟨D,hDe⟩:=mnQ (val Z (al.drop i));obtain⟨v,hve⟩:=mnQ (val Z db);refine⟨⟨len1,s1⟩,fun w0=>?_,fun wp=>?_⟩
 .subst w0;rw[Nat.mul_zero,Nat.add_zero]at e2
  have hq:g=val Z (al.drop i)/val Z db:=by
   refine Nat.le_antisymm ?_ h2;rw[Xk hvp];omega
  refine⟨s1,len1,f.take,hq,?_⟩;rw[<-hq]at hdm;rw[Zq]at hdm;omega
 .have hw1:w=1:=aa;subst hw1;obtain⟨f2,s2,ce,e3⟩:=F5 hsb (at_:=i) (db.length+1) 0 0 l1 aa (Y4 _) s1;rw[hl2]at f2 s2 e3;simp only[Nat.add_zero,Yc,Zi]at e3 f2;have hdn:db.drop (db.length+1)=[]:=Y3 aa;rw[hdn,show val Z []=0 from rfl]at e3;simp only[Nat.add_zero]at e3
  have len2:l2.length=al.length:=by rw[f2.len,len1]
  have tk2:l2.take i=al.take i:=by rw[f2.take,f.take]
  have b2:=below s2 (by rw[f2.drop,f.drop]);rw[hsp len2 tk2,hsp len1 f.take,Yk,Nat.mul_assoc (Z^i)]at e3
  have e4:val Z (l2.drop i)+Z^(db.length+1)*ce=val Z (l1.drop i)+val Z db:=by
   have:Z^i*(val Z (l2.drop i)+Z^(db.length+1)*ce)=Z^i*(val Z (l1.drop i)+val Z db):=by rw[Zm,Zm];omega
   exact Xl (Xo bC) this
  have hgl:g*val Z db<=(val Z (al.drop i)/val Z db+1)*val Z db:=by
   rcases Zg (val Z (al.drop i)/val Z db+1) g with h3|h3
   .exfalso;have h4:=Zu (val Z db) (show val Z (al.drop i)/val Z db+2<=g by omega);rw[Nat.add_mul,Zq (val Z (al.drop i)/val Z db)]at h4;omega
   .exact Zu _ h3
  have hgp:0<g:=by
   rcases Zc g with h|h
   .subst h;omega
   .exact h
  have hgq:g=val Z (al.drop i)/val Z db+1:=by
   refine Nat.le_antisymm ?_ ?_
   .exact Nat.le_of_mul_le_mul_right hgl hvp
   .rw[Nat.succ_le_iff,W6 hvp];omega
  refine⟨s2,len2,tk2,hgp,aa,?_⟩;rw[hgq,Nat.add_mul,Xn,Zq (val Z (al.drop i)/val Z db)]at e2;generalize Z^(db.length+1)=P at *
  have hce:ce=1:=by
   rcases Zg ce 1 with h|h
   .have:ce=0:=aa;subst this;omega
   .rcases Zg ce 2 with h'|h'
    .omega
    .have:=Z0 P h';omega
  subst hce;omega
def Je(o:LnQ):Hp:=[(1,.data 1 (o.map u6) true false),nnQ]
theorem za(o:LnQ):(Je o)[0]?=some (1,.data 1 (o.map u6) true false):=rfl
theorem WG(o o':LnQ):(Je o).set 0 (1,.data 1 (o'.map u6) true false)=Je o':=rfl
@[simp]theorem ahb(o:LnQ):(Je o).length=2:=rfl
theorem BZ{p:LnQ}(hsp:aH Z p)(hpl:p.length<1000000000000){n N:Nat}(hn:0<n)(hnZ:n<=Z)(hN:N=p.length)(k:KL)(h0:Hp)(hh:h0.length=2) :
  ∀(i:Nat)(o:LnQ)(r:Nat),i<=p.length->o.length=N->aH Z o->r<n->val Z (p.drop i)=n*val Z (o.drop i)+r ->
  (∀o' r',o'.length=N->aH Z o'->r'<n->val Z p=n*val Z o'+r'->k (.exit 0) [U (r':Nat)] (Je o')) ->
  lp (iv (CX Y) (lst u6 p) (U n) (.ref 0 1 0 N N N)) [] h0 [U r,I ((i:Int)-1)] (Je o) k
 | 0,o,r,hi,ho,hso,hr,hv,hk=>by
  refine ak ?_;simp[iv];exact hk o r ho hso hr (by simpa using hv)
 | i+1,o,r,hi,ho,hso,hr,hv,hk=>by
  obtain⟨x,hx⟩:=mnQ (nth 0 p i);have hxs:x<Z:=by rw[<-hx];exact hsp.getD bC i
  have e1:=fun h:Hp=>nQ u6 p h (k:=.i64) (i:=(i:Int)) aa aa
  have e2:=fun h:Hp=>E6 p h (j:=i) aa
  rw[hx]at e2;have r3:=CF (za o) ho.symm (len:=N) (cap:=N) (i:=(i:Int)) aa aa .i64;have r5:=Sj (za o) ho.symm (j:=i) aa;simp only[WG]at r5;simp only[Int.toNat_natCast]at e1 r3;have e0:((i+1:Nat):Int)-1=(i:Int):=aa;have hZ:Z=1000000000:=rfl;obtain⟨t,ht⟩:=mnQ (r*Z+x);obtain⟨q,hq⟩:=mnQ (t/n)
  obtain⟨r2,hr2⟩:=mnQ (t%n);have hdm:n*q+r2=t:=by rw[<-hq,<-hr2];exact Xm t n
  have hr2n:r2<n:=by rw[<-hr2];exact Yu _ hn
  have htn:t<Z*n:=by
   have:=Zu Z (show r+1<=n by omega);rw[Nat.add_mul,Zq n Z]at this;omega
  have hqZ:q<Z:=by rw[<-hq];exact Wj (by rw[Zq];exact htn)
  have htb:t<1000000000000000001:=by
   have:=Z0 Z hnZ;simp only[hZ]at *;omega
  have hdr:(o.set i q).drop i=q::o.drop (i+1):=by
   rw[List.drop_set,if_neg aa,Za];rw[Yq (show i<o.length by omega)];rfl
  have ih:=BZ hsp hpl hn hnZ hN k h0 hh i (o.set i q) r2 aa (by simpa using ho) (hso.set hqZ) hr2n (by
   rw[qa,show p.getD i 0=x from hx,hv,hdr];simp only[val];rw[Zm,Zm,Yz n Z,Zq Z r];omega) hk
  have r6:=r5 q;have e3:(r:Int)*1000000000+(x:Int)=(t:Int):=by simp only[hZ]at ht;omega
  have e4:(t:Int)/(n:Int)=(q:Int):=by rw[<-hq];simp
  have e5:(t:Int)%(n:Int)=(r2:Int):=by rw[<-hr2];simp
  have hrb:r<1000000000:=by simp only[hZ]at hnZ;omega
  have hn0:¬((n:Int)=0):=aa;have hqb:(q:Int)<18446744073709551616:=by simp only[hZ]at hqZ;omega
  refine ak ?_;rw[e0];simp(disch:=try exact ac)[iv,e1,e2,e3,r3,hn0,Zt,Zs,e4,e5,r6,hh];simpa using ih
theorem G7(l:LnQ):∃z,l=iI l++List.replicate z 0:=by
 induction hn:l.length generalizing l with
 | zero=>
  have:l=[]:=Zn hn;subst this;exact⟨0,rfl⟩
 | succ n ih=>
  obtain⟨l,x,rfl⟩:∃l' x,l=l'++[x]:=⟨l.dropLast,l.getLast (by intro e;simp[e]at hn),(List.dropLast_concat_getLast _).symm⟩;by_cases hx:x=0
  .subst hx;rw[qu];obtain⟨z,hz⟩:=ih l (by simpa using hn);refine⟨z+1,?_⟩
   conv=>lhs;rw[hz]
   rw[List.append_assoc,List.replicate_succ']
  .rw[xO hx];exact⟨0,ae⟩
theorem AE:l.take (iI l).length=iI l:=by obtain⟨z,hz⟩:=G7 l;generalize iI l=t at *;subst hz;rw[X3 rfl]
theorem yN(h:Hp)(n:Int):aD h (U n)=some (U n,h):=rfl
theorem bY(ha:aD h a=some (va,h1))(hb:aD h1 b=some (vb,h2)):out (.tup [va,vb]) (.tup [a,b]) h:=
 ⟨h2,by simp only[aD,ai,ha,hb]⟩
theorem jp{h3:Hp}{c vc:V}(ha:aD h a=some (va,h1))(hb:aD h1 b=some (vb,h2))(hc:aD h2 c=some (vc,h3)):out (.tup [va,vb,vc]) (.tup [a,b,c]) h:=
 ⟨h3,by simp only[aD,ai,ha,hb,hc]⟩
theorem Hn{a n:Nat}(ha:(dig Z a).length<100000000)(hn:0<n)(hnZ:n<=Z):CP Y F.c8 [pcs a,U n] (.tup [pcs (a/n),U (a%n:Nat)]):=by
 refine uT ?_;obtain⟨p,hp⟩:=mnQ (dig Z a);have hsp:aH Z p:=by rw[<-hp];exact cI ay a
 have hval:val Z p=a:=by rw[<-hp];exact iK ay a
 rw[pcs,hp];rw[hp]at ha;simp(disch:=try exact ac)[c8];have e2:[(1,Bk.data 1 (List.replicate p.length (D.int IntKind.u64 0)) true false),nnQ]=Je (List.replicate p.length 0):=by simp[Je,u6]
 rw[e2];refine lo (BZ hsp aa hn hnZ rfl _ _ rfl p.length (List.replicate p.length 0) 0 (Z8 _) ae (fun x hx=>by rw[Wo]at hx;rw[hx.2];exact bC) hn (by rw[List.drop_length,Y3 ae];simp[val]) fun o r ho hs hr hv=>?_);simp only[kR];rw[hval]at hv
 have hq:val Z o=a/n:=by rw[hv,Nat.mul_add_div hn,Wr hr,Nat.add_zero]
 have hr2:r=a%n:=by rw[hv,Nat.mul_add_mod,Xz hr]
 have ht:iI (o.take p.length)=dig Z (a/n):=by rw[Zw aa,<-hq,rr ay hs]
 have tr:=tG (h:=Je o) rfl (za o) ho.symm (len:=p.length) (cap:=p.length) (Z8 _) aa (Z8 _);rw[ht]at tr;refine gL tr ?_ ae
 have htl:o.take (dig Z (a/n)).length=dig Z (a/n):=by
  have h2:iI o=dig Z (a/n):=by rw[<-hq,rr ay hs]
  rw[<-h2];exact AE
 have sn:=vS (za o) ho.symm (len:=(dig Z (a/n)).length) (cap:=p.length) (by rw[pj ay,<-hq,<-ho];exact jD bC hs) (Z8 _);rw[htl]at sn;have e6:((a:Int)%(n:Int))=((a%n:Nat):Int):=ae;rw[hr2,e6];exact bY sn (yN _ _)
end Go.Vm
