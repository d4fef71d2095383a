/- Rows: Zero, Unit, Neg. -/
import Derived.Test.YtaiahkcmdnaooaaGreatDoorQLdF
import Derived.Test.YtaiahkcmdnaooaaGreatDoorQNnA
import Derived.Test.YtaiahkcmdnaooaaGreatDoorQT
set_option linter.unusedVariables false
set_option linter.unusedSimpArgs false
namespace Go.Vm
open Go Go.Am Go.Big
theorem UQ (n:Nat):gG n [D.int IntKind.i64 0]=(List.replicate n 0).map di:=by
 induction n with
 | zero=>rfl
 | succ n ih=>rw [List.replicate_succ,Zz,<- ih];rfl
theorem abn {s e L n:Nat} {b:Bk} {h:Hp} {k:V->Hp->Prop} {u:PU k} (hs:h[s]? = some (e,b)) (hL:L<=n) (hn:n<1000000000) (hk:k (.ref s (e+1) 0 L n n) (h.set s (e+1,.data 1 ((List.replicate n 0).map di) true false))):rh (mkS s 8 [.int .i64 0] h (I L) (I n)) k u:=by
 unfold rh mkS;simp only;rw [if_pos ⟨aa,aa,af,aa,aa⟩];simp only [new,hs,Int.toNat_natCast,UQ,List.length_map,Za];exact hk
theorem OC {h:Hp} (hu:(h.all fun x=>dU h.length x.2)=true) {n:Nat} (hn:n<=64):CI Y F.pF [I n] h (.tup [.new 1 ((List.replicate n 0).map di) true n n,I 0]) h:=by
 refine Jy ?_;have g1:¬ (n:Int)<0:=aa;have g2:¬ (64:Int)<(n:Int):=aa;simp (disch:=try exact ac)[pF,g1,g2];refine ⟨af,?_,.inr (.inr (.inr (.inr ⟨h.length,1,n,n,1,(List.replicate n 0).map di,true,.int .i64 0,af,Z7 _,?_,af⟩)))⟩
 ·simp only [Xi,hu,Wd];try rfl
 ·simp [aP,di]
def mJ (n:Nat):List Int:=1::List.replicate (n-1) 0
theorem OE {n:Nat} (h0:0<n) (hn:n<=64):CP Y F.qM [I n,I 0] (.tup [lst di (mJ n),I 0]):=by
 refine JA ?_;have zi:=OC (h:=[(0,.none)]) rfl hn;have g:¬ (n:Int)<=0:=aa;obtain ⟨m,hm⟩:∃ m,n=m+1:=⟨n-1,aa⟩;have eu:(List.replicate n 0).map di=di 0::(List.replicate m 0).map di:=by rw [hm,List.replicate_succ];rfl
 have hl:((List.replicate n 0).map di).length=n:=af;simp (disch:=try exact ac)[qM];refine kh (Cg (e:=0) (b:=.none) zi rfl ?_);rw [hl,eu];simp (disch:=try exact ac)[g];refine ax (h2:=[(1,.data 1 ((mJ n).map di) true true)]) ?_ rfl
 ·simp [aI,toD,aP,cG,lst,mJ,hm,di]
def dK (r:List Int):List Int:=r.map fun x=>-x
def ngH (n:Nat) (o:List Int):Hp:=[(0,.none),(1,.data 1 ((o++List.replicate (n-o.length) 0).map di) true false),(0,.none)]
theorem AY {r:List Int} (hN:r.length<=64) (hr:∀ x∈r,nW x=true) (k:KL) (h0:Hp) (hh:h0.length=3):∀ (q a:List Int),a++q=r->k (.exit 0) [.ref 1 1 0 r.length r.length r.length] (ngH r.length (dK r)) ->
  lp (oR (CX Y) (I (-1)) (lst di r) (I r.length)) [] h0 [.ref 1 1 0 a.length r.length r.length,I a.length] (ngH r.length (dK a)) k
 | [],a,ha,hk=>by
  simp at ha;subst ha;refine av ?_;simp (disch:=try exact ac)[oR];exact hk
 | x::q,a,ha,hk=>by
  have hal:a.length<r.length:=by subst ha;simp
  have hx:nth 0 r a.length=x:=by subst ha;simp
  have bx:=nD.1 (hr x (by rw [<- ha];simp));have i1:=fun h=>cC di r h (k:=.i64) (i:=(a.length:Int)) aa aa
  have i2:=fun h=>dy di 0 r h (j:=a.length) hal
  rw [hx] at i2;simp only [Int.toNat_natCast] at i1;have g1:(a.length:Int)<(r.length:Int):=aa;have li1:∀ (z:Int) (H:Hp),dE 1 [D.int IntKind.i64 0] [(0,I z)] H=some ([di z],H):=fun z H=>by simp [dE,gG,jw,toD,di]
  have la:(dK a).length=a.length:=by simp [dK]
  have en:dK (a++[x])=dK a++[-x]:=by simp [dK]
  obtain ⟨n,hn⟩:∃ n,n=r.length:=⟨_,rfl⟩;rw [<- hn] at hk g1 ⊢
  have ap:∀ q:V->Hp->Prop,apV false 2 1 8 (.ref 1 1 0 a.length n n) (.d (.sl 1 [di (-x)])) (ngH n (dK a)) q=q (.ref 1 1 0 (a.length+1) n n) (ngH n (dK (a++[x]))):=by
   intro q;have hg:aP (ngH n (dK a)) 1 1=.data 1 ((dK a++List.replicate (n-a.length) 0).map di) true false:=by simp only [ngH,la];rfl
   have hle:((dK a++List.replicate (n-a.length) 0).map di).length=n:=by simp [la];omega
   show apC false 2 1 8 (.ref 1 1 0 a.length n n) 1 [di (-x)] (ngH n (dK a)) q=_
   unfold apC;rw [if_neg ae];simp only [hg];rw [if_pos ⟨trivial,by rw [hle],aa,by rw [hle];omega,rfl⟩,if_pos aa];simp only [Bool.or_self,Zl,if_false]
   have e1:((dK a++List.replicate (n-a.length) 0).map di).take (0+a.length*1)=(dK a).map di:=by
    rw [Xg,List.take_append_of_le_length (by simp [la]),Zx (by simp [la])]
   have e2:((dK a++List.replicate (n-a.length) 0).map di).drop (0+(a.length+1)*1)=(List.replicate (n-(a.length+1)) 0).map di:=by
    have e:n-a.length=(n-(a.length+1))+1:=aa;rw [e,List.replicate_succ,Xg,List.drop_append];simp [la]
   rw [e1,e2,en];simp only [ngH,cG,List.set_cons_succ,List.set_cons_zero,Xg,Zz,Ys,Zm,la,List.length_singleton]
  have ih:=AY hN hr k h0 hh q (a++[x]) (by simpa using ha) (by rw [<- hn];exact hk);have hre:∀ y:Hp,y.length=3->aG [] 0 h0 y=y:=fun y hy=>cW 0 h0 y aa
  have hnl:(ngH n (dK (a++[x]))).length=3:=rfl;rw [<- hn] at ih;refine av ?_;simp (disch:=try exact ac)[oR,i1,i2,g1,li1];unfold rh;rw [ap];simp (disch:=try exact ac)[hre,hnl];simpa using ih
theorem Sa {r:List Int} (hr:rcB r=0):CP Y F.uu [lst di r] (.tup [lst di (dK r),I 0]):=by
 obtain ⟨h1,h2⟩:=tR.1 hr;have rc:=Fb (l:=r) aa;rw [hr] at rc;have rf:=Hk (z:=-1);have ef:nW (-1)=true:=ae;rw [ef] at rf;have ln:(dK r).length=r.length:=by simp [dK]
 have rn0:rcB (dK r)=0:=tR.2 ⟨aa,fun x hx=>by
  simp only [dK,Zg] at hx;obtain ⟨y,hy,rfl⟩:=hx;have:=nD.1 (h2 y hy);exact nD.2 aa⟩
 have rr:=R8 (l:=dK r) aa;rw [rn0,if_pos rfl] at rr;have ll:bC (lst di r)=some (I r.length):=rfl
 have sc:CP Y F.o9 [lst di r,I (-1)] (.tup [lst di (dK r),I 0]):=by
  refine Hf ?_;simp (disch:=try exact ac)[o9];refine cd rc ?_;simp (disch:=try exact ac)[];refine cd rf ?_;simp (disch:=try exact ac)[ll];refine abn (L:=0) (e:=0) (b:=.none) rfl aa aa ?_;simp (disch:=try exact ac)[ll]
  have e00:([(0,.none),(1,.data 1 (List.replicate r.length (di 0)) true false),(0,.none)]:Hp)=ngH r.length (dK []):=by simp [ngH,dK]
  rw [e00];refine lo (AY h1 h2 _ _ rfl r [] rfl ?_);have e0:ngH r.length (dK r)=[(0,.none),(1,.data 1 ((dK r).map di) true false),(0,.none)]:=by unfold ngH;rw [ln];simp
  rw [e0];simp (disch:=try exact ac)[];refine cdz (ds:=[lst di (dK r)]) (h':=[(0,.none),(1,.data 1 ((dK r).map di) true true),(0,.none)]) ?_ rr ?_
  ·simp [ai,aI,toD,aP,cG,ln,lst];rw [Zx (by simp [ln])]
  ·simp (disch:=try exact ac)[];exact ax (pu _ _ _) rfl
 refine MO ?_;simp (disch:=try exact ac)[uu];refine cd sc ?_;simp (disch:=try exact ac)[];exact ax (pu _ _ _) rfl
theorem MX {x y:Int × Int} {d g q X Y K:Int} (d0:0<d) (g0:0<g) (K0:0<K) (x1:x.1*K<=X) (x2:X<=x.2*K) (y1:y.1*K<=Y) (y2:Y<=y.2*K) (Y0:0<Y) (h:vu x y d g=some q) :
  q*(d*Y)<=g*X∧g*X<(q+1)*(d*Y):=by
 have hy2:0<y.2:=by
  refine Int.lt_of_not_ge fun h=>?_
  have h2:y.2*K<=0:=Yj h (Y3 K0);exact absurd (Int.lt_of_lt_of_le Y0 (Int.le_trans y2 h2)) (Int.lt_irrefl 0)
 have hny:¬ y.2<=0:=aa;rw [Pg] at h;simp only [if_neg hny] at h;split at h
 ·rename_i hb;simp only [Z9] at h;unfold uU at h hb;by_cases hy1:y.1<=0
  ·rw [if_pos hy1] at hb;cases hb
  ·rw [if_neg hy1] at h hb;simp only [decide_eq_true_eq] at hb;simp only at h;rw [h] at hb
   have dv:∀ {a b q:Int},0<b->a / b=q->q*b<=a∧a<(q+1)*b:=fun {a b q} hb e=>by
    subst e;exact ⟨Int.ediv_mul_le a aa,Int.lt_ediv_add_one_mul_self a hb⟩
   have gx1:g*(x.1*K)<=g*X:=Ze x1 (Y3 g0);have gx2:g*X<=g*(x.2*K):=Ze x2 (Y3 g0);constructor
   ·by_cases n1:x.1<0
    ·rw [if_pos n1] at h;obtain ⟨e1,_⟩:=dv (Yq aa d0) h;have q0:q<=0:=by rw [<- h];exact Y3 (Int.ediv_neg_of_neg_of_pos (Int.mul_neg_of_neg_of_pos n1 g0) (Yq aa d0))
     have s1:q*d*Y<=q*d*(y.1*K):=Xm (Yj q0 (Y3 d0)) y1;have s2:q*(y.1*d)*K<=x.1*g*K:=Zw e1 (Y3 K0)
     grind
    ·rw [if_neg n1] at h;obtain ⟨e1,_⟩:=dv (Yq aa d0) h;have q0:0<=q:=by rw [<- h];exact Int.ediv_nonneg (Yi aa aa) (Y3 (Yq aa d0))
     have s1:q*d*Y<=q*d*(y.2*K):=Ze y2 (Yi q0 (Y3 d0));have s2:q*(y.2*d)*K<=x.1*g*K:=Zw e1 (Y3 K0)
     grind
   ·by_cases n2:x.2<0
    ·rw [if_pos n2] at hb;obtain ⟨_,e1⟩:=dv (Yq aa d0) hb.symm
     have q0:q+1<=0:=by
      have:x.2*g<0:=Int.mul_neg_of_neg_of_pos n2 g0;have:q<0:=by rw [hb];exact Int.ediv_neg_of_neg_of_pos this (Yq aa d0)
      omega
     have s1:(q+1)*d*(y.2*K)<=(q+1)*d*Y:=Xm (Yj q0 (Y3 d0)) y2;have s2:x.2*g*K<(q+1)*(y.2*d)*K:=Xe e1 K0
     grind
    ·rw [if_neg n2] at hb;obtain ⟨_,e1⟩:=dv (Yq aa d0) hb.symm;have q0:0<=q:=by rw [hb];exact Int.ediv_nonneg (Yi aa aa) (Y3 (Yq aa d0))
     have s1:(q+1)*d*(y.1*K)<=(q+1)*d*Y:=Ze y1 (Yi aa (Y3 d0));have s2:x.2*g*K<(q+1)*(y.1*d)*K:=Xe e1 K0
     grind
 ·cases h
theorem w8 {x:Int->Int} {K:Nat} {ts:List (Int × Int)} (h:∀ t∈ts,zm x K t.1=true):(jQ x ts (0,0)).1*K<=gk (lgI 512) ts∧gk (lgI 512) ts<=(jQ x ts (0,0)).2*K:=by
 obtain ⟨n1,n2⟩:=HO h;obtain ⟨g1,g2,_⟩:=mT 512 ts;rw [r8] at g1 g2;exact ⟨Int.le_trans n1 g1,Int.le_trans g2 n2⟩
def Kj:Nat->Nat
 | 0=>2 ^ 448
 | 1=>2 ^ 384
 | 2=>2 ^ 256
 | _=>1
def KF:Nat:=2 ^ 486
theorem xk:∀ p∈c6P,zm fxI KF p=true∧zm (lgI 64) (Kj 0) p=true∧zm (lgI 128) (Kj 1) p=true∧zm (lgI 256) (Kj 2) p=true:=aJ
theorem VQ:0<KF:=aJ
theorem ZO:∀ j,j<4->0<Kj j:=aJ
theorem VP {j:Nat} (hj:j<=3):(0:Int)<(Kj j:Nat):=Int.natCast_pos.2 (ZO j aa)
theorem Up {j:Nat} (hj:j<=3) {ts:List (Int × Int)} (hm:∀ t∈ts,t.1∈c6P):(aM (64*2 ^ j) ts (0,0)).1*(Kj j:Nat)<=gk (lgI 512) ts∧gk (lgI 512) ts<=(aM (64*2 ^ j) ts (0,0)).2*(Kj j:Nat):=by
 match j,hj with
 | 0,_=>rw [r8];exact w8 fun t ht=>(xk _ (hm t ht)).2.1
 | 1,_=>rw [r8];exact w8 fun t ht=>(xk _ (hm t ht)).2.2.1
 | 2,_=>rw [r8];exact w8 fun t ht=>(xk _ (hm t ht)).2.2.2
 | 3,_=>
  obtain ⟨g1,g2,_⟩:=mT 512 ts;have e:((Kj 3:Nat):Int)=1:=rfl;rw [e,Int.mul_one,Int.mul_one];exact ⟨g1,g2⟩
theorem WQ {p:List Int} {a:List Q} {n A:Nat} (n0:0<n) (ha:bdL n A a) (la:a.length=p.length):gk (lgI 512) (tq p a)*((n / dN 1 a:Nat):Int)=vlS p n a:=by
 unfold vlS L5 tq;exact AA (lgI 512) n0 (vR ha) la (nO ha).1 (fun x hx=>(nZ (s:=a) (d:=1)).2 x hx)
theorem O9 {k:Q} (k0:0<k.2) {n m A B:Nat} (n0:0<n) (m0:0<m) (h:Int->Int):∀ {p:List Int} {a b:List Q},a.length=p.length->b.length=p.length->bdL n A a->bdL m B b->jd k a b=true ->
  (k.2:Int)*(m*bw (CO n a) (p.map h))=k.1*(n*bw (CO m b) (p.map h))
 | [],[],[],_,_,_,_,_=>by simp [CO,bw]
 | c::p,x::a,y::b,la,lb,ha,hb,hr=>by
  simp only [jd,Z8,decide_eq_true_eq] at hr;obtain ⟨h1,h2⟩:=hr;have ih:=O9 k0 n0 m0 h (p:=p) (a:=a) (b:=b) (by simpa using la) (by simpa using lb) (fun z hz=>ha z (by simp [hz])) (fun z hz=>hb z (by simp [hz])) h2;have rx:=(nO ha).1;have ry:=(nO hb).1;simp only [CO,Zz,rpl] at rx ry;obtain ⟨⟨ox,ex⟩,_⟩:=rx;obtain ⟨⟨oy,ey⟩,_⟩:=ry
  have yk:0<k.2*y.2:=Yr k0 oy.1;have eq:=(FA (k.1*y.1) yk).1;have e1:jO (k.1*y.1) (k.2*y.2)=x:=h1;rw [e1] at eq;simp only [CO,Zz,bw] at ih ⊢;generalize x.1*((n / x.2:Nat):Int)=zx at *;generalize y.1*((m / y.2:Nat):Int)=zy at *;generalize bw (a.map fun x=>x.1*((n / x.2:Nat):Int)) (p.map h)=da at *
  generalize bw (b.map fun x=>x.1*((m / x.2:Nat):Int)) (p.map h)=db at *;have xy:(0:Int)<(x.2:Int)*y.2:=Yq (by have:=ox.1;omega) (by have:=oy.1;omega)
  have key:(k.2:Int)*(m*zx)=k.1*(n*zy):=by
   refine Yo (Int.ne_of_gt xy) ?_;rw [Int.natCast_mul] at eq
   grind
  have k2:(k.2:Int)*(m*zx)*h c=k.1*(n*zy)*h c:=by rw [key]
  grind
theorem SV {p:List Int} {a b:List Q} {n A m B:Nat} {q:Int} (hp:in6 p) (n0:0<n) (m0:0<m) (ha:bdL n A a) (hb:bdL m B b) (la:a.length=p.length) (lb:b.length=p.length) (hY:0<vlS p m b) (h:Vo p a b q) :
  q*(n*vlS p m b)<=m*vlS p n a∧m*vlS p n a<(q+1)*(n*vlS p m b):=by
 have oa:=yV n0 ha;have ob:=yV m0 hb;have hn:(0:Int)<n:=aa;have hm:(0:Int)<m:=aa
 have main:(∃ K:Int,0<K∧∃ x y:Int × Int,x.1*K<=gk (lgI 512) (tq p a)∧gk (lgI 512) (tq p a)<=x.2*K∧y.1*K<=gk (lgI 512) (tq p b)∧gk (lgI 512) (tq p b)<=y.2*K∧vu x y (dN 1 a) (dN 1 b)=some q)->q*(n*vlS p m b)<=m*vlS p n a∧m*vlS p n a<(q+1)*(n*vlS p m b):=by
  rintro ⟨K,K0,x,y,x1,x2,y1,y2,hq⟩;have d1:=vR ha;have g1:=vR hb;have d0:0<dN 1 a:=kP ae fun x hx=>(oa x hx).1
  have g0:0<dN 1 b:=kP ae fun x hx=>(ob x hx).1
  have tx:=WQ n0 ha la;have ty:=WQ m0 hb lb;obtain ⟨u,hu⟩:=d1;obtain ⟨w,hw⟩:=g1;have hu':n / dN 1 a=u:=by rw [hu,Y4 _ d0]
  have hw':m / dN 1 b=w:=by rw [hw,Y4 _ g0]
  rw [hu'] at tx;rw [hw'] at ty;have u0:0<u:=Wv fun e=>by subst e;simp at hu;omega
  have w0:0<w:=Wv fun e=>by subst e;simp at hw;omega
  have Y0:0<gk (lgI 512) (tq p b):=by
   refine Int.lt_of_not_ge fun h=>?_
   have:gk (lgI 512) (tq p b)*(w:Int)<=0:=Yj h aa;omega
  obtain ⟨c1,c2⟩:=MX aa aa K0 x1 x2 y1 y2 Y0 hq;have uw:(0:Int)<(u:Int)*w:=Yq aa aa;have s1:=Zw c1 (Y3 uw);have s2:=Xe c2 uw;have en:(n:Int)=dN 1 a*u:=by rw [hu];simp
  have em:(m:Int)=dN 1 b*w:=by rw [hw];simp
  rw [<- tx,<- ty,en,em];generalize gk (lgI 512) (tq p a)=X at *;generalize gk (lgI 512) (tq p b)=Y at *;generalize (dN 1 a:Int)=d at *;generalize (dN 1 b:Int)=g at *;have e1:q*(d*Y)*(u*w)=q*(d*u*(Y*w)):=by grind
  have e2:g*X*(u*w)=g*w*(X*u):=by grind
  have e3:(q+1)*(d*Y)*(u*w)=(q+1)*(d*u*(Y*w)):=by grind
  rw [e1,e2] at s1;rw [e2,e3] at s2;exact ⟨s1,s2⟩
 rcases h with ⟨h1,h2,h3⟩ | h | ⟨j,hj,h⟩
 ·have e:=O9 h3 n0 m0 (lgI 512) la lb ha hb h1;have e:((gn (0,1) a b).2:Int)*(m*vlS p n a)=(gn (0,1) a b).1*(n*vlS p m b):=e;clear main;generalize gn (0,1) a b=k at *;have k0:(0:Int)<k.2:=aa;have v0:0<n*vlS p m b:=Yq hn hY;have f1:q*k.2<=k.1:=by rw [h2];exact Int.ediv_mul_le _ aa
  have f2:k.1<(q+1)*k.2:=by rw [h2];exact Int.lt_ediv_add_one_mul_self _ k0
  constructor
  ·refine Int.le_of_mul_le_mul_left ?_ k0;have f3:=Zw f1 (Y3 v0);rw [e,<- Int.mul_assoc (k.2:Int),Y9 (k.2:Int) q];exact f3
  ·refine Int.lt_of_mul_lt_mul_left ?_ (Y3 k0);have f3:=Xe f2 v0;rw [e,<- Int.mul_assoc (k.2:Int),Y9 (k.2:Int) (q+1)];exact f3
 ·unfold Bf at h;split at h
  ·rename_i x y hx hy;split at h
   ·cases h
   ·have ex:=rZ _ _ _ hx;have ey:=rZ _ _ _ hy;subst ex ey;have e1:=w8 (x:=fxI) (K:=KF) (ts:=tq p a) fun t ht=>(xk _ (og hp t ht)).1
    have e2:=w8 (x:=fxI) (K:=KF) (ts:=tq p b) fun t ht=>(xk _ (og hp t ht)).1
    exact main ⟨(KF:Int),Int.natCast_pos.2 VQ,_,_,e1.1,e1.2,e2.1,e2.2,h⟩
  ·cases h
 ·have e1:=Up hj (ts:=tq p a) (og hp);have e2:=Up hj (ts:=tq p b) (og hp);exact main ⟨_,VP hj,_,_,e1.1,e1.2,e2.1,e2.2,h⟩
theorem KH {p:List Int} {s:List Q} {b:Nat} {r:List Int} (h:rpl b s r):vlS p b s=bw r (L5 p):=by
 unfold vlS;rw [<- E8 h]
theorem EE {p:List Int} {s:List Q} {n A:Nat} {z:Int} (ls:s.length=p.length) (hs:bdL n A s):vlS p n (ix p.length [s] [(z,1)])=z*vlS p n s:=by
 have h1:=(nO hs).1;have h2:=qK z (o:=List.replicate p.length (0,1)) (by simp [ls]) (qJ n p.length) h1;have e:ix p.length [s] [(z,1)]=js (z,1) (List.replicate p.length (0,1)) s:=rfl;rw [e,KH h2,qW _ (by rw [Za,rL h1,ls]),pf,X3];rfl
theorem ED {p:List Int} {s t:List Q} {n A B:Nat} {z w:Int} (ls:s.length=p.length) (lt:t.length=p.length) (hs:bdL n A s) (ht:bdL n B t):vlS p n (ix p.length [s,t] [(z,1),(w,1)])=z*vlS p n s+w*vlS p n t:=by
 have h1:=(nO hs).1;have h2:=(nO ht).1;have h3:=qK z (o:=List.replicate p.length (0,1)) (by simp [ls]) (qJ n p.length) h1;have l3:(js (z,1) (List.replicate p.length (0,1)) s).length=t.length:=by rw [pR _ _ _ (by simp [ls])];omega
 have h4:=qK w l3 h3 h2;have e:ix p.length [s,t] [(z,1),(w,1)]=js (w,1) (js (z,1) (List.replicate p.length (0,1)) s) t:=rfl;have l4:=rL h3;have l1:=rL h1;have l2:=rL h2;rw [e,KH h4,qW _ aa,qW _ (by rw [Za];omega),pf,X3];rfl
def L0 (p:List Int):Int:=(L5 p).headD 0
theorem zK {p:List Int} {n:Nat} (hl:0<p.length) (h0:0<n):vlS p n (bY p n)=L0 p:=by
 have h:rpl n (bY p n) (1::List.replicate (p.length-1) 0):=by
  rw [pr hl h0];exact ⟨⟨⟨h0,af⟩,af⟩,qJ n _⟩
 rw [KH h];cases p with
 | nil=>simp at hl
 | cons c p=>simp [L0,L5,bw,pf]
theorem NR {p:List Int} {n:Nat} {r:List Int} (h0:0<n):vlS p n (ofQ r)=n*bw r (L5 p):=by
 have h:rpl n (ofQ r) (r.map fun a=>a*n):=by
  have:rpl 1 (ofQ r) r:=by
   clear h0;unfold ofQ
   induction r with
   | nil=>trivial
   | cons a r ih=>exact ⟨⟨⟨af,af⟩,af⟩,ih⟩
  have:=ut n this;simpa using this
 rw [KH h,uL,Y9]
theorem KD {p:List Int} (hp:in6 p) (hl:0<p.length):0<L0 p:=by
 have hc:∀ c∈c6P,0<lgI 512 c:=aJ;cases p with
 | nil=>simp at hl
 | cons c p=>exact hc c (hp.2.2 c af)
theorem FI {p r:List Int} {n:Nat} (hpc:pcB p=0) (hp:in6 p) (hl:0<p.length) (h0:0<n) (h1:n<=10000) (lr:r.length=p.length) (hr:∀ x∈r,x.natAbs<=9) :
  ∃ q:Int,yx p n r q∧q.natAbs<=(18*n+1)*n*48∧q*(2*L0 p)<=2*(n*bw r (L5 p))+L0 p∧2*(n*bw r (L5 p))+L0 p<(q+1)*(2*L0 p):=by
 obtain ⟨q,E,hq⟩:=er6 hpc hp hl h0 h1 lr hr;have ho:bdL 1 9 (ofQ r):=Ev (b:=1) hr;have lo:(ofQ r).length=p.length:=by simp [ofQ,lr]
 obtain ⟨q',f1,_,f3⟩:=XS hp hl h0 h1 (b:=1) (A:=9) ae ae ae lo ho;have:q'=q:=by rw [<- FK f1,<- FK E.fl]
 subst this;have hb:=nQ hl h0 (p:=p);have hx:=Ev (b:=n) hr;have lst:=ni (n:=n) hl
 have hA:bdL n (2*(9*n)+1) (rN p (ofQ r) (bY p n)):=by
  have:=xo (n:=p.length) (z:=2) (w:=1) hx hb;simpa [rN] using this
 have hB:bdL n 2 (pV p (bY p n)):=by
  have:=qg (n:=p.length) (z:=2) hb;simpa [pV] using this
 have la:(rN p (ofQ r) (bY p n)).length=p.length:=jL fun t ht=>by
  simp only [Zr,Zc,or_false] at ht;rcases ht with rfl | rfl
  ·exact lo
  ·exact lst
 have lb:(pV p (bY p n)).length=p.length:=jL fun t ht=>by
  simp only [Zr,Zc,or_false] at ht;rw [ht];exact lst
 have vb:vlS p n (pV p (bY p n))=2*L0 p:=by unfold pV;rw [EE lst hb,zK hl h0]
 have va:vlS p n (rN p (ofQ r) (bY p n))=2*(n*bw r (L5 p))+L0 p:=by unfold rN;rw [ED lo lst hx hb,zK hl h0,NR h0,Int.one_mul]
 have l0:=KD hp hl;obtain ⟨c1,c2⟩:=SV hp h0 h0 hA hB la lb (by rw [vb];omega) f3;rw [va,vb] at c1 c2;have n0:(0:Int)<n:=aa;refine ⟨q',E,hq,Int.le_of_mul_le_mul_left ?_ n0,Int.lt_of_mul_lt_mul_left ?_ (Y3 n0)⟩
 ·rw [<- Int.mul_assoc,Y9 (n:Int) q',Int.mul_assoc];exact c1
 ·rw [<- Int.mul_assoc (n:Int),Y9 (n:Int) (q'+1),Int.mul_assoc];exact c2
theorem NS {p r:List Int} {n:Nat} {q:Int} (hl:0<p.length) (h0:0<n) (lr:r.length=p.length) (hr:∀ x∈r,x.natAbs<=9):vlS p n (fF p n q (ofQ r))=q*L0 p-n*bw r (L5 p):=by
 have hb:=nQ hl h0 (p:=p);have ht:bdL n (q.natAbs*1) (jy p n q):=qg hb;have e1:vlS p n (jy p n q)=q*L0 p:=by unfold jy;rw [EE (ni hl) hb,zK hl h0]
 unfold fF;rw [ED (rE hl) (by simp [ofQ,lr]) ht (Ev (b:=n) hr),e1,NR h0];omega
theorem Ml {x:Q} (hx:0<x.2) (k:Nat):js x (List.replicate k (0,1)) (List.replicate k (0,1))=List.replicate k (0,1):=by
 induction k with
 | zero=>simp [js]
 | succ k ih=>
  rw [List.replicate_succ,js,ih];have e1:kZ ((0,1):Q) x=(0,1):=jh ⟨V2,af⟩ (by simpa using hx) af;have e2:nC ((0,1):Q) (0,1)=(0,1):=ae;rw [e1,e2]
structure ZQ (p:List Int) (m:Nat) (bd:List Q):Prop where
 m0:0<m
 m1:m<=1000
 ln:bd.length=p.length
 bd:bdL m 1000 bd
theorem ZQ.ok {p:List Int} {m:Nat} {bd:List Q} (b:ZQ p m bd):okS bd:=mj b.m0 b.bd (by have:=b.m1;omega) aa
theorem R7 {p:List Int} {s t:List Q} (hp:pcB p=0) (hN:p.length<1000000) (hl:s.length=p.length) (hs:okS s) (hlt:t.length=p.length) (ht:okS t) (hr:okS (ix p.length [s,t] [(1,1),(1,1)])) :
  CP Y F.pD [lst di p,szV s,szV t] (.tup [szV (ix p.length [s,t] [(1,1),(1,1)]),I 0]):=by
 refine Jr ?_
 have cb:=vO (p:=p) (l:=[s,t]) (fs:=[(1,1),(1,1)]) hp hN af rfl (fun u hu=>by
  simp at hu;rcases hu with rfl | rfl
  ·exact ⟨hl,hs⟩
  ·exact ⟨hlt,ht⟩) (fun x hx=>by
  simp at hx;subst hx;exact vC 1 aa aa) hr
 have l1:∀ H,dE 2 [D.pl (Value.slice none 0 0)] [(0,szV s),(1,szV t)] H=some ([szD s,szD t],H):=fun H=>J4 ..
 have l2:∀ H,dE 2 [D.str [],D.str []] [(0,.agg (qT (1,1))),(1,.agg (qT (1,1)))] H=some (aT (tx (1,1))++aT (tx (1,1)),H):=fun H=>Lv (1,1) (1,1) H
 simp (disch:=try exact ac)[pD,l1];refine cd (eQ (z:=1) aa aa) ?_;simp (disch:=try exact ac)[];refine cd (eQ (z:=1) aa aa) ?_;simp (disch:=try exact ac)[l2];refine cd (v:=.tup [szV (ix p.length [s,t] [(1,1),(1,1)]),I 0]) cb ?_ (by simp [ai,aI,norm])
 simp (disch:=try exact ac)[];exact ax (pW _ _) rfl
theorem D7 {p:List Int} {n:Nat} (hl:0<p.length) (h0:0<n):ix p.length [bY p n] [(1,2)]=bY p (2*n):=by
 obtain ⟨k,hk⟩:∃ k,p.length=k+1:=⟨p.length-1,aa⟩;rw [pr hl h0,pr hl aa];unfold ix;rw [hk,List.replicate_succ];simp only [pT,js,Xq];rw [Ml (x:=(1,2)) ae k];have e1:kZ ((1,n):Q) (1,2)=(1,2*n):=jh ⟨by show 0<2*n;omega,af⟩ (by show 0<n*2;omega) (by simp [Zy]);rw [e1]
 have e2:nC ((0,1):Q) (1,2*n)=(1,2*n):=jh ⟨by show 0<2*n;omega,af⟩ (by show 0<1*(2*n);omega) af;rw [e2]
theorem FS:∀ (r L:List Int),bw (dK r) L = -bw r L
 | [],L=>by simp [dK,bw]
 | a::r,[]=>by simp [dK,bw]
 | a::r,b::L=>by
  have:=FS r L;simp only [dK] at this;simp only [dK,Zz,bw,this,Xw];omega
theorem T5 {p:List Int} {s:List Q} {b B:Nat} (hp:in6 p) (hl:s.length=p.length) (hb:0<b) (h:bdL b B s) (hB:B<9223372036854775808):uQ p s (vlS p b s).sign:=
 Ov hp hl hb (nO h).1 (nO h).2 hB
theorem J9 {p r:List Int} {n:Nat} (hpc:pcB p=0) (hp:in6 p) (hl:0 < p.length) (h0:0 < n) (h1:n<=1000) (lr:r.length=p.length) (hr:∀ x ∈ r,x.natAbs<=9) :
  ∃ (A T:List Q) (c z:Int),CP Y F.nU [lst di p,szV (erD p n (eD p n) r)] (.tup [szV A,I 0])∧CP Y F.iE [lst di p,szV A,szV (bY p (2 * n))] (.tup [I c,I 0]) ∧
   CP Y F.pD [lst di p,szV (erD p n (eD p n) r),szV (erD p n (eD p n) (dK r))] (.tup [szV T,I 0])∧CP Y F.mD [lst di p,szV T] (.tup [I z,I 0])∧c<=0∧(c < 0->z=0):=by
 have hN:=hp.2.1;have lr':(dK r).length=p.length:=by simp [dK,lr]
 have hr':∀ x ∈ dK r,x.natAbs<=9:=fun x hx=>by
  simp only [dK,Zg] at hx;obtain ⟨y,hy,rfl⟩:=hx;have:=hr y hy;omega
 obtain ⟨q,E,b1,c1,c2⟩:=FI hpc hp hl h0 aa lr hr;obtain ⟨q',E',b2,c3,c4⟩:=FI hpc hp hl h0 aa lr' hr';rw [FS] at c3 c4;have v1:=NS (q:=q) hl h0 lr hr;have v2:=NS (q:=q') hl h0 lr' hr';rw [FS] at v2;have l0:=KD hp hl;have m1:(18 * n+1) * n<=18001 * 1000:=Zq aa h1;have d1:=yr (q:=q) hl h0 hr;have d2:=yr (q:=q') hl h0 hr'
 have e1:erD p n (eD p n) r=fF p n q (ofQ r):=by unfold erD;rw [qQ E]
 have e2:erD p n (eD p n) (dK r)=fF p n q' (ofQ (dK r)):=by unfold erD;rw [qQ E']
 rw [e1,e2];have ld1:(fF p n q (ofQ r)).length=p.length:=qO hl (by simp [ofQ,lr]);have ld2:(fF p n q' (ofQ (dK r))).length=p.length:=qO hl (by simp [ofQ,lr']);obtain ⟨v,hv⟩:∃ v,v=vlS p n (fF p n q (ofQ r)):=⟨_,rfl⟩;obtain ⟨X,hX⟩:∃ X,X=n * bw r (L5 p):=⟨_,rfl⟩;have eX:(n:Int) * -bw r (L5 p) = -X:=by rw [hX,Int.mul_neg]
 rw [eX] at c3 c4 v2;rw [<- hX] at c1 c2 v1;have sg:=T5 hp ld1 h0 d1 aa;rw [<- hv] at sg v1
 have z3:v.sign = -1∨v.sign=0∨v.sign=1:=by
  rcases Int.lt_trichotomy v 0 with h | h | h
  ·exact .inl (Yd h)
  ·exact .inr (.inl (by rw [h];rfl))
  ·exact .inr (.inr (X0 h))
 have ab:=RA hpc aa ld1 E.er sg aa aa;obtain ⟨A,hA⟩:∃ A,A=KB p (fF p n q (ofQ r)) v.sign:=⟨_,rfl⟩
 have vA:vlS p n A=v.natAbs:=by
  rw [hA];unfold KB;rw [EE ld1 d1,<- hv];have k1:re (-1) = -1:=ae;have k2:re 1=1:=ae;rcases Int.lt_trichotomy v 0 with h | h | h
  ·rw [Yd h,k1];omega
  ·rw [h,Int.mul_zero];rfl
  ·rw [X0 h,k2];omega
 have bA:bdL n ((re v.sign).natAbs * (q.natAbs+9 * n)) A:=by rw [hA];exact qg d1
 have kA:(re v.sign).natAbs<=1:=Mn aa aa
 have kA2:(re v.sign).natAbs * (q.natAbs+9 * n)<=q.natAbs+9 * n:=by
  have:=Z4 (q.natAbs+9 * n) kA;omega
 have lA:A.length=p.length:=by rw [hA];exact jL fun t ht=>by simp at ht;rw [ht];exact ld1
 have lh:=ni (n:=2 * n) hl;have bh:=nQ (p:=p) (n:=2 * n) hl aa;rw [<- hA] at ab;have hq1:q.natAbs<=864048000:=aa;have hq2:q'.natAbs<=864048000:=aa;have oA:=mj h0 bA aa (Zb kA2 aa);have oh:=mj aa bh aa aa
 have big:(re v.sign).natAbs * (q.natAbs+9 * n) * (2 * n)<=900000000 * 2000:=Zq (Z1 kA2 aa) aa;have cm:=abE hp lA lh h0 aa bA bh aa;rw [vA,zK hl aa] at cm;have co:=Co hpc aa lA lh oA oh cm;have bT:=xo (n:=p.length) (z:=1) (w:=1) d1 d2
 have eB:(1:Int).natAbs * (q.natAbs+9 * n)+(1:Int).natAbs * (q'.natAbs+9 * n)=q.natAbs+9 * n+(q'.natAbs+9 * n):=by simp only [Int.natAbs_one,Xz]
 rw [eB] at bT;have oT:=mj h0 bT aa aa;have ad:=R7 hpc aa ld1 E.er ld2 E'.er oT
 have lT:(ix p.length [fF p n q (ofQ r),fF p n q' (ofQ (dK r))] [(1,1),(1,1)]).length=p.length:=jL fun t ht=>by
  simp only [Zr,Zc,or_false] at ht;rcases ht with rfl | rfl
  ·exact ld1
  ·exact ld2
 have vT:=ED (z:=1) (w:=1) ld1 ld2 d1 d2;rw [<- hv,v2] at vT;have sT:=T5 hp lT h0 bT aa;rw [vT] at sT;have si:=Mo hpc aa lT oT sT;have n0:(0:Int) < n:=aa
 have e3:(v.natAbs:Int) * ((2 * n:Nat):Int) - L0 p * n=(2 * (v.natAbs:Int) - L0 p) * n:=by
  rw [Int.natCast_mul,Int.sub_mul];grind
 rw [e3] at co;have f1:q * (2 * L0 p)=2 * (q * L0 p):=by grind
 have f2:(q+1) * (2 * L0 p)=2 * (q * L0 p)+2 * L0 p:=by grind
 have f3:q' * (2 * L0 p)=2 * (q' * L0 p):=by grind
 have f4:(q'+1) * (2 * L0 p)=2 * (q' * L0 p)+2 * L0 p:=by grind
 rw [f1] at c1;rw [f2] at c2;rw [f3] at c3;rw [f4] at c4;have hle:2 * (v.natAbs:Int) - L0 p<=0:=aa;refine ⟨_,_,_,_,ab,co,ad,si,?_,fun hc=>?_⟩
 ·have:(2 * (v.natAbs:Int) - L0 p) * n<=0:=Yj hle aa;rcases Int.lt_trichotomy ((2 * (v.natAbs:Int) - L0 p) * n) 0 with h | h | h
  ·rw [Yd h];omega
  ·rw [h];simp
  ·omega
 ·rw [Ou] at hc
  have hlt:2 * (v.natAbs:Int) - L0 p < 0:=by
   refine Int.lt_of_not_ge fun h=>?_
   have:=Yi h (Y3 n0);omega
  -- the steps of the inverse are opposite
  have hq:q' = -q:=by
   have g1:q' * L0 p < (-q+1) * L0 p:=by rw [Ye,Xw];omega
   have g2:(-q - 1) * L0 p < q' * L0 p:=by rw [Int.sub_mul,Xw];omega
   have g3:=Xa g1 (Y3 l0);have g4:=Xa g2 (Y3 l0);omega
  have:1 * v+1 * (q' * L0 p - -X)=0:=by rw [hq,Xw];omega
  rw [this];rfl
theorem Uh {l:List Rw} (hr:∀ r∈l,rcB r=0) (hN:l.length<=60) (k:KL) (x0 x2:Nat × Bk) (h0:Hp) (hh:h0.length=3):∀ (q a:List Rw),a++q=l ->
  k (.exit 0) [acL.v l.length ((l.map dK).map row)] [x0,acL.b l.length ((l.map dK).map row),x2] ->
  lp (d7 (CX Y) (mat l)) [] h0 [acL.v a.length ((a.map dK).map row),I a.length] [x0,acL.b a.length ((a.map dK).map row),x2] k
 | [],a,ha,hk=>by
  simp at ha;subst ha;have l1:bC (mat a)=some (I a.length):=rfl;refine av ?_;simp (disch:=try exact ac)[d7,l1];simpa using hk
 | r::q,a,ha,hk=>by
  have hr1:r∈l:=by rw [<- ha];simp
  have hal:a.length<l.length:=by subst ha;simp
  have er:nth [] l a.length=r:=by subst ha;simp
  have l1:bC (mat l)=some (I l.length):=rfl;have i1:=fun h=>cC row l h (k:=.i64) (i:=(a.length:Int)) aa aa
  have i2:=fun h=>dy row [] l h (j:=a.length) hal
  rw [er] at i2;simp only [Int.toNat_natCast] at i1;have g1:(a.length:Int)<(l.length:Int):=aa;have ng:=Sa (hr r hr1);obtain ⟨C,hC⟩:∃ C,C=(a.map dK).map row:=⟨_,rfl⟩;have es:((a++[r]).map dK).map row=C++[row (dK r)]:=by rw [hC];simp
  have ih:=Uh hr hN k x0 x2 h0 hh q (a++[r]) (by simpa using ha) hk;rw [es] at ih;have li:∀ H,dE 1 [D.pl (Value.slice none 0 0)] [(0,lst di (dK r))] H=some ([row (dK r)],H):=fun H=>Bz ..
  have cL:C.length=a.length*acL.n:=by simp [acL,hC]
  have cG:∀ y z u w:Nat × Bk,([y,z,u]:Hp).set acL.s w=[y,w,u]:=fun y z u w=>rfl
  have ev:∀ c,acL.v (a.length+1) c=.ref acL.s (acL.e+1) 0 (a.length+1) (a.length+1) c.length:=fun c=>rfl
  have eb:∀ c,acL.b (a.length+1) c=(acL.e+1,.data acL.n c false false):=fun c=>rfl
  have hre:∀ y:Hp,y.length=3->aG [] 0 h0 y=y:=fun y hy=>cW 0 h0 y aa
  rw [<- hC];refine av ?_;simp (disch:=try exact ac)[d7,l1,i1,i2,g1];refine cd ng ?_;simp (disch:=try exact ac)[li];refine m5 acL (k:=1) aa rfl cL (by rfl) rfl (fun t e=>by cases e) aa ae ?_;simp (disch:=try exact ac)[cG,hre];simpa [ev,eb] using ih
theorem FE {α β:Type} (f:β->D) (g:α->β) (l:List α):bC (lst f (l.map g))=some (I l.length):=by rw [show bC (lst f (l.map g))=some (I (l.map g).length) from rfl,List.length_map]
theorem Ug {p:List Int} {l:List Rw} {n:Nat} (G:Cn p l) (h0':0<n) (h1':n<=1000) (hN:l.length<=60) (k:KL) (h0:Hp):∀ (q a:List Rw),a++q=l->k (.exit 2) [] h0 ->
  lp (d6 (CX Y) (lst di p) (lst szD (l.map (erD p n (eD p n)))) (lst szD ((l.map dK).map (erD p n (eD p n)))) (szV (bY p (2*n)))) [] h0 [I a.length] h0 k
 | [],a,ha,hk=>by
  simp at ha;subst ha;have l1:=FE szD (erD p n (eD p n)) a;refine av ?_;simp (disch:=try exact ac)[d6,l1];exact hk
 | r::q,a,ha,hk=>by
  have hr1:r∈l:=by rw [<- ha];simp
  have hal:a.length<l.length:=by subst ha;simp
  have er:nth [] l a.length=r:=by subst ha;simp
  obtain ⟨lr,h9⟩:=G.rw r hr1;obtain ⟨A,T,c,z,ab,co,ad,si,hc,hz⟩:=J9 G.pc G.i6 G.hl h0' h1' lr h9;have ih:=Ug G h0' h1' hN k h0 q (a++[r]) (by simpa using ha) hk
  have x1:∀ (f:Rw->List Q) (h:Hp),ixV h 1 (lst szD (l.map f)) (I (a.length:Int))=some (.dptr ((l.map f).map szD) a.length):=fun f h=>by
   have:=cC szD (l.map f) h (k:=.i64) (i:=(a.length:Int)) aa au;simpa only [Int.toNat_natCast] using this
  have x2:∀ (f:Rw->List Q) (h:Hp),ld1 h (.dptr ((l.map f).map szD) a.length)=some (szV (f r)):=fun f h=>by
   have:=dy szD [] (l.map f) h (j:=a.length) (by simpa using hal);rw [fL [] (l.map f) a.length (by simpa using hal),List.getElem_map,<- fL [] l a.length hal,er] at this;exact this
  have eb:(l.map dK).map (erD p n (eD p n))=l.map fun x=>erD p n (eD p n) (dK x):=by rw [List.map_map];rfl
  have a1:=x1 (erD p n (eD p n));have a2:=x2 (erD p n (eD p n));have b1:=x1 fun x=>erD p n (eD p n) (dK x)
  have b2:=x2 fun x=>erD p n (eD p n) (dK x)
  have l1:=FE szD (erD p n (eD p n)) l;rw [eb] at ih ⊢;obtain ⟨LA,hLA⟩:∃ LA,LA=l.map (erD p n (eD p n)):=⟨_,rfl⟩;obtain ⟨LB,hLB⟩:∃ LB,LB=l.map fun x=>erD p n (eD p n) (dK x):=⟨_,rfl⟩
  rw [<- hLA] at a1 a2 l1 ih ⊢;rw [<- hLB] at b1 b2 ih ⊢;obtain ⟨s1,hs1⟩:∃ s1,s1=erD p n (eD p n) r:=⟨_,rfl⟩;obtain ⟨s2,hs2⟩:∃ s2,s2=erD p n (eD p n) (dK r):=⟨_,rfl⟩;rw [<- hs1] at a2 ab ad;rw [<- hs2] at b2 ad;have g1:(a.length:Int)<(l.length:Int):=aa;have sn1:∀ (h:Hp) (x:List Q),ai h [lst di p,szV x]=some ([lst di p,szV x],h):=fun h x=>by simp [ai,szV,cX]
  have sn:∀ (h:Hp) (x y:List Q),ai h [lst di p,szV x,szV y]=some ([lst di p,szV x,szV y],h):=fun h x y=>by simp [ai,szV,cX]
  refine av ?_;simp (disch:=try exact ac)[d6,l1,a1,a2,g1];refine cd ab ?_ (sn1 _ _);simp (disch:=try exact ac)[];refine cd co ?_ (sn _ _ _);simp (disch:=try exact ac)[a1,a2,b1,b2];refine cd ad ?_ (sn _ _ _);simp (disch:=try exact ac)[];refine cd si ?_ (sn1 _ _);have g2:¬ 0<c:=aa;by_cases g3:c<0
  ·have g4:=hz g3;subst g4;simp (disch:=try exact ac)[g2,g3];simpa using ih
  ·simp (disch:=try exact ac)[g2,g3];simpa using ih
theorem Ta {p:List Int} (hl:0<p.length):bw (mJ p.length) (L5 p)=L0 p:=by
 cases p with
 | nil=>simp at hl
 | cons c p=>simp [mJ,L0,L5,bw,pf]
theorem NU {p:List Int} {n:Nat} (hl:0<p.length) (h0:0<n):fF p n n (ofQ (mJ p.length))=zQ p:=by
 obtain ⟨k,hk⟩:∃ k,p.length=k+1:=⟨p.length-1,aa⟩;have hu:ofQ (mJ p.length)=((1,1):Q)::List.replicate k (0,1):=by rw [hk];simp [ofQ,mJ]
 have az:=fun {x:Q} (hx:0<x.2)=>Ml hx k
 have ht:jy p n n=((1,1):Q)::List.replicate k (0,1):=by
  unfold jy;rw [pr hl h0];unfold ix;rw [hk,List.replicate_succ];simp only [pT,js,Xq];rw [az (x:=((n:Int),1)) af];have e1:kZ ((1,n):Q) ((n:Int),1)=(1,1):=jh ⟨af,af⟩ (by show 0<n*1;omega) af;rw [e1];have e2:nC ((0,1):Q) (1,1)=(1,1):=ae;rw [e2]
 unfold fF;rw [hu,ht];unfold ix zQ;rw [hk,List.replicate_succ];simp only [pT,js];rw [az (x:=((1:Int),1)) af,az (x:=((-1:Int),1)) af];have e1:nC (nC ((0,1):Q) (kZ (1,1) (1,1))) (kZ (1,1) (-1,1))=(0,1):=ae;rw [e1]
theorem RN {p:List Int} {n:Nat} (hpc:pcB p=0) (hp:in6 p) (hl:0<p.length) (h0:0<n) (h1:n<=10000):erD p n (eD p n) (mJ p.length)=zQ p:=by
 have l0:=KD hp hl;have lu:(mJ p.length).length=p.length:=by simp [mJ];omega
 obtain ⟨q,E,_,c1,c2⟩:=FI hpc hp hl h0 h1 lu (fun x hx=>by simp [mJ] at hx;rcases hx with rfl | ⟨_,rfl⟩ <;> decide);rw [Ta hl] at c1 c2
 have hq:q=n:=by
  have f1:q*(2*L0 p)=2*(q*L0 p):=by grind
  have f2:(q+1)*(2*L0 p)=2*(q*L0 p)+2*L0 p:=by grind
  have g1:q*L0 p<(n+1)*L0 p:=by rw [Ye];omega
  have g2:(n-1)*L0 p<q*L0 p:=by rw [Int.sub_mul];omega
  have g3:=Xa g1 (Y3 l0);have g4:=Xa g2 (Y3 l0);omega
 unfold erD;rw [qQ E,hq,NU hl h0]
set_option maxHeartbeats 600000 in
theorem P9 {k m:Nat} {e:List I4} (hk:k<256) (hm:m<65536) (hb:∀ x∈e,ok4 x):CP Y F.bO [.agg [.d (.int .u8 k),cX i4D e],.d (.int .u16 m)] (B true):=by
 refine oP ?_;have snD:∀ h:Hp,ai h [.agg [.d (.int .u8 k),cX i4D e]]=some ([.agg [.d (.int .u8 k),cX i4D e]],h):=fun h=>by simp [ai,aI,cX]
 have fi:=D8 (k:=k) (e:=e);by_cases h6:e.length<=6
 ·rw [decide_eq_true h6] at fi;obtain ⟨p1,p2,p3,p4,p5⟩:=Pq _ (xM k);have mo:=DV (e:=e) hk aa hb;obtain ⟨p,hp⟩:∃ p,p=u9 k:=⟨_,rfl⟩;rw [<- hp] at p1 p2 p3 p4 p5 mo;obtain ⟨n,hn⟩:∃ n,n=m % 1000+1:=⟨_,rfl⟩;have en:1+(m:Int) % 1000=(n:Int):=by rw [hn];omega
  have m1:0<=(m:Int) % 1000∧(m:Int) % 1000<1000:=aa
  have gds:Cn p (e.map (mkI p)):=⟨p1,⟨p2,aa,p5⟩,p3,fun r hr=>by
    obtain ⟨y,_,rfl⟩:=Zg.1 hr;exact ⟨LC rfl p4,Qf _ _⟩⟩
  have lle:(e.map (mkI p)).length<=6:=by rw [List.length_map];omega
  obtain ⟨l,hl⟩:∃ l,l=e.map (mkI p):=⟨_,rfl⟩;rw [<- hl] at gds lle mo;have mz:∀ {l:List Rw},Cn p l->∀ r∈l,mzB p [r]=0:=fun G r hr=>Fv p1 (G.rw r hr).1 (EP (G.rw r hr).2)
  have gdb:Cn p (l.map dK):=⟨p1,gds.i6,p3,fun r hr=>by
   obtain ⟨s,hs,rfl⟩:=Zg.1 hr;obtain ⟨h1,h2⟩:=gds.rw s hs;refine ⟨by simp [dK,h1],fun x hx=>?_⟩;simp only [dK,Zg] at hx;obtain ⟨y,hy,rfl⟩:=hx;have:=h2 y hy;omega⟩
  have lu:(mJ p.length).length=p.length:=by simp [mJ];omega
  have gdu:Cn p [mJ p.length]:=⟨p1,gds.i6,p3,fun r hr=>by
   simp only [List.mem_singleton] at hr;subst hr;exact ⟨lu,fun x hx=>by simp [mJ] at hx;rcases hx with rfl | ⟨_,rfl⟩ <;> decide⟩⟩
  have dv:dvC p n=0:=by unfold dvC;rw [if_pos p1,if_neg aa]
  have er:=uI (p:=p) (n:=n) aa aa dv (mz gds) (P7 gds aa (n:=n) aa aa).cn.hE;have eb:=uI (p:=p) (n:=n) (l:=l.map dK) aa au dv (mz gdb) (P7 gdb au (n:=n) aa aa).cn.hE
  have eu:=uI (p:=p) (n:=n) (l:=[mJ p.length]) aa af dv (mz gdu) (P7 gdu af (n:=n) aa aa).cn.hE;rw [List.map_singleton,RN p1 gds.i6 p3 aa aa] at eu;have st:=mj aa (nQ (p:=p) (n:=n) p3 aa) aa aa;have st2:=mj aa (nQ (p:=p) (n:=2*n) p3 aa) aa aa
  have sp:=QV (n:=n) p1 aa p3 aa aa st;have nu:=uC (z:=1) (n:=2) aa aa aa aa ae;have sc:=tP (p:=p) (s:=bY p n) (k:=(1,2)) p1 aa (ni p3) st ⟨⟨ae,ae⟩,bb (d:=30) ae ae,bb (d:=30) ae ae⟩ (by rw [D7 p3 aa];exact st2)
  rw [D7 p3 aa] at sc;have ru:=OE (n:=p.length) p3 aa;have zz:=fun h hu=>Gl (h:=h) hu p1 (by omega:p.length<1000000)
  have eq:=x8 (s:=zQ p) (t:=zQ p) (by simp [zQ];omega);rw [decide_eq_true rfl] at eq;have rcl:∀ r∈l,rcB r=0:=fun r hr=>tR.2 ⟨by rw [(gds.rw r hr).1];omega,fun x hx=>nD.2 (by have:=(gds.rw r hr).2 x hx;omega)⟩
  have snQ:∀ (h:Hp) (x:List Q) (y:Q),ai h [lst di p,szV x,.agg (qT y)]=some ([lst di p,szV x,.agg (qT y)],h):=fun h x y=>by simp [ai,aI,szV,cX,qT]
  have lA:=FE szD (erD p n (eD p n)) l;have lB:=FE szD (erD p n (eD p n)) (l.map dK);rw [List.length_map] at lB;have lm:bC (mat l)=some (I l.length):=rfl;have lpp:bC (lst di p)=some (I p.length):=rfl;simp (disch:=try exact ac)[bO];refine cd kJ ?_;simp (disch:=try exact ac)[];refine cd fi ?_ (snD _)
  simp (disch:=try exact ac)[];refine cd mo ?_ (snD _);simp (disch:=try exact ac)[Zt,m1,en];refine lo (Uh rcl aa _ _ _ _ rfl l [] rfl ?_);obtain ⟨C,hC⟩:∃ C,C=(l.map dK).map row:=⟨_,rfl⟩;have lC:C.length=l.length:=by simp [hC]
  have emb:mat (l.map dK)=.d (.sl l.length C):=by simp [lst,hC]
  rw [<- hC];rw [emb] at eb;obtain ⟨h',q1,q2⟩:=lU acL (L:=l.length) (cells:=C) (h:=[(1,.vars [.d (.int .u8 k),cX i4D e]),acL.b l.length C,(0,.none)]) rfl (by simp [acL,lC])
  obtain ⟨y,hy,hub⟩:∃ y:Nat × Bk,h'=[(1,.vars [.d (.int .u8 k),cX i4D e]),y,(0,.none)]∧dU 3 y.2=true:=by
   rcases q2 with ⟨q0,rfl⟩ | ⟨_,rfl⟩
   ·exact ⟨_,rfl,by rw [q0];rfl⟩
   ·exact ⟨_,rfl,rfl⟩
  have zi:=zz [(1,.vars [.d (.int .u8 k),cX i4D e]),y,(0,.none)] (by
   simp only [List.all_cons,List.all_nil,List.length_cons,List.length_nil,hub,Wd];rfl)
  have hl1:=fun k h0 hk=>Ug gds (n:=n) aa aa aa k h0 l [] rfl hk
  obtain ⟨LA,hLA⟩:∃ LA,LA=l.map (erD p n (eD p n)):=⟨_,rfl⟩;obtain ⟨LB,hLB⟩:∃ LB,LB=(l.map dK).map (erD p n (eD p n)):=⟨_,rfl⟩;have gA:LA.length=l.length:=by rw [hLA,List.length_map]
  have gB:LB.length=l.length:=by rw [hLB,List.length_map,List.length_map]
  rw [<- hLA] at er lA hl1;rw [<- hLB] at eb lB hl1;have hfl:=jk aT aS (List.replicate p.length zT);rw [Za] at hfl;have ez:(List.replicate p.length zT)=(zQ p).map tx:=by simp [zQ,zT]
  have lpl:bC (lst szD [zQ p])=some (I 1):=rfl;have u1:∀ h,ixV h 1 (lst szD [zQ p]) (I 0)=some (.dptr [szD (zQ p)] 0):=fun h=>by simp [lst,ixV]
  have u2:∀ h,ld1 h (.dptr [szD (zQ p)] 0)=some (szV (zQ p)):=fun h=>rfl
  simp (disch:=try exact ac)[];refine cd er ?_;simp (disch:=try exact ac)[];refine cdz (ds:=[lst di p,I n,.d (.sl l.length C)]) (h':=h') (by simp only [ai,pu,aI,norm,q1]) eb ?_;have npl:∀ A:List (List Q),gH (.tup [lst szD A,I 0])=false:=fun A=>rfl
  simp only [npl,Zl,if_false,hy];simp (disch:=try exact ac)[];refine cd sp ?_;simp (disch:=try exact ac)[];refine cd nu ?_;simp (disch:=try exact ac)[];refine cd sc ?_ (snQ _ _ _);simp (disch:=try exact ac)[lA,lB,lm,gA,gB];refine lo (hl1 _ _ ?_);simp (disch:=try exact ac)[lpp];refine cd ru ?_
  have li:∀ H,dE 1 [D.pl (Value.slice none 0 0)] [(0,lst di (mJ p.length))] H=some ([row (mJ p.length)],H):=fun H=>Bz ..
  simp (disch:=try exact ac)[li];refine cd (v:=.tup [lst szD [zQ p],I 0]) eu ?_ (by simp [ai,aI,norm]);simp (disch:=try exact ac)[];refine kh (Cg (e:=0) (b:=.none) zi rfl ?_);rw [hfl,ez]
  have sn:=KV (h:=[(1,.vars [.d (.int .u8 k),cX i4D e]),y,(1,.data 2 (((zQ p).map tx).flatMap aT) true false)]) (s:=2) (e:=1) rfl (by simp [zQ]:((zQ p).map tx).length=p.length);simp (disch:=try exact ac)[lpl,u1,u2]
  refine cdz (ds:=[szV (zQ p),szV (zQ p)]) (by simp only [ai,sn,show ∀ h:Hp,aI h (szV (zQ p))=some (szV (zQ p),h) from fun h=>by simp [aI,szV,cX]];rfl) eq ?_;simp (disch:=try exact ac)[]
 ·rw [decide_eq_false h6] at fi;simp (disch:=try exact ac)[bO];refine cd kJ ?_;simp (disch:=try exact ac)[];refine cd fi ?_ (snD _);simp (disch:=try exact ac)[];refine cd kJ ?_;simp (disch:=try exact ac)[]
end Go.Vm
