/- The law of divisions: Primes. -/
import Derived.Test.YtaiahkcmdnaooaaGreatDoorQDv
import Derived.Test.YtaiahkcmdnaooaaGreatDoorQRefRow
import Derived.Test.YtaiahkcmdnaooaaGreatDoorQT
set_option linter.unusedVariables false
set_option linter.unusedSimpArgs false
namespace Go.Vm
open Go Go.Am Go.Big
def qp:List (List Int):=[[2,3,5],[2,3,5,7],[2,3],[2,3,7],[2,5,7],[3,5,7],[2,3,5,11],[2],[2,3,7,13],[3,5,7,13]]
def u9 (k:Nat):List Int:=qp.getD (k % 10) []
theorem Hz {k:Nat} (hk:k<256):CP Y F.dM [.d (.int .u8 k)] (lst di (u9 k)):=by
 refine sS ?_;have c1:cvI .i64 (.d (.int .u8 (k:Int)))=some (I k):=by rw [LZ,wrap_i64 ⟨aa,aa⟩]
 have m1:biI .rem (I (k:Int)) (I 10)=some (I ((k % 10:Nat):Int)):=by
  rw [TH aa,Zt aa];congr 3
 have hkk:k % 10<10:=Yw _ ae;have i1:=fun H:Hp=>cC row qp H (k:=.i64) (i:=((k % 10:Nat):Int)) aa (by show ((k % 10:Nat):Int)<10;omega)
 have i2:=fun H:Hp=>dy row [] qp H (j:=k % 10) hkk
 have hn:nth [] qp (k % 10)=u9 k:=rfl;rw [hn] at i2;generalize k % 10=j at *;simp only [Int.toNat_natCast] at i1;simp (disch:=try exact ac)[dM,dE,gG,jw,toD,c1];have hw:IntKind.wrap .i64 (k:Int)=(k:Int):=wrap_i64 ⟨aa,aa⟩
 show rn (bnd (bC (lst row qp))) (fun v13=>bnd (biI .rem (.d (.int .i64 (IntKind.i64.wrap k))) v13) fun v14=>bnd (ixV [] 1 (lst row qp) v14) fun v15=>bnd (ld1 [] v15) fun v16=>out (lst di (u9 k)) v16 []) .mk
 have l10:bC (lst row qp)=some (I 10):=rfl;rw [hw,l10];rw [UP];rw [show biI .rem (.d (.int .i64 (k:Int))) (I 10)=some (I (j:Int)) from m1];rw [pP,i1,pP,i2,pP];exact Sq ..
def itv (l:Nat) (e:List Int):List Int:=(e.take l).map fun x=>x.tmod 10
def i8V (x:Int):V:=.d (.int .i8 x)
def itH (e:List Int) (L:Nat) (c:List D):Hp:=[(1,.vars (e.map i8V)),acL.b L c]
theorem Py:∀ e:List Int,offB [] (.vars (e.map i8V))=true
 | []=>rfl
 | x::e=>by
  have:=Py e;rw [ve] at this ⊢;simp [fE,k9,i8V];simpa [i8V] using this
theorem Ib {p:List Int} {e:List Int} (he:e.length=4) (hb:∀ x∈e,-128<=x∧x<=127) (hp:p.length<=4) (k:KL) (h0:Hp) (hh:h0.length=2):∀ (f i:Nat),i+f=p.length ->
  k (.exit 0) [acL.v (itv p.length e).length ((itv p.length e).map di)] (itH e (itv p.length e).length ((itv p.length e).map di)) ->
  lp (fH (CX Y) (lst di p) (.ptr 0 1 0 4)) [] h0 [acL.v (itv i e).length ((itv i e).map di),I i] (itH e (itv i e).length ((itv i e).map di)) k
 | 0,i,hi,hk=>by
  have g:¬ (i:Int)<(p.length:Int):=aa;have:i=p.length:=aa;subst this;have l1:bC (lst di p)=some (I p.length):=rfl;refine av ?_;simp (disch:=try exact ac)[fH,l1];exact hk
 | f+1,i,hi,hk=>by
  have g:(i:Int)<(p.length:Int):=aa;have g2:(i:Int)<4:=aa;have l1:bC (lst di p)=some (I p.length):=rfl;obtain ⟨x,hx⟩:∃ x,e[i]? = some x:=⟨e[i]'(by omega),List.getElem?_eq_getElem aa⟩;have hxm:=hb x (Ym hx);have li:(itv i e).length=i:=by simp [itv];omega
  have ih:=Ib he hb hp k h0 hh f (i+1) aa hk
  have es:itv (i+1) e=itv i e++[x.tmod 10]:=by
   unfold itv;rw [Wo,hx];simp
  rw [es] at ih;have hlt:i<e.length:=aa
  have hxe:e[i]=x:=by
   have:=List.getElem?_eq_getElem hlt;rw [hx] at this;simpa using this.symm
  have he':4=e.length:=he.symm;have r1 : -10<x.tmod 10:=Int.lt_tmod_of_pos x ae;have r2:=Int.tmod_lt_of_pos x (b:=10) ae;have li1:∀ (z:Int) (H:Hp),dE 1 [D.int IntKind.i64 0] [(0,V.d (D.int IntKind.i64 z))] H=some ([di z],H):=fun z H=>by simp [dE,gG,jw,toD,di]
  have cR:((itv i e).map di).length=(itv i e).length*acL.n:=by simp [acL]
  have cG:∀ x y:Nat × Bk,([(1,.vars (e.map i8V)),x]:Hp).set acL.s y=[(1,.vars (e.map i8V)),y]:=fun x y=>rfl
  have hre:∀ x:Hp,x.length=2->aG [] 0 h0 x=x:=fun x hx=>cW 0 h0 x aa
  have ev:∀ c,acL.v ((itv i e).length+1) c=.ref acL.s (acL.e+1) 0 ((itv i e).length+1) ((itv i e).length+1) c.length:=fun c=>rfl
  have eb:∀ c,acL.b ((itv i e).length+1) c=(acL.e+1,.data acL.n c false false):=fun c=>rfl
  refine av ?_;simp (disch:=try exact ac)[fH,l1,g,g2,itH,he',hxe,i8V,li1];refine m5 acL (k:=1) aa rfl cR (by rfl) rfl (fun t e=>by cases e) aa ae ?_;have hoff:=Py e;simp (disch:=try exact ac)[cG,hre,clean,fE,oC,ow,eh,k9,hoff];refine ⟨rfl,?_⟩;simpa [ev,eb,itH] using ih
theorem Jb {p:List Int} {a b c d:Int} (ha : -128<=a∧a<=127) (hb : -128<=b∧b<=127) (hc : -128<=c∧c<=127) (hd : -128<=d∧d<=127) (hp:p.length<=4):CP Y F.cV [lst di p,.agg [i8V a,i8V b,i8V c,i8V d]] (lst di (itv p.length [a,b,c,d])):=by
 refine qI ?_
 have hl:=Ib (p:=p) (e:=[a,b,c,d]) rfl (by
  intro x hx;simp only [Zr,Zc,or_false] at hx;rcases hx with rfl | rfl | rfl | rfl <;> assumption) hp (exK [((.exit 0),fun l2 h=>out (lst di (itv p.length [a,b,c,d])) (ge l2 0) h)]) [(1,.vars [i8V a,i8V b,i8V c,i8V d]),(0,.none)] rfl p.length 0 aa (by
  obtain ⟨h',q1,_⟩:=lU acL (L:=(itv p.length [a,b,c,d]).length) (cells:=(itv p.length [a,b,c,d]).map di) (h:=itH [a,b,c,d] (itv p.length [a,b,c,d]).length ((itv p.length [a,b,c,d]).map di)) rfl (by simp [acL]);simp only [exK];exact ⟨h',q1⟩)
 simp (disch:=try exact ac)[cV];exact hl
theorem KA (n k:Nat) (hn:0<n):js (1,n) (List.replicate k (0,1)) (List.replicate k (0,1))=List.replicate k (0,1):=by
 induction k with
 | zero=>simp [js]
 | succ k ih=>
  rw [List.replicate_succ,js,ih];have e1:kZ ((0,1):Q) (1,n)=(0,1):=jh ⟨V2,af⟩ (by simpa using hn) af;have e2:nC ((0,1):Q) (0,1)=(0,1):=ae;rw [e1,e2]
theorem pr {p:List Int} {n:Nat} (hl:0<p.length) (h0:0<n):bY p n=(1,n)::List.replicate (p.length-1) (0,1):=by
 obtain ⟨k,hk⟩:∃ k,p.length=k+1:=⟨p.length-1,aa⟩;unfold bY ix fW;rw [hk,List.replicate_succ];simp only [pT,js,Xq];rw [KA n k h0];have e1:kZ ((1,1):Q) (1,n)=(1,n):=jh ⟨h0,af⟩ (by simpa using h0) af;rw [e1];have e2:nC ((0,1):Q) (1,n)=(1,n):=jh ⟨h0,af⟩ (by simpa using h0) af;rw [e2]
theorem nQ {p:List Int} {n:Nat} (hl:0<p.length) (h0:0<n):bdL n 1 (bY p n):=by
 rw [pr hl h0];intro x hx;simp only [Zr,X9] at hx;rcases hx with rfl | ⟨_,rfl⟩
 ·exact ⟨1,⟨⟨h0,af⟩,af⟩,ae⟩
 ·exact ⟨0,zN n,ae⟩
theorem Dv {d:Nat} (hd:0<d):∀ {p:List Int} {s:List Q},(∀ x∈s,0<=x.1∧0<x.2∧x.2 ∣ d)->∀ t∈dh d p s,0<t.2
 | [],s,_,t,ht=>by simp [dh] at ht
 | p::ps,[],_,t,ht=>by simp [dh] at ht
 | p::ps,x::s,h,t,ht=>by
  have ih:=Dv hd (p:=ps) (s:=s) fun y hy=>h y (by simp [hy])
  obtain ⟨h0,h1,h2⟩:=h x af;have h3:0<d / x.2:=V9 (X6 hd h2) h1;simp only [dh] at ht;split at ht
  ·exact ih t ht
  ·rename_i hx;simp only [Zr] at ht;rcases ht with rfl | ht
   ·exact Yq aa aa
   ·exact ih t ht
theorem TW {p:List Int} {x:Q} {s:List Q} (hp:0<p.length) (hx:x.1≠0):tq p (x::s)≠[]:=by
 cases p with
 | nil=>simp at hp
 | cons c p=>simp [tq,dh,hx]
theorem Sb {p:List Int} {n:Nat} (hl:0<p.length) (h0:0<n):∃ x:Q,pV p (bY p n)=x::List.replicate (p.length-1) (0,1)∧0<x.1:=by
 obtain ⟨k,hk⟩:∃ k,p.length=k+1:=⟨p.length-1,aa⟩;rw [pr hl h0];unfold pV ix;rw [hk,List.replicate_succ];simp only [pT,js,Xq]
 have e:∀ k,js (2,1) (List.replicate k (0,1)) (List.replicate k (0,1))=List.replicate k (0,1):=by
  intro k
  induction k with
  | zero=>simp [js]
  | succ k ih=>
   rw [List.replicate_succ,js,ih];have:nC ((0,1):Q) (kZ (0,1) (2,1))=(0,1):=ae;rw [this]
 rw [e k];refine ⟨_,rfl,?_⟩;have r1:rp n ((1,n):Q) 1:=⟨⟨h0,af⟩,af⟩;have r2:=Ju (zN n) (E9 2 r1);have h:=r2.2;have h':=r2.1.1;obtain ⟨y,hy⟩:∃ y:Q,y=nC (0,1) (kZ (1,n) (2,1)):=⟨_,rfl⟩;rw [<- hy] at h h' ⊢;have h2:0<y.1*(n:Int):=by rw [h];omega
 by_cases hy0:0<y.1
 ·exact hy0
 ·have:=Yi (a:=-y.1) (b:=(n:Int)) aa aa;rw [Xw] at this;omega
theorem Mn {z:Int} (h1 : -1<=z) (h2:z<=1):(re z).natAbs<=1:=by
 have:z = -1∨z=0∨z=1:=aa;rcases this with rfl | rfl | rfl <;> decide
theorem EP {r:List Int} (hr:∀ x∈r,x.natAbs<=9):smR r=true:=by
 unfold smR;rw [Zu];intro x hx;have:=hr x hx;simp only [Z8,decide_eq_true_eq];omega
theorem yr {p r:List Int} {n:Nat} {q:Int} (hl:0<p.length) (h0:0<n) (hr:∀ x∈r,x.natAbs<=9):bdL n (q.natAbs+9*n) (fF p n q (ofQ r)):=by
 have h1:bdL n (q.natAbs*1) (jy p n q):=qg (nQ hl h0);have h2:=Ev (b:=n) hr;have:=xo (n:=p.length) (z:=1) (w:=-1) h1 h2;unfold fF;simpa using this
theorem XS {p:List Int} {s:List Q} {n b A:Nat} (hp:in6 p) (hl:0<p.length) (h0:0<n) (h1:n<=10000) (hb0:0<b) (hb1:b<=12) (hA1:A<=600) (ls:s.length=p.length) (hs:bdL b A s) :
  ∃ q:Int,yM p (rN p s (bY p n)) (pV p (bY p n)) q∧q.natAbs<=(2*A*n+b)*n*48∧Vo p (rN p s (bY p n)) (pV p (bY p n)) q:=by
 have hb:=nQ hl h0 (p:=p)
 have hB:bdL n 2 (pV p (bY p n)):=by
  have:=qg (n:=p.length) (z:=2) hb;simpa [pV] using this
 have hA:bdL (b*n) (2*A*n+b) (rN p s (bY p n)):=by
  have b1:=xp n hs;have b2:=xp b hb;rw [Zy n b] at b2;have:=xo (n:=p.length) (z:=2) (w:=1) b1 b2;unfold rN;refine Me this ?_;have e1:(2:Int).natAbs=2:=rfl;have e2:(1:Int).natAbs=1:=rfl;rw [e1,e2,Xz,Xz,Nat.mul_assoc];exact Z7 _
 have lst:(bY p n).length=p.length:=ni hl
 have la:(rN p s (bY p n)).length=p.length:=jL fun t ht=>by
  simp only [Zr,Zc,or_false] at ht;rcases ht with rfl | rfl
  ·exact ls
  ·exact lst
 have lb:(pV p (bY p n)).length=p.length:=jL fun t ht=>by
  simp only [Zr,Zc,or_false] at ht;rw [ht];exact lst
 obtain ⟨x,hx,hx0⟩:=Sb hl h0 (p:=p)
 have c1:2*A*n+b<=12000012:=by
  have:2*A*n<=1200*10000:=Zq aa h1;omega
 have c2:b*n<=120000:=Zq hb1 h1;have m1:(2*A*n+b)*n<=12000012*10000:=Zq c1 h1;have m2:n*(6*(2*A*n+b))<=10000*(6*12000012):=Zq h1 (Z3 _ c1)
 have m3:4*(6*(2*A*n+b))*n*(b*n)*(6*2)<=4*(6*12000012)*10000*120000*(6*2):=Z4 _ (Zq (Zq (Z3 _ (Z3 _ c1)) h1) c2)
 exact YU hp (Yr hb0 h0) h0 hA hB la lb (Dv (kP ae fun y hy=>(yV h0 hB y hy).1) fun y hy=>⟨by
   rw [hx] at hy;simp only [Zr,X9] at hy;rcases hy with rfl | ⟨_,rfl⟩
   ·omega
   ·decide,(yV h0 hB y hy).1,(nZ (s:=pV p (bY p n)) (d:=1)).2 y hy⟩) (by rw [hx];exact TW hl aa) aa aa aa aa aa aa
theorem nr6 {p:List Int} {s:List Q} {n b A:Nat} (hp:in6 p) (hl:0<p.length) (h0:0<n) (h1:n<=10000) (hb0:0<b) (hb1:b<=12) (hA1:A<=600) (ls:s.length=p.length) (hs:bdL b A s) :
  ∃ q:Int,yM p (rN p s (bY p n)) (pV p (bY p n)) q∧q.natAbs<=(2*A*n+b)*n*48:=by
 obtain ⟨q,h1,h2,_⟩:=XS hp hl h0 h1 hb0 hb1 hA1 ls hs;exact ⟨q,h1,h2⟩
theorem er6 {p r:List Int} {n:Nat} (hpc:pcB p=0) (hp:in6 p) (hl:0<p.length) (h0:0<n) (h1:n<=10000) (lr:r.length=p.length) (hr:∀ x∈r,x.natAbs<=9) :
  ∃ q:Int,yx p n r q∧q.natAbs<=(18*n+1)*n*48:=by
 have hb:=nQ hl h0 (p:=p);have lo:(ofQ r).length=p.length:=by simp [ofQ,lr]
 have ho:bdL 1 9 (ofQ r):=Ev (b:=1) hr;obtain ⟨q,q1,q2⟩:=nr6 hp hl h0 h1 (b:=1) (A:=9) ae ae ae lo ho;have q2:q.natAbs<=(18*n+1)*n*48:=q2;have m1:(18*n+1)*n<=180001*10000:=Zq aa h1;have hq:q.natAbs<=86400480000:=aa
 refine ⟨q,⟨hpc,by have:=hp.2.1;omega,hl,h0,h1,lr,EP hr,mj h0 hb aa aa,?_,?_,q1,aa,aa,?_,?_⟩,q2⟩
 ·exact mj (b:=1) aa ho aa aa
 ·rw [pr hl h0];exact TW hl af
 ·have h2:bdL n (q.natAbs*1) (jy p n q):=qg hb;exact mj h0 h2 aa aa
 ·exact mj h0 (yr hl h0 hr) aa aa
theorem rc6 {p r:List Int} {lim:Nat} (hpc:pcB p=0) (hp:in6 p) (hl:0<p.length) (hlim:lim<=100) (lr:r.length=p.length) (hr:∀ x∈r,x.natAbs<=9) :
  ∃ (qf zf:Nat->Int) (ls:Nat->Nat->Bool),TT p r lim qf zf ls:=by
 have H:∀ n,∃ w:Int × Int,1<=n->n<=lim->yx p n r w.1∧w.1.natAbs<=8644800∧uQ p (fF p n w.1 (ofQ r)) w.2∧-1<=w.2∧w.2<=1:=by
  intro n;by_cases h:1<=n∧n<=lim
  ·obtain ⟨q,q1,q2⟩:=er6 (n:=n) hpc hp hl h.1 aa lr hr;have hn:n<=100:=aa;have m1:(18*n+1)*n<=1801*100:=Zq aa hn;have hq:q.natAbs<=8644800:=aa;obtain ⟨z,z1,z2,z3⟩:=sg6 hp h.1 (yr (q:=q) hl h.1 hr) aa;exact ⟨(q,z),fun _ _=>⟨q1,hq,z1,z2,z3⟩⟩
  ·exact ⟨(0,0),fun h1 h2=>absurd ⟨h1,h2⟩ h⟩
 obtain ⟨f,hf⟩:=Classical.axiomOfChoice H
 have hbA:∀ n,1<=n->n<=lim->bdL n (8644800+900) (pQ p n r (f n).1 (f n).2):=by
  intro n h1 h2;obtain ⟨_,hq,_,z1,z2⟩:=hf n h1 h2;have:=qg (n:=p.length) (z:=re (f n).2) (yr (q:=(f n).1) hl h1 hr);unfold pQ KB;refine Me this ?_;refine Z1 (Z4 _ (Mn z1 z2)) ?_;omega
 have H2:∀ w:Nat × Nat,∃ z:Int,1<=w.2->w.2<w.1->w.1<=lim->uQ p (dfS p (pQ p w.1 r (f w.1).1 (f w.1).2) (pQ p w.2 r (f w.2).1 (f w.2).2)) z:=by
  rintro ⟨n,m⟩;by_cases h:1<=m∧m<n∧n<=lim
  ·obtain ⟨h1,h2,h3⟩:=h;have b1:=xp m (hbA n aa h3);have b2:=xp n (hbA m h1 aa);rw [Zy m n] at b2;have b3:=xo (n:=p.length) (z:=1) (w:=-1) b1 b2;have e1:(8644800+900)*m<=(8644800+900)*100:=Z3 _ aa;have e2:(8644800+900)*n<=(8644800+900)*100:=Z3 _ aa
   obtain ⟨z,z1,_⟩:=sg6 hp (Yr aa aa) b3 (by
    have a1:(1:Int).natAbs=1:=rfl;have a2:(-1:Int).natAbs=1:=rfl;rw [a1,a2];omega)
   exact ⟨z,fun _ _ _=>z1⟩
  ·exact ⟨0,fun h1 h2 h3=>absurd ⟨h1,h2,h3⟩ h⟩
 obtain ⟨g,hg⟩:=Classical.axiomOfChoice H2;refine ⟨fun n=>(f n).1,fun n=>(f n).2,fun n m=>decide (g (n,m)<0),⟨fun n h1 h2=>(hf n h1 h2).1,fun n h1 h2=>(hf n h1 h2).2.2,fun n h1 h2=>mj h1 (hbA n h1 h2) aa aa,fun n m h1 h2 h3=>⟨g (n,m),hg (n,m) h1 h2 h3,rfl⟩⟩⟩
theorem Pq:∀ l∈qp,pcB l=0∧l.Nodup∧0<l.length∧l.length<=4∧∀ x∈l,x∈c6P:=aJ
theorem xM (k:Nat):u9 k∈qp:=by
 unfold u9;have h:k % 10<qp.length:=Yw _ ae;rw [Zv,List.getElem?_eq_getElem h];exact Wx h
theorem LC {p:List Int} {e:List Int} (he:e.length=4) (hp:p.length<=4):(itv p.length e).length=p.length:=by simp [itv];omega
theorem Qf (k:Nat) (e:List Int):∀ x∈itv k e,x.natAbs<=9:=by
 intro x hx;simp only [itv,Zg] at hx;obtain ⟨y,_,rfl⟩:=hx;have h1:=Int.tmod_lt_of_pos y (b:=10) ae;have h2 : -10<y.tmod 10:=Int.lt_tmod_of_pos y ae;omega
def Kt (p:List Int):List (List Int)->Int
 | []=>0
 | r::m=>if mzB p [r]≠0 then mzB p [r] else Kt p m
def clB (p:List Int) (m:List (List Int)):Int:=if 60<m.length then 4 else Kt p m
theorem L8 {p:List Int} (hp:p.length<1000000) (k:KL):∀ (q a:List (List Int)),(a++q).length<1000000000 ->
  (Kt p q=0->k (.exit 0) [] [])->(Kt p q≠0->k .ret [I (Kt p q)] []) ->
  lp (iq (CX Y) (lst di p) (mat (a++q)) (I (a++q).length)) [] [] [I a.length] [] k
 | [],a,hN,h0,h1=>by
  refine av ?_;simp (disch:=try exact ac)[iq];exact h0 rfl
 | r::q,a,hN,h0,h1=>by
  simp at hN;have mo:=wE (p:=p) (r:=r) aa;simp only [Kt] at h0 h1;refine av ?_;simp (disch:=try exact ac)[iq];refine cd mo ?_;by_cases h:mzB p [r]=0
  ·rw [if_neg (by simpa using h)] at h0 h1;have ih:=L8 hp k q (a++[r]) au h0 h1;simp (disch:=try exact ac)[h];simp at ih ⊢;exact ih
  ·rw [if_pos h] at h1;simp (disch:=try exact ac)[h];exact h1 h
theorem sE {p:List Int} {m:List (List Int)} (hp:p.length<1000000) (hm:m.length<1000000000):CP Y F.cD [lst di p,mat m] (I (clB p m)):=by
 refine t8 ?_;have l1:bC (mat m)=some (I m.length):=rfl;unfold clB;by_cases h:60<m.length
 ·have g:(60:Int)<(m.length:Int):=aa;rw [if_pos h];simp (disch:=try exact ac)[cD,l1,g] <;> exact bU rfl
 ·have g:¬ (60:Int)<(m.length:Int):=aa;rw [if_neg h];simp (disch:=try exact ac)[cD,l1,g];refine lo (L8 hp _ m [] (by simpa using hm) (fun g=>?_) (fun g=>?_))
  ·rw [g];simp (disch:=try exact ac)[]
  ·simp (disch:=try exact ac)[]
theorem Cf {p:List Int} {m:List (List Int)} (hm:m.length<=60) (h:∀ r∈m,mzB p [r]=0):clB p m=0:=by
 unfold clB;rw [if_neg aa];clear hm
 induction m with
 | nil=>rfl
 | cons r m ih=>
  rw [Kt,if_neg (by simpa using h r af)];exact ih fun x hx=>h x (by simp [hx])
def xB:List Int->List Int->List Int->Bool
 | x::a,y::b,z::c=>decide (x+y=z) && xB a b c
 | _,_,_=>true
theorem Ee {s t u:List Int} (hN:s.length<1000000) (hs:smR s=true) (ht:smR t=true) (k:KL):∀ (q r v a b c:List Int),a++q=s->b++r=t->c++v=u->a.length=b.length->a.length=c.length->q.length=r.length->q.length=v.length->(xB q r v=true->k (.exit 0) [] [])->(xB q r v=false->k .ret [B false] []) ->
  lp (jR (CX Y) (lst di s) (lst di t) (lst di u) (I s.length)) [] [] [I a.length] [] k
 | [],r,v,a,b,c,ha,hb,hc,hab,hac,hqr,hqv,h0,h1=>by
  simp at ha;subst ha;refine av ?_;simp (disch:=try exact ac)[jR];exact h0 (by simp [xB])
 | x::q,[],v,a,b,c,ha,hb,hc,hab,hac,hqr,hqv,h0,h1=>by simp at hqr
 | x::q,y::r,[],a,b,c,ha,hb,hc,hab,hac,hqr,hqv,h0,h1=>by simp at hqv
 | x::q,y::r,z::v,a,b,c,ha,hb,hc,hab,hac,hqr,hqv,h0,h1=>by
  have hal:a.length<s.length:=by subst ha;simp
  have hbl:a.length<t.length:=by subst hb;simp;omega
  have hcl:a.length<u.length:=by subst hc;simp;omega
  have hx:nth 0 s a.length=x:=by subst ha;simp
  have hy:nth 0 t a.length=y:=by subst hb;rw [hab];simp
  have hz:nth 0 u a.length=z:=by subst hc;rw [hac];simp
  have bx:=wc hs (x:=x) (by rw [<- ha];simp);have by_:=wc ht (x:=y) (by rw [<- hb];simp);have i1:=cC di s [] (k:=.i64) (i:=(a.length:Int)) aa aa;have i2:=dy di 0 s [] (j:=a.length) hal;have j1:=cC di t [] (k:=.i64) (i:=(a.length:Int)) aa aa;have j2:=dy di 0 t [] (j:=a.length) hbl
  have k1:=cC di u [] (k:=.i64) (i:=(a.length:Int)) aa aa;have k2:=dy di 0 u [] (j:=a.length) hcl;rw [hx] at i2;rw [hy] at j2;rw [hz] at k2;simp only [Int.toNat_natCast] at i1 j1 k1;have g1:(a.length:Int)<(s.length:Int):=aa;refine av ?_;by_cases hxy:x+y=z
  ·have ih:=Ee hN hs ht k q r v (a++[x]) (b++[y]) (c++[z]) (by simpa using ha) (by simpa using hb) (by simpa using hc) (by simp [hab]) (by simp [hac]) (by simpa using hqr) (by simpa using hqv) (fun e=>h0 (by simp [xB,hxy,e])) (fun e=>h1 (by simp [xB,e]));simp (disch:=try exact ac)[jR,i1,i2,j1,j2,k1,k2,g1,hx,hy,hz,hxy];simpa using ih
  ·simp (disch:=try exact ac)[jR,i1,i2,j1,j2,k1,k2,g1,hx,hy,hz,hxy];exact h1 (by simp [xB,hxy])
theorem S9 {s t u:List Int} (hN:s.length<1000000) (hs:smR s=true) (ht:smR t=true) (l1:t.length=s.length) (l2:u.length=s.length):CP Y F.lz [lst di s,lst di t,lst di u] (B (xB s t u)):=by
 refine BY ?_;have hl:bC (lst di s)=some (I s.length):=rfl;simp (disch:=try exact ac)[lz,hl]
 have:=Ee (u:=u) hN hs ht (exK [(Exit.exit 0,fun l5 h=>out (B (xB s t u)) (V.d (D.bool true)) h),(Exit.ret,fun l5 h=>out (B (xB s t u)) (ge l5 0) h)]) s t u [] [] [] rfl rfl rfl rfl rfl l1.symm l2.symm (fun g=>by
   simp (disch:=try exact ac)[];exact iJ (by simp [g])) (fun g=>by
   simp (disch:=try exact ac)[];exact iJ (by simp [g]))
 refine lo ?_;exact this
def ztD (z:Int):D:=.str (itoa z)
theorem yT {p:List Int} {n:Nat} {l:List (List Int)} {qf:List Int->Int} (hN:l.length<1000000) (hE:∀ r∈l,yx p n r (qf r)) (k:KL) (h0:Hp) (hh:h0.length=1):∀ (q a:List (List Int)),a++q=l ->
  k (.exit 0) [acR.v l.length (l.map fun r=>ztD (qf r))] [acR.b l.length (l.map fun r=>ztD (qf r))] ->
  lp (jG (CX Y) (lst di p) (I n) (mat l) (I l.length)) [] h0 [acR.v a.length (a.map fun r=>ztD (qf r)),I a.length] [acR.b a.length (a.map fun r=>ztD (qf r))] k
 | [],a,ha,hk=>by
  simp at ha;subst ha;refine av ?_;simp (disch:=try exact ac)[jG];exact hk
 | r::q,a,ha,hk=>by
  have hal:a.length<l.length:=by subst ha;simp
  have hr:nth [] l a.length=r:=by subst ha;simp
  have hm:r∈l:=by rw [<- ha];simp
  have E:=hE r hm;have so:=E7 (p:=p) (r:=r) E.hp (by have:=E.hN;omega) E.lr E.sr;have ls:(ofQ r).length=p.length:=by simp [ofQ,E.lr]
  have ne:=yQ E.hp E.hN E.hl E.h0 E.h1 E.st ls E.of E.ne E.fl;have i1:=fun h=>cC row l h (k:=.i64) (i:=(a.length:Int)) aa aa
  have i2:=fun h=>dy row [] l h (j:=a.length) hal
  rw [hr] at i2;simp only [Int.toNat_natCast] at i1;have g1:(a.length:Int)<(l.length:Int):=aa;have li1:∀ (z:Int) (H:Hp),dE 1 [D.str []] [(0,S (itoa z))] H=some ([ztD z],H):=fun z H=>by simp [dE,gG,jw,toD,ztD]
  have cR:(a.map fun r=>ztD (qf r)).length=a.length*acR.n:=by simp [acR]
  have cG:∀ x y:Nat × Bk,([x]:Hp).set acR.s y=[y]:=fun x y=>rfl
  have hre:∀ x:Hp,x.length=1->aG [] 0 h0 x=x:=fun x hx=>cW 0 h0 x aa
  have ev:∀ c,acR.v (a.length+1) c=.ref acR.s (acR.e+1) 0 (a.length+1) (a.length+1) c.length:=fun c=>rfl
  have eb:∀ c,acR.b (a.length+1) c=(acR.e+1,.data acR.n c false false):=fun c=>rfl
  have ih:=yT hN hE k h0 hh q (a++[r]) (by simpa using ha) hk;refine av ?_;simp (disch:=try exact ac)[jG,i1,i2,g1];refine cd so ?_;simp (disch:=try exact ac)[];refine cd ne ?_ (by simp [ai,aI,szV,cX]);simp (disch:=try exact ac)[li1]
  refine m5 acR (k:=1) aa rfl cR (by rfl) rfl (fun t e=>by cases e) aa ae ?_;simp (disch:=try exact ac)[cG,hre,clean,fE,oC,ow,eh,k9];refine ⟨rfl,?_⟩;simpa [ev,eb] using ih
theorem Nz {p:List Int} {n:Nat} {l:List (List Int)} {qf:List Int->Int} (hN:l.length<1000000) (hE:∀ r∈l,yx p n r (qf r)):CP Y F.iA [lst di p,I n,mat l] (.tup [lst ztD (l.map qf),I 0]):=by
 refine xc ?_;have l1:bC (mat l)=some (I l.length):=rfl
 have hl:=yT hN hE (exK [((.exit 0),fun l2 h=>out (.tup [lst ztD (l.map qf),I 0]) (.tup [(ge l2 0),(.d (.int .i64 0))]) h),(.ret,fun l2 h=>out (.tup [lst ztD (l.map qf),I 0]) (.tup [(ge l2 0),(ge l2 1)]) h)]) [(0,.none)] rfl l [] rfl (by
  obtain ⟨h',q1,_⟩:=lU acR (L:=l.length) (cells:=l.map fun r=>ztD (qf r)) (h:=[acR.b l.length (l.map fun r=>ztD (qf r))]) rfl (by simp [acR]);simp only [exK];have e:lst ztD (l.map qf)=.d (.sl l.length (l.map fun r=>ztD (qf r))):=by simp [lst]
  rw [e];exact ax q1 rfl)
 simp (disch:=try exact ac)[iA,l1];exact hl
def erD (p:List Int) (n:Nat) (qf:List Int->Int) (r:List Int):List Q:=fF p n (qf r) (ofQ r)
theorem yO {p:List Int} {n:Nat} {l:List (List Int)} {qf:List Int->Int} (hN:l.length<1000000) (hE:∀ r∈l,yx p n r (qf r)) (k:KL) (h0:Hp) (hh:h0.length=1):∀ (q a:List (List Int)),a++q=l ->
  k (.exit 0) [acR.v l.length (l.map fun r=>szD (erD p n qf r))] [acR.b l.length (l.map fun r=>szD (erD p n qf r))] ->
  lp (jH (CX Y) (lst di p) (I n) (mat l) (I l.length)) [] h0 [acR.v a.length (a.map fun r=>szD (erD p n qf r)),I a.length] [acR.b a.length (a.map fun r=>szD (erD p n qf r))] k
 | [],a,ha,hk=>by
  simp at ha;subst ha;refine av ?_;simp (disch:=try exact ac)[jH];exact hk
 | r::q,a,ha,hk=>by
  have hal:a.length<l.length:=by subst ha;simp
  have hr:nth [] l a.length=r:=by subst ha;simp
  have hm:r∈l:=by rw [<- ha];simp
  have E:=hE r hm;have de:=Eg E;have i1:=fun h=>cC row l h (k:=.i64) (i:=(a.length:Int)) aa aa
  have i2:=fun h=>dy row [] l h (j:=a.length) hal
  rw [hr] at i2;simp only [Int.toNat_natCast] at i1;have g1:(a.length:Int)<(l.length:Int):=aa;have li1:∀ (s:List Q) (H:Hp),dE 1 [D.pl (Value.slice none 0 0)] [(0,szV s)] H=some ([szD s],H):=fun s H=>Bz ..
  have cR:(a.map fun r=>szD (erD p n qf r)).length=a.length*acR.n:=by simp [acR]
  have cG:∀ x y:Nat × Bk,([x]:Hp).set acR.s y=[y]:=fun x y=>rfl
  have hre:∀ x:Hp,x.length=1->aG [] 0 h0 x=x:=fun x hx=>cW 0 h0 x aa
  have ev:∀ c,acR.v (a.length+1) c=.ref acR.s (acR.e+1) 0 (a.length+1) (a.length+1) c.length:=fun c=>rfl
  have eb:∀ c,acR.b (a.length+1) c=(acR.e+1,.data acR.n c false false):=fun c=>rfl
  have ih:=yO hN hE k h0 hh q (a++[r]) (by simpa using ha) hk;refine av ?_;simp (disch:=try exact ac)[jH,i1,i2,g1];refine cd de ?_;simp (disch:=try exact ac)[li1];refine m5 acR (k:=1) aa rfl cR (by rfl) rfl (fun t e=>by cases e) aa ae ?_
  simp (disch:=try exact ac)[cG,hre,clean,fE,oC,ow,eh,k9];refine ⟨rfl,?_⟩;simpa [ev,eb,erD] using ih
theorem uI {p:List Int} {n:Nat} {l:List (List Int)} {qf:List Int->Int} (hp:p.length<1000000) (hN:l.length<=60) (hc:dvC p n=0) (hm:∀ r∈l,mzB p [r]=0) (hE:∀ r∈l,yx p n r (qf r)):CP Y F.dD [lst di p,I n,mat l] (.tup [lst szD (l.map (erD p n qf)),I 0]):=by
 refine xd ?_;have l1:bC (mat l)=some (I l.length):=rfl;have dc:=yn (p:=p) (n:=(n:Int)) hp;rw [hc] at dc;have ck:=sE (p:=p) (m:=l) hp aa;rw [Cf hN hm] at ck
 have hl:=yO aa hE (exK [((.exit 0),fun l2 h=>out (.tup [lst szD (l.map (erD p n qf)),I 0]) (.tup [(ge l2 0),(.d (.int .i64 0))]) h),(.ret,fun l2 h=>out (.tup [lst szD (l.map (erD p n qf)),I 0]) (.tup [(ge l2 0),(ge l2 1)]) h)]) [(0,.none)] rfl l [] rfl (by
  obtain ⟨h',q1,_⟩:=lU acR (L:=l.length) (cells:=l.map fun r=>szD (erD p n qf r)) (h:=[acR.b l.length (l.map fun r=>szD (erD p n qf r))]) rfl (by simp [acR]);simp only [exK];have e:lst szD (l.map (erD p n qf))=.d (.sl l.length (l.map fun r=>szD (erD p n qf r))):=by simp [lst]
  rw [e];exact ax q1 rfl)
 simp (disch:=try exact ac)[dD];refine cd dc ?_;simp (disch:=try exact ac)[];refine cd ck ?_;simp (disch:=try exact ac)[l1];exact hl
theorem Qg (a b:Int):biS .neq (S (itoa a)) (S (itoa b))=some (B (decide (a≠b))):=by
 have:(itoa a == itoa b)=decide (a=b):=by
  rw [Yu];simp only [beq_iff_eq,decide_eq_true_eq];exact ⟨fun h=>wP h,fun h=>by rw [h]⟩
 simp only [biS,AN,bne,this];simp
theorem PI {z:Int} (h1 : -1000000000000000000<z) (h2:z<1000000000000000000):ndg z.natAbs<999999:=by
 have:=bb (n:=z.natAbs) (d:=18) (by show _<10 ^ 18;omega) ae;omega
abbrev Rw:=List Int
def Q2 (qf:Rw->Int) (i j:Nat) (a b:Rw):Nat->List Rw->Option (Nat × Nat × Nat)
 | _,[]=>none
 | m,c::q=>if xB a b c=true∧qf a+qf b≠qf c then some (i,j,m) else Q2 qf i j a b (m+1) q
def Q3 (qf:Rw->Int) (l:List Rw) (i:Nat) (a:Rw):Nat->List Rw->Option (Nat × Nat × Nat)
 | _,[]=>none
 | j,b::q=>match Q2 qf i j a b 0 l with
  | some t=>some t
  | none=>Q3 qf l i a (j+1) q
def FZ (qf:Rw->Int) (l:List Rw):Nat->List Rw->Option (Nat × Nat × Nat)
 | _,[]=>none
 | i,a::q=>match Q3 qf l i a 0 l with
  | some t=>some t
  | none=>FZ qf l (i+1) q
def cnH (t:Nat × Nat × Nat):Hp:=[(1,.vars [I t.1,I t.2.1,I t.2.2])]
def cnV:Option (Nat × Nat × Nat)->V
 | some t=>.tup [B false,.agg [I t.1,I t.2.1,I t.2.2],I 0]
 | none=>.tup [B true,.agg [I 0,I 0,I 0],I 0]
structure RG (p:List Int) (n:Nat) (l:List Rw) (qf:Rw->Int):Prop where
 hN:l.length<=60
 hE:∀ r∈l,yx p n r (qf r)
theorem QZ {p:List Int} {n:Nat} {l:List Rw} {qf:Rw->Int} (H:RG p n l qf) {i j:Nat} {a b:Rw} (hi:i<l.length) (hj:j<l.length) (ha:nth [] l i=a) (hb:nth [] l j=b) (k:KL) (h0:Hp) (hh:h0.length=1):∀ (q c:List Rw),c++q=l ->
  (Q2 qf i j a b c.length q=none->k (.exit 4) [] (cnH (0,0,0)))->(∀ t,Q2 qf i j a b c.length q=some t->k .ret [B false,I 0] (cnH t)) ->
  lp (gL (CX Y) (.ptr 0 1 0 3) (lst ztD (l.map qf)) (I i) (lst di a) (I j) (lst di b) (mat l) (I l.length)) [] h0 [I c.length] (cnH (0,0,0)) k
 | [],c,hc,h1,h2=>by
  simp at hc;subst hc;refine av ?_;simp (disch:=try exact ac)[gL];exact h1 rfl
 | r::q,c,hc,h1,h2=>by
  have hcl:c.length<l.length:=by subst hc;simp
  have hr:nth [] l c.length=r:=by subst hc;simp
  have mem:∀ x,x<l.length->nth [] l x∈l:=fun x hx=>by rw [fL [] l x hx];exact Wx hx
  have Ea:=H.hE a (ha ▸ mem i hi);have Eb:=H.hE b (hb ▸ mem j hj);have Er:=H.hE r (by rw [<- hc];simp);have ds:=S9 (s:=a) (t:=b) (u:=r) (by have:=Ea.hN;have:=Ea.lr;omega) Ea.sr Eb.sr (by rw [Ea.lr,Eb.lr]) (by rw [Ea.lr,Er.lr]);have i1:=fun h=>cC row l h (k:=.i64) (i:=(c.length:Int)) aa aa
  have i2:=fun h=>dy row [] l h (j:=c.length) hcl
  rw [hr] at i2;simp only [Int.toNat_natCast] at i1;have hlen:=H.hN
  have x1:∀ (h:Hp) (x:Nat),x<l.length->ixV h 1 (lst ztD (l.map qf)) (I (x:Int))=some (.dptr ((l.map qf).map ztD) x):=fun h x hx=>by
   have:=cC ztD (l.map qf) h (k:=.i64) (i:=(x:Int)) aa au;simpa only [Int.toNat_natCast] using this
  have x2:∀ (h:Hp) (x:Nat),x<l.length->ld1 h (.dptr ((l.map qf).map ztD) x)=some (S (itoa (qf (nth [] l x)))):=fun h x hx=>by
   have:=dy ztD 0 (l.map qf) h (j:=x) (by simpa using hx);rw [fL 0 (l.map qf) x (by simpa using hx),List.getElem_map,<- fL [] l x hx] at this;exact this
  have xi1:=fun h=>x1 h i hi
  have xi2:=fun h=>x2 h i hi
  have xj1:=fun h=>x1 h j hj
  have xj2:=fun h=>x2 h j hj
  have xc1:=fun h=>x1 h c.length hcl
  have xc2:=fun h=>x2 h c.length hcl
  rw [ha] at xi2;rw [hb] at xj2;rw [hr] at xc2;obtain ⟨ks,hks⟩:∃ ks,ks=l.map qf:=⟨_,rfl⟩;rw [<- hks] at xi1 xi2 xj1 xj2 xc1 xc2 ⊢;have wa:=tB (z:=qf a) (w:=qf b) (PI Ea.q1 Ea.q2) (PI Eb.q1 Eb.q2);have g1:(c.length:Int)<(l.length:Int):=aa;simp only [Q2] at h1 h2;have ih:=QZ H hi hj ha hb k h0 hh q (c++[r]) (by simpa using hc);rw [<- hks] at ih;refine av ?_
  simp (disch:=try exact ac)[gL,i1,i2,g1];refine cd ds ?_;have ne:=Qg (qf a+qf b) (qf r);have hre:aG [] 0 h0 (cnH (0,0,0))=cnH (0,0,0):=cW 0 h0 _ (by simp [cnH];omega)
  have hst:stX (iZ (cnH (0,0,0)) 0 1) (cnH (0,0,0)) 0 1 0 3 [V.d (D.int IntKind.i64 ↑i),V.d (D.int IntKind.i64 ↑j),V.d (D.int IntKind.i64 ↑c.length)]=some (cnH (i,j,c.length)):=rfl;by_cases hs:xB a b r=true
  ·rw [hs] at ds h1 h2 ⊢;simp (disch:=try exact ac)[xi1,xi2,xj1,xj2,xc1,xc2];refine cd wa ?_;by_cases he:qf a+qf b=qf r
   ·rw [if_neg (by simp [he])] at h1 h2;have ih':=ih (by simpa using h1) (by simpa using h2);simp (disch:=try exact ac)[xi1,xi2,xj1,xj2,xc1,xc2,ne,he,hre];simpa using ih'
   ·rw [if_pos ⟨rfl,he⟩] at h2;simp (disch:=try exact ac)[xi1,xi2,xj1,xj2,xc1,xc2,ne,he,hst];exact h2 _ rfl
  ·have hs':xB a b r=false:=by simpa using hs
   rw [if_neg (by simp [hs'])] at h1 h2;have ih':=ih (by simpa using h1) (by simpa using h2);rw [hs'] at ds ⊢;simp (disch:=try exact ac)[hre];simpa using ih'
theorem Q0 {p:List Int} {n:Nat} {l:List Rw} {qf:Rw->Int} (H:RG p n l qf) {i:Nat} {a:Rw} (hi:i<l.length) (ha:nth [] l i=a) (k:KL) (h0:Hp) (hh:h0.length=1):∀ (q c:List Rw),c++q=l ->
  (Q3 qf l i a c.length q=none->k (.exit 2) [] (cnH (0,0,0)))->(∀ t,Q3 qf l i a c.length q=some t->k .ret [B false,I 0] (cnH t)) ->
  lp (gM (CX Y) (mat l) (.ptr 0 1 0 3) (lst ztD (l.map qf)) (I i) (lst di a) (mat l) (I l.length)) [] h0 [I c.length] (cnH (0,0,0)) k
 | [],c,hc,h1,h2=>by
  simp at hc;subst hc;refine av ?_;simp (disch:=try exact ac)[gM];exact h1 rfl
 | r::q,c,hc,h1,h2=>by
  have hcl:c.length<l.length:=by subst hc;simp
  have hr:nth [] l c.length=r:=by subst hc;simp
  have i1:=fun h=>cC row l h (k:=.i64) (i:=(c.length:Int)) aa aa
  have i2:=fun h=>dy row [] l h (j:=c.length) hcl
  rw [hr] at i2;simp only [Int.toNat_natCast] at i1;have hlen:=H.hN;have g1:(c.length:Int)<(l.length:Int):=aa;have l1:bC (mat l)=some (I l.length):=rfl;have hre:aG [] 0 h0 (cnH (0,0,0))=cnH (0,0,0):=cW 0 h0 _ (by simp [cnH];omega);have hre2:∀ t,aG [] 0 h0 (cnH t)=cnH t:=fun t=>cW 0 h0 _ (by simp [cnH];omega)
  simp only [Q3] at h1 h2;have ih:=Q0 H hi ha k h0 hh q (c++[r]) (by simpa using hc);have lp2:=fun k h1 h2=>QZ H hi hcl ha hr k (cnH (0,0,0)) rfl l [] rfl h1 h2
  obtain ⟨ks,hks⟩:∃ ks,ks=l.map qf:=⟨_,rfl⟩;rw [<- hks] at ih lp2 ⊢;refine av ?_;simp (disch:=try exact ac)[gM,i1,i2,g1,l1];refine lo (lp2 _ (fun g=>?_) (fun t g=>?_))
  ·simp only [List.length_nil] at g;rw [g] at h1 h2;have ih':=ih (by simpa using h1) (by simpa using h2);simp (disch:=try exact ac)[hre];simpa using ih'
  ·simp only [List.length_nil] at g;rw [g] at h2;have:=h2 t rfl;simp (disch:=try exact ac)[hre2];exact this
theorem Q1 {p:List Int} {n:Nat} {l:List Rw} {qf:Rw->Int} (H:RG p n l qf) (k:KL) (h0:Hp) (hh:h0.length=1):∀ (q c:List Rw),c++q=l ->
  (FZ qf l c.length q=none->k (.exit 0) [] (cnH (0,0,0)))->(∀ t,FZ qf l c.length q=some t->k .ret [B false,I 0] (cnH t)) ->
  lp (gN (CX Y) (mat l) (.ptr 0 1 0 3) (lst ztD (l.map qf)) (mat l) (I l.length)) [] h0 [I c.length] (cnH (0,0,0)) k
 | [],c,hc,h1,h2=>by
  simp at hc;subst hc;refine av ?_;simp (disch:=try exact ac)[gN];exact h1 rfl
 | r::q,c,hc,h1,h2=>by
  have hcl:c.length<l.length:=by subst hc;simp
  have hr:nth [] l c.length=r:=by subst hc;simp
  have i1:=fun h=>cC row l h (k:=.i64) (i:=(c.length:Int)) aa aa
  have i2:=fun h=>dy row [] l h (j:=c.length) hcl
  rw [hr] at i2;simp only [Int.toNat_natCast] at i1;have hlen:=H.hN;have g1:(c.length:Int)<(l.length:Int):=aa;have l1:bC (mat l)=some (I l.length):=rfl;have hre:∀ t,aG [] 0 h0 (cnH t)=cnH t:=fun t=>cW 0 h0 _ (by simp [cnH];omega)
  simp only [FZ] at h1 h2;have ih:=Q1 H k h0 hh q (c++[r]) (by simpa using hc);have lp2:=fun k h1 h2=>Q0 H hcl hr k (cnH (0,0,0)) rfl l [] rfl h1 h2
  obtain ⟨ks,hks⟩:∃ ks,ks=l.map qf:=⟨_,rfl⟩;rw [<- hks] at ih lp2 ⊢;refine av ?_;simp (disch:=try exact ac)[gN,i1,i2,g1,l1];refine lo (lp2 _ (fun g=>?_) (fun t g=>?_))
  ·simp only [List.length_nil] at g;rw [g] at h1 h2;have ih':=ih (by simpa using h1) (by simpa using h2);simp (disch:=try exact ac)[hre];simpa using ih'
  ·simp only [List.length_nil] at g;rw [g] at h2;have:=h2 t rfl;simp (disch:=try exact ac)[hre];exact this
theorem vh {p:List Int} {n:Nat} {l:List Rw} {qf:Rw->Int} (hp:p.length<1000000) (hc:dvC p n=0) (hm:∀ r∈l,mzB p [r]=0) (H:RG p n l qf):CP Y F.b6 [lst di p,I n,mat l] (cnV (FZ qf l 0 l)):=by
 refine s6 ?_;have l1:bC (mat l)=some (I l.length):=rfl;have hN:=H.hN;have dc:=yn (p:=p) (n:=(n:Int)) hp;rw [hc] at dc;have ck:=sE (p:=p) (m:=l) hp aa;rw [Cf hN hm] at ck;have co:=Nz aa H.hE;simp (disch:=try exact ac)[b6];refine cd dc ?_;simp (disch:=try exact ac)[];refine cd ck ?_
 simp (disch:=try exact ac)[];refine cd co ?_;simp (disch:=try exact ac)[l1];refine lo (Q1 H _ (cnH (0,0,0)) rfl l [] rfl (fun g=>?_) (fun t g=>?_))
 ·simp only [List.length_nil] at g;rw [g];simp (disch:=try exact ac)[cnH,cnV];exact ⟨[(1,.vars [I 0,I 0,I 0])],by simp [aI,ai]⟩
 ·simp only [List.length_nil] at g;rw [g];simp (disch:=try exact ac)[cnH,cnV];exact ⟨[(1,.vars [I t.1,I t.2.1,I t.2.2])],by simp [aI,ai]⟩
def Vn (p:List Int) (a b:List Q):Int:=
 if jd (gn (0,1) a b) a b=true then (gn (0,1) a b).1 / ((gn (0,1) a b).2:Int)
 else match Bf (tq p a) (tq p b) (dN 1 a) (dN 1 b) with
  | some q=>q
  | none=>(FL (tq p a) (tq p b) (dN 1 a) (dN 1 b) 6 64).getD 0
theorem FK {p:List Int} {a b:List Q} {q:Int} (h:yM p a b q):Vn p a b=q:=by
 unfold Vn;rcases h with ⟨h1,h2⟩ | ⟨h1,_,_,_,_,h2⟩
 ·rw [if_pos h1,h2]
 ·rw [if_neg (by simp [h1])];rcases h2 with ⟨h3,_⟩ | ⟨h3,_,_,_,h4⟩
  ·rw [h3]
  ·rw [h3,h4];rfl
def sgV (p:List Int) (s:List Q):Int:=(wi (tq p s)).getD 0
theorem Ow {p:List Int} {s:List Q} {z:Int} (h:uQ p s z):sgV p s=z:=by
 unfold sgV;rw [h.2.2];rfl
def eD (p:List Int) (n:Nat) (r:List Int):Int:=Vn p (rN p (ofQ r) (bY p n)) (pV p (bY p n))
theorem qQ {p r:List Int} {n:Nat} {q:Int} (E:yx p n r q):eD p n r=q:=FK E.fl
def Mf (p:List Int) (n:Nat) (r:List Int):List Q:=pQ p n r (eD p n r) (sgV p (fF p n (eD p n r) (ofQ r)))
def Lw (p r:List Int) (n m:Nat):Bool:=decide (sgV p (dfS p (Mf p n r) (Mf p m r))<0)
theorem Bc {f g:Nat->Nat->Bool} {lim:Nat} (h:∀ n m,1<=m->m<n->n<=lim->f n m=g n m):∀ k n m,n+k<=lim+1->m<n->lO f k n m=lO g k n m
 | 0,_,_,_,_=>rfl
 | k+1,n,m,h1,h2=>by
  simp only [lO]
  have e:(m=0∨f n m=true)=(m=0∨g n m=true):=by
   by_cases hm:m=0
   ·simp [hm]
   ·rw [h n m aa h2 aa]
  simp only [e];split
  ·rw [Bc h k (n+1) n aa aa]
  ·exact Bc h k (n+1) m aa aa
theorem Hn {p r:List Int} {lim:Nat} {qf zf:Nat->Int} {ls:Nat->Nat->Bool} (R:TT p r lim qf zf ls):lO ls lim 1 0=lO (Lw p r) lim 1 0:=by
 refine Bc (lim:=lim) (fun n m h1 h2 h3=>?_) lim 1 0 aa aa
 have a1:∀ n,1<=n->n<=lim->Mf p n r=pQ p n r (qf n) (zf n):=fun n h1 h2=>by
  unfold Mf;rw [qQ (R.er n h1 h2),Ow (R.sg n h1 h2).1]
 obtain ⟨z,z1,z2⟩:=R.cm n m h1 h2 h3;unfold Lw;rw [a1 n aa h3,a1 m h1 aa,Ow z1,z2]
theorem Vt:lO (Lw [2,3,5] [-1,1,0]) 60 1 0=[1,2,3,5,7,12,29,41,53]:=aJ
theorem Vu:fF [2,3,5] 12 (eD [2,3,5] 12 [-1,1,0]) (ofQ [-1,1,0])=[(19,12),(-1,1),(0,1)]:=aJ
theorem Vv:FZ (eD [2,3,5] 4) [[-1,1,0],[-2,2,0]] 0 [[-1,1,0],[-2,2,0]]=some (0,0,1):=aJ
theorem S6:FZ (eD [2,3,5] 12) [[-1,1,0],[-2,0,1],[-3,1,1]] 0 [[-1,1,0],[-2,0,1],[-3,1,1]]=none:=aJ
def hq1 (l:List Tx):Hp:=[(1,.data 2 (l.flatMap aT) true false)]
structure VO (p:List Int) (n:Nat) (l:List Rw) (qf:Rw->Int):Prop where
 cn:RG p n l qf
 pl:p.length<=6
 r9:∀ r∈l,∀ x∈r,x.natAbs<=9
theorem VO.rc {p:List Int} {n:Nat} {l:List Rw} {qf:Rw->Int} (H:VO p n l qf) {r:Rw} (hr:r∈l):rcB r=0:=tR.2 ⟨by have:=(H.cn.hE r hr).lr;have:=H.pl;omega,fun x hx=>nD.2 (by have:=H.r9 r hr x hx;omega)⟩
theorem Nu {p r:List Int} {n:Nat} (hpc:pcB p=0) (hp:in6 p) (hl:0<p.length) (h0:0<n) (h1:n<=10000) (lr:r.length=p.length) (hr:∀ x∈r,x.natAbs<=9):yx p n r (eD p n r):=by
 obtain ⟨q,E,_⟩:=er6 hpc hp hl h0 h1 lr hr;rw [qQ E];exact E
def pEx:List Int:=[2,3,5]
theorem vy:pcB pEx=0:=aJ
theorem vz:in6 pEx:=by unfold in6;decide
theorem Nt:CP Y F.dD [lst di pEx,I (12:Nat),mat [[-1,1,0]]] (.tup [lst szD [[(19,12),(-1,1),(0,1)]],I 0]):=by
 have h:=uI (p:=pEx) (n:=12) (l:=[[-1,1,0]]) (qf:=eD pEx 12) ae ae aJ aJ (fun r hr=>by
  simp only [Zr,Zc,or_false] at hr;subst hr;exact Nu vy vz ae ae ae rfl ae)
 have e:List.map (erD pEx 12 (eD pEx 12)) [[-1,1,0]]=[[(19,12),(-1,1),(0,1)]]:=by
  show [erD pEx 12 (eD pEx 12) [-1,1,0]]=_
  rw [show erD pEx 12 (eD pEx 12) [-1,1,0]=_ from Vu]
 rw [e] at h;exact h
theorem Kf:CP Y F.fD [lst di pEx,lst di [-1,1,0],I (60:Nat)] (.tup [lst di [1,2,3,5,7,12,29,41,53],I 0]):=by
 obtain ⟨qf,zf,ls,R⟩:=rc6 (p:=pEx) (r:=[-1,1,0]) (lim:=60) vy vz ae ae rfl ae;have h:=JG R ae ae;rw [Hn R,show lO (Lw pEx [-1,1,0]) 60 1 0=_ from Vt] at h;exact h
theorem S5:CP Y F.b6 [lst di pEx,I (4:Nat),mat [[-1,1,0],[-2,2,0]]] (cnV (some (0,0,1))):=by
 have h:=vh (p:=pEx) (n:=4) (l:=[[-1,1,0],[-2,2,0]]) (qf:=eD pEx 4) ae aJ aJ ⟨ae,fun r hr=>by
  simp only [Zr,Zc,or_false] at hr;rcases hr with rfl | rfl
  ·exact Nu vy vz ae ae ae rfl ae
  ·exact Nu vy vz ae ae ae rfl ae⟩
 rw [show FZ (eD pEx 4) [[-1,1,0],[-2,2,0]] 0 [[-1,1,0],[-2,2,0]]=_ from Vv] at h;exact h
theorem QB:CP Y F.b6 [lst di pEx,I (12:Nat),mat [[-1,1,0],[-2,0,1],[-3,1,1]]] (cnV none):=by
 have h:=vh (p:=pEx) (n:=12) (l:=[[-1,1,0],[-2,0,1],[-3,1,1]]) (qf:=eD pEx 12) ae aJ aJ ⟨ae,fun r hr=>by
  simp only [Zr,Zc,or_false] at hr;rcases hr with rfl | rfl | rfl
  ·exact Nu vy vz ae ae ae rfl ae
  ·exact Nu vy vz ae ae ae rfl ae
  ·exact Nu vy vz ae ae ae rfl ae⟩
 rw [show FZ (eD pEx 12) [[-1,1,0],[-2,0,1],[-3,1,1]] 0 [[-1,1,0],[-2,0,1],[-3,1,1]]=_ from S6] at h;exact h
theorem kJ:CP Y F.bW [] (B true):=by
 refine tN ?_;have hl3:∀ (a b c:Int) (H:Hp),dE 3 [D.int IntKind.i64 0] [(0,V.d (D.int IntKind.i64 a)),(1,V.d (D.int IntKind.i64 b)),(2,V.d (D.int IntKind.i64 c))] H=some ([di a,di b,di c],H):=fun a b c H=>by simp [dE,gG,jw,toD,di]
 have lm1:=fun n l H=>Bz n l H
 have lm2:=fun n l n' l' H=>J4 n l n' l' H
 have lm3:∀ (n:Nat) (l:List D) (n':Nat) (l':List D) (n'':Nat) (l'':List D) (H:Hp),dE 3 [D.pl (Value.slice none 0 0)] [(0,.d (.sl n l)),(1,.d (.sl n' l')),(2,.d (.sl n'' l''))] H=some ([.sl n l,.sl n' l',.sl n'' l''],H):=fun n l n' l' n'' l'' H=>by simp [dE,gG,jw,toD]
 have lq3:∀ (x y z:Q) (H:Hp),dE 3 [D.str [],D.str []] [(0,.agg (qT x)),(1,.agg (qT y)),(2,.agg (qT z))] H=some (aT (tx x)++aT (tx y)++aT (tx z),H):=fun x y z H=>by simp [dE,gG,jw,toD,qT,aT,tx]
 have ee:=Nt;simp (disch:=try exact ac)[bW,hl3,lm1,lm2,lm3];refine cd ee ?_;simp (disch:=try exact ac)[hl3,lm1,lm2,lm3];refine cd Kf ?_;simp (disch:=try exact ac)[hl3,lm1,lm2,lm3];refine cd S5 ?_;simp (disch:=try exact ac)[hl3,lm1,lm2,lm3,cnV];refine cd QB ?_
 have le1:bC (lst szD [[(19,12),(-1,1),(0,1)]])=some (I 1):=rfl;have ix1:∀ h,ixV h 1 (lst szD [[(19,12),(-1,1),(0,1)]]) (I 0)=some (.dptr [szD [(19,12),(-1,1),(0,1)]] 0):=fun h=>cC szD [[(19,12),(-1,1),(0,1)]] h (k:=.i64) (i:=0) ae ae
 have n1:=uC (z:=19) (n:=12) ae ae ae ae ae;have n2:=uC (z:=-1) (n:=1) ae ae ae ae ae;have n3:=uC (z:=0) (n:=1) ae ae ae ae ae;have eq:=x8 (s:=[(19,12),(-1,1),(0,1)]) (t:=[(19,12),(-1,1),(0,1)]) ae;rw [decide_eq_true rfl] at eq
 simp (disch:=try exact ac)[cnV,le1,ix1];refine cd n1 ?_;simp (disch:=try exact ac)[];refine cd n2 ?_;simp (disch:=try exact ac)[];refine cd n3 ?_;simp (disch:=try exact ac)[lq3];refine cd eq ?_ (by simp [ai,aI,szD,HP])
 have hl9:∀ (a b c d e f g i j:Int) (H:Hp),dE 9 [D.int IntKind.i64 0] [(0,V.d (D.int IntKind.i64 a)),(1,V.d (D.int IntKind.i64 b)),(2,V.d (D.int IntKind.i64 c)),(3,V.d (D.int IntKind.i64 d)),(4,V.d (D.int IntKind.i64 e)),(5,V.d (D.int IntKind.i64 f)),(6,V.d (D.int IntKind.i64 g)),(7,V.d (D.int IntKind.i64 i)),(8,V.d (D.int IntKind.i64 j))] H=some ([di a,di b,di c,di d,di e,di f,di g,di i,di j],H):=fun a b c d e f g i j H=>by simp [dE,gG,jw,toD,di]
 have si:=Ha (s:=[1,2,3,5,7,12,29,41,53]) (t:=[1,2,3,5,7,12,29,41,53]) ae;rw [decide_eq_true rfl] at si;simp (disch:=try exact ac)[hl9];refine cd si ?_;have ba:biA [D.int IntKind.i64 0,D.int IntKind.i64 0,D.int IntKind.i64 0] BinOp.eql (V.agg [I 0,I 0,I 1]) (V.agg [V.d (D.int IntKind.i64 0),V.d (D.int IntKind.i64 0),V.d (D.int IntKind.i64 1)])=some (B true):=rfl
 simp (disch:=try exact ac)[ba]
end Go.Vm
