/- Lemmas. -/
import Derived.Test.YtmfphhiejjamaaaGreatDoorQWsX
import Derived.Shelf.Spec.BitsCarry
import Derived.Shelf.Pu.ParseUintPublic10
import Derived.WalkKit
import Derived.ProofKit
import Derived.OpenShut
import Derived.Deep.DeepHandedRow
import Derived.Deep.Matrix
import Derived.Lib.LaidTab
import Derived.Test.YtmfphhiejjamaaaGreatDoorTie
import Derived.Test.YtmfphhiejjamaaaGreatDoorCards
set_option linter.unusedVariables false
set_option linter.unusedSimpArgs false
namespace Go.Vm
open Go Go.Am Go.Big
variable{l:Int->Nat}{N:Nat}
variable{m n i j k t f most d:Nat}{x r to y fr:LiQ}{ch:List LLQ}{C w:Int}
structure aiU(p:LiQ)(l:List Rw):Prop where
 pc:pcB p=0
 i6:in6 p
 hl:0<p.length
 rw:∀r∈l,r.length=p.length∧∀x∈r,x.natAbs<=9
structure agF(p:LiQ)(m:Nat)(bd:List Q):Prop where
 m0:0<m
 m1:m<=1000
 ln:bd.length=p.length
 bd:bdL m 1000 bd
theorem agF.ok{p:LiQ}{bd:List Q}(b:agF p m bd):okS bd:=YI b.m0 b.bd (by have:=b.m1;omega) aa
def pcS(p:LiQ):Prop:=pcB p=0∧∀x∈p,x∈c6P
def aA(m:LLQ):D:=.sl m.length (m.map row)
@[simp]theorem RX(m:LLQ):bj (.d (aA m))=some (I m.length):=rfl
abbrev Lk:=Int×Int
def lkC(x:Lk):LdQ:=[di x.1,di x.2]
def lkD(l:List Lk):D:=.sl l.length (l.flatMap lkC)
@[simp]theorem afW(l:List Lk):bj (.d (lkD l))=some (I l.length):=rfl
def wkC(p:LiQ)(ch:List LLQ)(lk:List (List Lk)):LwQ:=[lst di p,lst aA ch,lst lkD lk]
def B7(n most:Nat):Int:=if n=0 then 13 else if most<n then 4 else 0
def JO(p:LiQ):List LLQ->Int
 |[]=>0
 |c::l=>if B7 c.length 12≠0 then B7 c.length 12 else if mzB p c≠0 then mzB p c else JO p l
def BJ(a b:Nat)(x:Lk):Bool:=decide (0<=x.1)&&decide (x.1<a)&&decide (0<=x.2)&&decide (x.2<b)
def Jp(ch:List LLQ):Nat->List (List Lk)->Int
 |_,[]=>0
 |i,l::ls=>if B7 l.length 12≠0 then B7 l.length 12 else if l.all (BJ (nth [] ch i).length (nth [] ch (i+1)).length)=true then Jp ch (i+1) ls else 3
def dcB(p:LiQ)(ch:List LLQ)(lk:List (List Lk)):Int:=
 if pcB p≠0 then pcB p else if B7 ch.length 64≠0 then B7 ch.length 64 else if JO p ch≠0 then JO p ch else if lk.length+1=ch.length then Jp ch 0 lk else 5
def dP(a b:LiQ):LiQ:=(a.zip b).map fun t=>t.1+t.2
def bdR(B:Int)(r:LiQ):Prop:=∀x∈r,-B<=x∧x<=B
def jA(a b:LiQ):LiQ:=(a.zip b).map fun t=>t.1-t.2
theorem KF{a b:LiQ}(h:b.length=a.length):(jA a b).length=a.length:=by simp[jA,h]
structure wy(n:Nat)(B:Int)(ch:List LLQ)(lk:List (List Lk)):Prop where
 len:lk.length+1=ch.length
 few:ch.length<=64
 rows:∀c∈ch,∀r∈c,r.length=n∧bdR B r
 cs:∀c∈ch,c.length<=12
 ls:∀l∈lk,l.length<=12
 ok:∀i<lk.length,(nth [] lk i).all (BJ (nth [] ch i).length (nth [] ch (i+1)).length)=true
theorem LV{a b:Nat}{x:Lk}:BJ a b x=true↔(0<=x.1∧x.1<a)∧0<=x.2∧x.2<b:=by grind[BJ]
def pC(ch:List LLQ)(i:Nat)(x:Lk):LiQ:=nth [] (nth [] ch i) x.1.toNat
def pB(ch:List LLQ)(i:Nat)(x:Lk):LiQ:=nth [] (nth [] ch (i+1)) x.2.toNat
theorem wy.notes{B:Int}{lk:List (List Lk)}(w:wy n B ch lk)(hi:i<lk.length)(hj:j<(nth [] lk i).length):
  let x:=nth (0,0) (nth [] lk i) j
  (0<=x.1∧x.1<(nth [] ch i).length)∧(0<=x.2∧x.2<(nth [] ch (i+1)).length)∧((pC ch i x).length=n∧bdR B (pC ch i x))∧(pB ch i x).length=n∧bdR B (pB ch i x):=by intro x;have h:=LV.1 (Zv.1 (w.ok i hi) x (aQ hj));have hl:=w.len;refine⟨h.1,h.2,w.rows _ (aQ aa) _ (aQ aa),w.rows _ (aQ aa) _ (aQ aa)⟩
def xm(ch:List LLQ)(lk:List (List Lk))(i j:Nat):LiQ:=
 jA (pC ch i (nth (0,0) (nth [] lk i) j)) (pB ch i (nth (0,0) (nth [] lk i) j))
@[simp]theorem ahE(h:Hp)(p:LiQ)(ch:List LLQ)(lk:List (List Lk)):aS h (wkC p ch lk)=some (wkC p ch lk,h):=rfl
def vg(ch:List LLQ)(lk:List (List Lk)):Nat->LiQ->List (List Lk)->LLQ
 |_,r,[]=>[r]
 |i,r,_::q=>r::vg ch lk (i+1) (dP r (xm ch lk i 0)) q
def sZ(n:Nat)(ch:List LLQ)(lk:List (List Lk)):LLQ:=vg ch lk 0 (List.replicate n 0) lk
theorem zI{B C:Int}:∀{a b:LiQ},bdR B a->bdR C b->bdR (B+C) (jA a b)
 |[],b,_,_=>by simp[jA,bdR]
 |x::a,[],_,_=>by simp[jA,bdR]
 | x::a,y::b,ha,hb=>by
  intro z hz;simp only[jA,List.zip_cons_cons,Z2,Zo]at hz;have h1:=ha x af;have h2:=hb y af;rcases hz with rfl|hz
  .omega
  .exact zI (fun w hw=>ha w (by grind)) (fun w hw=>hb w (by grind)) z hz
theorem vK{B C:Int}:∀{a b:LiQ},bdR B a->bdR C b->bdR (B+C) (dP a b)
 |[],b,_,_=>by simp[dP,bdR]
 |x::a,[],_,_=>by simp[dP,bdR]
 | x::a,y::b,ha,hb=>by
  intro z hz;simp only[dP,List.zip_cons_cons,Z2,Zo]at hz;have h1:=ha x af;have h2:=hb y af;rcases hz with rfl|hz
  .omega
  .exact vK (fun w hw=>ha w (by grind)) (fun w hw=>hb w (by grind)) z hz
theorem wy.lead{B:Int}{lk:List (List Lk)}(w:wy n B ch lk)(hi:i<lk.length)(hj:j<(nth [] lk i).length):(xm ch lk i j).length=n∧bdR (B+B) (xm ch lk i j):=by obtain⟨_,_,⟨n1,n2⟩,n3,n4⟩:=w.notes hi hj;exact⟨by unfold xm;rw[KF aa];exact n1,zI n2 n4⟩
theorem ED(ch:List LLQ)(lk:List (List Lk)):∀(q:List (List Lk))(i:Nat)(r:LiQ),(vg ch lk i r q).length=q.length+1
 |[],_,_=>rfl
 |l::q,i,r=>by simp[vg,ED ch lk q]
def szI(b:Nat)(r:LiQ):List Q:=r.map fun a=>gU a b
def bdN(B:Nat)(r:LiQ):Prop:=∀a∈r,a.natAbs<=B
theorem lE{B C:Nat}:∀{r t:LiQ},bdN B r->bdN C t->bdN (B+C) (dI 1 r t)
 |[],t,_,_=>by intro a h;trivial
 |x::r,[],_,_=>by intro a h;trivial
 | x::r,y::t,hr,ht=>by
  have h1:=hr x af;have h2:=ht y af;intro a h;simp only[dI,Zo]at h;rcases h with rfl|h
  .omega
  .exact lE (fun u hu=>hr u (by grind)) (fun u hu=>ht u (by grind)) a h
def zl(p r:LiQ):LiQ:=r.map (A3 ((bE r (L5 p)).sign) * ·)
theorem pV(p r:LiQ):(zl p r).length=r.length:=by simp[zl]
theorem Hf(z:Int):z.sign = -1∨z.sign=0∨z.sign=1:=by grind
theorem Im(z:Int):A3 z.sign=z.sign:=by rcases Hf z with h|h|h<;>rw[h]<;>rfl
theorem ya{B:Nat}{p:LiQ}(h:bdN B r):bdN B (zl p r):=by
 intro a ha;obtain⟨x,hx,rfl⟩:=Zc.1 ha;have:=h x hx
 grind[Im]
structure Ad where
 p:LiQ
 ch:List LLQ
 lk:List (List Lk)
 cd:List LLQ
 w:Q
def adC(a:Ad):LwQ:=[lst di a.p,lst aA a.ch,lst lkD a.lk,lst aA a.cd,S (itoa a.w.1),S (ai a.w.2)]
@[simp]theorem ahF(h:Hp)(a:Ad):aS h (adC a)=some (adC a,h):=rfl
structure cI(a:Ad):Prop where
 hp:pcS a.p
 wk:wy a.p.length 8 a.ch a.lk
 lkn:∀l∈a.lk,0<l.length
 cne:∀c∈a.ch,0<c.length
 five:a.ch.length<=5
 cl:a.cd.length=a.ch.length
 cn:∀l∈a.cd,0<l.length∧l.length<=20
 cr:∀l∈a.cd,∀r∈l,r.length=a.p.length∧bdR 8 r
 w0:okQ a.w∧0<=a.w.1∧a.w.1<=1000∧a.w.2<=1000
theorem xG(h:bdR 1000 r):smR r=true:=by simp only[smR,Zv,Z8,decide_eq_true_eq];trivial
theorem dO{B:Int}(h:bdR B r)(hc:B<=C):bdR C r:=fun x hx=>by have:=h x hx;omega
theorem MX{B:Nat}(h:bdR B r):bdN B r:=fun x hx=>by have:=h x hx;omega
variable{a:Ad}
def uB(a:Ad)(i k:Nat):LiQ:=(zl a.p (nth [] (nth [] a.cd i) k)).map (· * a.w.1)
theorem cI.cand(G:cI a)(hi:i<a.cd.length)(hk:k<(nth [] a.cd i).length):(nth [] (nth [] a.cd i) k).length=a.p.length∧bdR 8 (nth [] (nth [] a.cd i) k):=
 G.cr _ (aQ hi) _ (aQ hk)
def zu(a:Ad):LLQ:=sZ a.p.length a.ch a.lk
def shR(a:Ad)(i k:Nat):LiQ:=dP (nth [] (zu a) i) (nth [] (nth [] a.cd i) k)
theorem Ch{t:LiQ}(h:t.length=r.length):(dP r t).length=r.length:=by simp[dP,h]
theorem Ps{n:Nat}{ch:List LLQ}{lk:List (List Lk)}(w:wy n 8 ch lk)(hne:∀l∈lk,0<l.length):∀(q d:List (List Lk))(r:LiQ),d++q=lk->r.length=n->bdR (16*d.length) r->∀j,j<=q.length->(nth [] (vg ch lk d.length r q) j).length=n∧bdR (16*(d.length+j:Nat)) (nth [] (vg ch lk d.length r q) j)
 | [],d,r,hd,hr,hb,j,hj=>by
  have:j=0:=by simpa using hj
  subst this;trivial
 |l::q,d,r,hd,hr,hb,0,hj=>⟨hr,hb⟩
 | l::q,d,r,hd,hr,hb,j+1,hj=>by
  have hdl:d.length<lk.length:=by rw[<-hd];simp
  have hlj:0<(nth [] lk d.length).length:=by rw[<-hd,bM];exact hne l (by grind)
  obtain⟨m1,m2⟩:=w.lead hdl hlj;have ih:=Ps w hne q (d++[l]) (dP r (xm ch lk d.length 0)) (by grind) (by rw[Ch aa,hr]) (dO (vK hb m2) (by grind)) j (by grind);have e:(d++[l]).length=d.length+1:=af;rw[e]at ih;have e2:d.length+1+j=d.length+(j+1):=aa;rw[e2]at ih;exact ih
theorem cI.root(G:cI a)(hi:i<a.cd.length):(nth [] (zu a) i).length=a.p.length∧bdR 64 (nth [] (zu a) i):=by
 have hl:=G.wk.len;have hc:=G.cl;have h5:=G.five;obtain⟨h1,h2⟩:=Ps G.wk G.lkn a.lk [] (List.replicate a.p.length 0) rfl af (fun x hx=>by grind) i aa;refine⟨h1,dO h2 ?_⟩
 grind
theorem Dk(a:Ad):(zu a).length=a.lk.length+1:=ED ..
theorem cI.shift(G:cI a)(hi:i<a.cd.length)(hk:k<(nth [] a.cd i).length):(shR a i k).length=a.p.length∧bdR 72 (shR a i k):=by obtain⟨h1,h2⟩:=G.root hi;obtain⟨c1,c2⟩:=G.cand hi hk;exact⟨by unfold shR;rw[Ch aa,h1],vK (B:=64) (C:=8) h2 c2⟩
def mvR(to y fr x:LiQ):LiQ:=jA (jA (dP to y) fr) x
theorem Dx(h1:to.length=n)(h2:y.length=n)(h3:fr.length=n)(h4:x.length=n):(mvR to y fr x).length=n:=by grind[mvR,jA,dP]
def dB(d:LiQ):Nat×Bk:=(1,.data 1 (d.map di) true false)
def pY(a:Ad)(i f t:Nat)(x:Lk):LiQ:=mvR (shR a (i+1) t) (pB a.ch i x) (shR a i f) (pC a.ch i x)
theorem UV{A B D:Int}(b1:bdR A to)(b2:bdR B y)(b3:bdR C fr)(b4:bdR D x):bdR (A+B+C+D) (mvR to y fr x):=zI (zI (vK b1 b2) b3) b4
def stepG(p:LiQ):LiQ->LLQ->LiQ
 |v,[]=>v
 |v,d::q=>stepG p (dI 1 v (zl p d)) q
def yv(a:Ad)(i f t:Nat):LLQ:=(nth [] a.lk i).map (pY a i f t)
def zJ(a:Ad)(i f t:Nat):LiQ:=stepG a.p (List.replicate a.p.length 0) (yv a i f t)
theorem cI.move{a:Ad}(G:cI a)(hi:i<a.lk.length)(hf:f<(nth [] a.cd i).length)(ht:t<(nth [] a.cd (i+1)).length):∀d∈yv a i f t,d.length=a.p.length∧bdR 160 d:=by intro d hd;obtain⟨x,hx,rfl⟩:=Zc.1 hd;obtain⟨j,hj,rfl⟩:=Wu hx;have hlen:=G.wk.len;have hcl:=G.cl;obtain⟨_,_,⟨n1,n2⟩,n3,n4⟩:=G.wk.notes hi hj;rw[aN _ _ _ hj]at n1 n2 n3 n4;obtain⟨s1,s2⟩:=G.shift (i:=i) (k:=f) aa hf;obtain⟨t1,t2⟩:=G.shift (i:=i+1) (k:=t) aa ht;exact⟨Dx t1 n3 s1 n1,UV (A:=72) (B:=8) (C:=72) (D:=8) t2 n4 s2 n2⟩
def wI(p r:LiQ):Int:=bE r (L5 p)
def sN:LiQ->LLQ->LiQ
 |v,[]=>v
 |v,d::q=>sN (dI 1 v d) q
theorem LH{n:Nat}:∀{m:LLQ},(∀r∈m,r.length=n∧bdR 1000 r)->Gm n m=0
 |[],_=>rfl
 | r::m,h=>by
  obtain⟨h1,h2⟩:=h r af;simp only[Gm];rw[if_neg aa,if_pos (xG h2)];exact LH fun x hx=>h x (by grind)
theorem EW{p:LiQ}(hp:pcB p=0){m:LLQ}(h:∀r∈m,r.length=p.length∧bdR 1000 r):mzB p m=0:=by grind[mzB,LH]
theorem FN(h0:0<n)(h1:n<=most):B7 n most=0:=by unfold B7;rw[if_neg aa,if_neg aa]
theorem H8{p:LiQ}(hp:pcB p=0):∀{ch:List LLQ},(∀c∈ch,(0<c.length∧c.length<=12)∧∀r∈c,r.length=p.length∧bdR 1000 r)->JO p ch=0
 |[],_=>rfl
 | c::q,h=>by
  obtain⟨⟨h1,h2⟩,h3⟩:=h c af;simp only[JO];rw[if_neg (by grind[FN]),if_neg (by grind[EW])];exact H8 hp fun x hx=>h x (by grind)
theorem HI{n:Nat}{B:Int}{ch:List LLQ}{lk:List (List Lk)}(w:wy n B ch lk)(hne:∀l∈lk,0<l.length):∀(q d:List (List Lk)),d++q=lk->Jp ch d.length q=0
 |[],_,_=>rfl
 | l::q,d,hd=>by
  have hm:l∈lk:=by rw[<-hd];simp
  have hl:nth [] lk d.length=l:=by rw[<-hd,bM]
  have ok:=w.ok d.length (by grind);rw[hl]at ok;simp only[Jp];rw[if_neg (by grind[FN,wy.ls]),if_pos ok];have:=HI w hne q (d++[l]) (by grind)
  grind
theorem cI.dc(G:cI a):dcB a.p a.ch a.lk=0:=by
 have h5:=G.five;have hl:=G.wk.len;unfold dcB;rw[if_neg (by simp[G.hp.1]),if_neg (by simp[FN (n:=a.ch.length) (most:=64) aa aa]),if_neg,if_pos hl]
 .exact HI G.wk G.lkn a.lk [] rfl
 .simp[H8 G.hp.1 (ch:=a.ch) fun c hc=>⟨⟨G.cne c hc,G.wk.cs c hc⟩,fun r hr=>⟨(G.wk.rows c hc r hr).1,dO (G.wk.rows c hc r hr).2 aa⟩⟩]
theorem cI.qL(G:cI a):qL 30 a.w:=by obtain⟨w1,w2,w3,w4⟩:=G.w0;exact⟨cN (d:=30) aa ae,cN (d:=30) aa ae⟩
theorem cI.fits(G:cI a):mzB a.p (zu a)=0:=by
 refine EW G.hp.1 fun r hr=>?_
 obtain⟨j,hj,rfl⟩:=Wu hr;have hl:=G.wk.len;have hc:=G.cl;have:=Dk a;obtain⟨h1,h2⟩:=G.root (i:=j) aa
 grind[aN,dO]
def stW(a:Ad)(i f t:Nat):LiQ:=(zJ a i f t).map (· * (a.w.2:Int))
theorem KG{p:LiQ}{B:Nat}:∀{m:LLQ}{v:LiQ}{C:Nat},(∀d∈m,d.length=p.length∧bdN B d)->v.length=p.length->bdN C v->(stepG p v m).length=p.length∧bdN (C+B*m.length) (stepG p v m)
 |[],v,C,_,hv,hb=>⟨hv,by trivial⟩
 | d::m,v,C,hm,hv,hb=>by
  obtain⟨d1,d2⟩:=hm d af;have:=KG (m:=m) (v:=dI 1 v (zl p d)) (C:=C+B) (fun x hx=>hm x (by grind)) (by rw[hQ _ (by grind[pV]),hv]) (lE hb (ya d2));refine⟨this.1,fun x hx=>?_⟩;have:=this.2 x hx
  grind[Nat.mul_add]
theorem cI.stepV(G:cI a)(hi:i<a.lk.length)(hf:f<(nth [] a.cd i).length)(ht:t<(nth [] a.cd (i+1)).length):(zJ a i f t).length=a.p.length∧bdN 1920 (zJ a i f t):=by
 have hls:=G.wk.ls _ (aQ (d:=[]) hi);obtain⟨h1,h2⟩:=KG (p:=a.p) (B:=160) (C:=0) (m:=yv a i f t) (v:=List.replicate a.p.length 0) (fun d hd=>⟨(G.move hi hf ht d hd).1,MX (B:=160) (G.move hi hf ht d hd).2⟩) af (fun x hx=>by grind);refine⟨h1,fun x hx=>?_⟩;have:=h2 x hx;have e:(yv a i f t).length=(nth [] a.lk i).length:=by simp[yv]
 omega
theorem QL{B:Nat}(h:bdN B r){W:Nat}(hw:w.natAbs<=W):bdN (B*W) (r.map (· * w)):=by intro x hx;obtain⟨y,hy,rfl⟩:=Zc.1 hx;rw[Y2];exact Zn (h y hy) hw
theorem cI.stepW(G:cI a)(hi:i<a.lk.length)(hf:f<(nth [] a.cd i).length)(ht:t<(nth [] a.cd (i+1)).length):(stW a i f t).length=a.p.length∧bdN 1920000 (stW a i f t):=by obtain⟨w1,w2,w3,w4⟩:=G.w0;obtain⟨h1,h2⟩:=G.stepV hi hf ht;exact⟨by grind[stW],QL (W:=1000) h2 aa⟩
theorem cI.ownW(G:cI a)(hi:i<a.cd.length)(hk:k<(nth [] a.cd i).length):(uB a i k).length=a.p.length∧bdN 8000 (uB a i k):=by obtain⟨w1,w2,w3,w4⟩:=G.w0;obtain⟨c1,c2⟩:=G.cand hi hk;exact⟨by grind[uB,pV],QL (ya (MX (B:=8) c2)) (W:=1000) aa⟩
def JN(a:Ad)(c:LiQ):Prop:=c.length=a.cd.length∧∀k<c.length,0<=nth 0 c k∧nth 0 c k<(nth [] a.cd k).length
theorem JN.at{c:LiQ}(h:JN a c){l:LiQ}{z:Int}{q:LiQ}(hl:l++z::q=c):∃m:Nat,z=m∧m<(nth [] a.cd l.length).length:=by obtain⟨h1,h2⟩:=h.2 l.length (by grind);rw[<-hl,bM]at h1 h2;exact⟨z.toNat,aa,aa⟩
def CR(p:LiQ):Option LiQ->LiQ->LiQ->LLQ->LLQ->Option LiQ
 | o,own,n,st::ss,be::bs=>CR p (match o with
   |none=>some (sN n [own,st,be])
   |some m=>some (if wI p (sN n [own,st,be])<wI p m then sN n [own,st,be]else m)) own n ss bs
 |o,_,_,_,_=>o
def opV(b:Nat):Option LiQ->V
 |none=>.d nPQ
 |some m=>szV (szI b m)
structure Nf(p:LiQ)(b Bd:Nat):Prop where
 hp:pcS p
 b0:0<b
 b1:b<1000000
 B1:Bd<100000000000
def okR(p:LiQ)(Bd:Nat)(l:LLQ):Prop:=∀r∈l,r.length=p.length∧bdN Bd r
def uA(p:LiQ):LLQ->List LLQ->LLQ->LLQ
 |o::os,ss::sss,bs=>((CR p none o (List.replicate p.length 0) ss bs).getD [])::uA p os sss bs
 |_,_,_=>[]
def dQ(p:LiQ):List LLQ->List (List LLQ)->List LLQ
 |o::o2::os,ss::sss=>uA p o ss ((dQ p (o2::os) sss).headD [])::dQ p (o2::os) sss
 |l,_=>l
structure ZE(p:LiQ)(b Bd:Nat)(owns:List LLQ)(steps:List (List LLQ)):Prop where
 g:Nf p b Bd
 ne:0<owns.length
 hl:steps.length=owns.length
 hN:owns.length<1000000
 ho:∀o∈owns,0<o.length∧o.length<1000000∧okR p Bd o
 hs:∀k,k+1<owns.length->(nth [] steps k).length=(nth [] owns k).length∧∀ss∈nth [] steps k,ss.length=(nth [] owns (k+1)).length∧okR p Bd ss
 hB:∀m,m<owns.length->∀r∈dQ p (owns.drop m) (steps.drop m),r.length<1000000∧okR p Bd r
def mX(a:Ad)(k:Nat):LLQ:=(List.range (nth [] a.cd k).length).map (uB a k)
def lV(a:Ad)(k i:Nat):LLQ:=(List.range (nth [] a.cd (k+1)).length).map (stW a k i)
def ko(a:Ad)(k:Nat):List LLQ:=(List.range (nth [] a.cd k).length).map (lV a k)
def kG(a:Ad):List LLQ:=(List.range a.cd.length).map (mX a)
def gO(a:Ad):List (List LLQ):=(List.range a.cd.length).map (ko a)
variable{a:Ad}{h:Hp}
theorem qV{B C:Nat}(h:bdN B r)(hc:B<=C):bdN C r:=fun x hx=>Zu (h x hx) hc
section
variable{p:LiQ}{b:Nat}
structure xA(p:LiQ)(b B:Nat)(owns:List LLQ)(steps:List (List LLQ)):Prop where
 hp:pcS p
 b0:0<b
 b1:b<1000000
 ne:0<owns.length
 five:owns.length<=5
 B1:B<=2000000
 hl:steps.length=owns.length
 ho:∀o∈owns,0<o.length∧o.length<1000000∧okR p B o
 hs:∀k,k+1<owns.length->(nth [] steps k).length=(nth [] owns k).length∧∀ss∈nth [] steps k,ss.length=(nth [] owns (k+1)).length∧okR p B ss
variable{B:Nat}{owns:List LLQ}{steps:List (List LLQ)}
def p3:Nat->Nat
 |0=>1
 |n+1=>p3 n+p3 n+p3 n
theorem acm(h:n<=4):p3 n<=81:=by have:n=0∨n=1∨n=2∨n=3∨n=4:=aa;rcases this with rfl|rfl|rfl|rfl|rfl<;>decide
theorem xA.le(P:xA p b B owns steps)(h:d<=4):B*p3 d<=200000000:=by have h1:=Zn P.B1 (acm h);omega
end
variable{a:Ad}
theorem jH{α:Type}(d:α)(f:Nat->α)(h:i<n):nth d ((List.range n).map f) i=f i:=by grind[aN]
theorem cI.pre(G:cI a):xA a.p a.w.2 1920000 (kG a) (gO a):=by
 obtain⟨w1,w2,w3,w4⟩:=G.w0;have h5:=G.five;have hcl:=G.cl;have hlen:=G.wk.len;refine⟨G.hp,w1.1,aa,by grind[kG],by grind[kG],aa,by simp[kG,gO],fun o h=>?_,fun k hk=>?_⟩
 .simp only[kG,Zc,X6]at h;obtain⟨k,hk,rfl⟩:=h;obtain⟨n1,n2⟩:=G.cn _ (aQ (d:=[]) hk);refine⟨by grind[mX],by grind[mX],fun r hr=>?_⟩
  grind[mX,ownW,qV]
 .simp only[kG,Yz,Y0]at hk;unfold kG gO;rw[jH _ _ (show k<a.cd.length by omega),jH _ _ (show k<a.cd.length by omega),jH _ _ hk];refine⟨by simp[ko,mX],fun ss hss=>?_⟩;simp only[ko,Zc,X6]at hss;obtain⟨i,hi,rfl⟩:=hss;refine⟨by simp[lV,mX],fun r hr=>?_⟩
  simp only[lV,Zc,X6]at hr;obtain⟨j,hj,rfl⟩:=hr;exact G.stepW (i:=k) aa hi hj
def rA(a:Ad):List LLQ:=dQ a.p (kG a) (gO a)
section
variable{p:LiQ}{b B:Nat}{owns:List LLQ}{steps:List (List LLQ)}
end
def CV(j:Nat):IntKind:=if 6<=j∧j<51 then .i8 else if 73<=j∧j<119 then .i8 else .u8
structure GW(f:Nat->Int):Prop where
 u:∀j<120,CV j=.u8->0<=f j∧f j<=255
 s:∀j<120,CV j=.i8->-128<=f j∧f j<=127
end Go.Vm
namespace Go.Proofs
open Go.Shelf
def Tryz.laysPu14_ren:Go.Shelf.Ren:=⟨fun|14=>152|16=>137|17=>71|19=>149|20=>150|21=>103|22=>104|23=>105|24=>106|25=>138|27=>25|26=>139|28=>63|29=>97|30=>131|31=>132|32=>133|33=>134|35=>88|34=>145|36=>146|37=>147|38=>148|39=>154|40=>155|n=>n,fun|9=>9|3=>3|22=>100|24=>75|25=>189|4=>4|34=>149|5=>5|36=>105|37=>113|0=>0|39=>152|21=>21|44=>193|47=>148|50=>209|48=>207|2=>2|52=>182|55=>184|59=>203|60=>89|20=>20|61=>204|65=>210|66=>211|67=>118|n=>n,fun|0=>0|1=>1|2=>2|3=>4|4=>5|n=>n⟩
theorem Tryz.laysPu14:Go.Proofs.LaysPu.n14 Tryz.prog Tryz.laysPu14_ren:={
 mixed:=ah
 f14:=Tryz.func152.trans (congrArg some ah)
 f16:=Tryz.func137.trans (congrArg some ah)
 f17:=Tryz.func71.trans (congrArg some ah)
 f19:=Tryz.func149.trans (congrArg some ah)
 f20:=Tryz.func150.trans (congrArg some ah)
 f21:=Tryz.func103.trans (congrArg some ah)
 f22:=Tryz.func104.trans (congrArg some ah)
 f23:=Tryz.func105.trans (congrArg some ah)
 f24:=Tryz.func106.trans (congrArg some ah)
 f25:=Tryz.func138.trans (congrArg some ah)
 f26:=Tryz.func139.trans (congrArg some ah)
 f27:=Tryz.func25.trans (congrArg some ah)
 f28:=Tryz.func63.trans (congrArg some ah)
 f29:=Tryz.func97.trans (congrArg some ah)
 f30:=Tryz.func131.trans (congrArg some ah)
 f31:=Tryz.func132.trans (congrArg some ah)
 f32:=Tryz.func133.trans (congrArg some ah)
 f33:=Tryz.func134.trans (congrArg some ah)
 f34:=Tryz.func145.trans (congrArg some ah)
 f35:=Tryz.func88.trans (congrArg some ah)
 f36:=Tryz.func146.trans (congrArg some ah)
 f37:=Tryz.func147.trans (congrArg some ah)
 f38:=Tryz.func148.trans (congrArg some ah)
 f39:=Tryz.func154.trans (congrArg some ah)
 f40:=Tryz.func155.trans (congrArg some ah)
 t0:=Tryz.underlying0
 a0:=Tryz.isAgg0
 z0:=Tryz.sizeOf0
 v0:=Tryz.zeroValue0
 i0:=ah
 t2:=Tryz.underlying2
 a2:=Tryz.isAgg2
 z2:=Tryz.sizeOf2
 v2:=Tryz.zeroValue2
 i2:=ah
 t3:=Tryz.underlying3
 a3:=Tryz.isAgg3
 z3:=Tryz.sizeOf3
 v3:=Tryz.zeroValue3
 i3:=ah
 t4:=Tryz.underlying4
 a4:=Tryz.isAgg4
 z4:=Tryz.sizeOf4
 v4:=Tryz.zeroValue4
 i4:=ah
 t5:=Tryz.underlying5
 a5:=Tryz.isAgg5
 z5:=Tryz.sizeOf5
 v5:=Tryz.zeroValue5
 i5:=ah
 t9:=Tryz.underlying9
 a9:=Tryz.isAgg9
 z9:=Tryz.sizeOf9
 v9:=Tryz.zeroValue9
 i9:=ah
 t20:=Tryz.underlying20
 a20:=Tryz.isAgg20
 z20:=Tryz.sizeOf20
 v20:=Tryz.zeroValue20
 i20:=ah
 t21:=Tryz.underlying21
 a21:=Tryz.isAgg21
 z21:=Tryz.sizeOf21
 v21:=Tryz.zeroValue21
 i21:=ah
 t22:=Tryz.underlying100
 a22:=Tryz.isAgg100
 z22:=Tryz.sizeOf100
 v22:=Tryz.zeroValue100
 i22:=ah
 t24:=Tryz.underlying75
 a24:=Tryz.isAgg75
 z24:=Tryz.sizeOf75
 v24:=Tryz.zeroValue75
 i24:=ah
 t25:=Tryz.underlying189
 a25:=Tryz.isAgg189
 z25:=Tryz.sizeOf189
 v25:=Tryz.zeroValue189
 i25:=ah
 t34:=Tryz.underlying149
 a34:=Tryz.isAgg149
 z34:=Tryz.sizeOf149
 v34:=Tryz.zeroValue149
 i34:=ah
 c34:=ah
 t36:=Tryz.underlying105
 a36:=Tryz.isAgg105
 z36:=Tryz.sizeOf105
 v36:=Tryz.zeroValue105
 i36:=ah
 t37:=Tryz.underlying113
 a37:=Tryz.isAgg113
 z37:=Tryz.sizeOf113
 v37:=Tryz.zeroValue113
 i37:=ah
 t39:=Tryz.underlying152
 a39:=Tryz.isAgg152
 z39:=Tryz.sizeOf152
 v39:=Tryz.zeroValue152
 i39:=ah
 t44:=Tryz.underlying193
 a44:=Tryz.isAgg193
 z44:=Tryz.sizeOf193
 v44:=Tryz.zeroValue193
 i44:=ah
 t47:=Tryz.underlying148
 a47:=Tryz.isAgg148
 z47:=Tryz.sizeOf148
 v47:=Tryz.zeroValue148
 i47:=ah
 t48:=Tryz.underlying207
 a48:=Tryz.isAgg207
 z48:=Tryz.sizeOf207
 v48:=Tryz.zeroValue207
 i48:=ah
 t50:=Tryz.underlying209
 a50:=Tryz.isAgg209
 z50:=Tryz.sizeOf209
 v50:=Tryz.zeroValue209
 i50:=ah
 t52:=Tryz.underlying182
 a52:=Tryz.isAgg182
 z52:=Tryz.sizeOf182
 v52:=Tryz.zeroValue182
 i52:=ah
 t55:=Tryz.underlying184
 a55:=Tryz.isAgg184
 z55:=Tryz.sizeOf184
 v55:=Tryz.zeroValue184
 i55:=ah
 t59:=Tryz.underlying203
 a59:=Tryz.isAgg203
 z59:=Tryz.sizeOf203
 v59:=Tryz.zeroValue203
 i59:=ah
 t60:=Tryz.underlying89
 a60:=Tryz.isAgg89
 z60:=Tryz.sizeOf89
 v60:=Tryz.zeroValue89
 i60:=ah
 t61:=Tryz.underlying204
 a61:=Tryz.isAgg204
 z61:=Tryz.sizeOf204
 t65:=Tryz.underlying210
 a65:=Tryz.isAgg210
 z65:=Tryz.sizeOf210
 v65:=Tryz.zeroValue210
 i65:=ah
 t66:=Tryz.underlying211
 a66:=Tryz.isAgg211
 z66:=Tryz.sizeOf211
 v66:=Tryz.zeroValue211
 i66:=ah
 t67:=Tryz.underlying118
 a67:=Tryz.isAgg118
 z67:=Tryz.sizeOf118
 v67:=Tryz.zeroValue118
 i67:=ah
 g0:=ah
 m0:=ah
 g1:=ah
 m1:=ah
 g2:=ah
 m2:=ah
 g3:=ah
 m3:=ah
 g4:=ah
 m4:=by kernel_rfl}
end Go.Proofs
namespace Go.Vm
open Go Go.Am
theorem Qw:∀(l:LuQ)(a:Nat),a<=pW a l
 |[],a=>Z7 _
 | c::l,a=>by
  have h:a*10+(c.toNat-48)<=pW (a*10+(c.toNat-48)) l:=Qw l _;have e:pW a (c::l)=pW (a*10+(c.toNat-48)) l:=rfl;generalize pW a (c::l)=y at *;generalize pW (a*10+(c.toNat-48)) l=z at *;generalize c.toNat-48=d at *;omega
theorem rN:∀(l:LuQ)(a:Nat),l.all oN=true->pW a l<10000000000000000000->Lib.parseUintM (2^64-1) a l=.ok (pW a l)
 |[],a,_,_=>rfl
 | c::l,a,h,hd=>by
  simp only[List.all_cons,Z8,oN,Nat.ble_eq]at h;have e:pW a (c::l)=pW (a*10+(c.toNat-48)) l:=rfl;rw[e]at hd ⊢;have hge:=Qw l (a*10+(c.toNat-48));rw[Lib.parseUintM,if_pos h.1,if_neg aa,if_neg aa];exact rN l _ h.2 hd
theorem frz(w:World)(e:TypeId)(s:ByteArray):w.heap.size<=(Lib.bytesWorld w e s).heap.size∧(∀c,c<w.heap.size->(Lib.bytesWorld w e s).heap[c]?=w.heap[c]?)∧(Lib.bytesWorld w e s).os=w.os∧(Lib.bytesWorld w e s).output=w.output:=
 ⟨by rw[Lib.bytesWorld_size];omega,fun c hc=>Lib.bytesWorld_at_old w e s c hc,rfl,rfl⟩
def CN:Go.Shelf.Ren:=⟨fun|25=>141|n=>n,fun|22=>100|n=>n,fun n=>n⟩
theorem CY:Go.Proofs.Lays7.n25 Go.Proofs.Tryz.prog CN:={
 mixed:=ah
 f25:=Go.Proofs.Tryz.func141.trans (congrArg some ah)
 t22:=Go.Proofs.Tryz.underlying100
 a22:=Go.Proofs.Tryz.isAgg100
 z22:=Go.Proofs.Tryz.sizeOf100
 v22:=Go.Proofs.Tryz.zeroValue100
 i22:=by kernel_rfl}
theorem afG:adb X:=by
 intro f args v h;simp only[X]at h;split at h
 .rename_i hf;obtain rfl:=Zl hf;unfold Lh at h;split at h
  .rename_i s a b;split at h
   .rename_i hc;obtain⟨rfl,rfl,hne,hall,hsz,hlt⟩:=hc;obtain rfl:=Option.some.inj h;refine⟨rfl,rfl,.inr ⟨⟨_,Go.Proofs.Tryz.func152,ah,ah⟩,fun w=>?_⟩⟩
    have hp:Lib.parseUintB 64 s.data.toList=.ok (pW 0 s.data.toList):=by
     rw[Lib.parseUintB,if_neg hne];exact rN _ _ hall hlt
    have hsz2:s.size=s.data.toList.length:=by rw[Array.length_toList];rfl
    have hmax:s.size<=9223372036854775806:=aa;refine(Go.Proofs.Any.strconv_ParseUint_10_at64_ok Go.Proofs.Tryz.laysPu14 s hmax _ hp w).mono ?_;rintro e w' ⟨rfl,rfl|rfl⟩
    .exact⟨rfl,Z7 _,fun _ _=>rfl,rfl,rfl⟩
    .exact⟨rfl,frz w _ s⟩
   .cases h
  .cases h
 .split at h
  .rename_i hf;obtain rfl:=Zl hf;unfold yk at h;split at h
   .rename_i x y c;split at h
    .rename_i hc;obtain⟨h1,h2,h3,h4⟩:=hc;obtain rfl:=Option.some.inj h;refine⟨rfl,rfl,.inl fun w=>?_⟩;have:=Go.Proofs.Any7.bits_Add64 CY x.toNat y.toNat c.toNat aa w;rw[Wy h1,Wy h2,Wy h3]at this;exact this
    .cases h
   .cases h
  .cases h
open Go.Proofs
theorem afy:QT X:=by intro gf lb H xs h0;have h:(none:Option (List LvQ))=some xs:=h0;cases h
end Go.Vm
set_option maxRecDepth 100000
namespace Go.Vm
open Go Go.Am
variable{f:FuncId}{a:Addr}{vs:LvQ}{n m fuel:Nat}{ds:LdQ}{t:TypeId}
theorem aei:(List.range X.P.funcs.size).all (fun f=>!X.allow f||match X.P.funcs[f]? with
  |some fn=>aaC X.P fn&&(match fn.body with|some c=>jZ Y fn.ntmps c|none=>true)
  |none=>true)=true:=bb
theorem acD{fn:Func}(ha:X.allow f=true)(hf:X.P.funcs[f]?=some fn):aaC X.P fn=true∧(match fn.body with|some c=>jZ Y fn.ntmps c|none=>true)=true:=by
 have hlt:f<X.P.funcs.size:=by
  rcases Zi f X.P.funcs.size with h|h
  .exact h
  .rw[Array.getElem?_eq_none h]at hf;cases hf
 have:=Zv.1 aei f (X6.2 hlt);rw[ha,hf]at this;simpa using this
theorem vOk:VOk Y where
 y:=yOk
 fns f fn c ha hf hc:=by have:=(acD ha hf).2;rw[hc]at this;exact this
theorem adV:OW X where
 mixed:=by rfl
 fns f fn ha hf:=(acD ha hf).1
 orc:=afG
 seq:=afy
mutual
def WD(w:World):D->Value->Prop
 |.int k n,v=>v=.int k n
 |.bool b,v=>v=.bool b
 |.str s,v=>v=.string ⟨⟨s⟩⟩
 |.pl u,v=>v=u∧plain u=true∧okCell u=true
 | .sl len cells,v=>(len=0∧cells=[]∧(v=.slice none 0 0∨∃a,v=.slice (some a) 0 0)) ∨
   ∃ c o cap n cs e fz,v=.slice (some ⟨c,o,none⟩) len cap∧len<=cap∧0<n∧cells.length=len*n ∧
    w.heap[c]?=some (.cells cs e fz)∧o+cells.length<=cs.size∧WDs w cells ((cs.toList.drop o).take cells.length)
def WDs(w:World):LdQ->LvQ->Prop
 |[],l=>l=[]
 |x::xs,l=>∃v vs,l=v::vs∧WD w x v∧WDs w xs vs
end
structure Ly(w:World)(φ:bG)(F:Nat->Prop)(H:AH):Prop where
 rel:aV X φ H w
 wf:WF H
 fr:∀c,F c->c<H.n∧∃x,H.get c=some x∧x.st=1
 ro:∀c x,H.get c=some x->x.wr=false
 top:∀b p,φ b=some p->b<H.n
 pg:∃p,φ od=some p
structure uS(φ:bG)(F:Nat->Prop)(H:AH)(φ':bG)(F':Nat->Prop)(H':AH):Prop where
 n:H.n<=H'.n
 le:PLe φ φ'
 fm:∀c,F c->F' c
 keep:∀c,c<H.n->H'.get c=H.get c
theorem uS.refl(φ:bG)(F:Nat->Prop)(H:AH):uS φ F H φ F H:=⟨Z7 _,PLe.refl _,fun _ h=>h,fun _ _=>rfl⟩
theorem uS.trans{φ φ1 φ2:bG}{F F1 F2:Nat->Prop}{H H1 H2:AH}(a:uS φ F H φ1 F1 H1)(b:uS φ1 F1 H1 φ2 F2 H2):uS φ F H φ2 F2 H2:=
 ⟨Zu a.n b.n,a.le.trans b.le,fun c h=>b.fm c (a.fm c h),fun c h=>by rw[b.keep c (Z1 h a.n),a.keep c h]⟩
theorem uS.leF{φ φ':bG}{F F':Nat->Prop}{H H':AH}{w:World}(L:Ly w φ F H)(a:uS φ F H φ' F' H'):LeF F F' H H':=
 ⟨a.fm,fun c hc=>a.keep c (L.fr c hc).1,fun c x hx h0=>⟨x,by grind[keep,AH.get_lt],h0⟩⟩
def roB(b n:Nat)(cells:LvQ):Blk:={cells,st:=1,wr:=false,fam:=b,start:=0,shared:=false,exact:=true,esz:=n,ver:=1}
theorem Ly.push{w:World}{φ:bG}{F:Nat->Prop}{H:AH}(L:Ly w φ F H){c o n:Nat}{us vs:LvQ}{cs:Array Value}{e:TypeId}{fz:Nat×Nat}(hh:w.heap[c]?=some (.cells cs e fz))
  (hlen:us.length=vs.length) (ho:o+us.length<=cs.size) (hvs:vs=(cs.toList.drop o).take us.length) (hr:am φ us vs) :
  Ly w (zj φ H.n ⟨c,o,us.length,n,cs.size,true⟩) (fun x=>F x∨x=H.n) (H.push (roB H.n n us)) ∧
  uS φ F H (zj φ H.n ⟨c,o,us.length,n,cs.size,true⟩) (fun x=>F x∨x=H.n) (H.push (roB H.n n us)):=by
 have hnone:φ H.n=none:=by
  cases hq:φ H.n with
  |none=>rfl
  |some p=>have:=L.top _ p hq;omega
 have hle:PLe φ (zj φ H.n ⟨c,o,us.length,n,cs.size,true⟩):=PLe.add hnone;have hn:(H.push (roB H.n n us)).n=H.n+1:=rfl;have old:∀b,b<H.n->(H.push (roB H.n n us)).get b=H.get b:=fun b hb=>AH.get_push aa
 have new:(H.push (roB H.n n us)).get H.n=some (roB H.n n us):=AH.get_push_new H _
 have ro:∀b x,(H.push (roB H.n n us)).get b=some x->x.wr=false:=fun b x hx=>by
  rcases Zi b H.n with h|h
  .grind[ro]
  .have hb:b=H.n:=by have:=AH.get_lt hx;omega
   subst hb;rw[new]at hx;cases hx;rfl
 refine ⟨⟨⟨fun g hg=>?_,fun b p hp=>?_,fun b p x i v hp hx h1 hv=>?_,fun b p x i hp hx h1 hi=>?_,fun b b' p p' x x' _ _ hx hx' _ _ _ _=>.inl ⟨ro b x hx,ro b' x' hx'⟩⟩,?_,fun b hb=>?_,ro,fun b p hp=>?_,L.pg.imp fun p hp=>hle _ p hp⟩,
  ⟨aa,hle,fun x h=>.inl h,old⟩⟩
 .obtain⟨p,hp,h1⟩:=L.rel.glob g hg;exact⟨p,hle g p hp,h1⟩
 .by_cases hb:b=H.n
  .subst hb;rw[dU]at hp;cases hp;exact⟨_,cs,e,fz,new,by simp[roB],rfl,rfl,rfl,hh,rfl,ho⟩
  .rw[fW hb]at hp;obtain⟨x,r⟩:=L.rel.dom b p hp
   grind[top]
 .by_cases hb:b=H.n
  .subst hb;rw[dU]at hp;cases hp;rw[new]at hx;cases hx;obtain⟨v',h1,h2⟩:=hr.at (i:=i) hv
   grind[av.mono,cell_of_heap]
  .rw[fW hb]at hp;rw[old b (L.top b p hp)]at hx;obtain⟨v',h2,h3⟩:=L.rel.cell b p x i v hp hx h1 hv
   grind[av.mono]
 .grind
 .refine⟨by simp[AH.push,L.wf.len],fun b x hx=>?_⟩;rcases Zi b H.n with h|h
  .rw[old b h]at hx;exact L.wf.fam b x hx
  .have hb:b=H.n:=by have:=AH.get_lt hx;omega
   subst hb;rw[new]at hx;cases hx;trivial
 .rcases hb with hb|rfl
  .obtain⟨h1,x,h2,h3⟩:=L.fr b hb;exact⟨aa,x,by grind,h3⟩
  .exact⟨aa,_,new,rfl⟩
 .by_cases hb:b=H.n
  .omega
  .rw[fW hb]at hp;have:=L.top b p hp;omega
mutual
theorem lay{w:World}:∀(d:D)(v:Value){φ:bG}{F:Nat->Prop}{H:AH},Ly w φ F H->WD w d v ->
  ∃φ' F' H' u,Ly w φ' F' H'∧uS φ F H φ' F' H'∧av φ' u v∧RD F' H' d u
 |.int k n,v,φ,F,H,L,h=>⟨φ,F,H,v,L,uS.refl ..,by simp only[WD]at h;subst h;rfl,h⟩
 |.bool b,v,φ,F,H,L,h=>⟨φ,F,H,v,L,uS.refl ..,by simp only[WD]at h;subst h;rfl,h⟩
 |.str s,v,φ,F,H,L,h=>⟨φ,F,H,v,L,uS.refl ..,by simp only[WD]at h;subst h;rfl,h⟩
 |.pl u,v,φ,F,H,L,h=>⟨φ,F,H,v,L,uS.refl ..,by grind[WD,av.of_plain],h⟩
 | .sl len cells,v,φ,F,H,L,h=>by
  simp only[WD]at h;rcases h with⟨rfl,rfl,rfl|⟨a,rfl⟩⟩|⟨c,o,cap,n,cs,e,fz,rfl,hlc,hn,hlen,hh,ho,hds⟩
  .exact⟨φ,F,H,.slice none 0 0,L,uS.refl ..,rfl,.inl ⟨rfl,rfl,.inl rfl⟩⟩
  .obtain⟨p,hp⟩:=L.pg;obtain⟨x,_,_,_,hx,h0,_⟩:=L.rel.dom _ _ hp;exact⟨φ,F,H,.slice (some ⟨od,0,none⟩) 0 0,L,uS.refl ..,⟨a,0,rfl,.inr ⟨rfl,rfl,rfl,rfl,p,hp⟩⟩,.inl ⟨rfl,rfl,.inr ⟨_,_,_,rfl,x,hx,h0⟩⟩⟩
  .obtain⟨φ1,F1,H1,us,L1,E1,r1,d1⟩:=lays cells _ L hds;have hl:us.length=cells.length:=by have:=d1.length;omega
   obtain⟨L2,E2⟩:=L1.push (us:=us) (n:=n) (o:=o) hh (by grind) aa (by rw[hl]) r1;refine⟨_,_,_,.slice (some ⟨H1.n,0,none⟩) len cap,L2,E1.trans E2,?_,?_⟩
   .refine⟨⟨c,o,none⟩,cap,rfl,.inl ⟨rfl,rfl,_,dU ..,rfl,rfl,.inl rfl⟩⟩
   .have new:(H1.push (roB H1.n n us)).get H1.n=some (roB H1.n n us):=AH.get_push_new H1 _;by_cases h0:len=0
    .subst h0;exact .inl ⟨rfl,Zf aa,.inr ⟨_,_,_,rfl,_,new,by simp[roB]⟩⟩
    .refine .inr ⟨H1.n,0,cap,us,n,rfl,aa,hlc,hn,hlen,.inr rfl,?_,RDs.mono (E2.leF L1) _ _ d1,_,new,.inl rfl⟩;rw[mW new rfl (by show 0+cells.length<=us.length;omega)]
     show some ((us.drop 0).take cells.length)=_
     grind
theorem lays{w:World}:∀(ds:LdQ)(vs:LvQ){φ:bG}{F:Nat->Prop}{H:AH},Ly w φ F H->WDs w ds vs ->
  ∃φ' F' H' us,Ly w φ' F' H'∧uS φ F H φ' F' H'∧am φ' us vs∧RDs F' H' ds us
 |[],vs,φ,F,H,L,h=>⟨φ,F,H,[],L,uS.refl ..,by trivial,rfl⟩
 | d::ds,vs,φ,F,H,L,h=>by
  simp only[WDs]at h;obtain⟨v,vs,rfl,h1,h2⟩:=h;obtain⟨φ1,F1,H1,u,L1,E1,r1,d1⟩:=lay d v L h1;obtain⟨φ2,F2,H2,us,L2,E2,r2,d2⟩:=lays ds vs L1 h2;exact⟨φ2,F2,H2,u::us,L2,E1.trans E2,⟨v,vs,rfl,av.mono E2.le u v r1,r2⟩,⟨u,us,rfl,RD.mono (E2.leF L1) _ _ d1,d2⟩⟩
end
def aas:Nat->List Blk
 |0=>[]
 |n+1=>yF::aas n
theorem Lp:∀(n i:Nat)(x:Blk),(aas n)[i]?=some x->x=yF
 |0,_,_,h=>by trivial
 |n+1,0,x,h=>by grind[aas]
 |n+1,i+1,x,h=>Lp n i x (by trivial)
def BA:LvQ:=[.int .u64 1,.int .u64 10,.int .u64 100,.int .u64 1000,.int .u64 10000,.int .u64 100000,.int .u64 1000000,.int .u64 10000000,.int .u64 100000000,.int .u64 1000000000,.int .u64 10000000000,.int .u64 100000000000,
 .int .u64 1000000000000,.int .u64 10000000000000,.int .u64 100000000000000,.int .u64 1000000000000000,.int .u64 10000000000000000,.int .u64 100000000000000000,.int .u64 1000000000000000000,.int .u64 10000000000000000000]
def QU(w:World):Prop:=∃cs e fz,w.heap[od]?=some (.cells cs e fz)∧20<=cs.size∧BA=cs.toList.take 20
def H00:AH:=⟨od,aas od⟩
theorem ab3{b:Nat}{x:Blk}(h:H00.get b=some x):x=yF:=by
 unfold AH.get at h;split at h
 .exact Lp _ _ _ h
 .trivial
theorem start{w:World}(hp:QU w):∃φ F H,Ly w φ F H∧p9 Y F H:=by
 obtain⟨cs,e,fz,hh,hsz,hcs⟩:=hp
 let φ:bG:=fun b=>if b=od then some ⟨od,0,20,1,cs.size,true⟩else none
 let H:AH:=H00.push (roB od 1 BA)
 have hn:H.n=od+1:=rfl;have new:H.get od=some (roB od 1 BA):=AH.get_push_new H00 _
 have old:∀{b x},b≠od->H.get b=some x->x=yF:=fun{b x} hb hx=>by
  grind[H00,AH.get_push,ab3]
 have hφ:∀{b p},φ b=some p->b=od∧p=⟨od,0,20,1,cs.size,true⟩:=fun{b p} h=>by
  grind
 have ro:∀b x,H.get b=some x->x.wr=false:=fun b x hx=>by
  by_cases hb:b=od
  .subst hb;rw[new]at hx;cases hx;rfl
  .rw[old hb hx];rfl
 have L:Ly w φ (· = od) H:=by
  refine⟨⟨fun g hg=>?_,fun b p hp=>?_,fun b p x i v hp hx h1 hv=>?_,fun b p x i hp hx h1 hi=>?_,fun b b' p p' x x' _ _ hx hx' _ _ _ _=>.inl ⟨ro b x hx,ro b' x' hx'⟩⟩,?_,?_,ro,fun b p hp=>?_,⟨⟨od,0,20,1,cs.size,true⟩,by rfl⟩⟩
  .have:g=od:=by simpa[X]using hg
   exact⟨⟨od,0,20,1,cs.size,true⟩,by grind,this.symm,rfl⟩
  .grind[roB]
  .obtain⟨rfl,rfl⟩:=hφ hp;rw[new]at hx;cases hx;have hv':BA[i]?=some v:=hv;refine⟨v,?_,?_⟩
   .grind[cell_of_heap]
   .have hm:v∈BA:=Xf hv';have:BA.all plain=true:=rfl
    grind[av.of_plain]
  .grind
  .refine⟨by rfl,fun b x hx=>?_⟩;by_cases hb:b=od
   .subst hb;rw[new]at hx;cases hx;trivial
   .rw[old hb hx];exact Yl _
  .rintro c rfl;exact⟨aa,_,new,rfl⟩
  .grind
 refine⟨φ,_,H,L,fun g cs' hg=>?_⟩
 have hgp:g=od∧cs'=Ll:=by
  simp only[Y]at hg;split at hg
  .simp_all
  .cases hg
 obtain⟨rfl,rfl⟩:=hgp;refine⟨X7 _,rfl,BA,?_,?_⟩
 .rfl
 simp[Ll,BA,RDs,RD]
open Go.ChangeShapes Go.WideShapes Go.ChangeAt Go.RowKit
variable{HH:Type}{enc:TypeId×Value->HH}{P:Program}{w:World}{base:Nat}{held:Bool}
theorem MQ{v:Value}(h:w.cell? a=some v):∃cs e fz,w.heap[a.block]?=some (.cells cs e fz)∧a.spot=none∧cs[a.off]?=some v:=by
 unfold World.cell? at h;split at h
 .rename_i c e fz hc;split at h
  .cases h
  .rename_i hs;refine⟨c,e,fz,hc,?_,h⟩;cases hq:a.spot with
   |none=>rfl
   |some s=>rw[hq]at hs;simp at hs
 .cases h
theorem addr_add(a:Addr)(hs:a.spot=none)(i:Nat):a.add i=⟨a.block,a.off+i,none⟩:=by
 unfold Addr.add;split
 .rename_i h;subst h;cases a;simp at hs ⊢;exact hs
 .rfl
theorem Ib(h:∀i v,vs[i]?=some v->w.cell? (a.add i)=some v)(hp:0<vs.length):
  ∃cs e fz,w.heap[a.block]?=some (.cells cs e fz)∧a.spot=none∧a.off+vs.length<=cs.size∧vs=(cs.toList.drop a.off).take vs.length:=by
 obtain⟨v0,h0⟩:∃v,vs[0]?=some v:=⟨vs[0],by simp[hp]⟩;obtain⟨cs,e,fz,hc,hs,_⟩:=MQ (h 0 v0 h0);have ha0:a.add 0=a:=by unfold Addr.add;simp
 rw[ha0]at hc hs
 have at_:∀i v,vs[i]?=some v->cs[a.off+i]?=some v:=fun i v hv=>by
  obtain⟨cs',e',fz',hc',_,hv'⟩:=MQ (h i v hv);rw[addr_add a hs]at hc' hv';simp only at hc' hv';rw[hc]at hc';cases hc';exact hv'
 have hle:a.off+vs.length<=cs.size:=by
  have hl:=at_ (vs.length-1) vs[vs.length-1] (by rw[List.getElem?_eq_getElem]);have:=(Array.getElem?_eq_some_iff.1 hl).1;omega
 refine⟨cs,e,fz,hc,hs,hle,?_⟩;apply X8;intro i;by_cases hi:i<vs.length
 .rw[List.getElem?_take_of_lt hi,List.getElem?_drop];have:=at_ i vs[i] (by rw[List.getElem?_eq_getElem hi]);rw[List.getElem?_eq_getElem hi];simpa using this.symm
 .rw[List.getElem?_eq_none aa,List.getElem?_eq_none bK]
inductive Sh where
 |int (k:IntKind)
 |bool
 |str
 |sl (e:Sh)
 |ar (n:Nat) (e:Sh)
 |st (fs:List Sh)
variable{s:Sh}
mutual
/-- A type has a shape. -/
def Typ(P:Program):Sh->TypeId->Prop
 |.int k,t=>P.underlying t=some (.int k)∧P.cellsOf t=1
 |.bool,t=>P.underlying t=some .bool∧P.cellsOf t=1
 |.str,t=>P.underlying t=some .string∧P.cellsOf t=1
 |.sl e,t=>∃u,P.underlying t=some (.slice u)∧P.cellsOf t=1∧0<P.cellsOf u∧Typ P e u
 |.ar n e,t=>∃u,P.underlying t=some (.array n u)∧P.cellsOf t=n*P.cellsOf u∧Typ P e u
 |.st fs,t=>∃l:List Field,P.underlying t=some (.struct l.toArray)∧SF P fs l 0 (P.cellsOf t)
def SF(P:Program):List Sh->List Field->Nat->Nat->Prop
 |[],l,o,n=>l=[]∧o=n
 |s::ss,l,o,n=>∃f r,l=f::r∧f.offset=o∧Typ P s f.type∧SF P ss r (o+P.cellsOf f.type) n
end
mutual
/-- Cells of a shape. -/
def Dat:Sh->LdQ->Prop
 |.int k,ds=>∃n,ds=[.int k n]∧(Lit.int k n).wf=true
 |.bool,ds=>∃b,ds=[.bool b]
 |.str,ds=>∃s:LuQ,ds=[.str s]∧s.length<=maxLen
 |.sl e,ds=>∃xs:List LdQ,ds=[.sl xs.length xs.flatten]∧∀x∈xs,Dat e x
 |.ar n e,ds=>∃xs:List LdQ,ds=xs.flatten∧xs.length=n∧∀x∈xs,Dat e x
 |.st ss,ds=>aeO ss ds
def aeO:List Sh->LdQ->Prop
 |[],ds=>ds=[]
 |s::ss,ds=>∃a b,ds=a++b∧Dat s a∧aeO ss b
end
theorem WDs.append:∀{a b:LdQ}{u v:LvQ},WDs w a u->WDs w b v->WDs w (a++b) (u++v)
 |[],b,u,v,h,h2=>by grind[WDs]
 | x::a,b,u,v,h,h2=>by
  simp only[WDs]at h;obtain⟨y,u,rfl,h0,h1⟩:=h;exact⟨y,u++v,rfl,h0,h1.append h2⟩
theorem WDs.len:∀{a:LdQ}{u:LvQ},WDs w a u->a.length=u.length
 |[],u,h=>by grind[WDs]
 | x::a,u,h=>by
  simp only[WDs]at h;obtain⟨y,u,rfl,_,h1⟩:=h;simp[h1.len]
theorem vk{α:Type}(C:Nat->List α)(n:Nat):∀m,(∀i,i<m->(C i).length=n)->((List.range m).flatMap C).length=m*n∧∀i j,i<m->j<n->((List.range m).flatMap C)[i*n+j]?=(C i)[j]?
 |0,_=>⟨af,fun i j hi=>by omega⟩
 | m+1,h=>by
  obtain⟨h1,h2⟩:=vk C n m fun i hi=>h i aa
  have e:(List.range (m+1)).flatMap C=(List.range m).flatMap C++C m:=by simp[Y3]
  rw[e];refine⟨by rw[Zm,h1,h m aa,X5],fun i j hi hj=>?_⟩;by_cases him:i<m
  .rw[List.getElem?_append_left,h2 i j him hj];rw[h1]
   calc i*n+j<i*n+n:=aa
    _=(i+1)*n:=by rw[X5]
    _<=m*n:=Zz n him
  .obtain rfl:i=m:=aa
   simp_all
theorem Bc(C:Nat->LvQ)(X:Nat->LdQ):∀m,(∀i,i<m->WDs w (X i) (C i))->WDs w ((List.range m).flatMap X) ((List.range m).flatMap C)
 |0,_=>rfl
 | m+1,h=>by
  simp only[Y3,List.flatMap_append,Xn,List.flatMap_nil,Y8];exact(Bc C X m fun i hi=>h i aa).append (h m aa)
theorem QY{len cap:Nat}(hn:0<n)(hl:len<=cap)(hlen:vs.length=cap*n)(h:∀i v,vs[i]?=some v->w.cell? (a.add i)=some v)(hd:WDs w ds (vs.take (len*n)))(hds:ds.length=len*n):WD w (.sl len ds) (.slice (some a) len cap):=by
 simp only[WD];by_cases h0:cap=0
 .have e:len=0:=aa
  simp_all
 .have hpos:0<vs.length:=by rw[hlen];exact Yx aa hn
  have hle2:len*n<=vs.length:=by rw[hlen];exact Zz n hl
  obtain⟨cs,e,fz,hc,hs,hle,hvs⟩:=Ib h hpos;refine .inr ⟨a.block,a.off,cap,n,cs,e,fz,?_,hl,hn,hds,hc,aa,?_⟩
  .cases a;grind
  grind
def Opn(enc:TypeId×Value->HH)(P:Program)(w:World)(base:Nat)(held:Bool)(s:Sh):Prop:=
 ∀(t:TypeId)(fuel:Nat)(cs:LvQ)(x:DataW HH×List MemPlace),Typ P s t->DataW.trod enc P w base (fun _=>true) held fuel t cs=some x->cs.length=P.cellsOf t∧∃ds,Dat s ds∧WDs w ds cs
theorem JM{α:Type}[Inhabited α]{p:Nat->α->Prop}(h:∀i,i<m->∃x,p i x):∃f:Nat->α,∀i,i<m->p i (f i):=
 ⟨fun i=>if hi:i<m then Classical.choose (h i hi)else default,fun i hi=>by
  grind⟩
theorem adS(ih:Opn enc P w base held s):Opn enc P w base held (.sl s):=by
 intro t fuel cs x ht h;simp only[Typ]at ht;obtain⟨u,hu,hc1,hcu,hs⟩:=ht;rcases Deep.open_slice hu h with⟨rfl,_⟩|⟨a,len,cap,m,n,Dd,Pl,rfl,_,hlc,_,hm,_,hx⟩
 .exact⟨by grind,[.sl 0 []],⟨[],rfl,fun x hx=>by cases hx⟩,_,_,rfl,.inl ⟨rfl,rfl,.inl rfl⟩,rfl⟩
 .simp only[if_true]at hm;subst hm;obtain⟨C,hC⟩:=JM (α:=LvQ) hx
  obtain ⟨E,hE⟩:=JM (α:=LdQ) (p:=fun i e=>Dat s e∧WDs w e (C i)) (m:=m) fun i hi=>by
   obtain⟨_,ds,h1,h2⟩:=ih _ _ _ _ hs (hC i hi).2
   grind
  have hCl:∀i,i<m->(C i).length=P.cellsOf u:=fun i hi=>(World.cells?_some (hC i hi).1).2.1
  obtain⟨hl1,hl2⟩:=vk C (P.cellsOf u) m hCl;have hEl:∀i,i<m->(E i).length=P.cellsOf u:=fun i hi=>by rw[(hE i hi).2.len,hCl i hi]
  refine⟨by grind,[.sl ((List.range len).map E).length ((List.range len).map E).flatten],⟨_,rfl,fun x hx=>?_⟩,_,_,rfl,?_,rfl⟩
  .simp only[Zc,X6]at hx;obtain⟨i,hi,rfl⟩:=hx;exact(hE i aa).1
  .rw[Yz,Y0,<-List.flatMap_def];refine QY (vs:=(List.range m).flatMap C) hcu hlc hl1 (fun i v hv=>?_) ?_ (vk E (P.cellsOf u) len fun i hi=>hEl i aa).1
   .have hi:=(List.getElem?_eq_some_iff.1 hv).1;rw[hl1]at hi;have hdm:=Yf i (P.cellsOf u);have hmod:=Y7 i hcu;have hdiv:i/P.cellsOf u<m:=Wl (by grind);have e:i=i/P.cellsOf u*P.cellsOf u+i%P.cellsOf u:=by rw[Zt];exact hdm.symm
    have:=(World.cells?_some (hC _ hdiv).1).2.2 (i%P.cellsOf u) hmod
    grind[Addr.add_add]
   ·have e:((List.range m).flatMap C).take (len*P.cellsOf u)=(List.range len).flatMap C:=by
     have e1:List.range m=List.range len++(List.range (m-len)).map (len + ·):=by
      conv=>lhs;rw[show m=len+(m-len) by omega,List.range_add]
     rw[e1,List.flatMap_append,Xy];exact(vk C (P.cellsOf u) len fun i hi=>hCl i aa).1
    rw[e];exact Bc C E len fun i hi=>(hE i aa).2
theorem adT(ih:Opn enc P w base held s):Opn enc P w base held (.ar n s):=by
 intro t fuel cs x ht h;simp only[Typ]at ht;obtain⟨u,hu,hct,hs⟩:=ht;obtain⟨xs,m,_,_,hl,hxl,hx⟩:=DataW.trod_array hu h
 let C:Nat->LvQ:=fun i=>(cs.drop (i*P.cellsOf u)).take (P.cellsOf u)
 obtain ⟨E,hE⟩:=JM (α:=LdQ) (p:=fun i e=>Dat s e∧WDs w e (C i)) (m:=n) fun i hi=>by
  have:=hx i hi;rw[List.getElem?_eq_getElem aa]at this;obtain⟨_,ds,h1,h2⟩:=ih _ _ _ _ hs this
  grind
 refine⟨hl,((List.range n).map E).flatten,⟨_,rfl,af,fun x hx=>?_⟩,?_⟩
 .grind
 .rw[<-List.flatMap_def]
  have e:∀m,m<=n->cs.take (m*P.cellsOf u)=(List.range m).flatMap C:=by
   intro m
   induction m with
   |zero=>simp
   | succ m ihm=>
    intro hm;rw[X5,List.take_add,ihm aa];simp[Y3,C]
  have:=e n (Z7 _);rw[Z6 aa]at this
  grind[Bc]
mutual
theorem opn:∀s:Sh,Opn enc P w base held s
 | .int k=>by
  intro t fuel cs x ht h;simp only[Typ]at ht;obtain⟨n,rfl,_,hw⟩:=DataW.trod_int ht.1 h;exact⟨by grind,[.int k n],⟨n,rfl,hw⟩,_,_,rfl,rfl,rfl⟩
 | .bool=>by
  intro t fuel cs x ht h;simp only[Typ]at ht;obtain⟨b,rfl,_⟩:=DataW.trod_bool ht.1 h;exact⟨by grind,[.bool b],⟨b,rfl⟩,_,_,rfl,rfl,rfl⟩
 | .str=>by
  intro t fuel cs x ht h;simp only[Typ]at ht;obtain⟨s,rfl,_,hs⟩:=DataW.trod_string ht.1 h;exact⟨by grind,[.str s.data.toList],⟨_,rfl,by trivial⟩,_,_,rfl,rfl,rfl⟩
 |.sl e=>adS (opn e)
 |.ar n e=>adT (opn e)
 | .st ss=>by
  intro t fuel cs x ht h;simp only[Typ]at ht;obtain⟨l,hu,hl⟩:=ht;obtain⟨xs,m,_,_,hcl,hxl,hx⟩:=DataW.trod_struct hu h;refine⟨hcl,?_⟩
  have:=afH ss (l:=l) (o:=0) (n:=P.cellsOf t) (fuel:=m) (cs:=cs) hl hcl fun f hf=>by
   obtain⟨i,hi⟩:=List.getElem?_of_mem hf;have h1:=hx i f (by grind)
   grind
  trivial
theorem afH:∀(ss:List Sh){l:List Field}{o n fuel:Nat}{cs:LvQ},SF P ss l o n->cs.length=n ->
  (∀f∈l,∃x,DataW.trod enc P w base (fun _=>true) held fuel f.type ((cs.drop f.offset).take (P.cellsOf f.type))=some x)->∃ds,aeO ss ds∧WDs w ds (cs.drop o)
 | [],l,o,n,fuel,cs,ht,hl,h=>by
  simp only[SF]at ht;refine⟨[],rfl,?_⟩;rw[Zb aa];rfl
 | s::ss,l,o,n,fuel,cs,ht,hl,h=>by
  simp only[SF]at ht;obtain⟨f,r,rfl,rfl,h1,h2⟩:=ht;obtain⟨x,hx⟩:=h f af;obtain⟨_,a,ha,wa⟩:=opn s _ _ _ _ h1 hx;obtain⟨b,hb,wb⟩:=afH ss h2 hl fun g hg=>h g (by grind)
  refine⟨a++b,⟨a,b,rfl,ha,hb⟩,?_⟩
  have e:cs.drop f.offset=(cs.drop f.offset).take (P.cellsOf f.type)++cs.drop (f.offset+P.cellsOf f.type):=by
   rw[<-List.drop_drop,Yi]
  grind[WDs.append]
end
inductive Ar where
 |one (x:D)
 |many (xs:LdQ)
def Ar.v:Ar->V
 |.one x=>.d x
 |.many xs=>.agg (xs.map .d)
def WA(w:World):Ar->Value->Prop
 |.one x,v=>WD w x v
 |.many xs,v=>∃ws,v=.agg ⟨ws⟩∧WDs w xs ws
def WAs(w:World):List Ar->LvQ->Prop
 |[],l=>l=[]
 |x::xs,l=>∃v vs,l=v::vs∧WA w x v∧WAs w xs vs
theorem TI{F1:Nat->Prop}{H1:AH}(φ0:LnQ)(h0:Hp):∀(ds:LdQ)(us:LvQ),RDs F1 H1 ds us->RVs φ0 F1 H1 h0 (ds.map .d) us
 |[],us,h=>by trivial
 | d::ds,us,h=>by
  simp only[RDs]at h;obtain⟨u,us,rfl,h1,h2⟩:=h;exact⟨u,us,rfl,h1,TI φ0 h0 ds us h2⟩
def RAs(F:Nat->Prop)(H:AH)(rs:List Ar)(us:LvQ):Prop:=∀φ0 h0,RVs φ0 F H h0 (rs.map Ar.v) us
theorem ad8:∀(rs:List Ar)(vs:LvQ){φ:bG}{F:Nat->Prop}{H:AH},Ly w φ F H->WAs w rs vs ->
  ∃φ' F' H' us,Ly w φ' F' H'∧uS φ F H φ' F' H'∧am φ' us vs∧RAs F' H' rs us
 |[],vs,φ,F,H,L,h=>⟨φ,F,H,[],L,uS.refl ..,by trivial,fun _ _=>rfl⟩
 | .one x::rs,vs,φ,F,H,L,h=>by
  simp only[WAs,WA]at h;obtain⟨v,vs,rfl,h1,h2⟩:=h;obtain⟨φ1,F1,H1,u,L1,E1,r1,d1⟩:=lay x v L h1;obtain⟨φ2,F2,H2,us,L2,E2,r2,d2⟩:=ad8 rs vs L1 h2;exact⟨φ2,F2,H2,u::us,L2,E1.trans E2,⟨v,vs,rfl,av.mono E2.le u v r1,r2⟩,fun φ0 h0=>⟨u,us,rfl,RD.mono (E2.leF L1) _ _ d1,d2 φ0 h0⟩⟩
 | .many xs::rs,vs,φ,F,H,L,h=>by
  simp only[WAs,WA]at h;obtain⟨v,vs,rfl,⟨ws,rfl,h1⟩,h2⟩:=h;obtain⟨φ1,F1,H1,us1,L1,E1,r1,d1⟩:=lays xs ws L h1;obtain⟨φ2,F2,H2,us,L2,E2,r2,d2⟩:=ad8 rs vs L1 h2;exact⟨φ2,F2,H2,.agg ⟨us1⟩::us,L2,E1.trans E2,⟨_,vs,rfl,⟨ws,rfl,am.mono E2.le _ _ r1⟩,r2⟩,fun φ0 h0=>⟨_,us,rfl,⟨us1,rfl,TI φ0 h0 _ _ (RDs.mono (E2.leF L1) _ _ d1)⟩,d2 φ0 h0⟩⟩
theorem JP{rs:List Ar}{b:Bool}{w:World}(hc:CP Y f (rs.map Ar.v) (.d (.bool b)))(hw:WAs w rs vs)(hp:QU w)(h0:∀u,Y.X.orc f u=none:=by exact fun _=>rfl):
  Calls X.P f vs.toArray w fun e w'=>e=.returned (.bool b)∧w'.os=w.os∧w'.output=w.output∧w.heap.size<=w'.heap.size∧∀c,c<w.heap.size->w'.heap[c]?=w.heap[c]?:=by
 obtain⟨φ,F,H,L,g⟩:=start hp;obtain⟨φ1,F1,H1,us,L1,E1,r1,d1⟩:=ad8 rs vs L hw;obtain⟨n,wv,H2,F2,hcall,hn,_,_,_,_,_,_,_,hr⟩:=agE vOk hc F1 H1 us L1.wf L1.fr (g.mono (E1.leF L)) d1
 have hv:wv=.bool b:=by
  have:=hr [] [];simpa only[RV,RD]using this
 subst hv;refine(MR adV hcall L1.rel (args':=vs.toArray) r1 h0).mono ?_;rintro e w' ⟨φ',v',rfl,h1,h2,h3,h4⟩;have hv':v'=.bool b:=(av.of_plain (.bool b) rfl v').1 h1;subst hv';refine⟨rfl,h3.os,h3.out,h3.size,fun c hc=>h3.frame c hc ?_⟩;rintro⟨b',p,x,_,_,hx,_,hwr⟩
 grind[Ly.ro]
theorem zp{v:Value}{x:DataW HH×List MemPlace}(ht:Typ P s t)(hc:P.cellsOf t=1)(h:DataW.trod enc P w base (fun _=>true) held fuel t v.cells.toList=some x)(hv:∀cs,v≠.agg cs):
  ∃d,Dat s [d]∧WA w (.one d) v:=by
 obtain⟨hl,ds,h1,h2⟩:=opn s _ _ _ _ ht h
 have hcl:v.cells.toList=[v]:=by
  cases v<;>first|rfl|grind
 rw[hcl]at h2;have:=h2.len;obtain⟨d,rfl⟩:∃d,ds=[d]:=List.length_eq_one_iff.1 this;simp only[WDs]at h2;obtain⟨v',vs',e,h2,_⟩:=h2;simp only[List.cons.injEq]at e;obtain⟨rfl,_⟩:=e;exact⟨d,h1,h2⟩
theorem ZH{v:Value}{x:DataW HH×List MemPlace}(ht:Typ P s t)(h:DataW.trod enc P w base (fun _=>true) held fuel t v.cells.toList=some x)(hv:∃cs,v=.agg cs):
  ∃ds,Dat s ds∧WA w (.many ds) v:=by obtain⟨hl,ds,h1,h2⟩:=opn s _ _ _ _ ht h;obtain⟨cs,rfl⟩:=hv;exact⟨ds,h1,cs.toList,rfl,h2⟩
theorem NA{P:Program}{W:World}{base:Nat}{fs:Array Field}{v:Value}(ht:P.underlying t=some (.struct fs))(h:Value.okWide P W .any base t v):∃cs,v=.agg cs:=by grind[Value.okWide]
def QV(W W':World):Prop:=W'.os=W.os∧W'.output=W.output∧W.heap.size<=W'.heap.size∧∀c,c<W.heap.size->W'.heap[c]?=W.heap[c]?
variable{H:Type}{enc:TypeId×Value->H}{P:Program}
theorem QV.but{W W':World}(h:QV W W')(may:MemPlace->Prop):W.keptBut W' may:=by
 refine⟨h.1,h.2.1,fun i hi=>?_⟩;rw[h.2.2.2 i hi];cases hq:W.heap[i]? with
 |none=>simp
 |some o=>cases o<;>simp
theorem Rv{f:Func}{s:ChangeSpec}{apart fresh handsOn again:Bool}{W W':World}{args:Array Value}{v:Value}{ds gs:List (DataW H)}{before pa pv:List MemPlace}
  (hW:DataW.Whole enc P f.params.toList s.vars apart W args.toList ds gs before)
  (hres:∀(b:Nat)(sp:Nat->Bool)(hd:Bool),DataW.TrodAll enc P W' b sp hd f.resultTypes.toList (v.resultList f.resultTypes.size) (s.fn H (ds++gs)).results [])
  (hargs:∀sp:Nat->Bool,(∀p∈before,sp p.block=true)->DataW.TrodAll enc P W' 0 sp true f.params.toList args.toList (s.fn H (ds++gs)).args pa)
  (hvars:∀sp:Nat->Bool,(∀p∈before,sp p.block=true)->DataW.TrodVars enc P W' sp s.vars (s.fn H (ds++gs)).vars pv)
  (hps:before=pa++pv) (hk:QV W W')
  (hok:∀(j:Nat)(t:TypeId)(r:Value),f.resultTypes[j]?=some t->(v.resultList f.resultTypes.size)[j]?=some r->Value.okWide P W' .any 0 t r) :
  s.post enc P f apart fresh handsOn again W args v W':=by
 have hold:∀p∈before,(fun b=>decide (b<W.heap.size)) p.block=true:=fun p hp=>by simpa using hW.lt p hp
 have hlt:=hW.lt;refine⟨ds,gs,before,[],pa,pv,hW,hres _ _ _,hargs _ hold,hvars _ hold,World.keptBut_mono (fun p hp=>⟨hp,?_⟩) (hk.but (· ∈ before)),fun _=>?_⟩
 .rw[hps,W4]at hp;exact Or.inr hp
 .obtain⟨_,_,_,_,_,hz,hn⟩:=hW;refine⟨hok,_,_,([]++pa)++pv,⟨[]++pa,pv,trodAll_append (hargs _ (fun _ _=>rfl)) (hres _ _ _),hvars _ (fun _ _=>rfl),rfl,?_,?_⟩,?_⟩
  .intro b off hp;have hp':MemPlace.cell b off∈before:=by rw[hps];simpa using hp
   have hb:b<W.heap.size:=hlt _ hp';have:=hz b off hp';simp only[World.frozen?]at this ⊢;rw[hk.2.2.2 b hb];exact this
  .intro ha;have:=hn ha;rw[hps]at this;simpa using this
  .intro p hp _;rw[hps];simpa using hp
theorem zD(hl:laidOutB P=true){W W':World}(hk:QV W W'){sp:Nat->Bool}:∀{ts:List TypeId}{vs:LvQ}{ds:List (DataW H)}{ps:List MemPlace},(∀t∈ts,P.readableRec t=true∧t<P.types.size) ->
  DataW.TrodAll enc P W 0 (fun _=>true) true ts vs ds ps->(∀p∈ps,p.block<W.heap.size)->(∀p∈ps,sp p.block=true)->DataW.TrodAll enc P W' 0 sp true ts vs ds ps
 | [],vs,ds,ps,_,h,_,_=>by
  obtain⟨rfl,rfl,rfl⟩:=trodAll_nil h;exact trodAll_mk0
 | t::ts,vs,ds,ps,hr,h,hlt,hsp=>by
  obtain⟨v,vs',d,ds',p,q,rfl,rfl,rfl,h1,h2⟩:=trodAll_cons h;refine trodAll_cons_mk (WideElems.Trod_stays hl (hr t af).1 (hr t af).2 h1 (fun x hx=>?_) fun x hx=>hsp x (by simp[hx])) (zD hl hk (fun u hu=>hr u (by simp[hu])) h2 (fun x hx=>hlt x (by simp[hx])) fun x hx=>hsp x (by simp[hx]));have hb:=hlt x (by simp[hx]);cases x with
  | cell b off=>
   simp only[World.sameAt,World.cell?];rw[hk.2.2.2 b hb]
  |map b=>exact hk.2.2.2 b hb
theorem E6{P:Program}{w:World}:∀{l:List (String×DataW Unit)}{ps:List MemPlace},DataW.LaidVars P w l ps->∀n d,(n,d)∈l ->
  ∃g t cs fuel p,P.globalNamed n=some g∧(P.globals[g]?).map (·.type)=some t∧w.var? P n=some cs∧DataW.trod (fun _=>()) P w 0 (fun _=>true) false fuel t cs.toList=some (d,p)
 |[],_,_,_,_,hm=>by cases hm
 | (n',d')::r,ps,h,n,d,hm=>by
  obtain⟨g,t,cs,fuel,p,q,h1,h2,h3,h4,h5,_⟩:=h;rcases Zo.1 hm with e|e
  .cases e;exact⟨g,t,cs,fuel,p,h1,h2,h3,h4⟩
  .exact E6 h5 n d e
def adO:LiQ:=[1,10,100,1000,10000,100000,1000000,10000000,100000000,1000000000,10000000000,100000000000,1000000000000,10000000000000,100000000000000,1000000000000000,10000000000000000,100000000000000000,1000000000000000000,10000000000000000000]
theorem adM{P:Program}{W:World}{name:String}{t e:TypeId}(hg:P.globalNamed name=some od)(hty:(P.globals[od]?).map (·.type)=some t)(ht:P.underlying t=some (.array 20 e))(he:P.underlying e=some (.int .u64))(hce:P.cellsOf e=1)(hct:P.cellsOf t=20)
  {l:List (String×DataW Unit)} (hm:(name,Lib.tabData .u64 adO)∈l) (h:laidMet P l W):QU W:=by
 obtain⟨ps,hv,_⟩:=h;obtain⟨g',t',cs,fuel,p,hg',ht',hvar,hd⟩:=E6 hv _ _ hm;obtain rfl:=Option.some.inj (hg.symm.trans hg');obtain rfl:=Option.some.inj (hty.symm.trans ht')
 have tab:Lib.TabIs P W name .u64 adO:=by
  unfold Lib.TabIs;rw[hvar,<-Lib.cells_of_tab ht he hce hct hd]
 have hpv:∀i v,BA[i]?=some v->W.cell? ((⟨od,0,none⟩:Addr).add i)=some v:=by
  intro i v hv;have hi:i<20:=(List.getElem?_eq_some_iff.1 hv).1;rw[addr_add _ rfl];have h1:=tab.cell hg i hi;simp only[Zp];rw[h1];have h2:BA=adO.map fun z=>Value.int .u64 z:=rfl
  rw[h2,List.getElem?_map,Z3]at hv;obtain⟨z,hz,rfl⟩:=hv;simp[hz]
 obtain⟨cs,e,fz,h1,_,h2,h3⟩:=Ib (w:=W) (a:=⟨od,0,none⟩) (vs:=BA) hpv ae;exact⟨cs,e,fz,h1,by simpa[BA]using h2,by simpa[BA]using h3⟩
open Go.Proofs Go.Proofs.YtmfphhiejjamaaaGreatDoor
theorem aij:Tryz.prog.globalNamed "internal/strconv.uint64pow10" = some od:=by kernel_rfl
theorem VS:(Tryz.prog.globals[od]?).map (·.type)=some 203:=ah
theorem ado:Tryz.prog.underlying 203=some (.array 20 100):=ah
theorem adn:Tryz.prog.underlying 100=some (.int .u64):=ah
theorem XJ:Tryz.prog.cellsOf 100=1:=ah
theorem XM:Tryz.prog.cellsOf 203=20:=ah
mutual
/-- Has a type a shape? -/
def Gb(P:Program):Sh->TypeId->Bool
 | .int k,t=>(match P.underlying t with
  |some (.int k')=>decide (k'=k)
  |_=>false)&&Nat.beq (P.cellsOf t) 1
 | .bool,t=>(match P.underlying t with
  |some .bool=>true
  |_=>false)&&Nat.beq (P.cellsOf t) 1
 | .str,t=>(match P.underlying t with
  |some .string=>true
  |_=>false)&&Nat.beq (P.cellsOf t) 1
 | .sl e,t=>(match P.underlying t with
  |some (.slice u)=>Nat.beq (P.cellsOf t) 1&&Nat.blt 0 (P.cellsOf u)&&Gb P e u
  |_=>false)
 | .ar n e,t=>(match P.underlying t with
  |some (.array m u)=>Nat.beq m n&&Nat.beq (P.cellsOf t) (n*P.cellsOf u)&&Gb P e u
  |_=>false)
 | .st fs,t=>(match P.underlying t with
  |some (.struct l)=>G4 P fs l.toList 0 (P.cellsOf t)
  |_=>false)
def G4(P:Program):List Sh->List Field->Nat->Nat->Bool
 |[],l,o,n=>l.isEmpty&&Nat.beq o n
 | s::ss,l,o,n=>(match l with
  |[]=>false
  |f::r=>Nat.beq f.offset o&&Gb P s f.type&&G4 P ss r (o+P.cellsOf f.type) n)
end
mutual
theorem Iz{P:Program}:∀{s:Sh}{t:TypeId},Gb P s t=true->Typ P s t
 | .int k,t,h=>by
  simp only[Gb,Z8]at h;obtain⟨h1,h2⟩:=h;split at h1
  .rename_i h3;obtain rfl:=of_decide_eq_true h1;exact⟨h3,Zl h2⟩
  .cases h1
 | .bool,t,h=>by
  simp only[Gb,Z8]at h;obtain⟨h1,h2⟩:=h;split at h1
  .rename_i h3;exact⟨h3,Zl h2⟩
  .cases h1
 | .str,t,h=>by
  simp only[Gb,Z8]at h;obtain⟨h1,h2⟩:=h;split at h1
  .rename_i h3;exact⟨h3,Zl h2⟩
  .cases h1
 | .sl e,t,h=>by
  simp only[Gb]at h;split at h
  .rename_i u h3;simp only[Z8]at h;obtain⟨⟨h1,h2⟩,h4⟩:=h;exact⟨u,h3,Zl h1,by have:=h2;simp[Nat.blt]at this;omega,Iz h4⟩
  .cases h
 | .ar n e,t,h=>by
  simp only[Gb]at h;split at h
  .rename_i m u h3;simp only[Z8]at h;obtain⟨⟨h1,h2⟩,h4⟩:=h;obtain rfl:=Zl h1;exact⟨u,h3,Zl h2,Iz h4⟩
  .cases h
 | .st fs,t,h=>by
  simp only[Gb]at h;split at h
  .rename_i l h3;exact⟨l.toList,by rw[h3],O6 h⟩
  .cases h
theorem O6{P:Program}:∀{ss:List Sh}{l:List Field}{o n:Nat},G4 P ss l o n=true->SF P ss l o n
 | [],l,o,n,h=>by
  simp only[G4,Z8,List.isEmpty_iff]at h;exact⟨h.1,Zl h.2⟩
 |s::ss,[],o,n,h=>by simp[G4]at h
 | s::ss,f::r,o,n,h=>by
  simp only[G4,Z8]at h;obtain⟨⟨h1,h2⟩,h3⟩:=h;exact⟨f,r,rfl,Zl h1,Iz h2,O6 h3⟩
end
theorem vH{P:Program}{W:World}{base:Nat}{k:IntKind}{v:Value}(ht:P.underlying t=some (.int k))(h:Value.okWide P W .any base t v):∀cs,v≠.agg cs:=by rintro cs rfl;simp only[Value.okWide,ht,Cell.okWide,Cell.ok]at h
theorem wf_u8{n:Int}(h:(Lit.int .u8 n).wf=true):0<=n∧n<=255:=by simp only[Lit.wf,Z8,decide_eq_true_eq]at h;exact h
def aib:DataW Unit->Value
 |.lit (.int k n)=>.int k n
 |_=>undef
def adt:DataW Unit->Array Value
 |.agg l=>(l.map aib).toArray
 |_=>#[]
def age:DataW Unit->Value
 |.iface _ (.ptr (.agg [.lit (.string l)]))=>.string ⟨l.toArray⟩
 |_=>undef
def TB(cs:Array Value):Obj->Obj
 |.cells _ t frozen=>.cells cs t frozen
 |o=>o
noncomputable def BL(os:Os):World:=
 let w0:=World.holding Tryz.prog os ⟨#[.cells #[age Rows.laid_strconv_ErrSyntax] 209,.cells #[age Rows.laid_strconv_ErrRange] 209],#[],[]⟩
 let low:=(World.settled Tryz.prog os).heap.size
 {w0 with heap:=((((w0.heap.modify 0 (TB #[.iface 207 (.pointer (some ⟨low,0,none⟩))])).modify 1 (TB #[.iface 207 (.pointer (some ⟨low+1,0,none⟩))])).modify 2 (TB (adt Rows.laid_internal_strconv_uint64pow10))).modify 4 (TB (adt Rows.laid_math_bits_deBruijn32tab))).modify 5 (TB (adt Rows.laid_math_bits_deBruijn64tab))}
theorem Ai{d:D}(h:Dat (.int .u8) [d]):∃k:Nat,k<256∧d=.int .u8 k:=by obtain⟨n,e,hn⟩:=h;obtain rfl:=(List.cons.inj e).1;have hb:=wf_u8 hn;exact⟨n.toNat,aa,by rw[Wy hb.1]⟩
theorem xo(h:Dat (.st [.int .i64,.int .i64,.str]) ds):∃(p b:Int)(l:LuQ),ds=[di p,di b,.str l]:=by obtain⟨a,b,rfl,⟨n,rfl,hn⟩,a',b',rfl,⟨m,rfl,hm⟩,a2,b2,rfl,⟨s,rfl,hs⟩,rfl⟩:=h;exact⟨n,m,s,rfl⟩
end Go.Vm
