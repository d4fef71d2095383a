/- Lemmas. -/
import Derived.Test.YtgcaaigeilmbaabGreatDoorQEnN
import Derived.Shelf.Spec.BitsCarry
import Derived.Shelf.Pu.ParseUintPublic10
import Derived.WalkKit
import Derived.ProofKit
import Derived.OpenShut
import Derived.Deep.DeepHandedRow
import Derived.Deep.Matrix
import Derived.Lib.LaidTab
import Derived.Test.YtgcaaigeilmbaabGreatDoorTie
import Derived.Test.YtgcaaigeilmbaabGreatDoorCards
set_option linter.unusedVariables false
set_option linter.unusedSimpArgs false
namespace Go.Vm
open Go Go.Am Go.Big
variable{m n i j C k t f most d:Nat}{x r to y fr:LiQ}{ch:List LLQ}
def Jw(z:Int):LiQ->LiQ->LiQ
 |a::r,c::t=>(a+z*c)::Jw z r t
 |_,_=>[]
theorem Jv(z:Int):∀{r t:LiQ},r.length=t.length->(Jw z r t).length=r.length
 |[],[],_=>rfl
 |a::r,c::t,h=>by simp[Jw,Jv z (r:=r) (t:=t) (by simpa using h)]
 |[],_::_,h=>by simp at h
 |_::_,[],h=>by simp at h
def L5(p:LiQ):LiQ:=p.map (lgI 2048)
variable{l:Int->Nat}{N:Nat}
structure afW(p:LiQ)(l:List Rw):Prop where
 pc:pcB p=0
 i6:in6 p
 hl:0<p.length
 rw:∀r∈l,r.length=p.length∧∀x∈r,x.natAbs<=9
def hq1(l:List Tx):Hp:=[(1,.data 2 (l.flatMap fi) true false)]
structure adI(p:LiQ)(m:Nat)(bd:List Q):Prop where
 m0:0<m
 m1:m<=1000
 ln:bd.length=p.length
 bd:bdL m 1000 bd
theorem adI.ok{p:LiQ}{bd:List Q}(b:adI p m bd):okS bd:=abm b.m0 b.bd (by have:=b.m1;omega) aa
def pcS(p:LiQ):Prop:=pcB p=0∧∀x∈p,x∈c6P
def VK(m:LLQ):D:=.sl m.length (m.map row)
@[simp]theorem abF(m:LLQ):aj (.d (VK m))=some (I m.length):=rfl
abbrev Lk:=Int×Int
def lkC(x:Lk):LdQ:=[di x.1,di x.2]
def lkD(l:List Lk):D:=.sl l.length (l.flatMap lkC)
@[simp]theorem acX(l:List Lk):aj (.d (lkD l))=some (I l.length):=rfl
def wkC(p:LiQ)(ch:List LLQ)(lk:List (List Lk)):LwQ:=[lst di p,lst VK ch,lst lkD lk]
def Lx(n most:Nat):Int:=if n=0 then 13 else if most<n then 4 else 0
def Ud(p:LiQ):List LLQ->Int
 |[]=>0
 |c::l=>if Lx c.length 12≠0 then Lx c.length 12 else if mzB p c≠0 then mzB p c else Ud p l
def VO(a b:Nat)(x:Lk):Bool:=decide (0<=x.1)&&decide (x.1<a)&&decide (0<=x.2)&&decide (x.2<b)
def VP(ch:List LLQ):Nat->List (List Lk)->Int
 |_,[]=>0
 |i,l::ls=>if Lx l.length 12≠0 then Lx l.length 12 else if l.all (VO (nth [] ch i).length (nth [] ch (i+1)).length)=true then VP ch (i+1) ls else 3
def dcB(p:LiQ)(ch:List LLQ)(lk:List (List Lk)):Int:=
 if pcB p≠0 then pcB p else if Lx ch.length 64≠0 then Lx ch.length 64 else if Ud p ch≠0 then Ud p ch else if lk.length+1=ch.length then VP ch 0 lk else 5
def FA(a b:LiQ):LiQ:=(a.zip b).map fun t=>t.1+t.2
def bdR(B:Int)(r:LiQ):Prop:=∀x∈r,-B<=x∧x<=B
def FN(a b:LiQ):LiQ:=(a.zip b).map fun t=>t.1-t.2
theorem QZ{a b:LiQ}(h:b.length=a.length):(FN a b).length=a.length:=by simp[FN,h]
structure LY(n:Nat)(B:Int)(ch:List LLQ)(lk:List (List Lk)):Prop where
 len:lk.length+1=ch.length
 few:ch.length<=64
 rows:∀c∈ch,∀r∈c,r.length=n∧bdR B r
 cs:∀c∈ch,c.length<=12
 ls:∀l∈lk,l.length<=12
 ok:∀i<lk.length,(nth [] lk i).all (VO (nth [] ch i).length (nth [] ch (i+1)).length)=true
theorem SL{a b:Nat}{x:Lk}:VO a b x=true↔(0<=x.1∧x.1<a)∧0<=x.2∧x.2<b:=by grind[VO]
def Ol(ch:List LLQ)(i:Nat)(x:Lk):LiQ:=nth [] (nth [] ch i) x.1.toNat
def Oj(ch:List LLQ)(i:Nat)(x:Lk):LiQ:=nth [] (nth [] ch (i+1)) x.2.toNat
theorem LY.notes{B:Int}{lk:List (List Lk)}(w:LY n B ch lk)(hi:i<lk.length)(hj:j<(nth [] lk i).length):
  let x:=nth (0,0) (nth [] lk i) j
  (0<=x.1∧x.1<(nth [] ch i).length)∧(0<=x.2∧x.2<(nth [] ch (i+1)).length)∧((Ol ch i x).length=n∧bdR B (Ol ch i x))∧(Oj ch i x).length=n∧bdR B (Oj ch i x):=by intro x;have h:=SL.1 (Zq.1 (w.ok i hi) x (iO hj));have hl:=w.len;refine⟨h.1,h.2,w.rows _ (iO aa) _ (iO aa),w.rows _ (iO aa) _ (iO aa)⟩
def KQ(ch:List LLQ)(lk:List (List Lk))(i j:Nat):LiQ:=
 FN (Ol ch i (nth (0,0) (nth [] lk i) j)) (Oj ch i (nth (0,0) (nth [] lk i) j))
@[simp]theorem aeC(h:Hp)(p:LiQ)(ch:List LLQ)(lk:List (List Lk)):av h (wkC p ch lk)=some (wkC p ch lk,h):=rfl
def PI(ch:List LLQ)(lk:List (List Lk)):Nat->LiQ->List (List Lk)->LLQ
 |_,r,[]=>[r]
 |i,r,_::q=>r::PI ch lk (i+1) (FA r (KQ ch lk i 0)) q
def aar(n:Nat)(ch:List LLQ)(lk:List (List Lk)):LLQ:=PI ch lk 0 (List.replicate n 0) lk
theorem CH{B C:Int}:∀{a b:LiQ},bdR B a->bdR C b->bdR (B+C) (FN a b)
 |[],b,_,_=>by simp[FN,bdR]
 |x::a,[],_,_=>by simp[FN,bdR]
 | x::a,y::b,ha,hb=>by
  intro z hz;simp only[FN,List.zip_cons_cons,Y7,Zc]at hz;have h1:=ha x af;have h2:=hb y af;rcases hz with rfl|hz
  .omega
  .exact CH (fun w hw=>ha w (by grind)) (fun w hw=>hb w (by grind)) z hz
theorem Dh{B C:Int}:∀{a b:LiQ},bdR B a->bdR C b->bdR (B+C) (FA a b)
 |[],b,_,_=>by simp[FA,bdR]
 |x::a,[],_,_=>by simp[FA,bdR]
 | x::a,y::b,ha,hb=>by
  intro z hz;simp only[FA,List.zip_cons_cons,Y7,Zc]at hz;have h1:=ha x af;have h2:=hb y af;rcases hz with rfl|hz
  .omega
  .exact Dh (fun w hw=>ha w (by grind)) (fun w hw=>hb w (by grind)) z hz
theorem LY.lead{B:Int}{lk:List (List Lk)}(w:LY n B ch lk)(hi:i<lk.length)(hj:j<(nth [] lk i).length):(KQ ch lk i j).length=n∧bdR (B+B) (KQ ch lk i j):=by obtain⟨_,_,⟨n1,n2⟩,n3,n4⟩:=w.notes hi hj;exact⟨by unfold KQ;rw[QZ aa];exact n1,CH n2 n4⟩
theorem JX(ch:List LLQ)(lk:List (List Lk)):∀(q:List (List Lk))(i:Nat)(r:LiQ),(PI ch lk i r q).length=q.length+1
 |[],_,_=>rfl
 |l::q,i,r=>by simp[PI,JX ch lk q]
def szI(b:Nat)(r:LiQ):List Q:=r.map fun a=>dV a b
def bdN(B:Nat)(r:LiQ):Prop:=∀a∈r,a.natAbs<=B
theorem LN{B C:Nat}:∀{r t:LiQ},bdN B r->bdN C t->bdN (B+C) (Jw 1 r t)
 |[],t,_,_=>by intro a h;trivial
 |x::r,[],_,_=>by intro a h;trivial
 | x::r,y::t,hr,ht=>by
  have h1:=hr x af;have h2:=ht y af;intro a h;simp only[Jw,Zc]at h;rcases h with rfl|h
  .omega
  .exact LN (fun u hu=>hr u (by grind)) (fun u hu=>ht u (by grind)) a h
def QK(p r:LiQ):LiQ:=r.map (abu ((abb r (L5 p)).sign) * ·)
theorem LX(p r:LiQ):(QK p r).length=r.length:=by simp[QK]
theorem PC(z:Int):z.sign = -1∨z.sign=0∨z.sign=1:=by grind
theorem QL(z:Int):abu z.sign=z.sign:=by rcases PC z with h|h|h<;>rw[h]<;>rfl
theorem OZ{B:Nat}{p:LiQ}(h:bdN B r):bdN B (QK p r):=by
 intro a ha;obtain⟨x,hx,rfl⟩:=X4.1 ha;have:=h x hx
 grind[QL]
structure Ad where
 p:LiQ
 ch:List LLQ
 lk:List (List Lk)
 cd:List LLQ
 w:Q
def adC(a:Ad):LwQ:=[lst di a.p,lst VK a.ch,lst lkD a.lk,lst VK a.cd,S (itoa a.w.1),S (ag a.w.2)]
@[simp]theorem aeD(h:Hp)(a:Ad):av h (adC a)=some (adC a,h):=rfl
structure ta(a:Ad):Prop where
 hp:pcS a.p
 wk:LY a.p.length 8 a.ch a.lk
 lkn:∀l∈a.lk,0<l.length
 cne:∀c∈a.ch,0<c.length
 five:a.ch.length<=5
 cl:a.cd.length=a.ch.length
 cn:∀l∈a.cd,0<l.length∧l.length<=20
 cr:∀l∈a.cd,∀r∈l,r.length=a.p.length∧bdR 8 r
 w0:okQ a.w∧0<=a.w.1∧a.w.1<=1000∧a.w.2<=1000
theorem UW(h:bdR 1000 r):smR r=true:=by simp only[smR,Zq,Z8,decide_eq_true_eq];trivial
theorem Ap{B C:Int}(h:bdR B r)(hc:B<=C):bdR C r:=fun x hx=>by have:=h x hx;omega
theorem ZR{B:Nat}(h:bdR B r):bdN B r:=fun x hx=>by have:=h x hx;omega
variable{a:Ad}
def Vq(a:Ad)(i k:Nat):LiQ:=(QK a.p (nth [] (nth [] a.cd i) k)).map (· * a.w.1)
theorem ta.cand(G:ta a)(hi:i<a.cd.length)(hk:k<(nth [] a.cd i).length):(nth [] (nth [] a.cd i) k).length=a.p.length∧bdR 8 (nth [] (nth [] a.cd i) k):=
 G.cr _ (iO hi) _ (iO hk)
def Rm(a:Ad):LLQ:=aar a.p.length a.ch a.lk
def shR(a:Ad)(i k:Nat):LiQ:=FA (nth [] (Rm a) i) (nth [] (nth [] a.cd i) k)
theorem HB{t:LiQ}(h:t.length=r.length):(FA r t).length=r.length:=by simp[FA,h]
theorem NW{n:Nat}{ch:List LLQ}{lk:List (List Lk)}(w:LY n 8 ch lk)(hne:∀l∈lk,0<l.length):∀(q d:List (List Lk))(r:LiQ),d++q=lk->r.length=n->bdR (16*d.length) r->∀j,j<=q.length->(nth [] (PI ch lk d.length r q) j).length=n∧bdR (16*(d.length+j:Nat)) (nth [] (PI ch lk d.length r q) j)
 | [],d,r,hd,hr,hb,j,hj=>by
  have:j=0:=by simpa using hj
  subst this;trivial
 |l::q,d,r,hd,hr,hb,0,hj=>⟨hr,hb⟩
 | l::q,d,r,hd,hr,hb,j+1,hj=>by
  have hdl:d.length<lk.length:=by rw[<-hd];simp
  have hlj:0<(nth [] lk d.length).length:=by rw[<-hd,mf];exact hne l (by grind)
  obtain⟨m1,m2⟩:=w.lead hdl hlj;have ih:=NW w hne q (d++[l]) (FA r (KQ ch lk d.length 0)) (by grind) (by rw[HB aa,hr]) (Ap (Dh hb m2) (by grind)) j (by grind);have e:(d++[l]).length=d.length+1:=af;rw[e]at ih;have e2:d.length+1+j=d.length+(j+1):=aa;rw[e2]at ih;exact ih
theorem ta.root(G:ta a)(hi:i<a.cd.length):(nth [] (Rm a) i).length=a.p.length∧bdR 64 (nth [] (Rm a) i):=by
 have hl:=G.wk.len;have hc:=G.cl;have h5:=G.five;obtain⟨h1,h2⟩:=NW G.wk G.lkn a.lk [] (List.replicate a.p.length 0) rfl af (fun x hx=>by grind) i aa;refine⟨h1,Ap h2 ?_⟩
 grind
theorem U5(a:Ad):(Rm a).length=a.lk.length+1:=JX ..
theorem ta.shift(G:ta a)(hi:i<a.cd.length)(hk:k<(nth [] a.cd i).length):(shR a i k).length=a.p.length∧bdR 72 (shR a i k):=by obtain⟨h1,h2⟩:=G.root hi;obtain⟨c1,c2⟩:=G.cand hi hk;exact⟨by unfold shR;rw[HB aa,h1],Dh (B:=64) (C:=8) h2 c2⟩
def mvR(to y fr x:LiQ):LiQ:=FN (FN (FA to y) fr) x
theorem VG(h1:to.length=n)(h2:y.length=n)(h3:fr.length=n)(h4:x.length=n):(mvR to y fr x).length=n:=by grind[mvR,FN,FA]
def dB(d:LiQ):Nat×Bk:=(1,.data 1 (d.map di) true false)
def acR(a:Ad)(i f t:Nat)(x:Lk):LiQ:=mvR (shR a (i+1) t) (Oj a.ch i x) (shR a i f) (Ol a.ch i x)
theorem aaJ{A B C D:Int}(b1:bdR A to)(b2:bdR B y)(b3:bdR C fr)(b4:bdR D x):bdR (A+B+C+D) (mvR to y fr x):=CH (CH (Dh b1 b2) b3) b4
def stepG(p:LiQ):LiQ->LLQ->LiQ
 |v,[]=>v
 |v,d::q=>stepG p (Jw 1 v (QK p d)) q
def SC(a:Ad)(i f t:Nat):LLQ:=(nth [] a.lk i).map (acR a i f t)
def Q0(a:Ad)(i f t:Nat):LiQ:=stepG a.p (List.replicate a.p.length 0) (SC a i f t)
theorem ta.move{a:Ad}(G:ta a)(hi:i<a.lk.length)(hf:f<(nth [] a.cd i).length)(ht:t<(nth [] a.cd (i+1)).length):∀d∈SC a i f t,d.length=a.p.length∧bdR 160 d:=by intro d hd;obtain⟨x,hx,rfl⟩:=X4.1 hd;obtain⟨j,hj,rfl⟩:=Wj hx;have hlen:=G.wk.len;have hcl:=G.cl;obtain⟨_,_,⟨n1,n2⟩,n3,n4⟩:=G.wk.notes hi hj;rw[gj _ _ _ hj]at n1 n2 n3 n4;obtain⟨s1,s2⟩:=G.shift (i:=i) (k:=f) aa hf;obtain⟨t1,t2⟩:=G.shift (i:=i+1) (k:=t) aa ht;exact⟨VG t1 n3 s1 n1,aaJ (A:=72) (B:=8) (C:=72) (D:=8) t2 n4 s2 n2⟩
def wI(p r:LiQ):Int:=abb r (L5 p)
def US:LiQ->LLQ->LiQ
 |v,[]=>v
 |v,d::q=>US (Jw 1 v d) q
theorem Kv{n:Nat}:∀{m:LLQ},(∀r∈m,r.length=n∧bdR 1000 r)->VF n m=0
 |[],_=>rfl
 | r::m,h=>by
  obtain⟨h1,h2⟩:=h r af;simp only[VF];rw[if_neg aa,if_pos (UW h2)];exact Kv fun x hx=>h x (by grind)
theorem Kw{p:LiQ}(hp:pcB p=0){m:LLQ}(h:∀r∈m,r.length=p.length∧bdR 1000 r):mzB p m=0:=by grind[mzB,Kv]
theorem E4(h0:0<n)(h1:n<=most):Lx n most=0:=by unfold Lx;rw[if_neg aa,if_neg aa]
theorem Ht{p:LiQ}(hp:pcB p=0):∀{ch:List LLQ},(∀c∈ch,(0<c.length∧c.length<=12)∧∀r∈c,r.length=p.length∧bdR 1000 r)->Ud p ch=0
 |[],_=>rfl
 | c::q,h=>by
  obtain⟨⟨h1,h2⟩,h3⟩:=h c af;simp only[Ud];rw[if_neg (by grind[E4]),if_neg (by grind[Kw])];exact Ht hp fun x hx=>h x (by grind)
theorem GY{n:Nat}{B:Int}{ch:List LLQ}{lk:List (List Lk)}(w:LY n B ch lk)(hne:∀l∈lk,0<l.length):∀(q d:List (List Lk)),d++q=lk->VP ch d.length q=0
 |[],_,_=>rfl
 | l::q,d,hd=>by
  have hm:l∈lk:=by rw[<-hd];simp
  have hl:nth [] lk d.length=l:=by rw[<-hd,mf]
  have ok:=w.ok d.length (by grind);rw[hl]at ok;simp only[VP];rw[if_neg (by grind[E4,LY.ls]),if_pos ok];have:=GY w hne q (d++[l]) (by grind)
  grind
theorem ta.dc(G:ta a):dcB a.p a.ch a.lk=0:=by
 have h5:=G.five;have hl:=G.wk.len;unfold dcB;rw[if_neg (by simp[G.hp.1]),if_neg (by simp[E4 (n:=a.ch.length) (most:=64) aa aa]),if_neg,if_pos hl]
 .exact GY G.wk G.lkn a.lk [] rfl
 .simp[Ht G.hp.1 (ch:=a.ch) fun c hc=>⟨⟨G.cne c hc,G.wk.cs c hc⟩,fun r hr=>⟨(G.wk.rows c hc r hr).1,Ap (G.wk.rows c hc r hr).2 aa⟩⟩]
theorem ta.qL(G:ta a):qL 30 a.w:=by obtain⟨w1,w2,w3,w4⟩:=G.w0;exact⟨cg (d:=30) aa ae,cg (d:=30) aa ae⟩
theorem ta.fits(G:ta a):mzB a.p (Rm a)=0:=by
 refine Kw G.hp.1 fun r hr=>?_
 obtain⟨j,hj,rfl⟩:=Wj hr;have hl:=G.wk.len;have hc:=G.cl;have:=U5 a;obtain⟨h1,h2⟩:=G.root (i:=j) aa
 grind[gj,Ap]
def stW(a:Ad)(i f t:Nat):LiQ:=(Q0 a i f t).map (· * (a.w.2:Int))
theorem JI{p:LiQ}{B:Nat}:∀{m:LLQ}{v:LiQ}{C:Nat},(∀d∈m,d.length=p.length∧bdN B d)->v.length=p.length->bdN C v->(stepG p v m).length=p.length∧bdN (C+B*m.length) (stepG p v m)
 |[],v,C,_,hv,hb=>⟨hv,by trivial⟩
 | d::m,v,C,hm,hv,hb=>by
  obtain⟨d1,d2⟩:=hm d af;have:=JI (m:=m) (v:=Jw 1 v (QK p d)) (C:=C+B) (fun x hx=>hm x (by grind)) (by rw[Jv _ (by grind[LX]),hv]) (LN hb (OZ d2));refine⟨this.1,fun x hx=>?_⟩;have:=this.2 x hx
  grind[Nat.mul_add]
theorem ta.stepV(G:ta a)(hi:i<a.lk.length)(hf:f<(nth [] a.cd i).length)(ht:t<(nth [] a.cd (i+1)).length):(Q0 a i f t).length=a.p.length∧bdN 1920 (Q0 a i f t):=by
 have hls:=G.wk.ls _ (iO (d:=[]) hi);obtain⟨h1,h2⟩:=JI (p:=a.p) (B:=160) (C:=0) (m:=SC a i f t) (v:=List.replicate a.p.length 0) (fun d hd=>⟨(G.move hi hf ht d hd).1,ZR (B:=160) (G.move hi hf ht d hd).2⟩) af (fun x hx=>by grind);refine⟨h1,fun x hx=>?_⟩;have:=h2 x hx;have e:(SC a i f t).length=(nth [] a.lk i).length:=by simp[SC]
 omega
theorem OY{B:Nat}(h:bdN B r){w:Int}{W:Nat}(hw:w.natAbs<=W):bdN (B*W) (r.map (· * w)):=by intro x hx;obtain⟨y,hy,rfl⟩:=X4.1 hx;rw[Y3];exact Zg (h y hy) hw
theorem ta.stepW(G:ta a)(hi:i<a.lk.length)(hf:f<(nth [] a.cd i).length)(ht:t<(nth [] a.cd (i+1)).length):(stW a i f t).length=a.p.length∧bdN 1920000 (stW a i f t):=by obtain⟨w1,w2,w3,w4⟩:=G.w0;obtain⟨h1,h2⟩:=G.stepV hi hf ht;exact⟨by grind[stW],OY (W:=1000) h2 aa⟩
theorem ta.ownW(G:ta a)(hi:i<a.cd.length)(hk:k<(nth [] a.cd i).length):(Vq a i k).length=a.p.length∧bdN 8000 (Vq a i k):=by obtain⟨w1,w2,w3,w4⟩:=G.w0;obtain⟨c1,c2⟩:=G.cand hi hk;exact⟨by grind[Vq,LX],OY (OZ (ZR (B:=8) c2)) (W:=1000) aa⟩
def adx(a:Ad)(c:LiQ):Prop:=c.length=a.cd.length∧∀k<c.length,0<=nth 0 c k∧nth 0 c k<(nth [] a.cd k).length
theorem adx.at{c:LiQ}(h:adx a c){l:LiQ}{z:Int}{q:LiQ}(hl:l++z::q=c):∃m:Nat,z=m∧m<(nth [] a.cd l.length).length:=by obtain⟨h1,h2⟩:=h.2 l.length (by grind);rw[<-hl,mf]at h1 h2;exact⟨z.toNat,aa,aa⟩
def acS(p:LiQ):Option LiQ->LiQ->LiQ->LLQ->LLQ->Option LiQ
 | o,own,n,st::ss,be::bs=>acS p (match o with
   |none=>some (US n [own,st,be])
   |some m=>some (if wI p (US n [own,st,be])<wI p m then US n [own,st,be]else m)) own n ss bs
 |o,_,_,_,_=>o
def opV(b:Nat):Option LiQ->V
 |none=>.d nPQ
 |some m=>szV (szI b m)
structure afE(p:LiQ)(b Bd:Nat):Prop where
 hp:pcS p
 b0:0<b
 b1:b<1000000
 B1:Bd<100000000000
def okRa(p:LiQ)(Bd:Nat)(l:LLQ):Prop:=∀r∈l,r.length=p.length∧bdN Bd r
def acu(p:LiQ):LLQ->List LLQ->LLQ->LLQ
 |o::os,ss::sss,bs=>((acS p none o (List.replicate p.length 0) ss bs).getD [])::acu p os sss bs
 |_,_,_=>[]
def H3(p:LiQ):List LLQ->List (List LLQ)->List LLQ
 |o::o2::os,ss::sss=>acu p o ss ((H3 p (o2::os) sss).headD [])::H3 p (o2::os) sss
 |l,_=>l
structure afF(p:LiQ)(b Bd:Nat)(owns:List LLQ)(steps:List (List LLQ)):Prop where
 g:afE p b Bd
 ne:0<owns.length
 hl:steps.length=owns.length
 hN:owns.length<1000000
 ho:∀o∈owns,0<o.length∧o.length<1000000∧okRa p Bd o
 hs:∀k,k+1<owns.length->(nth [] steps k).length=(nth [] owns k).length∧∀ss∈nth [] steps k,ss.length=(nth [] owns (k+1)).length∧okRa p Bd ss
 hB:∀m,m<owns.length->∀r∈H3 p (owns.drop m) (steps.drop m),r.length<1000000∧okRa p Bd r
def GO(a:Ad)(k:Nat):LLQ:=(List.range (nth [] a.cd k).length).map (Vq a k)
def Mk(a:Ad)(k i:Nat):LLQ:=(List.range (nth [] a.cd (k+1)).length).map (stW a k i)
def Ml(a:Ad)(k:Nat):List LLQ:=(List.range (nth [] a.cd k).length).map (Mk a k)
def BY(a:Ad):List LLQ:=(List.range a.cd.length).map (GO a)
def HL(a:Ad):List (List LLQ):=(List.range a.cd.length).map (Ml a)
variable{a:Ad}{h:Hp}
theorem LO{B:Nat}(h:bdN B r)(hc:B<=C):bdN C r:=fun x hx=>Zs (h x hx) hc
theorem lma{p:LiQ}{B:Nat}{l:LLQ}(h:okRa p B l)(hc:B<=C):okRa p C l:=fun r hr=>⟨(h r hr).1,LO (h r hr).2 hc⟩
section
variable{p:LiQ}{b:Nat}
structure UH(p:LiQ)(b B:Nat)(owns:List LLQ)(steps:List (List LLQ)):Prop where
 hp:pcS p
 b0:0<b
 b1:b<1000000
 ne:0<owns.length
 five:owns.length<=5
 B1:B<=2000000
 hl:steps.length=owns.length
 ho:∀o∈owns,0<o.length∧o.length<1000000∧okRa p B o
 hs:∀k,k+1<owns.length->(nth [] steps k).length=(nth [] owns k).length∧∀ss∈nth [] steps k,ss.length=(nth [] owns (k+1)).length∧okRa p B ss
variable{B:Nat}{owns:List LLQ}{steps:List (List LLQ)}
def p3:Nat->Nat
 |0=>1
 |n+1=>p3 n+p3 n+p3 n
theorem acA(h:n<=4):p3 n<=81:=by have:n=0∨n=1∨n=2∨n=3∨n=4:=aa;rcases this with rfl|rfl|rfl|rfl|rfl<;>decide
theorem UH.le(P:UH p b B owns steps)(h:d<=4):B*p3 d<=200000000:=by have h1:=Zg P.B1 (acA h);omega
end
variable{a:Ad}
theorem AU{α:Type}(d:α)(f:Nat->α)(h:i<n):nth d ((List.range n).map f) i=f i:=by grind[gj]
theorem ta.pre(G:ta a):UH a.p a.w.2 1920000 (BY a) (HL a):=by
 obtain⟨w1,w2,w3,w4⟩:=G.w0;have h5:=G.five;have hcl:=G.cl;have hlen:=G.wk.len;refine⟨G.hp,w1.1,aa,by grind[BY],by grind[BY],aa,by simp[BY,HL],fun o h=>?_,fun k hk=>?_⟩
 .simp only[BY,X4,Xm]at h;obtain⟨k,hk,rfl⟩:=h;obtain⟨n1,n2⟩:=G.cn _ (iO (d:=[]) hk);refine⟨by grind[GO],by grind[GO],fun r hr=>?_⟩
  grind[GO,ownW,LO]
 .simp only[BY,Zd,List.length_range]at hk;unfold BY HL;rw[AU _ _ (show k<a.cd.length by omega),AU _ _ (show k<a.cd.length by omega),AU _ _ hk];refine⟨by simp[Ml,GO],fun ss hss=>?_⟩;simp only[Ml,X4,Xm]at hss;obtain⟨i,hi,rfl⟩:=hss;refine⟨by simp[Mk,GO],fun r hr=>?_⟩
  simp only[Mk,X4,Xm]at hr;obtain⟨j,hj,rfl⟩:=hr;exact G.stepW (i:=k) aa hi hj
def rA(a:Ad):List LLQ:=H3 a.p (BY a) (HL a)
section
variable{p:LiQ}{b B:Nat}{owns:List LLQ}{steps:List (List LLQ)}
end
def ac7(j:Nat):IntKind:=if 6<=j∧j<51 then .i8 else if 73<=j∧j<119 then .i8 else .u8
structure afU(f:Nat->Int):Prop where
 u:∀j<120,ac7 j=.u8->0<=f j∧f j<=255
 s:∀j<120,ac7 j=.i8->-128<=f j∧f j<=127
end Go.Vm
namespace Go.Proofs
open Go.Shelf
def Tryz.laysPu14_ren:Go.Shelf.Ren:=⟨fun|14=>205|16=>196|17=>132|19=>211|20=>212|21=>172|22=>173|23=>174|24=>175|25=>197|27=>84|26=>198|28=>124|29=>166|30=>190|31=>191|32=>192|33=>193|35=>181|34=>207|36=>208|37=>209|38=>210|39=>214|40=>215|n=>n,fun|9=>9|3=>3|22=>113|24=>133|25=>236|4=>4|34=>209|5=>5|36=>146|37=>164|0=>0|39=>212|21=>21|44=>240|47=>208|50=>256|48=>254|2=>2|52=>229|55=>231|59=>250|60=>73|20=>20|61=>251|65=>258|66=>259|67=>169|n=>n,fun|0=>0|1=>1|2=>2|3=>4|4=>5|n=>n⟩
theorem Tryz.laysPu14:Go.Proofs.LaysPu.n14 Tryz.prog Tryz.laysPu14_ren:={
 mixed:=au
 f14:=Tryz.func205.trans (congrArg some au)
 f16:=Tryz.func196.trans (congrArg some au)
 f17:=Tryz.func132.trans (congrArg some au)
 f19:=Tryz.func211.trans (congrArg some au)
 f20:=Tryz.func212.trans (congrArg some au)
 f21:=Tryz.func172.trans (congrArg some au)
 f22:=Tryz.func173.trans (congrArg some au)
 f23:=Tryz.func174.trans (congrArg some au)
 f24:=Tryz.func175.trans (congrArg some au)
 f25:=Tryz.func197.trans (congrArg some au)
 f26:=Tryz.func198.trans (congrArg some au)
 f27:=Tryz.func84.trans (congrArg some au)
 f28:=Tryz.func124.trans (congrArg some au)
 f29:=Tryz.func166.trans (congrArg some au)
 f30:=Tryz.func190.trans (congrArg some au)
 f31:=Tryz.func191.trans (congrArg some au)
 f32:=Tryz.func192.trans (congrArg some au)
 f33:=Tryz.func193.trans (congrArg some au)
 f34:=Tryz.func207.trans (congrArg some au)
 f35:=Tryz.func181.trans (congrArg some au)
 f36:=Tryz.func208.trans (congrArg some au)
 f37:=Tryz.func209.trans (congrArg some au)
 f38:=Tryz.func210.trans (congrArg some au)
 f39:=Tryz.func214.trans (congrArg some au)
 f40:=Tryz.func215.trans (congrArg some au)
 t0:=Tryz.underlying0
 a0:=Tryz.isAgg0
 z0:=Tryz.sizeOf0
 v0:=Tryz.zeroValue0
 i0:=au
 t2:=Tryz.underlying2
 a2:=Tryz.isAgg2
 z2:=Tryz.sizeOf2
 v2:=Tryz.zeroValue2
 i2:=au
 t3:=Tryz.underlying3
 a3:=Tryz.isAgg3
 z3:=Tryz.sizeOf3
 v3:=Tryz.zeroValue3
 i3:=au
 t4:=Tryz.underlying4
 a4:=Tryz.isAgg4
 z4:=Tryz.sizeOf4
 v4:=Tryz.zeroValue4
 i4:=au
 t5:=Tryz.underlying5
 a5:=Tryz.isAgg5
 z5:=Tryz.sizeOf5
 v5:=Tryz.zeroValue5
 i5:=au
 t9:=Tryz.underlying9
 a9:=Tryz.isAgg9
 z9:=Tryz.sizeOf9
 v9:=Tryz.zeroValue9
 i9:=au
 t20:=Tryz.underlying20
 a20:=Tryz.isAgg20
 z20:=Tryz.sizeOf20
 v20:=Tryz.zeroValue20
 i20:=au
 t21:=Tryz.underlying21
 a21:=Tryz.isAgg21
 z21:=Tryz.sizeOf21
 v21:=Tryz.zeroValue21
 i21:=au
 t22:=Tryz.underlying113
 a22:=Tryz.isAgg113
 z22:=Tryz.sizeOf113
 v22:=Tryz.zeroValue113
 i22:=au
 t24:=Tryz.underlying133
 a24:=Tryz.isAgg133
 z24:=Tryz.sizeOf133
 v24:=Tryz.zeroValue133
 i24:=au
 t25:=Tryz.underlying236
 a25:=Tryz.isAgg236
 z25:=Tryz.sizeOf236
 v25:=Tryz.zeroValue236
 i25:=au
 t34:=Tryz.underlying209
 a34:=Tryz.isAgg209
 z34:=Tryz.sizeOf209
 v34:=Tryz.zeroValue209
 i34:=au
 c34:=au
 t36:=Tryz.underlying146
 a36:=Tryz.isAgg146
 z36:=Tryz.sizeOf146
 v36:=Tryz.zeroValue146
 i36:=au
 t37:=Tryz.underlying164
 a37:=Tryz.isAgg164
 z37:=Tryz.sizeOf164
 v37:=Tryz.zeroValue164
 i37:=au
 t39:=Tryz.underlying212
 a39:=Tryz.isAgg212
 z39:=Tryz.sizeOf212
 v39:=Tryz.zeroValue212
 i39:=au
 t44:=Tryz.underlying240
 a44:=Tryz.isAgg240
 z44:=Tryz.sizeOf240
 v44:=Tryz.zeroValue240
 i44:=au
 t47:=Tryz.underlying208
 a47:=Tryz.isAgg208
 z47:=Tryz.sizeOf208
 v47:=Tryz.zeroValue208
 i47:=au
 t48:=Tryz.underlying254
 a48:=Tryz.isAgg254
 z48:=Tryz.sizeOf254
 v48:=Tryz.zeroValue254
 i48:=au
 t50:=Tryz.underlying256
 a50:=Tryz.isAgg256
 z50:=Tryz.sizeOf256
 v50:=Tryz.zeroValue256
 i50:=au
 t52:=Tryz.underlying229
 a52:=Tryz.isAgg229
 z52:=Tryz.sizeOf229
 v52:=Tryz.zeroValue229
 i52:=au
 t55:=Tryz.underlying231
 a55:=Tryz.isAgg231
 z55:=Tryz.sizeOf231
 v55:=Tryz.zeroValue231
 i55:=au
 t59:=Tryz.underlying250
 a59:=Tryz.isAgg250
 z59:=Tryz.sizeOf250
 v59:=Tryz.zeroValue250
 i59:=au
 t60:=Tryz.underlying73
 a60:=Tryz.isAgg73
 z60:=Tryz.sizeOf73
 v60:=Tryz.zeroValue73
 i60:=au
 t61:=Tryz.underlying251
 a61:=Tryz.isAgg251
 z61:=Tryz.sizeOf251
 t65:=Tryz.underlying258
 a65:=Tryz.isAgg258
 z65:=Tryz.sizeOf258
 v65:=Tryz.zeroValue258
 i65:=au
 t66:=Tryz.underlying259
 a66:=Tryz.isAgg259
 z66:=Tryz.sizeOf259
 v66:=Tryz.zeroValue259
 i66:=au
 t67:=Tryz.underlying169
 a67:=Tryz.isAgg169
 z67:=Tryz.sizeOf169
 v67:=Tryz.zeroValue169
 i67:=au
 g0:=au
 m0:=au
 g1:=au
 m1:=au
 g2:=au
 m2:=au
 g3:=au
 m3:=au
 g4:=au
 m4:=by kernel_rfl}
end Go.Proofs
namespace Go.Vm
open Go Go.Am
theorem OP:∀(l:LuQ)(a:Nat),a<=yH a l
 |[],a=>Z7 _
 | c::l,a=>by
  have h:a*10+(c.toNat-48)<=yH (a*10+(c.toNat-48)) l:=OP l _;have e:yH a (c::l)=yH (a*10+(c.toNat-48)) l:=rfl;generalize yH a (c::l)=y at *;generalize yH (a*10+(c.toNat-48)) l=z at *;generalize c.toNat-48=d at *;omega
theorem zm:∀(l:LuQ)(a:Nat),l.all Bo=true->yH a l<10000000000000000000->Lib.parseUintM (2^64-1) a l=.ok (yH a l)
 |[],a,_,_=>rfl
 | c::l,a,h,hd=>by
  simp only[List.all_cons,Z8,Bo,Nat.ble_eq]at h;have e:yH a (c::l)=yH (a*10+(c.toNat-48)) l:=rfl;rw[e]at hd ⊢;have hge:=OP l (a*10+(c.toNat-48));rw[Lib.parseUintM,if_pos h.1,if_neg aa,if_neg aa];exact zm l _ h.2 hd
theorem frz(w:World)(e:TypeId)(s:ByteArray):w.heap.size<=(Lib.bytesWorld w e s).heap.size∧(∀c,c<w.heap.size->(Lib.bytesWorld w e s).heap[c]?=w.heap[c]?)∧(Lib.bytesWorld w e s).os=w.os∧(Lib.bytesWorld w e s).output=w.output:=
 ⟨by rw[Lib.bytesWorld_size];omega,fun c hc=>Lib.bytesWorld_at_old w e s c hc,rfl,rfl⟩
def abr:Go.Shelf.Ren:=⟨fun|25=>213|n=>n,fun|22=>113|n=>n,fun n=>n⟩
theorem abt:Go.Proofs.Lays7.n25 Go.Proofs.Tryz.prog abr:={
 mixed:=au
 f25:=Go.Proofs.Tryz.func213.trans (congrArg some au)
 t22:=Go.Proofs.Tryz.underlying113
 a22:=Go.Proofs.Tryz.isAgg113
 z22:=Go.Proofs.Tryz.sizeOf113
 v22:=Go.Proofs.Tryz.zeroValue113
 i22:=by kernel_rfl}
theorem acB:ZY X:=by
 intro f args v h;simp only[X]at h;split at h
 .rename_i hf;obtain rfl:=Za hf;unfold J6 at h;split at h
  .rename_i s a b;split at h
   .rename_i hc;obtain⟨rfl,rfl,hne,hall,hsz,hlt⟩:=hc;obtain rfl:=Option.some.inj h;refine⟨rfl,rfl,.inr ⟨⟨_,Go.Proofs.Tryz.func205,au,au⟩,fun w=>?_⟩⟩
    have hp:Lib.parseUintB 64 s.data.toList=.ok (yH 0 s.data.toList):=by
     rw[Lib.parseUintB,if_neg hne];exact zm _ _ hall hlt
    have hsz2:s.size=s.data.toList.length:=by rw[Array.length_toList];rfl
    have hmax:s.size<=9223372036854775806:=aa;refine(Go.Proofs.Any.strconv_ParseUint_10_at64_ok Go.Proofs.Tryz.laysPu14 s hmax _ hp w).mono ?_;rintro e w' ⟨rfl,rfl|rfl⟩
    .exact⟨rfl,Z7 _,fun _ _=>rfl,rfl,rfl⟩
    .exact⟨rfl,frz w _ s⟩
   .cases h
  .cases h
 .split at h
  .rename_i hf;obtain rfl:=Za hf;unfold O6 at h;split at h
   .rename_i x y c;split at h
    .rename_i hc;obtain⟨h1,h2,h3,h4⟩:=hc;obtain rfl:=Option.some.inj h;refine⟨rfl,rfl,.inl fun w=>?_⟩;have:=Go.Proofs.Any7.bits_Add64 abt x.toNat y.toNat c.toNat aa w;rw[X1 h1,X1 h2,X1 h3]at this;exact this
    .cases h
   .cases h
  .cases h
open Go.Proofs
theorem acp:O9 X:=by intro gf lb H xs h0;have h:(none:Option (List LvQ))=some xs:=h0;cases h
end Go.Vm
set_option maxRecDepth 100000
namespace Go.Vm
open Go Go.Am
variable{f:FuncId}{a:Addr}{vs:LvQ}{m fuel:Nat}{n:Int}{ds:LdQ}{α:Type}{t e:TypeId}{d:D}
theorem aa2:(List.range X.P.funcs.size).all (fun f=>!X.allow f||match X.P.funcs[f]? with
  |some fn=>Vx X.P fn&&(match fn.body with|some c=>kz Y fn.ntmps c|none=>true)
  |none=>true)=true:=b9
theorem ZA{fn:Func}(ha:X.allow f=true)(hf:X.P.funcs[f]?=some fn):Vx X.P fn=true∧(match fn.body with|some c=>kz Y fn.ntmps c|none=>true)=true:=by
 have hlt:f<X.P.funcs.size:=by
  rcases Zf f X.P.funcs.size with h|h
  .exact h
  .rw[Array.getElem?_eq_none h]at hf;cases hf
 have:=Zq.1 aa2 f (Xm.2 hlt);rw[ha,hf]at this;simpa using this
theorem vOk:VOk Y where
 y:=yOk
 fns f fn c ha hf hc:=by have:=(ZA ha hf).2;rw[hc]at this;exact this
theorem aaD:Ns X where
 mixed:=by rfl
 fns f fn ha hf:=(ZA ha hf).1
 orc:=acB
 seq:=acp
mutual
def WD(w:World):D->Value->Prop
 |.int k n,v=>v=.int k n
 |.bool b,v=>v=.bool b
 |.str s,v=>v=.string ⟨⟨s⟩⟩
 |.pl u,v=>v=u∧plain u=true∧okCell u=true
 | .sl len cells,v=>(len=0∧cells=[]∧(v=.slice none 0 0∨∃a,v=.slice (some a) 0 0)) ∨
   ∃ c o cap n cs e fz,v=.slice (some ⟨c,o,none⟩) len cap∧len<=cap∧0<n∧cells.length=len*n ∧
    w.heap[c]?=some (.cells cs e fz)∧o+cells.length<=cs.size∧WDs w cells ((cs.toList.drop o).take cells.length)
def WDs(w:World):LdQ->LvQ->Prop
 |[],l=>l=[]
 |x::xs,l=>∃v vs,l=v::vs∧WD w x v∧WDs w xs vs
end
structure Ly(w:World)(φ:bS)(F:Nat->Prop)(H:AH):Prop where
 rel:bD X φ H w
 wf:WF H
 fr:∀c,F c->c<H.n∧∃x,H.get c=some x∧x.st=1
 ro:∀c x,H.get c=some x->x.wr=false
 top:∀b p,φ b=some p->b<H.n
 pg:∃p,φ oH=some p
structure uM(φ:bS)(F:Nat->Prop)(H:AH)(φ':bS)(F':Nat->Prop)(H':AH):Prop where
 n:H.n<=H'.n
 le:PLe φ φ'
 fm:∀c,F c->F' c
 keep:∀c,c<H.n->H'.get c=H.get c
theorem uM.refl(φ:bS)(F:Nat->Prop)(H:AH):uM φ F H φ F H:=⟨Z7 _,PLe.refl _,fun _ h=>h,fun _ _=>rfl⟩
theorem uM.trans{φ φ1 φ2:bS}{F F1 F2:Nat->Prop}{H H1 H2:AH}(a:uM φ F H φ1 F1 H1)(b:uM φ1 F1 H1 φ2 F2 H2):uM φ F H φ2 F2 H2:=
 ⟨Zs a.n b.n,a.le.trans b.le,fun c h=>b.fm c (a.fm c h),fun c h=>by rw[b.keep c (Z3 h a.n),a.keep c h]⟩
theorem uM.leF{φ φ':bS}{F F':Nat->Prop}{H H':AH}{w:World}(L:Ly w φ F H)(a:uM φ F H φ' F' H'):LeF F F' H H':=
 ⟨a.fm,fun c hc=>a.keep c (L.fr c hc).1,fun c x hx h0=>⟨x,by grind[keep,AH.get_lt],h0⟩⟩
def roB(b n:Nat)(cells:LvQ):Blk:={cells,st:=1,wr:=false,fam:=b,start:=0,shared:=false,exact:=true,esz:=n,ver:=1}
theorem Ly.push{w:World}{φ:bS}{F:Nat->Prop}{H:AH}(L:Ly w φ F H){c o n:Nat}{us vs:LvQ}{cs:Array Value}{e:TypeId}{fz:Nat×Nat}(hh:w.heap[c]?=some (.cells cs e fz))
  (hlen:us.length=vs.length) (ho:o+us.length<=cs.size) (hvs:vs=(cs.toList.drop o).take us.length) (hr:aC φ us vs) :
  Ly w (yR φ H.n ⟨c,o,us.length,n,cs.size,true⟩) (fun x=>F x∨x=H.n) (H.push (roB H.n n us)) ∧
  uM φ F H (yR φ H.n ⟨c,o,us.length,n,cs.size,true⟩) (fun x=>F x∨x=H.n) (H.push (roB H.n n us)):=by
 have hnone:φ H.n=none:=by
  cases hq:φ H.n with
  |none=>rfl
  |some p=>have:=L.top _ p hq;omega
 have hle:PLe φ (yR φ H.n ⟨c,o,us.length,n,cs.size,true⟩):=PLe.add hnone;have hn:(H.push (roB H.n n us)).n=H.n+1:=rfl;have old:∀b,b<H.n->(H.push (roB H.n n us)).get b=H.get b:=fun b hb=>AH.get_push aa
 have new:(H.push (roB H.n n us)).get H.n=some (roB H.n n us):=AH.get_push_new H _
 have ro:∀b x,(H.push (roB H.n n us)).get b=some x->x.wr=false:=fun b x hx=>by
  rcases Zf b H.n with h|h
  .grind[ro]
  .have hb:b=H.n:=by have:=AH.get_lt hx;omega
   subst hb;rw[new]at hx;cases hx;rfl
 refine ⟨⟨⟨fun g hg=>?_,fun b p hp=>?_,fun b p x i v hp hx h1 hv=>?_,fun b p x i hp hx h1 hi=>?_,fun b b' p p' x x' _ _ hx hx' _ _ _ _=>.inl ⟨ro b x hx,ro b' x' hx'⟩⟩,?_,fun b hb=>?_,ro,fun b p hp=>?_,L.pg.imp fun p hp=>hle _ p hp⟩,
  ⟨aa,hle,fun x h=>.inl h,old⟩⟩
 .obtain⟨p,hp,h1⟩:=L.rel.glob g hg;exact⟨p,hle g p hp,h1⟩
 .by_cases hb:b=H.n
  .subst hb;rw[dY]at hp;cases hp;exact⟨_,cs,e,fz,new,by simp[roB],rfl,rfl,rfl,hh,rfl,ho⟩
  .rw[gL hb]at hp;obtain⟨x,r⟩:=L.rel.dom b p hp
   grind[top]
 .by_cases hb:b=H.n
  .subst hb;rw[dY]at hp;cases hp;rw[new]at hx;cases hx;obtain⟨v',h1,h2⟩:=hr.at (i:=i) hv
   grind[aB.mono,cell_of_heap]
  .rw[gL hb]at hp;rw[old b (L.top b p hp)]at hx;obtain⟨v',h2,h3⟩:=L.rel.cell b p x i v hp hx h1 hv
   grind[aB.mono]
 .grind
 .refine⟨by simp[AH.push,L.wf.len],fun b x hx=>?_⟩;rcases Zf b H.n with h|h
  .rw[old b h]at hx;exact L.wf.fam b x hx
  .have hb:b=H.n:=by have:=AH.get_lt hx;omega
   subst hb;rw[new]at hx;cases hx;trivial
 .rcases hb with hb|rfl
  .obtain⟨h1,x,h2,h3⟩:=L.fr b hb;exact⟨aa,x,by grind,h3⟩
  .exact⟨aa,_,new,rfl⟩
 .by_cases hb:b=H.n
  .omega
  .rw[gL hb]at hp;have:=L.top b p hp;omega
mutual
theorem lay{w:World}:∀(d:D)(v:Value){φ:bS}{F:Nat->Prop}{H:AH},Ly w φ F H->WD w d v ->
  ∃φ' F' H' u,Ly w φ' F' H'∧uM φ F H φ' F' H'∧aB φ' u v∧RD F' H' d u
 |.int k n,v,φ,F,H,L,h=>⟨φ,F,H,v,L,uM.refl ..,by simp only[WD]at h;subst h;rfl,h⟩
 |.bool b,v,φ,F,H,L,h=>⟨φ,F,H,v,L,uM.refl ..,by simp only[WD]at h;subst h;rfl,h⟩
 |.str s,v,φ,F,H,L,h=>⟨φ,F,H,v,L,uM.refl ..,by simp only[WD]at h;subst h;rfl,h⟩
 |.pl u,v,φ,F,H,L,h=>⟨φ,F,H,v,L,uM.refl ..,by grind[WD,aB.of_plain],h⟩
 | .sl len cells,v,φ,F,H,L,h=>by
  simp only[WD]at h;rcases h with⟨rfl,rfl,rfl|⟨a,rfl⟩⟩|⟨c,o,cap,n,cs,e,fz,rfl,hlc,hn,hlen,hh,ho,hds⟩
  .exact⟨φ,F,H,.slice none 0 0,L,uM.refl ..,rfl,.inl ⟨rfl,rfl,.inl rfl⟩⟩
  .obtain⟨p,hp⟩:=L.pg;obtain⟨x,_,_,_,hx,h0,_⟩:=L.rel.dom _ _ hp;exact⟨φ,F,H,.slice (some ⟨oH,0,none⟩) 0 0,L,uM.refl ..,⟨a,0,rfl,.inr ⟨rfl,rfl,rfl,rfl,p,hp⟩⟩,.inl ⟨rfl,rfl,.inr ⟨_,_,_,rfl,x,hx,h0⟩⟩⟩
  .obtain⟨φ1,F1,H1,us,L1,E1,r1,d1⟩:=lays cells _ L hds;have hl:us.length=cells.length:=by have:=d1.length;omega
   obtain⟨L2,E2⟩:=L1.push (us:=us) (n:=n) (o:=o) hh (by grind) aa (by rw[hl]) r1;refine⟨_,_,_,.slice (some ⟨H1.n,0,none⟩) len cap,L2,E1.trans E2,?_,?_⟩
   .refine⟨⟨c,o,none⟩,cap,rfl,.inl ⟨rfl,rfl,_,dY ..,rfl,rfl,.inl rfl⟩⟩
   .have new:(H1.push (roB H1.n n us)).get H1.n=some (roB H1.n n us):=AH.get_push_new H1 _;by_cases h0:len=0
    .subst h0;exact .inl ⟨rfl,Zt aa,.inr ⟨_,_,_,rfl,_,new,by simp[roB]⟩⟩
    .refine .inr ⟨H1.n,0,cap,us,n,rfl,aa,hlc,hn,hlen,.inr rfl,?_,RDs.mono (E2.leF L1) _ _ d1,_,new,.inl rfl⟩;rw[nC new rfl (by show 0+cells.length<=us.length;omega)]
     show some ((us.drop 0).take cells.length)=_
     grind
theorem lays{w:World}:∀(ds:LdQ)(vs:LvQ){φ:bS}{F:Nat->Prop}{H:AH},Ly w φ F H->WDs w ds vs ->
  ∃φ' F' H' us,Ly w φ' F' H'∧uM φ F H φ' F' H'∧aC φ' us vs∧RDs F' H' ds us
 |[],vs,φ,F,H,L,h=>⟨φ,F,H,[],L,uM.refl ..,by trivial,rfl⟩
 | d::ds,vs,φ,F,H,L,h=>by
  simp only[WDs]at h;obtain⟨v,vs,rfl,h1,h2⟩:=h;obtain⟨φ1,F1,H1,u,L1,E1,r1,d1⟩:=lay d v L h1;obtain⟨φ2,F2,H2,us,L2,E2,r2,d2⟩:=lays ds vs L1 h2;exact⟨φ2,F2,H2,u::us,L2,E1.trans E2,⟨v,vs,rfl,aB.mono E2.le u v r1,r2⟩,⟨u,us,rfl,RD.mono (E2.leF L1) _ _ d1,d2⟩⟩
end
def Vo:Nat->List Blk
 |0=>[]
 |n+1=>yi::Vo n
theorem Kd:∀(n i:Nat)(x:Blk),(Vo n)[i]?=some x->x=yi
 |0,_,_,h=>by trivial
 |n+1,0,x,h=>by grind[Vo]
 |n+1,i+1,x,h=>Kd n i x (by trivial)
def AP:LvQ:=[.int .u64 1,.int .u64 10,.int .u64 100,.int .u64 1000,.int .u64 10000,.int .u64 100000,.int .u64 1000000,.int .u64 10000000,.int .u64 100000000,.int .u64 1000000000,.int .u64 10000000000,.int .u64 100000000000,
 .int .u64 1000000000000,.int .u64 10000000000000,.int .u64 100000000000000,.int .u64 1000000000000000,.int .u64 10000000000000000,.int .u64 100000000000000000,.int .u64 1000000000000000000,.int .u64 10000000000000000000]
def Pd(w:World):Prop:=∃cs e fz,w.heap[oH]?=some (.cells cs e fz)∧20<=cs.size∧AP=cs.toList.take 20
def H00:AH:=⟨oH,Vo oH⟩
theorem YK{b:Nat}{x:Blk}(h:H00.get b=some x):x=yi:=by
 unfold AH.get at h;split at h
 .exact Kd _ _ _ h
 .trivial
theorem start{w:World}(hp:Pd w):∃φ F H,Ly w φ F H∧qe Y F H:=by
 obtain⟨cs,e,fz,hh,hsz,hcs⟩:=hp
 let φ:bS:=fun b=>if b=oH then some ⟨oH,0,20,1,cs.size,true⟩else none
 let H:AH:=H00.push (roB oH 1 AP)
 have hn:H.n=oH+1:=rfl;have new:H.get oH=some (roB oH 1 AP):=AH.get_push_new H00 _
 have old:∀{b x},b≠oH->H.get b=some x->x=yi:=fun{b x} hb hx=>by
  grind[H00,AH.get_push,YK]
 have hφ:∀{b p},φ b=some p->b=oH∧p=⟨oH,0,20,1,cs.size,true⟩:=fun{b p} h=>by
  grind
 have ro:∀b x,H.get b=some x->x.wr=false:=fun b x hx=>by
  by_cases hb:b=oH
  .subst hb;rw[new]at hx;cases hx;rfl
  .rw[old hb hx];rfl
 have L:Ly w φ (· = oH) H:=by
  refine⟨⟨fun g hg=>?_,fun b p hp=>?_,fun b p x i v hp hx h1 hv=>?_,fun b p x i hp hx h1 hi=>?_,fun b b' p p' x x' _ _ hx hx' _ _ _ _=>.inl ⟨ro b x hx,ro b' x' hx'⟩⟩,?_,?_,ro,fun b p hp=>?_,⟨⟨oH,0,20,1,cs.size,true⟩,by rfl⟩⟩
  .have:g=oH:=by simpa[X]using hg
   exact⟨⟨oH,0,20,1,cs.size,true⟩,by grind,this.symm,rfl⟩
  .grind[roB]
  .obtain⟨rfl,rfl⟩:=hφ hp;rw[new]at hx;cases hx;have hv':AP[i]?=some v:=hv;refine⟨v,?_,?_⟩
   .grind[cell_of_heap]
   .have hm:v∈AP:=Xd hv';have:AP.all plain=true:=rfl
    grind[aB.of_plain]
  .grind
  .refine⟨by rfl,fun b x hx=>?_⟩;by_cases hb:b=oH
   .subst hb;rw[new]at hx;cases hx;trivial
   .rw[old hb hx];exact Yk _
  .rintro c rfl;exact⟨aa,_,new,rfl⟩
  .grind
 refine⟨φ,_,H,L,fun g cs' hg=>?_⟩
 have hgp:g=oH∧cs'=J7:=by
  simp only[Y]at hg;split at hg
  .simp_all
  .cases hg
 obtain⟨rfl,rfl⟩:=hgp;refine⟨Xe _,rfl,AP,?_,?_⟩
 .rfl
 simp[J7,AP,RDs,RD]
open Go.ChangeShapes Go.WideShapes Go.ChangeAt Go.RowKit
variable{HH:Type}{enc:TypeId×Value->HH}{P:Program}{w:World}{base:Nat}{held:Bool}
theorem LG{v:Value}(h:w.cell? a=some v):∃cs e fz,w.heap[a.block]?=some (.cells cs e fz)∧a.spot=none∧cs[a.off]?=some v:=by
 unfold World.cell? at h;split at h
 .rename_i c e fz hc;split at h
  .cases h
  .rename_i hs;refine⟨c,e,fz,hc,?_,h⟩;cases hq:a.spot with
   |none=>rfl
   |some s=>rw[hq]at hs;simp at hs
 .cases h
theorem addr_add(a:Addr)(hs:a.spot=none)(i:Nat):a.add i=⟨a.block,a.off+i,none⟩:=by
 unfold Addr.add;split
 .rename_i h;subst h;cases a;simp at hs ⊢;exact hs
 .rfl
theorem Hv(h:∀i v,vs[i]?=some v->w.cell? (a.add i)=some v)(hp:0<vs.length):
  ∃cs e fz,w.heap[a.block]?=some (.cells cs e fz)∧a.spot=none∧a.off+vs.length<=cs.size∧vs=(cs.toList.drop a.off).take vs.length:=by
 obtain⟨v0,h0⟩:∃v,vs[0]?=some v:=⟨vs[0],by simp[hp]⟩;obtain⟨cs,e,fz,hc,hs,_⟩:=LG (h 0 v0 h0);have ha0:a.add 0=a:=by unfold Addr.add;simp
 rw[ha0]at hc hs
 have at_:∀i v,vs[i]?=some v->cs[a.off+i]?=some v:=fun i v hv=>by
  obtain⟨cs',e',fz',hc',_,hv'⟩:=LG (h i v hv);rw[addr_add a hs]at hc' hv';simp only at hc' hv';rw[hc]at hc';cases hc';exact hv'
 have hle:a.off+vs.length<=cs.size:=by
  have hl:=at_ (vs.length-1) vs[vs.length-1] (by rw[List.getElem?_eq_getElem]);have:=(Array.getElem?_eq_some_iff.1 hl).1;omega
 refine⟨cs,e,fz,hc,hs,hle,?_⟩;apply Xr;intro i;by_cases hi:i<vs.length
 .rw[List.getElem?_take_of_lt hi,List.getElem?_drop];have:=at_ i vs[i] (by rw[List.getElem?_eq_getElem hi]);rw[List.getElem?_eq_getElem hi];simpa using this.symm
 .rw[List.getElem?_eq_none aa,List.getElem?_eq_none ak]
inductive Sh where
 |int (k:IntKind)
 |bool
 |str
 |sl (e:Sh)
 |ar (n:Nat) (e:Sh)
 |st (fs:List Sh)
variable{s:Sh}
mutual
/-- A type has a shape. -/
def Typ(P:Program):Sh->TypeId->Prop
 |.int k,t=>P.underlying t=some (.int k)∧P.cellsOf t=1
 |.bool,t=>P.underlying t=some .bool∧P.cellsOf t=1
 |.str,t=>P.underlying t=some .string∧P.cellsOf t=1
 |.sl e,t=>∃u,P.underlying t=some (.slice u)∧P.cellsOf t=1∧0<P.cellsOf u∧Typ P e u
 |.ar n e,t=>∃u,P.underlying t=some (.array n u)∧P.cellsOf t=n*P.cellsOf u∧Typ P e u
 |.st fs,t=>∃l:List Field,P.underlying t=some (.struct l.toArray)∧QM P fs l 0 (P.cellsOf t)
def QM(P:Program):List Sh->List Field->Nat->Nat->Prop
 |[],l,o,n=>l=[]∧o=n
 |s::ss,l,o,n=>∃f r,l=f::r∧f.offset=o∧Typ P s f.type∧QM P ss r (o+P.cellsOf f.type) n
end
mutual
/-- Cells of a shape. -/
def Dat:Sh->LdQ->Prop
 |.int k,ds=>∃n,ds=[.int k n]∧(Lit.int k n).wf=true
 |.bool,ds=>∃b,ds=[.bool b]
 |.str,ds=>∃s:LuQ,ds=[.str s]∧s.length<=maxLen
 |.sl e,ds=>∃xs:List LdQ,ds=[.sl xs.length xs.flatten]∧∀x∈xs,Dat e x
 |.ar n e,ds=>∃xs:List LdQ,ds=xs.flatten∧xs.length=n∧∀x∈xs,Dat e x
 |.st ss,ds=>abx ss ds
def abx:List Sh->LdQ->Prop
 |[],ds=>ds=[]
 |s::ss,ds=>∃a b,ds=a++b∧Dat s a∧abx ss b
end
theorem WDs.append:∀{a b:LdQ}{u v:LvQ},WDs w a u->WDs w b v->WDs w (a++b) (u++v)
 |[],b,u,v,h,h2=>by grind[WDs]
 | x::a,b,u,v,h,h2=>by
  simp only[WDs]at h;obtain⟨y,u,rfl,h0,h1⟩:=h;exact⟨y,u++v,rfl,h0,h1.append h2⟩
theorem WDs.len:∀{a:LdQ}{u:LvQ},WDs w a u->a.length=u.length
 |[],u,h=>by grind[WDs]
 | x::a,u,h=>by
  simp only[WDs]at h;obtain⟨y,u,rfl,_,h1⟩:=h;simp[h1.len]
theorem u7{α:Type}(C:Nat->List α)(n:Nat):∀m,(∀i,i<m->(C i).length=n)->((List.range m).flatMap C).length=m*n∧∀i j,i<m->j<n->((List.range m).flatMap C)[i*n+j]?=(C i)[j]?
 |0,_=>⟨af,fun i j hi=>by omega⟩
 | m+1,h=>by
  obtain⟨h1,h2⟩:=u7 C n m fun i hi=>h i aa
  have e:(List.range (m+1)).flatMap C=(List.range m).flatMap C++C m:=by simp[List.range_succ]
  rw[e];refine⟨by rw[Zo,h1,h m aa,X3],fun i j hi hj=>?_⟩;by_cases him:i<m
  .rw[List.getElem?_append_left,h2 i j him hj];rw[h1]
   calc i*n+j<i*n+n:=aa
    _=(i+1)*n:=by rw[X3]
    _<=m*n:=Zx n him
  .obtain rfl:i=m:=aa
   simp_all
theorem As(C:Nat->LvQ)(X:Nat->LdQ):∀m,(∀i,i<m->WDs w (X i) (C i))->WDs w ((List.range m).flatMap X) ((List.range m).flatMap C)
 |0,_=>rfl
 | m+1,h=>by
  simp only[List.range_succ,List.flatMap_append,Xa,List.flatMap_nil,Yj];exact(As C X m fun i hi=>h i aa).append (h m aa)
theorem Pg{len cap n:Nat}(hn:0<n)(hl:len<=cap)(hlen:vs.length=cap*n)(h:∀i v,vs[i]?=some v->w.cell? (a.add i)=some v)(hd:WDs w ds (vs.take (len*n)))(hds:ds.length=len*n):WD w (.sl len ds) (.slice (some a) len cap):=by
 simp only[WD];by_cases h0:cap=0
 .have e:len=0:=aa
  simp_all
 .have hpos:0<vs.length:=by rw[hlen];exact Y4 aa hn
  have hle2:len*n<=vs.length:=by rw[hlen];exact Zx n hl
  obtain⟨cs,e,fz,hc,hs,hle,hvs⟩:=Hv h hpos;refine .inr ⟨a.block,a.off,cap,n,cs,e,fz,?_,hl,hn,hds,hc,aa,?_⟩
  .cases a;grind
  grind
def Opn(enc:TypeId×Value->HH)(P:Program)(w:World)(base:Nat)(held:Bool)(s:Sh):Prop:=
 ∀(t:TypeId)(fuel:Nat)(cs:LvQ)(x:DataW HH×List MemPlace),Typ P s t->DataW.trod enc P w base (fun _=>true) held fuel t cs=some x->cs.length=P.cellsOf t∧∃ds,Dat s ds∧WDs w ds cs
theorem IS[Inhabited α]{p:Nat->α->Prop}(h:∀i,i<m->∃x,p i x):∃f:Nat->α,∀i,i<m->p i (f i):=
 ⟨fun i=>if hi:i<m then Classical.choose (h i hi)else default,fun i hi=>by
  grind⟩
theorem aaB(ih:Opn enc P w base held s):Opn enc P w base held (.sl s):=by
 intro t fuel cs x ht h;simp only[Typ]at ht;obtain⟨u,hu,hc1,hcu,hs⟩:=ht;rcases Deep.open_slice hu h with⟨rfl,_⟩|⟨a,len,cap,m,n,Dd,Pl,rfl,_,hlc,_,hm,_,hx⟩
 .exact⟨by grind,[.sl 0 []],⟨[],rfl,fun x hx=>by cases hx⟩,_,_,rfl,.inl ⟨rfl,rfl,.inl rfl⟩,rfl⟩
 .simp only[if_true]at hm;subst hm;obtain⟨C,hC⟩:=IS (α:=LvQ) hx
  obtain ⟨E,hE⟩:=IS (α:=LdQ) (p:=fun i e=>Dat s e∧WDs w e (C i)) (m:=m) fun i hi=>by
   obtain⟨_,ds,h1,h2⟩:=ih _ _ _ _ hs (hC i hi).2
   grind
  have hCl:∀i,i<m->(C i).length=P.cellsOf u:=fun i hi=>(World.cells?_some (hC i hi).1).2.1
  obtain⟨hl1,hl2⟩:=u7 C (P.cellsOf u) m hCl;have hEl:∀i,i<m->(E i).length=P.cellsOf u:=fun i hi=>by rw[(hE i hi).2.len,hCl i hi]
  refine⟨by grind,[.sl ((List.range len).map E).length ((List.range len).map E).flatten],⟨_,rfl,fun x hx=>?_⟩,_,_,rfl,?_,rfl⟩
  .simp only[X4,Xm]at hx;obtain⟨i,hi,rfl⟩:=hx;exact(hE i aa).1
  .rw[Zd,List.length_range,<-List.flatMap_def];refine Pg (vs:=(List.range m).flatMap C) hcu hlc hl1 (fun i v hv=>?_) ?_ (u7 E (P.cellsOf u) len fun i hi=>hEl i aa).1
   .have hi:=(List.getElem?_eq_some_iff.1 hv).1;rw[hl1]at hi;have hdm:=Zb i (P.cellsOf u);have hmod:=Zk i hcu;have hdiv:i/P.cellsOf u<m:=Y8 (by grind);have e:i=i/P.cellsOf u*P.cellsOf u+i%P.cellsOf u:=by rw[Zw];exact hdm.symm
    have:=(World.cells?_some (hC _ hdiv).1).2.2 (i%P.cellsOf u) hmod
    grind[Addr.add_add]
   ·have e:((List.range m).flatMap C).take (len*P.cellsOf u)=(List.range len).flatMap C:=by
     have e1:List.range m=List.range len++(List.range (m-len)).map (len + ·):=by
      conv=>lhs;rw[show m=len+(m-len) by omega,List.range_add]
     rw[e1,List.flatMap_append,Yo];exact(u7 C (P.cellsOf u) len fun i hi=>hCl i aa).1
    rw[e];exact As C E len fun i hi=>(hE i aa).2
theorem aaC{n:Nat}(ih:Opn enc P w base held s):Opn enc P w base held (.ar n s):=by
 intro t fuel cs x ht h;simp only[Typ]at ht;obtain⟨u,hu,hct,hs⟩:=ht;obtain⟨xs,m,_,_,hl,hxl,hx⟩:=DataW.trod_array hu h
 let C:Nat->LvQ:=fun i=>(cs.drop (i*P.cellsOf u)).take (P.cellsOf u)
 obtain ⟨E,hE⟩:=IS (α:=LdQ) (p:=fun i e=>Dat s e∧WDs w e (C i)) (m:=n) fun i hi=>by
  have:=hx i hi;rw[List.getElem?_eq_getElem aa]at this;obtain⟨_,ds,h1,h2⟩:=ih _ _ _ _ hs this
  grind
 refine⟨hl,((List.range n).map E).flatten,⟨_,rfl,af,fun x hx=>?_⟩,?_⟩
 .grind
 .rw[<-List.flatMap_def]
  have e:∀m,m<=n->cs.take (m*P.cellsOf u)=(List.range m).flatMap C:=by
   intro m
   induction m with
   |zero=>simp
   | succ m ihm=>
    intro hm;rw[X3,List.take_add,ihm aa];simp[List.range_succ,C]
  have:=e n (Z7 _);rw[Z0 aa]at this
  grind[As]
mutual
theorem opn:∀s:Sh,Opn enc P w base held s
 | .int k=>by
  intro t fuel cs x ht h;simp only[Typ]at ht;obtain⟨n,rfl,_,hw⟩:=DataW.trod_int ht.1 h;exact⟨by grind,[.int k n],⟨n,rfl,hw⟩,_,_,rfl,rfl,rfl⟩
 | .bool=>by
  intro t fuel cs x ht h;simp only[Typ]at ht;obtain⟨b,rfl,_⟩:=DataW.trod_bool ht.1 h;exact⟨by grind,[.bool b],⟨b,rfl⟩,_,_,rfl,rfl,rfl⟩
 | .str=>by
  intro t fuel cs x ht h;simp only[Typ]at ht;obtain⟨s,rfl,_,hs⟩:=DataW.trod_string ht.1 h;exact⟨by grind,[.str s.data.toList],⟨_,rfl,by trivial⟩,_,_,rfl,rfl,rfl⟩
 |.sl e=>aaB (opn e)
 |.ar n e=>aaC (opn e)
 | .st ss=>by
  intro t fuel cs x ht h;simp only[Typ]at ht;obtain⟨l,hu,hl⟩:=ht;obtain⟨xs,m,_,_,hcl,hxl,hx⟩:=DataW.trod_struct hu h;refine⟨hcl,?_⟩
  have:=acC ss (l:=l) (o:=0) (n:=P.cellsOf t) (fuel:=m) (cs:=cs) hl hcl fun f hf=>by
   obtain⟨i,hi⟩:=List.getElem?_of_mem hf;have h1:=hx i f (by grind)
   grind
  trivial
theorem acC:∀(ss:List Sh){l:List Field}{o n fuel:Nat}{cs:LvQ},QM P ss l o n->cs.length=n ->
  (∀f∈l,∃x,DataW.trod enc P w base (fun _=>true) held fuel f.type ((cs.drop f.offset).take (P.cellsOf f.type))=some x)->∃ds,abx ss ds∧WDs w ds (cs.drop o)
 | [],l,o,n,fuel,cs,ht,hl,h=>by
  simp only[QM]at ht;refine⟨[],rfl,?_⟩;rw[Zv aa];rfl
 | s::ss,l,o,n,fuel,cs,ht,hl,h=>by
  simp only[QM]at ht;obtain⟨f,r,rfl,rfl,h1,h2⟩:=ht;obtain⟨x,hx⟩:=h f af;obtain⟨_,a,ha,wa⟩:=opn s _ _ _ _ h1 hx;obtain⟨b,hb,wb⟩:=acC ss h2 hl fun g hg=>h g (by grind)
  refine⟨a++b,⟨a,b,rfl,ha,hb⟩,?_⟩
  have e:cs.drop f.offset=(cs.drop f.offset).take (P.cellsOf f.type)++cs.drop (f.offset+P.cellsOf f.type):=by
   rw[<-List.drop_drop,Ys]
  grind[WDs.append]
end
inductive Ar where
 |one (x:D)
 |many (xs:LdQ)
def Ar.v:Ar->V
 |.one x=>.d x
 |.many xs=>.agg (xs.map .d)
def WA(w:World):Ar->Value->Prop
 |.one x,v=>WD w x v
 |.many xs,v=>∃ws,v=.agg ⟨ws⟩∧WDs w xs ws
def WAs(w:World):List Ar->LvQ->Prop
 |[],l=>l=[]
 |x::xs,l=>∃v vs,l=v::vs∧WA w x v∧WAs w xs vs
theorem Rl{F1:Nat->Prop}{H1:AH}(φ0:LnQ)(h0:Hp):∀(ds:LdQ)(us:LvQ),RDs F1 H1 ds us->RVs φ0 F1 H1 h0 (ds.map .d) us
 |[],us,h=>by trivial
 | d::ds,us,h=>by
  simp only[RDs]at h;obtain⟨u,us,rfl,h1,h2⟩:=h;exact⟨u,us,rfl,h1,Rl φ0 h0 ds us h2⟩
def RAs(F:Nat->Prop)(H:AH)(rs:List Ar)(us:LvQ):Prop:=∀φ0 h0,RVs φ0 F H h0 (rs.map Ar.v) us
theorem aaS:∀(rs:List Ar)(vs:LvQ){φ:bS}{F:Nat->Prop}{H:AH},Ly w φ F H->WAs w rs vs ->
  ∃φ' F' H' us,Ly w φ' F' H'∧uM φ F H φ' F' H'∧aC φ' us vs∧RAs F' H' rs us
 |[],vs,φ,F,H,L,h=>⟨φ,F,H,[],L,uM.refl ..,by trivial,fun _ _=>rfl⟩
 | .one x::rs,vs,φ,F,H,L,h=>by
  simp only[WAs,WA]at h;obtain⟨v,vs,rfl,h1,h2⟩:=h;obtain⟨φ1,F1,H1,u,L1,E1,r1,d1⟩:=lay x v L h1;obtain⟨φ2,F2,H2,us,L2,E2,r2,d2⟩:=aaS rs vs L1 h2;exact⟨φ2,F2,H2,u::us,L2,E1.trans E2,⟨v,vs,rfl,aB.mono E2.le u v r1,r2⟩,fun φ0 h0=>⟨u,us,rfl,RD.mono (E2.leF L1) _ _ d1,d2 φ0 h0⟩⟩
 | .many xs::rs,vs,φ,F,H,L,h=>by
  simp only[WAs,WA]at h;obtain⟨v,vs,rfl,⟨ws,rfl,h1⟩,h2⟩:=h;obtain⟨φ1,F1,H1,us1,L1,E1,r1,d1⟩:=lays xs ws L h1;obtain⟨φ2,F2,H2,us,L2,E2,r2,d2⟩:=aaS rs vs L1 h2;exact⟨φ2,F2,H2,.agg ⟨us1⟩::us,L2,E1.trans E2,⟨_,vs,rfl,⟨ws,rfl,aC.mono E2.le _ _ r1⟩,r2⟩,fun φ0 h0=>⟨_,us,rfl,⟨us1,rfl,Rl φ0 h0 _ _ (RDs.mono (E2.leF L1) _ _ d1)⟩,d2 φ0 h0⟩⟩
theorem IV{rs:List Ar}{b:Bool}{w:World}(hc:CP Y f (rs.map Ar.v) (.d (.bool b)))(hw:WAs w rs vs)(hp:Pd w)(h0:∀u,Y.X.orc f u=none:=by exact fun _=>rfl):
  Calls X.P f vs.toArray w fun e w'=>e=.returned (.bool b)∧w'.os=w.os∧w'.output=w.output∧w.heap.size<=w'.heap.size∧∀c,c<w.heap.size->w'.heap[c]?=w.heap[c]?:=by
 obtain⟨φ,F,H,L,g⟩:=start hp;obtain⟨φ1,F1,H1,us,L1,E1,r1,d1⟩:=aaS rs vs L hw;obtain⟨n,wv,H2,F2,hcall,hn,_,_,_,_,_,_,_,hr⟩:=adH vOk hc F1 H1 us L1.wf L1.fr (g.mono (E1.leF L)) d1
 have hv:wv=.bool b:=by
  have:=hr [] [];simpa only[RV,RD]using this
 subst hv;refine(LH aaD hcall L1.rel (args':=vs.toArray) r1 h0).mono ?_;rintro e w' ⟨φ',v',rfl,h1,h2,h3,h4⟩;have hv':v'=.bool b:=(aB.of_plain (.bool b) rfl v').1 h1;subst hv';refine⟨rfl,h3.os,h3.out,h3.size,fun c hc=>h3.frame c hc ?_⟩;rintro⟨b',p,x,_,_,hx,_,hwr⟩
 grind[Ly.ro]
theorem QR{v:Value}{x:DataW HH×List MemPlace}(ht:Typ P s t)(hc:P.cellsOf t=1)(h:DataW.trod enc P w base (fun _=>true) held fuel t v.cells.toList=some x)(hv:∀cs,v≠.agg cs):
  ∃d,Dat s [d]∧WA w (.one d) v:=by
 obtain⟨hl,ds,h1,h2⟩:=opn s _ _ _ _ ht h
 have hcl:v.cells.toList=[v]:=by
  cases v<;>first|rfl|grind
 rw[hcl]at h2;have:=h2.len;obtain⟨d,rfl⟩:∃d,ds=[d]:=List.length_eq_one_iff.1 this;simp only[WDs]at h2;obtain⟨v',vs',e,h2,_⟩:=h2;simp only[List.cons.injEq]at e;obtain⟨rfl,_⟩:=e;exact⟨d,h1,h2⟩
theorem UL{v:Value}{x:DataW HH×List MemPlace}(ht:Typ P s t)(h:DataW.trod enc P w base (fun _=>true) held fuel t v.cells.toList=some x)(hv:∃cs,v=.agg cs):
  ∃ds,Dat s ds∧WA w (.many ds) v:=by obtain⟨hl,ds,h1,h2⟩:=opn s _ _ _ _ ht h;obtain⟨cs,rfl⟩:=hv;exact⟨ds,h1,cs.toList,rfl,h2⟩
theorem Mi{P:Program}{W:World}{base:Nat}{fs:Array Field}{v:Value}(ht:P.underlying t=some (.struct fs))(h:Value.okWide P W .any base t v):∃cs,v=.agg cs:=by grind[Value.okWide]
theorem Ls{f:α->LdQ}(q:α->Prop)(hs:∀ds,Dat s ds->∃a,ds=f a∧q a)(h:Dat (.sl s) [d]):∃l:List α,d=.sl l.length (l.flatMap f)∧∀a∈l,q a:=by
 simp only[Dat,List.cons.injEq,and_true]at h;obtain⟨xs,rfl,hx⟩:=h
 have:∀xs:List LdQ,(∀x∈xs,Dat s x)->∃l:List α,xs=l.map f∧∀a∈l,q a:=by
  intro xs
  induction xs with
  |nil=>simp
  | cons x xs ih=>
   intro h;obtain⟨n,rfl,hn⟩:=hs x (h x af);obtain⟨zs,rfl,hz⟩:=ih fun y hy=>h y (by grind)
   exact⟨n::zs,rfl,fun m hm=>by grind⟩
 obtain⟨l,rfl,hl⟩:=this xs hx;exact⟨l,by rw[Zd,<-List.flatMap_def],hl⟩
def Pe(W W':World):Prop:=W'.os=W.os∧W'.output=W.output∧W.heap.size<=W'.heap.size∧∀c,c<W.heap.size->W'.heap[c]?=W.heap[c]?
variable{H:Type}{enc:TypeId×Value->H}{P:Program}
theorem Pe.but{W W':World}(h:Pe W W')(may:MemPlace->Prop):W.keptBut W' may:=by
 refine⟨h.1,h.2.1,fun i hi=>?_⟩;rw[h.2.2.2 i hi];cases hq:W.heap[i]? with
 |none=>simp
 |some o=>cases o<;>simp
theorem PR{f:Func}{s:ChangeSpec}{apart fresh handsOn again:Bool}{W W':World}{args:Array Value}{v:Value}{ds gs:List (DataW H)}{before pa pv:List MemPlace}
  (hW:DataW.Whole enc P f.params.toList s.vars apart W args.toList ds gs before)
  (hres:∀(b:Nat)(sp:Nat->Bool)(hd:Bool),DataW.TrodAll enc P W' b sp hd f.resultTypes.toList (v.resultList f.resultTypes.size) (s.fn H (ds++gs)).results [])
  (hargs:∀sp:Nat->Bool,(∀p∈before,sp p.block=true)->DataW.TrodAll enc P W' 0 sp true f.params.toList args.toList (s.fn H (ds++gs)).args pa)
  (hvars:∀sp:Nat->Bool,(∀p∈before,sp p.block=true)->DataW.TrodVars enc P W' sp s.vars (s.fn H (ds++gs)).vars pv)
  (hps:before=pa++pv) (hk:Pe W W')
  (hok:∀(j:Nat)(t:TypeId)(r:Value),f.resultTypes[j]?=some t->(v.resultList f.resultTypes.size)[j]?=some r->Value.okWide P W' .any 0 t r) :
  s.post enc P f apart fresh handsOn again W args v W':=by
 have hold:∀p∈before,(fun b=>decide (b<W.heap.size)) p.block=true:=fun p hp=>by simpa using hW.lt p hp
 have hlt:=hW.lt;refine⟨ds,gs,before,[],pa,pv,hW,hres _ _ _,hargs _ hold,hvars _ hold,World.keptBut_mono (fun p hp=>⟨hp,?_⟩) (hk.but (· ∈ before)),fun _=>?_⟩
 .rw[hps,Wx]at hp;exact Or.inr hp
 .obtain⟨_,_,_,_,_,hz,hn⟩:=hW;refine⟨hok,_,_,([]++pa)++pv,⟨[]++pa,pv,trodAll_append (hargs _ (fun _ _=>rfl)) (hres _ _ _),hvars _ (fun _ _=>rfl),rfl,?_,?_⟩,?_⟩
  .intro b off hp;have hp':MemPlace.cell b off∈before:=by rw[hps];simpa using hp
   have hb:b<W.heap.size:=hlt _ hp';have:=hz b off hp';simp only[World.frozen?]at this ⊢;rw[hk.2.2.2 b hb];exact this
  .intro ha;have:=hn ha;rw[hps]at this;simpa using this
  .intro p hp _;rw[hps];simpa using hp
theorem yV(hl:laidOutB P=true){W W':World}(hk:Pe W W'){sp:Nat->Bool}:∀{ts:List TypeId}{vs:LvQ}{ds:List (DataW H)}{ps:List MemPlace},(∀t∈ts,P.readableRec t=true∧t<P.types.size) ->
  DataW.TrodAll enc P W 0 (fun _=>true) true ts vs ds ps->(∀p∈ps,p.block<W.heap.size)->(∀p∈ps,sp p.block=true)->DataW.TrodAll enc P W' 0 sp true ts vs ds ps
 | [],vs,ds,ps,_,h,_,_=>by
  obtain⟨rfl,rfl,rfl⟩:=trodAll_nil h;exact trodAll_mk0
 | t::ts,vs,ds,ps,hr,h,hlt,hsp=>by
  obtain⟨v,vs',d,ds',p,q,rfl,rfl,rfl,h1,h2⟩:=trodAll_cons h;refine trodAll_cons_mk (WideElems.Trod_stays hl (hr t af).1 (hr t af).2 h1 (fun x hx=>?_) fun x hx=>hsp x (by simp[hx])) (yV hl hk (fun u hu=>hr u (by simp[hu])) h2 (fun x hx=>hlt x (by simp[hx])) fun x hx=>hsp x (by simp[hx]));have hb:=hlt x (by simp[hx]);cases x with
  | cell b off=>
   simp only[World.sameAt,World.cell?];rw[hk.2.2.2 b hb]
  |map b=>exact hk.2.2.2 b hb
theorem Es{P:Program}{w:World}:∀{l:List (String×DataW Unit)}{ps:List MemPlace},DataW.LaidVars P w l ps->∀n d,(n,d)∈l ->
  ∃g t cs fuel p,P.globalNamed n=some g∧(P.globals[g]?).map (·.type)=some t∧w.var? P n=some cs∧DataW.trod (fun _=>()) P w 0 (fun _=>true) false fuel t cs.toList=some (d,p)
 |[],_,_,_,_,hm=>by cases hm
 | (n',d')::r,ps,h,n,d,hm=>by
  obtain⟨g,t,cs,fuel,p,q,h1,h2,h3,h4,h5,_⟩:=h;rcases Zc.1 hm with e|e
  .cases e;exact⟨g,t,cs,fuel,p,h1,h2,h3,h4⟩
  .exact Es h5 n d e
def aaw:LiQ:=[1,10,100,1000,10000,100000,1000000,10000000,100000000,1000000000,10000000000,100000000000,1000000000000,10000000000000,100000000000000,1000000000000000,10000000000000000,100000000000000000,1000000000000000000,10000000000000000000]
theorem aau{P:Program}{W:World}{name:String}{t e:TypeId}(hg:P.globalNamed name=some oH)(hty:(P.globals[oH]?).map (·.type)=some t)(ht:P.underlying t=some (.array 20 e))(he:P.underlying e=some (.int .u64))(hce:P.cellsOf e=1)(hct:P.cellsOf t=20)
  {l:List (String×DataW Unit)} (hm:(name,Lib.tabData .u64 aaw)∈l) (h:laidMet P l W):Pd W:=by
 obtain⟨ps,hv,_⟩:=h;obtain⟨g',t',cs,fuel,p,hg',ht',hvar,hd⟩:=Es hv _ _ hm;obtain rfl:=Option.some.inj (hg.symm.trans hg');obtain rfl:=Option.some.inj (hty.symm.trans ht')
 have tab:Lib.TabIs P W name .u64 aaw:=by
  unfold Lib.TabIs;rw[hvar,<-Lib.cells_of_tab ht he hce hct hd]
 have hpv:∀i v,AP[i]?=some v->W.cell? ((⟨oH,0,none⟩:Addr).add i)=some v:=by
  intro i v hv;have hi:i<20:=(List.getElem?_eq_some_iff.1 hv).1;rw[addr_add _ rfl];have h1:=tab.cell hg i hi;simp only[Zn];rw[h1];have h2:AP=aaw.map fun z=>Value.int .u64 z:=rfl
  rw[h2,List.getElem?_map,Z2]at hv;obtain⟨z,hz,rfl⟩:=hv;simp[hz]
 obtain⟨cs,e,fz,h1,_,h2,h3⟩:=Hv (w:=W) (a:=⟨oH,0,none⟩) (vs:=AP) hpv ae;exact⟨cs,e,fz,h1,by simpa[AP]using h2,by simpa[AP]using h3⟩
open Go.Proofs Go.Proofs.YtgcaaigeilmbaabGreatDoor
theorem afh:Tryz.prog.globalNamed "internal/strconv.uint64pow10" = some oH:=by kernel_rfl
theorem Tm:(Tryz.prog.globals[oH]?).map (·.type)=some 250:=au
theorem aad:Tryz.prog.underlying 250=some (.array 20 113):=au
theorem aac:Tryz.prog.underlying 113=some (.int .u64):=au
theorem Ue:Tryz.prog.cellsOf 113=1:=au
theorem Uf:Tryz.prog.cellsOf 250=20:=au
mutual
/-- Has a type a shape? -/
def FL(P:Program):Sh->TypeId->Bool
 | .int k,t=>(match P.underlying t with
  |some (.int k')=>decide (k'=k)
  |_=>false)&&Nat.beq (P.cellsOf t) 1
 | .bool,t=>(match P.underlying t with
  |some .bool=>true
  |_=>false)&&Nat.beq (P.cellsOf t) 1
 | .str,t=>(match P.underlying t with
  |some .string=>true
  |_=>false)&&Nat.beq (P.cellsOf t) 1
 | .sl e,t=>(match P.underlying t with
  |some (.slice u)=>Nat.beq (P.cellsOf t) 1&&Nat.blt 0 (P.cellsOf u)&&FL P e u
  |_=>false)
 | .ar n e,t=>(match P.underlying t with
  |some (.array m u)=>Nat.beq m n&&Nat.beq (P.cellsOf t) (n*P.cellsOf u)&&FL P e u
  |_=>false)
 | .st fs,t=>(match P.underlying t with
  |some (.struct l)=>Gm P fs l.toList 0 (P.cellsOf t)
  |_=>false)
def Gm(P:Program):List Sh->List Field->Nat->Nat->Bool
 |[],l,o,n=>l.isEmpty&&Nat.beq o n
 | s::ss,l,o,n=>(match l with
  |[]=>false
  |f::r=>Nat.beq f.offset o&&FL P s f.type&&Gm P ss r (o+P.cellsOf f.type) n)
end
mutual
theorem Av{P:Program}:∀{s:Sh}{t:TypeId},FL P s t=true->Typ P s t
 | .int k,t,h=>by
  simp only[FL,Z8]at h;obtain⟨h1,h2⟩:=h;split at h1
  .rename_i h3;obtain rfl:=of_decide_eq_true h1;exact⟨h3,Za h2⟩
  .cases h1
 | .bool,t,h=>by
  simp only[FL,Z8]at h;obtain⟨h1,h2⟩:=h;split at h1
  .rename_i h3;exact⟨h3,Za h2⟩
  .cases h1
 | .str,t,h=>by
  simp only[FL,Z8]at h;obtain⟨h1,h2⟩:=h;split at h1
  .rename_i h3;exact⟨h3,Za h2⟩
  .cases h1
 | .sl e,t,h=>by
  simp only[FL]at h;split at h
  .rename_i u h3;simp only[Z8]at h;obtain⟨⟨h1,h2⟩,h4⟩:=h;exact⟨u,h3,Za h1,by have:=h2;simp[Nat.blt]at this;omega,Av h4⟩
  .cases h
 | .ar n e,t,h=>by
  simp only[FL]at h;split at h
  .rename_i m u h3;simp only[Z8]at h;obtain⟨⟨h1,h2⟩,h4⟩:=h;obtain rfl:=Za h1;exact⟨u,h3,Za h2,Av h4⟩
  .cases h
 | .st fs,t,h=>by
  simp only[FL]at h;split at h
  .rename_i l h3;exact⟨l.toList,by rw[h3],Nz h⟩
  .cases h
theorem Nz{P:Program}:∀{ss:List Sh}{l:List Field}{o n:Nat},Gm P ss l o n=true->QM P ss l o n
 | [],l,o,n,h=>by
  simp only[Gm,Z8,List.isEmpty_iff]at h;exact⟨h.1,Za h.2⟩
 |s::ss,[],o,n,h=>by simp[Gm]at h
 | s::ss,f::r,o,n,h=>by
  simp only[Gm,Z8]at h;obtain⟨⟨h1,h2⟩,h3⟩:=h;exact⟨f,r,rfl,Za h1,Av h2,Nz h3⟩
end
theorem DK{P:Program}{W:World}{base:Nat}{v:Value}(ht:P.underlying t=some (.slice e))(h:Value.okWide P W .any base t v):∀cs,v≠.agg cs:=by rintro cs rfl;simp only[Value.okWide,ht,Cell.okWide,Cell.ok]at h
theorem wf_u8(h:(Lit.int .u8 n).wf=true):0<=n∧n<=255:=by simp only[Lit.wf,Z8,decide_eq_true_eq]at h;exact h
theorem wf_i64(h:(Lit.int .i64 n).wf=true): -9223372036854775808<=n∧n<=9223372036854775807:=by simp only[Lit.wf,Z8,decide_eq_true_eq]at h;exact h
def acI(x:Int):Prop:=-9223372036854775808<=x∧x<=9223372036854775807
abbrev YT:Sh:=.sl (.int .i64)
theorem XB(h:Dat YT [d]):∃l:LiQ,d=row l∧∀x∈l,acI x:=by
 obtain ⟨l,rfl,hl⟩:=Ls (f:=fun n=>[di n]) acI (fun ds h=>by
  obtain⟨n,e,hw⟩:=h;exact⟨n,e,wf_i64 hw⟩) h
 exact⟨l,by simp only[row,List.map_eq_flatMap],hl⟩
def afb:DataW Unit->Value
 |.lit (.int k n)=>.int k n
 |_=>undef
def aah:DataW Unit->Array Value
 |.agg l=>(l.map afb).toArray
 |_=>#[]
def adn:DataW Unit->Value
 |.iface _ (.ptr (.agg [.lit (.string l)]))=>.string ⟨l.toArray⟩
 |_=>undef
def Rh(cs:Array Value):Obj->Obj
 |.cells _ t frozen=>.cells cs t frozen
 |o=>o
noncomputable def A7(os:Os):World:=
 let w0:=World.holding Tryz.prog os ⟨#[.cells #[adn Rows.laid_strconv_ErrSyntax] 256,.cells #[adn Rows.laid_strconv_ErrRange] 256],#[],[]⟩
 let low:=(World.settled Tryz.prog os).heap.size
 {w0 with heap:=((((w0.heap.modify 0 (Rh #[.iface 254 (.pointer (some ⟨low,0,none⟩))])).modify 1 (Rh #[.iface 254 (.pointer (some ⟨low+1,0,none⟩))])).modify 2 (Rh (aah Rows.laid_internal_strconv_uint64pow10))).modify 4 (Rh (aah Rows.laid_math_bits_deBruijn32tab))).modify 5 (Rh (aah Rows.laid_math_bits_deBruijn64tab))}
open Go.Big
theorem UE:kY:=fun x y c hx hy hc=>by
 have ho:Y.X.orc F.iW [.int .u64 x,.int .u64 y,.int .u64 c]=some (.tuple #[.int .u64 (((x+y+c)%W6:Nat):Int),.int .u64 (((x+y+c)/W6:Nat):Int)]):=by
  have e:∀a,Y.X.orc F.iW a=O6 a:=fun a=>rfl
  rw[e];unfold O6;simp only;rw[if_pos ⟨aa,aa,aa,aa⟩];simp[mV]
 exact CP.orc ho (by intro x hx;simp only[Zc,Yc,or_false]at hx;rcases hx with rfl|rfl|rfl<;>rfl) rfl
theorem T5(ds:LdQ)(h:Dat (.st [.str,.str]) ds):∃a:Tx,ds=fi a∧True:=by obtain⟨a,b,rfl,⟨s,rfl,hs⟩,a',b',rfl,⟨t,rfl,ht⟩,rfl⟩:=h;exact⟨(s,t),rfl,trivial⟩
theorem XA(h:Dat (.sl (.st [.str,.str])) [d]):∃s:List Tx,d=.sl s.length (s.flatMap fi):=by obtain⟨s,e,_⟩:=Ls (f:=fi) (fun _=>True) T5 h;exact⟨s,e⟩
theorem T4(h:Dat (.st [.int .u8,.int .u8,.int .u8]) ds):∃x y z:Nat,ds=[.int .u8 x,.int .u8 y,.int .u8 z]∧x<256∧y<256∧z<256:=by obtain⟨a,b,rfl,h1,a',b',rfl,h2,a2,b2,rfl,h3,rfl⟩:=h;obtain⟨n,rfl,hn⟩:=h1;obtain⟨m,rfl,hm⟩:=h2;obtain⟨o,rfl,ho⟩:=h3;have u1:=wf_u8 hn;have u2:=wf_u8 hm;have u3:=wf_u8 ho;exact⟨n.toNat,m.toNat,o.toNat,by rw[X1 u1.1,X1 u2.1,X1 u3.1];rfl,aa,aa,aa⟩
end Go.Vm
