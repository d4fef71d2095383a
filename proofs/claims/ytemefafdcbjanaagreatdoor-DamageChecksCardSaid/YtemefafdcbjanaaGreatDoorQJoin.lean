/- Lemmas. -/
import Derived.Test.YtemefafdcbjanaaGreatDoorQTuA
import Derived.ProofKit
import Derived.OpenShut
import Derived.Deep.DeepHandedRow
import Derived.Deep.Matrix
import Derived.Lib.LaidTab
import Derived.Test.YtemefafdcbjanaaGreatDoorTie
import Derived.Test.YtemefafdcbjanaaGreatDoorCards
set_option linter.unusedVariables false
set_option linter.unusedSimpArgs false
namespace Go.Vm
open Go Go.Am Go.Big
variable{a:Ad}
variable{i k C n m fuel:Nat}{t e:TypeId}{r:LiQ}{d:D}{α:Type}{s:List Q}{vs:LvQ}
def stW(a:Ad)(i f t:Nat):LiQ:=(RP a i f t).map (· * (a.w.2:Int))
theorem Jd{p:LiQ}{B:Nat}:∀{m:LLQ}{v:LiQ}{C:Nat},(∀d∈m,d.length=p.length∧bdN B d)->v.length=p.length->bdN C v->(stepG p v m).length=p.length∧bdN (C+B*m.length) (stepG p v m)
 |[],v,C,_,hv,hb=>⟨hv,by trivial⟩
 | d::m,v,C,hm,hv,hb=>by
  obtain⟨d1,d2⟩:=hm d ae;have:=Jd (m:=m) (v:=sj 1 v (Rc p d)) (C:=C+B) (fun x hx=>hm x (by grind)) (by rw[Ci _ (by grind[Lx]),hv]) (Lm hb (Pe d2));refine⟨this.1,fun x hx=>?_⟩;have:=this.2 x hx
  grind[Zp]
theorem tK.stepV(G:tK a){f t:Nat}(hi:i<a.lk.length)(hf:f<(nth [] a.cd i).length)(ht:t<(nth [] a.cd (i+1)).length):(RP a i f t).length=a.p.length∧bdN 1920 (RP a i f t):=by
 have hls:=G.wk.ls _ (o7 (d:=[]) hi);obtain⟨h1,h2⟩:=Jd (p:=a.p) (B:=160) (C:=0) (m:=TL a i f t) (v:=List.replicate a.p.length 0) (fun d hd=>⟨(G.move hi hf ht d hd).1,aaT (B:=160) (G.move hi hf ht d hd).2⟩) ae (fun x hx=>by grind);refine⟨h1,fun x hx=>?_⟩;have:=h2 x hx;have e:(TL a i f t).length=(nth [] a.lk i).length:=by simp[TL]
 omega
theorem Pd{B:Nat}(h:bdN B r){w:Int}{W:Nat}(hw:w.natAbs<=W):bdN (B*W) (r.map (· * w)):=by intro x hx;obtain⟨y,hy,rfl⟩:=Zh.1 hx;rw[Y2];exact Za (h y hy) hw
theorem tK.stepW(G:tK a){f t:Nat}(hi:i<a.lk.length)(hf:f<(nth [] a.cd i).length)(ht:t<(nth [] a.cd (i+1)).length):(stW a i f t).length=a.p.length∧bdN 1920000 (stW a i f t):=by obtain⟨w1,w2,w3,w4⟩:=G.w0;obtain⟨h1,h2⟩:=G.stepV hi hf ht;exact⟨by grind[stW],Pd (W:=1000) h2 aa⟩
theorem tK.ownW(G:tK a)(hi:i<a.cd.length)(hk:k<(nth [] a.cd i).length):(WR a i k).length=a.p.length∧bdN 8000 (WR a i k):=by obtain⟨w1,w2,w3,w4⟩:=G.w0;obtain⟨c1,c2⟩:=G.cand hi hk;exact⟨by grind[WR,Lx],Pd (Pe (aaT (B:=8) c2)) (W:=1000) aa⟩
def aez(a:Ad)(c:LiQ):Prop:=c.length=a.cd.length∧∀k<c.length,0<=nth 0 c k∧nth 0 c k<(nth [] a.cd k).length
theorem aez.at{c:LiQ}(h:aez a c){l:LiQ}{z:Int}{q:LiQ}(hl:l++z::q=c):∃m:Nat,z=m∧m<(nth [] a.cd l.length).length:=by obtain⟨h1,h2⟩:=h.2 l.length (by grind);rw[<-hl,Hy]at h1 h2;exact⟨z.toNat,aa,aa⟩
def adQ(p:LiQ):Option LiQ->LiQ->LiQ->LLQ->LLQ->Option LiQ
 | o,own,n,st::ss,be::bs=>adQ p (match o with
   |none=>some (VY n [own,st,be])
   |some m=>some (if wI p (VY n [own,st,be])<wI p m then VY n [own,st,be]else m)) own n ss bs
 |o,_,_,_,_=>o
def opV(b:Nat):Option LiQ->V
 |none=>.d nPQ
 |some m=>szV (szI b m)
structure ag0(p:LiQ)(b Bd:Nat):Prop where
 hp:pcS p
 b0:0<b
 b1:b<1000000
 B1:Bd<100000000000
def okR(p:LiQ)(Bd:Nat)(l:LLQ):Prop:=∀r∈l,r.length=p.length∧bdN Bd r
def adr(p:LiQ):LLQ->List LLQ->LLQ->LLQ
 |o::os,ss::sss,bs=>((adQ p none o (List.replicate p.length 0) ss bs).getD [])::adr p os sss bs
 |_,_,_=>[]
def Hr(p:LiQ):List LLQ->List (List LLQ)->List LLQ
 |o::o2::os,ss::sss=>adr p o ss ((Hr p (o2::os) sss).headD [])::Hr p (o2::os) sss
 |l,_=>l
structure ag1(p:LiQ)(b Bd:Nat)(owns:List LLQ)(steps:List (List LLQ)):Prop where
 g:ag0 p b Bd
 ne:0<owns.length
 hl:steps.length=owns.length
 hN:owns.length<1000000
 ho:∀o∈owns,0<o.length∧o.length<1000000∧okR p Bd o
 hs:∀k,k+1<owns.length->(nth [] steps k).length=(nth [] owns k).length∧∀ss∈nth [] steps k,ss.length=(nth [] owns (k+1)).length∧okR p Bd ss
 hB:∀m,m<owns.length->∀r∈Hr p (owns.drop m) (steps.drop m),r.length<1000000∧okR p Bd r
def Gb(a:Ad)(k:Nat):LLQ:=(List.range (nth [] a.cd k).length).map (WR a k)
def LZ(a:Ad)(k i:Nat):LLQ:=(List.range (nth [] a.cd (k+1)).length).map (stW a k i)
def L0(a:Ad)(k:Nat):List LLQ:=(List.range (nth [] a.cd k).length).map (LZ a k)
def AN(a:Ad):List LLQ:=(List.range a.cd.length).map (Gb a)
def G3(a:Ad):List (List LLQ):=(List.range a.cd.length).map (L0 a)
variable{a:Ad}{h:Hp}
theorem VD{B:Nat}(h:bdN B r)(hc:B<=C):bdN C r:=fun x hx=>Zu (h x hx) hc
section
variable{p:LiQ}{b:Nat}
structure VQ(p:LiQ)(b B:Nat)(owns:List LLQ)(steps:List (List LLQ)):Prop where
 hp:pcS p
 b0:0<b
 b1:b<1000000
 ne:0<owns.length
 five:owns.length<=5
 B1:B<=2000000
 hl:steps.length=owns.length
 ho:∀o∈owns,0<o.length∧o.length<1000000∧okR p B o
 hs:∀k,k+1<owns.length->(nth [] steps k).length=(nth [] owns k).length∧∀ss∈nth [] steps k,ss.length=(nth [] owns (k+1)).length∧okR p B ss
variable{B:Nat}{owns:List LLQ}{steps:List (List LLQ)}
def p3:Nat->Nat
 |0=>1
 |n+1=>p3 n+p3 n+p3 n
theorem adz(h:n<=4):p3 n<=81:=by have:n=0∨n=1∨n=2∨n=3∨n=4:=aa;rcases this with rfl|rfl|rfl|rfl|rfl<;>decide
theorem VQ.le(P:VQ p b B owns steps){d:Nat}(h:d<=4):B*p3 d<=200000000:=by have h1:=Za P.B1 (adz h);omega
end
variable{a:Ad}
theorem zE(d:α)(f:Nat->α)(h:i<n):nth d ((List.range n).map f) i=f i:=by grind[dQ]
theorem tK.pre(G:tK a):VQ a.p a.w.2 1920000 (AN a) (G3 a):=by
 obtain⟨w1,w2,w3,w4⟩:=G.w0;have h5:=G.five;have hcl:=G.cl;have hlen:=G.wk.len;refine⟨G.hp,w1.1,aa,by grind[AN],by grind[AN],aa,by simp[AN,G3],fun o h=>?_,fun k hk=>?_⟩
 .simp only[AN,Zh,Xs]at h;obtain⟨k,hk,rfl⟩:=h;obtain⟨n1,n2⟩:=G.cn _ (o7 (d:=[]) hk);refine⟨by grind[Gb],by grind[Gb],fun r hr=>?_⟩
  grind[Gb,ownW,VD]
 .simp only[AN,List.length_map,List.length_range]at hk;unfold AN G3;rw[zE _ _ (show k<a.cd.length by omega),zE _ _ (show k<a.cd.length by omega),zE _ _ hk];refine⟨by simp[L0,Gb],fun ss hss=>?_⟩;simp only[L0,Zh,Xs]at hss;obtain⟨i,hi,rfl⟩:=hss;refine⟨by simp[LZ,Gb],fun r hr=>?_⟩
  simp only[LZ,Zh,Xs]at hr;obtain⟨j,hj,rfl⟩:=hr;exact G.stepW (i:=k) aa hi hj
def rA(a:Ad):List LLQ:=Hr a.p (AN a) (G3 a)
section
variable{p:LiQ}{b B:Nat}{owns:List LLQ}{steps:List (List LLQ)}
end
def dn(n:Nat):D:=di (n:Int)
variable{g:FuncId}{cs:LwQ}{cf:List Q->List Q->Int}
variable{p:LiQ}{c w:Mz}
def JU(s:List Q):Bool:=s.all fun x=>decide (0<x.2)&&(Nat.gcd x.1.natAbs x.2 == 1)&&decide (ndg x.1.natAbs<=30)&&decide (ndg x.2<=30)
theorem rT(h:JU s=true):okS s:=fun x hx=>by
 have:=Z2.1 h x hx;simp only[Z8,decide_eq_true_eq,beq_iff_eq]at this;exact⟨⟨this.1.1.1,this.1.1.2⟩,this.1.2,this.2⟩
def lsB(l:LiQ):Bool:=l.all fun z=>decide (-1000000000<=z)&&decide (z<=1000000000)
theorem MJ{l:LiQ}(h:lsB l=true):bd9 l:=fun z hz=>by
 have:=Z2.1 h z hz;simpa using this
def ltB(n:Nat)(m:Mz):Bool:=decide (0<n)&&decide (n<=12)&&decide (m.length<=12)&&m.all fun r=>decide (r.length=n)&&lsB r
theorem TR{m:Mz}(h:ltB n m=true):IC n m:=by simp only[ltB,Z8,decide_eq_true_eq,Z2]at h;exact⟨h.1.1.1,h.1.1.2,h.1.2,fun r hr=>(h.2 r hr).1,fun r hr=>MJ (h.2 r hr).2⟩
def p5:LiQ:=[2,3,5]
def mtC:Mz:=[[4,-4,1]]
def mtW:Mz:=[[1,0,-4],[0,1,4]]
theorem TP:Rh p5 mtC mtW where
 pr:=aF
 lc:=TR aF
 lw:=TR aF
 ch:=aF
 k1:=⟨20,100,af,aF,aF⟩
theorem li3(a b c:Int)(h:Hp):fO 3 [.int .i64 0] [(0,.d (.int .i64 a)),(1,.d (.int .i64 b)),(2,.d (.int .i64 c))] h=some ([.int .i64 a,.int .i64 b,.int .i64 c],h):=by simp[fO,jm,ly,toD,norm]
theorem sgQ{p:LiQ}{b B:Nat}(hp:in6 p)(hl:s.length=p.length)(hb:0<b)(h:bdL b B s)(hB:B<9223372036854775808):ET p s (vlS p b s).sign:=
 Sf hp hl hb (BL h).1 (BL h).2 hB
theorem vY{n d:Int}(hd:d≠0)(h1 : -9223372036854775808<n)(h2:n<9223372036854775808)(h3 : -9223372036854775808<d)(h4:d<9223372036854775808):CP Y F.aH [I n,I d] (.agg (qT (wH n d))):=by refine wD ?_;have fo:=KG hd h1 h2 h3 h4;simp only[qT]at fo;simp only[aH];simp(disch:=try exact ac);refine cd fo ?_;simp(disch:=try exact ac);exact lF rfl rfl
def mtG:List (List Q):=[[(1,1),(0,1),(0,1)],[(1,1),(0,1),(1,4)]]
theorem HG:IB p5 mtC mtW mtG where
 tp:=TP
 gl:=af
 gs:=fun s hs=>by
  have:=Z2.1 (show(mtG.all fun s=>decide (s.length=p5.length)&&JU s)=true by decide+kernel) s hs;simp only[Z8,decide_eq_true_eq]at this;exact⟨this.1,rT this.2⟩
theorem aaB:in6 p5:=⟨af,af,aF⟩
def bd4(s:List Q):Bool:=s.all fun x=>decide (((0<x.2∧Nat.gcd x.1.natAbs x.2=1)∧x.1*((4:Nat):Int)=x.1*(4/x.2:Nat)*x.2)∧(x.1*(4/x.2:Nat)).natAbs<=64)
theorem Nj(h:bd4 s=true):bdL 4 64 s:=fun x hx=>⟨x.1*(4/x.2:Nat),by
 have:=Z2.1 h x hx;simp only[decide_eq_true_eq]at this;exact this⟩
def wtQ(t:Tg):Q:=(rdF t.num t.den).getD (0,1)
def erK(t:Tg):List Q:=E8 p5 mtW mtG t.iv
def abK(t:Tg):List Q:=VO p5 (erK t) (vlS p5 4 (erK t)).sign
def dmK(t:Tg):List Q:=oo p5.length [abK t] [wtQ t]
def HV(s:List Q):Bool:=decide (s.length=p5.length)
def acf(t:Tg):Bool:=decide (t.iv.length=p5.length)&&smR t.iv&&lsB t.iv&&decide (rcB t.iv=0)&&lsB (lz mtW t.iv)
def ace(t:Tg):Bool:=JU (erK t)&&HV (erK t)&&bd4 (erK t)&&JU (abK t)&&HV (abK t)&&JU (dmK t)&&HV (dmK t)&&bd4 (dmK t)
def acd(t:Tg):Bool:=decide (rdF t.num t.den=some (wtQ t))&&JU [wtQ t]
theorem ab5{t:Tg}(c1:acf t=true)(c2:ace t=true)(c3:acd t=true):LC p5 mtC mtW mtG dmK t:=by
 simp only[acf,Z8,decide_eq_true_eq]at c1;simp only[ace,HV,Z8,decide_eq_true_eq]at c2;simp only[acd,Z8,decide_eq_true_eq]at c3;obtain⟨⟨⟨⟨a1,a2⟩,a3⟩,a4⟩,a5⟩:=c1;obtain⟨⟨⟨⟨⟨⟨⟨b1,b2⟩,b3⟩,b4⟩,b5⟩,b6⟩,b7⟩,b8⟩:=c2;have pc:pcB p5=0:=TP.pr;have hz:=sgQ aaB b2 af (Nj b3) af
 have sg:∀z:Int,-1<=z.sign∧z.sign<=1:=fun z=>by
  rcases Int.lt_trichotomy z 0 with h|h|h
  .rw[Int.sign_eq_neg_one_of_neg h];decide
  .subst h;decide
  .rw[W8 h];decide
 refine⟨erK t,abK t,Rr HG af ⟨a1,a2,MJ a3,a4,MJ a5⟩ (rT b1),acv pc af b2 (rT b1) hz (sg _).1 (sg _).2,?_⟩;have sc:=Sk (p:=p5) (s:=abK t) (k:=wtQ t) pc af b5 (rT b4) (rT c3.2 (wtQ t) ae) (rT b6);obtain⟨e1,e2⟩:=GZ c3.1;simp only[qT]at sc;rw[<-e1,<-e2]at sc;exact sc
def kT0:Tg:=⟨[-1,1,0],[49],[49]⟩
def kT1:Tg:=⟨[1,1,-1],[50],[49]⟩
def kT2:Tg:=⟨[-2,0,1],[49],[49]⟩
def kTs:List Tg:=[kT0,kT1,kT2]
theorem kDm:∀t∈kTs,LC p5 mtC mtW mtG dmK t:=fun t ht=>by
 have:=Z2.1 (show(kTs.all fun t=>acf t&&ace t&&acd t)=true by decide+kernel) t ht;simp only[Z8]at this;exact ab5 this.1.1 this.1.2 this.2
theorem abL:∀t∈kTs,TgS t:=fun t ht=>by
 simp only[kTs,Zs,Ym,or_false]at ht;rcases ht with rfl|rfl|rfl<;>exact⟨af,af,af⟩
theorem aeb{s t:Tg}{z:Int}(hs:s∈kTs)(ht:t∈kTs)(h:(vlS p5 4 (dmK s)*((4:Nat):Int)-vlS p5 4 (dmK t)*((4:Nat):Int)).sign=z):CP Y F.cj [lst di p5,szV (dmK s),szV (dmK t)] (.tup [I z,I 0]):=by
 have key:∀t∈kTs,HV (dmK t)=true∧JU (dmK t)=true∧bd4 (dmK t)=true:=fun t ht=>by
  have:=Z2.1 (show(kTs.all fun t=>HV (dmK t)&&JU (dmK t)&&bd4 (dmK t))=true by decide+kernel) t ht;simp only[Z8]at this;exact⟨this.1.1,this.1.2,this.2⟩
 obtain⟨a1,a2,a3⟩:=key s hs;obtain⟨b1,b2,b3⟩:=key t ht;simp only[HV,decide_eq_true_eq]at a1 b1;have c:=agM (p:=p5) aaB a1 b1 af af (Nj a3) (Nj b3) af;rw[h]at c;exact Nr TP.pr af a1 b1 (rT a2) (rT b2) c
theorem aea:∀t∈kTs,(dmK t).length<1000000:=fun t ht=>by
 have:=Z2.1 (show(kTs.all fun t=>HV (dmK t))=true by decide+kernel) t ht;simp only[HV,decide_eq_true_eq]at this;rw[this];decide
theorem kOf:CP Y F.pX [tuV p5 mtC mtW mtG,.agg [lst di kT0.iv,S kT0.num,S kT0.den]] (.tup [szV [(-1,1),(1,1),(-1,4)],I 0]):=by
 have:=YT HG (f:=dmK) (t:=kT0) (abL _ (by simp[kTs])) aF (kDm _ (by simp[kTs]))
 rwa [show dmK kT0=[(-1,1),(1,1),(-1,4)] by decide+kernel]at this
theorem Qy:CP Y F.ij [tuV p5 mtC mtW mtG,tgs kTs] (.tup [szV [(-2,1),(2,1),(-1,2)],lst di [1],I 0]):=by
 have:=HZ HG (f:=dmK) (t0:=kT0) (t1:=kT1) (t2:=kT2) abL aF kDm (e1:=0) (e2:=0) aea
  (aeb (by simp[kTs]) (by simp[kTs]) aF) (aeb (by simp[kTs]) (by simp[kTs]) aF)
 have e1:gtI (dmK kT1) [⟨kT1,dmK kT1,1⟩,⟨kT0,dmK kT0,0⟩,⟨kT2,dmK kT2,2⟩]=[1]:=aF;rw[e1,show dmK kT1=[(-2,1),(2,1),(-1,2)] by decide+kernel]at this;exact this
theorem ad9:CP Y F.m8 [tuV p5 mtC mtW mtG,tgs kTs] (.tup [lst di [2],I 0]):=by
 have:=QV HG (f:=dmK) (l:=kTs) af af abL aF kDm aea
 rwa [show C7 0 (kTs.map dmK)=[2] by decide+kernel]at this
theorem adU(a b c:Q)(h:Hp):fO 3 [D.str [],D.str []] [(0,.agg (qT a)),(1,.agg (qT b)),(2,.agg (qT c))] h=some (prC [a,b,c],h):=rfl
theorem MG:CP Y F.cM [] (tuV p5 mtC mtW mtG):=by
 refine ta ?_;have q0:=vY (n:=0) (d:=1) af af af af af;have q1:=vY (n:=1) (d:=1) af af af af af;have q2:=vY (n:=1) (d:=4) af af af af af;rw[show wH 0 1=(0,1) by decide+kernel]at q0
 rw[show wH 1 1=(1,1) by decide+kernel]at q1;rw[show wH 1 4=(1,4) by decide+kernel]at q2;have l3:=fun h=>adU (1,1) (0,1) (0,1) h
 have l4:=fun h=>adU (1,1) (0,1) (1,4) h
 simp only[qT]at q0 q1 q2 l3 l4;simp only[cM];simp(disch:=try exact ac);refine cd q0 ?_;simp(disch:=try exact ac);refine cd q1 ?_;simp(disch:=try exact ac)[li3,Qs,XP,l3,l4];refine cds q2 ?_;simp(disch:=try exact ac)[li3,Qs,XP,l3,l4];exact⟨_,rfl⟩
theorem yb{n d:Int}{a b:LuQ}(hd:d≠0)(h1 : -9223372036854775808<n)(h2:n<9223372036854775808)(h3 : -9223372036854775808<d)(h4:d<9223372036854775808)(ha:itoa (wH n d).1=a)(hb:ah (wH n d).2=b):CP Y F.aH [I n,I d] (.agg [S a,S b]):=by have:=vY hd h1 h2 h3 h4;simp only[qT,ha,hb]at this;exact this
theorem MM:CP Y F.dP [] (B true):=by
 refine vg ?_;have q1:CP Y F.aH [I 1,I 1] (.agg [S [49],S [49]]):=yb af af af af af aF aF;have q2:CP Y F.aH [I 2,I 1] (.agg [S [50],S [49]]):=yb af af af af af aF aF
 have q3:CP Y F.aH [I (-1),I 1] (.agg [S [45,49],S [49]]):=yb af af af af af aF aF;have q4:CP Y F.aH [I (-1),I 4] (.agg [S [45,49],S [52]]):=yb af af af af af aF aF
 have q5:CP Y F.aH [I (-2),I 1] (.agg [S [45,50],S [49]]):=yb af af af af af aF aF;have mt:=MG;have c1:=kOf;have c2:=Qy;have c3:=ad9;have tv:tuV p5 mtC mtW mtG=.agg [lst di p5,mat mtC,mat mtW,lst szD mtG]:=rfl;have i1:itoa (-1)=[45,49]:=aF;have i2:itoa 1=[49]:=aF
 have i3:itoa (-2)=[45,50]:=aF;have n1:ah 1=[49]:=aF;have n4:ah 4=[52]:=aF;have x0:∀h:Hp,ixV h 2 (szV [(-1,1),(1,1),(-1,4)]) (I 0)=some (.dptr (prC [(-1,1),(1,1),(-1,4)]) 0):=fun h=>rfl
 have x1:∀h:Hp,ixV h 2 (szV [(-1,1),(1,1),(-1,4)]) (I 1)=some (.dptr (prC [(-1,1),(1,1),(-1,4)]) 2):=fun h=>rfl
 have x2:∀h:Hp,ixV h 2 (szV [(-1,1),(1,1),(-1,4)]) (I 2)=some (.dptr (prC [(-1,1),(1,1),(-1,4)]) 4):=fun h=>rfl
 have y0:∀h:Hp,ldA h 2 (.dptr (prC [(-1,1),(1,1),(-1,4)]) 0)=some (.agg [S [45,49],S [49]]):=fun h=>by rw[<-i1,<-n1];rfl
 have y1:∀h:Hp,ldA h 2 (.dptr (prC [(-1,1),(1,1),(-1,4)]) 2)=some (.agg [S [49],S [49]]):=fun h=>by
  have:ldA h 2 (.dptr (prC [(-1,1),(1,1),(-1,4)]) 2)=some (.agg [S (itoa 1),S (ah 1)]):=rfl;rw[this,i2,n1]
 have y2:∀h:Hp,ldA h 2 (.dptr (prC [(-1,1),(1,1),(-1,4)]) 4)=some (.agg [S [45,49],S [52]]):=fun h=>by rw[<-i1,<-n4];rfl
 have x3:∀h:Hp,ixV h 2 (szV [(-2,1),(2,1),(-1,2)]) (I 0)=some (.dptr (prC [(-2,1),(2,1),(-1,2)]) 0):=fun h=>rfl
 have y3:∀h:Hp,ldA h 2 (.dptr (prC [(-2,1),(2,1),(-1,2)]) 0)=some (.agg [S [45,50],S [49]]):=fun h=>by rw[<-i3,<-n1];rfl
 have z1:aW (szV [(-1,1),(1,1),(-1,4)])=some (I 3):=rfl;have z2:aW (szV [(-2,1),(2,1),(-1,2)])=some (I 3):=rfl;have be:∀a b:LuQ,biA [.str [],.str []] .eql (.agg [S a,S b]) (.agg [S a,S b])=some (B true):=fun a b=>by rw[Pb];simp
 generalize hA:szV [(-1,1),(1,1),(-1,4)]=A at *;generalize hB:szV [(-2,1),(2,1),(-1,2)]=B' at *;generalize prC [(-1,1),(1,1),(-1,4)]=PA at *;generalize prC [(-2,1),(2,1),(-1,2)]=PB at *
 have lt:∀h:Hp,fO 3 [nPQ,.str [],.str []] [(0,.agg [.d (.sl 3 [.int .i64 (-1),.int .i64 1,.int .i64 0]),S [49],S [49]]),(1,.agg [.d (.sl 3 [.int .i64 1,.int .i64 1,.int .i64 (-1)]),S [50],S [49]]),(2,.agg [.d (.sl 3 [.int .i64 (-2),.int .i64 0,.int .i64 1]),S [49],S [49]])] h=some (kTs.flatMap tgD,h):=fun h=>rfl
 have t0:∀h:Hp,ixV h 3 (.d (.sl 3 (kTs.flatMap tgD))) (I 0)=some (.dptr (kTs.flatMap tgD) 0):=fun h=>rfl
 have t1:∀h:Hp,ldA h 3 (.dptr (kTs.flatMap tgD) 0)=some (.agg [lst di kT0.iv,S kT0.num,S kT0.den]):=fun h=>rfl
 have tg:V.d (.sl 3 (kTs.flatMap tgD))=tgs kTs:=rfl;simp only[dP];simp(disch:=try exact ac)[li3];refine cd q1 ?_;simp(disch:=try exact ac)[li3];refine cd q2 ?_;simp(disch:=try exact ac)[li3];refine cd q1 ?_;simp(disch:=try exact ac)[lt];refine cd mt ?_;simp(disch:=try exact ac)[t0,t1]
 have st:∀h:Hp,bg h (tuV p5 mtC mtW mtG)=some (tuV p5 mtC mtW mtG,h):=fun h=>rfl
 have sT:∀h:Hp,bg h (.d (.sl 3 (kTs.flatMap tgD)))=some (tgs kTs,h):=fun h=>rfl
 have sK:∀h:Hp,bg h (.agg [lst di kT0.iv,S kT0.num,S kT0.den])=some (.agg [lst di kT0.iv,S kT0.num,S kT0.den],h):=fun h=>rfl
 have w0:∀h:Hp,ixV h 1 (lst di [1]) (I 0)=some (.dptr ([1].map di) 0):=fun h=>rfl
 have w1:∀h:Hp,ld1 h (.dptr (([1]:LiQ).map di) 0)=some (I 1):=fun h=>rfl
 have w2:∀h:Hp,ixV h 1 (lst di [2]) (I 0)=some (.dptr ([2].map di) 0):=fun h=>rfl
 have w3:∀h:Hp,ld1 h (.dptr (([2]:LiQ).map di) 0)=some (I 2):=fun h=>rfl
 have w4:aW (lst di [1])=some (I 1):=rfl;have w5:aW (lst di [2])=some (I 1):=rfl;refine cdz (by simp only[aA,st,sK];rfl) c1 ?_;simp(disch:=try exact ac);refine cd mt ?_;simp(disch:=try exact ac);refine cdz (by simp only[aA,st,sT];rfl) c2 ?_;simp(disch:=try exact ac);refine cd mt ?_
 simp(disch:=try exact ac);refine cdz (by simp only[aA,st,sT];rfl) c3 ?_;simp(disch:=try exact ac)[z1,x0,y0];refine cd q3 ?_;simp(disch:=try exact ac)[be,x1,y1];refine cd q1 ?_;simp(disch:=try exact ac)[be,x2,y2];refine cd q4 ?_;simp(disch:=try exact ac)[be,z2,x3,y3];refine cd q5 ?_
 simp(disch:=try exact ac)[be,w0,w1,w2,w3,w4,w5]
theorem aaF{l:List Tg}(h:tB l=true):l.length<=62∧∀t∈l,TgS t:=by simp only[tB,Z8,Ye,decide_eq_true_eq]at h;refine⟨aa,fun t ht=>?_⟩;have:=Z2.1 h.2 t ht;simp only[Bp,Z8,decide_eq_true_eq]at this;exact⟨aa,aa,aa⟩
theorem Ku{p:LiQ}{a b:List Tg}:CP Y F.cY [lst di p,tgs a,tgs b] (B true):=by
 refine qF ?_;have kn:=MM;have l1:aW (lst di p)=some (I p.length):=rfl;have fa:=KO a;have fb:=KO b;simp only[cY];simp(disch:=try exact ac);refine cd kn ?_;by_cases g1:p.length<=8
 .have g1':¬(p.length:Int)>8:=aa;simp(disch:=try exact ac)[l1,g1'];refine cd fa ?_ (by rfl);cases ha:tB a with
  | false=>
   simp(disch:=try exact ac);refine cd kn ?_;exact cx rfl
  | true=>
   simp(disch:=try exact ac);refine cd fb ?_ (by rfl);cases hb:tB b with
   | false=>
    simp(disch:=try exact ac);refine cd kn ?_;exact cx rfl
   | true=>
    obtain⟨la,sa⟩:=aaF ha;obtain⟨lb,sb⟩:=aaF hb;have c1:=Ed (p:=p) (l:=a) aa aa sa;have c2:=Kx (p:=p) (l:=a) aa aa sa;have c3:=Ec (l:=a) (l':=b) aa sa sb;have c4:=Kv (l:=a) (l':=b) aa sa sb;have c5:=Ec (l:=a) (l':=a) aa sa sa;rw[show decide (a=a)=true by simp]at c5
    simp(disch:=try exact ac);refine cd c1 ?_ (by rfl);simp(disch:=try exact ac);refine cd c2 ?_ (by rfl);simp(disch:=try exact ac);refine cd c3 ?_ (by rfl);simp(disch:=try exact ac);refine cd c4 ?_ (by rfl);have bb:biB .eql (B (decide (a=b))) (B (decide (a=b)))=some (B true):=by cases decide (a=b)<;>rfl
    simp(disch:=try exact ac)[bb];refine cd c5 ?_ (by rfl);exact cx rfl
 .have g1':(p.length:Int)>8:=aa;simp(disch:=try exact ac)[l1,g1'];refine cd kn ?_;exact cx rfl
def ad8(j:Nat):IntKind:=if 6<=j∧j<51 then .i8 else if 73<=j∧j<119 then .i8 else .u8
structure ahi(f:Nat->Int):Prop where
 u:∀j<120,ad8 j=.u8->0<=f j∧f j<=255
 s:∀j<120,ad8 j=.i8->-128<=f j∧f j<=127
mutual
def WD(w:World):D->Value->Prop
 |.int k n,v=>v=.int k n
 |.bool b,v=>v=.bool b
 |.str s,v=>v=.string ⟨⟨s⟩⟩
 |.pl u,v=>v=u∧plain u=true∧okCell u=true
 | .sl len cells,v=>(len=0∧cells=[]∧(v=.slice none 0 0∨∃a,v=.slice (some a) 0 0)) ∨
   ∃ c o cap n cs e fz,v=.slice (some ⟨c,o,none⟩) len cap∧len<=cap∧0<n∧cells.length=len*n ∧
    w.heap[c]?=some (.cells cs e fz)∧o+cells.length<=cs.size∧WDs w cells ((cs.toList.drop o).take cells.length)
def WDs(w:World):LdQ->LvQ->Prop
 |[],l=>l=[]
 |x::xs,l=>∃v vs,l=v::vs∧WD w x v∧WDs w xs vs
end
structure Ly(w:World)(φ:bO)(F:Nat->Prop)(H:AH):Prop where
 rel:bq X φ H w
 wf:WF H
 fr:∀c,F c->c<H.n∧∃x,H.get c=some x∧x.st=1
 ro:∀c x,H.get c=some x->x.wr=false
 top:∀b p,φ b=some p->b<H.n
 pg:∃p,φ nX=some p
structure tJ(φ:bO)(F:Nat->Prop)(H:AH)(φ':bO)(F':Nat->Prop)(H':AH):Prop where
 n:H.n<=H'.n
 le:PLe φ φ'
 fm:∀c,F c->F' c
 keep:∀c,c<H.n->H'.get c=H.get c
theorem tJ.refl(φ:bO)(F:Nat->Prop)(H:AH):tJ φ F H φ F H:=⟨Z7 _,PLe.refl _,fun _ h=>h,fun _ _=>rfl⟩
theorem tJ.trans{φ φ1 φ2:bO}{F F1 F2:Nat->Prop}{H H1 H2:AH}(a:tJ φ F H φ1 F1 H1)(b:tJ φ1 F1 H1 φ2 F2 H2):tJ φ F H φ2 F2 H2:=
 ⟨Zu a.n b.n,a.le.trans b.le,fun c h=>b.fm c (a.fm c h),fun c h=>by rw[b.keep c (Z3 h a.n),a.keep c h]⟩
theorem tJ.leF{φ φ':bO}{F F':Nat->Prop}{H H':AH}{w:World}(L:Ly w φ F H)(a:tJ φ F H φ' F' H'):LeF F F' H H':=
 ⟨a.fm,fun c hc=>a.keep c (L.fr c hc).1,fun c x hx h0=>⟨x,by grind[keep,AH.get_lt],h0⟩⟩
def roB(b n:Nat)(cells:LvQ):Blk:={cells,st:=1,wr:=false,fam:=b,start:=0,shared:=false,exact:=true,esz:=n,ver:=1}
theorem Ly.push{w:World}{φ:bO}{F:Nat->Prop}{H:AH}(L:Ly w φ F H){c o n:Nat}{us vs:LvQ}{cs:Array Value}{e:TypeId}{fz:Nat×Nat}(hh:w.heap[c]?=some (.cells cs e fz))
  (hlen:us.length=vs.length) (ho:o+us.length<=cs.size) (hvs:vs=(cs.toList.drop o).take us.length) (hr:au φ us vs) :
  Ly w (xF φ H.n ⟨c,o,us.length,n,cs.size,true⟩) (fun x=>F x∨x=H.n) (H.push (roB H.n n us)) ∧
  tJ φ F H (xF φ H.n ⟨c,o,us.length,n,cs.size,true⟩) (fun x=>F x∨x=H.n) (H.push (roB H.n n us)):=by
 have hnone:φ H.n=none:=by
  cases hq:φ H.n with
  |none=>rfl
  |some p=>have:=L.top _ p hq;omega
 have hle:PLe φ (xF φ H.n ⟨c,o,us.length,n,cs.size,true⟩):=PLe.add hnone;have hn:(H.push (roB H.n n us)).n=H.n+1:=rfl;have old:∀b,b<H.n->(H.push (roB H.n n us)).get b=H.get b:=fun b hb=>AH.get_push aa
 have new:(H.push (roB H.n n us)).get H.n=some (roB H.n n us):=AH.get_push_new H _
 have ro:∀b x,(H.push (roB H.n n us)).get b=some x->x.wr=false:=fun b x hx=>by
  rcases Zl b H.n with h|h
  .grind[ro]
  .have hb:b=H.n:=by have:=AH.get_lt hx;omega
   subst hb;rw[new]at hx;cases hx;rfl
 refine ⟨⟨⟨fun g hg=>?_,fun b p hp=>?_,fun b p x i v hp hx h1 hv=>?_,fun b p x i hp hx h1 hi=>?_,fun b b' p p' x x' _ _ hx hx' _ _ _ _=>.inl ⟨ro b x hx,ro b' x' hx'⟩⟩,?_,fun b hb=>?_,ro,fun b p hp=>?_,L.pg.imp fun p hp=>hle _ p hp⟩,
  ⟨aa,hle,fun x h=>.inl h,old⟩⟩
 .obtain⟨p,hp,h1⟩:=L.rel.glob g hg;exact⟨p,hle g p hp,h1⟩
 .by_cases hb:b=H.n
  .subst hb;rw[dL]at hp;cases hp;exact⟨_,cs,e,fz,new,by simp[roB],rfl,rfl,rfl,hh,rfl,ho⟩
  .rw[fC hb]at hp;obtain⟨x,r⟩:=L.rel.dom b p hp
   grind[top]
 .by_cases hb:b=H.n
  .subst hb;rw[dL]at hp;cases hp;rw[new]at hx;cases hx;obtain⟨v',h1,h2⟩:=hr.at (i:=i) hv
   grind[am.mono,cell_of_heap]
  .rw[fC hb]at hp;rw[old b (L.top b p hp)]at hx;obtain⟨v',h2,h3⟩:=L.rel.cell b p x i v hp hx h1 hv
   grind[am.mono]
 .grind
 .refine⟨by simp[AH.push,L.wf.len],fun b x hx=>?_⟩;rcases Zl b H.n with h|h
  .rw[old b h]at hx;exact L.wf.fam b x hx
  .have hb:b=H.n:=by have:=AH.get_lt hx;omega
   subst hb;rw[new]at hx;cases hx;trivial
 .rcases hb with hb|rfl
  .obtain⟨h1,x,h2,h3⟩:=L.fr b hb;exact⟨aa,x,by grind,h3⟩
  .exact⟨aa,_,new,rfl⟩
 .by_cases hb:b=H.n
  .omega
  .rw[fC hb]at hp;have:=L.top b p hp;omega
mutual
theorem lay{w:World}:∀(d:D)(v:Value){φ:bO}{F:Nat->Prop}{H:AH},Ly w φ F H->WD w d v ->
  ∃φ' F' H' u,Ly w φ' F' H'∧tJ φ F H φ' F' H'∧am φ' u v∧RD F' H' d u
 |.int k n,v,φ,F,H,L,h=>⟨φ,F,H,v,L,tJ.refl ..,by simp only[WD]at h;subst h;rfl,h⟩
 |.bool b,v,φ,F,H,L,h=>⟨φ,F,H,v,L,tJ.refl ..,by simp only[WD]at h;subst h;rfl,h⟩
 |.str s,v,φ,F,H,L,h=>⟨φ,F,H,v,L,tJ.refl ..,by simp only[WD]at h;subst h;rfl,h⟩
 |.pl u,v,φ,F,H,L,h=>⟨φ,F,H,v,L,tJ.refl ..,by grind[WD,am.of_plain],h⟩
 | .sl len cells,v,φ,F,H,L,h=>by
  simp only[WD]at h;rcases h with⟨rfl,rfl,rfl|⟨a,rfl⟩⟩|⟨c,o,cap,n,cs,e,fz,rfl,hlc,hn,hlen,hh,ho,hds⟩
  .exact⟨φ,F,H,.slice none 0 0,L,tJ.refl ..,rfl,.inl ⟨rfl,rfl,.inl rfl⟩⟩
  .obtain⟨p,hp⟩:=L.pg;obtain⟨x,_,_,_,hx,h0,_⟩:=L.rel.dom _ _ hp;exact⟨φ,F,H,.slice (some ⟨nX,0,none⟩) 0 0,L,tJ.refl ..,⟨a,0,rfl,.inr ⟨rfl,rfl,rfl,rfl,p,hp⟩⟩,.inl ⟨rfl,rfl,.inr ⟨_,_,_,rfl,x,hx,h0⟩⟩⟩
  .obtain⟨φ1,F1,H1,us,L1,E1,r1,d1⟩:=lays cells _ L hds;have hl:us.length=cells.length:=by have:=d1.length;omega
   obtain⟨L2,E2⟩:=L1.push (us:=us) (n:=n) (o:=o) hh (by grind) aa (by rw[hl]) r1;refine⟨_,_,_,.slice (some ⟨H1.n,0,none⟩) len cap,L2,E1.trans E2,?_,?_⟩
   .refine⟨⟨c,o,none⟩,cap,rfl,.inl ⟨rfl,rfl,_,dL ..,rfl,rfl,.inl rfl⟩⟩
   .have new:(H1.push (roB H1.n n us)).get H1.n=some (roB H1.n n us):=AH.get_push_new H1 _;by_cases h0:len=0
    .subst h0;exact .inl ⟨rfl,Zq aa,.inr ⟨_,_,_,rfl,_,new,by simp[roB]⟩⟩
    .refine .inr ⟨H1.n,0,cap,us,n,rfl,aa,hlc,hn,hlen,.inr rfl,?_,RDs.mono (E2.leF L1) _ _ d1,_,new,.inl rfl⟩;rw[km new rfl (by show 0+cells.length<=us.length;omega)]
     show some ((us.drop 0).take cells.length)=_
     grind
theorem lays{w:World}:∀(ds:LdQ)(vs:LvQ){φ:bO}{F:Nat->Prop}{H:AH},Ly w φ F H->WDs w ds vs ->
  ∃φ' F' H' us,Ly w φ' F' H'∧tJ φ F H φ' F' H'∧au φ' us vs∧RDs F' H' ds us
 |[],vs,φ,F,H,L,h=>⟨φ,F,H,[],L,tJ.refl ..,by trivial,rfl⟩
 | d::ds,vs,φ,F,H,L,h=>by
  simp only[WDs]at h;obtain⟨v,vs,rfl,h1,h2⟩:=h;obtain⟨φ1,F1,H1,u,L1,E1,r1,d1⟩:=lay d v L h1;obtain⟨φ2,F2,H2,us,L2,E2,r2,d2⟩:=lays ds vs L1 h2;exact⟨φ2,F2,H2,u::us,L2,E1.trans E2,⟨v,vs,rfl,am.mono E2.le u v r1,r2⟩,⟨u,us,rfl,RD.mono (E2.leF L1) _ _ d1,d2⟩⟩
end
def WQ:Nat->List Blk
 |0=>[]
 |n+1=>qk::WQ n
theorem JO:∀(n i:Nat)(x:Blk),(WQ n)[i]?=some x->x=qk
 |0,_,_,h=>by trivial
 |n+1,0,x,h=>by grind[WQ]
 |n+1,i+1,x,h=>JO n i x (by trivial)
def zB:LvQ:=[.int .u64 1,.int .u64 10,.int .u64 100,.int .u64 1000,.int .u64 10000,.int .u64 100000,.int .u64 1000000,.int .u64 10000000,.int .u64 100000000,.int .u64 1000000000,.int .u64 10000000000,.int .u64 100000000000,
 .int .u64 1000000000000,.int .u64 10000000000000,.int .u64 100000000000000,.int .u64 1000000000000000,.int .u64 10000000000000000,.int .u64 100000000000000000,.int .u64 1000000000000000000,.int .u64 10000000000000000000]
def Pm(w:World):Prop:=∃cs e fz,w.heap[nX]?=some (.cells cs e fz)∧20<=cs.size∧zB=cs.toList.take 20
def H00:AH:=⟨nX,WQ nX⟩
theorem aaj{b:Nat}{x:Blk}(h:H00.get b=some x):x=qk:=by
 unfold AH.get at h;split at h
 .exact JO _ _ _ h
 .trivial
theorem start{w:World}(hp:Pm w):∃φ F H,Ly w φ F H∧pz Y F H:=by
 obtain⟨cs,e,fz,hh,hsz,hcs⟩:=hp
 let φ:bO:=fun b=>if b=nX then some ⟨nX,0,20,1,cs.size,true⟩else none
 let H:AH:=H00.push (roB nX 1 zB)
 have hn:H.n=nX+1:=rfl;have new:H.get nX=some (roB nX 1 zB):=AH.get_push_new H00 _
 have old:∀{b x},b≠nX->H.get b=some x->x=qk:=fun{b x} hb hx=>by
  grind[H00,AH.get_push,aaj]
 have hφ:∀{b p},φ b=some p->b=nX∧p=⟨nX,0,20,1,cs.size,true⟩:=fun{b p} h=>by
  grind
 have ro:∀b x,H.get b=some x->x.wr=false:=fun b x hx=>by
  by_cases hb:b=nX
  .subst hb;rw[new]at hx;cases hx;rfl
  .rw[old hb hx];rfl
 have L:Ly w φ (· = nX) H:=by
  refine⟨⟨fun g hg=>?_,fun b p hp=>?_,fun b p x i v hp hx h1 hv=>?_,fun b p x i hp hx h1 hi=>?_,fun b b' p p' x x' _ _ hx hx' _ _ _ _=>.inl ⟨ro b x hx,ro b' x' hx'⟩⟩,?_,?_,ro,fun b p hp=>?_,⟨⟨nX,0,20,1,cs.size,true⟩,by rfl⟩⟩
  .have:g=nX:=by simpa[X]using hg
   exact⟨⟨nX,0,20,1,cs.size,true⟩,by grind,this.symm,rfl⟩
  .grind[roB]
  .obtain⟨rfl,rfl⟩:=hφ hp;rw[new]at hx;cases hx;have hv':zB[i]?=some v:=hv;refine⟨v,?_,?_⟩
   .grind[cell_of_heap]
   .have hm:v∈zB:=Xy hv';have:zB.all plain=true:=rfl
    grind[am.of_plain]
  .grind
  .refine⟨by rfl,fun b x hx=>?_⟩;by_cases hb:b=nX
   .subst hb;rw[new]at hx;cases hx;trivial
   .rw[old hb hx];exact Yr _
  .rintro c rfl;exact⟨aa,_,new,rfl⟩
  .grind
 refine⟨φ,_,H,L,fun g cs' hg=>?_⟩
 have hgp:g=nX∧cs'=JL:=by
  simp only[Y]at hg;split at hg
  .simp_all
  .cases hg
 obtain⟨rfl,rfl⟩:=hgp;refine⟨X0 _,rfl,⟨_,new,rfl,af⟩,zB,?_,?_⟩
 .rfl
 simp[JL,zB,RDs,RD]
open Go.ChangeShapes Go.WideShapes Go.ChangeAt Go.RowKit
variable{HH:Type}{enc:TypeId×Value->HH}{P:Program}{w:World}{base:Nat}{held:Bool}
theorem Lg{a:Addr}{v:Value}(h:w.cell? a=some v):∃cs e fz,w.heap[a.block]?=some (.cells cs e fz)∧a.spot=none∧cs[a.off]?=some v:=by
 unfold World.cell? at h;split at h
 .rename_i c e fz hc;split at h
  .cases h
  .rename_i hs;refine⟨c,e,fz,hc,?_,h⟩;cases hq:a.spot with
   |none=>rfl
   |some s=>rw[hq]at hs;simp at hs
 .cases h
theorem addr_add(a:Addr)(hs:a.spot=none)(i:Nat):a.add i=⟨a.block,a.off+i,none⟩:=by
 unfold Addr.add;split
 .rename_i h;subst h;cases a;simp at hs ⊢;exact hs
 .rfl
theorem GK{a:Addr}(h:∀i v,vs[i]?=some v->w.cell? (a.add i)=some v)(hp:0<vs.length):
  ∃cs e fz,w.heap[a.block]?=some (.cells cs e fz)∧a.spot=none∧a.off+vs.length<=cs.size∧vs=(cs.toList.drop a.off).take vs.length:=by
 obtain⟨v0,h0⟩:∃v,vs[0]?=some v:=⟨vs[0],by simp[hp]⟩;obtain⟨cs,e,fz,hc,hs,_⟩:=Lg (h 0 v0 h0);have ha0:a.add 0=a:=by unfold Addr.add;simp
 rw[ha0]at hc hs
 have at_:∀i v,vs[i]?=some v->cs[a.off+i]?=some v:=fun i v hv=>by
  obtain⟨cs',e',fz',hc',_,hv'⟩:=Lg (h i v hv);rw[addr_add a hs]at hc' hv';simp only at hc' hv';rw[hc]at hc';cases hc';exact hv'
 have hle:a.off+vs.length<=cs.size:=by
  have hl:=at_ (vs.length-1) vs[vs.length-1] (by rw[List.getElem?_eq_getElem]);have:=(Array.getElem?_eq_some_iff.1 hl).1;omega
 refine⟨cs,e,fz,hc,hs,hle,?_⟩;apply Yh;intro i;by_cases hi:i<vs.length
 .rw[List.getElem?_take_of_lt hi,List.getElem?_drop];have:=at_ i vs[i] (by rw[List.getElem?_eq_getElem hi]);rw[List.getElem?_eq_getElem hi];simpa using this.symm
 .rw[List.getElem?_eq_none aa,List.getElem?_eq_none aG]
inductive Sh where
 |int (k:IntKind)
 |bool
 |str
 |sl (e:Sh)
 |ar (n:Nat) (e:Sh)
 |st (fs:List Sh)
mutual
/-- A type has a shape. -/
def Typ(P:Program):Sh->TypeId->Prop
 |.int k,t=>P.underlying t=some (.int k)∧P.cellsOf t=1
 |.bool,t=>P.underlying t=some .bool∧P.cellsOf t=1
 |.str,t=>P.underlying t=some .string∧P.cellsOf t=1
 |.sl e,t=>∃u,P.underlying t=some (.slice u)∧P.cellsOf t=1∧0<P.cellsOf u∧Typ P e u
 |.ar n e,t=>∃u,P.underlying t=some (.array n u)∧P.cellsOf t=n*P.cellsOf u∧Typ P e u
 |.st fs,t=>∃l:List Field,P.underlying t=some (.struct l.toArray)∧Rf P fs l 0 (P.cellsOf t)
def Rf(P:Program):List Sh->List Field->Nat->Nat->Prop
 |[],l,o,n=>l=[]∧o=n
 |s::ss,l,o,n=>∃f r,l=f::r∧f.offset=o∧Typ P s f.type∧Rf P ss r (o+P.cellsOf f.type) n
end
mutual
/-- Cells of a shape. -/
def Dat:Sh->LdQ->Prop
 |.int k,ds=>∃n,ds=[.int k n]∧(Lit.int k n).wf=true
 |.bool,ds=>∃b,ds=[.bool b]
 |.str,ds=>∃s:LuQ,ds=[.str s]∧s.length<=maxLen
 |.sl e,ds=>∃xs:List LdQ,ds=[.sl xs.length xs.flatten]∧∀x∈xs,Dat e x
 |.ar n e,ds=>∃xs:List LdQ,ds=xs.flatten∧xs.length=n∧∀x∈xs,Dat e x
 |.st ss,ds=>acz ss ds
def acz:List Sh->LdQ->Prop
 |[],ds=>ds=[]
 |s::ss,ds=>∃a b,ds=a++b∧Dat s a∧acz ss b
end
theorem WDs.append:∀{a b:LdQ}{u v:LvQ},WDs w a u->WDs w b v->WDs w (a++b) (u++v)
 |[],b,u,v,h,h2=>by grind[WDs]
 | x::a,b,u,v,h,h2=>by
  simp only[WDs]at h;obtain⟨y,u,rfl,h0,h1⟩:=h;exact⟨y,u++v,rfl,h0,h1.append h2⟩
theorem WDs.len:∀{a:LdQ}{u:LvQ},WDs w a u->a.length=u.length
 |[],u,h=>by grind[WDs]
 | x::a,u,h=>by
  simp only[WDs]at h;obtain⟨y,u,rfl,_,h1⟩:=h;simp[h1.len]
theorem tT{α:Type}(C:Nat->List α)(n:Nat):∀m,(∀i,i<m->(C i).length=n)->((List.range m).flatMap C).length=m*n∧∀i j,i<m->j<n->((List.range m).flatMap C)[i*n+j]?=(C i)[j]?
 |0,_=>⟨ae,fun i j hi=>by omega⟩
 | m+1,h=>by
  obtain⟨h1,h2⟩:=tT C n m fun i hi=>h i aa
  have e:(List.range (m+1)).flatMap C=(List.range m).flatMap C++C m:=by simp[List.range_succ]
  rw[e];refine⟨by rw[List.length_append,h1,h m aa,X7],fun i j hi hj=>?_⟩;by_cases him:i<m
  .rw[List.getElem?_append_left,h2 i j him hj];rw[h1]
   calc i*n+j<i*n+n:=aa
    _=(i+1)*n:=by rw[X7]
    _<=m*n:=Zy n him
  .obtain rfl:i=m:=aa
   simp_all
theorem yZ(C:Nat->LvQ)(X:Nat->LdQ):∀m,(∀i,i<m->WDs w (X i) (C i))->WDs w ((List.range m).flatMap X) ((List.range m).flatMap C)
 |0,_=>rfl
 | m+1,h=>by
  simp only[List.range_succ,Yi,List.flatMap_cons,List.flatMap_nil,Zo];exact(yZ C X m fun i hi=>h i aa).append (h m aa)
theorem Pq{a:Addr}{len cap:Nat}{ds:LdQ}(hn:0<n)(hl:len<=cap)(hlen:vs.length=cap*n)(h:∀i v,vs[i]?=some v->w.cell? (a.add i)=some v)(hd:WDs w ds (vs.take (len*n)))(hds:ds.length=len*n):WD w (.sl len ds) (.slice (some a) len cap):=by
 simp only[WD];by_cases h0:cap=0
 .have e:len=0:=aa
  simp_all
 .have hpos:0<vs.length:=by rw[hlen];exact Yk aa hn
  have hle2:len*n<=vs.length:=by rw[hlen];exact Zy n hl
  obtain⟨cs,e,fz,hc,hs,hle,hvs⟩:=GK h hpos;refine .inr ⟨a.block,a.off,cap,n,cs,e,fz,?_,hl,hn,hds,hc,aa,?_⟩
  .cases a;grind
  grind
def Opn(enc:TypeId×Value->HH)(P:Program)(w:World)(base:Nat)(held:Bool)(s:Sh):Prop:=
 ∀(t:TypeId)(fuel:Nat)(cs:LvQ)(x:DataW HH×List MemPlace),Typ P s t->DataW.trod enc P w base (fun _=>true) held fuel t cs=some x->cs.length=P.cellsOf t∧∃ds,Dat s ds∧WDs w ds cs
theorem Ik[Inhabited α]{p:Nat->α->Prop}(h:∀i,i<m->∃x,p i x):∃f:Nat->α,∀i,i<m->p i (f i):=
 ⟨fun i=>if hi:i<m then Classical.choose (h i hi)else default,fun i hi=>by
  grind⟩
theorem abu{s:Sh}(ih:Opn enc P w base held s):Opn enc P w base held (.sl s):=by
 intro t fuel cs x ht h;simp only[Typ]at ht;obtain⟨u,hu,hc1,hcu,hs⟩:=ht;rcases Deep.open_slice hu h with⟨rfl,_⟩|⟨a,len,cap,m,n,Dd,Pl,rfl,_,hlc,_,hm,_,hx⟩
 .exact⟨by grind,[.sl 0 []],⟨[],rfl,fun x hx=>by cases hx⟩,_,_,rfl,.inl ⟨rfl,rfl,.inl rfl⟩,rfl⟩
 .simp only[if_true]at hm;subst hm;obtain⟨C,hC⟩:=Ik (α:=LvQ) hx
  obtain ⟨E,hE⟩:=Ik (α:=LdQ) (p:=fun i e=>Dat s e∧WDs w e (C i)) (m:=m) fun i hi=>by
   obtain⟨_,ds,h1,h2⟩:=ih _ _ _ _ hs (hC i hi).2
   grind
  have hCl:∀i,i<m->(C i).length=P.cellsOf u:=fun i hi=>(World.cells?_some (hC i hi).1).2.1
  obtain⟨hl1,hl2⟩:=tT C (P.cellsOf u) m hCl;have hEl:∀i,i<m->(E i).length=P.cellsOf u:=fun i hi=>by rw[(hE i hi).2.len,hCl i hi]
  refine⟨by grind,[.sl ((List.range len).map E).length ((List.range len).map E).flatten],⟨_,rfl,fun x hx=>?_⟩,_,_,rfl,?_,rfl⟩
  .simp only[Zh,Xs]at hx;obtain⟨i,hi,rfl⟩:=hx;exact(hE i aa).1
  .rw[List.length_map,List.length_range,<-List.flatMap_def];refine Pq (vs:=(List.range m).flatMap C) hcu hlc hl1 (fun i v hv=>?_) ?_ (tT E (P.cellsOf u) len fun i hi=>hEl i aa).1
   .have hi:=(List.getElem?_eq_some_iff.1 hv).1;rw[hl1]at hi;have hdm:=X5 i (P.cellsOf u);have hmod:=Y1 i hcu;have hdiv:i/P.cellsOf u<m:=Wv (by grind);have e:i=i/P.cellsOf u*P.cellsOf u+i%P.cellsOf u:=by rw[Zr];exact hdm.symm
    have:=(World.cells?_some (hC _ hdiv).1).2.2 (i%P.cellsOf u) hmod
    grind[Addr.add_add]
   ·have e:((List.range m).flatMap C).take (len*P.cellsOf u)=(List.range len).flatMap C:=by
     have e1:List.range m=List.range len++(List.range (m-len)).map (len + ·):=by
      conv=>lhs;rw[show m=len+(m-len) by omega,List.range_add]
     rw[e1,Yi,Ya];exact(tT C (P.cellsOf u) len fun i hi=>hCl i aa).1
    rw[e];exact yZ C E len fun i hi=>(hE i aa).2
theorem abv{s:Sh}(ih:Opn enc P w base held s):Opn enc P w base held (.ar n s):=by
 intro t fuel cs x ht h;simp only[Typ]at ht;obtain⟨u,hu,hct,hs⟩:=ht;obtain⟨xs,m,_,_,hl,hxl,hx⟩:=DataW.trod_array hu h
 let C:Nat->LvQ:=fun i=>(cs.drop (i*P.cellsOf u)).take (P.cellsOf u)
 obtain ⟨E,hE⟩:=Ik (α:=LdQ) (p:=fun i e=>Dat s e∧WDs w e (C i)) (m:=n) fun i hi=>by
  have:=hx i hi;rw[List.getElem?_eq_getElem aa]at this;obtain⟨_,ds,h1,h2⟩:=ih _ _ _ _ hs this
  grind
 refine⟨hl,((List.range n).map E).flatten,⟨_,rfl,ae,fun x hx=>?_⟩,?_⟩
 .grind
 .rw[<-List.flatMap_def]
  have e:∀m,m<=n->cs.take (m*P.cellsOf u)=(List.range m).flatMap C:=by
   intro m
   induction m with
   |zero=>simp
   | succ m ihm=>
    intro hm;rw[X7,List.take_add,ihm aa];simp[List.range_succ,C]
  have:=e n (Z7 _);rw[Zz aa]at this
  grind[yZ]
mutual
theorem opn:∀s:Sh,Opn enc P w base held s
 | .int k=>by
  intro t fuel cs x ht h;simp only[Typ]at ht;obtain⟨n,rfl,_,hw⟩:=DataW.trod_int ht.1 h;exact⟨by grind,[.int k n],⟨n,rfl,hw⟩,_,_,rfl,rfl,rfl⟩
 | .bool=>by
  intro t fuel cs x ht h;simp only[Typ]at ht;obtain⟨b,rfl,_⟩:=DataW.trod_bool ht.1 h;exact⟨by grind,[.bool b],⟨b,rfl⟩,_,_,rfl,rfl,rfl⟩
 | .str=>by
  intro t fuel cs x ht h;simp only[Typ]at ht;obtain⟨s,rfl,_,hs⟩:=DataW.trod_string ht.1 h;exact⟨by grind,[.str s.data.toList],⟨_,rfl,by trivial⟩,_,_,rfl,rfl,rfl⟩
 |.sl e=>abu (opn e)
 |.ar n e=>abv (opn e)
 | .st ss=>by
  intro t fuel cs x ht h;simp only[Typ]at ht;obtain⟨l,hu,hl⟩:=ht;obtain⟨xs,m,_,_,hcl,hxl,hx⟩:=DataW.trod_struct hu h;refine⟨hcl,?_⟩
  have:=adD ss (l:=l) (o:=0) (n:=P.cellsOf t) (fuel:=m) (cs:=cs) hl hcl fun f hf=>by
   obtain⟨i,hi⟩:=List.getElem?_of_mem hf;have h1:=hx i f (by grind)
   grind
  trivial
theorem adD:∀(ss:List Sh){l:List Field}{o n fuel:Nat}{cs:LvQ},Rf P ss l o n->cs.length=n ->
  (∀f∈l,∃x,DataW.trod enc P w base (fun _=>true) held fuel f.type ((cs.drop f.offset).take (P.cellsOf f.type))=some x)->∃ds,acz ss ds∧WDs w ds (cs.drop o)
 | [],l,o,n,fuel,cs,ht,hl,h=>by
  simp only[Rf]at ht;refine⟨[],rfl,?_⟩;rw[Zd aa];rfl
 | s::ss,l,o,n,fuel,cs,ht,hl,h=>by
  simp only[Rf]at ht;obtain⟨f,r,rfl,rfl,h1,h2⟩:=ht;obtain⟨x,hx⟩:=h f ae;obtain⟨_,a,ha,wa⟩:=opn s _ _ _ _ h1 hx;obtain⟨b,hb,wb⟩:=adD ss h2 hl fun g hg=>h g (by grind)
  refine⟨a++b,⟨a,b,rfl,ha,hb⟩,?_⟩
  have e:cs.drop f.offset=(cs.drop f.offset).take (P.cellsOf f.type)++cs.drop (f.offset+P.cellsOf f.type):=by
   rw[<-List.drop_drop,Yc]
  grind[WDs.append]
end
inductive Ar where
 |one (x:D)
 |many (xs:LdQ)
def Ar.v:Ar->V
 |.one x=>.d x
 |.many xs=>.agg (xs.map .d)
def WA(w:World):Ar->Value->Prop
 |.one x,v=>WD w x v
 |.many xs,v=>∃ws,v=.agg ⟨ws⟩∧WDs w xs ws
def WAs(w:World):List Ar->LvQ->Prop
 |[],l=>l=[]
 |x::xs,l=>∃v vs,l=v::vs∧WA w x v∧WAs w xs vs
theorem Ss{F1:Nat->Prop}{H1:AH}(φ0:LnQ)(h0:Hp):∀(ds:LdQ)(us:LvQ),RDs F1 H1 ds us->RVs φ0 F1 H1 h0 (ds.map .d) us
 |[],us,h=>by trivial
 | d::ds,us,h=>by
  simp only[RDs]at h;obtain⟨u,us,rfl,h1,h2⟩:=h;exact⟨u,us,rfl,h1,Ss φ0 h0 ds us h2⟩
def RAs(F:Nat->Prop)(H:AH)(rs:List Ar)(us:LvQ):Prop:=∀φ0 h0,RVs φ0 F H h0 (rs.map Ar.v) us
theorem abJ:∀(rs:List Ar)(vs:LvQ){φ:bO}{F:Nat->Prop}{H:AH},Ly w φ F H->WAs w rs vs ->
  ∃φ' F' H' us,Ly w φ' F' H'∧tJ φ F H φ' F' H'∧au φ' us vs∧RAs F' H' rs us
 |[],vs,φ,F,H,L,h=>⟨φ,F,H,[],L,tJ.refl ..,by trivial,fun _ _=>rfl⟩
 | .one x::rs,vs,φ,F,H,L,h=>by
  simp only[WAs,WA]at h;obtain⟨v,vs,rfl,h1,h2⟩:=h;obtain⟨φ1,F1,H1,u,L1,E1,r1,d1⟩:=lay x v L h1;obtain⟨φ2,F2,H2,us,L2,E2,r2,d2⟩:=abJ rs vs L1 h2;exact⟨φ2,F2,H2,u::us,L2,E1.trans E2,⟨v,vs,rfl,am.mono E2.le u v r1,r2⟩,fun φ0 h0=>⟨u,us,rfl,RD.mono (E2.leF L1) _ _ d1,d2 φ0 h0⟩⟩
 | .many xs::rs,vs,φ,F,H,L,h=>by
  simp only[WAs,WA]at h;obtain⟨v,vs,rfl,⟨ws,rfl,h1⟩,h2⟩:=h;obtain⟨φ1,F1,H1,us1,L1,E1,r1,d1⟩:=lays xs ws L h1;obtain⟨φ2,F2,H2,us,L2,E2,r2,d2⟩:=abJ rs vs L1 h2;exact⟨φ2,F2,H2,.agg ⟨us1⟩::us,L2,E1.trans E2,⟨_,vs,rfl,⟨ws,rfl,au.mono E2.le _ _ r1⟩,r2⟩,fun φ0 h0=>⟨_,us,rfl,⟨us1,rfl,Ss φ0 h0 _ _ (RDs.mono (E2.leF L1) _ _ d1)⟩,d2 φ0 h0⟩⟩
theorem Im{f:FuncId}{rs:List Ar}{b:Bool}{w:World}(hc:CP Y f (rs.map Ar.v) (.d (.bool b)))(hw:WAs w rs vs)(hp:Pm w)(h0:∀u,Y.X.orc f u=none:=by exact fun _=>rfl):
  Calls X.P f vs.toArray w fun e w'=>e=.returned (.bool b)∧w'.os=w.os∧w'.output=w.output∧w.heap.size<=w'.heap.size∧∀c,c<w.heap.size->w'.heap[c]?=w.heap[c]?:=by
 obtain⟨φ,F,H,L,g⟩:=start hp;obtain⟨φ1,F1,H1,us,L1,E1,r1,d1⟩:=abJ rs vs L hw;obtain⟨n,wv,H2,F2,hcall,hn,_,_,_,_,_,_,_,hr⟩:=aeO vOk hc F1 H1 us L1.wf L1.fr (g.mono (E1.leF L)) d1
 have hv:wv=.bool b:=by
  have:=hr [] [];simpa only[RV,RD]using this
 subst hv;refine(Lh abx hcall L1.rel (args':=vs.toArray) r1 h0).mono ?_;rintro e w' ⟨φ',v',rfl,h1,h2,h3,h4⟩;have hv':v'=.bool b:=(am.of_plain (.bool b) rfl v').1 h1;subst hv';refine⟨rfl,h3.os,h3.out,h3.size,fun c hc=>h3.frame c hc ?_⟩;rintro⟨b',p,x,_,_,hx,_,hwr⟩
 grind[Ly.ro]
theorem LJ{s:Sh}{v:Value}{x:DataW HH×List MemPlace}(ht:Typ P s t)(hc:P.cellsOf t=1)(h:DataW.trod enc P w base (fun _=>true) held fuel t v.cells.toList=some x)(hv:∀cs,v≠.agg cs):
  ∃d,Dat s [d]∧WA w (.one d) v:=by
 obtain⟨hl,ds,h1,h2⟩:=opn s _ _ _ _ ht h
 have hcl:v.cells.toList=[v]:=by
  cases v<;>first|rfl|grind
 rw[hcl]at h2;have:=h2.len;obtain⟨d,rfl⟩:∃d,ds=[d]:=List.length_eq_one_iff.1 this;simp only[WDs]at h2;obtain⟨v',vs',e,h2,_⟩:=h2;simp only[List.cons.injEq]at e;obtain⟨rfl,_⟩:=e;exact⟨d,h1,h2⟩
theorem K4{s:Sh}{f:α->LdQ}(q:α->Prop)(hs:∀ds,Dat s ds->∃a,ds=f a∧q a)(h:Dat (.sl s) [d]):∃l:List α,d=.sl l.length (l.flatMap f)∧∀a∈l,q a:=by
 simp only[Dat,List.cons.injEq,and_true]at h;obtain⟨xs,rfl,hx⟩:=h
 have:∀xs:List LdQ,(∀x∈xs,Dat s x)->∃l:List α,xs=l.map f∧∀a∈l,q a:=by
  intro xs
  induction xs with
  |nil=>simp
  | cons x xs ih=>
   intro h;obtain⟨n,rfl,hn⟩:=hs x (h x ae);obtain⟨zs,rfl,hz⟩:=ih fun y hy=>h y (by grind)
   exact⟨n::zs,rfl,fun m hm=>by grind⟩
 obtain⟨l,rfl,hl⟩:=this xs hx;exact⟨l,by rw[List.length_map,<-List.flatMap_def],hl⟩
def Pn(W W':World):Prop:=W'.os=W.os∧W'.output=W.output∧W.heap.size<=W'.heap.size∧∀c,c<W.heap.size->W'.heap[c]?=W.heap[c]?
variable{H:Type}{enc:TypeId×Value->H}{P:Program}
theorem Pn.but{W W':World}(h:Pn W W')(may:MemPlace->Prop):W.keptBut W' may:=by
 refine⟨h.1,h.2.1,fun i hi=>?_⟩;rw[h.2.2.2 i hi];cases hq:W.heap[i]? with
 |none=>simp
 |some o=>cases o<;>simp
theorem P9{f:Func}{s:ChangeSpec}{apart fresh handsOn again:Bool}{W W':World}{args:Array Value}{v:Value}{ds gs:List (DataW H)}{before pa pv:List MemPlace}
  (hW:DataW.Whole enc P f.params.toList s.vars apart W args.toList ds gs before)
  (hres:∀(b:Nat)(sp:Nat->Bool)(hd:Bool),DataW.TrodAll enc P W' b sp hd f.resultTypes.toList (v.resultList f.resultTypes.size) (s.fn H (ds++gs)).results [])
  (hargs:∀sp:Nat->Bool,(∀p∈before,sp p.block=true)->DataW.TrodAll enc P W' 0 sp true f.params.toList args.toList (s.fn H (ds++gs)).args pa)
  (hvars:∀sp:Nat->Bool,(∀p∈before,sp p.block=true)->DataW.TrodVars enc P W' sp s.vars (s.fn H (ds++gs)).vars pv)
  (hps:before=pa++pv) (hk:Pn W W')
  (hok:∀(j:Nat)(t:TypeId)(r:Value),f.resultTypes[j]?=some t->(v.resultList f.resultTypes.size)[j]?=some r->Value.okWide P W' .any 0 t r) :
  s.post enc P f apart fresh handsOn again W args v W':=by
 have hold:∀p∈before,(fun b=>decide (b<W.heap.size)) p.block=true:=fun p hp=>by simpa using hW.lt p hp
 have hlt:=hW.lt;refine⟨ds,gs,before,[],pa,pv,hW,hres _ _ _,hargs _ hold,hvars _ hold,World.keptBut_mono (fun p hp=>⟨hp,?_⟩) (hk.but (· ∈ before)),fun _=>?_⟩
 .rw[hps,Xm]at hp;exact Or.inr hp
 .obtain⟨_,_,_,_,_,hz,hn⟩:=hW;refine⟨hok,_,_,([]++pa)++pv,⟨[]++pa,pv,trodAll_append (hargs _ (fun _ _=>rfl)) (hres _ _ _),hvars _ (fun _ _=>rfl),rfl,?_,?_⟩,?_⟩
  .intro b off hp;have hp':MemPlace.cell b off∈before:=by rw[hps];simpa using hp
   have hb:b<W.heap.size:=hlt _ hp';have:=hz b off hp';simp only[World.frozen?]at this ⊢;rw[hk.2.2.2 b hb];exact this
  .intro ha;have:=hn ha;rw[hps]at this;simpa using this
  .intro p hp _;rw[hps];simpa using hp
theorem xN(hl:laidOutB P=true){W W':World}(hk:Pn W W'){sp:Nat->Bool}:∀{ts:List TypeId}{vs:LvQ}{ds:List (DataW H)}{ps:List MemPlace},(∀t∈ts,P.readableRec t=true∧t<P.types.size) ->
  DataW.TrodAll enc P W 0 (fun _=>true) true ts vs ds ps->(∀p∈ps,p.block<W.heap.size)->(∀p∈ps,sp p.block=true)->DataW.TrodAll enc P W' 0 sp true ts vs ds ps
 | [],vs,ds,ps,_,h,_,_=>by
  obtain⟨rfl,rfl,rfl⟩:=trodAll_nil h;exact trodAll_mk0
 | t::ts,vs,ds,ps,hr,h,hlt,hsp=>by
  obtain⟨v,vs',d,ds',p,q,rfl,rfl,rfl,h1,h2⟩:=trodAll_cons h;refine trodAll_cons_mk (WideElems.Trod_stays hl (hr t ae).1 (hr t ae).2 h1 (fun x hx=>?_) fun x hx=>hsp x (by simp[hx])) (xN hl hk (fun u hu=>hr u (by simp[hu])) h2 (fun x hx=>hlt x (by simp[hx])) fun x hx=>hsp x (by simp[hx]));have hb:=hlt x (by simp[hx]);cases x with
  | cell b off=>
   simp only[World.sameAt,World.cell?];rw[hk.2.2.2 b hb]
  |map b=>exact hk.2.2.2 b hb
theorem DC{P:Program}{w:World}:∀{l:List (String×DataW Unit)}{ps:List MemPlace},DataW.LaidVars P w l ps->∀n d,(n,d)∈l ->
  ∃g t cs fuel p,P.globalNamed n=some g∧(P.globals[g]?).map (·.type)=some t∧w.var? P n=some cs∧DataW.trod (fun _=>()) P w 0 (fun _=>true) false fuel t cs.toList=some (d,p)
 |[],_,_,_,_,hm=>by cases hm
 | (n',d')::r,ps,h,n,d,hm=>by
  obtain⟨g,t,cs,fuel,p,q,h1,h2,h3,h4,h5,_⟩:=h;rcases Zs.1 hm with e|e
  .cases e;exact⟨g,t,cs,fuel,p,h1,h2,h3,h4⟩
  .exact DC h5 n d e
def abq:LiQ:=[1,10,100,1000,10000,100000,1000000,10000000,100000000,1000000000,10000000000,100000000000,1000000000000,10000000000000,100000000000000,1000000000000000,10000000000000000,100000000000000000,1000000000000000000,10000000000000000000]
theorem abo{P:Program}{W:World}{name:String}{t e:TypeId}(hg:P.globalNamed name=some nX)(hty:(P.globals[nX]?).map (·.type)=some t)(ht:P.underlying t=some (.array 20 e))(he:P.underlying e=some (.int .u64))(hce:P.cellsOf e=1)(hct:P.cellsOf t=20)
  {l:List (String×DataW Unit)} (hm:(name,Lib.tabData .u64 abq)∈l) (h:laidMet P l W):Pm W:=by
 obtain⟨ps,hv,_⟩:=h;obtain⟨g',t',cs,fuel,p,hg',ht',hvar,hd⟩:=DC hv _ _ hm;obtain rfl:=Option.some.inj (hg.symm.trans hg');obtain rfl:=Option.some.inj (hty.symm.trans ht')
 have tab:Lib.TabIs P W name .u64 abq:=by
  unfold Lib.TabIs;rw[hvar,<-Lib.cells_of_tab ht he hce hct hd]
 have hpv:∀i v,zB[i]?=some v->W.cell? ((⟨nX,0,none⟩:Addr).add i)=some v:=by
  intro i v hv;have hi:i<20:=(List.getElem?_eq_some_iff.1 hv).1;rw[addr_add _ rfl];have h1:=tab.cell hg i hi;simp only[Zk];rw[h1];have h2:zB=abq.map fun z=>Value.int .u64 z:=rfl
  rw[h2,List.getElem?_map,Z5]at hv;obtain⟨z,hz,rfl⟩:=hv;simp[hz]
 obtain⟨cs,e,fz,h1,_,h2,h3⟩:=GK (w:=W) (a:=⟨nX,0,none⟩) (vs:=zB) hpv af;exact⟨cs,e,fz,h1,by simpa[zB]using h2,by simpa[zB]using h3⟩
open Go.Proofs Go.Proofs.YtemefafdcbjanaaGreatDoor
theorem agC:Tryz.prog.globalNamed "internal/strconv.uint64pow10" = some nX:=by kernel_rfl
theorem Uz:(Tryz.prog.globals[nX]?).map (·.type)=some 219:=ag
theorem aa4:Tryz.prog.underlying 219=some (.array 20 138):=ag
theorem aa3:Tryz.prog.underlying 138=some (.int .u64):=ag
theorem Vg:Tryz.prog.cellsOf 138=1:=ag
theorem Vh:Tryz.prog.cellsOf 219=20:=ag
mutual
/-- Has a type a shape? -/
def EL(P:Program):Sh->TypeId->Bool
 | .int k,t=>(match P.underlying t with
  |some (.int k')=>decide (k'=k)
  |_=>false)&&Nat.beq (P.cellsOf t) 1
 | .bool,t=>(match P.underlying t with
  |some .bool=>true
  |_=>false)&&Nat.beq (P.cellsOf t) 1
 | .str,t=>(match P.underlying t with
  |some .string=>true
  |_=>false)&&Nat.beq (P.cellsOf t) 1
 | .sl e,t=>(match P.underlying t with
  |some (.slice u)=>Nat.beq (P.cellsOf t) 1&&Nat.blt 0 (P.cellsOf u)&&EL P e u
  |_=>false)
 | .ar n e,t=>(match P.underlying t with
  |some (.array m u)=>Nat.beq m n&&Nat.beq (P.cellsOf t) (n*P.cellsOf u)&&EL P e u
  |_=>false)
 | .st fs,t=>(match P.underlying t with
  |some (.struct l)=>FF P fs l.toList 0 (P.cellsOf t)
  |_=>false)
def FF(P:Program):List Sh->List Field->Nat->Nat->Bool
 |[],l,o,n=>l.isEmpty&&Nat.beq o n
 | s::ss,l,o,n=>(match l with
  |[]=>false
  |f::r=>Nat.beq f.offset o&&EL P s f.type&&FF P ss r (o+P.cellsOf f.type) n)
end
mutual
theorem Cj{P:Program}:∀{s:Sh}{t:TypeId},EL P s t=true->Typ P s t
 | .int k,t,h=>by
  simp only[EL,Z8]at h;obtain⟨h1,h2⟩:=h;split at h1
  .rename_i h3;obtain rfl:=of_decide_eq_true h1;exact⟨h3,Zn h2⟩
  .cases h1
 | .bool,t,h=>by
  simp only[EL,Z8]at h;obtain⟨h1,h2⟩:=h;split at h1
  .rename_i h3;exact⟨h3,Zn h2⟩
  .cases h1
 | .str,t,h=>by
  simp only[EL,Z8]at h;obtain⟨h1,h2⟩:=h;split at h1
  .rename_i h3;exact⟨h3,Zn h2⟩
  .cases h1
 | .sl e,t,h=>by
  simp only[EL]at h;split at h
  .rename_i u h3;simp only[Z8]at h;obtain⟨⟨h1,h2⟩,h4⟩:=h;exact⟨u,h3,Zn h1,by have:=h2;simp[Nat.blt]at this;omega,Cj h4⟩
  .cases h
 | .ar n e,t,h=>by
  simp only[EL]at h;split at h
  .rename_i m u h3;simp only[Z8]at h;obtain⟨⟨h1,h2⟩,h4⟩:=h;obtain rfl:=Zn h1;exact⟨u,h3,Zn h2,Cj h4⟩
  .cases h
 | .st fs,t,h=>by
  simp only[EL]at h;split at h
  .rename_i l h3;exact⟨l.toList,by rw[h3],Nx h⟩
  .cases h
theorem Nx{P:Program}:∀{ss:List Sh}{l:List Field}{o n:Nat},FF P ss l o n=true->Rf P ss l o n
 | [],l,o,n,h=>by
  simp only[FF,Z8,List.isEmpty_iff]at h;exact⟨h.1,Zn h.2⟩
 |s::ss,[],o,n,h=>by simp[FF]at h
 | s::ss,f::r,o,n,h=>by
  simp only[FF,Z8]at h;obtain⟨⟨h1,h2⟩,h3⟩:=h;exact⟨f,r,rfl,Zn h1,Cj h2,Nx h3⟩
end
theorem xc{P:Program}{W:World}{base:Nat}{v:Value}(ht:P.underlying t=some (.slice e))(h:Value.okWide P W .any base t v):∀cs,v≠.agg cs:=by rintro cs rfl;simp only[Value.okWide,ht,Cell.okWide,Cell.ok]at h
theorem wf_i64{n:Int}(h:(Lit.int .i64 n).wf=true): -9223372036854775808<=n∧n<=9223372036854775807:=by simp only[Lit.wf,Z8,decide_eq_true_eq]at h;exact h
def adG(x:Int):Prop:=-9223372036854775808<=x∧x<=9223372036854775807
abbrev FV:Sh:=.sl (.int .i64)
theorem O3(h:Dat FV [d]):∃l:LiQ,d=row l∧∀x∈l,adG x:=by
 obtain ⟨l,rfl,hl⟩:=K4 (f:=fun n=>[di n]) adG (fun ds h=>by
  obtain⟨n,e,hw⟩:=h;exact⟨n,e,wf_i64 hw⟩) h
 exact⟨l,by simp only[row,List.map_eq_flatMap],hl⟩
def agu:DataW Unit->Value
 |.lit (.int k n)=>.int k n
 |_=>undef
def abe:DataW Unit->Array Value
 |.agg l=>(l.map agu).toArray
 |_=>#[]
def aeo:DataW Unit->Value
 |.iface _ (.ptr (.agg [.lit (.string l)]))=>.string ⟨l.toArray⟩
 |_=>undef
def Sj(cs:Array Value):Obj->Obj
 |.cells _ t frozen=>.cells cs t frozen
 |o=>o
noncomputable def zN(os:Os):World:=
 let w0:=World.holding Tryz.prog os ⟨#[.cells #[aeo Rows.laid_strconv_ErrSyntax] 242,.cells #[aeo Rows.laid_strconv_ErrRange] 242],#[],[]⟩
 let low:=(World.settled Tryz.prog os).heap.size
 {w0 with heap:=((((w0.heap.modify 0 (Sj #[.iface 240 (.pointer (some ⟨low,0,none⟩))])).modify 1 (Sj #[.iface 240 (.pointer (some ⟨low+1,0,none⟩))])).modify 2 (Sj (abe Rows.laid_internal_strconv_uint64pow10))).modify 3 (Sj (abe Rows.laid_math_bits_deBruijn32tab))).modify 4 (Sj (abe Rows.laid_math_bits_deBruijn64tab))}
theorem YS(ds:LdQ)(h:Dat (.st [FV,.st [.str,.str]]) ds):∃t:Tg,ds=tgD t∧True:=by
 obtain⟨a,b,rfl,h1,a2,b2,rfl,⟨a4,b4,rfl,⟨s,rfl,hs⟩,a5,b5,rfl,⟨t,rfl,ht⟩,rfl⟩,rfl⟩:=h
 obtain ⟨d,rfl,h2⟩:∃d,a=[d]∧Dat FV [d]:=by
  obtain⟨xs,rfl,h⟩:=h1;exact⟨_,rfl,xs,rfl,h⟩
 obtain⟨r,rfl,hr⟩:=O3 h2;exact⟨⟨r,s,t⟩,rfl,trivial⟩
theorem K3(h:Dat (.sl (.st [FV,.st [.str,.str]])) [d]):∃l:List Tg,d=.sl l.length (l.flatMap tgD):=by obtain⟨l,e,_⟩:=K4 (f:=tgD) (fun _=>True) YS h;exact⟨l,e⟩
end Go.Vm
