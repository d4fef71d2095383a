/- Lemmas. -/
import Derived.Test.YtaofhmhlooekoaaGreatDoorQRefRow
set_option linter.unusedVariables false
set_option linter.unusedSimpArgs false
namespace Go.Vm
open Go Go.Am Go.Big
variable{P x y r to fr:LiQ}{k E G n i d Bd f j t A most:Nat}{rs:List Fp}{ts:List (Int×Int)}{m m':LLQ}{s bd:List Q}{c' z C div:Int}{cs:LwQ}{ch:List LLQ}
def pZ(h:Int->Int):List (Int×Int)->Int
 |[]=>0
 |t::ts=>t.2*h t.1+pZ h ts
def ze:List (Int×Int)->Nat
 |[]=>0
 |t::ts=>t.2.natAbs+ze ts
def cfT:List (Int×Int)->Int->Int
 |[],_=>0
 |t::ts,c=>(if t.1=c then t.2 else 0)+cfT ts c
theorem yz(n:Nat):∀ts:List (Int×Int),(d8 n ts (0,0)).1<=pZ (lgI n) ts∧pZ (lgI n) ts<=(d8 n ts (0,0)).2∧(d8 n ts (0,0)).2-(d8 n ts (0,0)).1<=ze ts
 |[]=>by simp[d8,pZ,ze]
 | t::ts=>by
  obtain⟨h1,h2,h3⟩:=yz n ts;obtain⟨x,hx⟩:∃x:Int,x=lg t.1 n:=⟨_,rfl⟩;obtain⟨y,hy⟩:∃y:Int,y=if t.1=2 then x else x+1:=⟨_,rfl⟩
  have hxy:y=x∨y=x+1:=by rw[hy];split<;>simp
  have e:d8 n (t::ts) (0,0)=d8 n ts (if t.2<0 then(0+y*t.2,0+x*t.2)else(0+x*t.2,0+y*t.2)):=by
   rw[hy,hx];rfl
  have e2:pZ (lgI n) (t::ts)=t.2*x+pZ (lgI n) ts:=by rw[hx];rfl
  rw[e,e2,yA ts];simp only[ze,Wy]
  have m1:y*t.2=x*t.2∨y*t.2=x*t.2+t.2:=by
   rcases hxy with h|h
   .left;rw[h]
   .right;rw[h,W4,Int.one_mul]
  rw[Xt t.2 x];by_cases hn:t.2<0
  .rw[if_pos hn];simp only;omega
  .rw[if_neg hn];simp only;omega
theorem Kx(f g:Int->Int):∀(P L:LiQ),cM (P.map fun c=>f c+g c) L=cM (P.map f) L+cM (P.map g) L
 |[],L=>by simp[cM]
 |p::P,[]=>by simp[cM]
 | p::P,l::L=>by
  simp only[Zx,cM,Kx f g P L,W4];omega
theorem Kw(h:Int->Int)(a z:Int):∀P:LiQ,a ∉ P->cM (P.map fun c=>if a=c then z else 0) (P.map h)=0
 |[],_=>by simp[cM]
 | p::P,hn=>by
  simp only[Zt,not_or]at hn;simp[cM,hn.1,Kw h a z P hn.2]
theorem OC(h:Int->Int)(a z:Int):∀P:LiQ,P.Nodup->a∈P->cM (P.map fun c=>if a=c then z else 0) (P.map h)=z*h a
 |[],_,hm=>by simp at hm
 | p::P,hn,hm=>by
  rw[Wx]at hn;by_cases e:a=p
  .subst e;simp[cM,Kw h a z P hn.1]
  .have:a∈P:=by simpa[e]using hm
   simp[cM,e,OC h a z P hn.2 this]
theorem II(h:Int->Int){P:LiQ}(hP:P.Nodup):∀ts:List (Int×Int),(∀t∈ts,t.1∈P)->pZ h ts=cM (P.map (cfT ts)) (P.map h)
 | [],_=>by
  have:∀P:LiQ,cM (P.map (cfT [])) (P.map h)=0:=by
   intro P
   induction P with
   |nil=>rfl
   |cons p P ih=>rw[Zx,Zx,cM,ih];simp[cfT]
  rw[this];rfl
 | t::ts,hm=>by
  rw[pZ,II h hP ts fun u hu=>hm u (by simp[hu])];have:cfT (t::ts)=fun c=>(if t.1=c then t.2 else 0)+cfT ts c:=by funext c;rfl
  rw[this,Kx,OC h t.1 t.2 P hP (hm t af)]
theorem UT(c:Int):∀ts:List (Int×Int),(cfT ts c).natAbs<=ze ts
 |[]=>by simp[cfT]
 | t::ts=>by
  have:=UT c ts;simp only[cfT,ze];split<;>omega
theorem H6{c:Int}:∀ts:List (Int×Int),c ∉ ts.map Prod.fst->cfT ts c=0
 |[],_=>rfl
 | t::ts,h=>by
  simp only[Zx,Zt,not_or]at h;rw[cfT,if_neg (fun e=>h.1 e.symm),H6 ts h.2];rfl
theorem F5{B:Nat}{V:LLQ}(hc:GB k E B G (P.map (lgI n)) rs V=true)(hk:P.length=k)(hP:P.Nodup)(hm:∀t∈ts,t.1∈P)(hB:ze ts<=B)(hG:(pZ (lgI n) ts).natAbs<=G):∀c∈P,cfT ts c=0:=by
 intro c hcP
 have h1:=Qv hc (c:=P.map (cfT ts)) (by simpa using hk) (by
  intro x hx;obtain⟨d,_,rfl⟩:=Zf.1 hx;exact Zy (UT d ts) hB) (by rw[<-II (lgI n) hP ts hm];exact hG)
 exact h1 _ (List.mem_map_of_mem hcP)
theorem VP{B:Nat}{V:LLQ}(hc:GB k E B G (P.map (lgI n)) rs V=true)(hk:P.length=k)(hP:P.Nodup)(hm:∀t∈ts,t.1∈P)(hn:(ts.map Prod.fst).Nodup)(h0:∀t∈ts,t.2≠0)(hB:ze ts<=B)(hG:ze ts<=G)(hne:ts≠[]):
  0<=(d8 n ts (0,0)).1∨(d8 n ts (0,0)).2<=0:=by
 obtain⟨g1,g2,g3⟩:=yz n ts;by_cases hd:0<=(d8 n ts (0,0)).1∨(d8 n ts (0,0)).2<=0
 .exact hd
 .exfalso;have hz:=F5 hc hk hP hm hB aa;cases ts with
  |nil=>exact hne rfl
  | cons t ts=>
   have h1:=hz t.1 (hm t af);simp only[Zx,Wx]at hn;rw[cfT,if_pos rfl,H6 ts hn.1]at h1;exact h0 t af aa
def adF(n:Nat)(p:Int):Bool:=(HA p.toNat n).isSome&&decide (2^n<=lg p n)&&decide (lg p n+1<=8*2^n)
theorem aeo:∀p∈c6P,∀i∈List.range 6,adF (64*2^i) p=true:=aD
theorem abe{x:Nat}(hk:1<=k)(h:x<2^(3*k)):ndg x<=k:=by refine cS (Z3 h ?_) hk;rw[Nat.pow_mul];exact Nat.pow_le_pow_left ae k
theorem Ta{x m:Nat}(hk:1<=k)(hm:m+3<=3*k)(h:x+1<=8*2^m):ndg x<=k:=by
 refine abe hk (Z3 (Z3 (Nat.lt_succ_self x) h) ?_);have e:8*2^m=2^(m+3):=by rw[Yp,Zq]
 rw[e];exact Z5 ae hm
theorem aav:∀p∈c6P,2<=p∧p<128:=ae
theorem aaw:c6P.Nodup:=ae
theorem aep{p:Int}(hp:p∈c6P)(hi:i<6):(HA p.toNat (64*2^i)).isSome=true∧2^(64*2^i)<=lg p (64*2^i)∧lg p (64*2^i)+1<=8*2^(64*2^i):=by have:=aeo p hp i (Xk.2 hi);simp only[adF,Z8,decide_eq_true_eq]at this;exact⟨this.1.1,this.1.2,this.2⟩
theorem abY(h:∀t∈ts,t.1∈c6P):Gf ts:=by intro i hi t ht;obtain⟨h1,h2,h3⟩:=aep (h t ht) hi;obtain⟨p1,p2⟩:=aav _ (h t ht);refine⟨p1,aa,h1,?_⟩;obtain⟨k,hk⟩:=nmQ (1500);rw[<-hk];refine Ta aa ?_ h3;have:2^i<=2^5:=Z5 ae aa;omega
theorem Na{C:Nat}:∀ts:List (Int×Int),(∀t∈ts,t.2.natAbs<=C)->ze ts<=ts.length*C
 |[],_=>by simp[ze]
 | t::ts,h=>by
  have h1:=h t af;have h2:=Na ts fun u hu=>h u (by simp[hu])
  simp only[ze,List.length_cons,Xu];omega
def rp(b:Nat)(x:Q)(a:Int):Prop:=okQ x∧x.1*(b:Int)=a*(x.2:Int)
theorem LF{n a:Int}{b:Nat}(hd:0<d)(h:n*(b:Int)=a*(d:Int)):rp b (lX n d) a:=by
 obtain⟨h1,h2⟩:=WW n hd;refine⟨BQ n hd,?_⟩;have hd':(d:Int)≠0:=aa;refine Int.eq_of_mul_eq_mul_right hd' ?_
 calc (lX n d).1*(b:Int)*(d:Int)=(lX n d).1*(d:Int)*(b:Int):=by rw[Yq]
  _=n*((lX n d).2:Int)*(b:Int):=by rw[h1]
  _=n*(b:Int)*((lX n d).2:Int):=by rw[Yq]
  _=a*((lX n d).2:Int)*(d:Int):=by rw[h,Yq]
theorem aa0{b:Nat}{x y:Q}{a c:Int}(hx:rp b x a)(hy:rp b y c):rp b (qG x y) (a+c):=by
 have p1:=hx.1.1;have p2:=hy.1.1;refine LF (Yj p1 p2) ?_;rw[W4,W4,Int.natCast_mul]
 have e1:x.1*(y.2:Int)*(b:Int)=a*((x.2:Int)*(y.2:Int)):=by
  rw[Yq,hx.2,Int.mul_assoc]
 have e2:y.1*(x.2:Int)*(b:Int)=c*((x.2:Int)*(y.2:Int)):=by
  rw[Yq,hy.2,Int.mul_assoc,Xt (y.2:Int)]
 rw[e1,e2]
theorem VV{b:Nat}{x:Q}{a:Int}(z:Int)(hx:rp b x a):rp b (tu x (z,1)) (z*a):=by have p1:=hx.1.1;refine LF (by simpa using p1) ?_;simp only[Ye];rw[Yq,hx.2,Int.mul_assoc,Xt (x.2:Int),<-Int.mul_assoc,Xt a]
theorem RQ{b:Nat}{x:Q}{a:Int}(m:Nat)(hx:rp b x a):rp (b*m) x (a*m):=
 ⟨hx.1,by rw[Int.natCast_mul,<-Int.mul_assoc,hx.2,Yq]⟩
theorem VU(b:Nat):rp b (0,1) 0:=⟨⟨ae,ae⟩,af⟩
theorem G8{b:Nat}{x:Q}{a:Int}(h:rp b x a):x.2∣b:=by
 have h1:x.1.natAbs*b=a.natAbs*x.2:=by
  have:=congrArg Int.natAbs h.2;simpa[Y9]using this
 have h2:x.2∣x.1.natAbs*b:=⟨a.natAbs,by rw[h1,Zq]⟩;exact Nat.Coprime.dvd_of_dvd_mul_left (Nat.Coprime.symm h.1.2) h2
theorem RR{b:Nat}{x:Q}{a:Int}(hb:0<b)(h:rp b x a):x.1.natAbs*(b/x.2)=a.natAbs:=by
 obtain⟨m,hm⟩:=G8 h
 have h1:x.1.natAbs*b=a.natAbs*x.2:=by
  have:=congrArg Int.natAbs h.2;simpa[Y9]using this
 have p:=h.1.1;rw[hm,Yd _ p];refine Nat.eq_of_mul_eq_mul_right p ?_;rw[<-h1,hm,Nat.mul_assoc,Zq m]
theorem ada{b:Nat}{x:Q}{a:Int}(hb:0<b)(h:rp b x a):x.1.natAbs<=a.natAbs∧x.2<=b:=by have h1:=RR hb h;have h2:=W7 hb (G8 h);have h3:1<=b/x.2:=(Ww h.1.1).2 aa;refine⟨?_,h2⟩;rw[<-h1];exact Y4 _ h3
def bdL(b B:Nat)(s:List Q):Prop:=∀x∈s,∃a:Int,rp b x a∧a.natAbs<=B
theorem aev{b B:Nat}(hb:0<b)(h:bdL b B s):∀x∈s,okQ x:=fun x hx=>by
 obtain⟨a,h1,h2⟩:=h x hx;exact h1.1
theorem Ve{b B:Nat}(hb:0<b)(h:bdL b B s)(h1:b<1000000000000000000000000000000)(h2:B<1000000000000000000000000000000):okS s:=fun x hx=>by
 obtain⟨a,r1,r2⟩:=h x hx;obtain⟨l1,l2⟩:=ada hb r1;exact⟨r1.1,cS (d:=30) (by show _<10^30;omega) ae,cS (d:=30) (by show _<10^30;omega) ae⟩
theorem OG{b:Nat}:∀{s:List Q}{d:Nat},d∣b->(∀x∈s,x.2∣b)->py d s∣b
 |[],d,h,_=>h
 |x::s,d,h,hs=>OG (s:=s) (Nat.lcm_dvd h (hs x af)) fun y hy=>hs y (by simp[hy])
theorem Vg{b B:Nat}(h:bdL b B s):py 1 s∣b:=OG (Nat.one_dvd b) fun x hx=>by
 obtain⟨a,r1,r2⟩:=h x hx;exact G8 r1
theorem IQ{b B d:Nat}(hb:0<b)(hd:d∣b):∀{p:LiQ}{s:List Q},bdL b B s->∀t∈iI d p s,t.2.natAbs<=B
 |[],s,_,t,ht=>by simp[iI]at ht
 |p::ps,[],_,t,ht=>by simp[iI]at ht
 | p::ps,x::s,h,t,ht=>by
  obtain⟨a,r1,r2⟩:=h x af;have ih:=IQ hb hd (p:=ps) (s:=s) fun y hy=>h y (by simp[hy])
  simp only[iI]at ht
  have hx:(x.1*((d/x.2:Nat):Int)).natAbs<=B:=by
   rw[Y9,Int.natAbs_natCast];have h1:=RR hb r1;have h2:d/x.2<=b/x.2:=Nat.div_le_div_right (W7 hb hd);have h3:=Zw x.1.natAbs h2;omega
  split at ht
  .exact ih t ht
  .simp only[Zt]at ht;rcases ht with rfl|ht
   .exact hx
   .exact ih t ht
theorem zb{d:Nat}:∀{p:LiQ}{s:List Q},∀t∈iI d p s,t.1∈p
 |[],s,t,ht=>by simp[iI]at ht
 |p::ps,[],t,ht=>by simp[iI]at ht
 | p::ps,x::s,t,ht=>by
  have ih:=zb (d:=d) (p:=ps) (s:=s);simp only[iI]at ht;split at ht
  .exact List.mem_cons_of_mem _ (ih t ht)
  .simp only[Zt]at ht;rcases ht with rfl|ht
   .simp
   .exact List.mem_cons_of_mem _ (ih t ht)
theorem IN{d:Nat}:∀{p:LiQ}{s:List Q},p.Nodup->((iI d p s).map Prod.fst).Nodup
 |[],s,_=>by simp[iI]
 |p::ps,[],_=>by simp[iI]
 | p::ps,x::s,h=>by
  rw[Wx]at h;have ih:=IN (d:=d) (p:=ps) (s:=s) h.2;simp only[iI];split
  .exact ih
  .simp only[Zx,Wx];refine⟨fun hm=>?_,ih⟩;obtain⟨t,ht,e⟩:=Zf.1 hm;exact h.1 (by rw[<-e];exact zb t ht)
theorem IP{d:Nat}(hd:0<d):∀{p:LiQ}{s:List Q},(∀x∈s,0<x.2∧x.2∣d)->∀t∈iI d p s,t.2≠0
 |[],s,_,t,ht=>by simp[iI]at ht
 |p::ps,[],_,t,ht=>by simp[iI]at ht
 | p::ps,x::s,h,t,ht=>by
  have ih:=IP hd (p:=ps) (s:=s) fun y hy=>h y (by simp[hy])
  obtain⟨h1,h2⟩:=h x af;have h3:0<d/x.2:=Wd (W7 hd h2) h1;simp only[iI]at ht;split at ht
  .exact ih t ht
  .rename_i hx;simp only[Zt]at ht;rcases ht with rfl|ht
   .exact Int.mul_ne_zero hx aa
   .exact ih t ht
def in6(p:LiQ):Prop:=p.Nodup∧p.length<=6∧∀x∈p,x∈c6P
theorem Lh{p:LiQ}(hp:in6 p):∀t∈tq p s,t.1∈c6P:=fun t ht=>hp.2.2 _ (zb t ht)
theorem aaP{p:LiQ}{b B:Nat}(hp:in6 p)(hb:0<b)(h:bdL b B s)(hB:B<9223372036854775808):WI (tq p s):=by
 refine⟨?_,fun t ht=>?_⟩
 .have:=zc (d:=py 1 s) p s;have:=hp.2.1;unfold tq;omega
 .obtain⟨h1,h2⟩:=aav _ (Lh hp t ht);exact⟨h1,h2,Zh (IQ hb (Vg h) h t ht) hB⟩
structure ag3(p:LiQ)(n:Nat)(r:LiQ)(q:Int):Prop where
 hp:pcB p=0
 hN:p.length<=20
 hl:0<p.length
 h0:0<n
 h1:n<=10000
 lr:r.length=p.length
 sr:smR r=true
 st:okS (FF p n)
 of:okS (ofQ r)
 q1 : -1000000000000000000<q
 q2:q<1000000000000000000
 ti:okS (Li p n q)
 er:okS (NR p n q (ofQ r))
def rD:LLQ:=[[2,3,5],[2,3,5,7],[2,3],[2,3,7],[2,5,7],[3,5,7],[2,3,5,11],[2],[2,3,7,13],[3,5,7,13]]
def FW(k:Nat):LiQ:=rD.getD (k%10) []
theorem Jz(hk:k<256):CP Y F.ef [.d (.int .u8 k)] (lst di (FW k)):=by
 refine uk ?_;have c1:cvI .i64 (.d (.int .u8 (k:Int)))=some (I k):=by rw[OH,wrap_i64 ⟨aa,aa⟩]
 have m1:biI .rem (I (k:Int)) (I 10)=some (I ((k%10:Nat):Int)):=by
  rw[OM aa,Zz aa];congr 3
 have hkk:k%10<10:=Y5 _ ae;have i1:=fun H:Hp=>mK row rD H (k:=.i64) (i:=((k%10:Nat):Int)) aa (by show((k%10:Nat):Int)<10;omega)
 have i2:=fun H:Hp=>fB row [] rD H (j:=k%10) hkk
 have hn:nth [] rD (k%10)=FW k:=rfl;rw[hn]at i2;generalize k%10=j at *;simp only[Int.toNat_natCast]at i1;simp(disch:=try exact ac)[ef,dW,gD,iW,toD,c1];have hw:IntKind.wrap .i64 (k:Int)=(k:Int):=wrap_i64 ⟨aa,aa⟩
 show rn (bnd (bf (lst row rD))) (fun v13=>bnd (biI .rem (.d (.int .i64 (IntKind.i64.wrap k))) v13) fun v14=>bnd (ixV [] 1 (lst row rD) v14) fun v15=>bnd (ld1 [] v15) fun v16=>out (lst di (FW k)) v16 []) .mk
 have l10:bf (lst row rD)=some (I 10):=rfl;rw[hw,l10];rw[aa2];rw[show biI .rem (.d (.int .i64 (k:Int))) (I 10)=some (I (j:Int))from m1];rw[yG,i1,yG,i2,yG];exact Wb ..
theorem PM(k:Nat):FW k∈rD:=by simp[FW,rD,Y5]
def agb:LLQ:=[[2,3,5],[2,3],[2,3,5,7],[2,3,7],[3,5,7],[2],[2,5,7],[2,3,11],[2,3,5,13],[2,3,7,11]]
abbrev Rw:=LiQ
structure agN(p:LiQ)(n:Nat)(l:List Rw)(qf:Rw->Int):Prop where
 hN:l.length<=60
 hE:∀r∈l,aeD p n r (qf r)
structure aeC(p:LiQ)(n:Nat)(l:List Rw)(qf:Rw->Int):Prop where
 cn:agN p n l qf
 pl:p.length<=6
 r9:∀r∈l,∀x∈r,x.natAbs<=9
theorem aeC.rc{p:LiQ}{l:List Rw}{qf:Rw->Int}(H:aeC p n l qf){r:Rw}(hr:r∈l):rcB r=0:=Sx.2 ⟨by have:=(H.cn.hE r hr).lr;have:=H.pl;omega,fun x hx=>PR.2 (by have:=H.r9 r hr x hx;omega)⟩
theorem Px(hx:x.length<1000000000)(hy:y.length<1000000000):CP Y F.pd [lst di x,lst di y] (B (decide (x=y))):=by refine Jn ?_;simp(disch:=try exact ac)[pd];refine cd (AM hx hy) ?_;simp(disch:=try exact ac)
def qH(c:Int)(m:LLQ):V:=.agg [I c,mat m]
theorem P2{c:Int}(hm:m.length<1000000)(hm':m'.length<1000000)(h2:∀r∈m,r.length<1000000)(h3:∀r∈m',r.length<1000000):
  CP Y F.jS [qH c m,qH c' m'] (B (decide (c=c'∧m=m'))):=by
 refine Ba ?_;simp only[jS,qH];have eq:=Up (g:=F.pd) (fun x y hx hy=>Px (x:=x) (y:=y) aa aa) hm hm' h2 h3;by_cases e:c=c'
 .simp(disch:=try exact ac)[e];refine cd eq ?_ (by simp[aw,aJ,mat,lst,norm]);exact dX (by simp[e])
 .simp(disch:=try exact ac)[e]
def P9(n:Int):Bool:=decide (n>1000000000)||decide (n < -1000000000)
theorem O8(n:Int):CP Y F.nU [I n] (B (P9 n)):=by
 refine EE ?_;simp(disch:=try exact ac)[nU];by_cases h:n>1000000000
 .simp(disch:=try exact ac)[h];exact dX (by simp[P9,h])
 .simp(disch:=try exact ac)[h];exact dX (by simp[P9,h])
def IS(c:Nat):LLQ->Int
 |[]=>0
 |r::q=>if 12<r.length then 4 else if r.length≠c then 5 else if r.any P9=true then 4 else IS c q
def tcB(m:LLQ):Int:=if 12<m.length then 4 else IS (nth [] m 0).length m
theorem FC{m:LLQ}(hm:m.length<1000000)(hr:∀r∈m,r.length<1000000)(K:KL):∀(q a:LLQ),m=a++q->(IS (nth [] m 0).length q=0->K (.exit 0) [] [])->(IS (nth [] m 0).length q≠0->K .ret [I (IS (nth [] m 0).length q)] []) ->
  lp (om (CX Y) (mat m) (mat m) (I m.length)) [] [] [I a.length] [] K
 | [],a,e,h0,h1=>by
  simp only[Zj]at e;subst e;refine ak ?_;have hlt:¬((m.length:Int)<(m.length:Int)):=aa;simp only[om];simp(disch:=try exact ac)[hlt];exact h0 rfl
 | r::q,a,e,h0,h1=>by
  refine ak ?_;have hlt:((a.length:Int)<(m.length:Int)):=by rw[e];simp;omega
  have hl:a.length<m.length:=aa;have hrm:r∈m:=by rw[e];simp
  have i1:ixV [] 1 (mat m) (I a.length)=some (.dptr (m.map row) a.length):=by rw[e];exact oC row a r q _ _
  have i2:ld1 [] (.dptr (m.map row) a.length)=some (lst di r):=by
   rw[lY row m _ hl];simp only[e,Zn (Z7 _),Zd,Zi];rfl
  have j1:ixV [] 1 (mat m) (.d (.int .i64 0))=some (.dptr (m.map row) 0):=iC row m [] rfl aa;have j2:ld1 [] (.dptr (m.map row) 0)=some (lst di (nth [] m 0)):=fB row [] m [] aa;simp only[om];simp only[IS]at h0 h1;by_cases g1:12<r.length
  .have g1':((r.length:Int)>12):=aa;rw[if_pos g1]at h0 h1;simp(disch:=try exact ac)[hlt,i1,i2,g1'];exact h1 ae
  .have g1':¬((r.length:Int)>12):=aa;rw[if_neg g1]at h0 h1;by_cases g2:r.length≠(nth [] m 0).length
   .have g2':(r.length:Int)≠((nth [] m 0).length:Int):=aa;rw[if_pos g2]at h0 h1;simp(disch:=try exact ac)[hlt,i1,i2,g1',j1,j2,g2'];exact h1 ae
   .have g2':(r.length:Int)=((nth [] m 0).length:Int):=aa;rw[if_neg g2]at h0 h1;simp(disch:=try exact ac)[hlt,i1,i2,g1',j1,j2,g2'];refine cd (vC r (by have:=hr r hrm;omega) fun x _=>O8 x) ?_;by_cases g3:r.any P9=true
    .rw[if_pos g3]at h0 h1;simp(disch:=try exact ac)[g3];exact h1 ae
    .rw[if_neg g3]at h0 h1;have g3':r.any P9=false:=by simpa using g3
     simp(disch:=try exact ac)[g3'];have ih:=FC hm hr K q (a++[r]) (by simp[e]) h0 h1;have e2:((a++[r]).length:Int)=(a.length:Int)+1:=af;rw[e2]at ih;exact lo ih
theorem Pd(hm:m.length<1000000)(hr:∀r∈m,r.length<1000000):CP Y F.nV [mat m] (I (tcB m)):=by
 refine EF ?_;simp only[nV];have l1:bf (mat m)=some (I m.length):=rfl;by_cases g:12<m.length
 .have g':((m.length:Int)>12):=aa;simp(disch:=try exact ac)[l1,g'];exact aV (by simp[tcB,g])
 .have g':¬((m.length:Int)>12):=aa;simp(disch:=try exact ac)[l1,g'];refine lo (FC hm hr _ m [] rfl (fun e=>?_) (fun e=>?_))
  .simp(disch:=try exact ac);exact aV (by simp[tcB,g,e])
  .simp(disch:=try exact ac);exact aV (by simp[tcB,g])
theorem Ua(n:Int):CP Y F.iU [I n] (B (n !=0)):=by refine xq ?_;simp(disch:=try exact ac)[iU];exact dX (by rw[Yi];simp)
theorem XO(hr:r.length<4611686018427387904):CP Y F.lO [lst di r] (I (piv r)):=by refine Be ?_;simp(disch:=try exact ac)[lO];refine cd (AK r hr fun n _=>Ua n) ?_;exact aV rfl
theorem Bs{g:FuncId}{p:LiQ->Bool}(hs:∀x:LiQ,aw [] ([lst di x]++cs)=some ([lst di x]++cs,[]))(hc:aw [] cs=some (cs,[]))(l:LLQ)(hN:l.length<1000000)(hp:∀x∈l,CP Y g ([lst di x]++cs) (B (p x))):
  CP Y F.aU [mat l,.fn g [] cs] (B (l.any p)):=by
 refine lV ?_;simp(disch:=try exact ac)[aU];refine cd (v:=I (idx p l)) (mQ (HK (f:=row) (fs:=[]) (cs:=cs) l aa hs hp)) ?_ ?_
 .simp(disch:=try exact ac);have:=BV p l;have e:decide (0<=idx p l)=l.any p:=by rw[Yi];simpa using this
  rw[e];exact JD ..
 .simp[aw,aJ,hc,mat]
def upF(p:Nat)(r o:LiQ):Bool:=decide (nth 0 o p<0)||decide (nth 0 o p≥nth 0 r p)
theorem aaJ{p:Nat}{o:LiQ}(hr:p<r.length)(ho:p<o.length):CP Y F.eD [lst di o,.dptr [.int .i64 p] 0,.dptr [row r] 0] (B (upF p r o)):=by
 refine wL ?_;simp only[eD];have d1:∀h:Hp,ld1 h (.dptr [.int .i64 (p:Int)] 0)=some (I p):=fun h=>rfl
 have d2:∀h:Hp,ld1 h (.dptr [row r] 0)=some (lst di r):=fun h=>rfl
 have i1:ixV [] 1 (lst di o) (I p)=some (.dptr (o.map di) p):=iC di o [] rfl ho;have i2:ld1 [] (.dptr (o.map di) p)=some (I (nth 0 o p)):=fB di 0 o [] ho;have i3:ixV [] 1 (lst di r) (I p)=some (.dptr (r.map di) p):=iC di r [] rfl hr;have i4:ld1 [] (.dptr (r.map di) p)=some (I (nth 0 r p)):=fB di 0 r [] hr;by_cases h:nth 0 o p<0
 .simp(disch:=try exact ac)[d1,d2,i1,i2,i3,i4,h];exact dX (by simp[upF,h])
 .simp(disch:=try exact ac)[d1,d2,i1,i2,i3,i4,h];exact dX (by simp[upF,h])
def Mn:Int->LLQ->LLQ->Bool
 |_,_,[]=>true
 |before,done,r::q=>if piv r<=before∨nth 0 r (piv r).toNat<0 then false else if done.any (upF (piv r).toNat r)=true then false else Mn (piv r) (done++[r]) q
theorem DG{m:LLQ}{c:Nat}(hm:m.length<1000000)(hc:c<1000000)(hr:∀r∈m,r.length=c)(K:KL):∀(q a:LLQ)(b:Int),-1<=b->m=a++q->(Mn b a q=true->∀h,K (.exit 0) [] h)->(Mn b a q=false->∀h,K .ret [B false] h) ->
  lp (mq (CX Y) (mat m) (mat m) (I m.length)) [0,1] [nnQ,nnQ] [I b,I a.length] [nnQ,nnQ] K
 | [],a,b,hb,e,h0,h1=>by
  simp only[Zj]at e;subst e;refine ak ?_;have hlt:¬((m.length:Int)<(m.length:Int)):=aa;simp only[mq];simp(disch:=try exact ac)[hlt];exact h0 rfl _
 | r::q,a,b,hb,e,h0,h1=>by
  refine ak ?_;have hlt:((a.length:Int)<(m.length:Int)):=by rw[e];simp;omega
  have hl:a.length<m.length:=aa;have hrm:r∈m:=by rw[e];simp
  have hrl:r.length=c:=hr r hrm;have i1:∀h:Hp,ixV h 1 (mat m) (I a.length)=some (.dptr (m.map row) a.length):=fun h=>by rw[e];exact oC row a r q _ _
  have i2:∀h:Hp,ld1 h (.dptr (m.map row) a.length)=some (lst di r):=fun h=>by
   rw[lY row m _ hl];simp only[e,Zn (Z7 _),Zd,Zi];rfl
  have hp:=aa7 r;simp only[mq];have s1:st [(1,Bk.vars [V.d nPQ]),(0,Bk.none)] 1 (V.ptr 0 1 0 1) (lst di r)=some [(1,.vars [lst di r]),nnQ]:=by simp[st,sto,aC,b6,okV,lst]
  have g1:∀x:Nat×Bk,ld1 [(1,.vars [lst di r]),x] (V.ptr 0 1 0 1)=some (lst di r):=fun x=>by simp[ld1,aC]
  simp(disch:=try exact ac)[hlt,i1,i2,s1,g1];refine cd (XO (r:=r) aa) ?_;have s2:∀z:Int,st [(1,.vars [lst di r]),(1,Bk.vars [V.d (D.int .i64 0)])] 1 (V.ptr 1 1 0 1) (I z)=some [(1,.vars [lst di r]),(1,.vars [I z])]:=fun z=>by simp[st,sto,aC,b6,okV]
  have g2:∀(z:Int)(x:Nat×Bk),ld1 [x,(1,.vars [I z])] (V.ptr 1 1 0 1)=some (I z):=fun z x=>by simp[ld1,aC]
  simp only[Mn]at h0 h1;simp(disch:=try exact ac)[s2,g2];by_cases c1:piv r<=b
  .rw[if_pos (.inl c1)]at h0 h1;simp(disch:=try exact ac)[c1,s2,g2];exact h1 rfl _
  .obtain⟨p,hpp⟩:∃p:Nat,piv r=p:=⟨(piv r).toNat,aa⟩;have hpr:p<r.length:=aa;rw[hpp]at h0 h1 c1 ⊢;rw[Int.toNat_natCast]at h0 h1;have i3:∀h:Hp,ixV h 1 (lst di r) (I p)=some (.dptr (r.map di) p):=fun h=>iC di r h rfl hpr
   have i4:∀h:Hp,ld1 h (.dptr (r.map di) p)=some (I (nth 0 r p)):=fun h=>fB di 0 r h hpr
   by_cases c2:nth 0 r p<0
   .rw[if_pos (.inr c2)]at h0 h1;simp(disch:=try exact ac)[c1,c2,s2,g2,g1,i3,i4];exact h1 rfl _
   .rw[if_neg (by simp only[not_or];exact⟨c1,c2⟩)]at h0 h1
    have sl:∀h:Hp,slV h 1 (mat m) none (some (I a.length))=some (mat a):=fun h=>by
     have:=aaa row m (h:=h) (i:=a.length) (j:=a.length) aa rfl aa;rw[show mat m=lst row m from rfl,this,e];simp[mat]
    simp(disch:=try exact ac)[c1,c2,s2,g2,g1,i3,i4,sl];have hct:=Bs (g:=F.eD) (cs:=[.dptr [.int .i64 p] 0,.dptr [row r] 0]) (p:=upF p r) (fun x=>by simp[aw,aJ]) (by simp[aw,aJ]) a aa fun o ho=>aaJ hpr (by rw[hr o (by rw[e];simp[ho])];omega)
    refine vG (ds:=[mat a,.fn F.eD [] [.dptr [.int .i64 p] 0,.dptr [row r] 0]]) (h':=[(1,Bk.data 1 [row r] false true),(1,Bk.data 1 [.int .i64 p] false true)]) ?_ hct ?_
    .simp[aw,aJ,aC,b6,EW,lst,row,mat]
    .rw[show(if f9 (B (a.any (upF p r)))=true then[(1,Bk.vars [lst di r]),(1,Bk.vars [I (p:Int)])]else[(1,Bk.data 1 [row r] false true),(1,Bk.data 1 [.int .i64 p] false true)])=[(1,Bk.vars [lst di r]),(1,Bk.vars [I (p:Int)])]from rfl];by_cases c3:a.any (upF p r)=true
     .rw[if_pos c3]at h0 h1;simp(disch:=try exact ac)[c3];exact h1 rfl _
     .rw[if_neg c3]at h0 h1;have c3':a.any (upF p r)=false:=by simpa using c3
      have ih:=DG hm hc hr K q (a++[r]) p aa (by simp[e]) h0 h1;have e2:((a++[r]).length:Int)=(a.length:Int)+1:=af;rw[e2]at ih;simp(disch:=try exact ac)[c3',g2];exact⟨rfl,lo ih⟩
theorem IR{c:Nat}:∀{m:LLQ},IS c m=0->∀r∈m,r.length=c∧r.length<=12
 |[],_,r,hr=>by simp at hr
 | x::m,h,r,hr=>by
  simp only[IS]at h;split at h
  .omega
  .split at h
   .omega
   .split at h
    .omega
    .rename_i a1 a2 _;rcases Zt.1 hr with rfl|hr
     .exact⟨aa,aa⟩
     .exact IR h r hr
theorem NM(b:Bool)(z:Int)(h:Hp):out (.tup [B b,I z]) (.tup [B b,I z]) h:=⟨h,by simp[aJ,aw,norm]⟩
def hfB(m:LLQ):Bool:=decide (tcB m=0)&&Mn (-1) [] m
theorem Ml(hm:m.length<1000000)(hr:∀r∈m,r.length<1000000):CP Y F.ky [mat m] (.tup [B (hfB m),I (tcB m)]):=by
 refine zS ?_;simp only[ky];simp(disch:=try exact ac);refine cd (Pd hm hr) ?_ (by simp[aw,mat]);by_cases h:tcB m=0
 .have h12:¬12<m.length:=fun g=>by simp[tcB,g]at h
  have hl:=h;simp only[tcB,if_neg h12]at hl;have hc:=IR hl
  have hcl:m≠[]->(nth [] m 0).length<1000000:=fun e=>by
   have:0<m.length:=X4.2 e;exact hr _ (by rw[cF _ _ _ this];exact Yu this)
  have hfo:CP Y F.kx [mat m] (B (Mn (-1) [] m)):=by
   refine zR ?_;simp only[kx];have l1:bf (mat m)=some (I m.length):=rfl;simp(disch:=try exact ac)[l1];by_cases e:m=[]
   .subst e;refine lo (DG (c:=0) hm aa af _ [] [] (-1) aa rfl (fun e h=>?_) (fun e h=>?_))
    .simp(disch:=try exact ac);exact dX rfl
    .cases e
   .refine lo (DG hm (hcl e) (fun r hr=>(hc r hr).1) _ m [] (-1) aa rfl (fun e h=>?_) (fun e h=>?_))
    .simp(disch:=try exact ac);exact dX e.symm
    .simp(disch:=try exact ac);exact dX e.symm
  simp(disch:=try exact ac)[h];refine cd hfo ?_ (by simp[aw,mat]);have e:hfB m=Mn (-1) [] m:=by simp[hfB,h]
  rw[e,h];exact NM _ _ _
 .simp(disch:=try exact ac)[h];have e:hfB m=false:=by simp[hfB,h]
  rw[e];exact NM _ _ _
def J9(c:Int)(m:LLQ):Int:=if lcB c m≠0 then lcB c m else if hfB m=true then 0 else 7
theorem zO{c:Int}(hm:m.length<1000000)(hr:∀r∈m,r.length<1000000):CP Y F.iL [qH c m] (I (J9 c m)):=by
 refine Bb ?_;simp only[iL,qH];simp(disch:=try exact ac);refine cd (P4 hm hr) ?_ (by simp[aw,aJ,mat]);by_cases h:lcB c m=0
 .simp(disch:=try exact ac)[h];refine cd (Ml hm hr) ?_ (by simp[aw,mat]);by_cases h2:tcB m=0
  .by_cases h3:hfB m=true
   .simp(disch:=try exact ac)[h2,h3];exact aV (by simp[J9,h,h3])
   .have h3':hfB m=false:=by simpa using h3
    simp(disch:=try exact ac)[h2,h3'];exact aV (by simp[J9,h,h3'])
  .have h3':hfB m=false:=by simp[hfB,h2]
   simp(disch:=try exact ac)[h2,h3'];exact aV (by simp[J9,h,h3'])
 .simp(disch:=try exact ac)[h];exact aV (by simp[J9,h])
def zH(n:Int)(p:Mz):Hp:=[(1,.vars [I 0,nlV]),(1,.vars [I n,(acU 2).v p.length (p.map row)]),(acU 2).b p.length (p.map row)]
theorem Tm{m:Mz}{n:Int}(hm:m.length<1000)(hr:∀r∈m,r.length<1000000)(hz:∀r∈m,∀z∈r,-1000000000<=z∧z<=1000000000)(h0:Hp)(K:KL):∀(q p:Mz),m=p++q->K (.exit 0) [] (zH n m) ->
  lp (iA (CX Y) (.ptr 0 1 0 2) (.ptr 1 1 0 2) (sy m) (I m.length)) [] h0 [I p.length] (zH n p) K
 | [],p,e,hK=>by
  simp only[Zj]at e;subst e;refine ak ?_;have hlt:¬((m.length:Int)<(m.length:Int)):=aa;simp only[iA];simp(disch:=try exact ac)[hlt];exact hK
 | r::q,p,e,hK=>by
  refine ak ?_;have hlt:((p.length:Int)<(m.length:Int)):=by rw[e];simp;omega
  have hrm:r∈m:=by rw[e];simp
  have hpl:p.length<m.length:=aa;obtain⟨H,hH⟩:=nmQ (zH n p);have i1:ixV H 1 (sy m) (I p.length)=some (.dptr (m.map um) p.length):=by rw[e];exact Oe p r q H
  have i2:ld1 H (.dptr (m.map um) p.length)=some (lst sI r):=by rw[e];exact Oc p r q H
  rw[<-hH];simp only[iA];simp(disch:=try exact ac)[hlt,i1,i2];refine cd (PY (hz r hrm) (hr r hrm)) ?_;have f1:ld1 H (.ptr 1 1 1 2)=some ((acU 2).v p.length (p.map row)):=by rw[hH];simp[ld1,zH,aC]
  have hli:dW 1 [nPQ] [(0,lst di r)] H=some ([row r],H):=by simp[dW,gD,iW,toD,norm,lst,row]
  simp(disch:=try exact ac)[f1,hli];refine oP (acU 2) (by_:=24) (k:=1) (cs:=[row r]) aa (by rw[hH];rfl) (by simp[acU]) (by simp[acU]) rfl (by intro t ht;cases ht) aa (by simp[acU]) ?_
  have hs:H.set (acU 2).s ((acU 2).b (p.length+1) (p.map row++[row r]))=[(1,.vars [I 0,nlV]),(1,.vars [I n,(acU 2).v p.length (p.map row)]),(acU 2).b (p.length+1) (p.map row++[row r])]:=by rw[hH];rfl
  have hst:st [(1,.vars [I 0,nlV]),(1,.vars [I n,(acU 2).v p.length (p.map row)]),(acU 2).b (p.length+1) (p.map row++[row r])] 1 (.ptr 1 1 1 2) ((acU 2).v (p.length+1) (p.map row++[row r]))=some (zH n (p++[r])):=by
   simp[st,sto,aC,b6,okV,zH,Acc.v,Acc.b]
  have ih:=Tm hm hr hz h0 K q (p++[r]) (by simp[e]) hK;have e2:((p++[r]).length:Int)=(p.length:Int)+1:=af;rw[e2]at ih;rw[hs];simp only[Acc.v,Acc.b]at hst ⊢;simp(disch:=try exact ac)[hst];rw[fK];refine lo ?_;simpa[zH,Acc.v,Acc.b]using ih
theorem Dj{m:Mz}{n:Int}(hm:m.length<1000)(hr:∀r∈m,r.length<1000000)(hz:∀r∈m,∀z∈r,-1000000000<=z∧z<=1000000000):CP Y F.ek [sy m,I n] (.tup [qH n m,I 0]):=by
 refine uo ?_;simp only[ek];have l1:bf (sy m)=some (I m.length):=rfl;simp(disch:=try exact ac)[l1];refine lo (Tm hm hr hz _ _ m [] rfl ?_);have g1:ldA (zH n m) 2 (.ptr 1 1 0 2)=some (.agg [I n,(acU 2).v m.length (m.map row)]):=by simp[ldA,zH,aC]
 have okv:okV ((acU 2).v m.length (m.map row))=true:=by cases m<;>rfl
 have s1:st (zH n m) 2 (.ptr 0 1 0 2) (.agg [I n,(acU 2).v m.length (m.map row)])=some [(1,.vars [I n,(acU 2).v m.length (m.map row)]),(1,.vars [I n,(acU 2).v m.length (m.map row)]),(acU 2).b m.length (m.map row)]:=by
  simp[st,sto,zH,aC,b6,okv]
 have g2:ldA [(1,.vars [I n,(acU 2).v m.length (m.map row)]),(1,.vars [I n,(acU 2).v m.length (m.map row)]),(acU 2).b m.length (m.map row)] 2 (.ptr 0 1 0 2)=some (.agg [I n,(acU 2).v m.length (m.map row)]):=by simp[ldA,aC]
 show(bnd (ldA (zH n m) 2 (.ptr 1 1 0 2)) fun v7=>stD (zH n m) 2 (.ptr 0 1 0 2) v7 fun x h=>bnd (ldA h 2 (.ptr 0 1 0 2)) fun v9=>out (.tup [qH n m,I 0]) (.tup [v9,.d (.int .i64 0)]) h)
 simp only[g1,bnd,stD,s1,g2];obtain⟨h',e1,_⟩:=oO (acU 2) (L:=m.length) (cells:=m.map row) (h:=[(1,.vars [I n,(acU 2).v m.length (m.map row)]),(1,.vars [I n,(acU 2).v m.length (m.map row)]),(acU 2).b m.length (m.map row)]) rfl (by simp[acU]);refine⟨h',?_⟩;simp[aJ,aw,e1,qH,mat,lst,norm]
structure Im(n:Nat)(m:Mz):Prop where
 n0:0<n
 n12:n<=12
 ml:m.length<=12
 rl:∀r∈m,r.length=n
 sm:∀r∈m,∀z∈r,-1000000000<=z∧z<=1000000000
theorem XH{m z:Mz}(hB:Bd<=100000)(hl:J9 n m=0)(ho:Im n m)(hk:Mj Bd f n m=some z)(hz:Im n z):CP Y F.fM [qH n m] (.tup [qH n z,I 0]):=by
 refine uv ?_;simp only[fM,qH];simp(disch:=try exact ac);have hrl:∀r∈m,r.length<1000000:=fun r hr=>by rw[ho.rl r hr];have:=ho.n12;omega
 have hml:=ho.ml;have hn:=ho.n12;refine cd (args:=[qH n m]) (zO aa hrl) ?_ (by simp[aw,aJ,qH,mat]);have c1:=Dl (m:=m) ho.ml hrl (fun r hr z hz=>by have:=ho.sm r hr z hz;omega);have c2:=zP (m:=m) (n:=n) ho.n0 aa ho.rl aa hB hk;have c3:=Dj (m:=z) (n:=n) (by have:=hz.ml;omega) (fun r hr=>by rw[hz.rl r hr];omega) hz.sm
 simp(disch:=try exact ac)[hl];refine cd c1 ?_ (by simp[aw,mat]);simp(disch:=try exact ac);refine cd c2 ?_ (by simp[aw,aJ,sy]);simp(disch:=try exact ac);refine cd c3 ?_ (by simp[aw,aJ,sy]);have ok1:okV (mat z)=true:=rfl;simp(disch:=try exact ac)[qH,ok1];exact⟨_,by simp[aJ,aw,mat];rfl⟩
theorem WV{m y z:Mz}(hB:Bd<=100000)(hl:J9 n m=0)(ho:Im n m)(hk:Mj Bd f n m=some y)(hy:∀r∈y,r.length=n)(hyl:y.length<1000)(hk2:Mj Bd f n y=some z)(hz:Im n z):CP Y F.iT [qH n m] (.tup [qH n z,I 0]):=by
 refine xm ?_;simp only[iT,qH];simp(disch:=try exact ac);have hrl:∀r∈m,r.length<1000000:=fun r hr=>by rw[ho.rl r hr];have:=ho.n12;omega
 have hml:=ho.ml;have hn:=ho.n12;refine cd (args:=[qH n m]) (zO aa hrl) ?_ (by simp[aw,aJ,qH,mat]);have c1:=Dl (m:=m) ho.ml hrl (fun r hr z hz=>by have:=ho.sm r hr z hz;omega);have c2:=zP (m:=m) (n:=n) ho.n0 aa ho.rl aa hB hk;have c4:=zP (m:=y) (n:=n) ho.n0 aa hy hyl hB hk2
 have c3:=Dj (m:=z) (n:=n) (by have:=hz.ml;omega) (fun r hr=>by rw[hz.rl r hr];omega) hz.sm;simp(disch:=try exact ac)[hl];refine cd c1 ?_ (by simp[aw,mat]);simp(disch:=try exact ac);refine cd c2 ?_ (by simp[aw,aJ,sy]);simp(disch:=try exact ac);refine cd c4 ?_ (by simp[aw,aJ,sy])
 simp(disch:=try exact ac);refine cd c3 ?_ (by simp[aw,aJ,sy]);have ok1:okV (mat z)=true:=rfl;simp(disch:=try exact ac)[qH,ok1];exact⟨_,by simp[aJ,aw,mat];rfl⟩
theorem ag6{o:Option V}{v:V}{k:V->Prop}(h:o=some v)(hk:k v):bnd o k:=by rw[h];exact hk
def tpV(p:LiQ)(c w:Mz):V:=.agg [lst di p,mat c,mat w]
structure Bu(p:LiQ)(c w:Mz):Prop where
 pr:pcB p=0
 lc:Im p.length c
 lw:Im p.length w
 ch:J9 p.length c=0
 k1:∃B f,B<=100000∧Mj B f p.length c=some w∧Mj B f p.length w=some c
theorem O2(x y:LiQ)(hx:x.length<1000000)(hy:y.length<1000000):CP Y F.d9 [.d (row x),.d (row y)] (B (decide (x=y))):=by refine ui ?_;simp only[d9];simp(disch:=try exact ac);refine cd (args:=[lst di x,lst di y]) (AM aa aa) ?_ (by simp[aw]);exact dX rfl
theorem QV{m m':Mz}(hm:m.length<1000000)(hm':m'.length<1000000)(h2:∀r∈m,r.length<1000000)(h3:∀r∈m',r.length<1000000):CP Y F.gy [mat m,mat m'] (B (decide (m=m'))):=by refine w5 ?_;simp only[gy];simp(disch:=try exact ac);refine cd (Up (g:=F.d9) O2 hm hm' h2 h3) ?_ (by simp[aw,aJ,mat]);exact dX rfl
theorem Im.rl6{m:Mz}(h:Im n m):∀r∈m,r.length<1000000:=fun r hr=>by rw[h.rl r hr];have:=h.n12;omega
theorem Cn{p:LiQ}{c w:Mz}(h:Bu p c w):CP Y F.fu [tpV p c w] (I 0):=by
 refine ww ?_;simp only[fu,tpV];have hn:=h.lc.n12;have hcl:=h.lc.ml;have hwl:=h.lw.ml;have a1:=lJ (p:=p) aa;rw[h.pr]at a1;have a2:=zO (c:=p.length) (m:=c) aa h.lc.rl6;rw[h.ch]at a2;obtain⟨Bd,f,hB,k1,k2⟩:=h.k1;have a3:=WV hB h.ch h.lc k1 h.lw.rl aa k2 h.lc;have a4:=XH hB h.ch h.lc k1 h.lw
 have a5:CP Y F.jS [qH p.length c,qH p.length c] (B true):=by
  have:=P2 (c:=p.length) (c':=p.length) (m:=c) (m':=c) aa aa h.lc.rl6 h.lc.rl6;simpa using this
 have a6:CP Y F.gy [mat w,mat w] (B true):=by
  have:=QV (m:=w) (m':=w) aa aa h.lw.rl6 h.lw.rl6;simpa using this
 have l1:bf (lst di p)=some (I p.length):=rfl;simp(disch:=try exact ac);refine cd a1 ?_;have ok1:∀m:Mz,okV (lst row m)=true:=fun _=>rfl
 simp only[qH,mat]at a2 a3 a4 a5 a6;simp(disch:=try exact ac)[l1,ok1];refine cd a2 ?_ (by simp[aw,aJ]);simp(disch:=try exact ac);refine cd a3 ?_ (by simp[aw,aJ]);simp(disch:=try exact ac)[ok1];refine cd a5 ?_ (by simp[aw,aJ]);simp(disch:=try exact ac);refine cd a4 ?_ (by simp[aw,aJ])
 simp(disch:=try exact ac)[ok1];refine cd (args:=[lst row w,lst row w]) a6 ?_ (by simp[aw,aJ]);simp(disch:=try exact ac)
def tbB(n:Nat):Mz->Int
 |[]=>0
 |r::q=>if rcB r≠0 then rcB r else if r.length≠n then 5 else tbB n q
variable{p:LiQ}{c w:Mz}
theorem FD{m:Mz}(hm:m.length<1000000)(hr:∀r∈m,r.length<1000000)(e:Nat)(h0:Hp)(K:KL):∀(q a:Mz),m=a++q->(tbB p.length q=0->K (.exit 0) [] [(e,.vars [lst di p,mat c,mat w])])->(tbB p.length q≠0->K .ret [I (tbB p.length q)] [(e,.vars [lst di p,mat c,mat w])]) ->
  lp (jw (CX Y) (.ptr 0 e 0 3) (mat m) (I m.length)) [] h0 [I a.length] [(e,.vars [lst di p,mat c,mat w])] K
 | [],a,e1,h1,h2=>by
  simp only[Zj]at e1;subst e1;refine ak ?_;have hlt:¬((m.length:Int)<(m.length:Int)):=aa;simp only[jw];simp(disch:=try exact ac)[hlt];exact h1 rfl
 | r::q,a,e1,h1,h2=>by
  refine ak ?_;have hlt:((a.length:Int)<(m.length:Int)):=by rw[e1];simp;omega
  have hl:a.length<m.length:=aa;have hrm:r∈m:=by rw[e1];simp
  have i1:∀h:Hp,ixV h 1 (mat m) (I a.length)=some (.dptr (m.map row) a.length):=fun h=>by rw[e1];exact oC row a r q _ _
  have i2:∀h:Hp,ld1 h (.dptr (m.map row) a.length)=some (lst di r):=fun h=>by
   rw[lY row m _ hl];simp only[e1,Zn (Z7 _),Zd,Zi];rfl
  have l1:bf (lst di r)=some (I r.length):=rfl;have l2:bf (lst di p)=some (I p.length):=rfl;have g1:ld1 [(e,.vars [lst di p,mat c,mat w])] (.ptr 0 e 0 3)=some (lst di p):=by simp[ld1,aC]
  simp only[jw];simp(disch:=try exact ac)[hlt,i1,i2];refine cd (NA (by have:=hr r hrm;omega)) ?_;simp only[tbB]at h1 h2;by_cases c1:rcB r=0
  .rw[if_neg (by simp[c1])]at h1 h2;by_cases c2:r.length=p.length
   .rw[if_neg (by simp[c2])]at h1 h2;have c2':(r.length:Int)=(p.length:Int):=aa;simp(disch:=try exact ac)[c1,l1,l2,g1,c2'];rw[fK];have ih:=FD hm hr e h0 K q (a++[r]) (by simp[e1]) h1 h2;have e2:((a++[r]).length:Int)=(a.length:Int)+1:=af;rw[e2]at ih;exact lo ih
   .rw[if_pos c2]at h1 h2;have c2':¬(r.length:Int)=(p.length:Int):=aa;simp(disch:=try exact ac)[c1,l1,l2,g1,c2'];exact h2 ae
  .rw[if_pos c1]at h1 h2;simp(disch:=try exact ac)[c1];exact h2 c1
theorem Pe(h:Bu p c w){m:Mz}(hm:m.length<1000000)(hr:∀r∈m,r.length<1000000):CP Y F.gU [tpV p c w,mat m] (I (tbB p.length m)):=by
 refine wu ?_;simp only[gU,tpV];simp(disch:=try exact ac);refine cd (args:=[tpV p c w]) (Cn h) ?_ (by simp[aw,aJ,tpV,mat]);have l1:bf (mat m)=some (I m.length):=rfl;simp(disch:=try exact ac)[l1];refine lo (FD hm hr 1 _ _ m [] rfl (fun e=>?_) (fun e=>?_))
 .simp(disch:=try exact ac);exact aV e.symm
 .simp(disch:=try exact ac)
def z8:LiQ->LiQ->Int
 |x::xs,y::ys=>x*y+z8 xs ys
 |_,_=>0
def bd9(l:LiQ):Prop:=∀x∈l,-1000000000<=x∧x<=1000000000
theorem FA{x v:LiQ}(hl:v.length=x.length)(hn:x.length<=64)(hx:bd9 x)(hv:bd9 v)(h0 h:Hp)(K:KL):∀(q qv a av:LiQ)(s:Int),x=a++q->v=av++qv->av.length=a.length->s.natAbs<=1000000000000000000*a.length ->
  K (.exit 2) [S (itoa (s+z8 q qv))] h ->
  lp (je (CX Y) (lst di v) (lst di x) (I x.length)) [] h0 [S (itoa s),I a.length] h K
 | [],qv,a,av,s,e1,e2,e3,hs,hK=>by
  simp only[Zj]at e1;subst e1;refine ak ?_;have hlt:¬((x.length:Int)<(x.length:Int)):=aa;simp only[je];simp(disch:=try exact ac)[hlt];simpa[z8]using hK
 | b::q,[],a,av,s,e1,e2,e3,hs,hK=>by
  exfalso;rw[e1,e2]at hl;simp at hl;omega
 | b::q,d::qv,a,av,s,e1,e2,e3,hs,hK=>by
  refine ak ?_;have hlt:((a.length:Int)<(x.length:Int)):=by rw[e1];simp;omega
  have hax:a.length<x.length:=aa;have hal:a.length<64:=Z3 hax hn;have i1:ixV h 1 (lst di x) (I a.length)=some (.dptr (x.map di) a.length):=by rw[e1];exact oC di a b q _ _
  have i2:ld1 h (.dptr (x.map di) a.length)=some (I b):=by
   rw[lY di x _ aa];simp only[e1,Zn (Z7 _),Zd,Zi];rfl
  have i3:ixV h 1 (lst di v) (I a.length)=some (.dptr (v.map di) a.length):=by rw[e2,<-e3];exact oC di av d qv _ _
  have i4:ld1 h (.dptr (v.map di) a.length)=some (I d):=by
   rw[lY di v _ aa];simp only[e2,<-e3,Zn (Z7 _),Zd,Zi];rfl
  have hb:=hx b (by rw[e1];simp);have hd:=hv d (by rw[e2];simp);have n18:∀z:Int,z.natAbs<10^30->ndg z.natAbs<400000:=fun z hz=>Zh (cS hz ae) ae
  have h3:(b*d).natAbs<=1000000000*1000000000:=by
   rw[Y9];exact Za aa aa
  have hp:(10:Nat)^30=1000000000000000000000000000000:=ae;simp only[je];simp(disch:=try exact ac)[hlt,i1,i2];refine cd (kt (z:=b) aa aa) ?_;simp(disch:=try exact ac)[i3,i4];refine cd (kt (z:=d) aa aa) ?_;simp(disch:=try exact ac)
  refine cd (nm (z:=b) (w:=d) (n18 _ aa) (n18 _ aa)) ?_;simp(disch:=try exact ac);refine cd (rR (z:=s) (w:=b*d) (by have:=n18 s aa;omega) (by have:=n18 (b*d) aa;omega)) ?_;have h4:=Wu s (b*d)
  have ih:=FA hl hn hx hv h0 h K q qv (a++[b]) (av++[d]) (s+b*d) (by simp[e1]) (by simp[e2]) (by simp[e3]) aM (by
   have:s+b*d+z8 q qv=s+z8 (b::q) (d::qv):=by simp only[z8];omega
   rw[this];exact hK)
  have e4:((a++[b]).length:Int)=(a.length:Int)+1:=af;rw[e4]at ih;simp(disch:=try exact ac);rw[fK];exact lo ih
def de(w:Mz)(x:LiQ):LiQ:=w.map fun v=>z8 x v
theorem FB{x:LiQ}{w:Mz}(hw:w.length<1000)(hl:∀v∈w,v.length=x.length)(hn:x.length<=64)(hx:bd9 x)(hv:∀v∈w,bd9 v)(b0:Nat×Bk)(h0:Hp)(K:KL):∀(q a:Mz),w=a++q ->
  K (.exit 0) [(acU 1).v w.length ((de w x).map sI)] [b0,(acU 1).b w.length ((de w x).map sI)] ->
  lp (jf (CX Y) (lst di x) (mat w) (I w.length)) [] h0 [(acU 1).v a.length ((de a x).map sI),I a.length] [b0,(acU 1).b a.length ((de a x).map sI)] K
 | [],a,e,hK=>by
  simp only[Zj]at e;subst e;refine ak ?_;have hlt:¬((w.length:Int)<(w.length:Int)):=aa;simp only[jf];simp(disch:=try exact ac)[hlt];exact hK
 | v::q,a,e,hK=>by
  refine ak ?_;have hlt:((a.length:Int)<(w.length:Int)):=by rw[e];simp;omega
  have hal:a.length<w.length:=aa;have hvm:v∈w:=by rw[e];simp
  have i1:∀h:Hp,ixV h 1 (mat w) (I a.length)=some (.dptr (w.map row) a.length):=fun h=>by rw[e];exact oC row a v q _ _
  have i2:∀h:Hp,ld1 h (.dptr (w.map row) a.length)=some (lst di v):=fun h=>by
   rw[lY row w _ hal];simp only[e,Zn (Z7 _),Zd,Zi];rfl
  have l1:bf (lst di x)=some (I x.length):=rfl;obtain⟨H,hH⟩:∃H:Hp,H=[b0,(acU 1).b a.length ((de a x).map sI)]:=⟨_,rfl⟩;rw[<-hH];simp only[jf];simp(disch:=try exact ac)[hlt,i1,i2,l1]
  have e48:V.d (D.str [48])=S (itoa 0):=by
   have:itoa 0=[48]:=aD;rw[this]
  rw[e48];refine lo (FA (hl v hvm) hn hx (hv v hvm) _ H _ x v [] [] 0 rfl rfl rfl af ?_);have hli:dW 1 [.str []] [(0,S (itoa (z8 x v)))] H=some ([sI (z8 x v)],H):=by simp[dW,gD,iW,toD,norm,sI]
  simp(disch:=try exact ac)[hli];have ez:de (a++[v]) x=de a x++[z8 x v]:=by simp[de]
  refine oP (acU 1) (by_:=16) (k:=1) (cs:=[sI (z8 x v)]) aa (by rw[hH];rfl) (by simp[acU,de]) (by simp[acU]) rfl (by intro t ht;cases ht) aa (by simp[acU]) ?_;have hs:H.set (acU 1).s ((acU 1).b (a.length+1) ((de a x).map sI++[sI (z8 x v)]))=[b0,(acU 1).b (a.length+1) ((de a x).map sI++[sI (z8 x v)])]:=by rw[hH];rfl
  rw[hs];have ih:=FB hw hl hn hx hv b0 h0 K q (a++[v]) (by simp[e]) hK;have e4:((a++[v]).length:Int)=(a.length:Int)+1:=af;rw[e4,ez,List.map_append,Zs]at ih;simp(disch:=try exact ac);rw[fK];refine lo ?_;simpa[Acc.v,Acc.b]using ih
theorem Pb(h:Bu p c w)(hl:x.length=p.length)(hx:bd9 x):CP Y F.gr [tpV p c w,lst di x] (lst sI (de w x)):=by
 refine uR ?_;simp only[gr,tpV];have l1:bf (mat w)=some (I w.length):=rfl;have hn:=h.lc.n12;have hwl:=h.lw.ml;simp(disch:=try exact ac)[l1];refine lo (FB aa (fun v hv=>by rw[h.lw.rl v hv,hl]) aa hx (fun v hv=>h.lw.sm v hv) _ _ _ w [] rfl ?_);simp(disch:=try exact ac)
 obtain⟨h',e1,_⟩:=oO (acU 1) (L:=w.length) (cells:=(de w x).map sI) (h:=[(1,.vars [lst di p,mat c,mat w]),(acU 1).b w.length ((de w x).map sI)]) rfl (by simp[acU,de]);refine⟨h',?_⟩;rw[e1];simp[lst,de]
theorem GK{l:LiQ}(hn:l.length<1000)(hz:bd9 l)(b0:Nat×Bk)(h0:Hp)(K:KL):∀(q a:LiQ),l=a++q->K (.exit 0) [(acU 1).v l.length (l.map di)] [b0,(acU 1).b l.length (l.map di)] ->
  lp (jg (CX Y) (lst sI l) (I l.length)) [] h0 [(acU 1).v a.length (a.map di),I a.length] [b0,(acU 1).b a.length (a.map di)] K
 | [],a,e,hK=>by
  simp only[Zj]at e;subst e;refine ak ?_;have hlt:¬((l.length:Int)<(l.length:Int)):=aa;simp only[jg];simp(disch:=try exact ac)[hlt];exact hK
 | z::q,a,e,hK=>by
  refine ak ?_;have hlt:((a.length:Int)<(l.length:Int)):=by rw[e];simp;omega
  have hal:a.length<l.length:=aa;have hzb:=hz z (by rw[e];simp);have i1:∀h:Hp,ixV h 1 (lst sI l) (I a.length)=some (.dptr (l.map sI) a.length):=fun h=>by rw[e];exact oC sI a z q _ _
  have i2:∀h:Hp,ld1 h (.dptr (l.map sI) a.length)=some (S (itoa z)):=fun h=>by
   rw[lY sI l _ hal];simp only[e,Zn (Z7 _),Zd,Zi];rfl
  obtain⟨H,hH⟩:∃H:Hp,H=[b0,(acU 1).b a.length (a.map di)]:=⟨_,rfl⟩;rw[<-hH];have g1:¬(z>1000000000):=aa;have g2:¬(z < -1000000000):=aa;have hli:dW 1 [.int .i64 0] [(0,I z)] H=some ([di z],H):=by simp[dW,gD,iW,toD,norm];rfl
  simp only[jg];simp(disch:=try exact ac)[hlt,i1,i2];refine cd (zj (z:=z) aa) ?_;simp(disch:=try exact ac)[g1,g2,hli];refine oP (acU 1) (by_:=8) (k:=1) (cs:=[di z]) aa (by rw[hH];rfl) (by simp[acU]) (by simp[acU]) rfl (by intro t ht;cases ht) aa (by simp[acU]) ?_
  have hs:H.set (acU 1).s ((acU 1).b (a.length+1) (a.map di++[di z]))=[b0,(acU 1).b (a.length+1) (a.map di++[di z])]:=by rw[hH];rfl
  rw[hs];have ih:=GK hn hz b0 h0 K q (a++[z]) (by simp[e]) hK;have e4:((a++[z]).length:Int)=(a.length:Int)+1:=af;rw[e4,List.map_append,Zs]at ih;simp(disch:=try exact ac);rw[fK];refine lo ?_;simpa[Acc.v,Acc.b]using ih
theorem QK(h:Bu p c w)(hl:x.length=p.length)(hx:bd9 x)(hr:rcB x=0)(hz:bd9 (de w x)):CP Y F.gz [tpV p c w,lst di x] (.tup [lst di (de w x),I 0]):=by
 refine uS ?_;simp only[gz,tpV];have hn:=h.lc.n12;have hwl:=h.lw.ml;have hli:dW 1 [nPQ] [(0,lst di x)] [(1,Bk.vars [lst di p,mat c,mat w]),(0,Bk.none)]=some ([row x],[(1,Bk.vars [lst di p,mat c,mat w]),(0,Bk.none)]):=by simp[dW,gD,iW,toD,norm,lst,row]
 have tb:tbB p.length [x]=0:=by simp[tbB,hr,hl]
 have b1:=Pe h (m:=[x]) af aM;rw[tb]at b1;simp(disch:=try exact ac)[hli];refine cd (args:=[tpV p c w,mat [x]]) b1 ?_ (by simp[aw,aJ,tpV,mat]);simp(disch:=try exact ac);refine cd (args:=[tpV p c w,lst di x]) (Pb h hl hx) ?_ (by simp[aw,aJ,tpV,mat]);have l1:bf (lst sI (de w x))=some (I (de w x).length):=rfl
 simp(disch:=try exact ac)[l1];refine lo (GK (by simp[de];omega) hz _ _ _ (de w x) [] rfl ?_);simp(disch:=try exact ac);obtain⟨h',e1,_⟩:=oO (acU 1) (L:=(de w x).length) (cells:=(de w x).map di) (h:=[(1,.vars [lst di p,mat c,mat w]),(acU 1).b (de w x).length ((de w x).map di)]) rfl (by simp[acU]);refine⟨h',?_⟩
 simp only[aJ,aw,e1,norm];rfl
def p13(k:Nat):LiQ:=agb.getD (k%10) []
theorem V5{d:Int}(hd:d≠0)(h1 : -9223372036854775808<z)(h2:z<9223372036854775808)(h3 : -9223372036854775808<d)(h4:d<9223372036854775808):CP Y F.fA [I z,I d] (.agg (qT (jq z d))):=by refine wC ?_;have fo:CP Y F.dS [I z,I d] (.tup [.agg [S (itoa (jq z d).1),S (ai (jq z d).2)],I 0]):=sF hd h1 h2 h3 h4;simp[fA];refine cd fo ?_;simp;exact jE rfl rfl
def Mx:LiQ:=[1,2,3,4,6,12]
def uf(b:Nat):Int:=Mx.getD (b%6) 1
theorem KE(b:Nat):uf b=1∨uf b=2∨uf b=3∨uf b=4∨uf b=6∨uf b=12:=by unfold uf;have h:b%6<6:=Y5 _ ae;generalize b%6=j at *;have:j=0∨j=1∨j=2∨j=3∨j=4∨j=5:=aa;rcases this with rfl|rfl|rfl|rfl|rfl|rfl<;>simp[Mx]
def frq(a:Int)(b:Nat):Q:=jq (a.tmod 41) (uf b)
theorem EU{a:Int}{b:Nat}(ha : -128<=a∧a<=127)(hb:b<256):CP Y F.dC [.agg [.d (.int .i8 a),.d (.int .u8 b)]] (.agg (qT (frq a b))):=by
 refine rY ?_;have r1 : -41<a.tmod 41:=Int.lt_tmod_of_pos a ae;have r2:=Int.tmod_lt_of_pos a (b:=41) ae;have hd:=KE b;have pt:CP Y F.fA [I (a.tmod 41),I (uf b)] (.agg [S (itoa (frq a b).1),S (ai (frq a b).2)]):=V5 (z:=a.tmod 41) (d:=uf b) aa aa aa aa aa
 have hkk:b%6<6:=Y5 _ ae;have i1:=fun H:Hp=>mK di Mx H (k:=.u8) (i:=((b%6:Nat):Int)) aa (by show((b%6:Nat):Int)<6;omega)
 have i2:=fun H:Hp=>fB di 1 Mx H (j:=b%6) hkk
 have hn:nth 1 Mx (b%6)=uf b:=rfl
 have m1:biI .rem (.d (.int .u8 (b:Int))) (.d (.int .u8 6))=some (.d (.int .u8 ((b%6:Nat):Int))):=by
  rw[OM aa,Zz aa];congr 3
 rw[hn]at i2;simp only[Int.toNat_natCast]at i1;obtain⟨c,hc⟩:=nmQ (Mx.map di)
 have i1':∀H:Hp,ixV H 1 (.d (.sl 6 c)) (.d (.int .u8 ((b%6:Nat):Int)))=some (.dptr c (b%6)):=fun H=>by
  have:=i1 H;rw[<-hc]at this;rw[<-this,hc];rfl
 have i2':∀H:Hp,ld1 H (.dptr c (b%6))=some (I (uf b)):=fun H=>by rw[hc];exact i2 H
 have hl6:∀H:Hp,dW 6 [D.int IntKind.i64 0] [(0,V.d (D.int IntKind.i64 1)),(1,V.d (D.int IntKind.i64 2)),(2,V.d (D.int IntKind.i64 3)),(3,V.d (D.int IntKind.i64 4)),(4,V.d (D.int IntKind.i64 6)),(5,V.d (D.int IntKind.i64 12))] H=some (c,H):=fun H=>by
  rw[hc];simp[dW,gD,iW,toD,di,Mx]
 have hm:((b:Int).tmod 6)=(b:Int)%6:=Zz aa;have i1'':∀H:Hp,ixV H 1 (.d (.sl 6 c)) (.d (.int .u8 ((b:Int)%6)))=some (.dptr c (b%6)):=i1';simp(disch:=try exact ac)[dC,hl6,hm,i1'',i2'];refine cd pt ?_;simp;exact jE rfl rfl
def se(e:List (Int×Nat)):LwQ:=e.flatMap fun x=>[.d (.int .i8 x.1),.d (.int .u8 x.2)]
def acM:Acc:=⟨2,0,2,.none⟩
def oR(k:Nat)(e:List (Int×Nat)):List Q:=(e.take k).map fun x=>frq x.1 x.2
def tT(k:Nat)(e:List (Int×Nat)):LdQ:=((oR k e).map tx).flatMap bg
def mkH(e:List (Int×Nat))(i:Nat):Hp:=[(1,.vars (se e)),(1,.data 2 [] true false),acM.b i (tT i e)]
def mkV(e:List (Int×Nat))(i:Nat):V:=if i=0 then .ref 1 1 0 0 0 0 else acM.v i (tT i e)
theorem SV:∀e:List (Int×Nat),offB [] (.vars (se e))=true
 |[]=>rfl
 | x::e=>by
  have:=SV e;rw[FZ]at this ⊢;simp only[se,Xb,List.cons_append,List.nil_append,gW,oA]at this ⊢;simpa[se]using this
theorem app0{y:V}{cs:LdQ}{x0:Nat×Bk}{q:kkQ}{u:PU q}(hcs:cs.length=2)(hy:∀h,cellsOf h y=some (1,cs))(hyn:∀t,y≠.d (.str t))(hq:q (acM.v 1 cs) [x0,(1,.data 2 [] true false),acM.b 1 cs]) :
  rh (apV false 2 2 32 (.ref 1 1 0 0 0 0) y [x0,(1,.data 2 [] true false),nnQ]) q u:=by
 show apV false 2 2 32 (.ref 1 1 0 0 0 0) y [x0,(1,.data 2 [] true false),nnQ] q
 have e1:apV false 2 2 32 (.ref 1 1 0 0 0 0) y [x0,(1,.data 2 [] true false),nnQ] q=apC false 2 2 32 (.ref 1 1 0 0 0 0) 1 cs [x0,(1,.data 2 [] true false),nnQ] q:=by
  unfold apV;split
  .rename_i t;exact absurd rfl (hyn t)
  .rw[hy];simp only[hcs,if_true]
 rw[e1];unfold apC;rw[if_neg ae];simp only[aC];simp[hcs,new];simpa[acM,Acc.v,Acc.b,hcs]using hq
theorem adj{e:List (Int×Nat)}(he:e.length=4){x:Int×Nat}(hx:e[j]?=some x)(x1 x2:Nat×Bk):
  ixP 4 2 (.ptr 0 1 0 8) (I (j:Int))=some (.ptr 0 1 (j*2) 8)∧ldA [(1,.vars (se e)),x1,x2] 2 (.ptr 0 1 (j*2) 8)=some (.agg [.d (.int .i8 x.1),.d (.int .u8 x.2)]):=by
 match e,he with
 | [a,b,c,d],_=>
  have hj:j<4:=by
   rcases Zl j 4 with h|h
   .exact h
   .rw[List.getElem?_eq_none (by simpa using h)]at hx;cases hx
  have:j=0∨j=1∨j=2∨j=3:=aa;rcases this with rfl|rfl|rfl|rfl<;>simp at hx<;>subst hx<;>exact⟨rfl,rfl⟩
theorem F6{p:LiQ}{e:List (Int×Nat)}(he:e.length=4)(hb:∀x∈e,(-128<=x.1∧x.1<=127)∧x.2<256)(hp:p.length<=4)(k:KL)(h0:Hp)(hh:h0.length=3):∀(f i:Nat),i+f=p.length ->
  k (.exit 0) [mkV e p.length] (mkH e p.length) ->
  lp (jC (CX Y) (lst di p) (.ptr 0 1 0 8)) [] h0 [mkV e i,I i] (mkH e i) k
 | 0,i,hi,hk=>by
  have g:¬(i:Int)<(p.length:Int):=aa;have:i=p.length:=aa;subst this;have l1:bf (lst di p)=some (I p.length):=rfl;refine ak ?_;simp[jC,l1];exact hk
 | f+1,i,hi,hk=>by
  have g:(i:Int)<(p.length:Int):=aa;have l1:bf (lst di p)=some (I p.length):=rfl;have ex:∃x,e[i]?=some x:=⟨_,List.getElem?_eq_getElem aa⟩;obtain⟨x,hx⟩:=ex;obtain⟨⟨b1,b2⟩,b3⟩:=hb x (Xq hx);obtain⟨pa,pb⟩:=adj he hx (1,.data 2 [] true false) (acM.b i (tT i e))
  have fr:CP Y F.dC [.agg [.d (.int .i8 x.1),.d (.int .u8 x.2)]] (.agg (qT (frq x.1 x.2))):=EU ⟨b1,b2⟩ b3;have ih:=F6 he hb hp k h0 hh f (i+1) aa hk;have r4:(i:Int).tmod 4=(i:Int):=Int.tmod_eq_of_lt aa aa
  have es:tT (i+1) e=tT i e++bg (tx (frq x.1 x.2)):=by
   unfold tT oR;rw[List.take_add_one,hx];simp
  have lq:∀H,dW 1 [D.str [],D.str []] [(0,.agg (qT (frq x.1 x.2)))] H=some (bg (tx (frq x.1 x.2)),H):=fun H=>TA _ H
  have hre:∀y:Hp,y.length=3->aL [] 0 h0 y=y:=fun y hy=>pf 0 h0 y aa
  have lce:(tT i e).length=i*2:=by
   unfold tT;rw[gP bg bG,List.length_map];simp[oR];omega
  have lt2:(bg (tx (frq x.1 x.2))).length=2:=bG _;refine ak ?_;simp[jC,l1,g,r4,mkH,pa,pb];refine cd fr ?_ (by simp[aw,aJ]);simp[lq];have off1:offB [] (.data 2 [] true false)=true:=rfl;have off2:∀cs,offB [] (.data 2 cs false false)=true:=fun cs=>rfl
  have hpt:=SV e;by_cases h0i:i=0
  .subst h0i;have ce0:tT 0 e=[]:=by simp[tT,oR]
   have e1:tT 1 e=bg (tx (frq x.1 x.2)):=by rw[es,ce0];rfl
   rw[ce0]
   show rh (apV false 2 2 32 (.ref 1 1 0 0 0 0) _ [_,_,nnQ]) _ _
   refine app0 lt2 (fun h=>rfl) (fun t e=>by cases e) ?_;rw[<-e1];simp[hre,clean,gW,Da,C9,gG,oA,off1,off2,hpt,acM,Acc.v,Acc.b];simpa[mkV,mkH,acM,Acc.v,Acc.b]using ih
  .have ei:mkV e i=acM.v i (tT i e):=by unfold mkV;rw[if_neg h0i]
   have ei1:mkV e (i+1)=acM.v (i+1) (tT (i+1) e):=by unfold mkV;rw[if_neg aa]
   have b6:∀x y z w:Nat×Bk,([x,y,z]:Hp).set acM.s w=[x,y,w]:=fun x y z w=>rfl
   have ev:∀c,acM.v (i+1) c=.ref acM.s (acM.e+1) 0 (i+1) (i+1) c.length:=fun c=>rfl
   have eb:∀c,acM.b (i+1) c=(acM.e+1,.data acM.n c false false):=fun c=>rfl
   rw[ei];refine oP acM (k:=1) aa rfl lce lt2 rfl (fun t e=>by cases e) aa ae ?_;rw[ei1,es]at ih;unfold mkH at ih;rw[es]at ih;simp(disch:=try exact ac)[b6,hre,clean,gW,Da,C9,gG,oA,off1,off2,hpt,ev,eb];refine⟨rfl,?_⟩;simpa[ev,eb]using ih
theorem zF{p:LiQ}{e:List (Int×Nat)}(he:e.length=4)(hb:∀x∈e,(-128<=x.1∧x.1<=127)∧x.2<256)(hp:p.length<=4)(hl:0<p.length):CP Y F.eB [lst di p,.agg (se e)] (szV (oR p.length e)):=by
 refine wD ?_
 have lce:(tT p.length e).length=p.length*2:=by
  unfold tT;rw[gP bg bG,List.length_map];simp[oR];omega
 have hv:mkV e p.length=acM.v p.length (tT p.length e):=by unfold mkV;rw[if_neg aa]
 have ls:((oR p.length e).map tx).length=p.length:=by simp[oR];omega
 have hl:=F6 (p:=p) he hb hp (exK [((.exit 0),fun l3 h=>out (szV (oR p.length e)) (ge l3 0) h)]) (mkH e 0) rfl p.length 0 aa (by
  obtain⟨h',q1,_⟩:=oO acM (L:=p.length) (cells:=tT p.length e) (h:=mkH e p.length) rfl lce;simp only[exK];have es:szV (oR p.length e)=.d (.sl p.length (tT p.length e)):=by unfold szV sv tT;rw[ls]
  rw[es];refine⟨h',?_⟩
  show aJ _ (mkV e p.length)=_
  rw[hv];exact q1)
 have hm:∃a b c d:Int×Nat,e=[a,b,c,d]:=by
  match e,he with
  |[a,b,c,d],_=>exact⟨a,b,c,d,rfl⟩
 obtain⟨a,b,c,d,rfl⟩:=hm;have hl0:∀H:Hp,dW 0 [D.str [],D.str []] [] H=some ([],H):=fun H=>by simp[dW,gD,iW]
 simp[eB,se,hl0];exact hl
theorem aaZ(a:Int)(b:Nat):∃z:Int,rp 12 (frq a b) z∧z.natAbs<=480:=by
 have r1 : -41<a.tmod 41:=Int.lt_tmod_of_pos a ae;have r2:=Int.tmod_lt_of_pos a (b:=41) ae;unfold frq;generalize a.tmod 41=z at *
 have key:∀d:Nat,0<d->d∣12->rp 12 (jq z (d:Int)) (z*(12/d:Nat))∧(z*(12/d:Nat)).natAbs<=480:=by
  intro d hd hdv;rw[Tn hd];obtain⟨c,hc⟩:=hdv;have e:12/d=c:=by rw[hc];exact Yd _ hd
  rw[e];have hc12:c<=12:=by rw[hc];exact Nat.le_mul_of_pos_left _ hd
  refine⟨LF hd ?_,?_⟩
  .have:((12:Nat):Int)=(c:Int)*(d:Int):=by rw[<-Int.natCast_mul,Zq,<-hc]
   rw[this,Int.mul_assoc]
  .rw[Y9,Int.natAbs_natCast];exact Za (by omega:z.natAbs<=40) hc12
 rcases KE b with h|h|h|h|h|h<;>rw[h]
 .exact⟨_,key 1 ae ae⟩
 .exact⟨_,key 2 ae ae⟩
 .exact⟨_,key 3 ae ae⟩
 .exact⟨_,key 4 ae ae⟩
 .exact⟨_,key 6 ae ae⟩
 .exact⟨_,key 12 ae ae⟩
theorem aew(k:Nat)(e:List (Int×Nat)):bdL 12 480 (oR k e):=by intro x hx;obtain⟨y,_,rfl⟩:=Zf.1 hx;exact aaZ y.1 y.2
def upI(x:Int->Int)(p:Int):Int:=if p=2 then x p else x p+1
def mM(x:Int->Int):List (Int×Int)->Int×Int->Int×Int
 |[],a=>a
 |t::ts,a=>mM x ts (if t.2<0 then(a.1+upI x t.1*t.2,a.2+x t.1*t.2)else(a.1+x t.1*t.2,a.2+upI x t.1*t.2))
theorem HR(n:Nat):∀(ts:List (Int×Int))(a:Int×Int),d8 n ts a=mM (lgI n) ts a
 |[],a=>rfl
 | t::ts,a=>by
  simp only[d8,mM,upI,lgI];exact HR n ts _
def fxI(p:Int):Int:=((yv p.toNat).getD 0:Nat)
theorem D7{most:Int}:∀(ts:List (Int×Int))(a r:Int×Int),nM most ts a=some r->r=mM fxI ts a
 | [],a,r,h=>by
  simp only[nM,Z9]at h;exact h.symm
 | t::ts,a,r,h=>by
  simp only[nM]at h;split at h
  .cases h
  .split at h
   .cases h
   .rename_i f hf;have hx:fxI t.1=(f:Int):=by unfold fxI;rw[hf];rfl
    have ih:=D7 ts _ r h;rw[ih,mM];congr 1;unfold upI;rw[hx];obtain⟨b,hb⟩:∃b:Int,b=if t.1=2 then(f:Int)else f+1:=⟨_,rfl⟩
    rw[<-hb];have hfb:(f:Int)<=b:=by rw[hb];split<;>omega
    by_cases hn:t.2<0
    .rw[if_pos hn];have:t.2*b<=t.2*f:=Int.mul_le_mul_of_nonpos_left aa hfb;rw[Int.min_eq_right this,Int.max_eq_left this,Xt b,Xt (f:Int)]
    .rw[if_neg hn];have:t.2*f<=t.2*b:=Int.mul_le_mul_of_nonneg_left hfb aa;rw[Int.min_eq_left this,Int.max_eq_right this,Xt b,Xt (f:Int)]
theorem we{x:Int->Int}:∀(ts:List (Int×Int))(a:Int×Int),mM x ts a=(a.1+(mM x ts (0,0)).1,a.2+(mM x ts (0,0)).2)
 |[],a=>by simp[mM]
 | t::ts,a=>by
  simp only[mM];split
  .rw[we ts,we ts (0+_,0+_)];simp only[Wy,We]
  .rw[we ts,we ts (0+_,0+_)];simp only[Wy,We]
theorem D6{x x':Int->Int}{K:Int}(hK:0<=K):∀ts:List (Int×Int),(∀t∈ts,x t.1*K<=x' t.1∧upI x' t.1<=upI x t.1*K)->(mM x ts (0,0)).1*K<=(mM x' ts (0,0)).1∧(mM x' ts (0,0)).2<=(mM x ts (0,0)).2*K
 |[],_=>by simp[mM]
 | t::ts,h=>by
  obtain⟨h1,h2⟩:=h t af;obtain⟨i1,i2⟩:=D6 hK ts fun u hu=>h u (by simp[hu])
  simp only[mM];rw[we ts,we (x:=x') ts];by_cases hn:t.2<0
  .rw[if_pos hn,if_pos hn];simp only[Wy,W4];have m1:=Int.mul_le_mul_of_nonpos_right h2 (by omega:t.2<=0);have m2:=Int.mul_le_mul_of_nonpos_right h1 (by omega:t.2<=0);rw[Yq]at m1 m2;constructor<;>omega
  .rw[if_neg hn,if_neg hn];simp only[Wy,W4];have m1:=Xx h1 (by omega:0<=t.2);have m2:=Xx h2 (by omega:0<=t.2);rw[Yq]at m1 m2;constructor<;>omega
def Hh(x:Int->Int)(K:Nat)(p:Int):Bool:=decide (x p*K<=lgI 2048 p)&&decide (upI (lgI 2048) p<=upI x p*K)
theorem Ak:∀p∈c6P,Hh fxI (2^2022) p=true∧Hh (lgI 64) (2^1984) p=true∧Hh (lgI 128) (2^1920) p=true∧Hh (lgI 256) (2^1792) p=true∧Hh (lgI 512) (2^1536) p=true∧Hh (lgI 1024) (2^1024) p=true:=aD
theorem S4{x:Int->Int}{K:Nat}(h:∀t∈ts,Hh x K t.1=true):(mM x ts (0,0)).1*K<=(mM (lgI 2048) ts (0,0)).1∧(mM (lgI 2048) ts (0,0)).2<=(mM x ts (0,0)).2*K:=by
 refine D6 aa ts fun t ht=>?_
 have:=h t ht;simp only[Hh,Z8,decide_eq_true_eq]at this;exact this
theorem Ag{x:Int->Int}{K:Nat}(h:∀t∈ts,Hh x K t.1=true)(hT:pZ (lgI 2048) ts≠0):
  (0<=(mM x ts (0,0)).1->(pZ (lgI 2048) ts).sign=1)∧((mM x ts (0,0)).2<=0->(pZ (lgI 2048) ts).sign = -1):=by
 obtain⟨n1,n2⟩:=S4 h;obtain⟨g1,g2,_⟩:=yz 2048 ts;rw[HR]at g1 g2;refine⟨fun h0=>?_,fun h0=>?_⟩
 .have:=Int.mul_nonneg h0 (by omega:(0:Int)<=K);exact Xm aa
 .have:=Int.mul_nonneg (a:=-(mM x ts (0,0)).2) (b:=(K:Int)) aa aa;rw[Int.neg_mul]at this;exact Xh aa
theorem UF(hT:pZ (lgI 2048) ts≠0):
  (0<=(d8 2048 ts (0,0)).1->(pZ (lgI 2048) ts).sign=1)∧((d8 2048 ts (0,0)).2<=0->(pZ (lgI 2048) ts).sign = -1):=by obtain⟨g1,g2,_⟩:=yz 2048 ts;exact⟨fun h0=>Xm aa,fun h0=>Xh aa⟩
theorem VL(hm:∀t∈ts,t.1∈c6P)(hn:(ts.map Prod.fst).Nodup)(h0:∀t∈ts,t.2≠0)(hl:ts.length<=6)(hb:∀t∈ts,t.2.natAbs<9223372036854775808):Jf ts=some (pZ (lgI 2048) ts).sign:=by
 cases ts with
 |nil=>rfl
 | cons t l=>
  obtain⟨ts,hts⟩:∃ts,ts=t::l:=⟨_,rfl⟩;have hne:ts≠[]:=by rw[hts];simp
  rw[<-hts]at hm hn h0 hl hb ⊢;have h1:=Na (C:=9223372036854775808) ts fun t ht=>Nat.le_of_lt (hb t ht)
  have h2:ts.length*9223372036854775808<=6*9223372036854775808:=Zv _ hl;have hb1:ze ts<=73786976294838206464:=aa
  have hT:pZ (lgI 2048) ts≠0:=by
   intro e;have hz:=F5 (n:=2048) OK rfl aaw hm hb1 (by rw[e];simp);rw[hts]at hz hm hn h0;have:=hz t.1 (hm t af);simp only[Zx,Wx]at hn;rw[cfT,if_pos rfl,H6 l hn.1]at this;exact h0 t af aa
  have dec:=VP (n:=2048) OK rfl aaw hm hn h0 hb1 hb1 hne;obtain⟨f1,f2⟩:=Ag (x:=fxI) (K:=2^2022) (fun t ht=>(Ak _ (hm t ht)).1) hT;have e:Jf ts=if pO ts≠0 then some (pO ts)else G3 ts 6 64:=by rw[hts];rfl
  rw[e];by_cases hq:pO ts≠0
  .rw[if_pos hq];unfold pO at hq ⊢;split at hq
   .exact absurd rfl hq
   .rename_i a ha;have ea:=D7 _ _ _ ha;rw[<-ea]at f1 f2;by_cases c1:0<=a.1
    .rw[if_pos c1,f1 c1]
    .rw[if_neg c1];rw[if_neg c1]at hq;by_cases c2:a.2<=0
     .rw[if_pos c2,f2 c2]
     .rw[if_neg c2]at hq;exact absurd rfl hq
  .rw[if_neg hq]
   have step:∀(r n:Nat)(nx:Option Int),(0<=(d8 n ts (0,0)).1->(pZ (lgI 2048) ts).sign=1)->((d8 n ts (0,0)).2<=0->(pZ (lgI 2048) ts).sign = -1)->(G3 ts r (n*2)=some (pZ (lgI 2048) ts).sign∨(0<=(d8 n ts (0,0)).1∨(d8 n ts (0,0)).2<=0))->G3 ts (r+1) n=some (pZ (lgI 2048) ts).sign:=by
    intro r n nx a1 a2 a3;unfold G3;by_cases c1:0<=(d8 n ts (0,0)).1
    .rw[if_pos c1,a1 c1]
    .rw[if_neg c1];by_cases c2:(d8 n ts (0,0)).2<=0
     .rw[if_pos c2,a2 c2]
     .rw[if_neg c2];rcases a3 with h|h|h
      .exact h
      .exact absurd h c1
      .exact absurd h c2
   have l64:=Ag (x:=lgI 64) (K:=2^1984) (fun t ht=>(Ak _ (hm t ht)).2.1) hT;have l128:=Ag (x:=lgI 128) (K:=2^1920) (fun t ht=>(Ak _ (hm t ht)).2.2.1) hT;have l256:=Ag (x:=lgI 256) (K:=2^1792) (fun t ht=>(Ak _ (hm t ht)).2.2.2.1) hT;have l512:=Ag (x:=lgI 512) (K:=2^1536) (fun t ht=>(Ak _ (hm t ht)).2.2.2.2.1) hT
   have l1024:=Ag (x:=lgI 1024) (K:=2^1024) (fun t ht=>(Ak _ (hm t ht)).2.2.2.2.2) hT;rw[<-HR]at l64 l128 l256 l512 l1024;have l2048:=UF hT
   exact step 5 64 none l64.1 l64.2 (.inl (step 4 128 none l128.1 l128.2 (.inl (step 3 256 none l256.1 l256.2 (.inl (step 2 512 none l512.1 l512.2 (.inl (step 1 1024 none l1024.1 l1024.2 (.inl (step 0 2048 none l2048.1 l2048.2 (.inr dec)))))))))))
def rpl(b:Nat):List Q->LiQ->Prop
 |x::s,a::r=>rp b x a∧rpl b s r
 |[],[]=>True
 |_,_=>False
def rr(z:Int):LiQ->LiQ->LiQ
 |a::r,c::t=>(a+z*c)::rr z r t
 |_,_=>[]
theorem G7{b:Nat}:∀{s:List Q}{r:LiQ},rpl b s r->r.length=s.length
 |[],[],_=>rfl
 |x::s,a::r,h=>by simp[G7 h.2]
 |[],_::_,h=>h.elim
 |_::_,[],h=>h.elim
theorem CM{b:Nat}(z:Int):∀{o s:List Q}{r t:LiQ},o.length=s.length->rpl b o r->rpl b s t->rpl b (xz (z,1) o s) (rr z r t)
 |[],[],[],[],_,_,_=>trivial
 | x::o,y::s,a::r,c::t,hl,h1,h2=>by
  simp only[xz,rr];exact⟨aa0 h1.1 (VV z h2.1),CM z (by simpa using hl) h1.2 h2.2⟩
 |[],_::_,_,_,hl,_,_=>by simp at hl
 |_::_,[],_,_,hl,_,_=>by simp at hl
 |[],[],_::_,_,_,h,_=>h.elim
 |[],[],[],_::_,_,_,h=>h.elim
 |_::_,_::_,[],_,_,h,_=>h.elim
 |_::_,_::_,_::_,[],_,_,h=>h.elim
theorem FN(b:Nat):∀n:Nat,rpl b (List.replicate n (0,1)) (List.replicate n 0)
 |0=>trivial
 | n+1=>by
  rw[List.replicate_succ,List.replicate_succ];exact⟨VU b,FN b n⟩
theorem zp{b:Nat}(m:Nat):∀{s:List Q}{r:LiQ},rpl b s r->rpl (b*m) s (r.map fun a=>a*m)
 |[],[],_=>trivial
 |x::s,a::r,h=>⟨RQ m h.1,zp m h.2⟩
 |[],_::_,h=>h.elim
 |_::_,[],h=>h.elim
theorem D8(z:Int):∀{r t L:LiQ},r.length=t.length->cM (rr z r t) L=cM r L+z*cM t L
 |[],[],L,_=>by simp[rr,cM]
 |a::r,c::t,[],_=>by simp[rr,cM]
 | a::r,c::t,l::L,h=>by
  simp only[rr,cM,D8 z (r:=r) (t:=t) (L:=L) (by simpa using h),W4,Int.mul_add,Int.mul_assoc];omega
 |[],_::_,_,h=>by simp at h
 |_::_,[],_,h=>by simp at h
theorem Gt:∀(n:Nat)(L:LiQ),cM (List.replicate n 0) L=0
 |0,L=>by simp[cM]
 |n+1,[]=>by simp[List.replicate_succ,cM]
 |n+1,l::L=>by simp[List.replicate_succ,cM,Gt n L]
theorem Ab(m:Int):∀(r L:LiQ),cM (r.map fun a=>a*m) L=cM r L*m
 |[],L=>by simp[cM]
 |a::r,[]=>by simp[cM]
 | a::r,l::L=>by
  simp only[Zx,cM,Ab m r L,W4];rw[Yq]
theorem Ci(z:Int):∀{r t:LiQ},r.length=t.length->(rr z r t).length=r.length
 |[],[],_=>rfl
 |a::r,c::t,h=>by simp[rr,Ci z (r:=r) (t:=t) (by simpa using h)]
 |[],_::_,h=>by simp at h
 |_::_,[],h=>by simp at h
theorem RP{b B:Nat}:∀{s:List Q}{r:LiQ},rpl b s r->(∀a∈r,a.natAbs<=B)->bdL b B s
 |[],[],_,_=>fun x hx=>by simp at hx
 | x::s,a::r,h,hb=>by
  have ih:=RP h.2 fun c hc=>hb c (by simp[hc])
  intro y hy;simp only[Zt]at hy;rcases hy with rfl|hy
  .exact⟨a,h.1,hb a af⟩
  .exact ih y hy
 |[],_::_,h,_=>h.elim
 |_::_,[],h,_=>h.elim
theorem Vd{b B:Nat}:∀{s:List Q},bdL b B s->∃r,rpl b s r∧∀a∈r,a.natAbs<=B
 |[],_=>⟨[],trivial,fun a h=>by simp at h⟩
 | x::s,h=>by
  obtain⟨a,h1,h2⟩:=h x af;obtain⟨r,h3,h4⟩:=Vd (s:=s) fun y hy=>h y (by simp[hy])
  refine⟨a::r,⟨h1,h3⟩,fun c hc=>?_⟩;simp only[Zt]at hc;rcases hc with rfl|hc
  .exact h2
  .exact h4 c hc
theorem IH{b d:Nat}(h:Int->Int)(hb:0<b)(hd:d∣b):∀{p:LiQ}{s:List Q}{r:LiQ},s.length=p.length->rpl b s r->(∀x∈s,x.2∣d)->pZ h (iI d p s)*((b/d:Nat):Int)=cM r (p.map h)
 |[],[],[],_,_,_=>by simp[iI,pZ,cM]
 | c::p,x::s,a::r,hl,hr,hv=>by
  have ih:=IH h hb hd (p:=p) (s:=s) (r:=r) (by simpa using hl) hr.2 fun y hy=>hv y (by simp[hy])
  have hx:=hv x af;have p1:=hr.1.1.1;have d0:0<d:=Nat.pos_of_dvd_of_pos hd hb
  have key:x.1*((d/x.2:Nat):Int)*((b/d:Nat):Int)=a:=by
   obtain⟨u,hu⟩:=hx;obtain⟨v,hv'⟩:=hd;have e1:d/x.2=u:=by rw[hu];exact Yd _ p1
   have e2:b/d=v:=by rw[hv'];exact Yd _ d0
   rw[e1,e2];have h2:=hr.1.2;rw[hv',hu,Int.natCast_mul,Int.natCast_mul]at h2;refine Int.eq_of_mul_eq_mul_right (a:=(x.2:Int)) aa ?_;rw[<-h2];simp only[Xt,Int.mul_left_comm,Int.mul_assoc]
  simp only[iI];split
  .rename_i h0;rw[h0]at key;simp only[Int.zero_mul]at key;rw[ih,Zx,cM,<-key];simp
  .rw[pZ,W4,ih,Zx,cM];simp only;rw[Yq,key]
 |[],_::_,_,hl,_,_=>by simp at hl
 |_::_,[],_,hl,_,_=>by simp at hl
 |[],[],_::_,_,h,_=>h.elim
 |_::_,_::_,[],_,h,_=>h.elim
theorem G1{k:Int}(hk:0<k):(z*k).sign=z.sign:=by rw[Int.sign_mul,Xm hk,Int.mul_one]
def L5(p:LiQ):LiQ:=p.map (lgI 2048)
theorem aaW{p:LiQ}{b B:Nat}(hp:in6 p)(hl:s.length=p.length)(hb:0<b)(hr:rpl b s r)(hB:∀a∈r,a.natAbs<=B)(hB2:B<9223372036854775808):G4 p s ((cM r (L5 p)).sign):=by
 have bd:=RP hr hB;have h1:=aaP hp hb bd hB2;have hd:∀x∈s,0<x.2:=fun x hx=>(aev hb bd x hx).1
 have hll:(tq p s).length<=6:=by
  have:=zc (d:=py 1 s) p s;have:=hp.2.1;unfold tq;omega
 have dv:∀x∈s,x.2∣py 1 s:=fun x hx=>(Eb (s:=s) (d:=1)).2 x hx
 have d0:0<py 1 s:=Ea ae hd;have dd:=Vg bd;have hs:=VL (Lh hp) (IN hp.1) (IP d0 fun x hx=>⟨hd x hx,dv x hx⟩) hll fun t ht=>(h1.2 t ht).2.2
 refine⟨abc h1,abY (Lh hp),?_⟩;rw[hs];have:=IH (lgI 2048) hb dd hl hr dv;unfold L5;rw[<-this,G1]
 .rfl
 .have:=Wd (W7 hb dd) d0;omega
theorem ad9{p:LiQ}{a b:List Q}{t:LiQ}{m B:Nat}(hp:in6 p)(la:a.length=p.length)(lb:b.length=p.length)(n0:0<n)(m0:0<m)(ha:rpl n a r)(hb:rpl m b t)(hA:∀x∈r,x.natAbs<=A)(hB:∀x∈t,x.natAbs<=B)(hC:A*m+B*n<9223372036854775808):
  G4 p (dfS p a b) ((cM r (L5 p)*m-cM t (L5 p)*n).sign):=by
 have lr:=G7 ha;have lt:=G7 hb;have r1:=zp m ha;have r2:=zp n hb;rw[Zq m n]at r2;have z:=FN (n*m) p.length;have s1:=CM 1 (by simp[la]) z r1;have s2:=CM (-1) (by rw[sT _ _ _ (by simp[la]),la,lb]) s1 r2;have e:xz (-1,1) (xz (1,1) (List.replicate p.length (0,1)) a) b=dfS p a b:=by simp[dfS,qx,EG]
 rw[e]at s2;have h1:(rr 1 (List.replicate p.length 0) (r.map fun a=>a*(m:Int))).length=p.length:=by rw[Ci _ (by simp[lr,la])];simp
 have hd:cM (rr (-1) (rr 1 (List.replicate p.length 0) (r.map fun a=>a*(m:Int))) (t.map fun a=>a*(n:Int))) (L5 p)=cM r (L5 p)*m-cM t (L5 p)*n:=by
  rw[D8 _ (by rw[h1];simp[lt,lb]),D8 _ (by simp[lr,la]),Gt,Ab,Ab];omega
 have ld:(dfS p a b).length=p.length:=by rw[<-e,sT _ _ _ (by rw[sT _ _ _ (by simp[la]),la,lb]),lb]
 rw[<-hd];refine aaW hp ld (Yj n0 m0) s2 (B:=A*m+B*n) ?_ hC
 have vb:∀(z:Int)(X Y:Nat)(u v:LiQ),(∀x∈u,x.natAbs<=X)->(∀x∈v,x.natAbs<=Y)->∀x∈rr z u v,x.natAbs<=X+z.natAbs*Y:=by
  intro z X Y u
  induction u with
  |nil=>intro v _ _ x hx;simp[rr]at hx
  | cons a u ih=>
   intro v h1 h2 x hx;cases v with
   |nil=>simp[rr]at hx
   | cons c v=>
    simp only[rr,Zt]at hx;rcases hx with rfl|hx
    .have q1:=h1 a af;have q2:=h2 c af;have q3:=Wu a (z*c);rw[Y9]at q3;have q4:=Zw z.natAbs q2;omega
    .exact ih v (fun y hy=>h1 y (by simp[hy])) (fun y hy=>h2 y (by simp[hy])) x hx
 have q1:∀x∈r.map (fun a=>a*(m:Int)),x.natAbs<=A*m:=fun x hx=>by
  obtain⟨y,hy,rfl⟩:=Zf.1 hx;rw[Y9,Int.natAbs_natCast];exact Zv _ (hA y hy)
 have q2:∀x∈t.map (fun a=>a*(n:Int)),x.natAbs<=B*n:=fun x hx=>by
  obtain⟨y,hy,rfl⟩:=Zf.1 hx;rw[Y9,Int.natAbs_natCast];exact Zv _ (hB y hy)
 have q3:=vb 1 0 (A*m) (List.replicate p.length 0) _ (fun x hx=>by rw[Wz]at hx;rw[hx.2];simp) q1;have q4:=vb (-1) _ (B*n) _ _ q3 q2;intro x hx;have:=q4 x hx;simpa using this
structure ag4(p:LiQ)(l:List Rw):Prop where
 pc:pcB p=0
 i6:in6 p
 hl:0<p.length
 rw:∀r∈l,r.length=p.length∧∀x∈r,x.natAbs<=9
def SY(b:Nat)(s:List Q):LiQ:=s.map fun x=>x.1*((b/x.2:Nat):Int)
theorem Np{b:Nat}:∀{s:List Q}{r:LiQ},rpl b s r->r=SY b s
 |[],[],_=>rfl
 | x::s,a::r,h=>by
  have ih:=Np h.2;obtain⟨⟨hx,e⟩,_⟩:=h;obtain⟨u,hu⟩:=G8 ⟨hx,e⟩;have p1:=hx.1;have e1:b/x.2=u:=by rw[hu];exact Yd _ p1
  have:a=x.1*(u:Int):=by
   refine Int.eq_of_mul_eq_mul_right (a:=(x.2:Int)) aa ?_;rw[<-e,hu,Int.natCast_mul,Int.mul_assoc,Xt (x.2:Int)]
  simp only[SY,Zx];rw[e1,this,ih];rfl
 |[],_::_,h=>h.elim
 |_::_,[],h=>h.elim
theorem NS{b B:Nat}(h:bdL b B s):rpl b s (SY b s)∧∀a∈SY b s,a.natAbs<=B:=by obtain⟨r,h1,h2⟩:=Vd h;have e:=Np h1;subst e;exact⟨h1,h2⟩
def vlS(p:LiQ)(n:Nat)(s:List Q):Int:=cM (SY n s) (L5 p)
theorem aei{p:LiQ}{a b:List Q}{m B:Nat}(hp:in6 p)(la:a.length=p.length)(lb:b.length=p.length)(n0:0<n)(m0:0<m)(ha:bdL n A a)(hb:bdL m B b)(hC:A*m+B*n<9223372036854775808):
  G4 p (dfS p a b) ((vlS p n a*m-vlS p m b*n).sign):=by obtain⟨h1,h2⟩:=NS ha;obtain⟨h3,h4⟩:=NS hb;exact ad9 hp la lb n0 m0 h1 h3 h2 h4 hC
def hq1(l:List Tx):Hp:=[(1,.data 2 (l.flatMap bg) true false)]
structure aeF(p:LiQ)(m:Nat)(bd:List Q):Prop where
 m0:0<m
 m1:m<=1000
 ln:bd.length=p.length
 bd:bdL m 1000 bd
theorem aeF.ok{p:LiQ}{m:Nat}(b:aeF p m bd):okS bd:=Ve b.m0 b.bd (by have:=b.m1;omega) aa
def pcS(p:LiQ):Prop:=pcB p=0∧∀x∈p,x∈c6P
def WU(m:LLQ):D:=.sl m.length (m.map row)
@[simp]theorem acr(m:LLQ):bf (.d (WU m))=some (I m.length):=rfl
abbrev Lk:=Int×Int
def lkC(x:Lk):LdQ:=[di x.1,di x.2]
def lkD(l:List Lk):D:=.sl l.length (l.flatMap lkC)
@[simp]theorem adJ(l:List Lk):bf (.d (lkD l))=some (I l.length):=rfl
def wkC(p:LiQ)(ch:List LLQ)(lk:List (List Lk)):LwQ:=[lst di p,lst WU ch,lst lkD lk]
def KN(n most:Nat):Int:=if n=0 then 13 else if most<n then 4 else 0
def US(p:LiQ):List LLQ->Int
 |[]=>0
 |c::l=>if KN c.length 12≠0 then KN c.length 12 else if mzB p c≠0 then mzB p c else US p l
def WY(a b:Nat)(x:Lk):Bool:=decide (0<=x.1)&&decide (x.1<a)&&decide (0<=x.2)&&decide (x.2<b)
def WZ(ch:List LLQ):Nat->List (List Lk)->Int
 |_,[]=>0
 |i,l::ls=>if KN l.length 12≠0 then KN l.length 12 else if l.all (WY (nth [] ch i).length (nth [] ch (i+1)).length)=true then WZ ch (i+1) ls else 3
def dcB(p:LiQ)(ch:List LLQ)(lk:List (List Lk)):Int:=
 if pcB p≠0 then pcB p else if KN ch.length 64≠0 then KN ch.length 64 else if US p ch≠0 then US p ch else if lk.length+1=ch.length then WZ ch 0 lk else 5
def bdR(B:Int)(r:LiQ):Prop:=∀x∈r,-B<=x∧x<=B
def EH(a b:LiQ):LiQ:=(a.zip b).map fun t=>t.1-t.2
theorem Rb{a b:LiQ}(h:b.length=a.length):(EH a b).length=a.length:=by simp[EH,h]
structure K5(n:Nat)(B:Int)(ch:List LLQ)(lk:List (List Lk)):Prop where
 len:lk.length+1=ch.length
 few:ch.length<=64
 rows:∀c∈ch,∀r∈c,r.length=n∧bdR B r
 cs:∀c∈ch,c.length<=12
 ls:∀l∈lk,l.length<=12
 ok:∀i<lk.length,(nth [] lk i).all (WY (nth [] ch i).length (nth [] ch (i+1)).length)=true
theorem Tv{a b:Nat}{x:Lk}:WY a b x=true↔(0<=x.1∧x.1<a)∧0<=x.2∧x.2<b:=by grind[WY]
def NW(ch:List LLQ)(i:Nat)(x:Lk):LiQ:=nth [] (nth [] ch i) x.1.toNat
def NU(ch:List LLQ)(i:Nat)(x:Lk):LiQ:=nth [] (nth [] ch (i+1)) x.2.toNat
theorem K5.notes{B:Int}{lk:List (List Lk)}(w:K5 n B ch lk)(hi:i<lk.length)(hj:j<(nth [] lk i).length):
  let x:=nth (0,0) (nth [] lk i) j
  (0<=x.1∧x.1<(nth [] ch i).length)∧(0<=x.2∧x.2<(nth [] ch (i+1)).length)∧((NW ch i x).length=n∧bdR B (NW ch i x))∧(NU ch i x).length=n∧bdR B (NU ch i x):=by intro x;have h:=Tv.1 (Z2.1 (w.ok i hi) x (eM hj));have hl:=w.len;refine⟨h.1,h.2,w.rows _ (eM aa) _ (eM aa),w.rows _ (eM aa) _ (eM aa)⟩
def J6(ch:List LLQ)(lk:List (List Lk))(i j:Nat):LiQ:=
 EH (NW ch i (nth (0,0) (nth [] lk i) j)) (NU ch i (nth (0,0) (nth [] lk i) j))
@[simp]theorem afK(h:Hp)(p:LiQ)(ch:List LLQ)(lk:List (List Lk)):aw h (wkC p ch lk)=some (wkC p ch lk,h):=rfl
def VT(ch:List LLQ)(lk:List (List Lk)):Nat->LiQ->List (List Lk)->LLQ
 |_,r,[]=>[r]
 |i,r,_::q=>r::VT ch lk (i+1) (Er r (J6 ch lk i 0)) q
def aa1(n:Nat)(ch:List LLQ)(lk:List (List Lk)):LLQ:=VT ch lk 0 (List.replicate n 0) lk
theorem Bz{B C:Int}:∀{a b:LiQ},bdR B a->bdR C b->bdR (B+C) (EH a b)
 |[],b,_,_=>by simp[EH,bdR]
 |x::a,[],_,_=>by simp[EH,bdR]
 | x::a,y::b,ha,hb=>by
  intro z hz;simp only[EH,List.zip_cons_cons,Zx,Zt]at hz;have h1:=ha x af;have h2:=hb y af;rcases hz with rfl|hz
  .omega
  .exact Bz (fun w hw=>ha w (by grind)) (fun w hw=>hb w (by grind)) z hz
theorem Ca{B C:Int}:∀{a b:LiQ},bdR B a->bdR C b->bdR (B+C) (Er a b)
 |[],b,_,_=>by simp[Er,bdR]
 |x::a,[],_,_=>by simp[Er,bdR]
 | x::a,y::b,ha,hb=>by
  intro z hz;simp only[Er,List.zip_cons_cons,Zx,Zt]at hz;have h1:=ha x af;have h2:=hb y af;rcases hz with rfl|hz
  .omega
  .exact Ca (fun w hw=>ha w (by grind)) (fun w hw=>hb w (by grind)) z hz
theorem K5.lead{B:Int}{lk:List (List Lk)}(w:K5 n B ch lk)(hi:i<lk.length)(hj:j<(nth [] lk i).length):(J6 ch lk i j).length=n∧bdR (B+B) (J6 ch lk i j):=by obtain⟨_,_,⟨n1,n2⟩,n3,n4⟩:=w.notes hi hj;exact⟨by unfold J6;rw[Rb aa];exact n1,Bz n2 n4⟩
def szI(b:Nat)(r:LiQ):List Q:=r.map fun a=>lX a b
def bdN(B:Nat)(r:LiQ):Prop:=∀a∈r,a.natAbs<=B
theorem KU{B C:Nat}:∀{r t:LiQ},bdN B r->bdN C t->bdN (B+C) (rr 1 r t)
 |[],t,_,_=>by intro a h;trivial
 |x::r,[],_,_=>by intro a h;trivial
 | x::r,y::t,hr,ht=>by
  have h1:=hr x af;have h2:=ht y af;intro a h;simp only[rr,Zt]at h;rcases h with rfl|h
  .omega
  .exact KU (fun u hu=>hr u (by grind)) (fun u hu=>ht u (by grind)) a h
def QG(p r:LiQ):LiQ:=r.map (ab9 ((cM r (L5 p)).sign) * ·)
theorem K4(p r:LiQ):(QG p r).length=r.length:=by simp[QG]
theorem Pq(z:Int):z.sign = -1∨z.sign=0∨z.sign=1:=by grind
theorem QH(z:Int):ab9 z.sign=z.sign:=by rcases Pq z with h|h|h<;>rw[h]<;>rfl
theorem OO{B:Nat}{p:LiQ}(h:bdN B r):bdN B (QG p r):=by
 intro a ha;obtain⟨x,hx,rfl⟩:=Zf.1 ha;have:=h x hx
 grind[QH]
structure Ad where
 p:LiQ
 ch:List LLQ
 lk:List (List Lk)
 cd:List LLQ
 w:Q
def adC(a:Ad):LwQ:=[lst di a.p,lst WU a.ch,lst lkD a.lk,lst WU a.cd,S (itoa a.w.1),S (ai a.w.2)]
@[simp]theorem afL(h:Hp)(a:Ad):aw h (adC a)=some (adC a,h):=rfl
structure sV(a:Ad):Prop where
 hp:pcS a.p
 wk:K5 a.p.length 8 a.ch a.lk
 lkn:∀l∈a.lk,0<l.length
 cne:∀c∈a.ch,0<c.length
 five:a.ch.length<=5
 cl:a.cd.length=a.ch.length
 cn:∀l∈a.cd,0<l.length∧l.length<=20
 cr:∀l∈a.cd,∀r∈l,r.length=a.p.length∧bdR 8 r
 w0:okQ a.w∧0<=a.w.1∧a.w.1<=1000∧a.w.2<=1000
theorem VF(h:bdR 1000 r):smR r=true:=by simp only[smR,Z2,Z8,decide_eq_true_eq];trivial
theorem En{B:Int}(h:bdR B r)(hc:B<=C):bdR C r:=fun x hx=>by have:=h x hx;omega
theorem aaz{B:Nat}(h:bdR B r):bdN B r:=fun x hx=>by have:=h x hx;omega
variable{a:Ad}
def V8(a:Ad)(i k:Nat):LiQ:=(QG a.p (nth [] (nth [] a.cd i) k)).map (· * a.w.1)
theorem sV.cand(G:sV a)(hi:i<a.cd.length)(hk:k<(nth [] a.cd i).length):(nth [] (nth [] a.cd i) k).length=a.p.length∧bdR 8 (nth [] (nth [] a.cd i) k):=
 G.cr _ (eM hi) _ (eM hk)
def aaY(a:Ad):LLQ:=aa1 a.p.length a.ch a.lk
def shR(a:Ad)(i k:Nat):LiQ:=Er (nth [] (aaY a) i) (nth [] (nth [] a.cd i) k)
theorem GJ{t:LiQ}(h:t.length=r.length):(Er r t).length=r.length:=by simp[Er,h]
theorem Nn{n:Nat}{ch:List LLQ}{lk:List (List Lk)}(w:K5 n 8 ch lk)(hne:∀l∈lk,0<l.length):∀(q d:List (List Lk))(r:LiQ),d++q=lk->r.length=n->bdR (16*d.length) r->∀j,j<=q.length->(nth [] (VT ch lk d.length r q) j).length=n∧bdR (16*(d.length+j:Nat)) (nth [] (VT ch lk d.length r q) j)
 | [],d,r,hd,hr,hb,j,hj=>by
  have:j=0:=by simpa using hj
  subst this;trivial
 |l::q,d,r,hd,hr,hb,0,hj=>⟨hr,hb⟩
 | l::q,d,r,hd,hr,hb,j+1,hj=>by
  have hdl:d.length<lk.length:=by rw[<-hd];simp
  have hlj:0<(nth [] lk d.length).length:=by rw[<-hd,BI];exact hne l (by grind)
  obtain⟨m1,m2⟩:=w.lead hdl hlj;have ih:=Nn w hne q (d++[l]) (Er r (J6 ch lk d.length 0)) (by grind) (by rw[GJ aa,hr]) (En (Ca hb m2) (by grind)) j (by grind);have e:(d++[l]).length=d.length+1:=af;rw[e]at ih;have e2:d.length+1+j=d.length+(j+1):=aa;rw[e2]at ih;exact ih
theorem sV.root(G:sV a)(hi:i<a.cd.length):(nth [] (aaY a) i).length=a.p.length∧bdR 64 (nth [] (aaY a) i):=by
 have hl:=G.wk.len;have hc:=G.cl;have h5:=G.five;obtain⟨h1,h2⟩:=Nn G.wk G.lkn a.lk [] (List.replicate a.p.length 0) rfl af (fun x hx=>by grind) i aa;refine⟨h1,En h2 ?_⟩
 grind
theorem sV.shift(G:sV a)(hi:i<a.cd.length)(hk:k<(nth [] a.cd i).length):(shR a i k).length=a.p.length∧bdR 72 (shR a i k):=by obtain⟨h1,h2⟩:=G.root hi;obtain⟨c1,c2⟩:=G.cand hi hk;exact⟨by unfold shR;rw[GJ aa,h1],Ca (B:=64) (C:=8) h2 c2⟩
def mvR(to y fr x:LiQ):LiQ:=EH (EH (Er to y) fr) x
theorem WP(h1:to.length=n)(h2:y.length=n)(h3:fr.length=n)(h4:x.length=n):(mvR to y fr x).length=n:=by grind[mvR,EH,Er]
def dB(d:LiQ):Nat×Bk:=(1,.data 1 (d.map di) true false)
def adz(a:Ad)(i f t:Nat)(x:Lk):LiQ:=mvR (shR a (i+1) t) (NU a.ch i x) (shR a i f) (NW a.ch i x)
theorem abj{A B D:Int}(b1:bdR A to)(b2:bdR B y)(b3:bdR C fr)(b4:bdR D x):bdR (A+B+C+D) (mvR to y fr x):=Bz (Bz (Ca b1 b2) b3) b4
def stepG(p:LiQ):LiQ->LLQ->LiQ
 |v,[]=>v
 |v,d::q=>stepG p (rr 1 v (QG p d)) q
def Tf(a:Ad)(i f t:Nat):LLQ:=(nth [] a.lk i).map (adz a i f t)
def Rc(a:Ad)(i f t:Nat):LiQ:=stepG a.p (List.replicate a.p.length 0) (Tf a i f t)
theorem sV.move{a:Ad}(G:sV a)(hi:i<a.lk.length)(hf:f<(nth [] a.cd i).length)(ht:t<(nth [] a.cd (i+1)).length):∀d∈Tf a i f t,d.length=a.p.length∧bdR 160 d:=by intro d hd;obtain⟨x,hx,rfl⟩:=Zf.1 hd;obtain⟨j,hj,rfl⟩:=W6 hx;have hlen:=G.wk.len;have hcl:=G.cl;obtain⟨_,_,⟨n1,n2⟩,n3,n4⟩:=G.wk.notes hi hj;rw[cF _ _ _ hj]at n1 n2 n3 n4;obtain⟨s1,s2⟩:=G.shift (i:=i) (k:=f) aa hf;obtain⟨t1,t2⟩:=G.shift (i:=i+1) (k:=t) aa ht;exact⟨WP t1 n3 s1 n1,abj (A:=72) (B:=8) (C:=72) (D:=8) t2 n4 s2 n2⟩
def wI(p r:LiQ):Int:=cM r (L5 p)
def VB:LiQ->LLQ->LiQ
 |v,[]=>v
 |v,d::q=>VB (rr 1 v d) q
structure acf(b:Nat)(c:UInt8)(kb:Nat):Prop where
 hc:ai b=[c]
 c1:¬c=49
 c2:¬c=48
 b2:2<=b
 b8:b<=8
 hkb:bI b=kb
 k2:2<=kb
 k4:kb<=4
 n1:ndg b=1
theorem aaA:acf 2 50 2:=⟨aD,ae,ae,ae,ae,by rfl,ae,ae,aD⟩
variable{b:Nat}{c:UInt8}{kb:Nat}
theorem JU(z:Int):jq z 1=(z,1):=by simp[jq,lX]
theorem sf{n d:Int}(hd:d≠0)(h1 : -9223372036854775808<n)(h2:n<9223372036854775808)(h3 : -9223372036854775808<d)(h4:d<9223372036854775808):CP Y F.ci [I n,I d] (.agg (qT (jq n d))):=by refine wz ?_;have fo:=sF hd h1 h2 h3 h4;simp only[qT]at fo;simp only[ci];simp(disch:=try exact ac);refine cd fo ?_;simp(disch:=try exact ac);exact jE rfl rfl
theorem B8{s s' e es by_ n k L:Nat}{cells cs:LdQ}{b0:Bk}{h:Hp}{y:V}{q:kkQ}{u:PU q}(hk:0<k)(hs':h[s']?=some (e,.data n cells true false))(hs:h[s]?=some (es,b0))(hc:cells.length=L*n)
  (hcs:cs.length=k*n) (hy:cellsOf h y=some (k,cs)) (hyn:∀t,y≠.d (.str t)) (hb:(L+k)*by_<=140737488355328)
  (hq:q (.ref s (es+1) 0 (L+k) (L+k) (cells++cs).length) (h.set s (es+1,.data n (cells++cs) false false))):rh (apV false s n by_ (.ref s' e 0 L L cells.length) y h) q u:=by
 have e1:apV false s n by_ (.ref s' e 0 L L cells.length) y h q=apC false s n by_ (.ref s' e 0 L L cells.length) k cs h q:=by
  unfold apV;split
  .trivial
  .grind
 show apV false s n by_ (.ref s' e 0 L L cells.length) y h q
 rw[e1];unfold apC;rw[if_neg aa];have g:aC h s' e=.data n cells true false:=by simp[aC,hs']
 simp only[g,true_and,Zk];rw[if_pos ⟨Z7 _,aa,hcs⟩,if_neg aa,if_pos hb];simp only[if_true,new,hs,Yx];rw[Z1 aa];rw[Zs,hc]at hq;exact hq
def gtB(w:Mz):Int:=if w.length≠2 then 5 else if nth 0 (nth [] w 0) 0=0 then 26 else 0
variable{p:LiQ}{c w:Mz}
theorem XS(h:Bu p c w):CP Y F.lR [tpV p c w] (I (gtB w)):=by
 refine Bf ?_;simp only[lR,tpV];simp(disch:=try exact ac);refine cd (args:=[tpV p c w]) (Cn h) ?_ (by simp[aw,aJ,tpV,mat]);have l1:bf (mat w)=some (I w.length):=rfl;by_cases h2:w.length=2
 .have i1:∀h:Hp,ixV h 1 (mat w) (.d (.int .i64 0))=some (.dptr (w.map row) 0):=fun h=>iC row w h rfl aa
  have i2:∀h:Hp,ld1 h (.dptr (w.map row) 0)=some (lst di (nth [] w 0)):=fun h=>fB row [] w h aa
  have hr:(nth [] w 0).length=p.length:=h.lw.rl _ (by rw[cF _ _ _ aa];exact Yu _);have hp:=h.lw.n0;have i3:∀h:Hp,ixV h 1 (lst di (nth [] w 0)) (.d (.int .i64 0))=some (.dptr ((nth [] w 0).map di) 0):=fun h=>iC di _ h rfl aa
  have i4:∀h:Hp,ld1 h (.dptr ((nth [] w 0).map di) 0)=some (I (nth 0 (nth [] w 0) 0)):=fun h=>fB di 0 _ h aa
  have h2':(w.length:Int)=2:=aa;by_cases h0:nth 0 (nth [] w 0) 0=0
  .simp(disch:=try exact ac)[l1,h2',i1,i2,i3,i4,h0];exact aV (by simp[gtB,h2,h0])
  .simp(disch:=try exact ac)[l1,h2',i1,i2,i3,i4,h0];exact aV (by simp[gtB,h2,h0])
 .have h2':¬(w.length:Int)=2:=aa;simp(disch:=try exact ac)[l1,h2'];exact aV (by simp[gtB,h2])
theorem Kl(h0:0<r.length)(hn:r.length<1000000):CP Y F.im [lst di r] (lst di r):=by
 refine yj ?_;simp only[im];have hli:dW 0 [.int .i64 0] [] [(0,Bk.none),(0,Bk.none)]=some ([],[(0,Bk.none),(0,Bk.none)]):=rfl;simp(disch:=try exact ac)[hli];refine B8 (s:=1) (s':=0) (e:=1) (es:=0) (by_:=8) (n:=1) (L:=0) (k:=r.length) (cells:=[]) (cs:=r.map di) h0 rfl rfl rfl af rfl (by intro t ht;cases ht) aa ?_
 have sn:=ZQ ⟨1,0,1,.none⟩ (L:=r.length) (cells:=r.map di) (h:=[(1,Bk.data 1 [] true false),(Acc.b ⟨1,0,1,.none⟩ r.length (r.map di))]) rfl af;obtain⟨m,hm⟩:∃m,r.length=m+1:=⟨r.length-1,aa⟩;simp only[hm,Acc.v,Acc.b]at sn;simpa[hm,lst]using sn
theorem abA(h:Bu p c w)(hg:gtB w=0):CP Y F.mX [tpV p c w] (.tup [.agg [I (nth 0 (nth [] w 0) 0),lst di (nth [] w 0),lst di (nth [] w 1)],I 0]):=by
 refine DK ?_;simp only[mX,tpV];simp(disch:=try exact ac);have a1:=XS h;rw[hg]at a1
 have h2:w.length=2:=by
  apply Classical.byContradiction;intro e;simp[gtB,e]at hg
 refine cd (args:=[tpV p c w]) a1 ?_ (by simp[aw,aJ,tpV,mat]);have i1:∀h:Hp,ixV h 1 (mat w) (.d (.int .i64 0))=some (.dptr (w.map row) 0):=fun h=>iC row w h rfl aa
 have i2:∀h:Hp,ld1 h (.dptr (w.map row) 0)=some (lst di (nth [] w 0)):=fun h=>fB row [] w h aa
 have j1:∀h:Hp,ixV h 1 (mat w) (.d (.int .i64 1))=some (.dptr (w.map row) 1):=fun h=>iC row w h rfl aa
 have j2:∀h:Hp,ld1 h (.dptr (w.map row) 1)=some (lst di (nth [] w 1)):=fun h=>fB row [] w h aa
 have hr:(nth [] w 0).length=p.length:=h.lw.rl _ (by rw[cF _ _ _ aa];exact Yu _);have hr1:(nth [] w 1).length=p.length:=h.lw.rl _ (by rw[cF _ _ _ aa];exact Yu _);have hp:=h.lw.n0;have hn:=h.lc.n12;have i3:∀h:Hp,ixV h 1 (lst di (nth [] w 0)) (.d (.int .i64 0))=some (.dptr ((nth [] w 0).map di) 0):=fun h=>iC di _ h rfl aa
 have i4:∀h:Hp,ld1 h (.dptr ((nth [] w 0).map di) 0)=some (I (nth 0 (nth [] w 0) 0)):=fun h=>fB di 0 _ h aa
 simp(disch:=try exact ac)[i1,i2,i3,i4];refine cd (Kl (r:=nth [] w 0) aa aa) ?_;simp(disch:=try exact ac)[j1,j2];refine cd (Kl (r:=nth [] w 1) aa aa) ?_;have ok1:∀m:LiQ,okV (lst di m)=true:=fun _=>rfl
 simp(disch:=try exact ac)[ok1];exact⟨_,rfl⟩
structure QJ(p:LiQ)(w:Mz)(x:LiQ):Prop where
 l:x.length=p.length
 b:bd9 x
 r:rcB x=0
 t:bd9 (de w x)
def tpD(w:Mz)(l:Mz):LdQ:=l.map fun x=>row (de w x)
theorem M2(w l:Mz):(tpD w l).length=l.length:=by simp[tpD]
theorem VA(w a:Mz)(x:LiQ):tpD w (a++[x])=tpD w a++[row (de w x)]:=by simp[tpD]
theorem M8(h:Bu p c w){l:Mz}(hl:l.length<1000)(ho:∀x∈l,QJ p w x)(b1:Nat×Bk)(h0:Hp)(K:KL):∀(q a:Mz),l=a++q ->
  K (.exit 1) [(acU 2).v l.length (tpD w l)] [(1,.vars [lst di p,mat c,mat w]),b1,(acU 2).b l.length (tpD w l)] ->
  lp (jv (CX Y) (.ptr 0 1 0 3) (mat l) (I l.length)) [] h0 [(acU 2).v a.length (tpD w a),I a.length] [(1,.vars [lst di p,mat c,mat w]),b1,(acU 2).b a.length (tpD w a)] K
 | [],a,e,hK=>by
  simp only[Zj]at e;subst e;refine ak ?_;have hlt:¬((l.length:Int)<(l.length:Int)):=aa;simp only[jv];simp(disch:=try exact ac)[hlt];exact hK
 | x::q,a,e,hK=>by
  refine ak ?_;have hlt:((a.length:Int)<(l.length:Int)):=by rw[e];simp;omega
  have hal:a.length<l.length:=aa;have hx:=ho x (by rw[e];simp);have i1:∀h:Hp,ixV h 1 (mat l) (I a.length)=some (.dptr (l.map row) a.length):=fun h=>by rw[e];exact oC row a x q _ _
  have i2:∀h:Hp,ld1 h (.dptr (l.map row) a.length)=some (lst di x):=fun h=>by
   rw[lY row l _ hal];simp only[e,Zn (Z7 _),Zd,Zi];rfl
  obtain⟨H,hH⟩:∃H:Hp,H=[(1,.vars [lst di p,mat c,mat w]),b1,(acU 2).b a.length (tpD w a)]:=⟨_,rfl⟩;have g1:jm H 0 1=.vars [lst di p,mat c,mat w]:=by rw[hH];rfl
  have tl:(de w x).length<1000000:=by simp only[de,List.length_map];have:=h.lw.ml;omega
  rw[<-hH];have hli:dW 1 [nPQ] [(0,lst di (de w x))] H=some ([row (de w x)],H):=by simp[dW,gD,iW,toD,norm,lst,row]
  simp only[jv];simp(disch:=try exact ac)[hlt,i1,i2,g1];refine cd (args:=[tpV p c w,lst di x]) (QK h hx.l hx.b hx.r hx.t) ?_ (by simp[aw,aJ,tpV,mat]);simp(disch:=try exact ac)[hli]
  refine oP (acU 2) (by_:=24) (k:=1) (cs:=[row (de w x)]) aa (by rw[hH];rfl) (by simp[acU,M2]) (by simp[acU]) rfl (by intro t ht;cases ht) aa (by simp[acU]) ?_;have hs:H.set (acU 2).s ((acU 2).b (a.length+1) (tpD w a++[row (de w x)]))=[(1,.vars [lst di p,mat c,mat w]),b1,(acU 2).b (a.length+1) (tpD w a++[row (de w x)])]:=by rw[hH];rfl
  rw[hs];have ih:=M8 h hl ho b1 h0 K q (a++[x]) (by simp[e]) hK;have e4:((a++[x]).length:Int)=(a.length:Int)+1:=af;rw[e4,VA,Zs]at ih;simp(disch:=try exact ac);rw[fK];refine lo ?_;simpa[Acc.v,Acc.b]using ih
theorem M7(h:Bu p c w)(hg:gtB w=0){l:Mz}(hl:l.length<=60)(ho:∀x∈l,QJ p w x)(hm:mzB p l=0):CP Y F.ft [tpV p c w,mat l] (.tup [mat (l.map (de w)),I (nth 0 (nth [] w 0) 0),I 0]):=by
 refine wq ?_;simp only[ft,tpV];simp(disch:=try exact ac);refine cd (args:=[tpV p c w]) (abA h hg) ?_ (by simp[aw,aJ,tpV,mat]);have l1:bf (mat l)=some (I l.length):=rfl;have g60:¬((l.length:Int)>60):=aa;have ok1:∀m:LiQ,okV (lst di m)=true:=fun _=>rfl
 have hn:=h.lc.n12;have a2:=JP (p:=p) (m:=l) aa aa;rw[hm]at a2;simp(disch:=try exact ac)[l1,g60,ok1];refine cd a2 ?_ (by simp[aw,aJ,mat]);simp(disch:=try exact ac)[l1];refine lo (M8 h aa ho _ _ _ l [] rfl ?_);simp(disch:=try exact ac)
 obtain⟨h',e1,_⟩:=oO (acU 2) (L:=l.length) (cells:=tpD w l) (h:=[(1,.vars [lst di p,mat c,mat w]),(1,.vars [I (nth 0 (nth [] w 0) 0),lst di (nth [] w 0),lst di (nth [] w 1)]),(acU 2).b l.length (tpD w l)]) rfl (by simp[acU,M2]);refine⟨h',?_⟩;simp only[aJ,aw,e1,norm];simp[mat,lst,tpD,Function.comp_def]
theorem Ju{a:Q}(h:okQ a):okQ (AT a):=⟨h.1,by simp only[AT,Xj];exact h.2⟩
theorem NB{a:Q}{K:Nat}(h:qL K a):qL K (AT a):=⟨by simp only[AT,Xj];exact h.1,h.2⟩
theorem Qf{a:Q}(la:qL 100000 a):CP Y F.m5 [.agg (qT a)] (.agg (qT (AT a))):=by refine DO ?_;have n1:=xZ (z:=a.1) (by have:=la.1;omega);simp only[m5,qT,AT];simp(disch:=try exact ac);refine cd n1 ?_;simp(disch:=try exact ac);exact jE rfl rfl
theorem Qd{a b:Q}(ha:okQ a)(hb:okQ b)(la:qL 50000 a)(lb:qL 50000 b):CP Y F.mY [.agg (qT a),.agg (qT b)] (.agg (qT (qG a (AT b)))):=by
 refine DL ?_;have n1:=Qf (a:=b) (lb.mono aa);have n2:=Kn ha (Ju hb) (la.mono aa) ((NB lb).mono aa);obtain⟨x,y,hxy⟩:∃x y,qT (qG a (AT b))=[S x,S y]:=⟨_,_,rfl⟩;obtain⟨x2,y2,hxy2⟩:∃x y,qT (AT b)=[S x,S y]:=⟨_,_,rfl⟩;rw[hxy,hxy2]at n2;rw[hxy2]at n1;rw[hxy];simp only[qT]at n1 n2 ⊢;simp only[mY]
 simp(disch:=try exact ac);refine cd n1 ?_ (by simp[aw,aJ]);simp(disch:=try exact ac);refine cd n2 ?_ (by simp[aw,aJ]);simp(disch:=try exact ac);exact jE rfl rfl
theorem LE{p:LiQ}{k:Q}(hp:pcB p=0)(h0:0<p.length)(hN:p.length<1000)(hk:okQ k∧qL 30 k)(hr:okS (qx p.length [mr p.length] [k])):CP Y F.fP [lst di p,.agg (qT k)] (.tup [szV (qx p.length [mr p.length] [k]),I 0]):=by
 refine xF ?_;have a1:=Qk (p:=p) hp aa h0;have a2:=RF (p:=p) (s:=mr p.length) (k:=k) hp aa (by simp[mr];omega) (Mt _) hk hr;simp only[qT]at a2 ⊢;simp only[fP];simp(disch:=try exact ac);refine cd a1 ?_;simp(disch:=try exact ac);refine cd a2 ?_ (by simp[aw,aJ,szV])
 simp(disch:=try exact ac);exact⟨_,rfl⟩
def CZ(r:LiQ)(div:Int)(i:Nat)(x:Int):Q:=if i=0 then sd (qG (x,1) (AT (jq (nth 0 r 0) div))) (nth 0 r 1,1)else sd (x,1) (nth 0 r 1,1)
def m8(r:LiQ)(div:Int):Nat->LiQ->List Q
 |_,[]=>[]
 |i,x::q=>CZ r div i x::m8 r div (i+1) q
theorem FU(r:LiQ)(div:Int):∀(i:Nat)(a:LiQ)(x:Int),m8 r div i (a++[x])=m8 r div i a++[CZ r div (i+a.length) x]
 |i,[],x=>by simp[m8]
 | i,y::a,x=>by
  simp only[List.cons_append,m8,FU r div (i+1) a x,List.length_cons];rw[show i+1+a.length=i+(a.length+1) by omega]
theorem vU(r:LiQ)(div:Int):∀(i:Nat)(a:LiQ),(m8 r div i a).length=a.length
 |_,[]=>rfl
 |i,_::a=>by simp[m8,vU r div (i+1) a]
def prA:Acc:=⟨4,0,2,.none⟩
def prC(s:List Q):LdQ:=(s.map tx).flatMap bg
theorem NJ(s:List Q):(prC s).length=s.length*2:=by rw[prC,gP bg bG,List.length_map]
theorem V2(s:List Q)(k:Q):prC (s++[k])=prC s++bg (tx k):=by simp[prC]
def prV(s:List Q):V:=if s=[]then .ref 1 1 0 0 0 0 else prA.v s.length (prC s)
def prH(by_:Q)(s:List Q):Hp:=[(1,.vars (qT by_)),(1,.data 2 [] true false),nnQ,nnQ,prA.b s.length (prC s)]
theorem aa3{s:List Q}{k b:Q}{s2 s3:Nat×Bk}{q:kkQ}{u:PU q}(hn:s.length<1000)
  (hq:q (prV (s++[k])) [(1,.vars (qT b)),(1,.data 2 [] true false),s2,s3,prA.b (s.length+1) (prC (s++[k]))]) :
  rh (apV false 4 2 32 (prV s) (.d (.sl 1 (bg (tx k)))) [(1,.vars (qT b)),(1,.data 2 [] true false),s2,s3,prA.b s.length (prC s)]) q u:=by
 by_cases e:s=[]
 .subst e;refine B8 (s:=4) (s':=1) (e:=1) (es:=0) (by_:=32) (n:=2) (L:=0) (k:=1) (cells:=[]) (cs:=bg (tx k)) (b0:=.none) aa rfl rfl rfl rfl rfl (by intro t ht;cases ht) aa ?_;simpa[prV,prA,Acc.v,Acc.b,prC]using hq
 .rw[prV,if_neg e];refine oP prA (by_:=32) (k:=1) (cs:=bg (tx k)) aa rfl (by rw[NJ];rfl) rfl rfl (by intro t ht;cases ht) aa ae ?_;simpa[prV,prA,Acc.v,Acc.b,V2]using hq
theorem SS(h : -1000000000<=z∧z<=1000000000):okQ (z,1)∧qL 30 (z,1):=Dc z aa aa
theorem Ow(h : -1000000000<=z∧z<=1000000000):CP Y F.dS [I z,I 1] (.tup [.agg (qT (z,1)),I 0]):=by
 have:=sF (n:=z) (d:=1) ae aa aa ae ae
 rwa [JU]at this
theorem NH{r x:LiQ}{div:Int}(hr2:2<=r.length)(hr:bd9 r)(h1:nth 0 r 1≠0)(hd:div≠0)(hdb : -1000000000<=div∧div<=1000000000)(hx:bd9 x)(hn:x.length<1000)(h0:Hp)(hh0:∃a b c d e,h0=[a,b,(0,c),(0,d),e])(K:KL) :
  ∀(q a:LiQ),x=a++q->K (.exit 0) [prV (m8 r div 0 x)] (prH (nth 0 r 1,1) (m8 r div 0 x)) ->
  lp (j9 (CX Y) (lst di r) (I div) (.ptr 0 1 0 2) (lst di x) (I x.length)) [2,3] h0 [prV (m8 r div 0 a),I a.length] (prH (nth 0 r 1,1) (m8 r div 0 a)) K
 | [],a,e,hK=>by
  simp only[Zj]at e;subst e;refine ak ?_;have hlt:¬((x.length:Int)<(x.length:Int)):=aa;simp only[j9];simp(disch:=try exact ac)[hlt];exact hK
 | z::q,a,e,hK=>by
  refine ak ?_;have hlt:((a.length:Int)<(x.length:Int)):=by rw[e];simp;omega
  have hal:a.length<x.length:=aa;have hz:=hx z (by rw[e];simp);have i1:∀h:Hp,ixV h 1 (lst di x) (I a.length)=some (.dptr (x.map di) a.length):=fun h=>by rw[e];exact oC di a z q _ _
  have i2:∀h:Hp,ld1 h (.dptr (x.map di) a.length)=some (I z):=fun h=>by
   rw[lY di x _ hal];simp only[e,Zn (Z7 _),Zd,Zi];rfl
  have hr1 : -1000000000<=nth 0 r 1∧nth 0 r 1<=1000000000:=hr _ (eM aa);have hr0 : -1000000000<=nth 0 r 0∧nth 0 r 0<=1000000000:=hr _ (eM aa);have j1:∀h:Hp,ixV h 1 (lst di r) (.d (.int .i64 0))=some (.dptr (r.map di) 0):=fun h=>iC di r h rfl aa
  have j2:∀h:Hp,ld1 h (.dptr (r.map di) 0)=some (I (nth 0 r 0)):=fun h=>fB di 0 r h aa
  obtain⟨s,hs⟩:=nmQ (m8 r div 0 a);have hsl:s.length=a.length:=by rw[hs,vU]
  have hsn:s.length<1000:=aa;have eG:m8 r div 0 (a++[z])=s++[CZ r div a.length z]:=by rw[FU,<-hs,Zk]
  have o1:=SS hz;have o2:=SS hr1;rw[<-hs];simp only[prH,qT];simp only[j9];simp(disch:=try exact ac)[hlt,i1,i2];refine cd (Ow hz) ?_;simp only[qT];simp(disch:=try exact ac);obtain⟨A,B',c0,d0,E,rfl⟩:=hh0
  have main:∀(kq:Q)(s3:Nat×Bk),okQ kq->qL 50001 kq->CZ r div a.length z=sd kq (nth 0 r 1,1)->(s3=nnQ∨∃y:Q,s3=(1,.vars (qT y))) ->
    (bnd (ldA [(1,Bk.vars (qT (nth 0 r 1,1))),(1,Bk.data 2 [] true false),(1,Bk.vars (qT kq)),s3,prA.b s.length (prC s)] 2 (V.ptr 2 1 0 2)) fun v12=>
    bnd (ldA [(1,Bk.vars (qT (nth 0 r 1,1))),(1,Bk.data 2 [] true false),(1,Bk.vars (qT kq)),s3,prA.b s.length (prC s)] 2 (V.ptr 0 1 0 2)) fun v13=>
     cal (CX Y).p [(1,Bk.vars (qT (nth 0 r 1,1))),(1,Bk.data 2 [] true false),(1,Bk.vars (qT kq)),s3,prA.b s.length (prC s)] (V.fn F.jK [] []) [v12,v13] fun v14 h=>
      ext v14 0 fun v15=>
       ext v14 1 fun v16=>
        stD h 2 (V.ptr 2 1 0 2) v15 fun x_1 h=>
         bnd (ldA h 2 (V.ptr 2 1 0 2)) fun v18=>
          dD 1 [D.str [],D.str []] [(0,v18)] h fun v19 h=>
           apV false 4 2 32 (prV s) v19 h fun v20 h=>
            bnd (biI BinOp.add (I ↑a.length) (V.d (D.int IntKind.i64 1))) fun v21=>
             clean [2,3] [v20,v21] h=true ∧
              lp (j9 (CX Y) (lst di r) (I div) (V.ptr 0 1 0 2) (lst di x) (I ↑x.length))
               [2,3] [A,B',(0,c0),(0,d0),E] [v20,v21] (aL [2,3] 0 [A,B',(0,c0),(0,d0),E] h) K):=by
   intro kq s3 k1 k2 k3 k4;have dv:=Km k1 o2.1 (by simpa using h1) (k2.mono aa) (o2.2.mono aa);rw[<-k3]at dv;obtain⟨kk,hkk⟩:=nmQ (CZ r div a.length z);rw[<-hkk]at dv eG;simp only[qT]at dv ⊢;simp(disch:=try exact ac);refine cd dv ?_ (by simp[aw,aJ])
   have hli:∀h:Hp,dW 1 [D.str [],D.str []] [(0,.agg [V.d (.str (itoa kk.1)),V.d (.str (ai kk.2))])] h=some (bg (tx kk),h):=fun h=>TA kk h
   simp(disch:=try exact ac)[hli];refine aa3 (s:=s) (k:=kk) (b:=(nth 0 r 1,1)) hsn ?_;have ih:=NH hr2 hr h1 hd hdb hx hn [A,B',(0,c0),(0,d0),E] ⟨A,B',c0,d0,E,rfl⟩ K q (a++[z]) (by simp[e]) hK;have e4:((a++[z]).length:Int)=(a.length:Int)+1:=af;rw[e4,eG]at ih;have ev:prV (s++[kk])=.ref 4 1 0 (s.length+1) (s.length+1) (prC (s++[kk])).length:=by simp[prV,prA,Acc.v]
   have cl:clean [2,3] [prV (s++[kk]),I ((a.length:Int)+1)] [(1,Bk.vars (qT (nth 0 r 1,1))),(1,Bk.data 2 [] true false),(1,Bk.vars (qT kk)),s3,prA.b (s.length+1) (prC (s++[kk]))]=true:=by
    rw[ev];rcases k4 with rfl|⟨y,rfl⟩<;>rfl
   have rs:aL [2,3] 0 [A,B',(0,c0),(0,d0),E] [(1,Bk.vars (qT (nth 0 r 1,1))),(1,Bk.data 2 [] true false),(1,Bk.vars (qT kk)),s3,prA.b (s.length+1) (prC (s++[kk]))]=prH (nth 0 r 1,1) (s++[kk]):=by
    rw[prH,Zs];obtain⟨A1,A2⟩:=A;obtain⟨B1,B2⟩:=B';obtain⟨E1,E2⟩:=E;obtain⟨S1,S2⟩:=s3;rfl
   have ea:biI BinOp.add (I (a.length:Int)) (V.d (D.int IntKind.i64 1))=some (I ((a.length:Int)+1)):=by simp(disch:=try exact ac)
   rw[ea];refine⟨cl,?_⟩;rw[<-rs]at ih;exact ih
  by_cases e0:a=[]
  .refine aj ?_;have fo:=sF (n:=nth 0 r 0) (d:=div) hd aa aa aa aa;have lz:=BP (n:=nth 0 r 0) hd;have lL:qL 30 (jq (nth 0 r 0) div):=Hy (Zy (qg aa aa) ae) (Zy (qg aa aa) ae);have sb:=Qd o1.1 lz (o1.2.mono aa) (lL.mono aa)
   have m1:=main (qG (z,1) (AT (jq (nth 0 r 0) div))) (1,.vars (qT (jq (nth 0 r 0) div))) (NE o1.1 (Ju lz)) ((SE o1.2 (NB lL)).mono aa) (by simp[CZ,e0]) (.inr ⟨_,rfl⟩);generalize jq (nth 0 r 0) div=w1 at *;generalize qG (z,1) (AT w1)=w2 at *;simp only[qT]at fo sb m1;simp(disch:=try exact ac)[e0,j1,j2];refine cd fo ?_
   simp(disch:=try exact ac);refine cd sb ?_ (by simp[aw,aJ]);simp(disch:=try exact ac);exact m1
  .refine aj ?_;have m1:=main (z,1) nnQ o1.1 (o1.2.mono aa) (by simp[CZ,e0]) (.inl rfl);simp only[qT]at m1;simp(disch:=try exact ac)[e0];exact m1
theorem pure_ok{p:LiQ}(hp:pcB p=0)(hl:x.length=p.length)(hr2:2<=r.length)(hr:bd9 r)(h1:nth 0 r 1≠0)(hd:div≠0)(hdb : -1000000000<=div∧div<=1000000000)(hx:bd9 x)(hn:x.length<1000)(h0:x≠[])(ho:okS (m8 r div 0 x)):
  CP Y F.iH [lst di p,lst di x,lst di r,I div] (.tup [szV (m8 r div 0 x),B true,I 0]):=by
 refine tY ?_;have j1:∀h:Hp,ixV h 1 (lst di r) (.d (.int .i64 1))=some (.dptr (r.map di) 1):=fun h=>iC di r h rfl aa
 have j2:∀h:Hp,ld1 h (.dptr (r.map di) 1)=some (I (nth 0 r 1)):=fun h=>fB di 0 r h aa
 have hr1 : -1000000000<=nth 0 r 1∧nth 0 r 1<=1000000000:=hr _ (eM aa);have fo:=Ow hr1;have hli:∀h:Hp,dW 0 [D.str [],D.str []] [] h=some ([],h):=fun h=>by simp[dW,gD,iW]
 have l1:bf (lst di x)=some (I x.length):=rfl;have ck:=Ai (p:=p) (s:=m8 r div 0 x) hp aa (by rw[vU,hl]) ho;simp only[qT]at fo;simp only[iH];simp(disch:=try exact ac)[j1,j2,h1];refine cd fo ?_;simp(disch:=try exact ac)[hli,l1]
 have lp0:=NH hr2 hr h1 hd hdb hx hn [(1,.vars [S (itoa (nth 0 r 1)),S (ai 1)]),(1,Bk.data 2 [] true false),nnQ,nnQ,nnQ] ⟨_,_,_,_,_,rfl⟩;refine lo (lp0 _ x [] rfl ?_);simp(disch:=try exact ac);obtain⟨s,hs⟩:=nmQ (m8 r div 0 x);have hsl:s.length=x.length:=by rw[hs,vU]
 rw[<-hs]at ck ⊢;have hs0:s≠[]:=fun e=>h0 (by rw[e]at hsl;exact Zp hsl.symm)
 obtain⟨h',e1,_⟩:=oO prA (L:=s.length) (cells:=prC s) (h:=prH (nth 0 r 1,1) s) rfl (NJ s)
 have e2:aJ (prH (nth 0 r 1,1) s) (prV s)=some (szV s,h'):=by
  rw[prV,if_neg hs0,e1];simp[szV,sv,prC]
 refine vG (ds:=[lst di p,szV s]) (h':=h') ?_ ck ?_
 .have e3:∀h:Hp,aJ h (lst di p)=some (lst di p,h):=fun h=>rfl
  simp only[aw,e3,e2]
 .rw[show(if f9 (I 0)=true then prH (nth 0 r 1,1) s else h')=prH (nth 0 r 1,1) s from rfl];simp(disch:=try exact ac);exact iZ e2 rfl rfl
theorem IE{w:Int}(hz:ndg z.natAbs<1000000)(hw:ndg w.natAbs<1000000):CP Y F.dU [S (itoa z),S (itoa w)] (I (sgn (z-w))):=by
 refine tW ?_;simp[dU];refine cd (mF z) ?_;simp;refine cd (mF w) ?_;by_cases h:sgn z=sgn w
 .have sz:=qy (itoa z);have sw:=qy (itoa w);rw[qJ,vu]at sz sw;simp[h];refine cd sz ?_;simp;refine cd sw ?_;simp;by_cases g:z<0
  .have g2:w<0:=by unfold sgn at h;split at h<;>split at h<;>first|omega|(split at h<;>first|omega|(split at h<;>omega))
   have e:Big.cmp w.natAbs z.natAbs=sgn (z-w):=by
    unfold Big.cmp sgn;split<;>split<;>first|omega|(split<;>omega)
   refine aj ?_;simp(disch:=try exact ac)[g];refine cd (qt hw hz) ?_;exact aV e
  .have g2:¬w<0:=by unfold sgn at h;split at h<;>split at h<;>first|omega|(split at h<;>first|omega|(split at h<;>omega))
   have e:Big.cmp z.natAbs w.natAbs=sgn (z-w):=by
    unfold Big.cmp sgn;split<;>split<;>first|omega|(split<;>omega)
   refine aj ?_;simp(disch:=try exact ac)[g];refine cd (qt hz hw) ?_;exact aV e
 .simp[h];by_cases g:sgn z<sgn w
  ·have e:(-1:Int)=sgn (z-w):=by
    revert g;unfold sgn
    split<;>split<;>(try split)<;>(try split)<;>(try split)<;>omega
   simp[g];exact aV e
  ·have e:(1:Int)=sgn (z-w):=by
    revert g h;unfold sgn
    split<;>split<;>(try split)<;>(try split)<;>(try split)<;>omega
   simp[g];exact aV e
theorem Ni(h:0<d):sgn (z*d)=sgn z:=by
 have hd:(0:Int)<d:=aa;unfold sgn;by_cases h0:z=0
 .simp[h0]
 ·have h1:¬z*(d:Int)=0:=fun e=>by
   rcases Int.mul_eq_zero.1 e with e|e<;>omega
  rw[if_neg h0,if_neg h1];by_cases h2:z<0
  .rw[if_pos h2,if_pos (Int.mul_neg_of_neg_of_pos h2 hd)]
  .rw[if_neg h2,if_neg (by have:=Int.mul_pos (show 0<z by omega) hd;omega)]
theorem DX{a b:Q}(ha:okQ a)(hb:okQ b)(la:qL 100000 a)(lb:qL 100000 b):CP Y F.fc [.agg (qT a),.agg (qT b)] (I (sgn (a.1*b.2-b.1*a.2))):=by
 refine xr ?_;have b1:=sS a;have b2:=sS b;have la1:=la.1;have la2:=la.2;have lb1:=lb.1;have lb2:=lb.2;have w1:=IE (z:=a.1) (w:=b.1) aa aa;have m1:=nm (z:=a.1) (w:=(b.2:Int)) aa (by rw[Int.natAbs_natCast];omega);have m2:=nm (z:=b.1) (w:=(a.2:Int)) aa (by rw[Int.natAbs_natCast];omega);rw[jb]at m1 m2
 have big:∀(z:Int)(n:Nat),ndg z.natAbs<=100000->ndg n<=100000->ndg (z*n).natAbs<1000000:=fun z n h1 h2=>by
  have h3:=Ys (cG z.natAbs) (cG n);rw[<-Yp]at h3;have e:(z*(n:Int)).natAbs=z.natAbs*n:=by rw[Y9,Int.natAbs_natCast]
  rw[<-e]at h3;have h4:=cS (d:=ndg z.natAbs+ndg n+1) (Z3 h3 (Z5 ae aa)) aa;omega
 have w2:=IE (z:=a.1*b.2) (w:=b.1*a.2) (big _ _ la1 lb2) (big _ _ lb1 la2);simp[fc,qT];refine cd (args:=[.agg (qT a)]) b1 ?_ (by rfl);by_cases h1:sdg a.1<=9∧ndg a.2<=9
 .simp[h1.1,h1.2];refine aj ?_;simp;refine cd (args:=[.agg (qT b)]) b2 ?_ (by rfl);by_cases h2:sdg b.1<=9∧ndg b.2<=9
  ·have sm:∀(z:Int)(n:Nat),sdg z<=9->ndg n<=9->(z*n).natAbs<10^18:=fun z n h1 h2=>by
    have h3:=Ys (qc h1) (Z3 (cG n) (Z5 ae h2));rw[Y9,Int.natAbs_natCast];exact Z3 h3 ae
   have s1:=sm a.1 b.2 h1.1 h2.2;have s2:=sm b.1 a.2 h2.1 h1.2;simp[h2.1,h2.2];generalize a.1*(b.2:Int)=x at *;generalize b.1*(a.2:Int)=y at *;have wx:IntKind.wrap .i64 x=x:=wrap_i64 ⟨aa,aa⟩;have wy:IntKind.wrap .i64 y=y:=wrap_i64 ⟨aa,aa⟩;rw[wx,wy];refine KT (fun g=>?_) (fun g=>?_)
   .exact aV (by unfold sgn;rw[if_neg aa,if_pos aa])
   .simp[wx,wy];refine KT (fun g2=>?_) (fun g2=>?_)
    .exact aV (by unfold sgn;rw[if_neg aa,if_neg aa])
    .exact aV (by unfold sgn;rw[if_pos aa])
  .have h2':(decide (sdg b.1<=9)&&decide (ndg b.2<=9))=false:=by grind
   simp[h2',-Bool.decide_and];by_cases e:a.2=b.2
   .have es:sgn (a.1*b.2-b.1*a.2)=sgn (a.1-b.1):=by rw[e,<-Int.sub_mul,Ni hb.1]
    have e2:ai a.2=ai b.2:=by rw[e]
    simp(disch:=try exact ac)[e2];refine cd w1 ?_;exact aV es.symm
   .have e2:¬ai a.2=ai b.2:=fun h=>e (oe h)
    simp(disch:=try exact ac)[e2];refine cd m1 ?_;simp(disch:=try exact ac);refine cd m2 ?_;simp(disch:=try exact ac);refine cd w2 ?_;exact aV rfl
 .have h1':(decide (sdg a.1<=9)&&decide (ndg a.2<=9))=false:=by grind
  .simp[h1',-Bool.decide_and];refine aj ?_;simp;by_cases e:a.2=b.2
   .have es:sgn (a.1*b.2-b.1*a.2)=sgn (a.1-b.1):=by rw[e,<-Int.sub_mul,Ni hb.1]
    have e2:ai a.2=ai b.2:=by rw[e]
    simp(disch:=try exact ac)[e2];refine cd w1 ?_;exact aV es.symm
   .have e2:¬ai a.2=ai b.2:=fun h=>e (oe h)
    simp(disch:=try exact ac)[e2];refine cd m1 ?_;simp(disch:=try exact ac);refine cd m2 ?_;simp(disch:=try exact ac);refine cd w2 ?_;exact aV rfl
structure EnS where
 lo:Option Q
 hi:Option Q
 em:Bool
def oT:Option Q->LwQ
 |some q=>qT q
 |none=>[S [],S []]
def enC(s:EnS):LwQ:=oT s.lo++oT s.hi++[B s.lo.isSome,B s.hi.isSome,B s.em]
def okE(s:EnS):Prop:=(∀q,s.lo=some q->okQ q∧qL 1000 q)∧∀q,s.hi=some q->okQ q∧qL 1000 q
def H4(a b:Q):Int:=sgn (a.1*b.2-b.1*a.2)
def yf(s:EnS)(b:Int)(k:Q):EnS:=
 if b>0 then(match s.lo with
  |none=>{s with lo:=some k}
  |some q=>if H4 k q>0 then{s with lo:=some k}else s)
 else (match s.hi with
  |none=>{s with hi:=some k}
  |some q=>if H4 k q<0 then{s with hi:=some k}else s)
def lv(s:EnS)(a b div:Int):EnS:=if b=0 then{s with em:=s.em||decide (a<0)}else yf s b (sd (jq (-a) div) (b,1))
theorem vX(k:Q):oT (some k)=[S (itoa k.1),S (ai k.2)]:=rfl
theorem zz(o:Option Q):∃x y:LuQ,oT o=[S x,S y]:=by
 cases o with
 |none=>exact⟨_,_,rfl⟩
 |some q=>exact⟨_,_,rfl⟩
def kpH(x0 x1 x3:Nat×Bk)(e:Nat)(st:EnS):Hp:=[x0,x1,(e,.vars (enC st)),x3]
variable{x0 x1 x3:Nat×Bk}{e:Nat}
theorem vt{st':EnS}{t:Hp}(hu0:aA 4 x0.2=true)(hu1:aA 4 x1.2=true)(hu3:aA 4 x3.2=true)(hst:enC st'=cs):nB 4 (.tup []) (kpH x0 x1 x3 e st') (.tup []) (x0::x1::(e,.vars cs)::x3::t):=by
 subst hst;obtain⟨lo,hi,em⟩:=st';obtain⟨a1,a2,ha⟩:=zz lo;obtain⟨b1,b2,hb⟩:=zz hi;refine⟨rfl,?_,.inl ⟨rfl,rfl⟩⟩;have h2:aA 4 (.vars (enC ⟨lo,hi,em⟩))=true:=by simp[enC,ha,hb,aA,iV,under]
 simp only[kpH,List.all_cons,List.all_nil,hu0,hu1,hu3,h2,Yg]
theorem XJ{st:EnS}{a b div:Int}(hst:okE st)(ha : -2000000000<=a∧a<=2000000000)(hb : -2000000000<=b∧b<=2000000000)(hd:div≠0)(hdb : -1000000000<=div∧div<=1000000000)
  (hu0:aA 4 x0.2=true) (hu1:aA 4 x1.2=true) (hu3:aA 4 x3.2=true):CI Y F.eQ [.ptr 2 e 0 7,I a,I b,I div] (kpH x0 x1 x3 e st) (.tup []) (kpH x0 x1 x3 e (lv st a b div)):=by
 refine uP ?_;obtain⟨E0,B0⟩:=x0;obtain⟨E1,B1⟩:=x1;obtain⟨E3,B3⟩:=x3;obtain⟨lo,hi,em⟩:=st;obtain⟨x1,x2,hx⟩:=zz lo;obtain⟨y1,y2,hy⟩:=zz hi;have hE:enC ⟨lo,hi,em⟩=[S x1,S x2,S y1,S y2,B lo.isSome,B hi.isSome,B em]:=by simp[enC,hx,hy]
 have hK:kpH (E0,B0) (E1,B1) (E3,B3) e ⟨lo,hi,em⟩=[(E0,B0),(E1,B1),(e,.vars [S x1,S x2,S y1,S y2,B lo.isSome,B hi.isSome,B em]),(E3,B3)]:=by rw[kpH,hE]
 rw[hK];simp only[eQ];by_cases b0:b=0
 .subst b0;cases em with
  | true=>
   simp(disch:=try exact ac);exact vt hu0 hu1 hu3 (by simp[enC,lv,hx,hy])
  | false=>
   simp(disch:=try exact ac);exact vt hu0 hu1 hu3 (by simp[enC,lv,hx,hy])
 .have f1:=sF (n:=-a) (d:=div) hd aa aa aa aa
  have f2:CP Y F.dS [I b,I 1] (.tup [.agg (qT (b,1)),I 0]):=by
   have:=sF (n:=b) (d:=1) ae aa aa ae ae
   rwa [JU]at this
  have lz:=BP (n:=-a) hd;have lL:qL 30 (jq (-a) div):=Hy (Zy (qg aa aa) ae) (Zy (qg aa aa) ae);have o2:=Dc b aa aa;have f3:=Km lz o2.1 (by simpa using b0) (lL.mono aa) (o2.2.mono aa);have kO:okQ (sd (jq (-a) div) (b,1)):=ND lz (by simpa using b0)
  have kL:qL 1000 (sd (jq (-a) div) (b,1)):=(SD lL o2.2).mono aa;obtain⟨k,hk⟩:=nmQ (sd (jq (-a) div) (b,1))
  have hkf:lv ⟨lo,hi,em⟩ a b div=yf ⟨lo,hi,em⟩ b k:=by
   simp only[lv,if_neg b0,hk]
  rw[<-hk]at f3 kO kL;rw[hkf];generalize jq (-a) div=w1 at *;simp only[qT]at f1 f2 f3;simp(disch:=try exact ac)[b0];refine cd f1 ?_;simp(disch:=try exact ac);refine cd f2 ?_ (by simp[aw,aJ]);simp(disch:=try exact ac);refine cd f3 ?_ (by simp[aw,aJ]);simp(disch:=try exact ac);refine aj ?_
  by_cases bp:b>0
  .cases lo with
   | none=>
    simp(disch:=try exact ac)[bp];refine aj ?_;simp(disch:=try exact ac);exact vt hu0 hu1 hu3 (by simp[yf,bp,enC,hy,vX])
   | some q=>
    have q1:=hst.1 q rfl;have cm:=DX kO q1.1 (kL.mono aa) (q1.2.mono aa);simp only[qT]at cm;simp only[oT,qT,List.cons.injEq,V.d.injEq,D.str.injEq,and_true]at hx;obtain⟨rfl,rfl⟩:=hx;simp(disch:=try exact ac)[bp];refine cd cm ?_ (by simp[aw,aJ]);by_cases cp:sgn (k.1*q.2-q.1*k.2)>0
    .simp(disch:=try exact ac)[cp];refine aj ?_;simp(disch:=try exact ac);exact vt hu0 hu1 hu3 (by simp[yf,bp,enC,hy,vX,H4,cp])
    .have bn:¬b<0:=aa;simp(disch:=try exact ac)[cp,bn];refine aj ?_;simp(disch:=try exact ac)[bn];refine aj ?_;simp(disch:=try exact ac);exact vt hu0 hu1 hu3 (by simp[yf,bp,enC,hy,vX,H4,cp])
  .have bn:b<0:=aa;cases hi with
   | none=>
    simp(disch:=try exact ac)[bp,bn];refine aj ?_;simp(disch:=try exact ac)[bn];refine aj ?_;simp(disch:=try exact ac);exact vt hu0 hu1 hu3 (by simp[yf,bp,enC,hx,vX])
   | some q=>
    have q1:=hst.2 q rfl;have cm:=DX kO q1.1 (kL.mono aa) (q1.2.mono aa);simp only[qT]at cm;simp only[oT,qT,List.cons.injEq,V.d.injEq,D.str.injEq,and_true]at hy;obtain⟨rfl,rfl⟩:=hy;simp(disch:=try exact ac)[bp];refine aj ?_;simp(disch:=try exact ac)[bn];refine cd cm ?_ (by simp[aw,aJ])
    by_cases cp:sgn (k.1*q.2-q.1*k.2)<0
    .simp(disch:=try exact ac)[cp];refine aj ?_;simp(disch:=try exact ac);exact vt hu0 hu1 hu3 (by simp[yf,bp,enC,hx,vX,H4,cp])
    .simp(disch:=try exact ac)[cp];refine aj ?_;simp(disch:=try exact ac);exact vt hu0 hu1 hu3 (by simp[yf,bp,enC,hx,vX,H4,cp])
theorem Kb{st:EnS}{a b:Int}(hst:okE st)(ha : -2000000000<=a∧a<=2000000000)(hb : -2000000000<=b∧b<=2000000000)(hd:div≠0)(hdb : -1000000000<=div∧div<=1000000000):okE (lv st a b div):=by
 unfold lv;by_cases b0:b=0
 .rw[if_pos b0];exact hst
 .rw[if_neg b0];have lz:=BP (n:=-a) hd;have lL:qL 30 (jq (-a) div):=Hy (Zy (qg aa aa) ae) (Zy (qg aa aa) ae);have o2:=Dc b aa aa;have kO:okQ (sd (jq (-a) div) (b,1)):=ND lz (by simpa using b0);have kL:qL 1000 (sd (jq (-a) div) (b,1)):=(SD lL o2.2).mono aa
  generalize sd (jq (-a) div) (b,1)=k at *;unfold yf;obtain⟨h1,h2⟩:=hst;obtain⟨lo,hi,em⟩:=st;split
  .split
   .exact⟨fun q hq=>by cases hq;exact⟨kO,kL⟩,h2⟩
   .split
    .exact⟨fun q hq=>by cases hq;exact⟨kO,kL⟩,h2⟩
    .exact⟨h1,h2⟩
  .split
   .exact⟨h1,fun q hq=>by cases hq;exact⟨kO,kL⟩⟩
   .split
    .exact⟨h1,fun q hq=>by cases hq;exact⟨kO,kL⟩⟩
    .exact⟨h1,h2⟩
structure Rg where
 lo:List Q
 hi:List Q
 hl:Bool
 hh:Bool
 em:Bool
def rgV(r:Rg):V:=.agg [szV r.lo,szV r.hi,B r.hl,B r.hh,B r.em]
def oD:Option Q->LdQ
 |some q=>[.str (itoa q.1),.str (ai q.2)]
 |none=>[.str [],.str []]
def enD(s:EnS):LdQ:=oD s.lo++oD s.hi++[.bool s.lo.isSome,.bool s.hi.isSome,.bool s.em]
def OL(s:EnS):Bool:=match s.lo,s.hi with
 |some a,some b=>decide (H4 a b>0)
 |_,_=>false
def scQ(n:Nat)(q:Q):List Q:=qx n [mr n] [q]
def oS(n:Nat):Option Q->List Q
 |some q=>scQ n q
 |none=>[]
def asR(n:Nat)(s:EnS):Rg:=if s.em||OL s then⟨[],[],false,false,true⟩else⟨oS n s.lo,oS n s.hi,s.lo.isSome,s.hi.isSome,false⟩
def okF(n:Nat)(o:Option Q):Prop:=∀q,o=some q->(okQ q∧qL 30 q)∧okS (scQ n q)
theorem Mf(h:Hp)(cs:LdQ)(i:Nat){d:D}(hd:cs[i]?=some d):ld1 h (.dptr cs i)=some (.d d):=by simp[ld1,hd]
theorem XG(h:Hp)(a b:D)(t:LdQ):ldA h 2 (.dptr (a::b::t) 0)=some (.agg [.d a,.d b]):=by simp[ldA,cut]
theorem XF(h:Hp)(x y a b:D)(t:LdQ):ldA h 2 (.dptr (x::y::a::b::t) 2)=some (.agg [.d a,.d b]):=by simp[ldA,cut]
theorem Rf(x0:Nat×Bk)(v b c d e:V)(s:List Q):st [x0,(1,.vars [v,b,c,d,e])] 1 (.ptr 1 1 0 5) (szV s)=some [x0,(1,.vars [szV s,b,c,d,e])]:=rfl
theorem aey{p:LiQ}{st:EnS}(hp:pcB p=0)(h0:0<p.length)(hN:p.length<1000)(h1:okF p.length st.lo)(h2:okF p.length st.hi):CP Y F.iP [.dptr (enD st) 0,lst di p] (.tup [rgV (asR p.length st),I 0]):=by
 refine wY ?_;obtain⟨lo,hi,em⟩:=st;have sc:∀q,(okQ q∧qL 30 q)∧okS (scQ p.length q)->CP Y F.fP [lst di p,.agg (qT q)] (.tup [szV (scQ p.length q),I 0]):=fun q hq=>LE hp h0 hN hq.1 hq.2
 have okz:∀s:List Q,okV (szV s)=true:=fun _=>rfl
 obtain⟨a1,a2,hlo⟩:∃a1 a2,oD lo=[.str a1,.str a2]:=by cases lo<;>exact⟨_,_,rfl⟩
 obtain⟨b1,b2,hhi⟩:∃b1 b2,oD hi=[.str b1,.str b2]:=by cases hi<;>exact⟨_,_,rfl⟩
 obtain⟨C,hC⟩:=nmQ (enD ⟨lo,hi,em⟩);have hC2:C=[.str a1,.str a2,.str b1,.str b2,.bool lo.isSome,.bool hi.isSome,.bool em]:=by rw[hC];simp[enD,hlo,hhi]
 have l4:∀h,ld1 h (.dptr C 4)=some (B lo.isSome):=fun h=>Mf h C 4 (by rw[hC2];rfl)
 have l5:∀h,ld1 h (.dptr C 5)=some (B hi.isSome):=fun h=>Mf h C 5 (by rw[hC2];rfl)
 have l6:∀h,ld1 h (.dptr C 6)=some (B em):=fun h=>Mf h C 6 (by rw[hC2];rfl)
 have m0:∀h,ldA h 2 (.dptr C 0)=some (.agg [S a1,S a2]):=fun h=>by rw[hC2];exact XG ..
 have m2:∀h,ldA h 2 (.dptr C 2)=some (.agg [S b1,S b2]):=fun h=>by rw[hC2];exact XF ..
 rw[<-hC];simp only[iP];cases em with
 | true=>
  simp(disch:=try exact ac)[l6];exact⟨_,rfl⟩
 | false=>
  cases lo with
  | none=>
   cases hi with
   | none=>
    simp(disch:=try exact ac)[l6,l4,l5];refine aj ?_;simp(disch:=try exact ac)[l5];refine aj ?_;simp(disch:=try exact ac);exact⟨_,rfl⟩
   | some b=>
    have hb:=h2 b rfl;have s2:=sc b hb;simp only[oD,List.cons.injEq,D.str.injEq,and_true]at hhi;obtain⟨rfl,rfl⟩:=hhi;simp only[qT]at s2;simp(disch:=try exact ac)[l6,l4,l5];refine aj ?_;simp(disch:=try exact ac)[l5];refine aj ?_;simp(disch:=try exact ac)[m2];refine cd s2 ?_ (by simp[aw,aJ])
    simp(disch:=try exact ac)[okz];exact⟨_,rfl⟩
  | some a=>
   have ha:=h1 a rfl;have s1:=sc a ha;simp only[oD,List.cons.injEq,D.str.injEq,and_true]at hlo;obtain⟨rfl,rfl⟩:=hlo;cases hi with
   | none=>
    simp only[qT]at s1;simp(disch:=try exact ac)[l6,l4,l5];refine aj ?_;simp(disch:=try exact ac)[m0];refine cd s1 ?_ (by simp[aw,aJ]);simp(disch:=try exact ac)[Rf,l5];refine aj ?_;simp(disch:=try exact ac);exact⟨_,rfl⟩
   | some b=>
    have hb:=h2 b rfl;have s2:=sc b hb;simp only[oD,List.cons.injEq,D.str.injEq,and_true]at hhi;obtain⟨rfl,rfl⟩:=hhi;have cm:=DX ha.1.1 hb.1.1 (ha.1.2.mono aa) (hb.1.2.mono aa);simp only[qT]at s1 s2 cm;simp(disch:=try exact ac)[l6,l4,l5,m0,m2];refine cd cm ?_ (by simp[aw,aJ]);by_cases cp:sgn (a.1*b.2-b.1*a.2)>0
    .have ea:asR p.length ⟨some a,some b,false⟩=⟨[],[],false,false,true⟩:=by simp[asR,OL,H4,cp]
     rw[ea];simp(disch:=try exact ac)[cp];exact⟨_,rfl⟩
    .have ea:asR p.length ⟨some a,some b,false⟩=⟨scQ p.length a,scQ p.length b,true,true,false⟩:=by simp[asR,OL,H4,cp,oS]
     rw[ea];simp(disch:=try exact ac)[cp,l4,l5];refine aj ?_;simp(disch:=try exact ac)[m0];refine cd s1 ?_ (by simp[aw,aJ]);simp(disch:=try exact ac)[Rf,l5];refine aj ?_;simp(disch:=try exact ac)[m2];refine cd s2 ?_ (by simp[aw,aJ]);simp(disch:=try exact ac)[okz];exact⟨_,rfl⟩
def Cu(div:Int):EnS->LiQ->Mz->EnS
 |st,_,[]=>st
 |st,r,s::q=>Cu div (lv st (nth 0 s 0-nth 0 r 0) (nth 0 s 1-nth 0 r 1) div) s q
theorem FG{rows:Mz}{div:Int}(hn:rows.length<1000)(h2:∀r∈rows,r.length=2∧bd9 r)(hd:div≠0)(hdb : -1000000000<=div∧div<=1000000000){x0 x1:Nat×Bk}(hu0:aA 4 x0.2=true)(hu1:aA 4 x1.2=true)
  (o0:offB [3] x0.2=true) (o1:offB [3] x1.2=true) (h0:Hp) (hh:∃a b c d,h0=[a,b,c,(0,d)]) (K:KL):∀(q a:Mz)(r:LiQ)(st:EnS),rows=a++r::q->okE st ->
  K (.exit 0) [] (kpH x0 x1 nnQ 1 (Cu div st r q)) ->
  lp (kP (CX Y) (mat rows) (I div) (.ptr 2 1 0 7)) [3] h0 [I ((a.length:Int)+1)] (kpH x0 x1 nnQ 1 st) K
 | [],a,r,st,e,hst,hK=>by
  refine ak ?_;have hl:rows.length=a.length+1:=by rw[e];simp
  have l1:bf (mat rows)=some (I rows.length):=rfl;have hlt:¬((a.length:Int)+1<(rows.length:Int)):=aa;simp only[kP];simp(disch:=try exact ac)[l1,hlt];exact hK
 | s::q,a,r,st,e,hst,hK=>by
  refine ak ?_;have hl:a.length+1<rows.length:=by rw[e];simp
  have l1:bf (mat rows)=some (I rows.length):=rfl;have hlt:((a.length:Int)+1<(rows.length:Int)):=aa;have hrm:r∈rows:=by rw[e];simp
  have hsm:s∈rows:=by rw[e];simp
  obtain⟨r2,rb⟩:=h2 r hrm;obtain⟨s2,sb⟩:=h2 s hsm;have R0:∀h:Hp,ixV h 1 (mat rows) (I a.length)=some (.dptr (rows.map row) a.length):=fun h=>iC row rows h rfl aa
  have R1:∀h:Hp,ixV h 1 (mat rows) (I ((a.length:Int)+1))=some (.dptr (rows.map row) (a.length+1)):=fun h=>iC row rows h aa hl
  have L0:∀h:Hp,ld1 h (.dptr (rows.map row) a.length)=some (lst di r):=fun h=>by
   rw[lY row rows _ aa];simp only[e,Zn (Z7 _),Zd,Zi];rfl
  have L1:∀h:Hp,ld1 h (.dptr (rows.map row) (a.length+1))=some (lst di s):=fun h=>by
   have e5:rows[a.length+1]=s:=by simp[e]
   rw[lY row rows _ hl,e5];rfl
  have X:∀(t:LiQ),t.length=2->∀h:Hp,ixV h 1 (lst di t) (.d (.int .i64 0))=some (.dptr (t.map di) 0)∧ld1 h (.dptr (t.map di) 0)=some (I (nth 0 t 0))∧ixV h 1 (lst di t) (.d (.int .i64 1))=some (.dptr (t.map di) 1)∧ld1 h (.dptr (t.map di) 1)=some (I (nth 0 t 1)):=fun t ht h=>
   ⟨iC di t h rfl aa,fB di 0 t h aa,iC di t h rfl aa,fB di 0 t h aa⟩
  have Xr:=X r r2;have Xs:=X s s2;have r0b:=rb (nth 0 r 0) (eM aa);have r1b:=rb (nth 0 r 1) (eM aa);have s0b:=sb (nth 0 s 0) (eM aa);have s1b:=sb (nth 0 s 1) (eM aa);have kp:=XJ (x0:=x0) (x1:=x1) (x3:=nnQ) (e:=1) (a:=nth 0 s 0-nth 0 r 0) (b:=nth 0 s 1-nth 0 r 1) hst aa aa hd hdb hu0 hu1 rfl
  have kE:=Kb (a:=nth 0 s 0-nth 0 r 0) (b:=nth 0 s 1-nth 0 r 1) hst aa aa hd hdb;have ih:=FG hn h2 hd hdb hu0 hu1 o0 o1 h0 hh K q (a++[r]) s _ (by simp[e]) kE hK;have e4:((a++[r]).length:Int)=(a.length:Int)+1:=af;rw[e4]at ih;obtain⟨H,hH⟩:=nmQ (kpH x0 x1 nnQ 1 st);rw[<-hH]at kp ⊢;simp only[kP]
  simp(disch:=try exact ac)[l1,hlt,R1,L1,R0,L0,(Xr _).1,(Xr _).2.1,(Xr _).2.2.1,(Xr _).2.2.2,(Xs _).1,(Xs _).2.1,(Xs _).2.2.1,(Xs _).2.2.2];refine io kp ?_ (by intro _ _ _ _ _ e;cases e)
  have cl:clean [3] [I ((a.length:Int)+1+1)] (kpH x0 x1 nnQ 1 (lv st (nth 0 s 0-nth 0 r 0) (nth 0 s 1-nth 0 r 1) div))=true:=by
   simp only[clean,Z8];refine⟨rfl,Db 0 _ fun y hy=>?_⟩;simp only[kpH,Zt,Y0,or_false]at hy;rcases hy with rfl|rfl|rfl|rfl
   .exact o0
   .exact o1
   .obtain⟨a1,a2,e1⟩:=zz (lv st (nth 0 s 0-nth 0 r 0) (nth 0 s 1-nth 0 r 1) div).lo;obtain⟨b1,b2,e2⟩:=zz (lv st (nth 0 s 0-nth 0 r 0) (nth 0 s 1-nth 0 r 1) div).hi;simp only[enC,e1,e2];rfl
   .rfl
  have rs:aL [3] 0 h0 (kpH x0 x1 nnQ 1 (lv st (nth 0 s 0-nth 0 r 0) (nth 0 s 1-nth 0 r 1) div))=kpH x0 x1 nnQ 1 (lv st (nth 0 s 0-nth 0 r 0) (nth 0 s 1-nth 0 r 1) div):=by
   obtain⟨a',b',c',d',rfl⟩:=hh;obtain⟨A1,A2⟩:=a';obtain⟨B1,B2⟩:=b';obtain⟨C1,C2⟩:=c';obtain⟨X1,X2⟩:=x0;obtain⟨Y1,Y2⟩:=x1;rfl
  have ea:biI BinOp.add (I ((a.length:Int)+1)) (V.d (D.int IntKind.i64 1))=some (I ((a.length:Int)+1+1)):=by simp(disch:=try exact ac)
  refine ag6 ea ⟨cl,?_⟩;rw[rs];exact ih
theorem IW{div:Int}(hd:div≠0)(hdb : -1000000000<=div∧div<=1000000000):∀(q:Mz)(r:LiQ)(st:EnS),okE st->(∀s∈r::q,s.length=2∧bd9 s)->okE (Cu div st r q)
 |[],_,_,h,_=>h
 | s::q,r,st,h,hb=>by
  obtain⟨r2,rb⟩:=hb r af;obtain⟨s2,sb⟩:=hb s af;have r0b:=rb (nth 0 r 0) (eM aa);have r1b:=rb (nth 0 r 1) (eM aa);have s0b:=sb (nth 0 s 0) (eM aa);have s1b:=sb (nth 0 s 1) (eM aa);exact IW hd hdb q s _ (Kb h aa aa hd hdb) fun t ht=>hb t (by simp[Zt.1 ht])
theorem ad6(st:EnS):EW (enC st)=some (enD st):=by obtain⟨lo,hi,em⟩:=st;cases lo<;>cases hi<;>rfl
theorem abM(st:EnS):(enC st).length=7:=by obtain⟨lo,hi,em⟩:=st;cases lo<;>cases hi<;>rfl
def en0:EnS:=⟨none,none,false⟩
variable{p:LiQ}{c w:Mz}
theorem Pj(h:Bu p c w)(hg:gtB w=0){l:Mz}{x:LiQ}{q:Mz}(hlx:l=x::q)(hl:l.length<=60)(ho:∀x∈l,QJ p w x)(hm:mzB p l=0)
  (h1:okF p.length (Cu (nth 0 (nth [] w 0) 0) en0 (de w x) (q.map (de w))).lo) (h2:okF p.length (Cu (nth 0 (nth [] w 0) 0) en0 (de w x) (q.map (de w))).hi) :
  CP Y F.fR [tpV p c w,mat l] (.tup [rgV (asR p.length (Cu (nth 0 (nth [] w 0) 0) en0 (de w x) (q.map (de w)))),I 0]):=by
 refine xG ?_;simp only[fR,tpV];obtain⟨div,hdiv⟩:=nmQ (nth 0 (nth [] w 0) 0)
 have w2:w.length=2:=by
  apply Classical.byContradiction;intro e;simp[gtB,e]at hg
 have hd:div≠0:=by
  rw[hdiv];intro e;simp[gtB,w2,e]at hg
 have hw0:nth [] w 0∈w:=by rw[cF _ _ _ aa];exact Yu _
 have hdb : -1000000000<=div∧div<=1000000000:=by
  rw[hdiv];exact h.lw.sm _ hw0 _ (eM (by rw[h.lw.rl _ hw0];exact h.lw.n0))
 have td:=M7 h hg hl ho hm;have hn:=h.lc.n12;rw[<-hdiv]at td h1 h2 ⊢;simp(disch:=try exact ac);refine cd (args:=[tpV p c w,mat l]) td ?_ (by simp[aw,aJ,tpV,mat]);simp(disch:=try exact ac)
 have hb:∀s∈l.map (de w),s.length=2∧bd9 s:=fun s hs=>by
  obtain⟨y,hy,rfl⟩:=Zf.1 hs;exact⟨by simp[de,w2],(ho y hy).t⟩
 have e0:okE en0:=⟨fun q hq=>(by cases hq),fun q hq=>(by cases hq)⟩;have ht:okE (Cu div en0 (de w x) (q.map (de w))):=IW hd hdb _ _ _ e0 (by rw[hlx]at hb;exact hb)
 refine lo (FG (rows:=l.map (de w)) (div:=div) (by rw[List.length_map];omega) hb hd hdb (x0:=(1,.vars [lst di p,mat c,mat w])) (x1:=(1,.vars [nlV,nlV,B false,B false,B false])) rfl rfl rfl rfl _ ⟨_,_,_,_,rfl⟩ _ (q.map (de w)) [] (de w x) en0 (by rw[hlx];rfl) e0 ?_);have aso:=aey (p:=p) (st:=Cu div en0 (de w x) (q.map (de w))) h.pr h.lw.n0 aa h1 h2
 generalize Cu div en0 (de w x) (q.map (de w))=st at *;obtain⟨R,hR⟩:=nmQ (asR p.length st);rw[<-hR]at aso ⊢
 have sn:aw (kpH (1,.vars [lst di p,mat c,mat w]) (1,.vars [nlV,nlV,B false,B false,B false]) nnQ 1 st) [.ptr 2 1 0 7,lst di p]=some ([.dptr (enD st) 0,lst di p],[(1,.vars [lst di p,mat c,mat w]),(1,.vars [nlV,nlV,B false,B false,B false]),(1,.data 1 (enD st) false true),nnQ]):=by
  have g:aC (kpH (1,.vars [lst di p,mat c,mat w]) (1,.vars [nlV,nlV,B false,B false,B false]) nnQ 1 st) 2 1=.vars (enC st):=rfl;simp only[aw,aJ,g,ad6,abM,if_true];rfl
 obtain⟨H,hH⟩:=nmQ (kpH (1,.vars [lst di p,mat c,mat w]) (1,.vars [nlV,nlV,B false,B false,B false]) nnQ 1 st);rw[<-hH]at sn ⊢;have g0:jm H 0 1=.vars [lst di p,mat c,mat w]:=by rw[hH];rfl
 simp(disch:=try exact ac)[g0];refine vG sn aso ?_;have okz:∀s:List Q,okV (szV s)=true:=fun _=>rfl
 simp only[rgV,f9];simp(disch:=try exact ac)[okz];exact⟨_,rfl⟩
variable{l:Int->Nat}{N:Nat}
theorem acZ(s:List Q)(h:Hp)(hi:i<s.length):∃w,ixV h 2 (szV s) (I i)=some w∧ldA h 2 w=some (.agg (qT (nth (0,1) s i))):=by
 have h1:=qZ bg bG (s.map tx) h (k:=.i64) (i:=(i:Int)) aa (by grind);rw[Int.toNat_natCast]at h1;refine⟨_,h1,?_⟩;have h2:=qX bg bG (tx (0,1)) (s.map tx) h (j:=i) (by grind);rw[h2]
 have e:nth (tx (0,1)) (s.map tx) i=tx (nth (0,1) s i):=by
  rw[cF _ _ _ (by grind),cF _ _ _ hi,List.getElem_map]
 rw[e];rfl
theorem JN{n:Nat}:∀{m:LLQ},(∀r∈m,r.length=n∧bdR 1000 r)->Hq n m=0
 |[],_=>rfl
 | r::m,h=>by
  obtain⟨h1,h2⟩:=h r af;simp only[Hq];rw[if_neg aa,if_pos (VF h2)];exact JN fun x hx=>h x (by grind)
theorem Te{p:LiQ}(hp:pcB p=0)(h:∀r∈m,r.length=p.length∧bdR 1000 r):mzB p m=0:=by grind[mzB,JN]
theorem Eh(h0:0<n)(h1:n<=most):KN n most=0:=by unfold KN;rw[if_neg aa,if_neg aa]
theorem GA{p:LiQ}(hp:pcB p=0):∀{ch:List LLQ},(∀c∈ch,(0<c.length∧c.length<=12)∧∀r∈c,r.length=p.length∧bdR 1000 r)->US p ch=0
 |[],_=>rfl
 | c::q,h=>by
  obtain⟨⟨h1,h2⟩,h3⟩:=h c af;simp only[US];rw[if_neg (by grind[Eh]),if_neg (by grind[Te])];exact GA hp fun x hx=>h x (by grind)
theorem Gd{n:Nat}{B:Int}{ch:List LLQ}{lk:List (List Lk)}(w:K5 n B ch lk)(hne:∀l∈lk,0<l.length):∀(q d:List (List Lk)),d++q=lk->WZ ch d.length q=0
 |[],_,_=>rfl
 | l::q,d,hd=>by
  have hm:l∈lk:=by rw[<-hd];simp
  have hl:nth [] lk d.length=l:=by rw[<-hd,BI]
  have ok:=w.ok d.length (by grind);rw[hl]at ok;simp only[WZ];rw[if_neg (by grind[Eh,K5.ls]),if_pos ok];have:=Gd w hne q (d++[l]) (by grind)
  grind
variable{a:Ad}
theorem sV.dc(G:sV a):dcB a.p a.ch a.lk=0:=by
 have h5:=G.five;have hl:=G.wk.len;unfold dcB;rw[if_neg (by simp[G.hp.1]),if_neg (by simp[Eh (n:=a.ch.length) (most:=64) aa aa]),if_neg,if_pos hl]
 .exact Gd G.wk G.lkn a.lk [] rfl
 .simp[GA G.hp.1 (ch:=a.ch) fun c hc=>⟨⟨G.cne c hc,G.wk.cs c hc⟩,fun r hr=>⟨(G.wk.rows c hc r hr).1,En (G.wk.rows c hc r hr).2 aa⟩⟩]
theorem sV.qL(G:sV a):qL 30 a.w:=by obtain⟨w1,w2,w3,w4⟩:=G.w0;exact⟨cS (d:=30) aa ae,cS (d:=30) aa ae⟩
def stW(a:Ad)(i f t:Nat):LiQ:=(Rc a i f t).map (· * (a.w.2:Int))
theorem IV{p:LiQ}{B:Nat}:∀{m:LLQ}{v:LiQ}{C:Nat},(∀d∈m,d.length=p.length∧bdN B d)->v.length=p.length->bdN C v->(stepG p v m).length=p.length∧bdN (C+B*m.length) (stepG p v m)
 |[],v,C,_,hv,hb=>⟨hv,by trivial⟩
 | d::m,v,C,hm,hv,hb=>by
  obtain⟨d1,d2⟩:=hm d af;have:=IV (m:=m) (v:=rr 1 v (QG p d)) (C:=C+B) (fun x hx=>hm x (by grind)) (by rw[Ci _ (by grind[K4]),hv]) (KU hb (OO d2));refine⟨this.1,fun x hx=>?_⟩;have:=this.2 x hx
  grind[Zo]
theorem sV.stepV(G:sV a)(hi:i<a.lk.length)(hf:f<(nth [] a.cd i).length)(ht:t<(nth [] a.cd (i+1)).length):(Rc a i f t).length=a.p.length∧bdN 1920 (Rc a i f t):=by
 have hls:=G.wk.ls _ (eM (d:=[]) hi);obtain⟨h1,h2⟩:=IV (p:=a.p) (B:=160) (C:=0) (m:=Tf a i f t) (v:=List.replicate a.p.length 0) (fun d hd=>⟨(G.move hi hf ht d hd).1,aaz (B:=160) (G.move hi hf ht d hd).2⟩) af (fun x hx=>by grind);refine⟨h1,fun x hx=>?_⟩;have:=h2 x hx;have e:(Tf a i f t).length=(nth [] a.lk i).length:=by simp[Tf]
 omega
theorem ON{B:Nat}(h:bdN B r){w:Int}{W:Nat}(hw:w.natAbs<=W):bdN (B*W) (r.map (· * w)):=by intro x hx;obtain⟨y,hy,rfl⟩:=Zf.1 hx;rw[Y9];exact Za (h y hy) hw
theorem sV.stepW(G:sV a)(hi:i<a.lk.length)(hf:f<(nth [] a.cd i).length)(ht:t<(nth [] a.cd (i+1)).length):(stW a i f t).length=a.p.length∧bdN 1920000 (stW a i f t):=by obtain⟨w1,w2,w3,w4⟩:=G.w0;obtain⟨h1,h2⟩:=G.stepV hi hf ht;exact⟨by grind[stW],ON (W:=1000) h2 aa⟩
theorem sV.ownW(G:sV a)(hi:i<a.cd.length)(hk:k<(nth [] a.cd i).length):(V8 a i k).length=a.p.length∧bdN 8000 (V8 a i k):=by obtain⟨w1,w2,w3,w4⟩:=G.w0;obtain⟨c1,c2⟩:=G.cand hi hk;exact⟨by grind[V8,K4],ON (OO (aaz (B:=8) c2)) (W:=1000) aa⟩
def ael(a:Ad)(c:LiQ):Prop:=c.length=a.cd.length∧∀k<c.length,0<=nth 0 c k∧nth 0 c k<(nth [] a.cd k).length
theorem ael.at{c:LiQ}(h:ael a c){l:LiQ}{z:Int}{q:LiQ}(hl:l++z::q=c):∃m:Nat,z=m∧m<(nth [] a.cd l.length).length:=by obtain⟨h1,h2⟩:=h.2 l.length (by grind);rw[<-hl,BI]at h1 h2;exact⟨z.toNat,aa,aa⟩
def adA(p:LiQ):Option LiQ->LiQ->LiQ->LLQ->LLQ->Option LiQ
 | o,own,n,st::ss,be::bs=>adA p (match o with
   |none=>some (VB n [own,st,be])
   |some m=>some (if wI p (VB n [own,st,be])<wI p m then VB n [own,st,be]else m)) own n ss bs
 |o,_,_,_,_=>o
def opV(b:Nat):Option LiQ->V
 |none=>.d nPQ
 |some m=>szV (szI b m)
structure agL(p:LiQ)(b Bd:Nat):Prop where
 hp:pcS p
 b0:0<b
 b1:b<1000000
 B1:Bd<100000000000
def okR(p:LiQ)(Bd:Nat)(l:LLQ):Prop:=∀r∈l,r.length=p.length∧bdN Bd r
def adb(p:LiQ):LLQ->List LLQ->LLQ->LLQ
 |o::os,ss::sss,bs=>((adA p none o (List.replicate p.length 0) ss bs).getD [])::adb p os sss bs
 |_,_,_=>[]
def G9(p:LiQ):List LLQ->List (List LLQ)->List LLQ
 |o::o2::os,ss::sss=>adb p o ss ((G9 p (o2::os) sss).headD [])::G9 p (o2::os) sss
 |l,_=>l
structure agM(p:LiQ)(b Bd:Nat)(owns:List LLQ)(steps:List (List LLQ)):Prop where
 g:agL p b Bd
 ne:0<owns.length
 hl:steps.length=owns.length
 hN:owns.length<1000000
 ho:∀o∈owns,0<o.length∧o.length<1000000∧okR p Bd o
 hs:∀k,k+1<owns.length->(nth [] steps k).length=(nth [] owns k).length∧∀ss∈nth [] steps k,ss.length=(nth [] owns (k+1)).length∧okR p Bd ss
 hB:∀m,m<owns.length->∀r∈G9 p (owns.drop m) (steps.drop m),r.length<1000000∧okR p Bd r
def FX(a:Ad)(k:Nat):LLQ:=(List.range (nth [] a.cd k).length).map (V8 a k)
def Lq(a:Ad)(k i:Nat):LLQ:=(List.range (nth [] a.cd (k+1)).length).map (stW a k i)
def Lr(a:Ad)(k:Nat):List LLQ:=(List.range (nth [] a.cd k).length).map (Lq a k)
def AG(a:Ad):List LLQ:=(List.range a.cd.length).map (FX a)
def GR(a:Ad):List (List LLQ):=(List.range a.cd.length).map (Lr a)
end Go.Vm
