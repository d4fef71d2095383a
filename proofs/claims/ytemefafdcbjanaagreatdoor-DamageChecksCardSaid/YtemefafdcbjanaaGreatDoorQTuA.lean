/- Lemmas. -/
import Derived.Test.YtemefafdcbjanaaGreatDoorQLaJ
set_option linter.unusedVariables false
set_option linter.unusedSimpArgs false
namespace Go.Vm
open Go Go.Am Go.Big
variable{P x y r t to fr:LiQ}{k E G n i Bd A j most:Nat}{rs:List Fz}{ts:List (Int×Int)}{m m':LLQ}{s bd:List Q}{c' z e1 e2:Int}{cs:LwQ}{f:Tg->List Q}{ch:List LLQ}{h:Hp}
def qz(h:Int->Int):List (Int×Int)->Int
 |[]=>0
 |t::ts=>t.2*h t.1+qz h ts
def zm:List (Int×Int)->Nat
 |[]=>0
 |t::ts=>t.2.natAbs+zm ts
def cfT:List (Int×Int)->Int->Int
 |[],_=>0
 |t::ts,c=>(if t.1=c then t.2 else 0)+cfT ts c
theorem yH(n:Nat):∀ts:List (Int×Int),(d7 n ts (0,0)).1<=qz (lgI n) ts∧qz (lgI n) ts<=(d7 n ts (0,0)).2∧(d7 n ts (0,0)).2-(d7 n ts (0,0)).1<=zm ts
 |[]=>by simp[d7,qz,zm]
 | t::ts=>by
  obtain⟨h1,h2,h3⟩:=yH n ts;obtain⟨x,hx⟩:∃x:Int,x=lg t.1 n:=⟨_,rfl⟩;obtain⟨y,hy⟩:∃y:Int,y=if t.1=2 then x else x+1:=⟨_,rfl⟩
  have hxy:y=x∨y=x+1:=by rw[hy];split<;>simp
  have e:d7 n (t::ts) (0,0)=d7 n ts (if t.2<0 then(0+y*t.2,0+x*t.2)else(0+x*t.2,0+y*t.2)):=by
   rw[hy,hx];rfl
  have e2:qz (lgI n) (t::ts)=t.2*x+qz (lgI n) ts:=by rw[hx];rfl
  rw[e,e2,yI ts];simp only[zm,Xa]
  have m1:y*t.2=x*t.2∨y*t.2=x*t.2+t.2:=by
   rcases hxy with h|h
   .left;rw[h]
   .right;rw[h,Xd,Int.one_mul]
  rw[Xz t.2 x];by_cases hn:t.2<0
  .rw[if_pos hn];simp only;omega
  .rw[if_neg hn];simp only;omega
theorem KV(f g:Int->Int):∀(P L:LiQ),cR (P.map fun c=>f c+g c) L=cR (P.map f) L+cR (P.map g) L
 |[],L=>by simp[cR]
 |p::P,[]=>by simp[cR]
 | p::P,l::L=>by
  simp only[Z1,cR,KV f g P L,Xd];omega
theorem KU(h:Int->Int)(a z:Int):∀P:LiQ,a ∉ P->cR (P.map fun c=>if a=c then z else 0) (P.map h)=0
 |[],_=>by simp[cR]
 | p::P,hn=>by
  simp only[Zs,not_or]at hn;simp[cR,hn.1,KU h a z P hn.2]
theorem OW(h:Int->Int)(a z:Int):∀P:LiQ,P.Nodup->a∈P->cR (P.map fun c=>if a=c then z else 0) (P.map h)=z*h a
 |[],_,hm=>by simp at hm
 | p::P,hn,hm=>by
  rw[W7]at hn;by_cases e:a=p
  .subst e;simp[cR,KU h a z P hn.1]
  .have:a∈P:=by simpa[e]using hm
   simp[cR,e,OW h a z P hn.2 this]
theorem IV(h:Int->Int){P:LiQ}(hP:P.Nodup):∀ts:List (Int×Int),(∀t∈ts,t.1∈P)->qz h ts=cR (P.map (cfT ts)) (P.map h)
 | [],_=>by
  have:∀P:LiQ,cR (P.map (cfT [])) (P.map h)=0:=by
   intro P
   induction P with
   |nil=>rfl
   |cons p P ih=>rw[Z1,Z1,cR,ih];simp[cfT]
  rw[this];rfl
 | t::ts,hm=>by
  rw[qz,IV h hP ts fun u hu=>hm u (by simp[hu])];have:cfT (t::ts)=fun c=>(if t.1=c then t.2 else 0)+cfT ts c:=by funext c;rfl
  rw[this,KV,OW h t.1 t.2 P hP (hm t ae)]
theorem Vf(c:Int):∀ts:List (Int×Int),(cfT ts c).natAbs<=zm ts
 |[]=>by simp[cfT]
 | t::ts=>by
  have:=Vf c ts;simp only[cfT,zm];split<;>omega
theorem Il{c:Int}:∀ts:List (Int×Int),c ∉ ts.map Prod.fst->cfT ts c=0
 |[],_=>rfl
 | t::ts,h=>by
  simp only[Z1,Zs,not_or]at h;rw[cfT,if_neg (fun e=>h.1 e.symm),Il ts h.2];rfl
theorem Gd{B:Nat}{V:LLQ}(hc:GJ k E B G (P.map (lgI n)) rs V=true)(hk:P.length=k)(hP:P.Nodup)(hm:∀t∈ts,t.1∈P)(hB:zm ts<=B)(hG:(qz (lgI n) ts).natAbs<=G):∀c∈P,cfT ts c=0:=by
 intro c hcP
 have h1:=Q1 hc (c:=P.map (cfT ts)) (by simpa using hk) (by
  intro x hx;obtain⟨d,_,rfl⟩:=Zh.1 hx;exact Zu (Vf d ts) hB) (by rw[<-IV (lgI n) hP ts hm];exact hG)
 exact h1 _ (List.mem_map_of_mem hcP)
theorem Wd{B:Nat}{V:LLQ}(hc:GJ k E B G (P.map (lgI n)) rs V=true)(hk:P.length=k)(hP:P.Nodup)(hm:∀t∈ts,t.1∈P)(hn:(ts.map Prod.fst).Nodup)(h0:∀t∈ts,t.2≠0)(hB:zm ts<=B)(hG:zm ts<=G)(hne:ts≠[]):
  0<=(d7 n ts (0,0)).1∨(d7 n ts (0,0)).2<=0:=by
 obtain⟨g1,g2,g3⟩:=yH n ts;by_cases hd:0<=(d7 n ts (0,0)).1∨(d7 n ts (0,0)).2<=0
 .exact hd
 .exfalso;have hz:=Gd hc hk hP hm hB aa;cases ts with
  |nil=>exact hne rfl
  | cons t ts=>
   have h1:=hz t.1 (hm t ae);simp only[Z1,W7]at hn;rw[cfT,if_pos rfl,Il ts hn.1]at h1;exact h0 t ae aa
def adV(n:Nat)(p:Int):Bool:=(HP p.toNat n).isSome&&decide (2^n<=lg p n)&&decide (lg p n+1<=8*2^n)
theorem aeB:∀p∈c6P,∀i∈List.range 6,adV (64*2^i) p=true:=aF
theorem abz{x:Nat}(hk:1<=k)(h:x<2^(3*k)):ndg x<=k:=by refine cQ (Z3 h ?_) hk;rw[Nat.pow_mul];exact Nat.pow_le_pow_left af k
theorem TG{x m:Nat}(hk:1<=k)(hm:m+3<=3*k)(h:x+1<=8*2^m):ndg x<=k:=by
 refine abz hk (Z3 (Z3 (Nat.lt_succ_self x) h) ?_);have e:8*2^m=2^(m+3):=by rw[Yq,Zr]
 rw[e];exact Z4 af hm
theorem aaP:∀p∈c6P,2<=p∧p<128:=af
theorem aaQ:c6P.Nodup:=af
theorem aeC{p:Int}(hp:p∈c6P)(hi:i<6):(HP p.toNat (64*2^i)).isSome=true∧2^(64*2^i)<=lg p (64*2^i)∧lg p (64*2^i)+1<=8*2^(64*2^i):=by have:=aeB p hp i (Xs.2 hi);simp only[adV,Z8,decide_eq_true_eq]at this;exact⟨this.1.1,this.1.2,this.2⟩
theorem aci(h:∀t∈ts,t.1∈c6P):Gn ts:=by intro i hi t ht;obtain⟨h1,h2,h3⟩:=aeC (h t ht) hi;obtain⟨p1,p2⟩:=aaP _ (h t ht);refine⟨p1,aa,h1,?_⟩;obtain⟨k,hk⟩:=nmQ (1500);rw[<-hk];refine TG aa ?_ h3;have:2^i<=2^5:=Z4 af aa;omega
theorem NG{C:Nat}:∀ts:List (Int×Int),(∀t∈ts,t.2.natAbs<=C)->zm ts<=ts.length*C
 |[],_=>by simp[zm]
 | t::ts,h=>by
  have h1:=h t ae;have h2:=NG ts fun u hu=>h u (by simp[hu])
  simp only[zm,List.length_cons,X7];omega
def rp(b:Nat)(x:Q)(a:Int):Prop:=okQ x∧x.1*(b:Int)=a*(x.2:Int)
theorem Sx{n a:Int}{d b:Nat}(hd:0<d)(h:n*(b:Int)=a*(d:Int)):rp b (mK n d) a:=by
 obtain⟨h1,h2⟩:=XL n hd;refine⟨HO n hd,?_⟩;have hd':(d:Int)≠0:=aa;refine Int.eq_of_mul_eq_mul_right hd' ?_
 calc (mK n d).1*(b:Int)*(d:Int)=(mK n d).1*(d:Int)*(b:Int):=by rw[Yu]
  _=n*((mK n d).2:Int)*(b:Int):=by rw[h1]
  _=n*(b:Int)*((mK n d).2:Int):=by rw[Yu]
  _=a*((mK n d).2:Int)*(d:Int):=by rw[h,Yu]
theorem abl{b:Nat}{x y:Q}{a c:Int}(hx:rp b x a)(hy:rp b y c):rp b (ko x y) (a+c):=by
 have p1:=hx.1.1;have p2:=hy.1.1;refine Sx (Yk p1 p2) ?_;rw[Xd,Xd,Int.natCast_mul]
 have e1:x.1*(y.2:Int)*(b:Int)=a*((x.2:Int)*(y.2:Int)):=by
  rw[Yu,hx.2,Int.mul_assoc]
 have e2:y.1*(x.2:Int)*(b:Int)=c*((x.2:Int)*(y.2:Int)):=by
  rw[Yu,hy.2,Int.mul_assoc,Xz (y.2:Int)]
 rw[e1,e2]
theorem WC{b:Nat}{x:Q}{a:Int}(z:Int)(hx:rp b x a):rp b (pA x (z,1)) (z*a):=by have p1:=hx.1.1;refine Sx (by simpa using p1) ?_;simp only[Yj];rw[Yu,hx.2,Int.mul_assoc,Xz (x.2:Int),<-Int.mul_assoc,Xz a]
theorem Sv{b:Nat}{x:Q}{a:Int}(m:Nat)(hx:rp b x a):rp (b*m) x (a*m):=
 ⟨hx.1,by rw[Int.natCast_mul,<-Int.mul_assoc,hx.2,Yu]⟩
theorem WB(b:Nat):rp b (0,1) 0:=⟨⟨af,af⟩,ae⟩
theorem Hq{b:Nat}{x:Q}{a:Int}(h:rp b x a):x.2∣b:=by
 have h1:x.1.natAbs*b=a.natAbs*x.2:=by
  have:=congrArg Int.natAbs h.2;simpa[Y2]using this
 have h2:x.2∣x.1.natAbs*b:=⟨a.natAbs,by rw[h1,Zr]⟩;exact Nat.Coprime.dvd_of_dvd_mul_left (Nat.Coprime.symm h.1.2) h2
theorem Sw{b:Nat}{x:Q}{a:Int}(hb:0<b)(h:rp b x a):x.1.natAbs*(b/x.2)=a.natAbs:=by
 obtain⟨m,hm⟩:=Hq h
 have h1:x.1.natAbs*b=a.natAbs*x.2:=by
  have:=congrArg Int.natAbs h.2;simpa[Y2]using this
 have p:=h.1.1;rw[hm,X9 _ p];refine Nat.eq_of_mul_eq_mul_right p ?_;rw[<-h1,hm,Nat.mul_assoc,Zr m]
theorem adq{b:Nat}{x:Q}{a:Int}(hb:0<b)(h:rp b x a):x.1.natAbs<=a.natAbs∧x.2<=b:=by have h1:=Sw hb h;have h2:=Xi hb (Hq h);have h3:1<=b/x.2:=(W4 h.1.1).2 aa;refine⟨?_,h2⟩;rw[<-h1];exact Y8 _ h3
def bdL(b B:Nat)(s:List Q):Prop:=∀x∈s,∃a:Int,rp b x a∧a.natAbs<=B
theorem aeI{b B:Nat}(hb:0<b)(h:bdL b B s):∀x∈s,okQ x:=fun x hx=>by
 obtain⟨a,h1,h2⟩:=h x hx;exact h1.1
theorem aco{b B:Nat}(hb:0<b)(h:bdL b B s)(h1:b<1000000000000000000000000000000)(h2:B<1000000000000000000000000000000):okS s:=fun x hx=>by
 obtain⟨a,r1,r2⟩:=h x hx;obtain⟨l1,l2⟩:=adq hb r1;exact⟨r1.1,cQ (d:=30) (by show _<10^30;omega) af,cQ (d:=30) (by show _<10^30;omega) af⟩
theorem O2{b:Nat}:∀{s:List Q}{d:Nat},d∣b->(∀x∈s,x.2∣b)->pC d s∣b
 |[],d,h,_=>h
 |x::s,d,h,hs=>O2 (s:=s) (Nat.lcm_dvd h (hs x ae)) fun y hy=>hs y (by simp[hy])
theorem VC{b B:Nat}(h:bdL b B s):pC 1 s∣b:=O2 (Nat.one_dvd b) fun x hx=>by
 obtain⟨a,r1,r2⟩:=h x hx;exact Hq r1
theorem I6{b B d:Nat}(hb:0<b)(hd:d∣b):∀{p:LiQ}{s:List Q},bdL b B s->∀t∈iG d p s,t.2.natAbs<=B
 |[],s,_,t,ht=>by simp[iG]at ht
 |p::ps,[],_,t,ht=>by simp[iG]at ht
 | p::ps,x::s,h,t,ht=>by
  obtain⟨a,r1,r2⟩:=h x ae;have ih:=I6 hb hd (p:=ps) (s:=s) fun y hy=>h y (by simp[hy])
  simp only[iG]at ht
  have hx:(x.1*((d/x.2:Nat):Int)).natAbs<=B:=by
   rw[Y2,Int.natAbs_natCast];have h1:=Sw hb r1;have h2:d/x.2<=b/x.2:=Nat.div_le_div_right (Xi hb hd);have h3:=Zx x.1.natAbs h2;omega
  split at ht
  .exact ih t ht
  .simp only[Zs]at ht;rcases ht with rfl|ht
   .exact hx
   .exact ih t ht
theorem zj{d:Nat}:∀{p:LiQ}{s:List Q},∀t∈iG d p s,t.1∈p
 |[],s,t,ht=>by simp[iG]at ht
 |p::ps,[],t,ht=>by simp[iG]at ht
 | p::ps,x::s,t,ht=>by
  have ih:=zj (d:=d) (p:=ps) (s:=s);simp only[iG]at ht;split at ht
  .exact List.mem_cons_of_mem _ (ih t ht)
  .simp only[Zs]at ht;rcases ht with rfl|ht
   .simp
   .exact List.mem_cons_of_mem _ (ih t ht)
theorem I4{d:Nat}:∀{p:LiQ}{s:List Q},p.Nodup->((iG d p s).map Prod.fst).Nodup
 |[],s,_=>by simp[iG]
 |p::ps,[],_=>by simp[iG]
 | p::ps,x::s,h=>by
  rw[W7]at h;have ih:=I4 (d:=d) (p:=ps) (s:=s) h.2;simp only[iG];split
  .exact ih
  .simp only[Z1,W7];refine⟨fun hm=>?_,ih⟩;obtain⟨t,ht,e⟩:=Zh.1 hm;exact h.1 (by rw[<-e];exact zj t ht)
theorem I5{d:Nat}(hd:0<d):∀{p:LiQ}{s:List Q},(∀x∈s,0<x.2∧x.2∣d)->∀t∈iG d p s,t.2≠0
 |[],s,_,t,ht=>by simp[iG]at ht
 |p::ps,[],_,t,ht=>by simp[iG]at ht
 | p::ps,x::s,h,t,ht=>by
  have ih:=I5 hd (p:=ps) (s:=s) fun y hy=>h y (by simp[hy])
  obtain⟨h1,h2⟩:=h x ae;have h3:0<d/x.2:=Wj (Xi hd h2) h1;simp only[iG]at ht;split at ht
  .exact ih t ht
  .rename_i hx;simp only[Zs]at ht;rcases ht with rfl|ht
   .exact Int.mul_ne_zero hx aa
   .exact ih t ht
def in6(p:LiQ):Prop:=p.Nodup∧p.length<=6∧∀x∈p,x∈c6P
theorem LO{p:LiQ}(hp:in6 p):∀t∈tq p s,t.1∈c6P:=fun t ht=>hp.2.2 _ (zj t ht)
theorem aa9{p:LiQ}{b B:Nat}(hp:in6 p)(hb:0<b)(h:bdL b B s)(hB:B<9223372036854775808):WY (tq p s):=by
 refine⟨?_,fun t ht=>?_⟩
 .have:=zk (d:=pC 1 s) p s;have:=hp.2.1;unfold tq;omega
 .obtain⟨h1,h2⟩:=aaP _ (LO hp t ht);exact⟨h1,h2,Zj (I6 hb (VC h) h t ht) hB⟩
structure ahj(p:LiQ)(n:Nat)(r:LiQ)(q:Int):Prop where
 hp:pcB p=0
 hN:p.length<=20
 hl:0<p.length
 h0:0<n
 h1:n<=10000
 lr:r.length=p.length
 sr:smR r=true
 st:okS (FQ p n)
 of:okS (ofQ r)
 q1 : -1000000000000000000<q
 q2:q<1000000000000000000
 ti:okS (LR p n q)
 er:okS (Od p n q (ofQ r))
def agp:LLQ:=[[2,3,5],[2,3],[2,3,5,7],[2,3,7],[3,5,7],[2],[2,5,7],[2,3,11],[2,3,5,13],[2,3,7,11]]
abbrev Rw:=LiQ
structure ag2(p:LiQ)(n:Nat)(l:List Rw)(qf:Rw->Int):Prop where
 hN:l.length<=60
 hE:∀r∈l,aeN p n r (qf r)
structure ahk(p:LiQ)(n:Nat)(l:List Rw)(qf:Rw->Int):Prop where
 cn:ag2 p n l qf
 pl:p.length<=6
 r9:∀r∈l,∀x∈r,x.natAbs<=9
theorem PY(hx:x.length<1000000000)(hy:y.length<1000000000):CP Y F.pM [lst di x,lst di y] (B (decide (x=y))):=by refine JA ?_;simp(disch:=try exact ac)[pM];refine cd (vB hx hy) ?_;simp(disch:=try exact ac)
def rE(c:Int)(m:LLQ):V:=.agg [I c,mat m]
theorem Qu{c:Int}(hm:m.length<1000000)(hm':m'.length<1000000)(h2:∀r∈m,r.length<1000000)(h3:∀r∈m',r.length<1000000):
  CP Y F.jQ [rE c m,rE c' m'] (B (decide (c=c'∧m=m'))):=by
 refine Bi ?_;simp only[jQ,rE];have eq:=UL (g:=F.pM) (fun x y hx hy=>PY (x:=x) (y:=y) aa aa) hm hm' h2 h3;by_cases e:c=c'
 .simp(disch:=try exact ac)[e];refine cd eq ?_ (by simp[aA,bg,mat,lst,norm]);exact cx (by simp[e])
 .simp(disch:=try exact ac)[e]
def QC(n:Int):Bool:=decide (n>1000000000)||decide (n < -1000000000)
theorem Py(n:Int):CP Y F.oG [I n] (B (QC n)):=by
 refine EN ?_;simp(disch:=try exact ac)[oG];by_cases h:n>1000000000
 .simp(disch:=try exact ac)[h];exact cx (by simp[QC,h])
 .simp(disch:=try exact ac)[h];exact cx (by simp[QC,h])
def I9(c:Nat):LLQ->Int
 |[]=>0
 |r::q=>if 12<r.length then 4 else if r.length≠c then 5 else if r.any QC=true then 4 else I9 c q
def tcB(m:LLQ):Int:=if 12<m.length then 4 else I9 (nth [] m 0).length m
theorem FN{m:LLQ}(hm:m.length<1000000)(hr:∀r∈m,r.length<1000000)(K:KL):∀(q a:LLQ),m=a++q->(I9 (nth [] m 0).length q=0->K (.exit 0) [] [])->(I9 (nth [] m 0).length q≠0->K .ret [I (I9 (nth [] m 0).length q)] []) ->
  lp (oU (CX Y) (mat m) (mat m) (I m.length)) [] [] [I a.length] [] K
 | [],a,e,h0,h1=>by
  simp only[Zo]at e;subst e;refine ai ?_;have hlt:¬((m.length:Int)<(m.length:Int)):=aa;simp only[oU];simp(disch:=try exact ac)[hlt];exact h0 rfl
 | r::q,a,e,h0,h1=>by
  refine ai ?_;have hlt:((a.length:Int)<(m.length:Int)):=by rw[e];simp;omega
  have hl:a.length<m.length:=aa;have hrm:r∈m:=by rw[e];simp
  have i1:ixV [] 1 (mat m) (I a.length)=some (.dptr (m.map row) a.length):=by rw[e];exact o9 row a r q _ _
  have i2:ld1 [] (.dptr (m.map row) a.length)=some (lst di r):=by
   rw[oB row m _ hl];simp only[e,Zm (Z7 _),Zc,Zg];rfl
  have j1:ixV [] 1 (mat m) (.d (.int .i64 0))=some (.dptr (m.map row) 0):=t8 row m [] rfl aa;have j2:ld1 [] (.dptr (m.map row) 0)=some (lst di (nth [] m 0)):=md row [] m [] aa;simp only[oU];simp only[I9]at h0 h1;by_cases g1:12<r.length
  .have g1':((r.length:Int)>12):=aa;rw[if_pos g1]at h0 h1;simp(disch:=try exact ac)[hlt,i1,i2,g1'];exact h1 af
  .have g1':¬((r.length:Int)>12):=aa;rw[if_neg g1]at h0 h1;by_cases g2:r.length≠(nth [] m 0).length
   .have g2':(r.length:Int)≠((nth [] m 0).length:Int):=aa;rw[if_pos g2]at h0 h1;simp(disch:=try exact ac)[hlt,i1,i2,g1',j1,j2,g2'];exact h1 af
   .have g2':(r.length:Int)=((nth [] m 0).length:Int):=aa;rw[if_neg g2]at h0 h1;simp(disch:=try exact ac)[hlt,i1,i2,g1',j1,j2,g2'];refine cd (vG r (by have:=hr r hrm;omega) fun x _=>Py x) ?_;by_cases g3:r.any QC=true
    .rw[if_pos g3]at h0 h1;simp(disch:=try exact ac)[g3];exact h1 af
    .rw[if_neg g3]at h0 h1;have g3':r.any QC=false:=by simpa using g3
     simp(disch:=try exact ac)[g3'];have ih:=FN hm hr K q (a++[r]) (by simp[e]) h0 h1;have e2:((a++[r]).length:Int)=(a.length:Int)+1:=ae;rw[e2]at ih;exact lo ih
theorem PD(hm:m.length<1000000)(hr:∀r∈m,r.length<1000000):CP Y F.oH [mat m] (I (tcB m)):=by
 refine EO ?_;simp only[oH];have l1:aW (mat m)=some (I m.length):=rfl;by_cases g:12<m.length
 .have g':((m.length:Int)>12):=aa;simp(disch:=try exact ac)[l1,g'];exact bP (by simp[tcB,g])
 .have g':¬((m.length:Int)>12):=aa;simp(disch:=try exact ac)[l1,g'];refine lo (FN hm hr _ m [] rfl (fun e=>?_) (fun e=>?_))
  .simp(disch:=try exact ac);exact bP (by simp[tcB,g,e])
  .simp(disch:=try exact ac);exact bP (by simp[tcB,g])
theorem Uv(n:Int):CP Y F.iU [I n] (B (n !=0)):=by refine xw ?_;simp(disch:=try exact ac)[iU];exact cx (by rw[Yp];simp)
theorem XY(hr:r.length<4611686018427387904):CP Y F.lX [lst di r] (I (piv r)):=by refine Bm ?_;simp(disch:=try exact ac)[lX];refine cd (AR r hr fun n _=>Uv n) ?_;exact bP rfl
theorem BB{g:FuncId}{p:LiQ->Bool}(hs:∀x:LiQ,aA [] ([lst di x]++cs)=some ([lst di x]++cs,[]))(hc:aA [] cs=some (cs,[]))(l:LLQ)(hN:l.length<1000000)(hp:∀x∈l,CP Y g ([lst di x]++cs) (B (p x))):
  CP Y F.aZ [mat l,.fn g [] cs] (B (l.any p)):=by
 refine mb ?_;simp(disch:=try exact ac)[aZ];refine cd (v:=I (idx p l)) (nA (HY (f:=row) (fs:=[]) (cs:=cs) l aa hs hp)) ?_ ?_
 .simp(disch:=try exact ac);have:=BW p l;have e:decide (0<=idx p l)=l.any p:=by rw[Yp];simpa using this
  rw[e];exact JP ..
 .simp[aA,bg,hc,mat]
def upF(p:Nat)(r o:LiQ):Bool:=decide (nth 0 o p<0)||decide (nth 0 o p≥nth 0 r p)
theorem aa2{p:Nat}{o:LiQ}(hr:p<r.length)(ho:p<o.length):CP Y F.ew [lst di o,.dptr [.int .i64 p] 0,.dptr [row r] 0] (B (upF p r o)):=by
 refine wO ?_;simp only[ew];have d1:∀h:Hp,ld1 h (.dptr [.int .i64 (p:Int)] 0)=some (I p):=fun h=>rfl
 have d2:∀h:Hp,ld1 h (.dptr [row r] 0)=some (lst di r):=fun h=>rfl
 have i1:ixV [] 1 (lst di o) (I p)=some (.dptr (o.map di) p):=t8 di o [] rfl ho;have i2:ld1 [] (.dptr (o.map di) p)=some (I (nth 0 o p)):=md di 0 o [] ho;have i3:ixV [] 1 (lst di r) (I p)=some (.dptr (r.map di) p):=t8 di r [] rfl hr;have i4:ld1 [] (.dptr (r.map di) p)=some (I (nth 0 r p)):=md di 0 r [] hr;by_cases h:nth 0 o p<0
 .simp(disch:=try exact ac)[d1,d2,i1,i2,i3,i4,h];exact cx (by simp[upF,h])
 .simp(disch:=try exact ac)[d1,d2,i1,i2,i3,i4,h];exact cx (by simp[upF,h])
def MU:Int->LLQ->LLQ->Bool
 |_,_,[]=>true
 |before,done,r::q=>if piv r<=before∨nth 0 r (piv r).toNat<0 then false else if done.any (upF (piv r).toNat r)=true then false else MU (piv r) (done++[r]) q
theorem DO{m:LLQ}{c:Nat}(hm:m.length<1000000)(hc:c<1000000)(hr:∀r∈m,r.length=c)(K:KL):∀(q a:LLQ)(b:Int),-1<=b->m=a++q->(MU b a q=true->∀h,K (.exit 0) [] h)->(MU b a q=false->∀h,K .ret [B false] h) ->
  lp (mG (CX Y) (mat m) (mat m) (I m.length)) [0,1] [nnQ,nnQ] [I b,I a.length] [nnQ,nnQ] K
 | [],a,b,hb,e,h0,h1=>by
  simp only[Zo]at e;subst e;refine ai ?_;have hlt:¬((m.length:Int)<(m.length:Int)):=aa;simp only[mG];simp(disch:=try exact ac)[hlt];exact h0 rfl _
 | r::q,a,b,hb,e,h0,h1=>by
  refine ai ?_;have hlt:((a.length:Int)<(m.length:Int)):=by rw[e];simp;omega
  have hl:a.length<m.length:=aa;have hrm:r∈m:=by rw[e];simp
  have hrl:r.length=c:=hr r hrm;have i1:∀h:Hp,ixV h 1 (mat m) (I a.length)=some (.dptr (m.map row) a.length):=fun h=>by rw[e];exact o9 row a r q _ _
  have i2:∀h:Hp,ld1 h (.dptr (m.map row) a.length)=some (lst di r):=fun h=>by
   rw[oB row m _ hl];simp only[e,Zm (Z7 _),Zc,Zg];rfl
  have hp:=abr r;simp only[mG];have s1:st [(1,Bk.vars [V.d nPQ]),(0,Bk.none)] 1 (V.ptr 0 1 0 1) (lst di r)=some [(1,.vars [lst di r]),nnQ]:=by simp[st,sto,aC,cw,okV,lst]
  have g1:∀x:Nat×Bk,ld1 [(1,.vars [lst di r]),x] (V.ptr 0 1 0 1)=some (lst di r):=fun x=>by simp[ld1,aC]
  simp(disch:=try exact ac)[hlt,i1,i2,s1,g1];refine cd (XY (r:=r) aa) ?_;have s2:∀z:Int,st [(1,.vars [lst di r]),(1,Bk.vars [V.d (D.int .i64 0)])] 1 (V.ptr 1 1 0 1) (I z)=some [(1,.vars [lst di r]),(1,.vars [I z])]:=fun z=>by simp[st,sto,aC,cw,okV]
  have g2:∀(z:Int)(x:Nat×Bk),ld1 [x,(1,.vars [I z])] (V.ptr 1 1 0 1)=some (I z):=fun z x=>by simp[ld1,aC]
  simp only[MU]at h0 h1;simp(disch:=try exact ac)[s2,g2];by_cases c1:piv r<=b
  .rw[if_pos (.inl c1)]at h0 h1;simp(disch:=try exact ac)[c1,s2,g2];exact h1 rfl _
  .obtain⟨p,hpp⟩:∃p:Nat,piv r=p:=⟨(piv r).toNat,aa⟩;have hpr:p<r.length:=aa;rw[hpp]at h0 h1 c1 ⊢;rw[Int.toNat_natCast]at h0 h1;have i3:∀h:Hp,ixV h 1 (lst di r) (I p)=some (.dptr (r.map di) p):=fun h=>t8 di r h rfl hpr
   have i4:∀h:Hp,ld1 h (.dptr (r.map di) p)=some (I (nth 0 r p)):=fun h=>md di 0 r h hpr
   by_cases c2:nth 0 r p<0
   .rw[if_pos (.inr c2)]at h0 h1;simp(disch:=try exact ac)[c1,c2,s2,g2,g1,i3,i4];exact h1 rfl _
   .rw[if_neg (by simp only[not_or];exact⟨c1,c2⟩)]at h0 h1
    have sl:∀h:Hp,slV h 1 (mat m) none (some (I a.length))=some (mat a):=fun h=>by
     have:=aas row m (h:=h) (i:=a.length) (j:=a.length) aa rfl aa;rw[show mat m=lst row m from rfl,this,e];simp[mat]
    simp(disch:=try exact ac)[c1,c2,s2,g2,g1,i3,i4,sl];have hct:=BB (g:=F.ew) (cs:=[.dptr [.int .i64 p] 0,.dptr [row r] 0]) (p:=upF p r) (fun x=>by simp[aA,bg]) (by simp[aA,bg]) a aa fun o ho=>aa2 hpr (by rw[hr o (by rw[e];simp[ho])];omega)
    refine Ip (ds:=[mat a,.fn F.ew [] [.dptr [.int .i64 p] 0,.dptr [row r] 0]]) (h':=[(1,Bk.data 1 [row r] false true),(1,Bk.data 1 [.int .i64 p] false true)]) ?_ hct ?_
    .simp[aA,bg,aC,cw,H9,lst,row,mat]
    .rw[show(if dD (B (a.any (upF p r)))=true then[(1,Bk.vars [lst di r]),(1,Bk.vars [I (p:Int)])]else[(1,Bk.data 1 [row r] false true),(1,Bk.data 1 [.int .i64 p] false true)])=[(1,Bk.vars [lst di r]),(1,Bk.vars [I (p:Int)])]from rfl];by_cases c3:a.any (upF p r)=true
     .rw[if_pos c3]at h0 h1;simp(disch:=try exact ac)[c3];exact h1 rfl _
     .rw[if_neg c3]at h0 h1;have c3':a.any (upF p r)=false:=by simpa using c3
      have ih:=DO hm hc hr K q (a++[r]) p aa (by simp[e]) h0 h1;have e2:((a++[r]).length:Int)=(a.length:Int)+1:=ae;rw[e2]at ih;simp(disch:=try exact ac)[c3',g2];exact⟨rfl,lo ih⟩
theorem I8{c:Nat}:∀{m:LLQ},I9 c m=0->∀r∈m,r.length=c∧r.length<=12
 |[],_,r,hr=>by simp at hr
 | x::m,h,r,hr=>by
  simp only[I9]at h;split at h
  .omega
  .split at h
   .omega
   .split at h
    .omega
    .rename_i a1 a2 _;rcases Zs.1 hr with rfl|hr
     .exact⟨aa,aa⟩
     .exact I8 h r hr
theorem N8(b:Bool)(z:Int)(h:Hp):out (.tup [B b,I z]) (.tup [B b,I z]) h:=⟨h,by simp[bg,aA,norm]⟩
def hfB(m:LLQ):Bool:=decide (tcB m=0)&&MU (-1) [] m
theorem MQ(hm:m.length<1000000)(hr:∀r∈m,r.length<1000000):CP Y F.ky [mat m] (.tup [B (hfB m),I (tcB m)]):=by
 refine zS ?_;simp only[ky];simp(disch:=try exact ac);refine cd (PD hm hr) ?_ (by simp[aA,mat]);by_cases h:tcB m=0
 .have h12:¬12<m.length:=fun g=>by simp[tcB,g]at h
  have hl:=h;simp only[tcB,if_neg h12]at hl;have hc:=I8 hl
  have hcl:m≠[]->(nth [] m 0).length<1000000:=fun e=>by
   have:0<m.length:=Xg.2 e;exact hr _ (by rw[dQ _ _ _ this];exact X3 this)
  have hfo:CP Y F.kx [mat m] (B (MU (-1) [] m)):=by
   refine zR ?_;simp only[kx];have l1:aW (mat m)=some (I m.length):=rfl;simp(disch:=try exact ac)[l1];by_cases e:m=[]
   .subst e;refine lo (DO (c:=0) hm aa ae _ [] [] (-1) aa rfl (fun e h=>?_) (fun e h=>?_))
    .simp(disch:=try exact ac);exact cx rfl
    .cases e
   .refine lo (DO hm (hcl e) (fun r hr=>(hc r hr).1) _ m [] (-1) aa rfl (fun e h=>?_) (fun e h=>?_))
    .simp(disch:=try exact ac);exact cx e.symm
    .simp(disch:=try exact ac);exact cx e.symm
  simp(disch:=try exact ac)[h];refine cd hfo ?_ (by simp[aA,mat]);have e:hfB m=MU (-1) [] m:=by simp[hfB,h]
  rw[e,h];exact N8 _ _ _
 .simp(disch:=try exact ac)[h];have e:hfB m=false:=by simp[hfB,h]
  rw[e];exact N8 _ _ _
def Kt(c:Int)(m:LLQ):Int:=if lcB c m≠0 then lcB c m else if hfB m=true then 0 else 7
theorem zO{c:Int}(hm:m.length<1000000)(hr:∀r∈m,r.length<1000000):CP Y F.iK [rE c m] (I (Kt c m)):=by
 refine Bj ?_;simp only[iK,rE];simp(disch:=try exact ac);refine cd (Qw hm hr) ?_ (by simp[aA,bg,mat]);by_cases h:lcB c m=0
 .simp(disch:=try exact ac)[h];refine cd (MQ hm hr) ?_ (by simp[aA,mat]);by_cases h2:tcB m=0
  .by_cases h3:hfB m=true
   .simp(disch:=try exact ac)[h2,h3];exact bP (by simp[Kt,h,h3])
   .have h3':hfB m=false:=by simpa using h3
    simp(disch:=try exact ac)[h2,h3'];exact bP (by simp[Kt,h,h3'])
  .have h3':hfB m=false:=by simp[hfB,h2]
   simp(disch:=try exact ac)[h2,h3'];exact bP (by simp[Kt,h,h3'])
 .simp(disch:=try exact ac)[h];exact bP (by simp[Kt,h])
def zI(n:Int)(p:Mz):Hp:=[(1,.vars [I 0,nlV]),(1,.vars [I n,(acU 2).v p.length (p.map row)]),(acU 2).b p.length (p.map row)]
theorem TS{m:Mz}{n:Int}(hm:m.length<1000)(hr:∀r∈m,r.length<1000000)(hz:∀r∈m,∀z∈r,-1000000000<=z∧z<=1000000000)(h0:Hp)(K:KL):∀(q p:Mz),m=p++q->K (.exit 0) [] (zI n m) ->
  lp (iA (CX Y) (.ptr 0 1 0 2) (.ptr 1 1 0 2) (tu m) (I m.length)) [] h0 [I p.length] (zI n p) K
 | [],p,e,hK=>by
  simp only[Zo]at e;subst e;refine ai ?_;have hlt:¬((m.length:Int)<(m.length:Int)):=aa;simp only[iA];simp(disch:=try exact ac)[hlt];exact hK
 | r::q,p,e,hK=>by
  refine ai ?_;have hlt:((p.length:Int)<(m.length:Int)):=by rw[e];simp;omega
  have hrm:r∈m:=by rw[e];simp
  have hpl:p.length<m.length:=aa;obtain⟨H,hH⟩:=nmQ (zI n p);have i1:ixV H 1 (tu m) (I p.length)=some (.dptr (m.map uA) p.length):=by rw[e];exact OD p r q H
  have i2:ld1 H (.dptr (m.map uA) p.length)=some (lst sI r):=by rw[e];exact OB p r q H
  rw[<-hH];simp only[iA];simp(disch:=try exact ac)[hlt,i1,i2];refine cd (Qp (hz r hrm) (hr r hrm)) ?_;have f1:ld1 H (.ptr 1 1 1 2)=some ((acU 2).v p.length (p.map row)):=by rw[hH];simp[ld1,zI,aC]
  have hli:fO 1 [nPQ] [(0,lst di r)] H=some ([row r],H):=by simp[fO,jm,ly,toD,norm,lst,row]
  simp(disch:=try exact ac)[f1,hli];refine om (acU 2) (by_:=24) (k:=1) (cs:=[row r]) aa (by rw[hH];rfl) (by simp[acU]) (by simp[acU]) rfl (by intro t ht;cases ht) aa (by simp[acU]) ?_
  have hs:H.set (acU 2).s ((acU 2).b (p.length+1) (p.map row++[row r]))=[(1,.vars [I 0,nlV]),(1,.vars [I n,(acU 2).v p.length (p.map row)]),(acU 2).b (p.length+1) (p.map row++[row r])]:=by rw[hH];rfl
  have hst:st [(1,.vars [I 0,nlV]),(1,.vars [I n,(acU 2).v p.length (p.map row)]),(acU 2).b (p.length+1) (p.map row++[row r])] 1 (.ptr 1 1 1 2) ((acU 2).v (p.length+1) (p.map row++[row r]))=some (zI n (p++[r])):=by
   simp[st,sto,aC,cw,okV,zI,Acc.v,Acc.b]
  have ih:=TS hm hr hz h0 K q (p++[r]) (by simp[e]) hK;have e2:((p++[r]).length:Int)=(p.length:Int)+1:=ae;rw[e2]at ih;rw[hs];simp only[Acc.v,Acc.b]at hst ⊢;simp(disch:=try exact ac)[hst];rw[fE];refine lo ?_;simpa[zI,Acc.v,Acc.b]using ih
theorem Dp{m:Mz}{n:Int}(hm:m.length<1000)(hr:∀r∈m,r.length<1000000)(hz:∀r∈m,∀z∈r,-1000000000<=z∧z<=1000000000):CP Y F.ef [tu m,I n] (.tup [rE n m,I 0]):=by
 refine uB ?_;simp only[ef];have l1:aW (tu m)=some (I m.length):=rfl;simp(disch:=try exact ac)[l1];refine lo (TS hm hr hz _ _ m [] rfl ?_);have g1:ldA (zI n m) 2 (.ptr 1 1 0 2)=some (.agg [I n,(acU 2).v m.length (m.map row)]):=by simp[ldA,zI,aC]
 have okv:okV ((acU 2).v m.length (m.map row))=true:=by cases m<;>rfl
 have s1:st (zI n m) 2 (.ptr 0 1 0 2) (.agg [I n,(acU 2).v m.length (m.map row)])=some [(1,.vars [I n,(acU 2).v m.length (m.map row)]),(1,.vars [I n,(acU 2).v m.length (m.map row)]),(acU 2).b m.length (m.map row)]:=by
  simp[st,sto,zI,aC,cw,okv]
 have g2:ldA [(1,.vars [I n,(acU 2).v m.length (m.map row)]),(1,.vars [I n,(acU 2).v m.length (m.map row)]),(acU 2).b m.length (m.map row)] 2 (.ptr 0 1 0 2)=some (.agg [I n,(acU 2).v m.length (m.map row)]):=by simp[ldA,aC]
 show(bnd (ldA (zI n m) 2 (.ptr 1 1 0 2)) fun v7=>stD (zI n m) 2 (.ptr 0 1 0 2) v7 fun x h=>bnd (ldA h 2 (.ptr 0 1 0 2)) fun v9=>out (.tup [rE n m,I 0]) (.tup [v9,.d (.int .i64 0)]) h)
 simp only[g1,bnd,stD,s1,g2];obtain⟨h',e1,_⟩:=py (acU 2) (L:=m.length) (cells:=m.map row) (h:=[(1,.vars [I n,(acU 2).v m.length (m.map row)]),(1,.vars [I n,(acU 2).v m.length (m.map row)]),(acU 2).b m.length (m.map row)]) rfl (by simp[acU]);refine⟨h',?_⟩;simp[bg,aA,e1,rE,mat,lst,norm]
structure IC(n:Nat)(m:Mz):Prop where
 n0:0<n
 n12:n<=12
 ml:m.length<=12
 rl:∀r∈m,r.length=n
 sm:∀r∈m,∀z∈r,-1000000000<=z∧z<=1000000000
theorem XT{f:Nat}{m z:Mz}(hB:Bd<=100000)(hl:Kt n m=0)(ho:IC n m)(hk:MO Bd f n m=some z)(hz:IC n z):CP Y F.fF [rE n m] (.tup [rE n z,I 0]):=by
 refine uF ?_;simp only[fF,rE];simp(disch:=try exact ac);have hrl:∀r∈m,r.length<1000000:=fun r hr=>by rw[ho.rl r hr];have:=ho.n12;omega
 have hml:=ho.ml;have hn:=ho.n12;refine cd (args:=[rE n m]) (zO aa hrl) ?_ (by simp[aA,bg,rE,mat]);have c1:=Dr (m:=m) ho.ml hrl (fun r hr z hz=>by have:=ho.sm r hr z hz;omega);have c2:=zP (m:=m) (n:=n) ho.n0 aa ho.rl aa hB hk;have c3:=Dp (m:=z) (n:=n) (by have:=hz.ml;omega) (fun r hr=>by rw[hz.rl r hr];omega) hz.sm
 simp(disch:=try exact ac)[hl];refine cd c1 ?_ (by simp[aA,mat]);simp(disch:=try exact ac);refine cd c2 ?_ (by simp[aA,bg,tu]);simp(disch:=try exact ac);refine cd c3 ?_ (by simp[aA,bg,tu]);have ok1:okV (mat z)=true:=rfl;simp(disch:=try exact ac)[rE,ok1];exact⟨_,by simp[bg,aA,mat];rfl⟩
theorem XK{f:Nat}{m y z:Mz}(hB:Bd<=100000)(hl:Kt n m=0)(ho:IC n m)(hk:MO Bd f n m=some y)(hy:∀r∈y,r.length=n)(hyl:y.length<1000)(hk2:MO Bd f n y=some z)(hz:IC n z):CP Y F.iS [rE n m] (.tup [rE n z,I 0]):=by
 refine xr ?_;simp only[iS,rE];simp(disch:=try exact ac);have hrl:∀r∈m,r.length<1000000:=fun r hr=>by rw[ho.rl r hr];have:=ho.n12;omega
 have hml:=ho.ml;have hn:=ho.n12;refine cd (args:=[rE n m]) (zO aa hrl) ?_ (by simp[aA,bg,rE,mat]);have c1:=Dr (m:=m) ho.ml hrl (fun r hr z hz=>by have:=ho.sm r hr z hz;omega);have c2:=zP (m:=m) (n:=n) ho.n0 aa ho.rl aa hB hk;have c4:=zP (m:=y) (n:=n) ho.n0 aa hy hyl hB hk2
 have c3:=Dp (m:=z) (n:=n) (by have:=hz.ml;omega) (fun r hr=>by rw[hz.rl r hr];omega) hz.sm;simp(disch:=try exact ac)[hl];refine cd c1 ?_ (by simp[aA,mat]);simp(disch:=try exact ac);refine cd c2 ?_ (by simp[aA,bg,tu]);simp(disch:=try exact ac);refine cd c4 ?_ (by simp[aA,bg,tu])
 simp(disch:=try exact ac);refine cd c3 ?_ (by simp[aA,bg,tu]);have ok1:okV (mat z)=true:=rfl;simp(disch:=try exact ac)[rE,ok1];exact⟨_,by simp[bg,aA,mat];rfl⟩
theorem ZJ{o:Option V}{v:V}{k:V->Prop}(h:o=some v)(hk:k v):bnd o k:=by rw[h];exact hk
def tpV(p:LiQ)(c w:Mz):V:=.agg [lst di p,mat c,mat w]
structure Rh(p:LiQ)(c w:Mz):Prop where
 pr:pcB p=0
 lc:IC p.length c
 lw:IC p.length w
 ch:Kt p.length c=0
 k1:∃B f,B<=100000∧MO B f p.length c=some w∧MO B f p.length w=some c
theorem Pr(x y:LiQ)(hx:x.length<1000000)(hy:y.length<1000000):CP Y F.d8 [.d (row x),.d (row y)] (B (decide (x=y))):=by refine uz ?_;simp only[d8];simp(disch:=try exact ac);refine cd (args:=[lst di x,lst di y]) (vB aa aa) ?_ (by simp[aA]);exact cx rfl
theorem Rt{m m':Mz}(hm:m.length<1000000)(hm':m'.length<1000000)(h2:∀r∈m,r.length<1000000)(h3:∀r∈m',r.length<1000000):CP Y F.fU [mat m,mat m'] (B (decide (m=m'))):=by refine w9 ?_;simp only[fU];simp(disch:=try exact ac);refine cd (UL (g:=F.d8) Pr hm hm' h2 h3) ?_ (by simp[aA,bg,mat]);exact cx rfl
theorem IC.rl6{m:Mz}(h:IC n m):∀r∈m,r.length<1000000:=fun r hr=>by rw[h.rl r hr];have:=h.n12;omega
theorem Cq{p:LiQ}{c w:Mz}(h:Rh p c w):CP Y F.fj [tpV p c w] (I 0):=by
 refine wC ?_;simp only[fj,tpV];have hn:=h.lc.n12;have hcl:=h.lc.ml;have hwl:=h.lw.ml;have a1:=lT (p:=p) aa;rw[h.pr]at a1;have a2:=zO (c:=p.length) (m:=c) aa h.lc.rl6;rw[h.ch]at a2;obtain⟨Bd,f,hB,k1,k2⟩:=h.k1;have a3:=XK hB h.ch h.lc k1 h.lw.rl aa k2 h.lc;have a4:=XT hB h.ch h.lc k1 h.lw
 have a5:CP Y F.jQ [rE p.length c,rE p.length c] (B true):=by
  have:=Qu (c:=p.length) (c':=p.length) (m:=c) (m':=c) aa aa h.lc.rl6 h.lc.rl6;simpa using this
 have a6:CP Y F.fU [mat w,mat w] (B true):=by
  have:=Rt (m:=w) (m':=w) aa aa h.lw.rl6 h.lw.rl6;simpa using this
 have l1:aW (lst di p)=some (I p.length):=rfl;simp(disch:=try exact ac);refine cd a1 ?_;have ok1:∀m:Mz,okV (lst row m)=true:=fun _=>rfl
 simp only[rE,mat]at a2 a3 a4 a5 a6;simp(disch:=try exact ac)[l1,ok1];refine cd a2 ?_ (by simp[aA,bg]);simp(disch:=try exact ac);refine cd a3 ?_ (by simp[aA,bg]);simp(disch:=try exact ac)[ok1];refine cd a5 ?_ (by simp[aA,bg]);simp(disch:=try exact ac);refine cd a4 ?_ (by simp[aA,bg])
 simp(disch:=try exact ac)[ok1];refine cd (args:=[lst row w,lst row w]) a6 ?_ (by simp[aA,bg]);simp(disch:=try exact ac)
def tbB(n:Nat):Mz->Int
 |[]=>0
 |r::q=>if rcB r≠0 then rcB r else if r.length≠n then 5 else tbB n q
variable{p:LiQ}{c w:Mz}
theorem FO{m:Mz}(hm:m.length<1000000)(hr:∀r∈m,r.length<1000000)(e:Nat)(h0:Hp)(K:KL):∀(q a:Mz),m=a++q->(tbB p.length q=0->K (.exit 0) [] [(e,.vars [lst di p,mat c,mat w])])->(tbB p.length q≠0->K .ret [I (tbB p.length q)] [(e,.vars [lst di p,mat c,mat w])]) ->
  lp (jw (CX Y) (.ptr 0 e 0 3) (mat m) (I m.length)) [] h0 [I a.length] [(e,.vars [lst di p,mat c,mat w])] K
 | [],a,e1,h1,h2=>by
  simp only[Zo]at e1;subst e1;refine ai ?_;have hlt:¬((m.length:Int)<(m.length:Int)):=aa;simp only[jw];simp(disch:=try exact ac)[hlt];exact h1 rfl
 | r::q,a,e1,h1,h2=>by
  refine ai ?_;have hlt:((a.length:Int)<(m.length:Int)):=by rw[e1];simp;omega
  have hl:a.length<m.length:=aa;have hrm:r∈m:=by rw[e1];simp
  have i1:∀h:Hp,ixV h 1 (mat m) (I a.length)=some (.dptr (m.map row) a.length):=fun h=>by rw[e1];exact o9 row a r q _ _
  have i2:∀h:Hp,ld1 h (.dptr (m.map row) a.length)=some (lst di r):=fun h=>by
   rw[oB row m _ hl];simp only[e1,Zm (Z7 _),Zc,Zg];rfl
  have l1:aW (lst di r)=some (I r.length):=rfl;have l2:aW (lst di p)=some (I p.length):=rfl;have g1:ld1 [(e,.vars [lst di p,mat c,mat w])] (.ptr 0 e 0 3)=some (lst di p):=by simp[ld1,aC]
  simp only[jw];simp(disch:=try exact ac)[hlt,i1,i2];refine cd (N2 (by have:=hr r hrm;omega)) ?_;simp only[tbB]at h1 h2;by_cases c1:rcB r=0
  .rw[if_neg (by simp[c1])]at h1 h2;by_cases c2:r.length=p.length
   .rw[if_neg (by simp[c2])]at h1 h2;have c2':(r.length:Int)=(p.length:Int):=aa;simp(disch:=try exact ac)[c1,l1,l2,g1,c2'];rw[fE];have ih:=FO hm hr e h0 K q (a++[r]) (by simp[e1]) h1 h2;have e2:((a++[r]).length:Int)=(a.length:Int)+1:=ae;rw[e2]at ih;exact lo ih
   .rw[if_pos c2]at h1 h2;have c2':¬(r.length:Int)=(p.length:Int):=aa;simp(disch:=try exact ac)[c1,l1,l2,g1,c2'];exact h2 af
  .rw[if_pos c1]at h1 h2;simp(disch:=try exact ac)[c1];exact h2 c1
theorem PE(h:Rh p c w){m:Mz}(hm:m.length<1000000)(hr:∀r∈m,r.length<1000000):CP Y F.gK [tpV p c w,mat m] (I (tbB p.length m)):=by
 refine wB ?_;simp only[gK,tpV];simp(disch:=try exact ac);refine cd (args:=[tpV p c w]) (Cq h) ?_ (by simp[aA,bg,tpV,mat]);have l1:aW (mat m)=some (I m.length):=rfl;simp(disch:=try exact ac)[l1];refine lo (FO hm hr 1 _ _ m [] rfl (fun e=>?_) (fun e=>?_))
 .simp(disch:=try exact ac);exact bP e.symm
 .simp(disch:=try exact ac)
def Ab:LiQ->LiQ->Int
 |x::xs,y::ys=>x*y+Ab xs ys
 |_,_=>0
def bd9(l:LiQ):Prop:=∀x∈l,-1000000000<=x∧x<=1000000000
theorem FL{x v:LiQ}(hl:v.length=x.length)(hn:x.length<=64)(hx:bd9 x)(hv:bd9 v)(h0 h:Hp)(K:KL):∀(q qv a av:LiQ)(s:Int),x=a++q->v=av++qv->av.length=a.length->s.natAbs<=1000000000000000000*a.length ->
  K (.exit 2) [S (itoa (s+Ab q qv))] h ->
  lp (je (CX Y) (lst di v) (lst di x) (I x.length)) [] h0 [S (itoa s),I a.length] h K
 | [],qv,a,av,s,e1,e2,e3,hs,hK=>by
  simp only[Zo]at e1;subst e1;refine ai ?_;have hlt:¬((x.length:Int)<(x.length:Int)):=aa;simp only[je];simp(disch:=try exact ac)[hlt];simpa[Ab]using hK
 | b::q,[],a,av,s,e1,e2,e3,hs,hK=>by
  exfalso;rw[e1,e2]at hl;simp at hl;omega
 | b::q,d::qv,a,av,s,e1,e2,e3,hs,hK=>by
  refine ai ?_;have hlt:((a.length:Int)<(x.length:Int)):=by rw[e1];simp;omega
  have hax:a.length<x.length:=aa;have hal:a.length<64:=Z3 hax hn;have i1:ixV h 1 (lst di x) (I a.length)=some (.dptr (x.map di) a.length):=by rw[e1];exact o9 di a b q _ _
  have i2:ld1 h (.dptr (x.map di) a.length)=some (I b):=by
   rw[oB di x _ aa];simp only[e1,Zm (Z7 _),Zc,Zg];rfl
  have i3:ixV h 1 (lst di v) (I a.length)=some (.dptr (v.map di) a.length):=by rw[e2,<-e3];exact o9 di av d qv _ _
  have i4:ld1 h (.dptr (v.map di) a.length)=some (I d):=by
   rw[oB di v _ aa];simp only[e2,<-e3,Zm (Z7 _),Zc,Zg];rfl
  have hb:=hx b (by rw[e1];simp);have hd:=hv d (by rw[e2];simp);have n18:∀z:Int,z.natAbs<10^30->ndg z.natAbs<400000:=fun z hz=>Zj (cQ hz af) af
  have h3:(b*d).natAbs<=1000000000*1000000000:=by
   rw[Y2];exact Za aa aa
  have hp:(10:Nat)^30=1000000000000000000000000000000:=af;simp only[je];simp(disch:=try exact ac)[hlt,i1,i2];refine cd (kr (z:=b) aa aa) ?_;simp(disch:=try exact ac)[i3,i4];refine cd (kr (z:=d) aa aa) ?_;simp(disch:=try exact ac)
  refine cd (qY (z:=b) (w:=d) (n18 _ aa) (n18 _ aa)) ?_;simp(disch:=try exact ac);refine cd (sV (z:=s) (w:=b*d) (by have:=n18 s aa;omega) (by have:=n18 (b*d) aa;omega)) ?_;have h4:=Wz s (b*d)
  have ih:=FL hl hn hx hv h0 h K q qv (a++[b]) (av++[d]) (s+b*d) (by simp[e1]) (by simp[e2]) (by simp[e3]) aG (by
   have:s+b*d+Ab q qv=s+Ab (b::q) (d::qv):=by simp only[Ab];omega
   rw[this];exact hK)
  have e4:((a++[b]).length:Int)=(a.length:Int)+1:=ae;rw[e4]at ih;simp(disch:=try exact ac);rw[fE];exact lo ih
def lz(w:Mz)(x:LiQ):LiQ:=w.map fun v=>Ab x v
theorem FM{x:LiQ}{w:Mz}(hw:w.length<1000)(hl:∀v∈w,v.length=x.length)(hn:x.length<=64)(hx:bd9 x)(hv:∀v∈w,bd9 v)(b0:Nat×Bk)(h0:Hp)(K:KL):∀(q a:Mz),w=a++q ->
  K (.exit 0) [(acU 1).v w.length ((lz w x).map sI)] [b0,(acU 1).b w.length ((lz w x).map sI)] ->
  lp (jf (CX Y) (lst di x) (mat w) (I w.length)) [] h0 [(acU 1).v a.length ((lz a x).map sI),I a.length] [b0,(acU 1).b a.length ((lz a x).map sI)] K
 | [],a,e,hK=>by
  simp only[Zo]at e;subst e;refine ai ?_;have hlt:¬((w.length:Int)<(w.length:Int)):=aa;simp only[jf];simp(disch:=try exact ac)[hlt];exact hK
 | v::q,a,e,hK=>by
  refine ai ?_;have hlt:((a.length:Int)<(w.length:Int)):=by rw[e];simp;omega
  have hal:a.length<w.length:=aa;have hvm:v∈w:=by rw[e];simp
  have i1:∀h:Hp,ixV h 1 (mat w) (I a.length)=some (.dptr (w.map row) a.length):=fun h=>by rw[e];exact o9 row a v q _ _
  have i2:∀h:Hp,ld1 h (.dptr (w.map row) a.length)=some (lst di v):=fun h=>by
   rw[oB row w _ hal];simp only[e,Zm (Z7 _),Zc,Zg];rfl
  have l1:aW (lst di x)=some (I x.length):=rfl;obtain⟨H,hH⟩:∃H:Hp,H=[b0,(acU 1).b a.length ((lz a x).map sI)]:=⟨_,rfl⟩;rw[<-hH];simp only[jf];simp(disch:=try exact ac)[hlt,i1,i2,l1]
  have e48:V.d (D.str [48])=S (itoa 0):=by
   have:itoa 0=[48]:=aF;rw[this]
  rw[e48];refine lo (FL (hl v hvm) hn hx (hv v hvm) _ H _ x v [] [] 0 rfl rfl rfl ae ?_);have hli:fO 1 [.str []] [(0,S (itoa (Ab x v)))] H=some ([sI (Ab x v)],H):=by simp[fO,jm,ly,toD,norm,sI]
  simp(disch:=try exact ac)[hli];have ez:lz (a++[v]) x=lz a x++[Ab x v]:=by simp[lz]
  refine om (acU 1) (by_:=16) (k:=1) (cs:=[sI (Ab x v)]) aa (by rw[hH];rfl) (by simp[acU,lz]) (by simp[acU]) rfl (by intro t ht;cases ht) aa (by simp[acU]) ?_;have hs:H.set (acU 1).s ((acU 1).b (a.length+1) ((lz a x).map sI++[sI (Ab x v)]))=[b0,(acU 1).b (a.length+1) ((lz a x).map sI++[sI (Ab x v)])]:=by rw[hH];rfl
  rw[hs];have ih:=FM hw hl hn hx hv b0 h0 K q (a++[v]) (by simp[e]) hK;have e4:((a++[v]).length:Int)=(a.length:Int)+1:=ae;rw[e4,ez,List.map_append,List.length_append]at ih;simp(disch:=try exact ac);rw[fE];refine lo ?_;simpa[Acc.v,Acc.b]using ih
theorem PC(h:Rh p c w)(hl:x.length=p.length)(hx:bd9 x):CP Y F.fT [tpV p c w,lst di x] (lst sI (lz w x)):=by
 refine uX ?_;simp only[fT,tpV];have l1:aW (mat w)=some (I w.length):=rfl;have hn:=h.lc.n12;have hwl:=h.lw.ml;simp(disch:=try exact ac)[l1];refine lo (FM aa (fun v hv=>by rw[h.lw.rl v hv,hl]) aa hx (fun v hv=>h.lw.sm v hv) _ _ _ w [] rfl ?_);simp(disch:=try exact ac)
 obtain⟨h',e1,_⟩:=py (acU 1) (L:=w.length) (cells:=(lz w x).map sI) (h:=[(1,.vars [lst di p,mat c,mat w]),(acU 1).b w.length ((lz w x).map sI)]) rfl (by simp[acU,lz]);refine⟨h',?_⟩;rw[e1];simp[lst,lz]
theorem GR{l:LiQ}(hn:l.length<1000)(hz:bd9 l)(b0:Nat×Bk)(h0:Hp)(K:KL):∀(q a:LiQ),l=a++q->K (.exit 0) [(acU 1).v l.length (l.map di)] [b0,(acU 1).b l.length (l.map di)] ->
  lp (jg (CX Y) (lst sI l) (I l.length)) [] h0 [(acU 1).v a.length (a.map di),I a.length] [b0,(acU 1).b a.length (a.map di)] K
 | [],a,e,hK=>by
  simp only[Zo]at e;subst e;refine ai ?_;have hlt:¬((l.length:Int)<(l.length:Int)):=aa;simp only[jg];simp(disch:=try exact ac)[hlt];exact hK
 | z::q,a,e,hK=>by
  refine ai ?_;have hlt:((a.length:Int)<(l.length:Int)):=by rw[e];simp;omega
  have hal:a.length<l.length:=aa;have hzb:=hz z (by rw[e];simp);have i1:∀h:Hp,ixV h 1 (lst sI l) (I a.length)=some (.dptr (l.map sI) a.length):=fun h=>by rw[e];exact o9 sI a z q _ _
  have i2:∀h:Hp,ld1 h (.dptr (l.map sI) a.length)=some (S (itoa z)):=fun h=>by
   rw[oB sI l _ hal];simp only[e,Zm (Z7 _),Zc,Zg];rfl
  obtain⟨H,hH⟩:∃H:Hp,H=[b0,(acU 1).b a.length (a.map di)]:=⟨_,rfl⟩;rw[<-hH];have g1:¬(z>1000000000):=aa;have g2:¬(z < -1000000000):=aa;have hli:fO 1 [.int .i64 0] [(0,I z)] H=some ([di z],H):=by simp[fO,jm,ly,toD,norm];rfl
  simp only[jg];simp(disch:=try exact ac)[hlt,i1,i2];refine cd (zp (z:=z) aa) ?_;simp(disch:=try exact ac)[g1,g2,hli];refine om (acU 1) (by_:=8) (k:=1) (cs:=[di z]) aa (by rw[hH];rfl) (by simp[acU]) (by simp[acU]) rfl (by intro t ht;cases ht) aa (by simp[acU]) ?_
  have hs:H.set (acU 1).s ((acU 1).b (a.length+1) (a.map di++[di z]))=[b0,(acU 1).b (a.length+1) (a.map di++[di z])]:=by rw[hH];rfl
  rw[hs];have ih:=GR hn hz b0 h0 K q (a++[z]) (by simp[e]) hK;have e4:((a++[z]).length:Int)=(a.length:Int)+1:=ae;rw[e4,List.map_append,List.length_append]at ih;simp(disch:=try exact ac);rw[fE];refine lo ?_;simpa[Acc.v,Acc.b]using ih
theorem Ri(h:Rh p c w)(hl:x.length=p.length)(hx:bd9 x)(hr:rcB x=0)(hz:bd9 (lz w x)):CP Y F.fV [tpV p c w,lst di x] (.tup [lst di (lz w x),I 0]):=by
 refine uY ?_;simp only[fV,tpV];have hn:=h.lc.n12;have hwl:=h.lw.ml;have hli:fO 1 [nPQ] [(0,lst di x)] [(1,Bk.vars [lst di p,mat c,mat w]),(0,Bk.none)]=some ([row x],[(1,Bk.vars [lst di p,mat c,mat w]),(0,Bk.none)]):=by simp[fO,jm,ly,toD,norm,lst,row]
 have tb:tbB p.length [x]=0:=by simp[tbB,hr,hl]
 have b1:=PE h (m:=[x]) ae aG;rw[tb]at b1;simp(disch:=try exact ac)[hli];refine cd (args:=[tpV p c w,mat [x]]) b1 ?_ (by simp[aA,bg,tpV,mat]);simp(disch:=try exact ac);refine cd (args:=[tpV p c w,lst di x]) (PC h hl hx) ?_ (by simp[aA,bg,tpV,mat]);have l1:aW (lst sI (lz w x))=some (I (lz w x).length):=rfl
 simp(disch:=try exact ac)[l1];refine lo (GR (by simp[lz];omega) hz _ _ _ (lz w x) [] rfl ?_);simp(disch:=try exact ac);obtain⟨h',e1,_⟩:=py (acU 1) (L:=(lz w x).length) (cells:=(lz w x).map di) (h:=[(1,.vars [lst di p,mat c,mat w]),(acU 1).b (lz w x).length ((lz w x).map di)]) rfl (by simp[acU]);refine⟨h',?_⟩
 simp only[bg,aA,e1,norm];rfl
def p13(k:Nat):LiQ:=agp.getD (k%10) []
def upI(x:Int->Int)(p:Int):Int:=if p=2 then x p else x p+1
def m6(x:Int->Int):List (Int×Int)->Int×Int->Int×Int
 |[],a=>a
 |t::ts,a=>m6 x ts (if t.2<0 then(a.1+upI x t.1*t.2,a.2+x t.1*t.2)else(a.1+x t.1*t.2,a.2+upI x t.1*t.2))
theorem H7(n:Nat):∀(ts:List (Int×Int))(a:Int×Int),d7 n ts a=m6 (lgI n) ts a
 |[],a=>rfl
 | t::ts,a=>by
  simp only[d7,m6,upI,lgI];exact H7 n ts _
def fxI(p:Int):Int:=((yC p.toNat).getD 0:Nat)
theorem Ea{most:Int}:∀(ts:List (Int×Int))(a r:Int×Int),ov most ts a=some r->r=m6 fxI ts a
 | [],a,r,h=>by
  simp only[ov,Z9]at h;exact h.symm
 | t::ts,a,r,h=>by
  simp only[ov]at h;split at h
  .cases h
  .split at h
   .cases h
   .rename_i f hf;have hx:fxI t.1=(f:Int):=by unfold fxI;rw[hf];rfl
    have ih:=Ea ts _ r h;rw[ih,m6];congr 1;unfold upI;rw[hx];obtain⟨b,hb⟩:∃b:Int,b=if t.1=2 then(f:Int)else f+1:=⟨_,rfl⟩
    rw[<-hb];have hfb:(f:Int)<=b:=by rw[hb];split<;>omega
    by_cases hn:t.2<0
    .rw[if_pos hn];have:t.2*b<=t.2*f:=Int.mul_le_mul_of_nonpos_left aa hfb;rw[Int.min_eq_right this,Int.max_eq_left this,Xz b,Xz (f:Int)]
    .rw[if_neg hn];have:t.2*f<=t.2*b:=Int.mul_le_mul_of_nonneg_left hfb aa;rw[Int.min_eq_left this,Int.max_eq_right this,Xz b,Xz (f:Int)]
theorem wj{x:Int->Int}:∀(ts:List (Int×Int))(a:Int×Int),m6 x ts a=(a.1+(m6 x ts (0,0)).1,a.2+(m6 x ts (0,0)).2)
 |[],a=>by simp[m6]
 | t::ts,a=>by
  simp only[m6];split
  .rw[wj ts,wj ts (0+_,0+_)];simp only[Xa,Wl]
  .rw[wj ts,wj ts (0+_,0+_)];simp only[Xa,Wl]
theorem D9{x x':Int->Int}{K:Int}(hK:0<=K):∀ts:List (Int×Int),(∀t∈ts,x t.1*K<=x' t.1∧upI x' t.1<=upI x t.1*K)->(m6 x ts (0,0)).1*K<=(m6 x' ts (0,0)).1∧(m6 x' ts (0,0)).2<=(m6 x ts (0,0)).2*K
 |[],_=>by simp[m6]
 | t::ts,h=>by
  obtain⟨h1,h2⟩:=h t ae;obtain⟨i1,i2⟩:=D9 hK ts fun u hu=>h u (by simp[hu])
  simp only[m6];rw[wj ts,wj (x:=x') ts];by_cases hn:t.2<0
  .rw[if_pos hn,if_pos hn];simp only[Xa,Xd];have m1:=Int.mul_le_mul_of_nonpos_right h2 (by omega:t.2<=0);have m2:=Int.mul_le_mul_of_nonpos_right h1 (by omega:t.2<=0);rw[Yu]at m1 m2;constructor<;>omega
  .rw[if_neg hn,if_neg hn];simp only[Xa,Xd];have m1:=X2 h1 (by omega:0<=t.2);have m2:=X2 h2 (by omega:0<=t.2);rw[Yu]at m1 m2;constructor<;>omega
def Hz(x:Int->Int)(K:Nat)(p:Int):Bool:=decide (x p*K<=lgI 2048 p)&&decide (upI (lgI 2048) p<=upI x p*K)
theorem Ap:∀p∈c6P,Hz fxI (2^2022) p=true∧Hz (lgI 64) (2^1984) p=true∧Hz (lgI 128) (2^1920) p=true∧Hz (lgI 256) (2^1792) p=true∧Hz (lgI 512) (2^1536) p=true∧Hz (lgI 1024) (2^1024) p=true:=aF
theorem TA{x:Int->Int}{K:Nat}(h:∀t∈ts,Hz x K t.1=true):(m6 x ts (0,0)).1*K<=(m6 (lgI 2048) ts (0,0)).1∧(m6 (lgI 2048) ts (0,0)).2<=(m6 x ts (0,0)).2*K:=by
 refine D9 aa ts fun t ht=>?_
 have:=h t ht;simp only[Hz,Z8,decide_eq_true_eq]at this;exact this
theorem Ah{x:Int->Int}{K:Nat}(h:∀t∈ts,Hz x K t.1=true)(hT:qz (lgI 2048) ts≠0):
  (0<=(m6 x ts (0,0)).1->(qz (lgI 2048) ts).sign=1)∧((m6 x ts (0,0)).2<=0->(qz (lgI 2048) ts).sign = -1):=by
 obtain⟨n1,n2⟩:=TA h;obtain⟨g1,g2,_⟩:=yH 2048 ts;rw[H7]at g1 g2;refine⟨fun h0=>?_,fun h0=>?_⟩
 .have:=Int.mul_nonneg h0 (by omega:(0:Int)<=K);exact W8 aa
 .have:=Int.mul_nonneg (a:=-(m6 x ts (0,0)).2) (b:=(K:Int)) aa aa;rw[Int.neg_mul]at this;exact Int.sign_eq_neg_one_of_neg aa
theorem U4(hT:qz (lgI 2048) ts≠0):
  (0<=(d7 2048 ts (0,0)).1->(qz (lgI 2048) ts).sign=1)∧((d7 2048 ts (0,0)).2<=0->(qz (lgI 2048) ts).sign = -1):=by obtain⟨g1,g2,_⟩:=yH 2048 ts;exact⟨fun h0=>W8 aa,fun h0=>Int.sign_eq_neg_one_of_neg aa⟩
theorem V9(hm:∀t∈ts,t.1∈c6P)(hn:(ts.map Prod.fst).Nodup)(h0:∀t∈ts,t.2≠0)(hl:ts.length<=6)(hb:∀t∈ts,t.2.natAbs<9223372036854775808):Js ts=some (qz (lgI 2048) ts).sign:=by
 cases ts with
 |nil=>rfl
 | cons t l=>
  obtain⟨ts,hts⟩:∃ts,ts=t::l:=⟨_,rfl⟩;have hne:ts≠[]:=by rw[hts];simp
  rw[<-hts]at hm hn h0 hl hb ⊢;have h1:=NG (C:=9223372036854775808) ts fun t ht=>Nat.le_of_lt (hb t ht)
  have h2:ts.length*9223372036854775808<=6*9223372036854775808:=Zy _ hl;have hb1:zm ts<=73786976294838206464:=aa
  have hT:qz (lgI 2048) ts≠0:=by
   intro e;have hz:=Gd (n:=2048) O9 rfl aaQ hm hb1 (by rw[e];simp);rw[hts]at hz hm hn h0;have:=hz t.1 (hm t ae);simp only[Z1,W7]at hn;rw[cfT,if_pos rfl,Il l hn.1]at this;exact h0 t ae aa
  have dec:=Wd (n:=2048) O9 rfl aaQ hm hn h0 hb1 hb1 hne;obtain⟨f1,f2⟩:=Ah (x:=fxI) (K:=2^2022) (fun t ht=>(Ap _ (hm t ht)).1) hT;have e:Js ts=if qm ts≠0 then some (qm ts)else Hj ts 6 64:=by rw[hts];rfl
  rw[e];by_cases hq:qm ts≠0
  .rw[if_pos hq];unfold qm at hq ⊢;split at hq
   .exact absurd rfl hq
   .rename_i a ha;have ea:=Ea _ _ _ ha;rw[<-ea]at f1 f2;by_cases c1:0<=a.1
    .rw[if_pos c1,f1 c1]
    .rw[if_neg c1];rw[if_neg c1]at hq;by_cases c2:a.2<=0
     .rw[if_pos c2,f2 c2]
     .rw[if_neg c2]at hq;exact absurd rfl hq
  .rw[if_neg hq]
   have step:∀(r n:Nat)(nx:Option Int),(0<=(d7 n ts (0,0)).1->(qz (lgI 2048) ts).sign=1)->((d7 n ts (0,0)).2<=0->(qz (lgI 2048) ts).sign = -1)->(Hj ts r (n*2)=some (qz (lgI 2048) ts).sign∨(0<=(d7 n ts (0,0)).1∨(d7 n ts (0,0)).2<=0))->Hj ts (r+1) n=some (qz (lgI 2048) ts).sign:=by
    intro r n nx a1 a2 a3;unfold Hj;by_cases c1:0<=(d7 n ts (0,0)).1
    .rw[if_pos c1,a1 c1]
    .rw[if_neg c1];by_cases c2:(d7 n ts (0,0)).2<=0
     .rw[if_pos c2,a2 c2]
     .rw[if_neg c2];rcases a3 with h|h|h
      .exact h
      .exact absurd h c1
      .exact absurd h c2
   have l64:=Ah (x:=lgI 64) (K:=2^1984) (fun t ht=>(Ap _ (hm t ht)).2.1) hT;have l128:=Ah (x:=lgI 128) (K:=2^1920) (fun t ht=>(Ap _ (hm t ht)).2.2.1) hT;have l256:=Ah (x:=lgI 256) (K:=2^1792) (fun t ht=>(Ap _ (hm t ht)).2.2.2.1) hT;have l512:=Ah (x:=lgI 512) (K:=2^1536) (fun t ht=>(Ap _ (hm t ht)).2.2.2.2.1) hT
   have l1024:=Ah (x:=lgI 1024) (K:=2^1024) (fun t ht=>(Ap _ (hm t ht)).2.2.2.2.2) hT;rw[<-H7]at l64 l128 l256 l512 l1024;have l2048:=U4 hT
   exact step 5 64 none l64.1 l64.2 (.inl (step 4 128 none l128.1 l128.2 (.inl (step 3 256 none l256.1 l256.2 (.inl (step 2 512 none l512.1 l512.2 (.inl (step 1 1024 none l1024.1 l1024.2 (.inl (step 0 2048 none l2048.1 l2048.2 (.inr dec)))))))))))
def rpl(b:Nat):List Q->LiQ->Prop
 |x::s,a::r=>rp b x a∧rpl b s r
 |[],[]=>True
 |_,_=>False
def sj(z:Int):LiQ->LiQ->LiQ
 |a::r,c::t=>(a+z*c)::sj z r t
 |_,_=>[]
theorem Hn{b:Nat}:∀{s:List Q}{r:LiQ},rpl b s r->r.length=s.length
 |[],[],_=>rfl
 |x::s,a::r,h=>by simp[Hn h.2]
 |[],_::_,h=>h.elim
 |_::_,[],h=>h.elim
theorem CU{b:Nat}(z:Int):∀{o s:List Q}{r t:LiQ},o.length=s.length->rpl b o r->rpl b s t->rpl b (ut (z,1) o s) (sj z r t)
 |[],[],[],[],_,_,_=>trivial
 | x::o,y::s,a::r,c::t,hl,h1,h2=>by
  simp only[ut,sj];exact⟨abl h1.1 (WC z h2.1),CU z (by simpa using hl) h1.2 h2.2⟩
 |[],_::_,_,_,hl,_,_=>by simp at hl
 |_::_,[],_,_,hl,_,_=>by simp at hl
 |[],[],_::_,_,_,h,_=>h.elim
 |[],[],[],_::_,_,_,h=>h.elim
 |_::_,_::_,[],_,_,h,_=>h.elim
 |_::_,_::_,_::_,[],_,_,h=>h.elim
theorem FX(b:Nat):∀n:Nat,rpl b (List.replicate n (0,1)) (List.replicate n 0)
 |0=>trivial
 | n+1=>by
  rw[List.replicate_succ,List.replicate_succ];exact⟨WB b,FX b n⟩
theorem zw{b:Nat}(m:Nat):∀{s:List Q}{r:LiQ},rpl b s r->rpl (b*m) s (r.map fun a=>a*m)
 |[],[],_=>trivial
 |x::s,a::r,h=>⟨Sv m h.1,zw m h.2⟩
 |[],_::_,h=>h.elim
 |_::_,[],h=>h.elim
theorem Eb(z:Int):∀{r t L:LiQ},r.length=t.length->cR (sj z r t) L=cR r L+z*cR t L
 |[],[],L,_=>by simp[sj,cR]
 |a::r,c::t,[],_=>by simp[sj,cR]
 | a::r,c::t,l::L,h=>by
  simp only[sj,cR,Eb z (r:=r) (t:=t) (L:=L) (by simpa using h),Xd,Int.mul_add,Int.mul_assoc];omega
 |[],_::_,_,h=>by simp at h
 |_::_,[],_,h=>by simp at h
theorem GB:∀(n:Nat)(L:LiQ),cR (List.replicate n 0) L=0
 |0,L=>by simp[cR]
 |n+1,[]=>by simp[List.replicate_succ,cR]
 |n+1,l::L=>by simp[List.replicate_succ,cR,GB n L]
theorem Ac(m:Int):∀(r L:LiQ),cR (r.map fun a=>a*m) L=cR r L*m
 |[],L=>by simp[cR]
 |a::r,[]=>by simp[cR]
 | a::r,l::L=>by
  simp only[Z1,cR,Ac m r L,Xd];rw[Yu]
theorem Ci(z:Int):∀{r t:LiQ},r.length=t.length->(sj z r t).length=r.length
 |[],[],_=>rfl
 |a::r,c::t,h=>by simp[sj,Ci z (r:=r) (t:=t) (by simpa using h)]
 |[],_::_,h=>by simp at h
 |_::_,[],h=>by simp at h
theorem Su{b B:Nat}:∀{s:List Q}{r:LiQ},rpl b s r->(∀a∈r,a.natAbs<=B)->bdL b B s
 |[],[],_,_=>fun x hx=>by simp at hx
 | x::s,a::r,h,hb=>by
  have ih:=Su h.2 fun c hc=>hb c (by simp[hc])
  intro y hy;simp only[Zs]at hy;rcases hy with rfl|hy
  .exact⟨a,h.1,hb a ae⟩
  .exact ih y hy
 |[],_::_,h,_=>h.elim
 |_::_,[],h,_=>h.elim
theorem VA{b B:Nat}:∀{s:List Q},bdL b B s->∃r,rpl b s r∧∀a∈r,a.natAbs<=B
 |[],_=>⟨[],trivial,fun a h=>by simp at h⟩
 | x::s,h=>by
  obtain⟨a,h1,h2⟩:=h x ae;obtain⟨r,h3,h4⟩:=VA (s:=s) fun y hy=>h y (by simp[hy])
  refine⟨a::r,⟨h1,h3⟩,fun c hc=>?_⟩;simp only[Zs]at hc;rcases hc with rfl|hc
  .exact h2
  .exact h4 c hc
theorem IU{b d:Nat}(h:Int->Int)(hb:0<b)(hd:d∣b):∀{p:LiQ}{s:List Q}{r:LiQ},s.length=p.length->rpl b s r->(∀x∈s,x.2∣d)->qz h (iG d p s)*((b/d:Nat):Int)=cR r (p.map h)
 |[],[],[],_,_,_=>by simp[iG,qz,cR]
 | c::p,x::s,a::r,hl,hr,hv=>by
  have ih:=IU h hb hd (p:=p) (s:=s) (r:=r) (by simpa using hl) hr.2 fun y hy=>hv y (by simp[hy])
  have hx:=hv x ae;have p1:=hr.1.1.1;have d0:0<d:=Nat.pos_of_dvd_of_pos hd hb
  have key:x.1*((d/x.2:Nat):Int)*((b/d:Nat):Int)=a:=by
   obtain⟨u,hu⟩:=hx;obtain⟨v,hv'⟩:=hd;have e1:d/x.2=u:=by rw[hu];exact X9 _ p1
   have e2:b/d=v:=by rw[hv'];exact X9 _ d0
   rw[e1,e2];have h2:=hr.1.2;rw[hv',hu,Int.natCast_mul,Int.natCast_mul]at h2;refine Int.eq_of_mul_eq_mul_right (a:=(x.2:Int)) aa ?_;rw[<-h2];simp only[Xz,Int.mul_left_comm,Int.mul_assoc]
  simp only[iG];split
  .rename_i h0;rw[h0]at key;simp only[Int.zero_mul]at key;rw[ih,Z1,cR,<-key];simp
  .rw[qz,Xd,ih,Z1,cR];simp only;rw[Yu,key]
 |[],_::_,_,hl,_,_=>by simp at hl
 |_::_,[],_,hl,_,_=>by simp at hl
 |[],[],_::_,_,h,_=>h.elim
 |_::_,_::_,[],_,h,_=>h.elim
theorem Hf{k:Int}(hk:0<k):(z*k).sign=z.sign:=by rw[Int.sign_mul,W8 hk,Int.mul_one]
def L5(p:LiQ):LiQ:=p.map (lgI 2048)
theorem Sf{p:LiQ}{b B:Nat}(hp:in6 p)(hl:s.length=p.length)(hb:0<b)(hr:rpl b s r)(hB:∀a∈r,a.natAbs<=B)(hB2:B<9223372036854775808):ET p s ((cR r (L5 p)).sign):=by
 have bd:=Su hr hB;have h1:=aa9 hp hb bd hB2;have hd:∀x∈s,0<x.2:=fun x hx=>(aeI hb bd x hx).1
 have hll:(tq p s).length<=6:=by
  have:=zk (d:=pC 1 s) p s;have:=hp.2.1;unfold tq;omega
 have dv:∀x∈s,x.2∣pC 1 s:=fun x hx=>(Eh (s:=s) (d:=1)).2 x hx
 have d0:0<pC 1 s:=Eg af hd;have dd:=VC bd;have hs:=V9 (LO hp) (I4 hp.1) (I5 d0 fun x hx=>⟨hd x hx,dv x hx⟩) hll fun t ht=>(h1.2 t ht).2.2
 refine⟨abw h1,aci (LO hp),?_⟩;rw[hs];have:=IU (lgI 2048) hb dd hl hr dv;unfold L5;rw[<-this,Hf]
 .rfl
 .have:=Wj (Xi hb dd) d0;omega
theorem aer{p:LiQ}{a b:List Q}{m B:Nat}(hp:in6 p)(la:a.length=p.length)(lb:b.length=p.length)(n0:0<n)(m0:0<m)(ha:rpl n a r)(hb:rpl m b t)(hA:∀x∈r,x.natAbs<=A)(hB:∀x∈t,x.natAbs<=B)(hC:A*m+B*n<9223372036854775808):
  ET p (dfS p a b) ((cR r (L5 p)*m-cR t (L5 p)*n).sign):=by
 have lr:=Hn ha;have lt:=Hn hb;have r1:=zw m ha;have r2:=zw n hb;rw[Zr m n]at r2;have z:=FX (n*m) p.length;have s1:=CU 1 (by simp[la]) z r1;have s2:=CU (-1) (by rw[rK _ _ _ (by simp[la]),la,lb]) s1 r2;have e:ut (-1,1) (ut (1,1) (List.replicate p.length (0,1)) a) b=dfS p a b:=by simp[dfS,oo,zn]
 rw[e]at s2;have h1:(sj 1 (List.replicate p.length 0) (r.map fun a=>a*(m:Int))).length=p.length:=by rw[Ci _ (by simp[lr,la])];simp
 have hd:cR (sj (-1) (sj 1 (List.replicate p.length 0) (r.map fun a=>a*(m:Int))) (t.map fun a=>a*(n:Int))) (L5 p)=cR r (L5 p)*m-cR t (L5 p)*n:=by
  rw[Eb _ (by rw[h1];simp[lt,lb]),Eb _ (by simp[lr,la]),GB,Ac,Ac];omega
 have ld:(dfS p a b).length=p.length:=by rw[<-e,rK _ _ _ (by rw[rK _ _ _ (by simp[la]),la,lb]),lb]
 rw[<-hd];refine Sf hp ld (Yk n0 m0) s2 (B:=A*m+B*n) ?_ hC
 have vb:∀(z:Int)(X Y:Nat)(u v:LiQ),(∀x∈u,x.natAbs<=X)->(∀x∈v,x.natAbs<=Y)->∀x∈sj z u v,x.natAbs<=X+z.natAbs*Y:=by
  intro z X Y u
  induction u with
  |nil=>intro v _ _ x hx;simp[sj]at hx
  | cons a u ih=>
   intro v h1 h2 x hx;cases v with
   |nil=>simp[sj]at hx
   | cons c v=>
    simp only[sj,Zs]at hx;rcases hx with rfl|hx
    .have q1:=h1 a ae;have q2:=h2 c ae;have q3:=Wz a (z*c);rw[Y2]at q3;have q4:=Zx z.natAbs q2;omega
    .exact ih v (fun y hy=>h1 y (by simp[hy])) (fun y hy=>h2 y (by simp[hy])) x hx
 have q1:∀x∈r.map (fun a=>a*(m:Int)),x.natAbs<=A*m:=fun x hx=>by
  obtain⟨y,hy,rfl⟩:=Zh.1 hx;rw[Y2,Int.natAbs_natCast];exact Zy _ (hA y hy)
 have q2:∀x∈t.map (fun a=>a*(n:Int)),x.natAbs<=B*n:=fun x hx=>by
  obtain⟨y,hy,rfl⟩:=Zh.1 hx;rw[Y2,Int.natAbs_natCast];exact Zy _ (hB y hy)
 have q3:=vb 1 0 (A*m) (List.replicate p.length 0) _ (fun x hx=>by rw[Xb]at hx;rw[hx.2];simp) q1;have q4:=vb (-1) _ (B*n) _ _ q3 q2;intro x hx;have:=q4 x hx;simpa using this
structure ahl(p:LiQ)(l:List Rw):Prop where
 pc:pcB p=0
 i6:in6 p
 hl:0<p.length
 rw:∀r∈l,r.length=p.length∧∀x∈r,x.natAbs<=9
def Tw(b:Nat)(s:List Q):LiQ:=s.map fun x=>x.1*((b/x.2:Nat):Int)
theorem NQ{b:Nat}:∀{s:List Q}{r:LiQ},rpl b s r->r=Tw b s
 |[],[],_=>rfl
 | x::s,a::r,h=>by
  have ih:=NQ h.2;obtain⟨⟨hx,e⟩,_⟩:=h;obtain⟨u,hu⟩:=Hq ⟨hx,e⟩;have p1:=hx.1;have e1:b/x.2=u:=by rw[hu];exact X9 _ p1
  have:a=x.1*(u:Int):=by
   refine Int.eq_of_mul_eq_mul_right (a:=(x.2:Int)) aa ?_;rw[<-e,hu,Int.natCast_mul,Int.mul_assoc,Xz (x.2:Int)]
  simp only[Tw,Z1];rw[e1,this,ih];rfl
 |[],_::_,h=>h.elim
 |_::_,[],h=>h.elim
theorem BL{b B:Nat}(h:bdL b B s):rpl b s (Tw b s)∧∀a∈Tw b s,a.natAbs<=B:=by obtain⟨r,h1,h2⟩:=VA h;have e:=NQ h1;subst e;exact⟨h1,h2⟩
def vlS(p:LiQ)(n:Nat)(s:List Q):Int:=cR (Tw n s) (L5 p)
theorem agM{p:LiQ}{a b:List Q}{m B:Nat}(hp:in6 p)(la:a.length=p.length)(lb:b.length=p.length)(n0:0<n)(m0:0<m)(ha:bdL n A a)(hb:bdL m B b)(hC:A*m+B*n<9223372036854775808):
  ET p (dfS p a b) ((vlS p n a*m-vlS p m b*n).sign):=by obtain⟨h1,h2⟩:=BL ha;obtain⟨h3,h4⟩:=BL hb;exact aer hp la lb n0 m0 h1 h3 h2 h4 hC
def hq1(l:List Tx):Hp:=[(1,.data 2 (l.flatMap aV) true false)]
structure aeP(p:LiQ)(m:Nat)(bd:List Q):Prop where
 m0:0<m
 m1:m<=1000
 ln:bd.length=p.length
 bd:bdL m 1000 bd
theorem aeP.ok{p:LiQ}{m:Nat}(b:aeP p m bd):okS bd:=aco b.m0 b.bd (by have:=b.m1;omega) aa
def pcS(p:LiQ):Prop:=pcB p=0∧∀x∈p,x∈c6P
def XJ(m:LLQ):D:=.sl m.length (m.map row)
@[simp]theorem acM(m:LLQ):aW (.d (XJ m))=some (I m.length):=rfl
abbrev Lk:=Int×Int
def lkC(x:Lk):LdQ:=[di x.1,di x.2]
def lkD(l:List Lk):D:=.sl l.length (l.flatMap lkC)
@[simp]theorem adZ(l:List Lk):aW (.d (lkD l))=some (I l.length):=rfl
def wkC(p:LiQ)(ch:List LLQ)(lk:List (List Lk)):LwQ:=[lst di p,lst XJ ch,lst lkD lk]
def Ld(n most:Nat):Int:=if n=0 then 13 else if most<n then 4 else 0
def Ve(p:LiQ):List LLQ->Int
 |[]=>0
 |c::l=>if Ld c.length 12≠0 then Ld c.length 12 else if mzB p c≠0 then mzB p c else Ve p l
def XM(a b:Nat)(x:Lk):Bool:=decide (0<=x.1)&&decide (x.1<a)&&decide (0<=x.2)&&decide (x.2<b)
def XN(ch:List LLQ):Nat->List (List Lk)->Int
 |_,[]=>0
 |i,l::ls=>if Ld l.length 12≠0 then Ld l.length 12 else if l.all (XM (nth [] ch i).length (nth [] ch (i+1)).length)=true then XN ch (i+1) ls else 3
def dcB(p:LiQ)(ch:List LLQ)(lk:List (List Lk)):Int:=
 if pcB p≠0 then pcB p else if Ld ch.length 64≠0 then Ld ch.length 64 else if Ve p ch≠0 then Ve p ch else if lk.length+1=ch.length then XN ch 0 lk else 5
def bdR(B:Int)(r:LiQ):Prop:=∀x∈r,-B<=x∧x<=B
def EP(a b:LiQ):LiQ:=(a.zip b).map fun t=>t.1-t.2
theorem RO{a b:LiQ}(h:b.length=a.length):(EP a b).length=a.length:=by simp[EP,h]
structure Lz(n:Nat)(B:Int)(ch:List LLQ)(lk:List (List Lk)):Prop where
 len:lk.length+1=ch.length
 few:ch.length<=64
 rows:∀c∈ch,∀r∈c,r.length=n∧bdR B r
 cs:∀c∈ch,c.length<=12
 ls:∀l∈lk,l.length<=12
 ok:∀i<lk.length,(nth [] lk i).all (XM (nth [] ch i).length (nth [] ch (i+1)).length)=true
theorem TZ{a b:Nat}{x:Lk}:XM a b x=true↔(0<=x.1∧x.1<a)∧0<=x.2∧x.2<b:=by grind[XM]
def Oh(ch:List LLQ)(i:Nat)(x:Lk):LiQ:=nth [] (nth [] ch i) x.1.toNat
def Og(ch:List LLQ)(i:Nat)(x:Lk):LiQ:=nth [] (nth [] ch (i+1)) x.2.toNat
theorem Lz.notes{B:Int}{lk:List (List Lk)}(w:Lz n B ch lk)(hi:i<lk.length)(hj:j<(nth [] lk i).length):
  let x:=nth (0,0) (nth [] lk i) j
  (0<=x.1∧x.1<(nth [] ch i).length)∧(0<=x.2∧x.2<(nth [] ch (i+1)).length)∧((Oh ch i x).length=n∧bdR B (Oh ch i x))∧(Og ch i x).length=n∧bdR B (Og ch i x):=by intro x;have h:=TZ.1 (Z2.1 (w.ok i hi) x (o7 hj));have hl:=w.len;refine⟨h.1,h.2,w.rows _ (o7 aa) _ (o7 aa),w.rows _ (o7 aa) _ (o7 aa)⟩
def Kp(ch:List LLQ)(lk:List (List Lk))(i j:Nat):LiQ:=
 EP (Oh ch i (nth (0,0) (nth [] lk i) j)) (Og ch i (nth (0,0) (nth [] lk i) j))
@[simp]theorem afV(h:Hp)(p:LiQ)(ch:List LLQ)(lk:List (List Lk)):aA h (wkC p ch lk)=some (wkC p ch lk,h):=rfl
def Wh(ch:List LLQ)(lk:List (List Lk)):Nat->LiQ->List (List Lk)->LLQ
 |_,r,[]=>[r]
 |i,r,_::q=>r::Wh ch lk (i+1) (EC r (Kp ch lk i 0)) q
def abm(n:Nat)(ch:List LLQ)(lk:List (List Lk)):LLQ:=Wh ch lk 0 (List.replicate n 0) lk
theorem BE{B C:Int}:∀{a b:LiQ},bdR B a->bdR C b->bdR (B+C) (EP a b)
 |[],b,_,_=>by simp[EP,bdR]
 |x::a,[],_,_=>by simp[EP,bdR]
 | x::a,y::b,ha,hb=>by
  intro z hz;simp only[EP,List.zip_cons_cons,Z1,Zs]at hz;have h1:=ha x ae;have h2:=hb y ae;rcases hz with rfl|hz
  .omega
  .exact BE (fun w hw=>ha w (by grind)) (fun w hw=>hb w (by grind)) z hz
theorem Ca{B C:Int}:∀{a b:LiQ},bdR B a->bdR C b->bdR (B+C) (EC a b)
 |[],b,_,_=>by simp[EC,bdR]
 |x::a,[],_,_=>by simp[EC,bdR]
 | x::a,y::b,ha,hb=>by
  intro z hz;simp only[EC,List.zip_cons_cons,Z1,Zs]at hz;have h1:=ha x ae;have h2:=hb y ae;rcases hz with rfl|hz
  .omega
  .exact Ca (fun w hw=>ha w (by grind)) (fun w hw=>hb w (by grind)) z hz
theorem Lz.lead{B:Int}{lk:List (List Lk)}(w:Lz n B ch lk)(hi:i<lk.length)(hj:j<(nth [] lk i).length):(Kp ch lk i j).length=n∧bdR (B+B) (Kp ch lk i j):=by obtain⟨_,_,⟨n1,n2⟩,n3,n4⟩:=w.notes hi hj;exact⟨by unfold Kp;rw[RO aa];exact n1,BE n2 n4⟩
def szI(b:Nat)(r:LiQ):List Q:=r.map fun a=>mK a b
def bdN(B:Nat)(r:LiQ):Prop:=∀a∈r,a.natAbs<=B
theorem Lm{B C:Nat}:∀{r t:LiQ},bdN B r->bdN C t->bdN (B+C) (sj 1 r t)
 |[],t,_,_=>by intro a h;trivial
 |x::r,[],_,_=>by intro a h;trivial
 | x::r,y::t,hr,ht=>by
  have h1:=hr x ae;have h2:=ht y ae;intro a h;simp only[sj,Zs]at h;rcases h with rfl|h
  .omega
  .exact Lm (fun u hu=>hr u (by grind)) (fun u hu=>ht u (by grind)) a h
def Rc(p r:LiQ):LiQ:=r.map (Aw ((cR r (L5 p)).sign) * ·)
theorem Lx(p r:LiQ):(Rc p r).length=r.length:=by simp[Rc]
theorem PR(z:Int):z.sign = -1∨z.sign=0∨z.sign=1:=by grind
theorem Re(z:Int):Aw z.sign=z.sign:=by rcases PR z with h|h|h<;>rw[h]<;>rfl
theorem Pe{B:Nat}{p:LiQ}(h:bdN B r):bdN B (Rc p r):=by
 intro a ha;obtain⟨x,hx,rfl⟩:=Zh.1 ha;have:=h x hx
 grind[Re]
structure Ad where
 p:LiQ
 ch:List LLQ
 lk:List (List Lk)
 cd:List LLQ
 w:Q
def adC(a:Ad):LwQ:=[lst di a.p,lst XJ a.ch,lst lkD a.lk,lst XJ a.cd,S (itoa a.w.1),S (ah a.w.2)]
@[simp]theorem afW(h:Hp)(a:Ad):aA h (adC a)=some (adC a,h):=rfl
structure tK(a:Ad):Prop where
 hp:pcS a.p
 wk:Lz a.p.length 8 a.ch a.lk
 lkn:∀l∈a.lk,0<l.length
 cne:∀c∈a.ch,0<c.length
 five:a.ch.length<=5
 cl:a.cd.length=a.ch.length
 cn:∀l∈a.cd,0<l.length∧l.length<=20
 cr:∀l∈a.cd,∀r∈l,r.length=a.p.length∧bdR 8 r
 w0:okQ a.w∧0<=a.w.1∧a.w.1<=1000∧a.w.2<=1000
theorem V3(h:bdR 1000 r):smR r=true:=by simp only[smR,Z2,Z8,decide_eq_true_eq];trivial
theorem Ez{B C:Int}(h:bdR B r)(hc:B<=C):bdR C r:=fun x hx=>by have:=h x hx;omega
theorem aaT{B:Nat}(h:bdR B r):bdN B r:=fun x hx=>by have:=h x hx;omega
variable{a:Ad}
def WR(a:Ad)(i k:Nat):LiQ:=(Rc a.p (nth [] (nth [] a.cd i) k)).map (· * a.w.1)
theorem tK.cand(G:tK a)(hi:i<a.cd.length)(hk:k<(nth [] a.cd i).length):(nth [] (nth [] a.cd i) k).length=a.p.length∧bdR 8 (nth [] (nth [] a.cd i) k):=
 G.cr _ (o7 hi) _ (o7 hk)
def abk(a:Ad):LLQ:=abm a.p.length a.ch a.lk
def shR(a:Ad)(i k:Nat):LiQ:=EC (nth [] (abk a) i) (nth [] (nth [] a.cd i) k)
theorem GQ(h:t.length=r.length):(EC r t).length=r.length:=by simp[EC,h]
theorem NP{n:Nat}{ch:List LLQ}{lk:List (List Lk)}(w:Lz n 8 ch lk)(hne:∀l∈lk,0<l.length):∀(q d:List (List Lk))(r:LiQ),d++q=lk->r.length=n->bdR (16*d.length) r->∀j,j<=q.length->(nth [] (Wh ch lk d.length r q) j).length=n∧bdR (16*(d.length+j:Nat)) (nth [] (Wh ch lk d.length r q) j)
 | [],d,r,hd,hr,hb,j,hj=>by
  have:j=0:=by simpa using hj
  subst this;trivial
 |l::q,d,r,hd,hr,hb,0,hj=>⟨hr,hb⟩
 | l::q,d,r,hd,hr,hb,j+1,hj=>by
  have hdl:d.length<lk.length:=by rw[<-hd];simp
  have hlj:0<(nth [] lk d.length).length:=by rw[<-hd,Hy];exact hne l (by grind)
  obtain⟨m1,m2⟩:=w.lead hdl hlj;have ih:=NP w hne q (d++[l]) (EC r (Kp ch lk d.length 0)) (by grind) (by rw[GQ aa,hr]) (Ez (Ca hb m2) (by grind)) j (by grind);have e:(d++[l]).length=d.length+1:=ae;rw[e]at ih;have e2:d.length+1+j=d.length+(j+1):=aa;rw[e2]at ih;exact ih
theorem tK.root(G:tK a)(hi:i<a.cd.length):(nth [] (abk a) i).length=a.p.length∧bdR 64 (nth [] (abk a) i):=by
 have hl:=G.wk.len;have hc:=G.cl;have h5:=G.five;obtain⟨h1,h2⟩:=NP G.wk G.lkn a.lk [] (List.replicate a.p.length 0) rfl ae (fun x hx=>by grind) i aa;refine⟨h1,Ez h2 ?_⟩
 grind
theorem tK.shift(G:tK a)(hi:i<a.cd.length)(hk:k<(nth [] a.cd i).length):(shR a i k).length=a.p.length∧bdR 72 (shR a i k):=by obtain⟨h1,h2⟩:=G.root hi;obtain⟨c1,c2⟩:=G.cand hi hk;exact⟨by unfold shR;rw[GQ aa,h1],Ca (B:=64) (C:=8) h2 c2⟩
def mvR(to y fr x:LiQ):LiQ:=EP (EP (EC to y) fr) x
theorem XG(h1:to.length=n)(h2:y.length=n)(h3:fr.length=n)(h4:x.length=n):(mvR to y fr x).length=n:=by grind[mvR,EP,EC]
def dB(d:LiQ):Nat×Bk:=(1,.data 1 (d.map di) true false)
def adP(a:Ad)(i f t:Nat)(x:Lk):LiQ:=mvR (shR a (i+1) t) (Og a.ch i x) (shR a i f) (Oh a.ch i x)
theorem abE{A B C D:Int}(b1:bdR A to)(b2:bdR B y)(b3:bdR C fr)(b4:bdR D x):bdR (A+B+C+D) (mvR to y fr x):=BE (BE (Ca b1 b2) b3) b4
def stepG(p:LiQ):LiQ->LLQ->LiQ
 |v,[]=>v
 |v,d::q=>stepG p (sj 1 v (Rc p d)) q
def TL(a:Ad)(i f t:Nat):LLQ:=(nth [] a.lk i).map (adP a i f t)
def RP(a:Ad)(i f t:Nat):LiQ:=stepG a.p (List.replicate a.p.length 0) (TL a i f t)
theorem tK.move{a:Ad}(G:tK a){f t:Nat}(hi:i<a.lk.length)(hf:f<(nth [] a.cd i).length)(ht:t<(nth [] a.cd (i+1)).length):∀d∈TL a i f t,d.length=a.p.length∧bdR 160 d:=by intro d hd;obtain⟨x,hx,rfl⟩:=Zh.1 hd;obtain⟨j,hj,rfl⟩:=Xh hx;have hlen:=G.wk.len;have hcl:=G.cl;obtain⟨_,_,⟨n1,n2⟩,n3,n4⟩:=G.wk.notes hi hj;rw[dQ _ _ _ hj]at n1 n2 n3 n4;obtain⟨s1,s2⟩:=G.shift (i:=i) (k:=f) aa hf;obtain⟨t1,t2⟩:=G.shift (i:=i+1) (k:=t) aa ht;exact⟨XG t1 n3 s1 n1,abE (A:=72) (B:=8) (C:=72) (D:=8) t2 n4 s2 n2⟩
def wI(p r:LiQ):Int:=cR r (L5 p)
def VY:LiQ->LLQ->LiQ
 |v,[]=>v
 |v,d::q=>VY (sj 1 v d) q
structure acA(b:Nat)(c:UInt8)(kb:Nat):Prop where
 hc:ah b=[c]
 c1:¬c=49
 c2:¬c=48
 b2:2<=b
 b8:b<=8
 hkb:bQ b=kb
 k2:2<=kb
 k4:kb<=4
 n1:ndg b=1
theorem aaU:acA 2 50 2:=⟨aF,af,af,af,af,by rfl,af,af,aF⟩
variable{b:Nat}{c:UInt8}{kb:Nat}
theorem TT(z:Int):wH z 1=(z,1):=by simp[wH,mK]
variable{p:LiQ}{c w:Mz}
structure ahg(p:LiQ)(w:Mz)(x:LiQ):Prop where
 l:x.length=p.length
 b:bd9 x
 r:rcB x=0
 t:bd9 (lz w x)
theorem Tc{a:Q}(h:okQ a):okQ (rN a):=⟨h.1,by simp only[rN,Xf];exact h.2⟩
theorem WI{a:Q}{K:Nat}(h:qL K a):qL K (rN a):=⟨by simp only[rN,Xf];exact h.1,h.2⟩
theorem QL{a:Q}(la:qL 100000 a):CP Y F.nJ [.agg (qT a)] (.agg (qT (rN a))):=by refine DW ?_;have n1:=yg (z:=a.1) (by have:=la.1;omega);simp only[nJ,qT,rN];simp(disch:=try exact ac);refine cd n1 ?_;simp(disch:=try exact ac);exact lF rfl rfl
theorem QJ{a b:Q}(ha:okQ a)(hb:okQ b)(la:qL 50000 a)(lb:qL 50000 b):CP Y F.nH [.agg (qT a),.agg (qT b)] (.agg (qT (ko a (rN b)))):=by
 refine DU ?_;have n1:=QL (a:=b) (lb.mono aa);have n2:=D4 ha (Tc hb) (la.mono aa) ((WI lb).mono aa);obtain⟨x,y,hxy⟩:∃x y,qT (ko a (rN b))=[S x,S y]:=⟨_,_,rfl⟩;obtain⟨x2,y2,hxy2⟩:∃x y,qT (rN b)=[S x,S y]:=⟨_,_,rfl⟩;rw[hxy,hxy2]at n2;rw[hxy2]at n1;rw[hxy];simp only[qT]at n1 n2 ⊢;simp only[nH]
 simp(disch:=try exact ac);refine cd n1 ?_ (by simp[aA,bg]);simp(disch:=try exact ac);refine cd n2 ?_ (by simp[aA,bg]);simp(disch:=try exact ac);exact lF rfl rfl
def prC(s:List Q):LdQ:=(s.map tx).flatMap aV
theorem x8(s:List Q):(prC s).length=s.length*2:=by rw[prC,fv aV ba,List.length_map]
theorem WN(s:List Q)(k:Q):prC (s++[k])=prC s++aV (tx k):=by simp[prC]
theorem Mw(h : -1000000000<=z∧z<=1000000000):okQ (z,1)∧qL 30 (z,1):=aby z aa aa
theorem YJ(h : -1000000000<=z∧z<=1000000000):CP Y F.kM [I z,I 1] (.tup [.agg (qT (z,1)),I 0]):=by
 have:=KG (n:=z) (d:=1) af aa aa af af
 rwa [TT]at this
def nuA:Acc:=⟨1,0,2,.none⟩
theorem XD(a:LiQ)(z:Int):ofQ (a++[z])=ofQ a++[(z,1)]:=by simp[ofQ]
theorem rU(a:LiQ):(ofQ a).length=a.length:=by simp[ofQ]
theorem Oe{r:LiQ}(hr:bd9 r)(hn:r.length<1000)(x0 y0:Bk)(K:KL):∀(q a:LiQ),r=a++q->K (.exit 0) [nuA.v r.length (prC (ofQ r))] [nnQ,nuA.b r.length (prC (ofQ r))] ->
  lp (mq (CX Y) (lst di r) (I r.length)) [0] [(0,x0),(0,y0)] [nuA.v a.length (prC (ofQ a)),I a.length] [nnQ,nuA.b a.length (prC (ofQ a))] K
 | [],a,e,hK=>by
  simp only[Zo]at e;subst e;refine ai ?_;have hlt:¬((r.length:Int)<(r.length:Int)):=aa;simp only[mq];simp(disch:=try exact ac)[hlt];exact hK
 | z::q,a,e,hK=>by
  refine ai ?_;have hlt:((a.length:Int)<(r.length:Int)):=by rw[e];simp;omega
  have hal:a.length<r.length:=aa;have hz:=hr z (by rw[e];simp);have i1:∀h:Hp,ixV h 1 (lst di r) (I a.length)=some (.dptr (r.map di) a.length):=fun h=>by rw[e];exact o9 di a z q _ _
  have i2:∀h:Hp,ld1 h (.dptr (r.map di) a.length)=some (I z):=fun h=>by
   rw[oB di r _ hal];simp only[e,Zm (Z7 _),Zc,Zg];rfl
  have lq:∀H,fO 1 [D.str [],D.str []] [(0,.agg (qT (z,1)))] H=some (aV (tx (z,1)),H):=fun H=>Ow _ H
  have ih:=Oe hr hn x0 y0 K q (a++[z]) (by rw[e];simp) hK;have ee:prC (ofQ (a++[z]))=prC (ofQ a)++aV (tx (z,1)):=by rw[XD,WN]
  rw[List.length_append,List.length_singleton,ee]at ih;have e4:((a.length+1:Nat):Int)=(a.length:Int)+1:=aa;rw[e4]at ih;simp only[qT]at lq;simp only[mq];simp(disch:=try exact ac)[hlt,i1,i2];refine cd (YJ hz) ?_;simp only[qT];simp(disch:=try exact ac)[lq]
  refine om nuA (by_:=32) (k:=1) (cs:=aV (tx (z,1))) aa rfl (by rw[x8,rU];rfl) rfl rfl (by intro t ht;cases ht) aa af ?_;simp(disch:=try exact ac);rw[<-List.length_append];exact⟨rfl,ih⟩
theorem Di(hr:bd9 r)(hn:r.length<1000):CP Y F.iV [lst di r] (szV (ofQ r)):=by
 refine za ?_;have l1:aW (lst di r)=some (I r.length):=rfl;simp only[iV];simp(disch:=try exact ac)[l1];refine lo (Oe hr hn _ _ _ r [] rfl ?_);simp(disch:=try exact ac);have ll:((ofQ r).map tx).length=r.length:=by simp[ofQ]
 have:=aaf nuA (L:=r.length) (cells:=prC (ofQ r)) (h:=[nnQ,nuA.b r.length (prC (ofQ r))]) rfl (by rw[x8,rU];rfl);simpa[szV,oQ,prC,ll]using this
theorem JG(a b:Nat):((List.replicate a zT++List.replicate b dY).flatMap aV).length=(a+b)*2:=by rw[fv aV ba];simp
theorem YE(t:Tx){m:Nat}(h:m<=i):((List.replicate i t).flatMap aV).take (m*2)=(List.replicate m t).flatMap aV:=by obtain⟨d,rfl⟩:=Nat.exists_eq_add_of_le h;rw[<-List.replicate_append_replicate,Yi,List.take_append_of_le_length (by rw[fv aV ba];simp),Zz (by rw[fv aV ba];simp)]
theorem YF(t:Tx){m:Nat}(h:m<=i):((List.replicate i t).flatMap aV).drop (m*2)=(List.replicate (i-m) t).flatMap aV:=by obtain⟨d,rfl⟩:=Nat.exists_eq_add_of_le h;rw[<-List.replicate_append_replicate,Yi,List.drop_append_of_le_length (by rw[fv aV ba];simp),List.drop_of_length_le (by rw[fv aV ba];simp),List.nil_append,Nat.add_sub_cancel_left]
theorem zW(t:Tx)(i:Nat):((List.replicate i t).flatMap aV).length=i*2:=by rw[fv aV ba,Zb]
@[simp ↓] theorem agJ (h:Hp)(n:Nat)(x y:V)(k:kkQ):cpD h n x y k=rh (cpD h n x y) k .mk:=id rfl
theorem U8{h:Hp}{n i r j m cap:Nat}(hi:i+r=n)(hm:min j r=m)(m0:0<m){y:V}(hy:cellsOf (hz h (List.replicate i zT++List.replicate r dY)) y=some (j,(List.replicate j zT).flatMap aV)){k:kkQ}{u:PU k}
  (hk:k (I m) (hz h (List.replicate (i+m) zT++List.replicate (r-m) dY))):rh (cpD (hz h (List.replicate i zT++List.replicate r dY)) 2 (.ref h.length 1 (i*2) r cap (n*2)) y) k u:=by
 show cpD _ 2 _ y k
 have hl:((List.replicate i zT++List.replicate r dY).flatMap aV).length=n*2:=by rw[JG,hi]
 have mj:m<=j:=aa;have mr:m<=r:=aa;unfold cpD;simp only[dI (DK h _),hy,hm];rw[if_pos ⟨⟨m0,by trivial,aa,by trivial⟩,hl.symm,zW _ _,by rw[hl];omega⟩];have a1:=zW zT i
 have p1:List.take (i*2) ((List.replicate i zT++List.replicate r dY).flatMap aV)=(List.replicate i zT).flatMap aV:=by
  rw[Yi,List.take_append_of_le_length aa,Zz aa]
 have p2:List.drop (i*2) ((List.replicate i zT++List.replicate r dY).flatMap aV)=(List.replicate r dY).flatMap aV:=by
  rw[Yi,List.drop_append_of_le_length aa,List.drop_of_length_le aa,List.nil_append]
 have e:(List.take (i*2) ((List.replicate i zT++List.replicate r dY).flatMap aV)++List.take (m*2) ((List.replicate j zT).flatMap aV)++List.drop (i*2+m*2) ((List.replicate i zT++List.replicate r dY).flatMap aV))=(List.replicate (i+m) zT++List.replicate (r-m) dY).flatMap aV:=by
  rw[p1,YE zT mj,<-List.drop_drop,p2,YF dY mr,Yi,<-List.replicate_append_replicate,Yi]
 rw[e];have:=MS h (List.replicate i zT++List.replicate r dY) (List.replicate (i+m) zT++List.replicate (r-m) dY);rw[cw,this];exact hk
theorem AK{h:Hp}{n:Nat}(hn:n<10)(K:KL)(h0:Hp):∀(f i r:Nat),r<=f->0<i->i+r=n->K (.exit 0) [] (hz h (List.replicate n zT)) ->
  lp (bD (CX Y) h.length (.ref h.length 1 0 n n (n*2))) [] h0 [I i] (hz h (List.replicate i zT++List.replicate r dY)) K
 | f,i,0,hf,hi0,hi,hK=>by
  have:i=n:=aa;subst this;refine ai ?_;have l1:aW (.ref h.length 1 0 i i (i*2))=some (I i):=rfl;have hlt:¬((i:Int)<(i:Int)):=aa;simp only[bD];simp(disch:=try exact ac)[l1,hlt];simpa using hK
 |0,i,r+1,hf,hi0,hi,hK=>by omega
 | f+1,i,r+1,hf,hi0,hi,hK=>by
  refine ai ?_;have l1:aW (.ref h.length 1 0 n n (n*2))=some (I n):=rfl;have hlt:((i:Int)<(n:Int)):=aa;simp only[bD];have hl:((List.replicate i zT++List.replicate (r+1) dY).flatMap aV).length=n*2:=by rw[JG,hi]
  have hg:=dI (DK h (List.replicate i zT++List.replicate (r+1) dY))
  have s1:slV (hz h (List.replicate i zT++List.replicate (r+1) dY)) 2 (V.ref h.length 1 0 n n (n*2)) (some (I i)) none=some (.ref h.length 1 (i*2) (r+1) (r+1) (n*2)):=by
   have b1:boV 0 n (some (I (i:Int)))=some i:=by
    show(if(0:Int)<=i∧(i:Int)<=(n:Int)then some (i:Int).toNat else none)=_
    rw[if_pos ⟨aa,aa⟩,Int.toNat_natCast]
   simp only[slV,hg,boV,b1]
   show(match boV 0 n (some (I (i:Int)))with|some i=>_|none=>none)=_
   rw[b1];simp only;rw[if_pos ⟨hl.symm,Z7 _,by trivial⟩,Zk,show n-i=r+1 by omega]
  have s2:slV (hz h (List.replicate i zT++List.replicate (r+1) dY)) 2 (V.ref h.length 1 0 n n (n*2)) none (some (I i))=some (.ref h.length 1 0 i n (n*2)):=by
   have b1:boV n n (some (I (i:Int)))=some i:=by
    show(if(0:Int)<=i∧(i:Int)<=(n:Int)then some (i:Int).toNat else none)=_
    rw[if_pos ⟨aa,aa⟩,Int.toNat_natCast]
   simp only[slV,hg,b1]
   show(match boV 0 i none with|some i'=>_|none=>none)=_
   rw[show boV 0 i none=some 0 from rfl];simp only;rw[if_pos ⟨hl.symm,Z7 _,by trivial⟩];simp
  have hc:cellsOf (hz h (List.replicate i zT++List.replicate (r+1) dY)) (.ref h.length 1 0 i n (n*2))=some (i,(List.replicate i zT).flatMap aV):=by
   simp only[cellsOf,hg];rw[if_pos ⟨hl.symm,by rw[hl];omega⟩,Yo,Yi,List.take_append_of_le_length (by rw[zW];exact Z7 _),Zz (by rw[zW];exact Z7 _)]
  simp(disch:=try exact ac)[l1,hlt,s1,s2];refine U8 (m:=min i (r+1)) hi rfl aa hc ?_;obtain⟨m,hm⟩:=nmQ (min i (r+1));rw[<-hm];have ih:=AK hn K h0 f (i+m) (r+1-m) aa aa aa hK;simp(disch:=try exact ac);rw[Int.natCast_add]at ih;rw[fE];exact lo ih
theorem PZ(hu:(h.all fun x=>aN h.length x.2)=true)(h1:0<n)(hn:n<10):CI Y F.aX [.d (.sl 1 (aV zT)),I n] h (.new 2 ((List.replicate n zT).flatMap aV) true n n) h:=by
 refine nr ?_;have mu:=Qo (n:=n) hn;have nn:¬((n:Int)<0):=aa;simp only[aX];have w1:IntKind.u64.wrap (n:Int)=n:=wrap_u64 aa;have v1:aW (.d (.sl 1 (aV zT)))=some (I 1):=rfl;have v2:cvI IntKind.u64 (I 1)=some (.d (.int .u64 1)):=rfl;simp(disch:=try exact ac)[nn];refine bB ?_;rw[w1]
 simp(disch:=try exact ac)[v1,v2];refine cd mu ?_ (by rfl);simp(disch:=try exact ac);refine bB ?_;simp(disch:=try exact ac);refine TQ (e:=0) (b:=.none) ae aa ?_
 have e0:(h++[(0,Bk.none)]).set h.length (0+1,.data 2 ((List.replicate n dY).flatMap aV) true false)=hz h (List.replicate 0 zT++List.replicate n dY):=by simp[hz]
 rw[e0]
 have c1:=U8 (h:=h) (n:=n) (i:=0) (r:=n) (j:=1) (m:=1) (cap:=n) (y:=.d (.sl 1 (aV zT))) (k:=fun v18 h_2=>
    lp (bD (CX Y) h.length (.ref h.length 1 0 n n (n*2))) [] h_2 [v18] h_2
     (exK [(Exit.exit 0,fun l19 h_3=>mW h.length (V.new 2 (List.flatMap aV (List.replicate n zT)) true n n) h (.ref h.length 1 0 n n (n*2)) h_3)])) (u:=.mk) aa aa aa (by simp[cellsOf]) ?_
 .exact c1
 refine AK hn _ _ n 1 (n-1) aa aa aa ?_;have hfl:=zW zT n;refine⟨by simp[hz],?_,.inr (.inr (.inl ⟨h.length,1,n,n,2,(List.replicate n zT).flatMap aV,true,by rw[hfl],Z7 _,?_,rfl⟩))⟩
 .simp only[hz,Y5,hu,Yw]
 .simp[hz,aC]
theorem O6{h:Hp}{s fs:List Q}{k:Q}{i:Nat}(hi:i<fs.length)(hki:nth ([],[]) (fs.map tx) i=tx k)(hf:fs.length<1000000)(hN:s.length<1000000){Ko Ks Kk:Nat}(hk:okQ k)(lk:qL Kk k)
  (b1:Ko<=100000) (b2:Ks+Kk<=100000) (h0:Hp) (kk:KL):∀(q a oq a':List Q),a++q=s->a'.length=a.length->oq.length=q.length->okK Ko oq->okK Ks q->kk (.exit 2) [] (hz h ((a'++ut k oq q).map tx)) ->
  lp (mz (CX Y) h.length (szV fs) (.ref h.length 1 0 s.length s.length (s.length*2)) (I i) (szV s) (I s.length)) [] h0 [I a.length] (hz h ((a'++oq).map tx)) kk
 | [],a,oq,a',ha,h1,h2,ho,hs,hkk=>by
  simp only[Zo]at ha;simp only[List.length_nil]at h2;have h2':oq=[]:=Zq h2;subst ha h2';have hlt:¬((a.length:Int)<(a.length:Int)):=aa;refine ai ?_;simp only[mz];simp(disch:=try exact ac)[hlt];simpa[ut]using hkk
 |x::q,a,[],a',ha,h1,h2,ho,hs,hkk=>by simp at h2
 | x::q,a,y::oq,a',ha,h1,h2,ho,hs,hkk=>by
  have hal:a.length<s.length:=by subst ha;simp
  obtain⟨o1,o2⟩:=ho y ae;obtain⟨s1,s2⟩:=hs x ae;have hlen:((a'++y::oq).map tx).length=s.length:=by subst ha;simp at h2 ⊢;omega
  have mul:=KH s1 hk (s2.mono aa) (lk.mono aa);have add:=D4 o1 (Hs s1 hk) (o2.mono b1) ((Mo s2 lk).mono aa);have g1:(a.length:Int)<(s.length:Int):=aa;have hx:nth ([],[]) (s.map tx) a.length=tx x:=by subst ha;exact lG ..
  have hy:nth ([],[]) ((a'++y::oq).map tx) a.length=tx y:=by rw[<-h1];exact lG ..
  have i1:=fun h:Hp=>j9 aV ba (s.map tx) h (k:=.i64) (i:=(a.length:Int)) aa (by grind)
  have i2:=fun h:Hp=>kY aV ba ([],[]) (s.map tx) h (j:=a.length) (by grind)
  have j1:=fun h:Hp=>j9 aV ba (fs.map tx) h (k:=.i64) (i:=(i:Int)) aa (by grind)
  have j2:=fun h:Hp=>kY aV ba ([],[]) (fs.map tx) h (j:=i) (by grind)
  simp only[hx,hki,Int.toNat_natCast]at i1 i2 j1 j2;have hg:=DK h ((a'++y::oq).map tx);have e1:=ixR hg hlen (c:=a.length) hal .i64;have e2:=ldR hg hlen (c:=a.length) hal;have e3:=stR hg hlen (c:=a.length) hal (tx (ko y (pA x k)))
  have es:((a'++y::oq).map tx).set a.length (tx (ko y (pA x k)))=((a'++[ko y (pA x k)])++oq).map tx:=by
   have:=Hl (a'.map tx) (tx y) (tx (ko y (pA x k))) (oq.map tx);rw[List.length_map,h1]at this;simpa using this
  simp only[hy,es,MS]at e2 e3;have ih:=O6 (h:=h) hi hki hf hN hk lk b1 b2 h0 kk q (a++[x]) oq (a'++[ko y (pA x k)]) (by grind) (by grind) (by grind) (fun w hw=>ho w (by grind)) (fun w hw=>hs w (by grind)) (by simpa[ut]using hkk);have e4:(((a++[x]).length:Nat):Int)=(a.length:Int)+1:=ae;rw[e4]at ih;simp only[qT]at mul add
  obtain⟨w1,w2,hw⟩:∃w1 w2,qT (pA x k)=[S w1,S w2]:=⟨_,_,rfl⟩;have z1:szV s=oQ aV (s.map tx):=rfl;have z2:szV fs=oQ aV (fs.map tx):=rfl;generalize hz h ((a'++y::oq).map tx)=H0 at *;generalize hz h ((a'++[ko y (pA x k)]++oq).map tx)=H1 at *;refine ai ?_;simp only[mz];simp(disch:=try exact ac)[z1,z2,i1,i2,j1,j2,e1,e2,g1];refine cd mul ?_ (by rfl)
  simp(disch:=try exact ac);refine cd add ?_ (by rfl);have e3':st H0 2 (V.ptr h.length 1 (a.length*2) (s.length*2)) (.agg [S (itoa (ko y (pA x k)).fst),S (ah (ko y (pA x k)).snd)])=some H1:=e3;simp(disch:=try exact ac)[e1,e3'];rw[fE];exact lo ih
theorem Lb{h:Hp}{n:Nat}{fs:List Q}(hf:fs.length<1000000)(hN:n<1000000){Ks Kk:Nat}(b2:Ks+Kk<=90000)(h0:Hp)(kk:KL):∀(l a:List (List Q))(q f:List Q)(o:List Q)(Ko:Nat),f++q=fs->f.length=a.length->l.length=q.length->Ko+l.length*(Ks+Kk+1)<=100000 ->
  o.length=n->okK Ko o->(∀s∈l,s.length=n∧okK Ks s)->okK Kk q->kk (.exit 0) [] (hz h ((zn o l q).map tx)) ->
  lp (mA (CX Y) h.length (szV fs) (.ref h.length 1 0 n n (n*2)) (lst szD (a++l)) (I (a++l).length)) [] h0 [I a.length] (hz h (o.map tx)) kk
 | [],a,q,f,o,Ko,hfq,h1,h2,b1,hn,ho,hl,hq,hkk=>by
  have hlt:¬((a.length:Int)<((a++[]).length:Int)):=ae;refine ai ?_;simp only[mA];simp(disch:=try exact ac)[hlt];simpa[zn]using hkk
 |s::l,a,[],f,o,Ko,hfq,h1,h2,b1,hn,ho,hl,hq,hkk=>by simp at h2
 | s::l,a,k::q,f,o,Ko,hfq,h1,h2,b1,hn,ho,hl,hq,hkk=>by
  obtain⟨s1,s2⟩:=hl s ae;obtain⟨k1,k2⟩:=hq k ae;have hLl:(l.length+1)*(Ks+Kk+1)=l.length*(Ks+Kk+1)+(Ks+Kk+1):=X7 ..;rw[List.length_cons,hLl]at b1;have hb:(a++s::l).length<1000000:=by simp at h2 ⊢;subst hfq;simp at hf;omega
  have g1:(a.length:Int)<((a++s::l).length:Int):=by simp;omega
  have i1:=fun h:Hp=>nU szD (a++s::l) h (k:=.i64) (i:=(a.length:Int)) aa g1
  have i2:=fun h:Hp=>md szD [] (a++s::l) h (j:=a.length) ae
  have hnt:nth [] (a++s::l) a.length=s:=ae;simp only[hnt,Int.toNat_natCast]at i1 i2;have hlv:aW (.ref h.length 1 0 n n (n*2))=some (I n):=rfl;have hki:nth ([],[]) (fs.map tx) a.length=tx k:=by rw[<-hfq,<-h1];exact lG ..
  have hi:a.length<fs.length:=by rw[<-hfq];simp;omega
  simp only[NE]at i2;have ih:=Lb (h:=h) hf hN b2 h0 kk l (a++[s]) q (f++[k]) (ut k o s) (Ko+(Ks+Kk)+1) (by grind) (by grind) (by grind) aa (by rw[rK k o s (hn.trans s1.symm),s1]) (B9 k1 k2 ho s2) (fun t ht=>hl t (by grind)) (fun t ht=>hq t (by grind)) (by simpa[zn]using hkk);have e4:(((a++[s]).length:Nat):Int)=(a.length:Int)+1:=ae
  have e5:a++[s]++l=a++s::l:=ae;rw[e4,e5]at ih;generalize a++s::l=L at *;refine ai ?_;simp only[mA];simp(disch:=try exact ac)[i1,i2,g1,hlv];subst s1;refine lo (O6 hi hki hf hN k1 k2 (Ko:=Ko) (Ks:=Ks) aa aa _ _ s [] o [] rfl rfl hn ho s2 ?_);simp(disch:=try exact ac);rw[fE];exact lo ih
theorem Va{h:Hp}(hu:(h.all fun x=>aN h.length x.2)=true){p:LiQ}{l:List (List Q)}{fs:List Q}{Ks Kk:Nat}(h0:0<p.length)(hN:p.length<10)(hf:fs.length<1000000)(hlen:l.length=fs.length)(b2:Ks+Kk<=90000)(b1:1+l.length*(Ks+Kk+1)<=100000)
  (hl:∀s∈l,s.length=p.length∧okK Ks s) (hq:okK Kk fs):CI Y F.iW [lst di p,lst szD l,szV fs] h (.new 2 (prC (oo p.length l fs)) true p.length p.length) h:=by
 refine zc ?_
 have hu1:((h++[(0,Bk.none)]).all fun x=>aN (h++[(0,Bk.none)]).length x.2)=true:=by
  simp only[Y5,Z8];refine⟨?_,rfl⟩;rw[Z2]at hu ⊢;intro x hx;exact vP ae (hu x hx)
 have zi:=PZ hu1 (n:=p.length) h0 hN;have l1:aW (lst di p)=some (I p.length):=rfl;have l2:aW (lst szD l)=some (I l.length):=rfl;simp only[iW]
 have li:∀H:Hp,fO 1 [D.str [],D.str []] [(0,V.agg [V.d (D.str [48]),V.d (D.str [49])])] H=some (aV zT,H):=fun H=>by
  have q1:itoa 0=[48]:=aF;have q2:ah 1=[49]:=aF;have:=Ow (0,1) H;simp only[qT,q1,q2]at this;exact this
 simp(disch:=try exact ac)[l1,l2,li];refine lE (gA (e:=0) (b:=.none) zi ae ?_);have e0:(h++[(0,Bk.none)]).set h.length (0+1,.data 2 ((List.replicate p.length zT).flatMap aV) true false)=hz h ((List.replicate p.length (0,1)).map tx):=by simp[hz,zT]
 rw[e0,zW];have hz':okK 1 (List.replicate p.length ((0,1):Q)):=xH p.length;refine Lb (n:=p.length) hf aa b2 _ _ l [] fs [] _ 1 rfl rfl hlen b1 ae hz' hl hq ?_;simp(disch:=try exact ac)
 have hln:(oo p.length l fs).length=p.length:=by
  unfold oo;rw[qZ (fun s hs=>by rw[(hl s hs).1];simp)];simp
 have hfl:(prC (oo p.length l fs)).length=p.length*2:=by rw[x8,hln]
 refine⟨by simp[hz],?_,.inr (.inr (.inl ⟨h.length,1,p.length,p.length,2,prC (oo p.length l fs),true,by rw[hfl],Z7 _,?_,rfl⟩))⟩
 .simp only[hz,Y5,hu,Yw]
 .simp[hz,aC,prC,oo]
def tuC(p:LiQ)(c w:Mz)(g:List (List Q)):LwQ:=[lst di p,mat c,mat w,lst szD g]
def tuV(p:LiQ)(c w:Mz)(g:List (List Q)):V:=.agg (tuC p c w g)
structure IB(p:LiQ)(c w:Mz)(g:List (List Q)):Prop where
 tp:Rh p c w
 gl:g.length=w.length
 gs:∀s∈g,s.length=p.length∧okS s
variable{p:LiQ}{c w:Mz}{g:List (List Q)}
theorem Co(h:IB p c w g):CP Y F.kR [tuV p c w g] (I 0):=by
 refine Cn ?_;have hn:=h.tp.lc.n12;have hwl:=h.tp.lw.ml;have hgl:=h.gl;have a1:=Cq h.tp;have a2:=vH (p:=p) (l:=g) aa aa (fun s hs=>⟨(h.gs s hs).2,by rw[(h.gs s hs).1];omega⟩);rw[if_pos h.tp.pr,B6 fun s hs=>(h.gs s hs).1]at a2;have l1:aW (lst szD g)=some (I g.length):=rfl;have l2:aW (mat w)=some (I w.length):=rfl
 have g1:((g.length:Int)=(w.length:Int))=True:=eq_true aa;simp only[kR,tuV,tuC];simp(disch:=try exact ac);refine cd (args:=[tpV p c w]) a1 ?_ (by simp[aA,bg,tpV,mat]);simp(disch:=try exact ac)[l1,l2,g1];refine cd a2 ?_ (by rfl);exact bP rfl
theorem IT(hp:pcB p=0)(hN:p.length<1000000)(hl:s.length=p.length)(hs:okS s):CP Y F.lR [lst di p,szV s] (.tup [szV s,I 0]):=by refine AX ?_;simp only[lR];simp(disch:=try exact ac);refine cd (GH hp hN hl hs) ?_ (by rfl);simp(disch:=try exact ac);exact⟨_,rfl⟩
def Cu(p:LiQ)(w:Mz)(g:List (List Q))(x:LiQ):List Q:=oo p.length g (ofQ (lz w x))
structure aeM(p:LiQ)(w:Mz)(x:LiQ):Prop where
 l:x.length=p.length
 s:smR x=true
 b:bd9 x
 r:rcB x=0
 t:bd9 (lz w x)
theorem I7(hu:(h.all fun x=>aN h.length x.2)=true)(ht:IB p c w g)(hp10:p.length<10)(hx:aeM p w x):CI Y F.ib [tuV p c w g,lst di x] h (.tup [.new 2 (prC (Cu p w g x)) true p.length p.length,I 0]) h:=by
 refine xL ?_;have hn:=ht.tp.lc.n12;have hwl:=ht.tp.lw.ml;have hgl:=ht.gl;have a1:=Co ht;have a2:=Do (p:=p) (r:=x) aa;rw[abC ht.tp.pr hx.l hx.s]at a2;have a3:=Ri ht.tp hx.l hx.b hx.r hx.t;have tl:(lz w x).length=w.length:=by simp[lz]
 have a4:=Di hx.t aa
 have hu1:((h++[(1,Bk.vars (tuC p c w g)),(0,Bk.none)]).all fun x=>aN (h++[(1,Bk.vars (tuC p c w g)),(0,Bk.none)]).length x.2)=true:=by
  simp only[Y5,Z8];refine⟨?_,rfl⟩;rw[Z2]at hu ⊢;intro x hx;exact vP ae (hu x hx)
 have ok1:okK 30 (ofQ (lz w x)):=fun y hy=>by
  obtain⟨z,hz,rfl⟩:=Zh.1 hy;exact Mw (hx.t z hz)
 have a5:=Va (p:=p) (l:=g) (fs:=ofQ (lz w x)) hu1 (Ks:=30) (Kk:=30) ht.tp.lc.n0 hp10 (by rw[rU];omega) (by rw[rU];omega) aa aa (fun s hs=>ht.gs s hs) ok1;have e0:(h++[(0,Bk.none),(0,Bk.none)])[h.length]?=some (0,Bk.none):=ae;have es:(h++[(0,Bk.none),(0,Bk.none)]).set h.length (1,.vars (tuC p c w g))=h++[(1,Bk.vars (tuC p c w g)),(0,Bk.none)]:=ae
 have hx1:iL (h++[(1,Bk.vars (tuC p c w g)),(0,Bk.none)]) h.length 1=.vars (tuC p c w g):=by simp[iL,aC]
 have hs1:(h++[(1,Bk.vars (tuC p c w g)),(0,Bk.none)])[h.length+1]?=some (0,Bk.none):=ae
 have hf:∀y,(h++[(1,Bk.vars (tuC p c w g)),(0,Bk.none)]).set (h.length+1) y=h++[(1,Bk.vars (tuC p c w g)),y]:=fun y=>by
  rw[Y6 _ _ aa];simp
 simp only[ib,tuV];simp only[tuC]at *;simp(disch:=try exact ac)[e0,es,hx1];obtain⟨H1,hH⟩:=nmQ (h++[(1,Bk.vars [lst di p,mat c,mat w,lst szD g]),(0,Bk.none)]);rw[<-hH]at a5 hx1 hs1 hf ⊢;refine cd (args:=[tuV p c w g]) a1 ?_ (by simp[aA,bg,tuV,tuC,mat]);simp(disch:=try exact ac)[hx1];refine cd a2 ?_ (by rfl)
 simp(disch:=try exact ac)[hx1];refine cd (args:=[tpV p c w,lst di x]) a3 ?_ (by simp[aA,bg,tpV,mat]);simp(disch:=try exact ac)[hx1];refine cd a4 ?_ (by rfl);simp(disch:=try exact ac)[hx1];refine lE (gA (e:=0) (b:=.none) a5 hs1 ?_);rw[hf]
 have hln:(oo p.length g (ofQ (lz w x))).length=p.length:=by
  unfold oo;rw[qZ (fun s hs=>by rw[(ht.gs s hs).1];simp)];simp
 have hfl:(prC (Cu p w g x)).length=p.length*2:=by rw[x8,Cu,hln]
 simp(disch:=try exact ac);refine⟨ae,?_,.inr (.inr (.inr (.inr (.inl ⟨h.length+1,1,p.length,p.length,2,prC (Cu p w g x),true,.int .i64 0,by rfl,Nat.le_succ _,?_,rfl⟩))))⟩
 .simp only[Y5,hu,Yw]
 .simp[aC];rfl
def E8(p:LiQ)(w:Mz)(g:List (List Q))(x:LiQ):List Q:=List.zipWith (fun a z=>ko a (rN (z,1))) (Cu p w g x) x
def erH(C:LwQ)(x2:Nat×Bk)(s:List Q):Hp:=[(1,.vars C),(1,.data 2 ((s.map tx).flatMap aV) true false),x2]
theorem UK{C:LwQ}(hC:offB [2] (.vars C)=true){n:Nat}{x:LiQ}(hxb:bd9 x)(hx:x.length=n)(hn:n<1000)(h0:Hp)(hh:∃u v w,h0=[u,v,(0,w)])(K:KL):∀(q a:LiQ)(o e:List Q),a++q=x->e.length=a.length->o.length=q.length->okK 50000 o->K (.exit 0) [] (erH C nnQ (e++List.zipWith (fun a z=>ko a (rN (z,1))) o q)) ->
  lp (nZ (CX Y) (.ref 1 1 0 n n (n*2)) (szV (ofQ x)) (I n)) [2] h0 [I a.length] (erH C nnQ (e++o)) K
 | [],a,o,e,ha,h1,h2,ho,hK=>by
  simp only[Zo]at ha;simp only[List.length_nil]at h2;have h2':o=[]:=Zq h2;subst ha h2' hx;have hlt:¬((a.length:Int)<(a.length:Int)):=aa;refine ai ?_;simp only[nZ];simp(disch:=try exact ac)[hlt];simpa using hK
 |z::q,a,[],e,ha,h1,h2,ho,hK=>by simp at h2
 | z::q,a,y::o,e,ha,h1,h2,ho,hK=>by
  have hal:a.length<n:=by rw[<-hx,<-ha];simp
  obtain⟨o1,o2⟩:=ho y ae;have hlen:((e++y::o).map tx).length=n:=by rw[<-hx,<-ha];simp at h2 ⊢;omega
  have hz:=hxb z (by rw[<-ha];simp);obtain⟨z1,z2⟩:=Mw hz;have sub:=QJ o1 z1 o2 (z2.mono aa);have g1:(a.length:Int)<(n:Int):=aa
  have hxn:nth ([],[]) ((ofQ x).map tx) a.length=tx (z,1):=by
   have e1:(ofQ x).map tx=(ofQ a++(z,1)::ofQ q).map tx:=by rw[<-ha];simp[ofQ]
   have:=lG ([],[]) tx (ofQ a) (z,1) (ofQ q);rw[rU]at this;rw[e1,this]
  have hy:nth ([],[]) ((e++y::o).map tx) a.length=tx y:=by rw[<-h1];exact lG ..
  have i1:=fun h:Hp=>j9 aV ba ((ofQ x).map tx) h (k:=.i64) (i:=(a.length:Int)) aa (by rw[List.length_map,rU];omega)
  have i2:=fun h:Hp=>kY aV ba ([],[]) ((ofQ x).map tx) h (j:=a.length) (by rw[List.length_map,rU];omega)
  simp only[hxn,Int.toNat_natCast]at i1 i2;have hg:∀x2,(erH C x2 (e++y::o))[1]?=some (1,.data 2 (((e++y::o).map tx).flatMap aV) true false):=fun x2=>rfl
  have e1:=fun x2=>ixR (hg x2) hlen (c:=a.length) hal .i64
  have e2:=fun x2=>ldR (hg x2) hlen (c:=a.length) hal
  have e3:=fun x2=>stR (hg x2) hlen (c:=a.length) hal (tx (ko y (rN (z,1))))
  have es:((e++y::o).map tx).set a.length (tx (ko y (rN (z,1))))=((e++[ko y (rN (z,1))])++o).map tx:=by
   have:=Hl (e.map tx) (tx y) (tx (ko y (rN (z,1)))) (o.map tx);rw[List.length_map,h1]at this;simpa using this
  simp only[hy,es]at e2 e3;have ih:=UK hC hxb hx hn h0 hh K q (a++[z]) o (e++[ko y (rN (z,1))]) (by simp[ha]) (by simp[h1]) (by simpa using h2) (fun w hw=>ho w (by simp[hw])) (by simpa using hK);have e4:(((a++[z]).length:Nat):Int)=(a.length:Int)+1:=ae;rw[e4]at ih;have z2:szV (ofQ x)=oQ aV ((ofQ x).map tx):=rfl;simp only[qT]at sub
  have e3':∀x2,st (erH C x2 (e++y::o)) 2 (.ptr 1 1 (a.length*2) (n*2)) (.agg [S (itoa (ko y (rN (z,1))).fst),S (ah (ko y (rN (z,1))).snd)])=some (erH C x2 (e++[ko y (rN (z,1))]++o)):=e3;have hs2:(erH C nnQ (e++y::o))[2]?=some nnQ:=rfl;have hs3:∀b b',(erH C b (e++y::o)).set 2 b'=erH C b' (e++y::o):=fun b b'=>rfl
  have hx2:∀b,iL (erH C (1,b) (e++y::o)) 2 1=b:=fun b=>rfl
  have i2':∀h:Hp,ldA h 2 (.dptr (((ofQ x).map tx).flatMap aV) (a.length*2))=some (.agg [S (itoa z),S (ah 1)]):=i2;have e2':∀x2,ldA (erH C x2 (e++y::o)) 2 (.ptr 1 1 (a.length*2) (n*2))=some (.agg [S (itoa y.1),S (ah y.2)]):=e2;refine ai ?_;simp only[nZ];simp(disch:=try exact ac)[z2,i1,i2',g1,hs2,hs3,hx2,e1,e2'];refine cd sub ?_ (by rfl)
  simp(disch:=try exact ac)[e1,e3'];have es2:e++ko y (rN (z,1))::o=e++[ko y (rN (z,1))]++o:=ae
  have rs:∀b s,aR [2] 0 h0 (erH C (1,b) s)=erH C nnQ s:=fun b s=>by
   obtain⟨⟨u1,u2⟩,⟨v1,v2⟩,w,rfl⟩:=hh;rfl
  rw[rs,es2];refine⟨?_,lo ih⟩;simp only[clean,erH,o6,hC];rfl
theorem Rr(ht:IB p c w g)(hp10:p.length<10)(hx:aeM p w x)(hr:okS (E8 p w g x)):CP Y F.kP [tuV p c w g,lst di x] (.tup [szV (E8 p w g x),I 0]):=by
 refine Cm ?_;have hn:=ht.tp.lc.n12;have hxl:=hx.l;have hwl:=ht.tp.lw.ml;have hgl:=ht.gl;have a1:=I7 (h:=[(1,.vars (tuC p c w g)),nnQ,nnQ]) rfl ht hp10 hx;have tl:(lz w x).length=w.length:=by simp[lz]
 have ok1:okK 30 (ofQ (lz w x)):=fun y hy=>by
  obtain⟨z,hz,rfl⟩:=Zh.1 hy;exact Mw (hx.t z hz)
 have hln:(Cu p w g x).length=p.length:=by
  unfold Cu oo;rw[qZ (fun s hs=>by rw[(ht.gs s hs).1];simp)];simp
 have ok2:okK 50000 (Cu p w g x):=fun y hy=>by
  have:=G2 (xH p.length) (fun s hs=>(ht.gs s hs).2) ok1 y hy;exact⟨this.1,this.2.mono aa⟩
 have a2:=Di hx.b aa;have a3:=IT ht.tp.pr aa (by rw[E8,List.length_zipWith,hln,hxl];simp) hr;have l1:aW (szV (ofQ x))=some (I p.length):=by rw[we,rU,hxl]
 simp only[kP,tuV];simp only[tuC]at *;simp(disch:=try exact ac);refine lE (Vl (e:=0) (b:=.none) a1 rfl ?_);have hfl:(prC (Cu p w g x)).length=p.length*2:=by rw[x8,hln]
 rw[hfl];simp(disch:=try exact ac);refine cd a2 ?_ (by rfl);simp(disch:=try exact ac)[l1];refine lo (UK (C:=[lst di p,mat c,mat w,lst szD g]) rfl hx.b hxl aa _ ⟨_,_,_,rfl⟩ _ x [] (Cu p w g x) [] rfl rfl (by rw[hln,hxl]) ok2 ?_);have ez:List.zipWith (fun a z=>ko a (rN (z,1))) (Cu p w g x) x=E8 p w g x:=rfl;rw[ez,List.nil_append]
 have sn:=aar (h:=erH [lst di p,mat c,mat w,lst szD g] nnQ (E8 p w g x)) (s:=1) (e:=1) (n:=p.length) (l:=(E8 p w g x).map tx) rfl (by rw[List.length_map,E8,List.length_zipWith,hln,hxl];simp);have l4:ld1 (erH [lst di p,mat c,mat w,lst szD g] nnQ (E8 p w g x)) (.ptr 0 1 0 4)=some (lst di p):=rfl
 have hx0:iL (erH [lst di p,mat c,mat w,lst szD g] nnQ (E8 p w g x)) 0 1=.vars [lst di p,mat c,mat w,lst szD g]:=rfl;simp(disch:=try exact ac)[hx0];have e5:∀h:Hp,bg h (lst di p)=some (lst di p,h):=fun h=>rfl
 refine cdz (by simp only[aA,e5,sn];rfl) a3 ?_;simp(disch:=try exact ac);exact⟨_,rfl⟩
def LC(p:LiQ)(c w:Mz)(g:List (List Q))(f:Tg->List Q)(t:Tg):Prop:=∃a b:List Q,CP Y F.kP [tuV p c w g,lst di t.iv] (.tup [szV a,I 0])∧CP Y F.rz [lst di p,szV a] (.tup [szV b,I 0])∧CP Y F.ou [lst di p,szV b,.agg [S t.num,S t.den]] (.tup [szV (f t),I 0])
def daA:Acc:=⟨2,0,1,.none⟩
def daV(l:List (List Q)):V:=daA.v l.length (l.map szD)
def daB(l:List (List Q)):Nat×Bk:=daA.b l.length (l.map szD)
theorem K6{f:Tg->List Q}{l:List Tg}(hl:l.length<1000)(hd:∀t∈l,LC p c w g f t)(h0:Hp)(hh:∃b u x,h0=[b,(0,u),x])(K:KL):∀(q a:List Tg),l=a++q->K (.exit 0) [daV (l.map f)] [(1,.vars (tuC p c w g)),nnQ,daB (l.map f)] ->
  lp (p9 (CX Y) (.ptr 0 1 0 4) (lst di p) (tgs l) (I l.length)) [1] h0 [daV (a.map f),I a.length] [(1,.vars (tuC p c w g)),nnQ,daB (a.map f)] K
 | [],a,e,hK=>by
  simp only[Zo]at e;subst e;refine ai ?_;have hlt:¬((l.length:Int)<(l.length:Int)):=aa;simp only[p9];simp(disch:=try exact ac)[hlt];exact hK
 | t::q,a,e,hK=>by
  refine ai ?_;have hlt:((a.length:Int)<(l.length:Int)):=by rw[e];simp;omega
  have hal:a.length<1000:=aa;have p1:=Cs a q t;have p2:=G0 a q t;rw[<-e]at p1 p2;obtain⟨ea,eb,c1,c2,c3⟩:=hd t (by rw[e];simp);have ih:=K6 hl hd h0 hh K q (a++[t]) (by rw[e];simp) hK;have e4:(((a++[t]).length:Nat):Int)=(a.length:Int)+1:=ae;rw[e4,List.map_append]at ih;have okr:∀r,okV (lst di r)=true:=fun r=>rfl
  have li:∀(s:List Q)(h:Hp),fO 1 [nPQ] [(0,szV s)] h=some ([szD s],h):=fun s h=>Qs ..
  have l4:∀x y,ldA [(1,.vars (tuC p c w g)),x,y] 4 (.ptr 0 1 0 4)=some (tuV p c w g):=fun x y=>rfl
  simp only[p9];obtain⟨D0,hD⟩:=nmQ (daB (a.map f));rw[<-hD];simp only[tuV,tuC]at c1 l4 ⊢;simp(disch:=try exact ac)[hlt,p1,p2,okr];refine cd c1 ?_ (by simp[aA,bg,mat]);simp(disch:=try exact ac);refine bB ?_;simp(disch:=try exact ac);refine cd c2 ?_ (by rfl);simp(disch:=try exact ac)
  refine bB ?_;simp(disch:=try exact ac);refine cd c3 ?_ (by rfl);simp(disch:=try exact ac)[li];have al:(a.map f).length=a.length:=ae;have hs:([(1,Bk.vars [lst di p,mat c,mat w,lst szD g]),(1,Bk.vars [lst di t.iv,S t.num,S t.den]),D0]:Hp)[daA.s]?=some (daA.b (a.map f).length ((a.map f).map szD)):=by rw[hD];rfl
  refine om daA (by_:=24) (k:=1) (cs:=[szD (f t)]) aa hs (by simp[daA]) rfl rfl (by intro t ht;cases ht) aa af ?_;have ev:daV (a.map f++[f t])=daA.v ((a.map f).length+1) ((a.map f).map szD++[szD (f t)]):=by simp[daV]
  have eb:daB (a.map f++[f t])=daA.b ((a.map f).length+1) ((a.map f).map szD++[szD (f t)]):=by simp[daB]
  simp only[Z1,Yx]at ih;rw[ev,eb]at ih;obtain⟨⟨b1,b2⟩,u,⟨x1,x2⟩,rfl⟩:=hh;have ea:biI BinOp.add (I (a.length:Int)) (V.d (D.int IntKind.i64 1))=some (I ((a.length:Int)+1)):=by simp(disch:=try exact ac)
  exact ZJ ea ⟨rfl,ih⟩
theorem Eo(ht:IB p c w g){l:List Tg}(hl:l.length<1000)(h0:0<l.length)(hs:∀t∈l,TgS t)(hc:dmB p l=0)(hd:∀t∈l,LC p c w g f t):CP Y F.m9 [tuV p c w g,tgs l] (.tup [lst szD (l.map f),I 0]):=by
 refine Ih ?_;have hn:=ht.tp.lc.n12;have a1:=Co ht;have a2:=Ed (p:=p) (l:=l) aa aa hs;rw[hc]at a2;have l1:aW (tgs l)=some (I l.length):=rfl;simp only[m9,tuV,tuC];simp(disch:=try exact ac);refine cd (args:=[tuV p c w g]) a1 ?_ (by simp[aA,bg,tuV,tuC,mat]);simp(disch:=try exact ac)
 refine cd a2 ?_ (by rfl);simp(disch:=try exact ac)[l1];refine lo (K6 hl hd _ ⟨_,_,_,rfl⟩ _ l [] rfl ?_);obtain⟨h',e1,_⟩:=py daA (L:=(l.map f).length) (cells:=(l.map f).map szD) (h:=[(1,.vars (tuC p c w g)),nnQ,daB (l.map f)]) rfl (by simp[daA]);exact bN e1 rfl
theorem YT(ht:IB p c w g){t:Tg}(hs:TgS t)(hc:dmB p [t]=0)(hd:LC p c w g f t):CP Y F.pX [tuV p c w g,.agg [lst di t.iv,S t.num,S t.den]] (.tup [szV (f t),I 0]):=by
 refine K5 ?_;have a1:=Eo ht (f:=f) (l:=[t]) ae ae (by simpa using hs) hc (by simpa using hd);simp only[pX,tuV,tuC];have li:∀H:Hp,fO 1 [nPQ,D.str [],D.str []] [(0,V.agg [lst di t.iv,S t.num,S t.den])] H=some (tgD t,H):=fun H=>rfl
 have i1:∀H:Hp,ixV H 1 (lst szD (List.map f [t])) (I 0)=some (.dptr ((List.map f [t]).map szD) 0):=fun H=>rfl
 have i2:∀H:Hp,ld1 H (.dptr ((List.map f [t]).map szD) 0)=some (szV (f t)):=fun H=>rfl
 simp only[Z1,Yx]at a1 i1 i2;have e1:V.d (.sl 1 (tgD t))=tgs [t]:=by simp[tgs,oQ]
 simp(disch:=try exact ac)[li];rw[e1];refine cd a1 ?_ (by simp[aA,bg,tuV,tuC,mat,tgs,oQ]);simp(disch:=try exact ac)[i1,i2];exact⟨_,rfl⟩
theorem Tj(x:Tx):CP Y F.jd [.agg [S x.1,S x.2]] (B (!decide (x.1=[48]))):=by refine Aj ?_;simp only[jd];simp(disch:=try exact ac);exact cx (by by_cases h:x.1=[48]<;>simp[h])
def N4(s:List Q):Bool:=(s.map tx).any fun x=>!decide (x.1=[48])
def C7:Nat->List (List Q)->LiQ
 |_,[]=>[]
 |i,s::l=>if N4 s=true then C7 (i+1) l else(i:Int)::C7 (i+1) l
def puA:Acc:=⟨1,0,1,.none⟩
def puV(l:LiQ):V:=puA.v l.length (l.map di)
def puB(l:LiQ):Nat×Bk:=puA.b l.length (l.map di)
theorem Ak{l:List (List Q)}(hl:l.length<1000)(hn:∀s∈l,s.length<1000000)(b0:Nat×Bk)(h0:Hp)(K:KL):∀(q a:List (List Q))(z:LiQ),l=a++q->z.length<=a.length->K (.exit 0) [puV (z++C7 a.length q)] [b0,puB (z++C7 a.length q)] ->
  lp (pu (CX Y) (lst szD l) (I l.length)) [] h0 [puV z,I a.length] [b0,puB z] K
 | [],a,z,e,hz,hK=>by
  simp only[Zo]at e;subst e;refine ai ?_;have hlt:¬((l.length:Int)<(l.length:Int)):=aa;simp only[pu];simp(disch:=try exact ac)[hlt];simpa[C7]using hK
 | s::q,a,z,e,hz,hK=>by
  refine ai ?_;have hlt:((a.length:Int)<(l.length:Int)):=by rw[e];simp;omega
  have hal:a.length<l.length:=aa;have i1:∀h:Hp,ixV h 1 (lst szD l) (I a.length)=some (.dptr (l.map szD) a.length):=fun h=>by rw[e];exact o9 szD a s q _ _
  have i2:∀h:Hp,ld1 h (.dptr (l.map szD) a.length)=some (szV s):=fun h=>by
   rw[oB szD l _ hal];simp only[e,Zm (Z7 _),Zc,Zg];rfl
  have cs:=wX (g:=F.jd) (p:=fun x=>!decide (x.1=[48])) (s.map tx) (by rw[List.length_map];exact hn s (by rw[e];simp)) (fun x _=>Tj x);have e4:(((a++[s]).length:Nat):Int)=(a.length:Int)+1:=ae;have z1:szV s=oQ aV (s.map tx):=rfl;have li:∀(i:Int)(h:Hp),fO 1 [.int .i64 0] [(0,I i)] h=some ([di i],h):=fun i h=>rfl
  obtain⟨Z,hZ⟩:=nmQ (puB z);simp only[C7]at hK;simp only[pu];rw[<-hZ];simp(disch:=try exact ac)[hlt];refine bB ?_;simp(disch:=try exact ac)[i1,i2,z1];refine cd cs ?_ (by rfl);cases hp:(s.map tx).any (fun x=>!decide (x.1=[48]))with
  | true=>
   have ep:N4 s=true:=hp;rw[if_pos ep]at hK;have ih:=Ak hl hn b0 h0 K q (a++[s]) z (by rw[e];simp) aG (by rw[List.length_append];exact hK);rw[e4,<-hZ]at ih;simp(disch:=try exact ac);refine bB ?_;simp(disch:=try exact ac);rw[fE];exact lo ih
  | false=>
   have ep:¬N4 s=true:=by unfold N4;rw[hp];decide
   rw[if_neg ep]at hK;have ih:=Ak hl hn b0 h0 K q (a++[s]) (z++[(a.length:Int)]) (by rw[e];simp) aG (by rw[List.length_append,List.append_assoc];exact hK);have ev:puV (z++[(a.length:Int)])=puA.v (z.length+1) (z.map di++[di a.length]):=by simp[puV]
   have eb:puB (z++[(a.length:Int)])=puA.b (z.length+1) (z.map di++[di a.length]):=by simp[puB]
   rw[e4,ev,eb]at ih;simp(disch:=try exact ac);refine bB ?_;simp(disch:=try exact ac)[li];refine om puA (L:=z.length) (cells:=z.map di) (by_:=8) (k:=1) (cs:=[di a.length]) aa (by rw[hZ];rfl) (by simp[puA]) rfl rfl (by intro t ht;cases ht) aa af ?_
   have ea:biI BinOp.add (I (a.length:Int)) (V.d (D.int IntKind.i64 1))=some (I ((a.length:Int)+1)):=by simp(disch:=try exact ac)
   refine ZJ ea ⟨ae,?_⟩;rw[fE];exact ih
theorem QV(ht:IB p c w g){l:List Tg}(hl:l.length<1000)(h0:0<l.length)(hs:∀t∈l,TgS t)(hc:dmB p l=0)(hd:∀t∈l,LC p c w g f t)(hf:∀t∈l,(f t).length<1000000):CP Y F.m8 [tuV p c w g,tgs l] (.tup [lst di (C7 0 (l.map f)),I 0]):=by
 refine Fs ?_;have a1:=Eo ht hl h0 hs hc hd;have l1:aW (lst szD (l.map f))=some (I (l.map f).length):=rfl;simp only[m8,tuV,tuC];simp(disch:=try exact ac);refine cd (args:=[tuV p c w g,tgs l]) a1 ?_ (by simp[aA,bg,tuV,tuC,mat,tgs,oQ]);simp(disch:=try exact ac)[l1];have lm:(l.map f).length=l.length:=ae;rw[<-lm]
 refine lo (Ak (l:=l.map f) aa (fun s hs=>by obtain⟨t,h1,rfl⟩:=Zh.1 hs;exact hf t h1) _ _ _ (l.map f) [] [] rfl (Z7 _) ?_);obtain⟨h',e1,_⟩:=py puA (L:=(C7 0 (l.map f)).length) (cells:=(C7 0 (l.map f)).map di) (h:=[(1,.vars (tuC p c w g)),puB (C7 0 (l.map f))]) rfl (by simp[puA]);exact bN e1 rfl
structure Ms where
 t:Tg
 d:List Q
 i:Int
def msD(m:Ms):LdQ:=[row m.t.iv,.str m.t.num,.str m.t.den,szD m.d,di m.i]
def msV(m:Ms):LwQ:=[lst di m.t.iv,S m.t.num,S m.t.den,szV m.d,I m.i]
def tuD(p:LiQ)(c w:Mz)(g:List (List Q)):LdQ:=[row p,.sl c.length (c.map row),.sl w.length (w.map row),.sl g.length (g.map szD)]
theorem RU{x y:Ms}{e:Int}(h:CP Y F.cj [lst di p,szV y.d,szV x.d] (.tup [I z,I e])):CP Y F.dw [.agg (msV x),.agg (msV y),.dptr (tuD p c w g) 0] (I z):=by
 refine xC ?_;have l1:∀H:Hp,ld1 H (.dptr (tuD p c w g) 0)=some (lst di p):=fun H=>rfl
 simp only[dw,msV];simp(disch:=try exact ac)[l1];refine cd h ?_ (by rfl);simp(disch:=try exact ac)
theorem cdg{C:rL}{h':Hp}{g:FuncId}{fs args ds:LwQ}{v:V}{k:kkQ}{u:PU k}(hs:aA h (fs++args++cs)=some (ds,h'))(hc:C g ds v)(hp:dD v=true)(hk:k v h):rh (cal C h (.fn g fs cs) args) k u:=by
 show cal C h (.fn g fs cs) args k
 unfold cal;simp only[hs];refine⟨v,hc,?_⟩;rw[if_pos hp];exact hk
def ms3(a b d:Ms):LdQ:=msD a++msD b++msD d
def hS(C:LwQ)(a b d:Ms)(r:Hp):Hp:=(1,.vars C)::(1,.data 5 (ms3 a b d) false false)::r
def r4:Hp:=[nnQ,nnQ,nnQ,nnQ]
theorem R3{a b d:Ms}(h1:CP Y F.cj [lst di p,szV a.d,szV b.d] (.tup [I (-1),I e1]))(h2:CP Y F.cj [lst di p,szV a.d,szV d.d] (.tup [I 1,I e2])):
  CI Y F.aB [.ref 1 1 0 3 3 15,I 0,I 3,.fn F.dw [] [.ptr 0 1 0 4]] (hS (tuC p c w g) a b d r4) (.tup []) (hS (tuC p c w g) b a d r4):=by
 refine j5 ?_;have c1:=RU (p:=p) (c:=c) (w:=w) (g:=g) (x:=b) (y:=a) h1;have c2:=RU (p:=p) (c:=c) (w:=w) (g:=g) (x:=d) (y:=a) h2;have hg:∀a b d,iL (hS (tuC p c w g) a b d r4) 1 1=.data 5 (ms3 a b d) false false:=fun a b d=>rfl
 have x0:∀a b d,ixX (.data 5 (ms3 a b d) false false) 5 1 1 0 3 15 0=some (.ptr 1 1 0 15):=fun a b d=>rfl
 have x1:∀a b d,ixX (.data 5 (ms3 a b d) false false) 5 1 1 0 3 15 1=some (.ptr 1 1 5 15):=fun a b d=>rfl
 have x2:∀a b d,ixX (.data 5 (ms3 a b d) false false) 5 1 1 0 3 15 2=some (.ptr 1 1 10 15):=fun a b d=>rfl
 have l0:∀a b d,HX (.data 5 (ms3 a b d) false false) 5 0 15=some (.agg (msV a)):=fun a b d=>rfl
 have l1:∀a b d,HX (.data 5 (ms3 a b d) false false) 5 5 15=some (.agg (msV b)):=fun a b d=>rfl
 have l2:∀a b d,HX (.data 5 (ms3 a b d) false false) 5 10 15=some (.agg (msV d)):=fun a b d=>rfl
 have s0:∀a b d x,stX (.data 5 (ms3 a b d) false false) (hS (tuC p c w g) a b d r4) 1 1 0 15 (msV x)=some (hS (tuC p c w g) x b d r4):=fun a b d x=>rfl
 have s1:∀a b d x,stX (.data 5 (ms3 a b d) false false) (hS (tuC p c w g) a b d r4) 1 1 5 15 (msV x)=some (hS (tuC p c w g) a x d r4):=fun a b d x=>rfl
 have ml:∀a,(msV a).length=5:=fun a=>rfl
 have sn:∀a b d x y,aA (hS (tuC p c w g) a b d r4) ([]++[.agg (msV x),.agg (msV y)]++[.ptr 0 1 0 4])=some ([.agg (msV x),.agg (msV y),.dptr (tuD p c w g) 0],(1,.data 1 (tuD p c w g) false true)::(1,.data 5 (ms3 a b d) false false)::r4):=fun a b d x y=>rfl
 have cl:∀a b d (i:Int),clean [] [I i] (hS (tuC p c w g) a b d r4)=true:=fun a b d i=>rfl
 have rs:∀a b d a' b' d',aR [] 0 (hS (tuC p c w g) a' b' d' r4) (hS (tuC p c w g) a b d r4)=hS (tuC p c w g) a b d r4:=fun a b d a' b' d'=>rfl
 simp only[aB];simp(disch:=try exact ac);refine ai ?_;simp only[bw];simp(disch:=try exact ac);refine ai ?_;simp only[bv];simp(disch:=try exact ac)[hg,x0,x1,l0,l1];refine cdg (sn ..) c1 rfl ?_
 simp(disch:=try exact ac)[hg,x0,x1,l0,l1,ml,s0,s1];rw[rs];refine ai ?_;simp only[bv];simp(disch:=try exact ac)[hg,x0,x1,l0,l1];rw[rs];refine ai ?_;simp only[bw];simp(disch:=try exact ac);refine ai ?_
 simp only[bv];simp(disch:=try exact ac)[hg,x1,x2,l1,l2];refine cdg (sn ..) c2 rfl ?_;simp(disch:=try exact ac);rw[rs];refine ai ?_;simp only[bw];simp(disch:=try exact ac);exact⟨rfl,rfl,.inl ⟨rfl,rfl⟩⟩
def r2:Hp:=[nnQ,nnQ]
def r1:Hp:=[nnQ]
theorem L3{a b d:Ms}(h1:CP Y F.cj [lst di p,szV a.d,szV b.d] (.tup [I (-1),I e1]))(h2:CP Y F.cj [lst di p,szV a.d,szV d.d] (.tup [I 1,I e2])):
  CI Y F.aS [.ref 1 1 0 3 3 15,I 3,.fn F.dw [] [.ptr 0 1 0 4]] (hS (tuC p c w g) a b d r2) (.tup []) (hS (tuC p c w g) b a d r2):=by
 refine mO ?_;have si:=R3 (p:=p) (c:=c) (w:=w) (g:=g) h1 h2;have ea:hS (tuC p c w g) a b d r2++[(0,Bk.none),(0,Bk.none)]=hS (tuC p c w g) a b d r4:=rfl;simp only[aS];simp(disch:=try exact ac)[ea];refine ai ?_;simp only[gr]
 simp(disch:=try exact ac);refine lE (ik si ?_ (by intro _ _ _ _ _ e;cases e));refine ai ?_;simp only[gn];simp(disch:=try exact ac);exact⟨rfl,rfl,.inl ⟨rfl,rfl⟩⟩
theorem R2{a b d:Ms}(h1:CP Y F.cj [lst di p,szV a.d,szV b.d] (.tup [I (-1),I e1]))(h2:CP Y F.cj [lst di p,szV a.d,szV d.d] (.tup [I 1,I e2])):
  CI Y F.ak [.ref 1 1 0 3 3 15,.fn F.dw [] [.ptr 0 1 0 4]] (hS (tuC p c w g) a b d r1) (.tup []) (hS (tuC p c w g) b a d r1):=by
 refine gI ?_;have si:=L3 (p:=p) (c:=c) (w:=w) (g:=g) h1 h2;have ea:hS (tuC p c w g) a b d r1++[(0,Bk.none)]=hS (tuC p c w g) a b d r2:=rfl;have l1:aW (.ref 1 1 0 3 3 15)=some (I 3):=rfl;simp only[ak];simp(disch:=try exact ac)[ea,l1]
 refine lE (ik si ?_ (by intro _ _ _ _ _ e;cases e));exact⟨rfl,rfl,.inl ⟨rfl,rfl⟩⟩
def msL(l:List Ms):V:=oQ msD l
def saA:Acc:=⟨1,0,5,.none⟩
def saV(z:List Ms):V:=saA.v z.length (z.flatMap msD)
def saB(z:List Ms):Nat×Bk:=saA.b z.length (z.flatMap msD)
def msG(f:Tg->List Q):Nat->List Tg->List Ms
 |_,[]=>[]
 |i,t::q=>⟨t,f t,i⟩::msG f (i+1) q
theorem RQ{f:Tg->List Q}{l:List Tg}(hl:l.length<1000)(b0 x2:Nat×Bk)(h0:Hp)(K:KL):∀(q a:List Tg)(z:List Ms),l=a++q->z.length=a.length->K (.exit 0) [saV (z++msG f a.length q)] [b0,saB (z++msG f a.length q),x2] ->
  lp (nM (CX Y) (tgs l) (lst szD (l.map f)) (I l.length)) [] h0 [saV z,I a.length] [b0,saB z,x2] K
 | [],a,z,e,hz,hK=>by
  simp only[Zo]at e;subst e;refine ai ?_;have hlt:¬((l.length:Int)<(l.length:Int)):=aa;simp only[nM];simp(disch:=try exact ac)[hlt];simpa[msG]using hK
 | t::q,a,z,e,hz,hK=>by
  refine ai ?_;have hlt:((a.length:Int)<(l.length:Int)):=by rw[e];simp;omega
  have hal:a.length<1000:=aa;have p1:=Cs a q t;have p2:=G0 a q t;rw[<-e]at p1 p2
  have i1:∀h:Hp,ixV h 1 (lst szD (l.map f)) (I a.length)=some (.dptr ((l.map f).map szD) a.length):=fun h=>by
   have:=o9 szD (a.map f) (f t) (q.map f) h .i64;rw[List.length_map,<-Z1,<-List.map_append,<-e]at this;exact this
  have i2:∀h:Hp,ld1 h (.dptr ((l.map f).map szD) a.length)=some (szV (f t)):=fun h=>by
   rw[oB szD (l.map f) _ aG]
   have e6:(l.map f)[a.length]'(by simp;omega)=f t:=by
    simp only[e,List.map_append,Z1];rw[Zm ae];simp
   rw[e6];rfl
  simp only[msG]at hK;have ih:=RQ hl b0 x2 h0 K q (a++[t]) (z++[⟨t,f t,a.length⟩]) (by rw[e];simp) (by simp[hz]) (by rw[List.length_append,List.append_assoc];exact hK);have e4:(((a++[t]).length:Nat):Int)=(a.length:Int)+1:=ae;have ev:saV (z++[⟨t,f t,a.length⟩])=saA.v (z.length+1) (z.flatMap msD++msD ⟨t,f t,a.length⟩):=by simp[saV]
  have eb:saB (z++[⟨t,f t,a.length⟩])=saA.b (z.length+1) (z.flatMap msD++msD ⟨t,f t,a.length⟩):=by simp[saB]
  rw[e4,ev,eb]at ih;have bl:∀(t:Tg)(d:List Q)(i:Int),bld [(0,3),(3,1),(4,1)] [nPQ,.str [],.str [],nPQ,.int .i64 0] [(0,.agg [lst di t.iv,S t.num,S t.den]),(1,szV d),(2,I i)]=some (.agg (msV ⟨t,d,i⟩)):=fun t d i=>rfl
  have li:∀(m:Ms)(H:Hp),fO 1 [nPQ,.str [],.str [],nPQ,.int .i64 0] [(0,.agg (msV m))] H=some (msD m,H):=fun m H=>rfl
  obtain⟨Z,hZ⟩:=nmQ (saB z);obtain⟨M,hM⟩:=nmQ (l.map f);simp only[nM];rw[<-hZ];rw[<-hM]at i1 i2 ih ⊢;simp(disch:=try exact ac)[hlt,i1,i2,p1,p2,bl,li]
  refine om saA (L:=z.length) (cells:=z.flatMap msD) (by_:=88) (k:=1) (cs:=msD ⟨t,f t,a.length⟩) aa (by rw[hZ];rfl) (fv msD (fun _=>rfl) z) rfl rfl (by intro t ht;cases ht) aa af ?_;have ea:biI BinOp.add (I (a.length:Int)) (V.d (D.int IntKind.i64 1))=some (I ((a.length:Int)+1)):=by simp(disch:=try exact ac)
  refine ZJ ea ⟨ae,?_⟩;rw[fE];exact ih
theorem L6(ht:IB p c w g){f:Tg->List Q}{t0 t1 t2:Tg}(hs:∀t ∈ [t0,t1,t2],TgS t)(hc:dmB p [t0,t1,t2]=0)(hd:∀t ∈ [t0,t1,t2],LC p c w g f t){e1 e2:Int}
  (h1:CP Y F.cj [lst di p,szV (f t0),szV (f t1)] (.tup [I (-1),I e1])) (h2:CP Y F.cj [lst di p,szV (f t0),szV (f t2)] (.tup [I 1,I e2])) :
  CP Y F.lY [tuV p c w g,tgs [t0,t1,t2]] (.tup [msL [⟨t1,f t1,1⟩,⟨t0,f t0,0⟩,⟨t2,f t2,2⟩],I 0]):=by
 refine BA ?_;have a1:=Eo ht (l:=[t0,t1,t2]) ae ae hs hc hd;obtain⟨d0,q0⟩:∃d,d=f t0:=⟨_,rfl⟩;obtain⟨d1,q1⟩:∃d,d=f t1:=⟨_,rfl⟩;obtain⟨d2,q2⟩:∃d,d=f t2:=⟨_,rfl⟩;simp only[Z1,Yx,<-q0,<-q1,<-q2]at a1 h1 h2 ⊢;have st:=R2 (p:=p) (c:=c) (w:=w) (g:=g) (a:=⟨t0,d0,0⟩) (b:=⟨t1,d1,1⟩) (d:=⟨t2,d2,2⟩) h1 h2
 have l1:aW (lst szD [d0,d1,d2])=some (I 3):=rfl;simp only[lY,tuV,tuC];simp(disch:=try exact ac);refine cd (args:=[tuV p c w g,tgs [t0,t1,t2]]) a1 ?_ (by simp[aA,bg,tuV,tuC,mat,tgs,oQ]);simp(disch:=try exact ac)[l1]
 have ml:=RQ (f:=f) (l:=[t0,t1,t2]) ae (1,.vars (tuC p c w g)) nnQ [(1,.vars (tuC p c w g)),nnQ,nnQ]
  (exK [(Exit.exit 0,fun l8 h=>cai (CX Y).i h (V.fn F.ak [] []) [ge l8 0,V.fn F.dw [] [V.ptr 0 1 0 4]] 2 fun v9 h=>
   out (V.tup [msL [⟨t1,d1,1⟩,⟨t0,d0,0⟩,⟨t2,d2,2⟩],I 0]) (V.tup [ge l8 0,V.d (D.int IntKind.i64 0)]) h)]) [t0,t1,t2] [] [] rfl rfl ?_
 .simp only[Z1,Yx,<-q0,<-q1,<-q2]at ml;exact lo ml
 simp only[msG,<-q0,<-q1,<-q2];have eV:saV ([]++[⟨t0,d0,((([]:List Tg).length:Nat):Int)⟩,⟨t1,d1,((([]:List Tg).length+1:Nat):Int)⟩,⟨t2,d2,((([]:List Tg).length+1+1:Nat):Int)⟩])=.ref 1 1 0 3 3 15:=rfl
 have eB:saB ([]++[⟨t0,d0,((([]:List Tg).length:Nat):Int)⟩,⟨t1,d1,((([]:List Tg).length+1:Nat):Int)⟩,⟨t2,d2,((([]:List Tg).length+1+1:Nat):Int)⟩])=(1,.data 5 (ms3 ⟨t0,d0,0⟩ ⟨t1,d1,1⟩ ⟨t2,d2,2⟩) false false):=rfl;rw[eV,eB];simp(disch:=try exact ac);refine lE (ik st ?_ (by intro _ _ _ _ _ e;cases e));exact⟨_,rfl⟩
def ms0:Ms:=⟨tg0,[],0⟩
theorem Om(m:Ms):(msD m).length=5:=rfl
theorem aaw(a q:List Ms)(t:Ms)(h:Hp):ixV h 5 (msL (a++t::q)) (I a.length)=some (.dptr ((a++t::q).flatMap msD) (a.length*5)):=j9 msD Om _ h (k:=.i64) (i:=(a.length:Int)) aa aG
theorem abF(a q:List Ms)(t:Ms)(h:Hp):ldA h 5 (.dptr ((a++t::q).flatMap msD) (a.length*5))=some (.agg (msV t)):=by have:=kY msD Om ms0 (a++t::q) h (j:=a.length) ae;rw[show nth ms0 (a++t::q) a.length=t by simp]at this;exact this
def gtA:Acc:=⟨2,0,1,.none⟩
def gtV(l:LiQ):V:=gtA.v l.length (l.map di)
def gtN(l:LiQ):Nat×Bk:=gtA.b l.length (l.map di)
def gtI(d:List Q):List Ms->LiQ
 |[]=>[]
 |m::l=>if m.d=d then m.i::gtI d l else gtI d l
theorem aaD{b0:Nat×Bk}(hb:offB [1] b0.2=true)(z:LiQ)(i:Int)(x:Bk):clean [1] [gtV z,I i] [b0,(1,x),gtN z]=true:=by
 have v1:qe [1] (gtV z)=true:=by unfold gtV Acc.v;split<;>rfl
 have v2:offB [1] (gtN z).2=true:=by unfold gtN Acc.b;split<;>rfl
 simp only[clean,iZ,v1,wc,hb,v2,Bool.or_true,Yw];rfl
theorem Uw{l:List Ms}{m0:Ms}{l':List Ms}(e0:l=m0::l')(hl:l.length<1000)(hs:∀m∈l,m.d.length<1000000)(b0:Nat×Bk)(h0:Hp)(hh:∃u v w,h0=[u,(0,v),w])(hb:offB [1] b0.2=true)(K:KL):∀(q a:List Ms)(z:LiQ),l=a++q->z.length<=a.length->K (.exit 0) [gtV (z++gtI m0.d q)] [b0,nnQ,gtN (z++gtI m0.d q)] ->
  lp (k9 (CX Y) (msL l) (msL l) (I l.length)) [1] h0 [gtV z,I a.length] [b0,nnQ,gtN z] K
 | [],a,z,e,hz,hK=>by
  simp only[Zo]at e;subst e;refine ai ?_;have hlt:¬((l.length:Int)<(l.length:Int)):=aa;simp only[k9];simp(disch:=try exact ac)[hlt];simpa[gtI]using hK
 | m::q,a,z,e,hz,hK=>by
  refine ai ?_;have hlt:((a.length:Int)<(l.length:Int)):=by rw[e];simp;omega
  have hal:a.length<1000:=aa;have p1:=aaw a q m;have p2:=abF a q m;rw[<-e]at p1 p2;have p3:∀h:Hp,ixV h 5 (msL l) (I 0)=some (.dptr (l.flatMap msD) 0):=fun h=>by rw[e0];exact aaw [] l' m0 h
  have p4:∀h:Hp,ld1 h (.dptr (l.flatMap msD) 3)=some (szV m0.d):=fun h=>by rw[e0];rfl
  have eq:=QQ (s:=m.d) (t:=m0.d) (hs m (by rw[e];simp));simp only[gtI]at hK;have okm:∀m,(msV m).all okV=true:=fun m=>rfl
  obtain⟨Z,hZ⟩:=nmQ (gtN z);simp only[k9];rw[<-hZ];simp(disch:=try exact ac)[hlt];refine bB ?_;simp only[msV]at p2;have okr:∀r,okV (lst di r)=true:=fun r=>rfl
  have okz:∀s,okV (szV s)=true:=fun r=>rfl
  simp(disch:=try exact ac)[p1,p2,okr,okz,p3,p4];refine cd eq ?_ (by rfl)
  have rs:∀Y x,aR [1] 0 h0 [b0,(1,x),Y]=[b0,nnQ,Y]:=fun Y x=>by
   obtain⟨u,v,w,rfl⟩:=hh;simp only[pN,PX];rfl
  have ea:biI BinOp.add (I (a.length:Int)) (V.d (D.int IntKind.i64 1))=some (I ((a.length:Int)+1)):=by simp(disch:=try exact ac)
  have e4:(((a++[m]).length:Nat):Int)=(a.length:Int)+1:=ae;have li:∀(i:Int)(h:Hp),fO 1 [.int .i64 0] [(0,I i)] h=some ([di i],h):=fun i h=>rfl
  by_cases em:m.d=m0.d
  .rw[if_pos em]at hK;have ih:=Uw e0 hl hs b0 h0 hh hb K q (a++[m]) (z++[m.i]) (by rw[e];simp) aG (by rw[List.append_assoc];exact hK);have ev:gtV (z++[m.i])=gtA.v (z.length+1) (z.map di++[di m.i]):=by simp[gtV]
   have eb:gtN (z++[m.i])=gtA.b (z.length+1) (z.map di++[di m.i]):=by simp[gtN]
   have cl:=aaD hb (z++[m.i]) ((a.length:Int)+1) (.vars [lst di m.t.iv,S m.t.num,S m.t.den,szV m.d,I m.i]);rw[ev,eb]at cl;rw[e4,ev,eb]at ih;have em':decide (m.d=m0.d)=true:=by simp[em]
   rw[em'];simp(disch:=try exact ac);refine bB ?_;simp(disch:=try exact ac)[li];refine om gtA (L:=z.length) (cells:=z.map di) (by_:=8) (k:=1) (cs:=[di m.i]) aa (by rw[hZ];rfl) (by simp[gtA]) rfl rfl (by intro t ht;cases ht) aa af ?_;refine ZJ ea ⟨cl,?_⟩
   have:=rs (gtA.b (z.length+1) (z.map di++[di m.i])) (.vars [lst di m.t.iv,S m.t.num,S m.t.den,szV m.d,I m.i])
   show lp _ _ _ _ (aR [1] 0 h0 [b0,(1,.vars [lst di m.t.iv,S m.t.num,S m.t.den,szV m.d,I m.i]),gtA.b (z.length+1) (z.map di++[di m.i])]) _
   rw[this];exact ih
  .rw[if_neg em]at hK;have ih:=Uw e0 hl hs b0 h0 hh hb K q (a++[m]) z (by rw[e];simp) aG hK;have cl:=aaD hb z ((a.length:Int)+1) (.vars [lst di m.t.iv,S m.t.num,S m.t.den,szV m.d,I m.i]);rw[<-hZ]at cl ih;rw[e4]at ih;have em':decide (m.d=m0.d)=false:=by simp[em]
   rw[em'];simp(disch:=try exact ac);refine bB ?_;simp(disch:=try exact ac);refine⟨cl,?_⟩;rw[rs];exact lo ih
theorem HZ(ht:IB p c w g){f:Tg->List Q}{t0 t1 t2:Tg}(hs:∀t ∈ [t0,t1,t2],TgS t)(hc:dmB p [t0,t1,t2]=0)(hd:∀t ∈ [t0,t1,t2],LC p c w g f t){e1 e2:Int}(hf:∀t ∈ [t0,t1,t2],(f t).length<1000000)
  (h1:CP Y F.cj [lst di p,szV (f t0),szV (f t1)] (.tup [I (-1),I e1])) (h2:CP Y F.cj [lst di p,szV (f t0),szV (f t2)] (.tup [I 1,I e2])) :
  CP Y F.ij [tuV p c w g,tgs [t0,t1,t2]] (.tup [szV (f t1),lst di (gtI (f t1) [⟨t1,f t1,1⟩,⟨t0,f t0,0⟩,⟨t2,f t2,2⟩]),I 0]):=by
 refine yM ?_;have a1:=L6 ht hs hc hd h1 h2;obtain⟨l,hl⟩:∃l:List Ms,l=[⟨t1,f t1,1⟩,⟨t0,f t0,0⟩,⟨t2,f t2,2⟩]:=⟨_,rfl⟩;rw[<-hl]at a1 ⊢;have l1:aW (msL l)=some (I 3):=by rw[hl];rfl
 have p3:∀h:Hp,ixV h 5 (msL l) (I 0)=some (.dptr (l.flatMap msD) 0):=fun h=>by rw[hl];rfl
 have p4:∀h:Hp,ld1 h (.dptr (l.flatMap msD) 3)=some (szV (f t1)):=fun h=>by rw[hl];rfl
 simp only[ij,tuV,tuC];simp(disch:=try exact ac);refine cd (args:=[tuV p c w g,tgs [t0,t1,t2]]) a1 ?_ (by simp[aA,bg,tuV,tuC,mat,tgs,oQ]);simp(disch:=try exact ac)[l1]
 have ml:=Uw hl (by rw[hl];simp) (fun m hm=>by rw[hl]at hm;simp at hm;rcases hm with rfl|rfl|rfl<;>exact hf _ ae) (1,.vars (tuC p c w g)) [(1,.vars (tuC p c w g)),nnQ,nnQ] ⟨_,_,_,rfl⟩ rfl
  (exK [(Exit.exit 0,fun l10 h=>bnd (ixV h 5 (msL l) (.d (.int .i64 0))) fun v11=>bnd (faV 3 v11) fun v12=>bnd (ld1 h v12) fun v13=>out (.tup [szV (f t1),lst di (gtI (f t1) l),I 0]) (.tup [v13,(ge l10 0),(.d (.int .i64 0))]) h)]) l [] [] rfl (Z7 _) ?_
 .rw[show l.length=3 by rw[hl];rfl]at ml;exact lo ml
 simp(disch:=try exact ac)[p3,p4];obtain⟨h',e5,_⟩:=py gtA (L:=(gtI (f t1) l).length) (cells:=(gtI (f t1) l).map di) (h:=[(1,.vars (tuC p c w g)),nnQ,gtN (gtI (f t1) l)]) rfl (by simp[gtA]);have e6:=Jc (f t1) [(1,.vars (tuC p c w g)),nnQ,gtN (gtI (f t1) l)]
 have e7:bg [(1,.vars (tuC p c w g)),nnQ,gtN (gtI (f t1) l)] (gtV (gtI (f t1) l))=some (.d (.sl (gtI (f t1) l).length ((gtI (f t1) l).map di)),h'):=e5;refine⟨h',?_⟩;simp only[bg,aA,e6,e7];rfl
structure EnS where
 lo:Option Q
 hi:Option Q
 em:Bool
variable{x0 x1 x3:Nat×Bk}{e:Nat}
structure Rg where
 lo:List Q
 hi:List Q
 hl:Bool
 hh:Bool
 em:Bool
variable{p:LiQ}{c w:Mz}
variable{l:Int->Nat}{N:Nat}
theorem J6{n:Nat}:∀{m:LLQ},(∀r∈m,r.length=n∧bdR 1000 r)->EX n m=0
 |[],_=>rfl
 | r::m,h=>by
  obtain⟨h1,h2⟩:=h r ae;simp only[EX];rw[if_neg aa,if_pos (V3 h2)];exact J6 fun x hx=>h x (by grind)
theorem TK{p:LiQ}(hp:pcB p=0)(h:∀r∈m,r.length=p.length∧bdR 1000 r):mzB p m=0:=by grind[mzB,J6]
theorem Es(h0:0<n)(h1:n<=most):Ld n most=0:=by unfold Ld;rw[if_neg aa,if_neg aa]
theorem GI{p:LiQ}(hp:pcB p=0):∀{ch:List LLQ},(∀c∈ch,(0<c.length∧c.length<=12)∧∀r∈c,r.length=p.length∧bdR 1000 r)->Ve p ch=0
 |[],_=>rfl
 | c::q,h=>by
  obtain⟨⟨h1,h2⟩,h3⟩:=h c ae;simp only[Ve];rw[if_neg (by grind[Es]),if_neg (by grind[TK])];exact GI hp fun x hx=>h x (by grind)
theorem Gl{n:Nat}{B:Int}{ch:List LLQ}{lk:List (List Lk)}(w:Lz n B ch lk)(hne:∀l∈lk,0<l.length):∀(q d:List (List Lk)),d++q=lk->XN ch d.length q=0
 |[],_,_=>rfl
 | l::q,d,hd=>by
  have hm:l∈lk:=by rw[<-hd];simp
  have hl:nth [] lk d.length=l:=by rw[<-hd,Hy]
  have ok:=w.ok d.length (by grind);rw[hl]at ok;simp only[XN];rw[if_neg (by grind[Es,Lz.ls]),if_pos ok];have:=Gl w hne q (d++[l]) (by grind)
  grind
variable{a:Ad}
theorem tK.dc(G:tK a):dcB a.p a.ch a.lk=0:=by
 have h5:=G.five;have hl:=G.wk.len;unfold dcB;rw[if_neg (by simp[G.hp.1]),if_neg (by simp[Es (n:=a.ch.length) (most:=64) aa aa]),if_neg,if_pos hl]
 .exact Gl G.wk G.lkn a.lk [] rfl
 .simp[GI G.hp.1 (ch:=a.ch) fun c hc=>⟨⟨G.cne c hc,G.wk.cs c hc⟩,fun r hr=>⟨(G.wk.rows c hc r hr).1,Ez (G.wk.rows c hc r hr).2 aa⟩⟩]
theorem tK.qL(G:tK a):qL 30 a.w:=by obtain⟨w1,w2,w3,w4⟩:=G.w0;exact⟨cQ (d:=30) aa af,cQ (d:=30) aa af⟩
end Go.Vm
