/- Lemmas. -/
import Derived.Test.YtgcaaigeilmbaabGreatDoorQWsX
set_option linter.unusedVariables false
set_option linter.unusedSimpArgs false
namespace Go.Vm
open Go Go.Am Go.Big
variable{z w bits:Int}{x c:Q}{n M m i d k L:Nat}{l s:List Q}{lt:List LuQ}{b:Nat×Bk}{p:LiQ}
def wc(z:Int):LdQ:=[.bool (decide (z<0)),.sl (bz z.natAbs) ((dig Z z.natAbs).map i9)]
variable{h:Hp}{a:V}{r:LiQ}
theorem EI{α:Type}(f:α->LdQ){n:Nat}(hf:∀x,(f x).length=n)(x:α):∀(l:List α)(j:Nat),j<l.length->(l.flatMap f).take (j*n)++f x++(l.flatMap f).drop (j*n+n)=(l.set j x).flatMap f
 |[],j,h=>by simp at h
 | y::l,0,h=>by
  simp only[X5,List.take_zero,List.nil_append,Zn,Xa,List.set_cons_zero];rw[Wv (hf y)]
 | y::l,j+1,h=>by
  have ih:=EI f hf x l j (by simpa using h);have e1:(j+1)*n=(f y).length+j*n:=by rw[hf,X3,Yf]
  simp only[Xa,List.set_cons_succ];rw[<-ih,e1,Nat.add_assoc,List.take_length_add_append,List.drop_length_add_append,List.append_assoc,List.append_assoc,List.append_assoc]
def tx(x:Q):Tx:=(itoa x.1,ag x.2)
def szV(s:List Q):V:=gR fi (s.map tx)
theorem N6(h:ndg z.natAbs<=400):rd (itoa z)=some z:=by
 rw[N7,pN,w5];have hl:(ag z.natAbs).length=ndg z.natAbs:=aS _ _;have hc:=vr z.natAbs;have hh:=fo z.natAbs;simp only[qX,Z8,Yu,Xv,decide_eq_false_iff_not]at hc;obtain⟨⟨h1,h2⟩,h3⟩:=hc;have hne:=w6 z.natAbs
 have hcond:¬((ag z.natAbs).headD 0=48∧(1<(ag z.natAbs).length∨decide (z<0)=true)):=by
  rintro⟨g1,g2⟩;have g3:¬1<(ag z.natAbs).length:=fun g=>by rcases h3 with h3|h3<;>contradiction
  rcases g2 with g2|g2
  .exact g3 g2
  .have g4:(ag z.natAbs).length=1:=by have:=k8 z.natAbs;omega
   obtain⟨c,hc⟩:=List.length_eq_one_iff.1 g4;rw[hc]at g1;simp only[List.headD_cons]at g1;subst g1;have:=qE.1 hc;simp only[decide_eq_true_eq]at g2;omega
 rw[if_pos ⟨aa,hne,hcond,h2⟩,hh];by_cases hz:z<0
 .rw[if_pos (decide_eq_true hz)];congr 1;omega
 .rw[if_neg (by simpa using hz)];congr 1;omega
theorem RS(hx:okQ x)(hl:qL 30 x):rdF (tx x).1 (tx x).2=some x:=by
 unfold rdF tx;have h2:=N6 (z:=(x.2:Int)) (by rw[Int.natAbs_natCast];have:=hl.2;omega);rw[iC]at h2;rw[N6 (by have:=hl.1;omega)];simp only[h2];have h0:(0:Int)<x.2:=by have:=hx.1;omega
 rw[if_pos ⟨h0,by rw[Int.natAbs_natCast];exact hx.2⟩,Int.natAbs_natCast]
theorem aai(hl:qL 30 x):sz4 (tx x)=true:=by unfold sz4 md tx;simp only[pN];have h1:(ag x.1.natAbs).length=ndg x.1.natAbs:=aS _ _;have h2:(ag x.2).length=ndg x.2:=aS _ _;rw[h1,h2];have:=hl.1;have:=hl.2;simp;omega
def okS(s:List Q):Prop:=∀x∈s,okQ x∧qL 30 x
theorem HK:∀{s:List Q},okS s->yj (s.map tx)=0
 |[],_=>rfl
 | x::s,h=>by
  obtain⟨h1,h2⟩:=h x af;simp only[Y7,yj];rw[RS h1 h2,aai h2,HK fun y hy=>h y (by simp[hy])];rfl
theorem Ma{K:Nat}(hl:qL K x):(tx x).1.length<=K+1∧(tx x).2.length<=K:=by
 unfold tx itoa;have h1:(ag x.1.natAbs).length=ndg x.1.natAbs:=aS _ _;have h2:(ag x.2).length=ndg x.2:=aS _ _;have:=hl.1;have:=hl.2;simp only;constructor
 .split
  .simp;omega
  .omega
 .omega
def hz(h:Hp)(l:List Tx):Hp:=h++[(1,.data 2 (l.flatMap fi) true false)]
def WN(n:Nat):List Q:=(1,1)::List.replicate (n-1) (0,1)
def smR(r:LiQ):Bool:=r.all fun x=>decide (-1000<=x)&&decide (x<=1000)
def VF(n:Nat):LLQ->Int
 |[]=>0
 |r::m=>if r.length≠n then 5 else if smR r=true then VF n m else 4
def mzB(p:LiQ)(m:LLQ):Int:=if pcB p=0 then VF p.length m else pcB p
def ofQ(r:LiQ):List Q:=r.map fun x=>(x,1)
def adF(k:Q):List Q->List Q->List Q
 |x::o,y::s=>qR x (nW y k)::adF k o s
 |_,_=>[]
def acb:List Q->List (List Q)->List Q->List Q
 |o,s::l,k::f=>acb (adF k o s) l f
 |o,_,_=>o
def szD(s:List Q):D:=.sl (s.map tx).length ((s.map tx).flatMap fi)
@[simp]theorem acJ(s:List Q):norm (szD s)=szD s:=rfl
def Mh(n:Nat)(l:List (List Q))(f:List Q):List Q:=acb (List.replicate n (0,1)) l f
theorem Ew{g:FuncId}{p:Tx->Bool}(l:List Tx)(hp:∀x∈l,CP Y g [.agg [S x.1,S x.2]] (B (p x)))(hN:l.length<1000000)(k:KL):∀(q a:List Tx),a++q=l ->
  (idx p q = -1->k (.exit 0) [] [])->(∀i:Nat,idx p q=i->k .ret [I (a.length+i:Nat)] []) ->
  lp (bX (CX Y) (gR fi l) (.fn g [] []) (I l.length)) [] [] [I a.length] [] k
 | [],a=>by
  intro ha h0 _;simp at ha;subst ha;refine ai ?_;simp[bX];exact h0 rfl
 | x::q,a=>by
  intro ha h0 h1;have hal:a.length<l.length:=by subst ha;simp
  have e3:nth ([],[]) l a.length=x:=by subst ha;simp
  have e1:=m6 fi fT l [] (k:=.i64) (i:=(a.length:Int)) aa aa;have e2:=m5 fi fT ([],[]) l [] hal;rw[e3]at e2;rw[Int.toNat_natCast]at e1;refine ai ?_;simp(disch:=try exact ac)[bX,e1,e2,fi];refine cdf (fs:=[]) (args:=[.agg [S x.1,S x.2]]) (cs:=[]) (hp x (by grind)) rfl ?_;simp
  refine oB (fun h=>?_) (fun h=>?_)<;>try simp(disch:=try exact ac)[h]
  .have e:idx p (x::q)=(0:Nat):=by simp[idx,List.findIdx?_cons,h]
   grind
  .have:=Ew l hp hN k q (a++[x]) (by grind) (fun e=>h0 ?_) (fun i e=>?_)
   .simp_all
   .grind[idx]
   .have:=h1 (i+1) ?_
    .simpa[Nat.add_assoc,Yf 1 i]using this
    grind[idx]
theorem Gd{g:FuncId}{p:Tx->Bool}(l:List Tx)(hN:l.length<1000000)(hp:∀x∈l,CP Y g [.agg [S x.1,S x.2]] (B (p x))):CP Y F.aV [gR fi l,.fn g [] []] (B (l.any p)):=by
 refine lV ?_;simp[aV];refine cd (v:=I (idx p l)) (mO ?_) ?_ ?_
 .have ls':aj (gR fi l)=some (I l.length):=rfl;simp[bB,ls'];refine lo (Ew l hp hN _ l [] rfl (fun e=>?_) (fun i e=>?_))
  .simp[e]
  .simp[e]
 .simp;have:=IC p l;have e:decide (0<=idx p l)=l.any p:=by rw[Ym];simpa using this
  simp_all
 rfl
theorem Hg(hn:n<=4000):CP Y F.ja [I n] (S (ag (2^n))):=by refine zZ ?_;simp[ja];refine cd (PQ hn) ?_;simp;exact⟨_,rfl⟩
def AJ(a b:Q):Int:=if 0<=a.1 then 1 else if b.1<=0 then -1 else 0
theorem HX:0<=sgn z↔0<=z:=by unfold sgn;split<;>first|omega|(split<;>omega)
theorem HW:sgn z<=0↔z<=0:=by unfold sgn;split<;>first|omega|(split<;>omega)
theorem y9:sgn z=0↔z=0:=by unfold sgn;split<;>first|omega|(split<;>omega)
theorem K8(a b:Q):CP Y F.jP [.agg (qT a),.agg (qT b)] (I (AJ a b)):=by
 refine Bi ?_;unfold AJ;simp[jP,qT];refine cd (args:=[.agg (qT a)]) (rR a) ?_ (by rfl);by_cases h:0<=a.1
 .rw[if_pos h];have h':=HX.2 h;simp[h']<;>exact cF rfl
 .rw[if_neg h];have h':¬0<=sgn a.1:=fun e=>h (HX.1 e)
  simp[h'];refine cd (args:=[.agg (qT b)]) (rR b) ?_ (by rfl);by_cases g:b.1<=0
  .rw[if_pos g];have g':=HW.2 g;simp[g']<;>exact cF rfl
  .rw[if_neg g];have g':¬sgn b.1<=0:=fun e=>g (HW.1 e)
   simp[g']<;>exact cF rfl
theorem Qn(a:Q):CP Y F.fp [.agg (qT a)] (B (decide (a.1≠0))):=by refine xY ?_;simp[fp,qT];refine cd (args:=[.agg (qT a)]) (rR a) ?_ (by rfl);simp;exact bL (by simp[y9])
theorem K6(hN:l.length<1000000):CP Y F.lG [szV l] (B (l.all fun a=>decide (a.1=0))):=by
 refine Bh ?_
 have i0:∀z:Int,itoa z=[48]↔z=0:=fun z=>by
  have e:itoa 0=[48]:=b9;exact⟨fun h=>KT (h.trans e.symm),fun h=>by rw[h,e]⟩
 have hc:=Gd (g:=F.fp) (p:=fun x=>!decide (x.1=[48])) (l.map tx) (by simpa using hN) fun x hx=>by
  obtain⟨a,ha,rfl⟩:=X4.1 hx;have:=Qn a
  have e:(!decide ((tx a).1=[48]))=decide (a.1≠0):=by
   simp[tx,i0]
  rw[e];exact this
 simp[lG];refine cd (args:=[szV l,.fn F.fp [] []]) hc ?_ (by simp[av,aP,szV]);simp;refine bL ?_;clear hc hN
 induction l with
 |nil=>rfl
 | cons a l ih=>
  simp only[List.any_cons,List.all_cons,Bool.not_or,Function.comp];rw[show ∀b:Bool,(!!b)=b from Bool.not_not,show(!List.any l _)=_ from ih];simp[tx,i0]
def lgC(x y:D)(M:Nat)(lt:List LuQ):LdQ:=[x,y,.int .i64 M,.sl lt.length (lt.map .str)]
set_option exponentiation.threshold 5000 in
theorem TL{x y:D}{a:Nat}(hi:i<lt.length)(ha:nth [] lt i=ag a)(hn:ndg a<=400)(hm:m<=M)(hM:M<=1000):
  CP Y F.gF [.dptr (lgC x y M lt) 0,I i,I m] (S (ag (a/2^(M-m)))):=by
 refine xZ ?_;have f3:∀h,ld1 h (.dptr (lgC x y M lt) 3)=some (lst D.str lt):=fun _=>rfl
 have f2:∀h,ld1 h (.dptr (lgC x y M lt) 2)=some (I M):=fun _=>rfl
 have i1:∀h:Hp,ixV h 1 (lst D.str lt) (I i)=some (.dptr (lt.map D.str) i):=fun h=>jL D.str _ h rfl hi
 have i2:∀h:Hp,ld1 h (.dptr (lt.map D.str) i)=some (S (ag a)):=fun h=>by rw[lC D.str [] lt h hi,ha]
 have e:(M:Int)-m=((M-m:Nat):Int):=aa
 have n2:ndg (2^(M-m))<=400:=by
  have h1:(2:Nat)^(M-m)<=2^1000:=Z6 ae aa;refine cg (d:=400) ?_ ae;have h2:(2:Nat)^1000<10^400:=by set_option exponentiation.threshold 5000 in decide
  omega
 simp(disch:=try exact ac)[gF,f3,f2,i1,i2,e];refine cd (Hg (n:=M-m) aa) ?_;simp(disch:=try exact ac);refine cd (Jt (Zp _) aa aa) ?_;simp;exact⟨_,rfl⟩
theorem Ju(hz:ndg z.natAbs<1000000)(hw:ndg w.natAbs<1000000):CP Y F.kL [S (itoa z),S (itoa w)] (I (sgn (z-w))):=by
 refine Cf ?_;simp[kL];refine cd (t8 z) ?_;simp;refine cd (t8 w) ?_;by_cases h:sgn z=sgn w
 .have sz:=rW (itoa z);have sw:=rW (itoa w);rw[pN,w5]at sz sw;simp[h];refine cd sz ?_;simp;refine cd sw ?_;simp;by_cases g:z<0
  .have g2:w<0:=by unfold sgn at h;split at h<;>split at h<;>first|omega|(split at h<;>first|omega|(split at h<;>omega))
   have e:Big.cmp w.natAbs z.natAbs=sgn (z-w):=by
    unfold Big.cmp sgn;split<;>split<;>first|omega|(split<;>omega)
   refine aE ?_;simp(disch:=try exact ac)[g];refine cd (xJ hw hz) ?_;exact cF e
  .have g2:¬w<0:=by unfold sgn at h;split at h<;>split at h<;>first|omega|(split at h<;>first|omega|(split at h<;>omega))
   have e:Big.cmp z.natAbs w.natAbs=sgn (z-w):=by
    unfold Big.cmp sgn;split<;>split<;>first|omega|(split<;>omega)
   refine aE ?_;simp(disch:=try exact ac)[g];refine cd (xJ hz hw) ?_;exact cF e
 .simp[h];by_cases g:sgn z<sgn w
  ·have e:(-1:Int)=sgn (z-w):=by
    revert g;unfold sgn
    split<;>split<;>(try split)<;>(try split)<;>(try split)<;>omega
   simp[g];exact cF e
  ·have e:(1:Int)=sgn (z-w):=by
    revert g h;unfold sgn
    split<;>split<;>(try split)<;>(try split)<;>(try split)<;>omega
   simp[g];exact cF e
theorem NQ(h:0<d):sgn (z*d)=sgn z:=by
 have hd:(0:Int)<d:=aa;unfold sgn;by_cases h0:z=0
 .simp[h0]
 ·have h1:¬z*(d:Int)=0:=fun e=>by
   rcases Int.mul_eq_zero.1 e with e|e<;>omega
  rw[if_neg h0,if_neg h1];by_cases h2:z<0
  .rw[if_pos h2,if_pos (Xh h2 hd)]
  .rw[if_neg h2,if_neg (by have:=Wc (show 0<z by omega) hd;omega)]
theorem K3{a b:Q}(ha:okQ a)(hb:okQ b)(la:qL 100000 a)(lb:qL 100000 b):CP Y F.im [.agg (qT a),.agg (qT b)] (I (sgn (a.1*b.2-b.1*a.2))):=by
 refine yF ?_;have b1:=uG a;have b2:=uG b;have la1:=la.1;have la2:=la.2;have lb1:=lb.1;have lb2:=lb.2;have w1:=Ju (z:=a.1) (w:=b.1) aa aa;have m1:=wn (z:=a.1) (w:=(b.2:Int)) aa (by rw[Int.natAbs_natCast];omega);have m2:=wn (z:=b.1) (w:=(a.2:Int)) aa (by rw[Int.natAbs_natCast];omega);rw[iC]at m1 m2
 have big:∀(z:Int)(n:Nat),ndg z.natAbs<=100000->ndg n<=100000->ndg (z*n).natAbs<1000000:=fun z n h1 h2=>by
  have h3:=Y6 (ci z.natAbs) (ci n);rw[<-Zr]at h3;have e:(z*(n:Int)).natAbs=z.natAbs*n:=by rw[Y3,Int.natAbs_natCast]
  rw[<-e]at h3;have h4:=cg (d:=ndg z.natAbs+ndg n+1) (Z3 h3 (Z6 ae aa)) aa;omega
 have w2:=Ju (z:=a.1*b.2) (w:=b.1*a.2) (big _ _ la1 lb2) (big _ _ lb1 la2);simp[im,qT];refine cd (args:=[.agg (qT a)]) b1 ?_ (by rfl);by_cases h1:sdg a.1<=9∧ndg a.2<=9
 .simp[h1.1,h1.2];refine aE ?_;simp;refine cd (args:=[.agg (qT b)]) b2 ?_ (by rfl);by_cases h2:sdg b.1<=9∧ndg b.2<=9
  ·have sm:∀(z:Int)(n:Nat),sdg z<=9->ndg n<=9->(z*n).natAbs<10^18:=fun z n h1 h2=>by
    have h3:=Y6 (uV h1) (Z3 (ci n) (Z6 ae h2));rw[Y3,Int.natAbs_natCast];exact Z3 h3 ae
   have s1:=sm a.1 b.2 h1.1 h2.2;have s2:=sm b.1 a.2 h2.1 h1.2;simp[h2.1,h2.2];generalize a.1*(b.2:Int)=x at *;generalize b.1*(a.2:Int)=y at *;have wx:IntKind.wrap .i64 x=x:=wrap_i64 ⟨aa,aa⟩;have wy:IntKind.wrap .i64 y=y:=wrap_i64 ⟨aa,aa⟩;rw[wx,wy];refine oB (fun g=>?_) (fun g=>?_)
   .exact cF (by unfold sgn;rw[if_neg aa,if_pos aa])
   .simp[wx,wy];refine oB (fun g2=>?_) (fun g2=>?_)
    .exact cF (by unfold sgn;rw[if_neg aa,if_neg aa])
    .exact cF (by unfold sgn;rw[if_pos aa])
  .have h2':(decide (sdg b.1<=9)&&decide (ndg b.2<=9))=false:=by grind
   simp[h2',-Bool.decide_and];by_cases e:a.2=b.2
   .have es:sgn (a.1*b.2-b.1*a.2)=sgn (a.1-b.1):=by rw[e,<-Int.sub_mul,NQ hb.1]
    have e2:ag a.2=ag b.2:=by rw[e]
    simp(disch:=try exact ac)[e2];refine cd w1 ?_;exact cF es.symm
   .have e2:¬ag a.2=ag b.2:=fun h=>e (nZ h)
    simp(disch:=try exact ac)[e2];refine cd m1 ?_;simp(disch:=try exact ac);refine cd m2 ?_;simp(disch:=try exact ac);refine cd w2 ?_;exact cF rfl
 .have h1':(decide (sdg a.1<=9)&&decide (ndg a.2<=9))=false:=by grind
  .simp[h1',-Bool.decide_and];refine aE ?_;simp;by_cases e:a.2=b.2
   .have es:sgn (a.1*b.2-b.1*a.2)=sgn (a.1-b.1):=by rw[e,<-Int.sub_mul,NQ hb.1]
    have e2:ag a.2=ag b.2:=by rw[e]
    simp(disch:=try exact ac)[e2];refine cd w1 ?_;exact cF es.symm
   .have e2:¬ag a.2=ag b.2:=fun h=>e (nZ h)
    simp(disch:=try exact ac)[e2];refine cd m1 ?_;simp(disch:=try exact ac);refine cd m2 ?_;simp(disch:=try exact ac);refine cd w2 ?_;exact cF rfl
theorem Re:sgn z<0↔z<0:=by unfold sgn;split<;>first|omega|(split<;>omega)
theorem Mo:0<sgn z↔0<z:=by unfold sgn;split<;>first|omega|(split<;>omega)
theorem Tr{a b:Q}(ha:okQ a)(hb:okQ b)(la:qL 100000 a)(lb:qL 100000 b):CP Y F.od [.agg (qT a),.agg (qT b)] (.agg (qT (if b.1*a.2-a.1*b.2<0 then b else a))):=by
 refine EC ?_;simp[od,qT];refine cd (args:=[.agg (qT b),.agg (qT a)]) (K3 hb ha lb la) ?_ (by rfl);by_cases g:b.1*a.2-a.1*b.2<0
 .rw[if_pos g];have g2:=Re.2 g;simp[g2];exact⟨_,rfl⟩
 .rw[if_neg g];have g2:¬sgn (b.1*a.2-a.1*b.2)<0:=fun h=>g (Re.1 h)
  simp[g2];exact⟨_,rfl⟩
theorem Tt{a b:Q}(ha:okQ a)(hb:okQ b)(la:qL 100000 a)(lb:qL 100000 b):CP Y F.oe [.agg (qT a),.agg (qT b)] (.agg (qT (if 0<b.1*a.2-a.1*b.2 then b else a))):=by
 refine ED ?_;simp[oe,qT];refine cd (args:=[.agg (qT b),.agg (qT a)]) (K3 hb ha lb la) ?_ (by rfl);by_cases g:0<b.1*a.2-a.1*b.2
 .rw[if_pos g];have g2:=Mo.2 g;simp[g2];exact⟨_,rfl⟩
 .rw[if_neg g];have g2:¬0<sgn (b.1*a.2-a.1*b.2):=fun h=>g (Mo.1 h)
  simp[g2];exact⟨_,rfl⟩
theorem Lh(a b:Q):CP Y F.cS [.agg (qT a),.agg (qT b)] (B (decide (AJ a b≠0))):=by refine vS ?_;simp[cS,qT];refine cd (args:=[.agg (qT a),.agg (qT b)]) (K8 a b) ?_ (by rfl);simp
theorem Tg{k:LwQ->Hp->Prop}{T:(LwQ->Hp->Prop)->Prop}{u:PU k}{w:PU T}{l:LwQ}{P:Hp->Prop}(hT:∀q:LwQ->Hp->Prop,(∀h,P h->q l h)->T q)(hk:∀h,P h->k l h):jo k T u w:=hT k hk
def Ch(a b:Q):Q:=if b.1*a.2-a.1*b.2<0 then b else a
def Ci(a b:Q):Q:=if 0<b.1*a.2-a.1*b.2 then b else a
def yA(p:Int)(a k:Nat)(c:Q):Q:=if p=2 then c else nW c (dV a (2^k))
def yB(p:Int)(a k:Nat)(c:Q):Q:=if p=2 then c else nW c (dV (a+1:Nat) (2^k))
def w9(p:LiQ)(A:Nat->Nat)(k:Nat):Nat->List Q->Q×Q->Q×Q
 |_,[],e=>e
 | i,c::q,e=>if c.1=0 then w9 p A k (i+1) q e else
  w9 p A k (i+1) q (qR e.1 (Ch (yA (nth 0 p i) (A i) k c) (yB (nth 0 p i) (A i) k c)),qR e.2 (Ci (yA (nth 0 p i) (A i) k c) (yB (nth 0 p i) (A i) k c)))
theorem Vd(a b:Q):Ch a b=a∨Ch a b=b:=by unfold Ch;split<;>simp
theorem Ve(a b:Q):Ci a b=a∨Ci a b=b:=by unfold Ci;split<;>simp
abbrev sV(s:List Q):D:=.sl (s.map tx).length ((s.map tx).flatMap fi)
abbrev sY(p:LiQ):D:=.sl p.length (p.map di)
abbrev enH(lo hi:Q):Hp:=[(1,.vars (qT lo)),(1,.vars (qT hi)),nnQ,nnQ,nnQ,nnQ,nnQ]
def okR(x:Q)(K:Nat):Prop:=okQ x∧qL K x
theorem CS{K:Nat}(hc:okR c K)(hx:okR x L):okR (nW c x) (K+L):=⟨Vb hc.1 hx.1,aas hc.2 hx.2⟩
theorem CU{K:Nat}(hc:okR c K)(hx:okR x L):okR (qR c x) (K+L+1):=⟨Vf hc.1 hx.1,aat hc.2 hx.2⟩
theorem lm{K:Nat}(hc:okR c K)(h:K<=L):okR c L:=⟨hc.1,hc.2.mono h⟩
theorem Vv{a b:Q}{K:Nat}(ha:okR a K)(hb:okR b K):okR (Ch a b) K:=by rcases Vd a b with e|e<;>rw[e]<;>assumption
theorem Vw{a b:Q}{K:Nat}(ha:okR a K)(hb:okR b K):okR (Ci a b) K:=by rcases Ve a b with e|e<;>rw[e]<;>assumption
set_option exponentiation.threshold 5000 in
theorem Ef(hm:m<=1000):ndg (2^m)<=302:=by
 have h1:(2:Nat)^m<=2^1000:=Z6 ae hm;refine cg (d:=302) ?_ ae;have h2:(2:Nat)^1000<10^302:=by set_option exponentiation.threshold 5000 in decide
 omega
theorem AX{a:Nat}(ha:ndg a<=401)(hm:m<=1000):okR (dV (a:Int) (2^m)) 401:=
 ⟨Ip _ (Zp m),MP (by rw[Int.natAbs_natCast];exact ha) (Zs (Ef hm) ae)⟩
set_option exponentiation.threshold 5000 in
theorem Ku{a:Nat}(ha:ndg a<=400):ndg (a+1)<=401:=by refine cg (d:=401) ?_ ae;have h1:=ci a;have h2:(10:Nat)^ndg a<=10^400:=Z6 ae ha;have h3:(10:Nat)^401=10^400*10:=Nat.pow_succ ..;omega
theorem aaO{p:Int}{a:Nat}(hc:okR c 30)(ha:ndg a<=400)(hk:k<=1000):okR (yA p a k c) 431:=by
 unfold yA;split
 .exact lm hc ae
 .exact CS hc (AX aa hk)
theorem aaP{p:Int}{a:Nat}(hc:okR c 30)(ha:ndg a<=400)(hk:k<=1000):okR (yB p a k c) 431:=by
 unfold yB;split
 .exact lm hc ae
 .exact CS hc (AX (Ku ha) hk)
set_option exponentiation.threshold 5000 in
theorem ER{p:LiQ}{s:List Q}{A:Nat->Nat}{M m:Nat}{lt:List LuQ}(hs:okS s)(hsl:s.length<=8)(hp:p.length=s.length)(hlt:lt.length=s.length)(hm:m<=M)(hM:M<=1000)
  (hA:∀i,i<s.length->(nth (0,1) s i).1≠0->nth 0 p i≠2->nth [] lt i=ag (A i)) (hA4:∀i,i<s.length->ndg (A i)<=400) (K:KL) (h0:Hp) (hh:h0=enH (0,1) (0,1)):∀(q a:List Q)(e:Q×Q),a++q=s->okR e.1 (432*a.length+1)->okR e.2 (432*a.length+1) ->
  (∀r,r=w9 p (fun i=>A i/2^(M-m)) m a.length q e->K (.exit 0) [] (enH r.1 r.2)) ->
  lp (gE (CX Y) (.dptr (lgC (sY p) (sV s) M lt) 0) (I m) (.ptr 0 1 0 2) (.ptr 1 1 0 2) (S (ag (2^m))) (szV s) (I s.length)) [2,3,4,5,6] h0 [I a.length] (enH e.1 e.2) K
 | [],a,e,ha,r1,r2,hK=>by
  have ea:a=s:=by simpa using ha
  subst ea;refine ai ?_;simp(disch:=try exact ac)[gE];exact hK _ rfl
 | c::q,a,e,ha,r1,r2,hK=>by
  have hal:s.length=a.length+(q.length+1):=by rw[<-ha];simp
  have hc:nth (0,1) s a.length=c:=by rw[<-ha,mf]
  have hcs:=hs c (by rw[<-ha];simp);have rc:okR c 30:=hcs;have ih:=ER hs hsl hp hlt hm hM hA hA4 K h0 hh q (a++[c]);have hAa:=hA a.length aa;rw[hc]at hAa
  have e1:∀h:Hp,ixV h 2 (szV s) (I a.length)=some (.dptr ((s.map tx).flatMap fi) (a.length*2)):=fun h=>by
   have:=m6 fi fT (s.map tx) h (k:=.i64) (i:=(a.length:Int)) aa ak;simpa[szV]using this
  have e2:∀h:Hp,ldA h 2 (.dptr ((s.map tx).flatMap fi) (a.length*2))=some (.agg (qT c)):=fun h=>by
   rw[m5 fi fT ([],[]) (s.map tx) h ak];have:nth ([],[]) (s.map tx) a.length=tx c:=by rw[<-ha];simp[nth]
   rw[this];rfl
  have sg:=rR c;have g:(a.length:Int)<s.length:=aa;have e5:((a++[c]).length:Int)=(a.length:Int)+1:=af;simp only[w9]at hK;refine ai ?_;subst hh;by_cases hz:c.1=0
  .rw[if_pos hz]at hK;have ih:=ih e (by simpa using ha) (lm r1 ak) (lm r2 ak) (by simpa using hK);have sz:=y9.2 hz;rw[sz]at sg;simp(disch:=try exact ac)[gE,e1,e2,qT];refine aE ?_;simp(disch:=try exact ac)[e1,e2,qT];refine cd (args:=[.agg (qT c)]) sg ?_ (by rfl)
   simp(disch:=try exact ac)[clean,iN,jf,fU,oJ,nY,offB,ew,iM,gN,dP,beq_lit];rw[e5]at ih;exact ih
  .rw[if_neg hz]at hK;have sz:¬sgn c.1=0:=fun e=>hz (y9.1 e)
   obtain⟨a2,ha2⟩:=nmQ (A a.length/2^(M-m))
   have na2:ndg a2<=400:=by
    have h1:=ci (A a.length);have h2:(10:Nat)^ndg (A a.length)<=10^400:=Z6 ae (hA4 _ aa);refine cg (d:=400) ?_ ae;rw[ha2];have:=Y5 (A a.length) (2^(M-m));omega
   obtain⟨pi,hpi⟩:=nmQ (nth 0 p a.length);have rl:=aaO (p:=pi) rc na2 (Zs hm hM);have rh:=aaP (p:=pi) rc na2 (Zs hm hM);obtain⟨x,hx⟩:=nmQ (yA pi a2 m c);obtain⟨y,hy⟩:=nmQ (yB pi a2 m c);rw[<-hx]at rl;rw[<-hy]at rh;have hnn:=Vv rl rh;have hmm:=Vw rl rh;have big:432*a.length+1<=100000:=aa
   have f1m:=Tr rl.1 rh.1 (rl.2.mono ae) (rh.2.mono ae);have f2:=Tt rl.1 rh.1 (rl.2.mono ae) (rh.2.mono ae);rw[show(if y.1*x.2-x.1*y.2<0 then y else x)=Ch x y from rfl]at f1m;rw[show(if 0<y.1*x.2-x.1*y.2 then y else x)=Ci x y from rfl]at f2;have f3:=K4 r1.1 hnn.1 (r1.2.mono big) (hnn.2.mono ae)
   have f4:=K4 r2.1 hmm.1 (r2.2.mono big) (hmm.2.mono ae);simp only[<-ha2,<-hpi,<-hx,<-hy]at hK;have ih:=ih (qR e.1 (Ch x y),qR e.2 (Ci x y)) (by simpa using ha) (lm (CU r1 hnn) ak) (lm (CU r2 hmm) ak) (by simpa using hK)
   have i1:∀H:Hp,ixV H 1 (lst di p) (I a.length)=some (.dptr (p.map di) a.length):=fun H=>jL di _ H rfl aa
   have i2:∀H:Hp,ld1 H (.dptr (p.map di) a.length)=some (I pi):=fun H=>by rw[lC di 0 p H aa,<-hpi];rfl
   have f1:∀h,ld1 h (.dptr (lgC (sY p) (sV s) M lt) 0)=some (lst di p):=fun _=>rfl
   simp(disch:=try exact ac)[gE,e1,e2,qT];refine aE ?_;simp(disch:=try exact ac)[e1,e2,qT];refine cd (args:=[.agg (qT c)]) sg ?_ (by rfl);simp(disch:=try exact ac)[sz];refine Q4 (by rfl) ?_;simp(disch:=try exact ac)[f1,i1,i2]
   refine Tg (l:=[]) (P:=fun h=>∃s5 s6,h=[(1,.vars (qT e.1)),(1,.vars (qT e.2)),(1,.vars (qT c)),(1,.vars (qT x)),(1,.vars (qT y)),s5,s6]) (fun q hq=>?_) (fun h ⟨s5,s6,eh⟩=>?_)
   .by_cases h2:pi=2
    .have hx:x=c:=by rw[hx];unfold yA;rw[if_pos h2]
     have hy:y=c:=by rw[hy];unfold yB;rw[if_pos h2]
     simp(disch:=try exact ac)[h2];refine hq _ ⟨nnQ,nnQ,?_⟩;rw[hx,hy];rfl
    .have hlt:=hA a.length aa (by rw[hc];exact hz) (by rw[<-hpi];exact h2);have at_:=TL (x:=sY p) (y:=sV s) (M:=M) (m:=m) (i:=a.length) (a:=A a.length) (lt:=lt) aa hlt (hA4 _ aa) hm hM;rw[<-ha2]at at_;simp(disch:=try exact ac)[h2];have n2:=Ef (Zs hm hM);have n3:=Ku na2
     have nw1:=K0 (n:=(a2:Int)) (d:=((2^m:Nat):Int)) (by have:=Zp m;omega) (by rw[Int.natAbs_natCast];omega) (by rw[Int.natAbs_natCast];omega);have nw2:=K0 (n:=((a2+1:Nat):Int)) (d:=((2^m:Nat):Int)) (by have:=Zp m;omega) (by rw[Int.natAbs_natCast];omega) (by rw[Int.natAbs_natCast];omega)
     rw[iC,iC,Eg (Zp m)]at nw1 nw2;have n1:ndg 1<=1:=cg ae ae;have ad:=Dr (a:=a2) (b:=1) aa aa;rw[show ag 1=[49] by decide+kernel]at ad;have q1:=AX (a:=a2) (m:=m) aa (Zs hm hM);have q2:=AX (a:=a2+1) (m:=m) n3 (Zs hm hM)
     have m1:=K2 rc.1 q1.1 (rc.2.mono ae) (q1.2.mono ae);have m2:=K2 rc.1 q2.1 (rc.2.mono ae) (q2.2.mono ae);have hx:x=nW c (dV (a2:Int) (2^m)):=by rw[hx];unfold yA;rw[if_neg h2]
     have hy:y=nW c (dV ((a2+1:Nat):Int) (2^m)):=by rw[hy];unfold yB;rw[if_neg h2]
     rw[<-hx]at m1;rw[<-hy]at m2;obtain⟨u1,hu1⟩:∃u1,u1=dV (a2:Int) (2^m):=⟨_,rfl⟩;obtain⟨u2,hu2⟩:∃u2,u2=dV ((a2+1:Nat):Int) (2^m):=⟨_,rfl⟩;rw[<-hu1]at m1 nw1;rw[<-hu2]at m2 nw2;refine cd at_ ?_;simp(disch:=try exact ac);refine cd nw1 ?_;simp(disch:=try exact ac)[qT];refine cd ad ?_;simp(disch:=try exact ac)
     refine cd nw2 ?_;simp(disch:=try exact ac)[qT];refine cd (args:=[.agg (qT c),.agg (qT u1)]) m1 ?_ (by rfl);simp(disch:=try exact ac)[qT];refine cd (args:=[.agg (qT c),.agg (qT u2)]) m2 ?_ (by rfl);simp(disch:=try exact ac)[qT];exact hq _ ⟨_,_,rfl⟩
   .subst eh;simp(disch:=try exact ac)[qT];refine cd (args:=[.agg (qT x),.agg (qT y)]) f1m ?_ (by rfl);simp(disch:=try exact ac)[qT];refine cd (args:=[.agg (qT e.1),.agg (qT (Ch x y))]) f3 ?_ (by rfl);simp(disch:=try exact ac)[qT];refine cd (args:=[.agg (qT x),.agg (qT y)]) f2 ?_ (by rfl);simp(disch:=try exact ac)[qT]
    refine cd (args:=[.agg (qT e.2),.agg (qT (Ci x y))]) f4 ?_ (by rfl);simp(disch:=try exact ac)[qT,clean,iN,jf,fU,oJ,nY,offB,ew,iM,gN,dP,beq_lit];rw[e5]at ih;exact ih
def qa(p:Int)(M:Nat):Nat:=if p=2 then 2^M else(EP p.toNat M).getD 0
theorem pA(h:jm M):M<=1000:=by unfold jm at h;omega
set_option exponentiation.threshold 5000 in
theorem xa(A:kY){p:Int}(hp:bw p=true)(hM:jm M):CP Y F.fC [I p,I M] (S (ag (qa p M)))∧ndg (qa p M)<=400:=by
 have hM0:=pA hM;have p2:=(nX hp).1;obtain⟨n,rfl⟩:∃n:Nat,p=n:=⟨p.toNat,aa⟩;unfold qa;by_cases h2:(n:Int)=2
 .rw[if_pos h2];obtain rfl:n=2:=aa;exact⟨Ld hM0,Zs (Ef hM0) ae⟩
 .rw[if_neg h2,Int.toNat_natCast];have h2':n≠2:=aa;obtain⟨a,b,ha,_,_⟩:=Hh hp h2' hM (Yk _) ae;rw[ha];unfold EP at ha;obtain⟨l,hl,he⟩:=Z2.1 ha;obtain⟨k,hk,eb,k1,k6,_⟩:=C1 hp;have hlen:=ut _ _ _ _ _ hl;refine⟨by rw[<-he];exact Le A hp h2' hM0 hl,?_⟩
  show ndg a<=400
  rw[<-he,uI,eb,hlen];have h1:=An l;rw[hlen]at h1
  have h3:k*2^M+oN 0 l<=7*2^M:=by
   have:=Zx (2^M) k6;omega
  have h4:(2:Nat)^M<=2^1000:=Z6 ae hM0;refine cg (d:=400) ?_ ae;have h5:7*(2:Nat)^1000<10^400:=by set_option exponentiation.threshold 5000 in decide
  omega
theorem VL{p:Int}(hp:bw p=true)(hM:jm M)(hm:m<=M)(hm2:m<=64):wX p.toNat m 160=some (qa p M/2^(M-m)):=by
 have p2:=(nX hp).1;obtain⟨n,rfl⟩:∃n:Nat,p=n:=⟨p.toNat,aa⟩;unfold qa;rw[Int.toNat_natCast];by_cases h2:(n:Int)=2
 .rw[if_pos h2];obtain rfl:n=2:=aa;rw[Nat.pow_div aa ae,show M-(M-m)=m by omega];exact Ir ⟨m,aa⟩
 .rw[if_neg h2];obtain⟨a,b,ha,hb,e⟩:=Hh hp aa hM hm hm2;rw[ha,hb,<-e];rfl
def j5(M:Nat):LiQ->List Q->List LuQ
 |p::ps,c::cs=>(if c.1=0 then[]else ag (qa p M))::j5 M ps cs
 |_,_=>[]
theorem ui(M:Nat):∀{p:LiQ}{s:List Q},p.length=s.length->(j5 M p s).length=s.length
 |[],[],_=>rfl
 |_::p,_::s,h=>by simp only[j5,List.length_cons];rw[ui M (by simpa using h)]
theorem AY(M:Nat):∀{p:LiQ}{s:List Q}{i:Nat},p.length=s.length->i<s.length->(nth (0,1) s i).1≠0->nth [] (j5 M p s) i=ag (qa (nth 0 p i) M)
 | [],s,i,h,hi,_=>by
  have:s.length=0:=h.symm;omega
 | _::p,c::s,0,_,_,hc=>by
  have:¬c.1=0:=hc;simp[j5,nth,this]
 | _::p,_::s,i+1,h,hi,hc=>by
  have:=AY M (p:=p) (s:=s) (i:=i) (by simpa using h) (by simpa using hi) (by simpa[nth]using hc);simpa[j5,nth]using this
theorem GV(M:Nat):∀{p:LiQ}{s:List Q}(q:LiQ)(t:List Q),p.length=s.length->j5 M (p++q) (s++t)=j5 M p s++j5 M q t
 |[],[],q,t,_=>rfl
 |_::p,_::s,q,t,h=>by simp only[List.cons_append,j5];rw[GV M q t (by simpa using h)]
abbrev opH(a b:Nat×Bk)(x y:D)(M n:Nat)(lt:List LuQ):Hp:=[a,b,(1,.data 1 (lt.map .str) true false),(1,.vars [.d x,.d y,I M,.ref 2 1 0 n n n])]
theorem acD{a:Nat×Bk}{x y:D}(l1 l2:List LuQ)(u t:LuQ)(hn:l1.length+(l2.length+1)=n):st (opH a b x y M n (l1++u::l2)) 1 (.ptr 2 1 l1.length n) (S t)=some (opH a b x y M n (l1++t::l2)):=by subst hn;simp[st,sto,aH,hO,toD,norm,cK,opH];rw[List.drop_append];simp
theorem acE{a:Nat×Bk}{x y:D}(hl:lt.length=n)(hi:i<n):ixV (opH a b x y M n lt) 1 (.ref 2 1 0 n n n) (I i)=some (.ptr 2 1 i n):=by have:(i:Int)<n:=aa;simp[ixV,aH,opH,hl,this]
theorem GQ(A:kY){a b:Nat×Bk}{p:LiQ}{s:List Q}{M:Nat}(hM:jm M)(hp:∀x∈p,bw x=true)(hs:okS s)(hps:p.length=s.length)(hN:s.length<=8)(K:KL)(h0:Hp)(hh:h0.length=4) :
  ∀(q:List Q)(r:LiQ)(cs:List Q)(ps:LiQ),cs++q=s->ps++r=p->ps.length=cs.length ->
  K (.exit 0) [] (opH a b (sY p) (sV s) M p.length (j5 M p s)) ->
  lp (kC (CX Y) 2 (szV s) (I M) (.ptr 3 1 0 4) (lst di p) (I p.length)) [] h0 [I cs.length] (opH a b (sY p) (sV s) M p.length (j5 M ps cs++List.replicate q.length [])) K
 | [],r,cs,ps,hc,hr,hl,hK=>by
  have e:cs=s:=by simpa using hc
  subst e
  have e2:r=[]:=by
   have:=congrArg List.length hr;simp at this;exact Yv.1 aa
  subst e2;have e3:ps=p:=by simpa using hr
  subst e3;refine ai ?_;rw[hl];simp(disch:=try exact ac)[kC];simpa[hl]using hK
 | c::q,[],cs,ps,hc,hr,hl,hK=>by
  exfalso;have h1:=congrArg List.length hc;have h2:=congrArg List.length hr;simp at h1 h2;omega
 | c::q,x::r,cs,ps,hc,hr,hl,hK=>by
  have hal:s.length=cs.length+(q.length+1):=by rw[<-hc];simp
  have ih:=GQ A (a:=a) (b:=b) hM hp hs hps hN K h0 hh q r (cs++[c]) (ps++[x]) (by simpa using hc) (by simpa using hr) (by simp[hl]) hK;rw[GV M [x] [c] hl]at ih;obtain⟨lw,_⟩:=xa A (hp x (by rw[<-hr];simp)) hM
  have e1:∀h:Hp,ixV h 2 (szV s) (I cs.length)=some (.dptr ((s.map tx).flatMap fi) (cs.length*2)):=fun h=>by
   have:=m6 fi fT (s.map tx) h (k:=.i64) (i:=(cs.length:Int)) aa ak;simpa[szV]using this
  have e2:∀h:Hp,ldA h 2 (.dptr ((s.map tx).flatMap fi) (cs.length*2))=some (.agg (qT c)):=fun h=>by
   rw[m5 fi fT ([],[]) (s.map tx) h ak];have:nth ([],[]) (s.map tx) cs.length=tx c:=by rw[<-hc];simp[nth]
   rw[this];rfl
  have i1:∀H:Hp,ixV H 1 (lst di p) (I cs.length)=some (.dptr (p.map di) cs.length):=fun H=>jL di _ H rfl aa
  have i2:∀H:Hp,ld1 H (.dptr (p.map di) cs.length)=some (I x):=fun H=>by rw[lC di 0 p H aa,<-hr,<-hl,mf];rfl
  have sg:=rR c;have g:(cs.length:Int)<p.length:=aa;have ll:(j5 M ps cs).length=cs.length:=ui M hl
  have o1:∀t,st (opH a b (sY p) (sV s) M p.length (j5 M ps cs++[]::List.replicate q.length [])) 1 (.ptr 2 1 cs.length p.length) (S t)=some (opH a b (sY p) (sV s) M p.length (j5 M ps cs++t::List.replicate q.length [])):=fun t=>by
   have:=acD (a:=a) (b:=b) (x:=sY p) (y:=sV s) (M:=M) (n:=p.length) (j5 M ps cs) (List.replicate q.length []) [] t (by simp[ll];omega)
   rwa [ll]at this
  have o2:=acE (a:=a) (b:=b) (x:=sY p) (y:=sV s) (M:=M) (n:=p.length) (i:=cs.length) (lt:=j5 M ps cs++[]::List.replicate q.length []) (by simp[ll];omega) aa;have er:List.replicate (c::q).length ([]:LuQ)=[]::List.replicate q.length []:=rfl;rw[er];simp only[List.append_assoc,List.cons_append,List.nil_append,j5,Zo,List.length_singleton]at ih
  have e5:((cs.length+1:Nat):Int)=(cs.length:Int)+1:=af;rw[e5]at ih;refine ai ?_;have hre:∀LT,bm [] 0 h0 (opH a b (sY p) (sV s) M p.length LT)=opH a b (sY p) (sV s) M p.length LT:=fun LT=>iV 0 _ _ (by simp[hh])
  by_cases hz:c.1=0
  .rw[if_pos hz]at ih;have sz:=y9.2 hz;rw[sz]at sg;generalize j5 M ps cs++[]::List.replicate q.length []=LT at *;simp(disch:=try exact ac)[kC,g,i1,i2,e1,e2];refine aE ?_;simp(disch:=try exact ac)[i1,i2,e1,e2];refine cd (args:=[.agg (qT c)]) sg ?_ (by rfl);simp(disch:=try exact ac);refine aE ?_
   simp(disch:=try exact ac)[hre];exact ih
  .rw[if_neg hz]at ih;have sz:¬sgn c.1=0:=fun e=>hz (y9.1 e)
   have o1:=o1 (ag (qa x M));have hf3:ld1 (opH a b (sY p) (sV s) M p.length (j5 M ps cs++[]::List.replicate q.length [])) (.ptr 3 1 3 4)=some (.ref 2 1 0 p.length p.length p.length):=rfl;obtain⟨H2,h2⟩:∃H2,H2=opH a b (sY p) (sV s) M p.length (j5 M ps cs++ag (qa x M)::List.replicate q.length []):=⟨_,rfl⟩;have hre2:bm [] 0 h0 H2=H2:=by rw[h2];exact hre _
   rw[<-h2]at o1 ih;generalize opH a b (sY p) (sV s) M p.length (j5 M ps cs++[]::List.replicate q.length [])=H1 at *;simp(disch:=try exact ac)[kC,g,i1,i2,e1,e2];refine aE ?_;simp(disch:=try exact ac)[i1,i2,e1,e2];refine cd (args:=[.agg (qT c)]) sg ?_ (by rfl);simp(disch:=try exact ac)[sz];refine aE ?_
   simp(disch:=try exact ac)[hf3];refine cd lw ?_;simp(disch:=try exact ac)[o2,o1,hre2];exact ih
abbrev lgR(p:LiQ)(s:List Q)(M:Nat):LdQ:=lgC (sY p) (sV s) M (j5 M p s)
theorem TA(s:List Q)(place:Nat->Option (Nat×Nat))(cs:LwQ)(r:List (Nat×V))(off sz:Nat):
  w8 (some (off,sz)) place cs (szV s) r=if 1=sz∧off+1<=cs.length then sG place (cs.take off++[szV s]++cs.drop (off+1)) r else none:=id rfl
theorem La(A:kY){a:Nat×Bk}(hp:∀x∈p,bw x=true)(hs:okS s)(hps:p.length=s.length)(hN:s.length<=8)(hM:jm M)(ha:aT 2 a.2=true)(hb:aT 2 b.2=true):
  CI Y F.iE [lst di p,szV s,I M] [a,b] (.tup [.new 1 (lgR p s M) true 0 0]) [a,b]:=by
 refine Bl ?_;have ll:=ui M hps
 have fin:pK 2 (.tup [.new 1 (lgR p s M) true 0 0]) [a,b] (.ptr 3 1 0 4) (opH a b (sY p) (sV s) M p.length (j5 M p s)):=by
  refine ⟨rfl,by simp[ha,hb],.inr (.inr (.inr (.inr (.inr ⟨3,1,[.d (sY p),.d (sV s),I M,.ref 2 1 0 p.length p.length p.length],lgR p s M,
   [a,b,(1,.data 1 ((j5 M p s).map .str) true true),(1,.vars [.d (sY p),.d (sV s),I M,.ref 2 1 0 p.length p.length p.length])],ae,rfl,?_,rfl,rfl,.inl ⟨rfl,rfl⟩⟩))))⟩
  have ht:((j5 M p s).map D.str).take s.length=(j5 M p s).map D.str:=Z0 (by simp[ll]);simp[hO,toD,aH,ht,cK,ll,hps,norm,lgC]
 have e0:[a,b,(1,Bk.data 1 (List.replicate p.length (D.str [])) true false),(1,.vars [.d (sY p),.d (sV s),I M,.ref 2 1 0 p.length p.length p.length])]=opH a b (sY p) (sV s) M p.length (j5 M [] []++List.replicate s.length []):=by
  simp[opH,j5,hps]
 have hl:aj (lst di p)=some (I p.length):=rfl;simp(disch:=try exact ac)[iE,hl,TA];rw[show lst di p=.d (sY p)from rfl,show szV s=.d (sV s)from rfl,e0];refine lo (GQ A hM hp hs hps hN _ _ rfl s p [] [] rfl rfl rfl ?_);simp(disch:=try exact ac);exact fin
def jg(p:LiQ)(s:List Q)(M n:Nat):Q×Q:=w9 p (fun i=>qa (nth 0 p i) M/2^(M-n)) n 0 s ((0,1),(0,1))
def tX(p:LiQ)(s:List Q)(M n:Nat):Bool:=decide (AJ (jg p s M n).1 (jg p s M n).2≠0)
theorem EQ(A:kY)(hp:∀x∈p,bw x=true)(hs:okS s)(hps:p.length=s.length)(hN:s.length<=8)(hM:jm M)(hn:n<=M):
  CP Y F.dM [.dptr (lgR p s M) 0,I n] (.tup [.agg (qT (jg p s M n).1),.agg (qT (jg p s M n).2)]):=by
 refine vR ?_;have M0:=pA hM;have hpr:∀i,i<s.length->bw (nth 0 p i)=true:=fun i hi=>hp _ (iO aa)
 have pw:=Hg (n:=n) aa;have f1:∀h:Hp,ld1 h (.dptr (lgR p s M) 1)=some (szV s):=fun h=>rfl
 have r0:okR (0,1) (432*0+1):=⟨⟨ae,ae⟩,cg ae ae,cg ae ae⟩;have hl:aj (szV s)=some (I s.length):=by simp[szV,gR,aj]
 have q0:qT (0,1)=[S [48],S [49]]:=by
  show[S (itoa 0),S (ag 1)]=_
  rw[show itoa 0=[48] by decide+kernel,show ag 1=[49] by decide+kernel]
 have loop:=fun K hK=>ER (A:=fun i=>qa (nth 0 p i) M) hs hN hps (ui M hps) hn M0 (fun i hi hc _=>AY M hps hi hc) (fun i hi=>(xa A (hpr i hi) hM).2) K _ rfl s [] ((0,1),(0,1)) rfl r0 r0 hK
 simp(disch:=try exact ac)[dM];refine cd pw ?_;simp(disch:=try exact ac)[f1,hl]
 have eh:[(1,Bk.vars [S [48],S [49]]),(1,.vars [S [48],S [49]]),nnQ,nnQ,nnQ,nnQ,nnQ]=enH (0,1) (0,1):=by
  simp[enH,q0]
 rw[eh];refine lo (loop _ fun r hr=>?_);have er:r=jg p s M n:=hr;rw[<-er];simp(disch:=try exact ac)[qT];refine Q4 (by rfl) ?_;exact⟨_,rfl⟩
theorem YQ{h:Hp}{p:LiQ}{s:List Q}{M i e:Nat}(hi:h[i]?=some (e,.vars ((lgR p s M).map .d))):aP h (.ptr i e 0 4)=some (.dptr (lgR p s M) 0,cK h i e (.data 1 (lgR p s M) false true)):=by simp[aP,aH,hi,lgC,M7]
theorem Q5{h:Hp}{p:LiQ}{s:List Q}{M i e:Nat}(hi:h[i]?=some (e,.vars ((lgR p s M).map .d)))(n:Int):av h [.ptr i e 0 4,I n]=some ([.dptr (lgR p s M) 0,I n],cK h i e (.data 1 (lgR p s M) false true)):=by unfold av;rw[YQ hi];simp[av,aP,norm]
def yf(p:LiQ)(s:List Q):Nat->Nat->Option Nat
 |0,_=>none
 |f+1,M=>if tX p s M M=true then some M else if M=1000 then none else yf p s f (min (2*M) 1000)
theorem zT{p:LiQ}{s:List Q}:∀{f M M':Nat},jm M->yf p s f M=some M'->jm M'∧tX p s M' M'=true
 |0,_,_,_,h=>by cases h
 | f+1,M,M',hM,h=>by
  simp only[yf]at h;split at h
  .rename_i ht;obtain rfl:=Option.some.inj h;exact⟨hM,ht⟩
  .split at h
   .cases h
   .exact zT (by unfold jm at hM ⊢;omega) h
def bsGo(T:Nat->Bool):Nat->Nat->Nat->Nat
 |0,_,t=>t
 |f+1,lo,t=>if lo<t then(if T ((lo+t-1)/2)=true then bsGo T f lo ((lo+t-1)/2)else bsGo T f ((lo+t-1)/2+1) t)else t
theorem Da(T:Nat->Bool):∀(f lo t:Nat),T t=true->T (bsGo T f lo t)=true∧bsGo T f lo t<=t
 |0,_,t,h=>⟨h,Z7 _⟩
 | f+1,lo,t,h=>by
  simp only[bsGo];split
  .split
   .rename_i h2;have:=Da T f lo _ h2;exact⟨this.1,aa⟩
   .exact Da T f _ t h
  .exact⟨h,Z7 _⟩
def aaG:D:=.pl (.pointer none)
theorem KP(A:kY){p:LiQ}{s:List Q}(hp:∀x∈p,bw x=true)(hs:okS s)(hps:p.length=s.length)(hN:s.length<=8)(K:KL)(h0:Hp)(hh:h0.length=2):∀(f M i e:Nat)(a b:Nat×Bk),jm M->2000<=M*2^f ->
  ([a,b]:Hp)[i]?=some (e,.vars ((lgR p s M).map .d))->aT 2 a.2=true->aT 2 b.2=true ->
  (∀M' i e a b,yf p s f M=some M'->([a,b]:Hp)[i]?=some (e,.vars ((lgR p s M').map .d))->K (.exit 0) [I M',.ptr i e 0 4] [a,b])->(yf p s f M=none->∀h,K .ret [.d aaG,I 0,B false] h) ->
  lp (pm (CX Y) (lst di p) (szV s) (.fn F.cS [] [])) [] h0 [I M,.ptr i e 0 4] [a,b] K
 | 0,M,i,e,a,b,hM,hf,hi,ha,hb,h1,h2=>by
  exfalso;have:=pA hM;omega
 | f+1,M,i,e,a,b,hM,hf,hi,ha,hb,h1,h2=>by
  have M0:=pA hM;have en:=EQ A hp hs hps hN hM (Z7 M);have te:=Lh (jg p s M M).1 (jg p s M M).2;rw[show decide (AJ (jg p s M M).1 (jg p s M M).2≠0)=tX p s M M from rfl]at te;have sn:=Q5 hi (M:Int);simp only[yf]at h1 h2;refine ai ?_;simp(disch:=try exact ac)[pm];refine dX (vu sn en ?_)
  simp(disch:=try exact ac)[gh,tf,qT];refine cd (args:=[.agg (qT (jg p s M M).1),.agg (qT (jg p s M M).2)]) te ?_ (by rfl);by_cases ht:tX p s M M=true
  .rw[if_pos ht]at h1;simp(disch:=try exact ac)[ht];exact h1 M i e a b rfl hi
  .rw[if_neg ht]at h1 h2;by_cases hm:M=1000
   .rw[if_pos hm]at h2;have hm':(M:Int)=1000:=aa;simp(disch:=try exact ac)[ht,hm'];exact h2 rfl _
   .rw[if_neg hm]at h1 h2;have hm':¬(M:Int)=1000:=aa;obtain⟨M2,hM2⟩:=nmQ (min (2*M) 1000);rw[<-hM2]at h1 h2;have ok2:jm M2:=by unfold jm at hM ⊢;omega
    have op:=La A (a:=a) (b:=b) hp hs hps hN ok2 ha hb
    have mx:mxI false [I (2*(M:Int)),I 1000]=some (I M2):=by
     simp[mxI,mx2];split<;>omega
    have ih:=KP A hp hs hps hN K h0 hh f M2 1 (b.1+1) a (b.1+1,.vars ((lgR p s M2).map .d)) ok2 (by
     have e1:M*2^(f+1)=2*M*2^f:=by rw[Nat.pow_succ];ac_rfl
     rw[e1]at hf;rcases Nat.le_total (2*M) 1000 with hle|hle
     .rw[hM2,Yy hle];exact hf
     .rw[hM2,Nat.min_eq_right hle]
      have f1:1<=f:=by
       apply Nat.one_le_iff_ne_zero.2;intro e;subst e;unfold jm at hM;omega
      have:=Z6 (n:=2) ae f1;omega) rfl ha rfl h1 h2
    simp(disch:=try exact ac)[ht,hm',mx];refine dX (IW (s:=1) (e:=b.1) (b:=b.2) op rfl ?_);refine⟨clean_nil _ _,?_⟩;rw[iV 0 _ _ (by simp[hh])];exact ih
theorem Ep(A:kY){p:LiQ}{s:List Q}(hp:∀x∈p,bw x=true)(hs:okS s)(hps:p.length=s.length)(hN:s.length<=8)(K:KL)(h:Hp){M i e:Nat}(hM:jm M)(hi:h[i]?=some (e,.vars ((lgR p s M).map .d))):∀(f lo t:Nat),t<=M->t-lo<=f->lo<=t ->
  K (.exit 2) [I (bsGo (tX p s M) f lo t)] h ->
  lp (jQ (CX Y) (.fn F.cS [] []) (.ptr i e 0 4)) [] h [I t,I ((lo:Int)-1)] h K
 | 0,lo,t,ht,hf,hl,hK=>by
  have e1:¬(t:Int)-((lo:Int)-1)>1:=aa;refine ai ?_;have M0:=pA hM;simp(disch:=try exact ac)[jQ,e1];exact hK
 | f+1,lo,t,ht,hf,hl,hK=>by
  have M0:=pA hM;refine ai ?_;by_cases hlt:lo<t
  .obtain⟨m,hm⟩:=nmQ ((lo+t-1)/2);have en:=EQ A (n:=m) hp hs hps hN hM aa;have te:=Lh (jg p s M m).1 (jg p s M m).2;rw[show decide (AJ (jg p s M m).1 (jg p s M m).2≠0)=tX p s M m from rfl]at te;have sn:=Q5 hi (m:Int);have e1:(t:Int)-((lo:Int)-1)>1:=aa
   have e2:((lo:Int)-1+t).tdiv 2=(m:Int):=by
    rw[Z1 aa];omega
   simp only[bsGo]at hK;rw[if_pos hlt,<-hm]at hK;simp(disch:=try exact ac)[jQ,e1];refine aE ?_;simp(disch:=try exact ac)[e2];refine dX (vu sn en ?_);simp(disch:=try exact ac)[gh,tf,qT];refine cd (args:=[.agg (qT (jg p s M m).1),.agg (qT (jg p s M m).2)]) te ?_ (by rfl)
   simp(disch:=try exact ac);refine aE ?_;by_cases hT:tX p s M m=true
   .rw[if_pos hT]at hK;have ih:=Ep A hp hs hps hN K h hM hi f lo m aa aa aa hK;simp(disch:=try exact ac)[hT];exact ih
   .rw[if_neg hT]at hK;have ih:=Ep A hp hs hps hN K h hM hi f (m+1) t ht aa aa hK;rw[show((m+1:Nat):Int)-1=(m:Int) by omega]at ih;simp(disch:=try exact ac)[hT];exact ih
  .have e1:¬(t:Int)-((lo:Int)-1)>1:=aa;simp only[bsGo]at hK;rw[if_neg hlt]at hK;simp(disch:=try exact ac)[jQ,e1];exact hK
theorem SY(A:kY)(hp:∀x∈p,bw x=true)(hs:okS s)(hps:p.length=s.length)(hN:s.length<=8):
  CP Y F.j9 [lst di p,szV s,.fn F.cS [] []] (match yf p s 6 32 with
   |some M=>.tup [.dptr (lgR p s M) 0,I (bsGo (tX p s M) 1001 0 M),B true]
   |none=>.tup [.d aaG,I 0,B false]):=by
 refine z8 ?_;have m32:jm 32:=.inl rfl;have op:=La A (a:=nnQ) (b:=nnQ) hp hs hps hN m32 rfl rfl;have l0:=fun K H1 H2=>KP A hp hs hps hN K [(1,.vars ((lgR p s 32).map .d)),nnQ] rfl 6 32 0 1 (1,.vars ((lgR p s 32).map .d)) nnQ m32 ae rfl rfl rfl H1 H2
 simp(disch:=try exact ac)[j9];refine dX (IW (s:=0) (e:=0) (b:=.none) op rfl ?_);simp(disch:=try exact ac);refine lo (l0 _ (fun M i e a b hf hi=>?_) (fun hf h=>?_))
 .obtain⟨hM,hT⟩:=zT m32 hf;have l1:=fun K hK=>Ep A hp hs hps hN K [a,b] hM hi 1001 0 M (Z7 _) (by have:=pA hM;omega) (Yk _) hK
  rw[show((0:Nat):Int)-1 = -1 by rfl]at l1;rw[hf];simp(disch:=try exact ac);refine lo (l1 _ ?_);simp(disch:=try exact ac);refine⟨cK [a,b] i e (.data 1 (lgR p s M) false true),?_⟩
  have e2:av [a,b] [.ptr i e 0 4,I (bsGo (tX p s M) 1001 0 M),.d (.bool true)]=some ([.dptr (lgR p s M) 0,I (bsGo (tX p s M) 1001 0 M),B true],cK [a,b] i e (.data 1 (lgR p s M) false true)):=by
   unfold av;rw[YQ hi];simp[av,aP,norm]
  simp only[aP];rw[e2]
 .rw[hf];simp(disch:=try exact ac);exact⟨h,by simp[aP,av,aaG,norm]⟩
abbrev Bd:=Int×Int×LuQ
def cD(x:Bd):LdQ:=[.int .i64 x.1,.int .i64 x.2.1,.str x.2.2]
theorem nO(x:Bd):(cD x).length=3:=rfl
def iB:Nat->List (Int×Nat)->LiQ
 |_,[]=>[]
 |i,x::q=>if x.1=0 then iB (i+1) q else(i:Int)::iB (i+1) q
def bdB(b:Bd):Bool:=fq b.1 b.2.1 b.2.2
def atI(sg:Int)(b:Bd)(x:Int×Nat):Int:=if b.1≠2∧(decide (x.1<0)=decide (sg=1))then(rd b.2.2).getD 0+1 else(rd b.2.2).getD 0
def o9(p:LiQ)(l:List (Int×Nat))(sg bits:Int):LiQ->List Bd->Int×Nat->Option (Int×Nat)
 |o::own,b::bs,sum=>if b.1=nth 0 p o.toNat∧b.2.1=bits∧bdB b=true then o9 p l sg bits own bs (Bg sum ((nth (0,0) l o.toNat).1*atI sg b (nth (0,0) l o.toNat),(nth (0,0) l o.toNat).2*1))else none
 |_,_,sum=>some sum
def tb(p:LiQ)(sg bits:Int)(bs:List Bd)(l:List (Int×Nat))(own:LiQ):Bool:=
 if sg=0 then decide (own.length=0)&&decide (bits=0)&&decide (bs.length=0)
 else if(sg≠1∧sg≠-1)∨own.length=0∨bs.length≠own.length then false
 else match o9 p l sg bits own bs (0,1)with
  |some sum=>decide (sum.1=0)||(decide (sum.1<0) == decide (sg<0))
  |none=>false
def tc(p:LiQ)(s:List Tx)(sg bits:Int)(bs:List Bd):Bool:=
 if r8 p s=true then tb p sg bits bs ((oK s).getD []) (iB 0 ((oK s).getD []))else false
theorem oM(h:z.natAbs<10^k)(hk:k<1000000):fits z:=by have:=zF h;have h40:(2:Nat)^40=1099511627776:=ae;unfold fits;omega
theorem SU(h:n<10^k)(hk:k<1000000):len n<2^40:=by have:=zF h;have h40:(2:Nat)^40=1099511627776:=ae;omega
theorem xA{a b j:Nat}(ha:a<10^i)(hb:b<10^j):a*b<10^(i+j):=by rw[Zr];exact Y6 ha hb
theorem TC{a b:Int×Nat}(ha1:a.1.natAbs<10^M)(ha2:a.2<10^M)(hb1:b.1.natAbs<10^801)(hb2:b.2<10^401)(hM:801<=M):(Bg a b).1.natAbs<10^(M+802)∧(Bg a b).2<10^(M+802):=by
 have hp:∀i j:Nat,i<=j->(10:Nat)^i<=10^j:=fun i j h=>Z6 ae h
 unfold Bg;split
 .have h1:=hp 801 M hM;have h2:(10:Nat)^(M+802)=10^M*10^802:=Zr ..;have h3:2<=(10:Nat)^802:=Zs (by decide:2<=10^1) (hp 1 802 aa);have h4:=Zy (10^M) h3;simp only;constructor<;>omega
 .have h1:=xA ha1 hb2;have h2:=xA hb1 ha2;have h3:=xA ha2 hb2;have e1:(a.1*(b.2:Int)).natAbs=a.1.natAbs*b.2:=by rw[Y3,Int.natAbs_natCast]
  have e2:(b.1*(a.2:Int)).natAbs=b.1.natAbs*a.2:=by rw[Y3,Int.natAbs_natCast]
  have h4:=hp (M+401) (M+801) aa;have h5:(10:Nat)^(M+802)=10^(M+801)*10:=Nat.pow_succ ..;rw[Yf 801 M]at h2;simp only;constructor
  .have:=Int.natAbs_add_le (a.1*(b.2:Int)) (b.1*(a.2:Int));omega
  .omega
theorem Va{a b:LuQ}{f:Int×Nat}(h:rdF a b=some f):f.1.natAbs<10^400∧f.2<10^400:=by
 unfold rdF at h;cases h1:rd a with
 |none=>rw[h1]at h;cases h
 | some n=>
  cases h2:rd b with
  |none=>rw[h1,h2]at h;cases h
  | some d=>
   rw[h1,h2]at h;simp only at h;split at h
   .simp only[Z9]at h;subst h;exact⟨uf h1,uf h2⟩
   .cases h
theorem G0:∀{s:List Tx}{l:List (Int×Nat)},oK s=some l->∀f∈l,f.1.natAbs<10^400∧f.2<10^400
 |[],l,h=>by simp only[oK,Z9]at h;subst h;intro f hf;cases hf
 | x::q,l,h=>by
  simp only[oK]at h;cases h1:rdF x.1 x.2 with
  |none=>rw[h1]at h;cases h
  | some f=>
   cases h2:oK q with
   |none=>rw[h1,h2]at h;cases h
   | some m=>
    rw[h1,h2]at h;simp only[Z9]at h;subst h;intro g hg;rcases Zc.1 hg with rfl|hg
    .exact Va h1
    .exact G0 h2 g hg
theorem abn{b:Bd}(h:bdB b=true):∃z:Nat,rd b.2.2=some (z:Int)∧z<10^400:=by
 unfold bdB fq at h;cases hr:rd b.2.2 with
 |none=>rw[hr]at h;cases h
 | some z=>
  rw[hr]at h;simp only[Z8,decide_eq_true_eq]at h;have:=uf hr;exact⟨z.toNat,by congr 1;omega,aa⟩
theorem AR:∀(l:List (Int×Nat))(i:Nat),(iB i l).length<=l.length
 |[],i=>by simp[iB]
 | x::q,i=>by
  have ih:=AR q (i+1);simp only[iB];split
  .simp;omega
  .simp;omega
theorem GP:∀(l:List (Int×Nat))(i:Nat),∀o∈iB i l,(i:Int)<=o∧o<(i+l.length:Nat)
 |[],i,o,h=>by simp[iB]at h
 | x::q,i,o,h=>by
  have ih:=GP q (i+1) o;simp only[iB]at h;split at h
  .have:=ih h;simp at this ⊢;omega
  .rcases Zc.1 h with rfl|h
   .simp;omega
   .have:=ih h;simp at this ⊢;omega
def snA:Acc:=⟨2,0,1,.none⟩
def snH(c:Nat×Bk)(own:LiQ):Hp:=[c,nnQ,snA.b own.length (own.map di),nnQ,nnQ,nnQ,nnQ]
theorem Kg(c:Nat×Bk)(hc:offB [1] c.2=true){l:List (Int×Nat)}(hN:l.length<1000000000)(k:KL)(h0:Hp)(hh:h0=[c,nnQ,nnQ,nnQ,nnQ,nnQ,nnQ]):∀(q a:List (Int×Nat))(d:LiQ),a++q=l->d.length<=a.length ->
  k (.exit 0) [snA.v (d++iB a.length q).length ((d++iB a.length q).map di)] (snH c (d++iB a.length q)) ->
  lp (oZ (CX Y) (gR frC l) (I l.length)) [1] h0 [snA.v d.length (d.map di),I a.length] (snH c d) k
 | []=>by
  intro a d ha hd hk;simp at ha;subst ha;refine ai ?_;simp(disch:=try exact ac)[oZ];simpa[iB]using hk
 | x::q=>by
  intro a d ha hd hk;have hal:a.length<l.length:=by subst ha;simp
  have hx:nth (0,0) l a.length=x:=by subst ha;simp
  have e1:=fun h:Hp=>m6 frC xG l h (k:=.i64) (i:=(a.length:Int)) aa aa
  have e2:=fun h:Hp=>m5 frC xG (0,0) l h hal
  simp only[hx,Int.toNat_natCast,OJ]at e1 e2;have ih:=Kg c hc hN k h0 hh q (a++[x]);have hoS:∀L c,pL [1] (snA.v L c)=true:=fun L c=>Sr _ _ _ _ rfl
  have hoB:∀L c,offB [1] (snA.b L c).2=true:=fun L c=>Su _ _ _ _ rfl
  refine ai ?_;subst hh;simp(disch:=try exact ac)[oZ];refine aE ?_;simp(disch:=try exact ac)[e1,e2,snH,pF,frL];refine cd (Nt x.1 x.2) ?_;simp only[iB]at hk;by_cases hz:x.1=0
  .rw[if_pos hz]at hk;simp(disch:=try exact ac)[hz];refine aE ?_;have:=ih d (by simpa using ha) ak (by simpa using hk);simp(disch:=try exact ac)[clean,iN,hoS,jf,fU,hoB,oJ,nY,hc,ew,iM,gN,dP,beq_lit];simpa[snA,snH]using this
  .rw[if_neg hz]at hk;simp(disch:=try exact ac)[hz];refine aE ?_;have:=ih (d++[(a.length:Int)]) (by simpa using ha) ak (by simpa using hk)
   have hli:∀H:Hp,fj 1 [D.int IntKind.i64 0] [(0,I (a.length:Int))] H=some ([di a.length],H):=fun H=>by
    simp[fj,fS,hO,toD,di]
   simp(disch:=try exact ac)[hli];refine rI snA (k:=1) (cs:=[di a.length]) aa (by rfl) (by simp[snA]) rfl rfl af aa (by simp[snA]) ?_;simp(disch:=try exact ac)[show snA.s=2 from rfl,clean,iN,hoS,jf,fU,hoB,oJ,nY,hc,ew,iM,gN,dP,beq_lit]
   simpa[snA,snH,Acc.v,Acc.b,pL,offB,gN,dP,beq_lit]using this
def sgH(cv:LwQ)(own:LiQ)(sum:Int×Nat):Hp:=[(1,.vars cv),nnQ,(1,.data 1 (own.map di) false false),(1,.vars (frL sum.1 sum.2)),nnQ,nnQ,nnQ]
theorem GC{p:LiQ}{l:List (Int×Nat)}{sg bits:Int}{bs:List Bd}{own:LiQ}(hN:bs.length<1000)(hob:bs.length=own.length)(ho:∀o∈own,0<=o∧o<l.length)(hlp:l.length=p.length)(hpl:p.length<1000)(hl:∀f∈l,f.1.natAbs<10^400∧f.2<10^400)(k:KL)(c2:V)(hc2:pL [4,5,6] c2=true)
  (h0:Hp) (hh:h0=sgH [I sg,I bits,c2] own (0,1)):∀(q a:List Bd)(oq oa:LiQ)(sum:Int×Nat),a++q=bs->oa++oq=own->oa.length=a.length->sum.1.natAbs<10^(801+802*a.length)->sum.2<10^(801+802*a.length) ->
  (∀r,o9 p l sg bits oq q sum=some r->k (.exit 2) [] (sgH [I sg,I bits,c2] own r))->(o9 p l sg bits oq q sum=none->∀h,k .ret [B false] h) ->
  lp (jc (CX Y) (lst di p) (.ptr 0 1 0 3) (gR frC l) (.ref 2 1 0 own.length own.length own.length) (.ptr 3 1 0 3) (gR cD bs) (I bs.length)) [4,5,6] h0 [I a.length] (sgH [I sg,I bits,c2] own sum) k
 | []=>by
  intro a oq oa sum ha hoa hla hs1 hs2 h1 h2;simp at ha;subst ha;refine ai ?_;simp(disch:=try exact ac)[jc];refine h1 sum ?_;cases oq<;>rfl
 | b::q=>by
  intro a oq oa sum ha hoa hla hs1 hs2 h1 h2;cases oq with
  | nil=>
   exfalso;have e1:=congrArg List.length ha;have e2:=congrArg List.length hoa;simp at e1 e2;omega
  |cons o oq=>
  have hal:a.length<bs.length:=by subst ha;simp
  have halo:a.length<own.length:=aa;have hb:nth (0,0,[]) bs a.length=b:=by subst ha;simp
  have hno:nth 0 own a.length=o:=by subst hoa;rw[<-hla];simp
  have hoo:=ho o (by subst hoa;simp);have e1:=fun h:Hp=>m6 cD nO bs h (k:=.i64) (i:=(a.length:Int)) aa aa
  have e2:=fun h:Hp=>m5 cD nO (0,0,[]) bs h hal
  simp only[hb,Int.toNat_natCast]at e1 e2;have eO:∀(x y:Nat×Bk)(r:Hp),ixV (x::y::(1,.data 1 (own.map di) false false)::r) 1 (.ref 2 1 0 own.length own.length own.length) (.d (.int .i64 (a.length:Int)))=some (.ptr 2 1 a.length own.length):=fun x y r=>ixB rfl rfl halo _
  have eOl:∀(x y:Nat×Bk)(r:Hp),ld1 (x::y::(1,.data 1 (own.map di) false false)::r) (.ptr 2 1 a.length own.length)=some (.d (di (nth 0 own a.length))):=fun x y r=>ldB 0 rfl rfl halo
  simp only[hno]at eOl;have f1:=fun h:Hp=>m6 frC xG l h (k:=.i64) (i:=o) aa aa
  have f2:=fun h:Hp=>m5 frC xG (0,0) l h (j:=o.toNat) aa
  obtain⟨x,hx⟩:=mnQ (nth (0,0) l o.toNat);have hxl:=hl x (by rw[<-hx];exact iO aa);simp only[hx,OJ]at f2;simp only[o9,hx]at h1 h2;obtain⟨pv,hpv⟩:=mnQ (nth 0 p o.toNat);rw[hpv]at h1 h2;have hbo:=BI b.1 b.2.1 b.2.2;have ih:=GC hN hob ho hlp hpl hl k c2 hc2 h0 hh q (a++[b]) oq (oa++[o]);refine ai ?_;subst hh;by_cases g1:b.1=pv
  rotate_left
  .have:=h2 (by rw[if_neg (fun h=>g1 h.1)]);simp(disch:=try exact ac)[jc,e1,e2,cD,sgH,eO,eOl,hpv,g1];exact this _
  by_cases g2:b.2.1=bits
  rotate_left
  .have:=h2 (by rw[if_neg (fun h=>g2 h.2.1)]);simp(disch:=try exact ac)[jc,e1,e2,cD,sgH,eO,eOl,hpv,g1,g2];exact this _
  have hg1:=eq_true g1;have hg2:=eq_true g2;simp(disch:=try exact ac)[jc,e1,e2,cD,sgH,eO,eOl,hpv,hg1,hg2];refine cd hbo ?_;by_cases g3:bdB b=true
  rotate_left
  .have:=h2 (by rw[if_neg (fun h=>g3 h.2.2)]);have g3':¬fq b.1 b.2.1 b.2.2=true:=g3;simp(disch:=try exact ac)[g3'];exact this _
  have g3':fq b.1 b.2.1 b.2.2=true:=g3;rw[if_pos ⟨g1,g2,g3⟩]at h1 h2;obtain⟨z,hz,hzb⟩:=abn g3;have hrd:=CK b.2.2;rw[hz]at hrd;have hiz:fH (z:Int)=.agg [.d (.bool false),.d (hQ z)]:=xE af af;have hrd':rdV (some (z:Int))=.tup [.agg [.d (.bool false),.d (hQ z)],B true]:=by simp[rdV,hiz]
  rw[hrd']at hrd;have hat:atI sg b x=if b.1≠2∧(decide (x.1<0)=decide (sg=1))then(z:Int)+1 else(z:Int):=by simp[atI,hz]
  have h400:(10:Nat)^400+1<=10^401:=by set_option exponentiation.threshold 1000 in rw[Nat.pow_succ];have:=Yq (a:=10) (n:=400) ae;omega
  have tail:∀zt:Nat,(zt:Int)=atI sg b x->zt<10^401->(
    bnd (ldA ((1,.vars [I sg,I bits,c2])::nnQ::(1,.data 1 (own.map di) false false)::(1,.vars [.d (.bool (decide (sum.1<0))),.d (hQ sum.1.natAbs),.d (hQ sum.2)])::(1,.vars [.d (.int .i64 b.1),.d (.int .i64 b.2.1),.d (.str b.2.2)])::(1,.vars [.d (.bool (decide (x.1<0))),.d (hQ x.1.natAbs),.d (hQ x.2)])::(1,.vars [.d (.bool false),.d (hQ zt)])::[]) 3 (.ptr 3 1 0 3)) fun v49=>
    bnd (ldA ((1,.vars [I sg,I bits,c2])::nnQ::(1,.data 1 (own.map di) false false)::(1,.vars [.d (.bool (decide (sum.1<0))),.d (hQ sum.1.natAbs),.d (hQ sum.2)])::(1,.vars [.d (.int .i64 b.1),.d (.int .i64 b.2.1),.d (.str b.2.2)])::(1,.vars [.d (.bool (decide (x.1<0))),.d (hQ x.1.natAbs),.d (hQ x.2)])::(1,.vars [.d (.bool false),.d (hQ zt)])::[]) 3 (.ptr 5 1 0 3)) fun v50=>
    bnd (ldA ((1,.vars [I sg,I bits,c2])::nnQ::(1,.data 1 (own.map di) false false)::(1,.vars [.d (.bool (decide (sum.1<0))),.d (hQ sum.1.natAbs),.d (hQ sum.2)])::(1,.vars [.d (.int .i64 b.1),.d (.int .i64 b.2.1),.d (.str b.2.2)])::(1,.vars [.d (.bool (decide (x.1<0))),.d (hQ x.1.natAbs),.d (hQ x.2)])::(1,.vars [.d (.bool false),.d (hQ zt)])::[]) 2 (.ptr 6 1 0 2)) fun v51=>
    eD 1 [.int .u32 0] [(0,(.d (.int .u32 1)))] ((1,.vars [I sg,I bits,c2])::nnQ::(1,.data 1 (own.map di) false false)::(1,.vars [.d (.bool (decide (sum.1<0))),.d (hQ sum.1.natAbs),.d (hQ sum.2)])::(1,.vars [.d (.int .i64 b.1),.d (.int .i64 b.2.1),.d (.str b.2.2)])::(1,.vars [.d (.bool (decide (x.1<0))),.d (hQ x.1.natAbs),.d (hQ x.2)])::(1,.vars [.d (.bool false),.d (hQ zt)])::[]) fun v52 h=>
    bnd (bld [(0,2),(2,1)] [.bool false,nPQ,nPQ] [(0,v51),(1,v52)]) fun v53=>
    cal (CX Y).p h (.fn F.dp [] []) [v50,v53] fun v54 h=>
    cal (CX Y).p h (.fn F.df [] []) [v49,v54] fun v55 h=>
    stD h 3 (.ptr 3 1 0 3) v55 fun _ h=>
    bnd (biI .add (I a.length) (.d (.int .i64 1))) fun v57=>
    lpK [4,5,6] (sgH [I sg,I bits,c2] own (0,1)) (fun l' h=>lp (jc (CX Y) (lst di p) (.ptr 0 1 0 3) (gR frC l) (.ref 2 1 0 own.length own.length own.length) (.ptr 3 1 0 3) (gR cD bs) (I bs.length)) [4,5,6] (sgH [I sg,I bits,c2] own (0,1)) l' h k) k .normal [v57] h):=by
   intro zt hzt hztb;rw[<-hzt]at h1 h2
   have hfz:pF (zt:Int) 1=.agg [.d (.bool false),.d (hQ zt),.d (.sl 1 [.int .u32 1])]:=by
    simp[pF,frL];rfl
   have b1:(x.1*(zt:Int)).natAbs<10^801:=by
    rw[Y3,Int.natAbs_natCast];have:=xA hxl.1 hztb;rwa [show(400+401:Nat)=801 from rfl]at this
   have b2:x.2*1<10^401:=by set_option exponentiation.threshold 1000 in exact Zu (Nat.le_of_eq (Y0 x.2)) (Z3 hxl.2 (Nat.le_of_succ_le h400))
   have t1:=MY (x:=x.1) (y:=(zt:Int)) (c:=x.2) (d:=1) (oM hxl.1 aa) (oM (z:=(zt:Int)) (by rw[Int.natAbs_natCast];exact hztb) aa) (SU hxl.2 aa) (by have:=pj (n:=1) (k:=1) ae;omega);rw[hfz]at t1;have hM:801+802*a.length<900000:=aa;have hsd:=xA hs1 b2;have hsd2:=xA b1 hs2
   have t2:=Tp (x:=sum.1) (y:=x.1*(zt:Int)) (c:=sum.2) (d:=x.2*1) (oM hs1 aa) (oM b1 aa) (oM (z:=(sum.2:Int)) (by rw[Int.natAbs_natCast];exact hs2) aa) (oM (z:=((x.2*1:Nat):Int)) (by rw[Int.natAbs_natCast];exact b2) aa)
    (oM (k:=801+802*a.length+401) (by rw[Y3,Int.natAbs_natCast];exact hsd) aa) (oM (k:=801+(801+802*a.length)) (by rw[Y3,Int.natAbs_natCast];exact hsd2) aa)
   have hfd:=TC (a:=sum) (b:=(x.1*(zt:Int),x.2*1)) hs1 hs2 b1 b2 aa;obtain⟨ns,hns⟩:∃ns,Bg sum (x.1*(zt:Int),x.2*1)=ns:=⟨_,rfl⟩;rw[show Bg (sum.1,sum.2) (x.1*(zt:Int),x.2*1)=ns from hns]at t2;rw[hns]at hfd h1 h2
   have ih':=ih ns (by simpa using ha) (by simpa using hoa) (by simp[hla]) (by rw[Zo,List.length_singleton,Nat.mul_add,<-Nat.add_assoc];exact hfd.1) (by rw[Zo,List.length_singleton,Nat.mul_add,<-Nat.add_assoc];exact hfd.2) h1 h2;clear ih h1 h2 hfd hs1 hs2 b1 b2 hsd hsd2;generalize hW:x.1*(zt:Int)=xz at *;generalize hD:x.2*1=xd at *
   simp(disch:=try exact ac)[mZ];refine cd (args:=[.agg [.d (.bool (decide (x.1<0))),.d (hQ x.1.natAbs),.d (hQ x.2)],.agg [.d (.bool false),.d (hQ zt),.d (.sl 1 [.int .u32 1])]]) t1 ?_;simp(disch:=try exact ac)[pF,frL]
   refine cd (args:=[.agg [.d (.bool (decide (sum.1<0))),.d (hQ sum.1.natAbs),.d (hQ sum.2)],.agg [.d (.bool (decide (xz<0))),.d (hQ xz.natAbs),.d (hQ xd)]]) t2 ?_;simp(disch:=try exact ac)[pF,frL,sgH,clean,iN,hc2,jf,fU,oJ,nY,offB,ew,iM,gN,dP,beq_lit];simpa[sgH,frL]using ih'
  simp(disch:=try exact ac)[g3',eO,eOl,f1,f2,pF,frL];refine cd hrd ?_;by_cases h2p:b.1=2
  .have:=tail z (by rw[hat,if_neg (fun h=>h.1 h2p)]) aa;have h2t:=eq_true h2p;simp(disch:=try exact ac)[mZ]at this;simp(disch:=try exact ac)[h2t];refine aE ?_;simp(disch:=try exact ac)[h2t,mZ];exact this
  .by_cases hsg:decide (x.1<0)=decide (sg=1)
   .have:=tail (z+1) (by rw[hat,if_pos ⟨h2p,hsg⟩];simp) aa;have hsgb:(decide (x.1<0) == decide (sg=1))=true:=by simpa using hsg
    have hnum:=qp (n:=1) aa;have hadd:=Fz (a:=(z:Int)) (b:=1) (oM (z:=(z:Int)) (by rw[Int.natAbs_natCast];exact hzb) aa) (kS aa aa);rw[hiz,show(z:Int)+1=((z+1:Nat):Int) by omega,xE (z:=((z+1:Nat):Int)) (n:=z+1) (b:=false) (Int.natAbs_natCast _) ak]at hadd;generalize z+1=z1 at *
    simp(disch:=try exact ac)[mZ]at this;simp(disch:=try exact ac)[h2p,hsgb];refine aE ?_;simp(disch:=try exact ac)[h2p,hsgb];refine cd hnum ?_;simp(disch:=try exact ac);refine cd hadd ?_;simp(disch:=try exact ac)[mZ];exact this
   .have:=tail z (by rw[hat,if_neg (fun h=>hsg h.2)]) aa;have hsgb:(decide (x.1<0) == decide (sg=1))=false:=by simpa using hsg
    simp(disch:=try exact ac)[mZ]at this;simp(disch:=try exact ac)[h2p,hsgb];refine aE ?_;simp(disch:=try exact ac)[h2p,hsgb,mZ];exact this
theorem En:∀{s:List Tx},s.all wT=true->∃l,oK s=some l
 |[],_=>⟨[],rfl⟩
 | x::q,h=>by
  simp only[List.all_cons,Z8,wT]at h;obtain⟨f,hf⟩:=Xt.1 h.1.2;obtain⟨l,hl⟩:=En (s:=q) h.2;exact⟨f::l,by simp[oK,hf,hl]⟩
theorem GB{s:List Tx}(h:r8 p s=true):mX p=true∧s.length=p.length∧s.all wT=true:=by simp only[r8,Z8,decide_eq_true_eq]at h;exact⟨h.1.1,h.1.2,h.2⟩
theorem wN(h:mX p=true):0<p.length∧p.length<=6:=by simp only[mX,Z8,decide_eq_true_eq]at h;exact⟨h.1.2,h.2⟩
theorem FB(a:Acc)(L:Nat)(c:LdQ):aj (a.v L c)=some (I L):=by cases L<;>rfl
theorem NM{s:List Tx}{sg:Int}{bs:List Bd}(hp:p.length<1000000000)(hl:∀x∈s,x.1.length<1000000000000∧x.2.length<1000000000000):CP Y F.iy [lst di p,gR fi s,.agg [I sg,I bits,gR cD bs]] (B (tc p s sg bits bs)):=by
 refine Fl ?_;unfold tc;simp(disch:=try exact ac)[iy];refine cd (U2 hp hl) ?_;by_cases hsz:r8 p s=true
 rotate_left
 .rw[if_neg hsz];simp(disch:=try exact ac)[hsz]
 obtain⟨z1,z2,z3⟩:=GB hsz;obtain⟨l,hlo⟩:=En z3;have hll:=A3 hlo;have hp6:=wN z1;have hdec:=G0 hlo;have hls:=VR (s:=s) aa;rw[hlo]at hls;rw[if_pos hsz,hlo];simp only[Option.getD_some];have hofc:offB [1] (Bk.vars [I sg,I bits,gR cD bs])=true:=rfl;simp(disch:=try exact ac)[hsz];refine cd hls ?_
 simp(disch:=try exact ac);refine lo (Kg (1,.vars [I sg,I bits,gR cD bs]) hofc (l:=l) aa _ _ rfl l [] [] rfl (Z7 _) ?_);simp only[List.nil_append,List.length_nil];have hom:=GP l 0;have hol:=AR l 0;generalize iB 0 l=own at *;have hlv:=FB snA own.length (own.map di);unfold tb;by_cases g0:sg=0
 .subst g0;rw[if_pos rfl];by_cases k1:own.length=0
  .have hk1:=eq_true k1;by_cases k2:bits=0
   .have hk2:=eq_true k2;simp(disch:=try exact ac)[snH,hlv,hk1,hk2]
   .simp(disch:=try exact ac)[snH,hlv,hk1,k2]
  .simp(disch:=try exact ac)[snH,hlv,k1]
 .rw[if_neg g0];have gc:(sg=1∨sg = -1)∨(sg≠1∧sg≠-1):=aa;rcases gc with gc|⟨gc1,gc2⟩
  rotate_left
  .rw[if_pos (.inl ⟨gc1,gc2⟩)];simp(disch:=try exact ac)[snH,g0,gc1,gc2]
  by_cases k1:own.length=0
  .rw[if_pos (.inr (.inl k1))];have hk1:=eq_true k1;rcases gc with rfl|rfl
   .simp(disch:=try exact ac)[snH,hlv,hk1]
   .simp(disch:=try exact ac)[snH,hlv,hk1]
  by_cases k2:bs.length=own.length
  rotate_left
  .rw[if_pos (.inr (.inr k2))];rcases gc with rfl|rfl
   .simp(disch:=try exact ac)[snH,hlv,k1,k2]
   .simp(disch:=try exact ac)[snH,hlv,k1,k2]
  rw[if_neg aa];have hk2:=eq_true k2;obtain⟨n,hn⟩:∃n,own.length=n+1:=⟨own.length-1,aa⟩
  have hV:snA.v own.length (own.map di)=.ref 2 1 0 own.length own.length own.length:=by
   have:(own.map di).length=n+1:=by simp[hn]
   rw[hn]
   show V.ref 2 1 0 (n+1) (n+1) (own.map di).length=_
   rw[this]
  have hB:snA.b own.length (own.map di)=(1,.data 1 (own.map di) false false):=by
   rw[hn];rfl
  have hx:sg=1∨sg = -1:=gc;have hpown:∀o∈own,0<=o∧o<l.length:=fun o ho=>by have:=hom o ho;omega
  have loop:=fun k=>GC (p:=p) (l:=l) (sg:=sg) (bits:=bits) (bs:=bs) (own:=own) aa k2 hpown aa aa hdec k (gR cD bs) rfl _ rfl bs [] own [] (0,1) rfl rfl rfl (Yq ae) (by
   set_option exponentiation.threshold 1000 in
   have:(10:Nat)^1<=10^(801+802*0):=Z6 ae ae;exact Z3 ae this)
  have fin:∀r:Int×Nat,o9 p l sg bits own bs (0,1)=some r->exK [((.exit 2),fun l47 h=>
      bnd (ldA h 3 (.ptr 3 1 0 3)) fun v48=>
      cal (CX Y).p h (.fn F.cR [] []) [v48] fun v49 h=>
      gd v49 false h (fun q=>bnd (faV 0 (.ptr 3 1 0 3)) fun v=>q v h) fun v50 h=>
      gd v49 false h (fun q=>bnd (faV 0 v50) fun v=>q v h) fun v51 h=>
      gd v49 false h (fun q=>bnd (ld1 h v51) fun v=>q v h) fun v52 h=>
      gd v49 false h (fun q=>bnd (faV 0 (.ptr 0 1 0 3)) fun v=>q v h) fun v53 h=>
      gd v49 false h (fun q=>bnd (ld1 h v53) fun v=>q v h) fun v54 h=>
      gd v49 false h (fun q=>bnd (biI .lss v54 (.d (.int .i64 0))) fun v=>q v h) fun v55 h=>
      gd v49 false h (fun q=>bnd (biB .eql v52 v55) fun v=>q v h) fun v56 h=>
      bnd (aA v49 (.d (.bool true)) v56) fun v57=>
      out (B (decide (r.1=0)||(decide (r.1<0) == decide (sg<0)))) v57 h),
      (.ret,fun l47 h=>out (B (decide (r.1=0)||(decide (r.1<0) == decide (sg<0)))) (ge l47 0) h)] (.exit 2) [] (sgH [I sg,I bits,gR cD bs] own r):=by
   intro r hr;simp(disch:=try exact ac)[sgH,frL];refine cd (args:=[.agg [.d (.bool (decide (r.1<0))),.d (hQ r.1.natAbs),.d (hQ r.2)]]) (Nt r.1 r.2) ?_;by_cases hz:r.1=0
   .simp(disch:=try exact ac)[hz]
   .simp(disch:=try exact ac)[hz]
  cases hr:o9 p l sg bits own bs (0,1)with
  | none=>
   rcases gc with rfl|rfl
   .simp(disch:=try exact ac)[snH,hlv,k1,hk2];refine cd ve ?_;simp(disch:=try exact ac)[pF,frL,hV,hB];refine lo (loop _ (fun r hr2=>by rw[hr]at hr2;cases hr2) (fun _ h=>?_));simp(disch:=try exact ac)
   .simp(disch:=try exact ac)[snH,hlv,k1,hk2];refine cd ve ?_;simp(disch:=try exact ac)[pF,frL,hV,hB];refine lo (loop _ (fun r hr2=>by rw[hr]at hr2;cases hr2) (fun _ h=>?_));simp(disch:=try exact ac)
  | some r=>
   have:=fin r hr;rcases gc with rfl|rfl
   .simp(disch:=try exact ac)[snH,hlv,k1,hk2];refine cd ve ?_;simp(disch:=try exact ac)[pF,frL,hV,hB];refine lo (loop _ (fun r' hr2=>?_) (fun hr2=>by rw[hr]at hr2;cases hr2));rw[hr]at hr2;injection hr2 with hr2;subst hr2;exact this
   .simp(disch:=try exact ac)[snH,hlv,k1,hk2];refine cd ve ?_;simp(disch:=try exact ac)[pF,frL,hV,hB];refine lo (loop _ (fun r' hr2=>?_) (fun hr2=>by rw[hr]at hr2;cases hr2));rw[hr]at hr2;injection hr2 with hr2;subst hr2;exact this
end Go.Vm
