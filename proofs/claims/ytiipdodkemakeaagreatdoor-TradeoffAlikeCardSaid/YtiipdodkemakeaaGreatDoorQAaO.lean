/- Lemmas. -/
import Derived.Test.YtiipdodkemakeaaGreatDoorQAaG
import Derived.Shelf.Pu.ParseUintPublic10
import Derived.Shelf.Strconv.ParseIntPublic10
import Derived.RangeFuncBox
import Derived.Shelf.Abstract
import Derived.WalkKit
import Derived.OwnWalkIn
import Derived.TacticsInMore
import Derived.LoopIn
import Derived.ProofKit
import Derived.OpenShut
import Derived.Deep.DeepHandedRow
import Derived.Deep.Matrix
import Derived.Lib.LaidTab
import Derived.Test.YtiipdodkemakeaaGreatDoorTie
import Derived.Test.YtiipdodkemakeaaGreatDoorCards
set_option linter.unusedVariables false
set_option linter.unusedSimpArgs false
namespace Go.Vm
open Go Go.Am Go.Big
variable{C n i k:Nat}{r x z y:LiQ}{d div N:Int}{α:Type}{l:List (List Q)}{vals f4 f6:Bool}{v u:Q}{e:List I4}{A0 A1 A2:Nat×Bk}
def ahm(p:LiQ):Option LiQ->LiQ->LiQ->LLQ->LLQ->Option LiQ
 | o,own,n,st::ss,be::bs=>ahm p (match o with
   |none=>some (abl n [own,st,be])
   |some m=>some (if wI p (abl n [own,st,be])<wI p m then abl n [own,st,be]else m)) own n ss bs
 |o,_,_,_,_=>o
def opV(b:Nat):Option LiQ->V
 |none=>.d nPQ
 |some m=>szV (szI b m)
structure akq(p:LiQ)(b Bd:Nat):Prop where
 hp:pcS p
 b0:0<b
 b1:b<1000000
 B1:Bd<100000000000
def okR(p:LiQ)(Bd:Nat)(l:LLQ):Prop:=∀r∈l,r.length=p.length∧bdN Bd r
def agZ(p:LiQ):LLQ->List LLQ->LLQ->LLQ
 |o::os,ss::sss,bs=>((ahm p none o (List.replicate p.length 0) ss bs).getD [])::agZ p os sss bs
 |_,_,_=>[]
def Ja(p:LiQ):List LLQ->List (List LLQ)->List LLQ
 |o::o2::os,ss::sss=>agZ p o ss ((Ja p (o2::os) sss).headD [])::Ja p (o2::os) sss
 |l,_=>l
structure akr(p:LiQ)(b Bd:Nat)(owns:List LLQ)(steps:List (List LLQ)):Prop where
 g:akq p b Bd
 ne:0<owns.length
 hl:steps.length=owns.length
 hN:owns.length<1000000
 ho:∀o∈owns,0<o.length∧o.length<1000000∧okR p Bd o
 hs:∀k,k+1<owns.length->(nth [] steps k).length=(nth [] owns k).length∧∀ss∈nth [] steps k,ss.length=(nth [] owns (k+1)).length∧okR p Bd ss
 hB:∀m,m<owns.length->∀r∈Ja p (owns.drop m) (steps.drop m),r.length<1000000∧okR p Bd r
section
variable{a:Ad}
def HF(a:Ad)(k:Nat):LLQ:=(List.range (nth [] a.cd k).length).map (abT a k)
def NS(a:Ad)(k i:Nat):LLQ:=(List.range (nth [] a.cd (k+1)).length).map (stW a k i)
def NT(a:Ad)(k:Nat):List LLQ:=(List.range (nth [] a.cd k).length).map (NS a k)
def Ca(a:Ad):List LLQ:=(List.range a.cd.length).map (HF a)
def IM(a:Ad):List (List LLQ):=(List.range a.cd.length).map (NT a)
end
section
variable{a:Ad}{h:Hp}
end
section
variable{a:Ad}{h:Hp}
end
theorem aaV{B:Nat}(h:bdN B r)(hc:B<=C):bdN C r:=fun x hx=>Zz (h x hx) hc
section
variable{p:LiQ}{b:Nat}
structure aa9(p:LiQ)(b B:Nat)(owns:List LLQ)(steps:List (List LLQ)):Prop where
 hp:pcS p
 b0:0<b
 b1:b<1000000
 ne:0<owns.length
 five:owns.length<=5
 B1:B<=2000000
 hl:steps.length=owns.length
 ho:∀o∈owns,0<o.length∧o.length<1000000∧okR p B o
 hs:∀k,k+1<owns.length->(nth [] steps k).length=(nth [] owns k).length∧∀ss∈nth [] steps k,ss.length=(nth [] owns (k+1)).length∧okR p B ss
variable{B:Nat}{owns:List LLQ}{steps:List (List LLQ)}
def p3:Nat->Nat
 |0=>1
 |n+1=>p3 n+p3 n+p3 n
theorem ag7(h:n<=4):p3 n<=81:=by have:n=0∨n=1∨n=2∨n=3∨n=4:=aa;rcases this with rfl|rfl|rfl|rfl|rfl<;>decide
theorem aa9.le(P:aa9 p b B owns steps){d:Nat}(h:d<=4):B*p3 d<=200000000:=by have h1:=Zp P.B1 (ag7 h);omega
end
section
variable{a:Ad}
theorem A7(d:α)(f:Nat->α)(h:i<n):nth d ((List.range n).map f) i=f i:=by grind[cF]
theorem ua.pre(G:ua a):aa9 a.p a.w.2 1920000 (Ca a) (IM a):=by
 obtain⟨w1,w2,w3,w4⟩:=G.w0;have h5:=G.five;have hcl:=G.cl;have hlen:=G.wk.len;refine⟨G.hp,w1.1,aa,by grind[Ca],by grind[Ca],aa,by simp[Ca,IM],fun o h=>?_,fun k hk=>?_⟩
 .simp only[Ca,Zy,Yl]at h;obtain⟨k,hk,rfl⟩:=h;obtain⟨n1,n2⟩:=G.cn _ (dC (d:=[]) hk);refine⟨by grind[HF],by grind[HF],fun r hr=>?_⟩
  grind[HF,ownW,aaV]
 .simp only[Ca,List.length_map,Xf]at hk;unfold Ca IM;rw[A7 _ _ (show k<a.cd.length by omega),A7 _ _ (show k<a.cd.length by omega),A7 _ _ hk];refine⟨by simp[NT,HF],fun ss hss=>?_⟩;simp only[NT,Zy,Yl]at hss;obtain⟨i,hi,rfl⟩:=hss;refine⟨by simp[NS,HF],fun r hr=>?_⟩
  simp only[NS,Zy,Yl]at hr;obtain⟨j,hj,rfl⟩:=hr;exact G.stepW (i:=k) aa hi hj
end
section
variable{a:Ad}
theorem OX{h:Hp}(hu:(h.all fun x=>aB h.length x.2)=true){l:List Q}(hl:0<l.length)(hb:l.length<1000000000):CI Y F.aQ [szV l] h (.new 2 ((l.map tx).flatMap bJ) false l.length l.length) h:=by
 refine nL ?_;have fl:((l.map tx).flatMap bJ).length=l.length*2:=by rw[jS bJ ci,List.length_map]
 have e:szV l=.d (.sl l.length ((l.map tx).flatMap bJ)):=by unfold szV lJ;rw[List.length_map]
 rw[e];generalize(l.map tx).flatMap bJ=cells at *
 have nl:∀(H:Hp)(k:V->Prop)(u:PU k),rn (yd H .eql (.d (.sl l.length cells)) (.d nPQ)) k u=k (.d (.bool false)):=fun H k u=>by
  obtain⟨m,hm⟩:∃m,l.length=m+1:=⟨l.length-1,aa⟩;rw[hm];rfl
 simp[aQ,nl]
 have hli:eV 0 [D.str [],D.str []] [] (h++[(0,Bk.none),(0,Bk.none)])=some ([],h++[(0,Bk.none),(0,Bk.none)]):=by
  simp[eV,gW,jj]
 rw[hli];simp;refine TC (z:=[]) af hl aa aa ?_;refine⟨ae,?_,.inr (.inr (.inl ⟨h.length+1,1,l.length,l.length,2,cells,false,ae,aa,by simp[ax],rfl⟩))⟩;simp only[Yw,hu,Yb]
 try simp[aB]
def rA(a:Ad):List LLQ:=Ja a.p (Ca a) (IM a)
end
section
variable{p:LiQ}{b B:Nat}{owns:List LLQ}{steps:List (List LLQ)}
end
section
variable{a:Ad}
end
section
variable{a:Ad}
def dn(n:Nat):D:=di (n:Int)
end
theorem aaL(x:Q):biA [.str [],.str []] .neq (.agg (qT x)) (.agg (qT x))=some (B false):=by simp[biA,qT,CL,eqC]
theorem Hs{r:List Q}(hN:r.length<1000000)(K:KL)(hK:K (.exit 0) [] []):∀(q l:List Q),l++q=r ->
  lp (jJ (CX Y) (szV r) (szV r)) [] [] [I l.length] [] K
 | [],l,hl=>by
  have e:l=r:=by simpa using hl
  subst e;have lr:aY (szV l)=some (I l.length):=by simp[szV]
  refine ak ?_;simp[jJ,lr];exact hK
 | x::q,l,hl=>by
  have hll:r.length=l.length+(q.length+1):=by rw[<-hl];simp
  have ih:=Hs hN K hK q (l++[x]) (by grind);obtain⟨w,w1,w2⟩:=agN r [] (i:=l.length) aa;have hn:nth (0,1) r l.length=x:=by rw[<-hl,Dc]
  rw[hn]at w2;have g:(l.length:Int)<r.length:=aa;have e2:((l++[x]).length:Int)=(l.length:Int)+1:=ae;rw[e2]at ih;have lr:aY (szV r)=some (I r.length):=by simp[szV]
  have bs:=aaL x;refine ak ?_;simp(disch:=try exact ac)[jJ,lr,g,w1,w2,bs];exact ih
theorem tM{r:List Q}(hN:r.length<1000000):CP Y F.cx [szV r,szV r] (B true):=by
 refine xr ?_;have lr:aY (szV r)=some (I r.length):=by simp[szV]
 have:=Hs hN (exK [(Exit.exit 0,fun l4 h=>out (B true) (B true) h),(Exit.ret,fun l4 h=>out (B true) (ge l4 0) h)]) (fC rfl) r [] rfl;simp[cx,lr];exact this
section
variable{g:FuncId}{cs:LwQ}{cf:List Q->List Q->Int}
def mnS(cf:List Q->List Q->Int)(m:List Q)(l:List (List Q)):List Q:=l.foldl (fun m y=>if cf y m<0 then y else m) m
theorem Jq(hs:∀a b,ai [] ([szV a,szV b]++cs)=some ([szV a,szV b]++cs,[])){L:List (List Q)}(hn:L.length<1000)(hc:∀a∈L,∀b∈L,CP Y g ([szV a,szV b]++cs) (I (cf a b)))(K:KL) :
  ∀(q a:List (List Q))(m:List Q),L=a++q->m∈L->K (.exit 0) [szV (mnS cf m q)] [] ->
  lp (cU (CX Y) (lst szD L) (.fn g [] cs)) [] [] [szV m,I a.length] [] K
 | [],a,m,e,hm,hK=>by
  simp only[Zj]at e;subst e;refine ak ?_;have l1:aY (lst szD L)=some (I L.length):=rfl;have hlt:¬((L.length:Int)<(L.length:Int)):=aa;simp only[cU];simp[l1,hlt];exact hK
 | y::q,a,m,e,hm,hK=>by
  refine ak ?_;have l1:aY (lst szD L)=some (I L.length):=rfl;have hal:a.length<L.length:=by rw[e];simp
  have hlt:((a.length:Int)<(L.length:Int)):=aa;have hy:y∈L:=by rw[e];simp
  have i1:ixV [] 1 (lst szD L) (I a.length)=some (.dptr (L.map szD) a.length):=by rw[e];exact oz szD a y q _ _
  have i2:ld1 [] (.dptr (L.map szD) a.length)=some (szV y):=by
   rw[lK szD L _ hal];simp only[e,Zk (Z8 _),Za,Zf];rfl
  have e4:((a++[y]).length:Int)=(a.length:Int)+1:=ae;simp only[cU];simp[l1,hlt];refine aJ ?_;simp[i1,i2];refine cdf (fs:=[]) (hc y hy m hm) (hs y m) ?_;by_cases h:cf y m<0
  .have ih:=Jq hs hn hc K q (a++[y]) y (by simp[e]) hy (by grind[mnS]);rw[e4]at ih;simp[h];refine aJ ?_;simp(disch:=try exact ac)[i1,i2];trivial
  .have ih:=Jq hs hn hc K q (a++[y]) m (by simp[e]) hm (by grind[mnS]);rw[e4]at ih;simp[h];refine aJ ?_;simp(disch:=try exact ac);trivial
theorem acb(hs:∀a b,ai [] ([szV a,szV b]++cs)=some ([szV a,szV b]++cs,[])){x:List Q}(hn:(x::l).length<1000)(hc:∀a∈x::l,∀b∈x::l,CP Y g ([szV a,szV b]++cs) (I (cf a b))):
  CP Y F.bF [lst szD (x::l),.fn g [] cs] (szV (mnS cf x l)):=by
 refine oi ?_;have l1:aY (lst szD (x::l))=some (I (x::l).length):=rfl;have g1:¬(((x::l).length:Int)<1):=by simp;omega
 have i1:ixV [] 1 (lst szD (x::l)) (.d (.int .i64 0))=some (.dptr ((x::l).map szD) 0):=iC szD _ [] rfl ae;have i2:ld1 [] (.dptr ((x::l).map szD) 0)=some (szV x):=rfl;obtain⟨L,hL⟩:∃L,L=x::l:=⟨_,rfl⟩;rw[<-hL]at l1 g1 i1 i2 hn hc ⊢;simp only[bF];simp[l1];refine aJ ?_;simp[g1,i1,i2]
 refine lo (Jq hs hn hc _ l [x] x (by trivial) (by grind) ?_);simp;exact⟨_,rfl⟩
def mxS(cf:List Q->List Q->Int)(m:List Q)(l:List (List Q)):List Q:=l.foldl (fun m y=>if cf y m>0 then y else m) m
theorem QB(cf:List Q->List Q->Int):∀(l:List (List Q))(m:List Q),mxS cf m l∈m::l
 |[],m=>by simp[mxS]
 | y::l,m=>by
  have:=QB cf l (if cf y m>0 then y else m)
  grind[mxS]
theorem Jr(hs:∀a b,ai [] ([szV a,szV b]++cs)=some ([szV a,szV b]++cs,[])){L:List (List Q)}(hn:L.length<1000)(hc:∀a∈L,∀b∈L,CP Y g ([szV a,szV b]++cs) (I (cf a b)))(K:KL) :
  ∀(q a:List (List Q))(m:List Q),L=a++q->m∈L->K (.exit 0) [szV (mxS cf m q)] [] ->
  lp (cV (CX Y) (lst szD L) (.fn g [] cs)) [] [] [szV m,I a.length] [] K
 | [],a,m,e,hm,hK=>by
  simp only[Zj]at e;subst e;refine ak ?_;have l1:aY (lst szD L)=some (I L.length):=rfl;have hlt:¬((L.length:Int)<(L.length:Int)):=aa;simp only[cV];simp[l1,hlt];exact hK
 | y::q,a,m,e,hm,hK=>by
  refine ak ?_;have l1:aY (lst szD L)=some (I L.length):=rfl;have hal:a.length<L.length:=by rw[e];simp
  have hlt:((a.length:Int)<(L.length:Int)):=aa;have hy:y∈L:=by rw[e];simp
  have i1:ixV [] 1 (lst szD L) (I a.length)=some (.dptr (L.map szD) a.length):=by rw[e];exact oz szD a y q _ _
  have i2:ld1 [] (.dptr (L.map szD) a.length)=some (szV y):=by
   rw[lK szD L _ hal];simp only[e,Zk (Z8 _),Za,Zf];rfl
  have e4:((a++[y]).length:Int)=(a.length:Int)+1:=ae;simp only[cV];simp[l1,hlt];refine aJ ?_;simp[i1,i2];refine cdf (fs:=[]) (hc y hy m hm) (hs y m) ?_;by_cases h:cf y m>0
  .have ih:=Jr hs hn hc K q (a++[y]) y (by simp[e]) hy (by grind[mxS]);rw[e4]at ih;simp[h];refine aJ ?_;simp(disch:=try exact ac)[i1,i2];trivial
  .have ih:=Jr hs hn hc K q (a++[y]) m (by simp[e]) hm (by grind[mxS]);rw[e4]at ih;simp[h];refine aJ ?_;simp(disch:=try exact ac);trivial
theorem acd(hs:∀a b,ai [] ([szV a,szV b]++cs)=some ([szV a,szV b]++cs,[])){x:List Q}(hn:(x::l).length<1000)(hc:∀a∈x::l,∀b∈x::l,CP Y g ([szV a,szV b]++cs) (I (cf a b))):
  CP Y F.bG [lst szD (x::l),.fn g [] cs] (szV (mxS cf x l)):=by
 refine oj ?_;have l1:aY (lst szD (x::l))=some (I (x::l).length):=rfl;have g1:¬(((x::l).length:Int)<1):=by simp;omega
 have i1:ixV [] 1 (lst szD (x::l)) (.d (.int .i64 0))=some (.dptr ((x::l).map szD) 0):=iC szD _ [] rfl ae;have i2:ld1 [] (.dptr ((x::l).map szD) 0)=some (szV x):=rfl;obtain⟨L,hL⟩:∃L,L=x::l:=⟨_,rfl⟩;rw[<-hL]at l1 g1 i1 i2 hn hc ⊢;simp only[bG];simp[l1];refine aJ ?_;simp[g1,i1,i2]
 refine lo (Jr hs hn hc _ l [x] x (by trivial) (by grind) ?_);simp;exact⟨_,rfl⟩
end
def btG(w:Mz)(div:Int):Mz->List (List Q)
 |[]=>[]
 |x::q=>if nth 0 (bI w x) 1=0 then btG w div q else kt (bI w x) div 0 x::btG w div q
theorem ac7(w:Mz)(div:Int)(a:Mz)(x:LiQ):btG w div (a++[x])=if nth 0 (bI w x) 1=0 then btG w div a else btG w div a++[kt (bI w x) div 0 x]:=by
 induction a with
 |nil=>rfl
 | cons y a ih=>
  grind[btG]
theorem Ka(w:Mz)(div:Int):∀a:Mz,(btG w div a).length<=a.length
 |[]=>Z8 _
 | y::a=>by
  have:=Ka w div a
  grind[btG]
theorem LE{p:LiQ}(hr2:2<=r.length)(h1:nth 0 r 1=0):CP Y F.gN [lst di p,lst di x,lst di r,I div] (.tup [szV [],B false,I 0]):=by
 refine uW ?_;have j1:∀h:Hp,ixV h 1 (lst di r) (.d (.int .i64 1))=some (.dptr (r.map di) 1):=fun h=>iC di r h rfl aa
 have j2:∀h:Hp,ld1 h (.dptr (r.map di) 1)=some (I (nth 0 r 1)):=fun h=>gn di 0 r h aa
 simp only[gN];simp[j1,j2,h1];exact⟨_,rfl⟩
theorem afL{p:LiQ}{C W:D}{a b:List Q}{z:Int}(hp:pcB p=0)(hN:p.length<1000)(ha:a.length=p.length)(hb:b.length=p.length)(oa:okS a)(ob:okS b)(hz:IZ p (dfS p a b) z):
  CP Y F.bh [szV a,szV b,.dptr [.sl p.length (p.map di),C,W] 0] (I z):=by
 refine u7 ?_;have l0:∀h,ld1 h (.dptr [.sl p.length (p.map di),C,W] 0)=some (lst di p):=fun h=>rfl
 simp only[bh];simp[l0];refine cd (args:=[lst di p,szV a,szV b]) (Pg hp hN ha hb oa ob hz) ?_ (by rfl);simp
section
variable{p:LiQ}{c w:Mz}
def aif(p:LiQ)(w:Mz)(div:Int)(x:LiQ):Prop:=nth 0 (bI w x) 1≠0->okS (kt (bI w x) div 0 x)
theorem aaF(h:xE p c w)(w2:w.length=2){div:Int}(hd:div≠0)(hdb : -1000000000<=div∧div<=1000000000){l:Mz}(hl:l.length<1000)(ho:∀x∈l,Nx p w x)(hpu:∀x∈l,aif p w div x)(b1 b3:Nat×Bk)(h0:Hp)(K:KL) :
  ∀(q a:Mz),l=a++q ->
  K (.exit 0) [(acU 2).v (btG w div l).length ((btG w div l).map szD)] [(1,.vars [lst di p,mat c,mat w]),b1,(acU 2).b (btG w div l).length ((btG w div l).map szD),b3] ->
  lp (kv (CX Y) (.ptr 0 1 0 3) (.ptr 1 1 0 5) (mat (l.map (bI w))) (I div) (mat l) (I l.length)) [] h0 [(acU 2).v (btG w div a).length ((btG w div a).map szD),I a.length] [(1,.vars [lst di p,mat c,mat w]),b1,(acU 2).b (btG w div a).length ((btG w div a).map szD),b3] K
 | [],a,e,hK=>by
  simp only[Zj]at e;subst e;refine ak ?_;have hlt:¬((l.length:Int)<(l.length:Int)):=aa;simp only[kv];simp[hlt];exact hK
 | x::q,a,e,hK=>by
  refine ak ?_;have hlt:((a.length:Int)<(l.length:Int)):=by rw[e];simp;omega
  have hal:a.length<l.length:=aa;have hxm:x∈l:=by rw[e];simp
  have hx:=ho x hxm;have i1:∀h:Hp,ixV h 1 (mat l) (I a.length)=some (.dptr (l.map row) a.length):=fun h=>by simp_all
  have i2:∀h:Hp,ld1 h (.dptr (l.map row) a.length)=some (lst di x):=fun h=>by
   rw[lK row l _ hal];simp only[e,Zk (Z8 _),Za,Zf];rfl
  obtain⟨rows,hrows⟩:=nmQ (l.map (bI w));have hrl:rows.length=l.length:=by rw[hrows];simp
  have hre:rows[a.length]'(by omega)=bI w x:=by
   have:rows=a.map (bI w)++bI w x::q.map (bI w):=by rw[hrows,e];simp
   simp[this]
  have j1:∀h:Hp,ixV h 1 (mat rows) (I a.length)=some (.dptr (rows.map row) a.length):=fun h=>iC row rows h rfl aa
  have j2:∀h:Hp,ld1 h (.dptr (rows.map row) a.length)=some (lst di (bI w x)):=fun h=>by
   rw[lK row rows _ aa,hre];rfl
  have tl:(bI w x).length=2:=by simp[bI,w2]
  have e4:((a++[x]).length:Int)=(a.length:Int)+1:=ae;have ih:=aaF h w2 hd hdb hl ho hpu b1 b3 h0 K q (a++[x]) (by simp[e]) hK;rw[e4,ac7,<-hrows]at ih;rw[<-hrows];have hx0:x≠[]:=fun e0=>by have h1:=hx.l;rw[e0,List.length_nil]at h1;have:=h.lw.n0;omega
  have hn:=h.lc.n12;obtain⟨gs,hgs⟩:=nmQ (btG w div a);have hgl:gs.length<=a.length:=by rw[hgs];exact Ka w div a
  rw[<-hgs]at ih ⊢;obtain⟨H,hH⟩:∃H:Hp,H=[(1,.vars [lst di p,mat c,mat w]),b1,(acU 2).b gs.length (gs.map szD),b3]:=⟨_,rfl⟩;have g0:iZ H 0 1=.vars [lst di p,mat c,mat w]:=by rw[hH];rfl
  rw[<-hH];simp only[kv];simp[hlt];refine aJ ?_;simp[i1,i2,j1,j2,g0];by_cases c0:nth 0 (bI w x) 1=0
  .refine cd (LE (p:=p) (x:=x) (div:=div) aa c0) ?_;rw[if_pos c0,<-hH]at ih;simp;refine aJ ?_;simp(disch:=try exact ac)
   grind[fS,lo]
  .refine cd (pure_ok h.pr hx.l aa hx.t c0 hd hdb hx.b (by grind[Nx.l]) hx0 (hpu x hxm c0)) ?_;rw[if_neg c0]at ih;obtain⟨g,hg⟩:=nmQ (kt (bI w x) div 0 x);rw[<-hg]at ih ⊢;have hli:eV 1 [nPQ] [(0,szV g)] H=some ([szD g],H):=XS ..;simp;refine aJ ?_;simp[hli]
   refine oh (acU 2) (by_:=24) (k:=1) (cs:=[szD g]) aa (by rw[hH];rfl) (by simp[acU]) (by rfl) rfl (by grind) aa (by simp[acU]) ?_;have hs:H.set (acU 2).s ((acU 2).b (gs.length+1) (gs.map szD++[szD g]))=[(1,.vars [lst di p,mat c,mat w]),b1,(acU 2).b (gs.length+1) (gs.map szD++[szD g]),b3]:=by rw[hH];rfl
   rw[hs];simp(disch:=try exact ac)
   simp_all[fS]
theorem abV{lo hi:List Q}{hl hh em:Bool}{z:Int}{v:V}{H H':Hp}(hv:aD H v=some (szV hi,H')):out (.tup [rgV ⟨lo,hi,hl,hh,em⟩,I z]) (.tup [.agg [szV lo,v,B hl,B hh,B em],I z]) H:=by have s1:aD H (szV lo)=some (szV lo,H):=rfl;have s2:aD H' (B hl)=some (B hl,H'):=rfl;have s3:aD H' (B hh)=some (B hh,H'):=rfl;have s4:aD H' (B em)=some (B em,H'):=rfl;have s5:aD H' (I z)=some (I z,H'):=rfl;refine⟨H',?_⟩;simp only[aD.eq_4,aD.eq_3,ai,s1,hv,s2,s3,s4,s5];rfl
theorem O4(h:xE p c w)(hg:gtB w=0){l:Mz}(hl:l.length<=60)(ho:∀x∈l,Nx p w x)(hm:mzB p l=0)(hpu:∀x∈l,aif p w (nth 0 (nth [] w 0) 0) x){g:List Q}{gs:List (List Q)}(hgs:btG w (nth 0 (nth [] w 0) 0) l=g::gs)
  {cf:List Q->List Q->Int} (hok:∀a∈g::gs,a.length=p.length∧okS a) (hc:∀a∈g::gs,∀b∈g::gs,IZ p (dfS p a b) (cf a b)) :
  CP Y F.fe [tpV p c w,mat l] (.tup [rgV ⟨mnS cf g gs,mxS cf g gs,true,true,false⟩,I 0]):=by
 refine xQ ?_;simp only[fe,tpV];obtain⟨div,hdiv⟩:=nmQ (nth 0 (nth [] w 0) 0)
 have w2:w.length=2:=by
  apply Classical.byContradiction;intro e;simp[gtB,e]at hg
 have hd:div≠0:=by
  rw[hdiv];intro e;simp[gtB,w2,e]at hg
 have hw0:nth [] w 0∈w:=by rw[cF _ _ _ aa];exact Ze _
 have hdb : -1000000000<=div∧div<=1000000000:=by
  rw[hdiv];exact h.lw.sm _ hw0 _ (dC (by rw[h.lw.rl _ hw0];exact h.lw.n0))
 have td:=IK h hg hl ho hm;have hn:=h.lc.n12;have l1:aY (mat l)=some (I l.length):=rfl;rw[<-hdiv]at td hpu hgs;simp;refine cd (args:=[tpV p c w,mat l]) td ?_ (by rfl);simp[l1];refine lo (aaF h w2 hd hdb aa ho hpu (1,.vars [nlV,nlV,B false,B false,B false]) nnQ _ _ l [] rfl ?_);rw[hgs];have hgl:(g::gs).length<=l.length:=by rw[<-hgs];exact Ka w div l
 obtain⟨H,hH⟩:∃H:Hp,H=[(1,.vars [lst di p,mat c,mat w]),(1,.vars [nlV,nlV,B false,B false,B false]),(acU 2).b (g::gs).length ((g::gs).map szD),nnQ]:=⟨_,rfl⟩;rw[<-hH];obtain⟨G,hG⟩:∃G,G=(acU 2).v (g::gs).length ((g::gs).map szD):=⟨_,rfl⟩;rw[<-hG];have lg:aY G=some (I (g::gs).length):=by rw[hG];rfl
 have gne:¬(((g::gs).length:Int)=0):=by simp;omega
 obtain⟨D3,hD3⟩:∃D3:LdQ,D3=[.sl p.length (p.map di),.sl c.length (c.map row),.sl w.length (w.map row)]:=⟨_,rfl⟩;obtain⟨H1,hH1⟩:∃H1:Hp,H1=[(1,.data 1 D3 false true),(1,.vars [nlV,nlV,B false,B false,B false]),(1,.data 1 ((g::gs).map szD) false true),nnQ]:=⟨_,rfl⟩
 have sG:∀(H2:Hp)(f:Bool),H2[2]?=some (1,.data 1 ((g::gs).map szD) false f)->aD H2 G=some (lst szD (g::gs),H2.set 2 (1,.data 1 ((g::gs).map szD) false true)):=fun H2 f h2=>by
  rw[hG];simp only[acU,Acc.v,List.length_cons,aD,toD,ax,h2,if_true];rw[if_pos ae];simp[bL,lst];exact Zw ae
 have sn1:ai H [G,.fn F.bh [] [.ptr 0 1 0 3]]=some ([lst szD (g::gs),.fn F.bh [] [.dptr D3 0]],H1):=by
  have e1:=sG H false (by rw[hH];rfl);simp only[ai,e1];rw[hH,hH1,hD3];rfl
 have sn2:ai H1 [G,.fn F.bh [] [.ptr 0 1 0 3]]=some ([lst szD (g::gs),.fn F.bh [] [.dptr D3 0]],H1):=by
  have e1:=sG H1 true (by grind);simp only[ai,e1];rw[hH1,hD3];rfl
 have hcp:∀a∈g::gs,∀b∈g::gs,CP Y F.bh ([szV a,szV b]++[.dptr D3 0]) (I (cf a b)):=fun a ha b hb=>by
  rw[hD3];exact afL h.pr aa (hok a ha).1 (hok b hb).1 (hok a ha).2 (hok b hb).2 (hc a ha b hb)
 have hsn:∀a b:List Q,ai [] ([szV a,szV b]++[.dptr D3 0])=some ([szV a,szV b]++[.dptr D3 0],[]):=fun a b=>rfl
 have c1:=acb hsn aa hcp;have c2:=acd hsn aa hcp;have okz:∀s:List Q,okV (szV s)=true:=fun _=>rfl
 obtain⟨mn,hmn⟩:=nmQ (mnS cf g gs);obtain⟨mx,hmx⟩:=nmQ (mxS cf g gs);have hml:mx.length=p.length:=(hok mx (by grind[QB])).1;have hp0:=h.lw.n0;rw[<-hmn]at c1;rw[<-hmx]at c2;rw[<-hmn,<-hmx];simp(disch:=try exact ac)[lg,gne];refine pY sn1 c1 ?_;rw[show(if cC (szV mn)=true then H else H1)=H1 from rfl];simp;refine pY sn2 c2 ?_
 rw[show(if cC (szV mx)=true then H1 else H1)=H1 from rfl];have hu:(H1.all fun x=>aB H1.length x.2)=true:=by rw[hH1];rfl
 have cl:=OX hu (l:=mx) aa aa;simp;refine gv cl (s:=3) (e:=0) (b:=.none) (by grind) ?_;rw[hH1];have hlen:((mx.map tx).flatMap bJ).length=mx.length*2:=by rw[jS bJ ci,List.length_map]
 rw[hlen];have hb:bld [(0,1),(1,1),(2,1),(3,1),(4,1)] [nPQ,nPQ,D.bool false,D.bool false,D.bool false] [(0,szV mn),(1,V.ref 3 1 0 mx.length mx.length (mx.length*2)),(2,V.d (D.bool true)),(3,V.d (D.bool true))]=some (.agg [szV mn,.ref 3 1 0 mx.length mx.length (mx.length*2),B true,B true,B false]):=rfl
 show bnd (bld [(0,1),(1,1),(2,1),(3,1),(4,1)] [nPQ,nPQ,D.bool false,D.bool false,D.bool false] [(0,szV mn),(1,V.ref 3 1 0 mx.length mx.length (mx.length*2)),(2,V.d (D.bool true)),(3,V.d (D.bool true))]) _
 rw[hb];simp[okz];have sr:=fun(H2:Hp)(hg:H2[3]?=some (1,.data 2 ((mx.map tx).flatMap bJ) false false))=>UI (h:=H2) (s:=3) (e:=1) (n:=mx.length) (l:=mx.map tx) (ex:=false) (fr:=false) hg ae
 exact abV (sr _ rfl)
end
theorem EQ{n:Int}(hd:d≠0):(gm n d).1*d=n*((gm n d).2:Int)∧0<(gm n d).2:=by
 unfold gm;split
 .rename_i h;obtain⟨h1,h2⟩:=Dl (-n) (d:=d.natAbs) aa;refine⟨?_,h2⟩;rw[show((d.natAbs:Nat):Int) = -d by omega]at h1
  grind
 .rename_i h;obtain⟨h1,h2⟩:=Dl n (d:=d.natAbs) aa;rw[show((d.natAbs:Nat):Int)=d by omega]at h1;omega
theorem WH(hu:okQ u)(hv:okQ v)(h:u.1*(v.2:Int)=v.1*(u.2:Int)):u=v:=by
 obtain⟨a,b⟩:=u;obtain⟨c,d⟩:=v;obtain⟨h1,h2⟩:=hu;obtain⟨h3,h4⟩:=hv;simp only at h1 h2 h3 h4 h;have e:=congrArg Int.natAbs h;rw[Zl,Zl,Int.natAbs_natCast,Int.natAbs_natCast]at e
 have d1:b∣d:=by
  have:b∣a.natAbs*d:=by rw[e];exact Nat.dvd_mul_left ..
  exact(Nat.Coprime.symm h2).dvd_of_dvd_mul_left this
 have d2:d∣b:=by
  have:d∣c.natAbs*b:=by rw[<-e];exact Nat.dvd_mul_left ..
  exact(Nat.Coprime.symm h4).dvd_of_dvd_mul_left this
 have ebd:b=d:=Nat.dvd_antisymm d1 d2;subst ebd;have:a=c:=Yd aa h
 grind
theorem LS{K:Int}(hK:K≠0)(hu:okQ u)(hv:okQ v)(h1:u.1*K=N*(u.2:Int))(h2:v.1*K=N*(v.2:Int)):u=v:=by
 refine WH hu hv (Yd hK ?_)
 calc u.1*(v.2:Int)*K=u.1*K*v.2:=by grind
  _=N*u.2*v.2:=by rw[h1]
  _=v.1*K*u.2:=by grind
  _=v.1*(u.2:Int)*K:=by grind
theorem AT{x:Int}(hd:div≠0)(h1:nth 0 r 1≠0):okQ (ii r div 0 x)∧(ii r div 0 x).1*(nth 0 r 1*div)=(x*div-nth 0 r 0)*((ii r div 0 x).2:Int):=by
 obtain⟨a1,a2⟩:=EQ (n:=nth 0 r 0) hd;have e:ii r div 0 x=gm ((o5 (x,1) (vh (gm (nth 0 r 0) div))).1*((1:Nat):Int)) (((o5 (x,1) (vh (gm (nth 0 r 0) div))).2:Int)*nth 0 r 1):=by simp[ii,qU]
 obtain⟨u,hu⟩:=nmQ (gm (nth 0 r 0) div);rw[<-hu]at a1 a2 e;obtain⟨b1,b2⟩:=Dl (x*(u.2:Int) + -u.1*((1:Nat):Int)) (d:=1*u.2) aa;have eq:o5 (x,1) (vh u)=kX (x*(u.2:Int) + -u.1*((1:Nat):Int)) (1*u.2):=rfl;rw[eq]at e;obtain⟨s,hs⟩:∃s,s=kX (x*(u.2:Int) + -u.1*((1:Nat):Int)) (1*u.2):=⟨_,rfl⟩;rw[<-hs]at b1 b2 e
 have hsd:(s.2:Int)*nth 0 r 1≠0:=Yf aa h1;obtain⟨c1,c2⟩:=EQ (n:=s.1*((1:Nat):Int)) hsd;have hok:=w6 (n:=s.1*((1:Nat):Int)) hsd;rw[<-e]at c1 c2 hok;refine⟨hok,?_⟩;generalize ii r div 0 x=A at *
 have k1:s.1*div=(x*div-nth 0 r 0)*s.2:=by
  refine Yd (a:=(u.2:Int)) aa ?_
  have b1':s.1*(u.2:Int)=(x*u.2-u.1)*s.2:=by
   have:=b1;simp only[Xn,Int.natCast_one,Int.mul_one]at this;rw[this];grind
  calc s.1*div*(u.2:Int)=s.1*u.2*div:=by grind
   _=(x*u.2-u.1)*s.2*div:=by rw[b1']
   _=(x*u.2*div-u.1*div)*s.2:=by grind
   _=(x*u.2*div-nth 0 r 0*u.2)*s.2:=by rw[a1]
   _=(x*div-nth 0 r 0)*s.2*u.2:=by grind
 refine Yd (a:=(s.2:Int)) aa ?_;have c1':A.1*(s.2*nth 0 r 1)=s.1*A.2:=by simpa using c1
 calc A.1*(nth 0 r 1*div)*(s.2:Int)=A.1*(s.2*nth 0 r 1)*div:=by grind
  _=s.1*A.2*div:=by rw[c1']
  _=s.1*div*A.2:=by grind
  _=(x*div-nth 0 r 0)*s.2*A.2:=by rw[k1]
  _=(x*div-nth 0 r 0)*A.2*s.2:=by grind
theorem AS{x:Int}(hi:i≠0)(h1:nth 0 r 1≠0):okQ (ii r div i x)∧(ii r div i x).1*nth 0 r 1=x*((ii r div i x).2:Int):=by
 have e:ii r div i x=gm (x*((1:Nat):Int)) (((1:Nat):Int)*nth 0 r 1):=by simp[ii,hi,qU]
 rw[e];have h:((1:Nat):Int)*nth 0 r 1≠0:=by simpa using h1
 grind[w6,EQ]
theorem Od{s:LiQ}{x y:Int}(hd:div≠0)(hr:nth 0 r 1≠0)(hs:nth 0 s 1≠0)(h0:i=0->(x*div-nth 0 r 0)*nth 0 s 1=(y*div-nth 0 s 0)*nth 0 r 1)(hI:i≠0->x*nth 0 s 1=y*nth 0 r 1):
  ii r div i x=ii s div i y:=by
 by_cases hi:i=0
 .subst hi;obtain⟨a1,a2⟩:=AT (x:=x) hd hr;obtain⟨b1,b2⟩:=AT (x:=y) hd hs;have e:=h0 rfl;refine LS (K:=nth 0 r 1*nth 0 s 1*div) (N:=(x*div-nth 0 r 0)*nth 0 s 1) (Yf (Yf hr hs) hd) a1 b1 ?_ ?_
  ·calc (ii r div 0 x).1*(nth 0 r 1*nth 0 s 1*div)=(ii r div 0 x).1*(nth 0 r 1*div)*nth 0 s 1:=by grind
    _=_:=by grind
  ·calc (ii s div 0 y).1*(nth 0 r 1*nth 0 s 1*div)=(ii s div 0 y).1*(nth 0 s 1*div)*nth 0 r 1:=by grind
    _=(y*div-nth 0 s 0)*nth 0 r 1*((ii s div 0 y).2:Int):=by grind
    _=_:=by rw[<-e]
 .obtain⟨a1,a2⟩:=AS (r:=r) (div:=div) (x:=x) hi hr;obtain⟨b1,b2⟩:=AS (r:=s) (div:=div) (x:=y) hi hs;have e:=hI hi;refine LS (K:=nth 0 r 1*nth 0 s 1) (N:=x*nth 0 s 1) (Yf hr hs) a1 b1 ?_ ?_
  ·calc (ii r div i x).1*(nth 0 r 1*nth 0 s 1)=(ii r div i x).1*nth 0 r 1*nth 0 s 1:=by grind
    _=_:=by grind
  ·calc (ii s div i y).1*(nth 0 r 1*nth 0 s 1)=(ii s div i y).1*nth 0 s 1*nth 0 r 1:=by grind
    _=y*nth 0 r 1*((ii s div i y).2:Int):=by grind
    _=_:=by rw[<-e]
theorem xZ{r s:LiQ}{div:Int}(hd:div≠0)(hr:nth 0 r 1≠0)(hs:nth 0 s 1≠0):∀{x y:LiQ}(i:Nat),x.length=y.length ->
  (∀j,j<x.length->(i+j=0->(nth 0 x j*div-nth 0 r 0)*nth 0 s 1=(nth 0 y j*div-nth 0 s 0)*nth 0 r 1)∧(i+j≠0->nth 0 x j*nth 0 s 1=nth 0 y j*nth 0 r 1))->kt r div i x=kt s div i y
 |[],[],i,_,_=>rfl
 |a::x,[],i,h,_=>by simp at h
 |[],b::y,i,h,_=>by simp at h
 | a::x,b::y,i,hl,h=>by
  have h0:=h 0 ae;simp only[Nat.add_zero]at h0;simp only[kt]
  rw [Od (x:=a) (y:=b) hd hr hs h0.1 h0.2,xZ hd hr hs (x:=x) (y:=y) (i+1) (by grind) fun j hj=>by
   have:=h (j+1) (by grind);rw[show i+(j+1)=i+1+j by omega]at this;exact this]
theorem XE(n d:Int):(gm n d).1.natAbs<=n.natAbs∧(gm n d).2<=d.natAbs:=by
 unfold gm;split
 .grind[zl]
 .exact zl n d.natAbs
theorem adO(h:n<10^20):ndg n<=30:=Zz (cQ h af) af
theorem QE{n:Int}(h1:n.natAbs<10^20)(h2:d.natAbs<10^20):qL 30 (gm n d):=ER (adO h1) (adO h2)
theorem LF{r:LiQ}{div:Int}(hr:bd9 r)(hr2:2<=r.length)(hd:div≠0)(hdb : -1000000000<=div∧div<=1000000000)(h1:nth 0 r 1≠0):∀{x:LiQ}(i:Nat),bd9 x->okS (kt r div i x)
 |[],i,_=>fun y hy=>by cases hy
 | a::x,i,hx=>by
  have hr1 : -1000000000<=nth 0 r 1∧nth 0 r 1<=1000000000:=hr _ (dC aa);have hr0 : -1000000000<=nth 0 r 0∧nth 0 r 0<=1000000000:=hr _ (dC aa);have ha:=hx a ae;intro y hy;simp only[kt,Zx]at hy;rcases hy with rfl|hy
  .by_cases hi:i=0
   .subst hi;refine⟨(AT hd h1).1,?_⟩;have e:ii r div 0 a=gm ((o5 (a,1) (vh (gm (nth 0 r 0) div))).1*((1:Nat):Int)) (((o5 (a,1) (vh (gm (nth 0 r 0) div))).2:Int)*nth 0 r 1):=by simp[ii,qU]
    obtain⟨u,hu⟩:=nmQ (gm (nth 0 r 0) div);have hul:=XE (nth 0 r 0) div;rw[<-hu]at e hul;have eq:o5 (a,1) (vh u)=kX (a*(u.2:Int) + -u.1*((1:Nat):Int)) (1*u.2):=rfl;obtain⟨q1,q2⟩:=zl (a*(u.2:Int) + -u.1*((1:Nat):Int)) (1*u.2);rw[eq]at e;rw[e];generalize kX (a*(u.2:Int) + -u.1*((1:Nat):Int)) (1*u.2)=s at *
    have m1:a.natAbs*u.2<=1000000000*1000000000:=Zp aa aa;have m2:s.2*(nth 0 r 1).natAbs<=1000000000*1000000000:=Zp aa aa
    grind[Xy,Zl,Int.natAbs_natCast,QE]
   .refine⟨(AS hi h1).1,?_⟩;have e:ii r div i a=gm (a*((1:Nat):Int)) (((1:Nat):Int)*nth 0 r 1):=by simp[ii,hi,qU]
    grind[QE]
  .exact LF hr hr2 hd hdb h1 (i+1) (fun z hz=>hx z (by grind)) y hy
section
variable{p:LiQ}{c w:Mz}
theorem acG(h:xE p c w)(hg:gtB w≠0):CP Y F.jQ [tpV p c w] (.tup [.agg [I 0,lst di [],lst di []],I (gtB w)]):=by refine wE ?_;simp only[jQ,tpV];simp;refine cd (args:=[tpV p c w]) (QX h) ?_ (by rfl);simp[hg];exact⟨_,rfl⟩
theorem Um(h:xE p c w)(hg:gtB w≠0){l:Mz}:CP Y F.cT [tpV p c w,mat l] (.tup [mat [],I 0,I (gtB w)]):=by
 refine qH ?_;simp only[cT,tpV];simp;refine cd (args:=[tpV p c w]) (acG h hg) ?_ (by rfl);have ok1:∀m:LiQ,okV (lst di m)=true:=fun _=>rfl
 simp[hg,ok1];exact⟨_,rfl⟩
def x8(w:Mz)(x:LiQ):List Q:=if gtB w≠0∨nth 0 (bI w x) 1=0 then[]else kt (bI w x) (nth 0 (nth [] w 0) 0) 0 x
def yX(w:Mz)(x:LiQ):Bool:=decide (gtB w=0∧nth 0 (bI w x) 1≠0)
theorem adz(h:xE p c w)(hx:gtB w=0->Nx p w x)(hm:mzB p [x]=0):CP Y F.gP [tpV p c w,lst di x] (.tup [szV (x8 w x),B (yX w x),I (gtB w)]):=by
 refine Cn ?_;have hli:∀h:Hp,eV 1 [nPQ] [(0,lst di x)] h=some ([row x],h):=fun h=>XS ..
 have ok1:∀m:Mz,okV (mat m)=true:=fun _=>rfl
 simp only[gP,tpV];simp[hli];by_cases hg:gtB w=0
 .have hx:=hx hg;have td:=IK h hg (l:=[x]) ae (fun y hy=>by grind) hm
  have w2:w.length=2:=by
   apply Classical.byContradiction;intro e;simp[gtB,e]at hg
  obtain⟨div,hdiv⟩:=nmQ (nth 0 (nth [] w 0) 0)
  have hd:div≠0:=by
   rw[hdiv];intro e;simp[gtB,w2,e]at hg
  have hw0:nth [] w 0∈w:=by rw[cF _ _ _ aa];exact Ze _
  have hdb : -1000000000<=div∧div<=1000000000:=by
   rw[hdiv];exact h.lw.sm _ hw0 _ (dC (by rw[h.lw.rl _ hw0];exact h.lw.n0))
  have tl:(bI w x).length=2:=by simp[bI,w2]
  have hx0:x≠[]:=fun e0=>by have h1:=hx.l;rw[e0,List.length_nil]at h1;have:=h.lw.n0;omega
  have hn:=h.lc.n12;have i1:∀h:Hp,ixV h 1 (mat [bI w x]) (.d (.int .i64 0))=some (.dptr [row (bI w x)] 0):=fun h=>iC row [bI w x] h rfl ae
  have i2:∀h:Hp,ld1 h (.dptr [row (bI w x)] 0)=some (lst di (bI w x)):=fun h=>rfl
  have em:mat ([x].map (bI w))=mat [bI w x]:=rfl;rw[<-hdiv,em]at td;refine cd (args:=[tpV p c w,mat [x]]) td ?_ (by rfl);simp[i1,i2];by_cases h1:nth 0 (bI w x) 1=0
  .refine cd (LE (p:=p) (x:=x) (div:=div) aa h1) ?_;simp;rw[x8,yX,hg,if_pos (.inr h1),decide_eq_false aa];exact⟨_,rfl⟩
  .refine cd (pure_ok h.pr hx.l aa hx.t h1 hd hdb hx.b (by grind[Nx.l]) hx0 (LF hx.t aa hd hdb h1 0 hx.b)) ?_;simp;rw[x8,yX,hg,if_neg aa,decide_eq_true ⟨rfl,h1⟩,<-hdiv];exact⟨_,rfl⟩
 .refine cd (args:=[tpV p c w,mat [x]]) (Um h hg) ?_ (by rfl);simp[hg];rw[x8,yX,if_pos (.inl hg),decide_eq_false aa];exact⟨_,rfl⟩
end
def aeU(s:List Q):Bool:=s.all fun x=>decide (0<x.2)&&(Nat.gcd x.1.natAbs x.2 == 1)&&decide (ndg x.1.natAbs<=30)&&decide (ndg x.2<=30)
theorem Db{s:List Q}(h:aeU s=true):okS s:=fun x hx=>by
 have:=Z2.1 h x hx;simp only[Z7,decide_eq_true_eq,beq_iff_eq]at this;exact⟨⟨this.1.1.1,this.1.1.2⟩,this.1.2,this.2⟩
def lsB(l:LiQ):Bool:=l.all fun z=>decide (-1000000000<=z)&&decide (z<=1000000000)
theorem Ov{l:LiQ}(h:lsB l=true):bd9 l:=fun z hz=>by
 have:=Z2.1 h z hz
 grind
def ltB(n:Nat)(m:Mz):Bool:=decide (0<n)&&decide (n<=12)&&decide (m.length<=12)&&m.all fun r=>decide (r.length=n)&&lsB r
theorem XC{m:Mz}(h:ltB n m=true):xF n m:=by simp only[ltB,Z7,decide_eq_true_eq,Z2]at h;exact⟨h.1.1.1,h.1.1.2,h.1.2,fun r hr=>(h.2 r hr).1,fun r hr=>Ov (h.2 r hr).2⟩
def p5:LiQ:=[2,3,5]
def mtC:Mz:=[[4,-4,1]]
def mtW:Mz:=[[1,0,-4],[0,1,4]]
theorem adQ:xE p5 mtC mtW where
 pr:=by rfl
 lc:=XC (by rfl)
 lw:=XC (by rfl)
 ch:=by rfl
 k1:=⟨20,100,af,by rfl,by rfl⟩
theorem li3(a b c:Int)(h:Hp):eV 3 [.int .i64 0] [(0,.d (.int .i64 a)),(1,.d (.int .i64 b)),(2,.d (.int .i64 c))] h=some ([.int .i64 a,.int .i64 b,.int .i64 c],h):=by rfl
theorem li5(n1 n2 n3 n4 n5:Nat)(a b c d e:LdQ)(h:Hp):eV 5 [nPQ] [(0,.d (.sl n1 a)),(1,.d (.sl n2 b)),(2,.d (.sl n3 c)),(3,.d (.sl n4 d)),(4,.d (.sl n5 e))] h=some ([.sl n1 a,.sl n2 b,.sl n3 c,.sl n4 d,.sl n5 e],h):=by rfl
theorem acj(a1 a2 b1 b2 c1 c2:LuQ)(h:Hp):eV 3 [D.str [],D.str []] [(0,.agg [S a1,S a2]),(1,.agg [S b1,S b2]),(2,.agg [S c1,S c2])] h=some ([.str a1,.str a2,.str b1,.str b2,.str c1,.str c2],h):=by rfl
theorem L8:CP Y F.dK [] (tpV p5 mtC mtW):=by refine tJ ?_;simp only[dK];simp[li3,XS,aci];exact⟨_,rfl⟩
def l5K:Mz:=[[0,0,0],[-3,2,0],[-2,0,1],[2,-1,0],[-1,1,0]]
def l2K:Mz:=[[-2,0,1],[-1,1,0]]
def tvB(p:LiQ)(w:Mz)(x:LiQ):Bool:=decide (x.length=p.length)&&lsB x&&decide (rcB x=0)&&lsB (bI w x)
theorem Uf{p:LiQ}{w:Mz}(h:tvB p w x=true):Nx p w x:=by simp only[tvB,Z7,decide_eq_true_eq]at h;exact⟨h.1.1.1,Ov h.1.1.2,h.1.2,Ov h.2⟩
def rgS:Rg:=⟨[(3,2),(0,1),(0,1)],[(8,5),(0,1),(0,1)],true,true,false⟩
theorem kst:Eb 1 en0 (bI mtW [0,0,0]) ([[-3,2,0],[-2,0,1],[2,-1,0],[-1,1,0]].map (bI mtW))=⟨some (3,2),some (8,5),false⟩:=by
 have e1:bI mtW [0,0,0]=[0,0]:=az;have e2:([[-3,2,0],[-2,0,1],[2,-1,0],[-1,1,0]].map (bI mtW))=[[-3,2],[-6,4],[2,-1],[-1,1]]:=az;rw[e1,e2]
 have k1:lX en0 (-3) 2 1=⟨some (3,2),none,false⟩:=by
  have:qU (gm (- -3) 1) (2,1)=(3,2):=az;simp only[lX,this];rfl
 have k2:lX ⟨some (3,2),none,false⟩ (-3) 2 1=⟨some (3,2),none,false⟩:=by
  have:qU (gm (- -3) 1) (2,1)=(3,2):=az;simp only[lX,this];rfl
 have k3:lX ⟨some (3,2),none,false⟩ 8 (-5) 1=⟨some (3,2),some (8,5),false⟩:=by
  have:qU (gm (-8) 1) (-5,1)=(8,5):=az;simp only[lX,this];rfl
 have k4:lX ⟨some (3,2),some (8,5),false⟩ (-3) 2 1=⟨some (3,2),some (8,5),false⟩:=by
  have:qU (gm (- -3) 1) (2,1)=(3,2):=az;simp only[lX,this];rfl
 rfl
theorem acr:CP Y F.fW [tpV p5 mtC mtW,mat l5K] (.tup [rgV rgS,I 0]):=by
 have hd:nth 0 (nth [] mtW 0) 0=1:=az
 have h:=Si (l:=l5K) (x:=[0,0,0]) (q:=[[-3,2,0],[-2,0,1],[2,-1,0],[-1,1,0]]) adQ (by rfl) rfl af (fun x hx=>Uf (Z2.1 (show l5K.all (tvB p5 mtW)=true by rfl) x hx)) (by rfl)
  (by rw[hd,kst];intro q hq;cases hq;exact⟨⟨⟨af,af⟩,az,az⟩,Db az⟩)
  (by rw[hd,kst];intro q hq;cases hq;exact⟨⟨⟨af,af⟩,az,az⟩,Db az⟩)
 rw[hd,kst]at h
 have e:asR p5.length ⟨some (3,2),some (8,5),false⟩=rgS:=by
  have e1:scQ p5.length (3,2)=[(3,2),(0,1),(0,1)]:=az;have e2:scQ p5.length (8,5)=[(8,5),(0,1),(0,1)]:=az;have e3:RA ⟨some (3,2),some (8,5),false⟩=false:=az;simp only[asR,e3,oS,e1,e2];rfl
 trivial
def g1K:List Q:=[(1,1),(0,1),(1,4)]
def g2K:List Q:=[(0,1),(1,1),(0,1)]
def cfK(a b:List Q):Int:=(Ld (tq p5 (dfS p5 a b))).getD 0
theorem sgK{a b:List Q}(ha:a ∈ [g1K,g2K])(hb:b ∈ [g1K,g2K]):IZ p5 (dfS p5 a b) (cfK a b):=by
 have h:=Z2.1 (Z2.1 (show([g1K,g2K].all fun a=>[g1K,g2K].all fun b=>decide ((tq p5 (dfS p5 a b)).length<=600∧∀t∈tq p5 (dfS p5 a b),(2<=t.1∧t.1<1000000∧t.2.natAbs<9223372036854775808)∧t.1∈c6P)&&(Ld (tq p5 (dfS p5 a b))).isSome)=true by rfl) a ha) b hb;simp only[Z7,decide_eq_true_eq]at h;obtain⟨⟨h1,h2⟩,h3⟩:=h
 obtain⟨z,hz⟩:=Wp.1 h3;exact⟨⟨h1,fun t ht=>(h2 t ht).1⟩,afK fun t ht=>(h2 t ht).2,by rw[cfK,hz];rfl⟩
theorem YN:CP Y F.fe [tpV p5 mtC mtW,mat l2K] (.tup [rgV ⟨g1K,g2K,true,true,false⟩,I 0]):=by
 have hd:nth 0 (nth [] mtW 0) 0=1:=az;have hg:btG mtW 1 l2K=[g1K,g2K]:=az
 have h:=O4 (l:=l2K) (g:=g1K) (gs:=[g2K]) (cf:=cfK) adQ (by rfl) af (fun x hx=>Uf (Z2.1 (show l2K.all (tvB p5 mtW)=true by rfl) x hx)) (by rfl)
  (fun x hx _=>Db (Z2.1 (show(l2K.all fun x=>aeU (kt (bI mtW x) (nth 0 (nth [] mtW 0) 0) 0 x))=true by decide+kernel) x hx)) (by rfl)
  (fun a ha=>by
   have:=Z2.1 (show([g1K,g2K].all fun a=>decide (a.length=p5.length)&&aeU a)=true by decide+kernel) a ha
   grind[Db])
  (fun a ha b hb=>sgK ha hb)
 have e1:mnS cfK g1K [g2K]=g1K:=az;have e2:mxS cfK g1K [g2K]=g2K:=az;trivial
theorem yj:CP Y F.eX [] (B true):=by
 refine vW ?_;have q0:=tP (n:=0) (d:=1) af af af af af;have q1:=tP (n:=3) (d:=2) af af af af af;have q2:=tP (n:=8) (d:=5) af af af af af
 have q3:=tP (n:=1) (d:=1) af af af af af;have q4:=tP (n:=1) (d:=4) af af af af af;have e0:gm 0 1=(0,1):=az;have e1:gm 3 2=(3,2):=az;have e2:gm 8 5=(8,5):=az;have e3:gm 1 1=(1,1):=az;have e4:gm 1 4=(1,4):=az
 rw[e0]at q0;rw[e1]at q1;rw[e2]at q2;rw[e3]at q3;rw[e4]at q4;have s1:=tM (r:=rgS.lo) af;have s2:=tM (r:=rgS.hi) af;have s3:=tM (r:=g1K) af;have s4:=tM (r:=g2K) af;have st:CP Y F.fW [tpV p5 mtC mtW,mat l5K] (.tup [.agg [szV rgS.lo,szV rgS.hi,B true,B true,B false],I 0]):=acr
 have bt:CP Y F.fe [tpV p5 mtC mtW,mat l2K] (.tup [.agg [szV g1K,szV g2K,B true,B true,B false],I 0]):=YN;have okz:∀s:List Q,okV (szV s)=true:=fun _=>rfl
 simp only[qT]at q0 q1 q2 q3 q4;simp only[eX];simp;refine cd q0 ?_;simp;refine cd L8 ?_ (by rfl);simp[li3,li5];refine cd (args:=[tpV p5 mtC mtW,mat l5K]) st ?_ (by rfl);simp[okz];refine cd L8 ?_ (by rfl);simp[li3,aci];refine cd (args:=[tpV p5 mtC mtW,mat l2K]) bt ?_ (by rfl);simp[okz];refine cd q1 ?_;simp[acj]
 refine cd (args:=[szV rgS.lo,szV rgS.lo]) s1 ?_ (by rfl);simp;refine cd q2 ?_;simp[acj];refine cd (args:=[szV rgS.hi,szV rgS.hi]) s2 ?_ (by rfl);simp;refine cd q3 ?_;simp;refine cd q4 ?_;simp[acj];refine cd (args:=[szV g1K,szV g1K]) s3 ?_ (by rfl);simp;refine cd q3 ?_;simp[acj];refine cd (args:=[szV g2K,szV g2K]) s4 ?_ (by rfl);simp
theorem Rf{A E:Nat}:∀{x v:LiQ},(∀z∈x,z.natAbs<=A)->(∀z∈v,z.natAbs<=E)->(pV x v).natAbs<=x.length*(A*E)
 |[],v,_,_=>by simp[pV]
 |a::x,[],_,_=>by simp[pV]
 | a::x,b::v,hx,hv=>by
  have ih:=Rf (x:=x) (v:=v) (fun z hz=>hx z (by grind)) fun z hz=>hv z (by grind)
  have h1:=Xy (a*b) (pV x v);rw[Zl]at h1;have h2:=Zp (hx a ae) (hv b ae)
  grind[pV,Nat.add_mul]
theorem FI:∀(x v:LiQ),pV (x.map (- ·)) v = - pV x v
 |[],v=>by rfl
 |a::x,[]=>by rfl
 |a::x,b::v=>by simp only[Zv,pV,FI x v];grind
theorem MO{v:LiQ}(hx:x≠[])(hv:v≠[]):pV (x.set 0 (nth 0 x 0+1)) v=pV x v+nth 0 v 0:=by
 cases x with
 |nil=>trivial
 | cons a x=>
  cases v with
  |nil=>rfl
  | cons b v=>
   grind[pV,nth]
theorem qb{w:Mz}(hi:i<w.length):nth 0 (bI w x) i=pV x (nth [] w i):=by grind[mY,bI]
section
variable{p:LiQ}{c w:Mz}
theorem abi(hw:BdE (10^6) w)(hp:p.length<=4)(hl:x.length=p.length)(hx:∀z∈x,z.natAbs<=10):Nx p w x:=by refine⟨hl,fun z hz=>by grind,VH aa fun z hz=>by grind,fun z hz=>?_⟩;obtain⟨v,hv,rfl⟩:=Zy.1 hz;have h1:=Rf hx (O7 hw v hv);have h2:x.length*(10*10^6)<=4*(10*10^6):=Zu _ aa;have:4*(10*10^6)<=1000000000:=af;omega
theorem JL(hg:gtB w=0):w.length=2∧nth 0 (nth [] w 0) 0≠0:=by
 have w2:w.length=2:=by
  apply Classical.byContradiction;intro e;simp[gtB,e]at hg
 grind[gtB]
theorem Li(H:HmF n w)(hg:gtB w=0):nth 0 (nth [] w 1) 0=0:=by
 obtain⟨w2,h0⟩:=JL hg;obtain⟨L,H⟩:=H
 have l0:L 0=0:=by
  rcases Zc (L 0)with h|h
  .exact h
  .exact absurd (H.low 0 aa 0 h) h0
 have:=H.inc 0 1 aa aa;exact H.low 1 aa 0 aa
theorem Qg:x8 w (x.map (- ·))=x8 w x∧yX w (x.map (- ·))=yX w x:=by
 by_cases hg:gtB w=0
 .obtain⟨w2,h0⟩:=JL hg;have e0:nth 0 (bI w (x.map (- ·))) 0 = - nth 0 (bI w x) 0:=by rw[qb aa,qb aa,FI]
  have e1:nth 0 (bI w (x.map (- ·))) 1 = - nth 0 (bI w x) 1:=by rw[qb aa,qb aa,FI]
  refine⟨?_,by grind[yX]⟩;unfold x8;rw[e1];by_cases h1:nth 0 (bI w x) 1=0
  .rw[if_pos (.inr aa),if_pos (.inr h1)]
  .rw[if_neg aa,if_neg aa];refine xZ h0 aa h1 0 ae fun j hj=>?_
   rw[wi,e0,e1];exact⟨fun _=>by grind,fun _=>by grind⟩
 grind[x8,yX]
theorem Qf(H:HmF n w)(hn:0<n)(hx:x≠[]):x8 w (x.set 0 (nth 0 x 0+1))=x8 w x∧yX w (x.set 0 (nth 0 x 0+1))=yX w x:=by
 by_cases hg:gtB w=0
 .obtain⟨w2,h0⟩:=JL hg;have h10:=Li H hg
  have ne:∀i,i<2->nth [] w i≠[]:=fun i hi e=>by
   have:=OD H (nth [] w i) (by rw[mY _ _ aa];simp)
   grind
  have e0:nth 0 (bI w (x.set 0 (nth 0 x 0+1))) 0=nth 0 (bI w x) 0+nth 0 (nth [] w 0) 0:=by rw[qb aa,qb aa,MO hx (ne 0 aa)]
  have e1:nth 0 (bI w (x.set 0 (nth 0 x 0+1))) 1=nth 0 (bI w x) 1:=by rw[qb aa,qb aa,MO hx (ne 1 aa),h10,Wd]
  refine⟨?_,by grind[yX]⟩;unfold x8;rw[e1];by_cases h1:nth 0 (bI w x) 1=0
  .rw[if_pos (.inr h1),if_pos (.inr h1)]
  .rw[if_neg aa,if_neg aa];refine xZ h0 aa h1 0 ae fun j hj=>?_
   have hxl:0<x.length:=Xd.2 hx;rw[e0,e1,rX 0 x 0 j _ hxl];refine⟨fun h=>?_,fun h=>?_⟩
   .have:j=0:=aa
    grind
   .rw[if_neg aa]
 grind[x8,yX]
end
theorem Ie:CP Y F.fI [.agg [.d (.int .u8 k),lJ i4D e,B vals]] (B (decide (e.length<=3))):=by
 refine xu ?_;have l1:aY (lJ i4D e)=some (I e.length):=rfl;have ok3:okV (lJ i4D e)=true:=rfl;by_cases h:e.length<=3
 .have h':(e.length:Int)<=3:=aa;simp only[fI];simp[l1,ok3,h']
  simp_all
 .have h':¬(e.length:Int)<=3:=aa;simp only[fI];simp[l1,ok3,h']
  grind[fC]
theorem ae1{p:LiQ}(hp:pcB p=0)(hl:x.length=p.length)(hx:∀z∈x,z.natAbs<=10):mzB p [x]=0:=by
 have hs:smR x=true:=by
  unfold smR;rw[Z2];intro z hz;have:=hx z hz;simp only[Z7,decide_eq_true_eq];omega
 grind[mzB,Gy]
theorem aa3{s s' e es by_ k:Nat}{cs:LdQ}{b0:Bk}{h:Hp}{y:V}{q:kkQ}{u:PU q}(hk:0<k)(hs':h[s']?=some (e,.data 1 [] true false))(hs:h[s]?=some (es,b0))(hcs:cs.length=k)(hy:cellsOf h y=some (k,cs))(hyn:∀t,y≠.d (.str t))(hb:k*by_<=140737488355328)
  (hq:q (.ref s (es+1) 0 k k k) (h.set s (es+1,.data 1 cs false false))):rh (apV false s 1 by_ (.ref s' e 0 0 0 0) y h) q u:=by
 refine Kg (cells:=[]) (L:=0) hk hs' hs rfl aa hy hyn (by grind) ?_
 grind
abbrev alH(A0 A1 A2:Nat×Bk)(y:LiQ)(f4:Bool)(z:LiQ)(f6:Bool):Hp:=[A0,A1,A2,(1,.data 1 [] true false),(1,.data 1 (y.map di) false f4),(1,.data 1 [] true false),(1,.data 1 (z.map di) false f6)]
theorem af0(hn:y.length=n)(hi:i<n):ixV (alH A0 A1 A2 y f4 z f6) 1 (.ref 4 1 0 n n n) (I i)=some (.ptr 4 1 i n):=by simp only[ixV,ax,alH,List.getElem?_cons_succ,List.getElem?_cons_zero,if_true];rw[if_pos ⟨by grind,aa,aa⟩];simp
theorem afZ(hn:z.length=n)(hi:i<n):ixV (alH A0 A1 A2 y f4 z f6) 1 (.ref 6 1 0 n n n) (I i)=some (.ptr 6 1 i n):=by simp only[ixV,ax,alH,List.getElem?_cons_succ,List.getElem?_cons_zero,if_true];rw[if_pos ⟨by grind,aa,aa⟩];simp
theorem afY(hn:y.length=n)(hi:i<n):ld1 (alH A0 A1 A2 y f4 z f6) (.ptr 4 1 i n)=some (I (nth 0 y i)):=by
 have h1:(y.map di)[i]?=some (di (nth 0 y i)):=by rw[List.getElem?_map,List.getElem?_eq_getElem aa,mY 0 y aa];rfl
 simp_all[ld1,ax]
theorem afX(hn:z.length=n)(hi:i<n):ld1 (alH A0 A1 A2 y f4 z f6) (.ptr 6 1 i n)=some (I (nth 0 z i)):=by
 have h1:(z.map di)[i]?=some (di (nth 0 z i)):=by rw[List.getElem?_map,List.getElem?_eq_getElem aa,mY 0 z aa];rfl
 simp_all[ld1,ax]
theorem PN(l:List α)(x:α)(h:i<l.length):l.take i++[x]++l.drop (i+1)=l.set i x:=by grind[Yr]
theorem afU(hn:y.length=n)(hi:i<n)(v:Int):st (alH A0 A1 A2 y false z f6) 1 (.ptr 4 1 i n) (I v)=some (alH A0 A1 A2 (y.set i v) false z f6):=by
 have h1:=PN (y.map di) (di v) (i:=i) (by grind);have h2:(y.map di).set i (di v)=(y.set i v).map di:=ae;simp only[st,if_true,sto,ax,alH,List.getElem?_cons_succ,List.getElem?_cons_zero,jj,toD,norm]
 grind[bL,di]
theorem afT(hn:z.length=n)(hi:i<n)(v:Int):st (alH A0 A1 A2 y f4 z false) 1 (.ptr 6 1 i n) (I v)=some (alH A0 A1 A2 y f4 (z.set i v) false):=by
 have h1:=PN (z.map di) (di v) (i:=i) (by grind);have h2:(z.map di).set i (di v)=(z.set i v).map di:=ae;simp only[st,if_true,sto,ax,alH,List.getElem?_cons_succ,List.getElem?_cons_zero,jj,toD,norm]
 grind[bL,di]
theorem afW(hn:y.length=n):aD (alH A0 A1 A2 y f4 z f6) (.ref 4 1 0 n n n)=some (lst di y,alH A0 A1 A2 y true z f6):=by simp_all[Zw,aD,toD,ax,lst]
theorem afV(hn:z.length=n):aD (alH A0 A1 A2 y f4 z f6) (.ref 6 1 0 n n n)=some (lst di z,alH A0 A1 A2 y f4 z true):=by simp_all[Zw,aD,toD,ax,lst]
theorem Ns{A0 A1 A2:Nat×Bk}{x zz:LiQ}{n:Nat}(hn:x.length=n)(hn1:n<1000)(hx:∀z∈x,z.natAbs<=9)(h0:Hp)(K:KL):∀(q a:LiQ),x=a++q ->
  K (.exit 0) [] (alH A0 A1 A2 (x.map (- ·)) false zz false)->lp (eH (CX Y) (.ref 4 1 0 n n n)) [] h0 [I a.length] (alH A0 A1 A2 (a.map (- ·)++q) false zz false) K
 | [],a,e,hK=>by
  simp only[Zj]at e;subst e;refine ak ?_;have l1:aY (.ref 4 1 0 n n n)=some (I n):=rfl;have hlt:¬((x.length:Int)<(n:Int)):=aa;obtain⟨H,hH⟩:=nmQ (alH A0 A1 A2 (x.map (- ·)++[]) false zz false);rw[Zj]at hH;rw[<-hH]at hK;rw[Zj,<-hH];simp only[eH];simp[hlt,l1];exact hK
 | z::q,a,e,hK=>by
  refine ak ?_;have hal:a.length<n:=by rw[<-hn,e];simp
  have hlt:((a.length:Int)<(n:Int)):=aa;have hz:=hx z (by grind);have l1:aY (.ref 4 1 0 n n n)=some (I n):=rfl;have yl:(a.map (- ·)++z::q).length=n:=by rw[<-hn,e];simp
  have yz:nth 0 (a.map (- ·)++z::q) a.length=z:=by simp[nth]
  have ys:(a.map (- ·)++z::q).set a.length (0-z)=(a++[z]).map (- ·)++q:=ae;obtain⟨H,hH⟩:∃H,H=alH A0 A1 A2 (a.map (- ·)++z::q) false zz false:=⟨_,rfl⟩;obtain⟨H1,hH1⟩:=nmQ (alH A0 A1 A2 ((a++[z]).map (- ·)++q) false zz false);have i1:ixV H 1 (.ref 4 1 0 n n n) (I a.length)=some (.ptr 4 1 a.length n):=by rw[hH];exact af0 yl hal
  have i2:ld1 H (.ptr 4 1 a.length n)=some (I z):=by rw[hH,afY yl hal,yz]
  have s1:st H 1 (.ptr 4 1 a.length n) (I (0-z))=some H1:=by rw[hH,afU yl hal,ys,hH1]
  have s1':st H 1 (.ptr 4 1 a.length n) (I (- z))=some H1:=by rw[<-Int.zero_sub];exact s1
  have ih:=Ns (A0:=A0) (A1:=A1) (A2:=A2) (zz:=zz) hn hn1 hx h0 K q (a++[z]) (by simp[e]) hK;have e4:((a++[z]).length:Int)=(a.length:Int)+1:=ae;rw[e4,<-hH1]at ih;rw[<-hH];simp only[eH];simp(disch:=try exact ac)[hlt,l1,i1,i2,s1,s1']
  grind[fS,lo]
theorem S7{x4:I4}(hk:k<256)(hb:∀x∈e,ok4 x)(hx4:ok4 x4):
  CP Y F.bW [.agg [.d (.int .u8 k),lJ i4D e,B vals],.agg [i8V x4.1,i8V x4.2.1,i8V x4.2.2.1,i8V x4.2.2.2]] (B true):=by
 refine qx ?_;have ok3:okV (lJ i4D e)=true:=rfl;have sn1:∀h:Hp,ai h [.agg [.d (.int .u8 k),lJ i4D e,B vals]]=some ([.agg [.d (.int .u8 k),lJ i4D e,B vals]],h):=fun h=>by rfl
 by_cases he:e.length<=3
 case neg=>
  have fi:=Ie (k:=k) (e:=e) (vals:=vals);rw[decide_eq_false he]at fi;simp only[bW,i8V];simp[ok3];refine cd yj ?_;simp;refine cd fi ?_ (sn1 _);simp;refine cd yj ?_;simp
 obtain⟨p1,p2,p3,p4,p5⟩:=adM _ (HE k);have hlen:∀y:I4,(mkI (k9 k) y).length=(k9 k).length:=fun y=>by grind[mkI,itv,i4L]
 have hsm:∀(y:I4),∀z∈mkI (k9 k) y,z.natAbs<=9:=fun y z hz=>by
  grind[mkI,itv]
 obtain ⟨g,w,c,f,R⟩:=acp (n:=(k9 k).length) (m:=e.map (mkI (k9 k))) p4 (by grind) (fun i hi=>by
  grind[mY]) (fun i j=>by
  by_cases hi:i<(e.map (mkI (k9 k))).length
  .by_cases hj:j<(k9 k).length
   .have hel:nth [] (e.map (mkI (k9 k))) i=mkI (k9 k) (e[i]'(by grind)):=by rw[mY _ _ hi,List.getElem_map]
    grind[dC]
   .rw[Ua (n:=(k9 k).length) (fun i hi=>by grind[mY]) aa];simp
  .rw[wg aa];simp)
 have mk:=SV (vals:=vals) hk he hb R;obtain⟨C,hC⟩:=nmQ (if vals=true then w else c)
 obtain⟨W,hW⟩:=nmQ (if vals=true then c else w)
 rw[<-hC,<-hW]at mk;have lw:xF (k9 k).length w:=zk p3 aa R.hw R.bw;have lc:xF (k9 k).length c:=zk p3 aa R.hc (R.bc.mono af)
 have T:xE (k9 k) C W:=by
  rw[hC,hW];cases vals with
  |false=>exact⟨p1,lc,lw,JG aa R.hc (R.bc.mono af),100000,f,Z8 _,R.cw,R.wc⟩
  |true=>exact⟨p1,lw,lc,JG aa R.hw R.bw,100000,f,Z8 _,R.wc,R.cw⟩
 have HW:HmF (k9 k).length W:=by rw[hW];split;exact R.hc;exact R.hw
 have BW:gtB W=0->BdE (10^6) W:=fun hg=>by
  have h2:=(JL hg).1;rw[hW]at h2 ⊢;split
  .exact R.bc
  grind[af6.sw]
 have io:CP Y F.b9 [lst di (k9 k),.agg [i8V x4.1,i8V x4.2.1,i8V x4.2.2.1,i8V x4.2.2.2]] (lst di (mkI (k9 k) x4)):=Cm hx4.1 hx4.2.1 hx4.2.2.1 hx4.2.2.2 p4;have hxl:=hlen x4;have hxs:=hsm x4;obtain⟨p,hp⟩:=nmQ (k9 k);rw[<-hp]at p1 p3 p4 mk T HW io hxl hxs;obtain⟨x,hxe⟩:=nmQ (mkI p x4);rw[<-hxe]at io hxl hxs;have hx0:x≠[]:=fun e0=>by grind
 have hxp:0<x.length:=aa
 have pure:∀y:LiQ,y.length=p.length->(∀z∈y,z.natAbs<=10)->CP Y F.gP [tpV p C W,lst di y] (.tup [szV (x8 W y),B (yX W y),I (gtB W)]):=fun y hy hz=>
  adz T (fun hg=>abi (BW hg) p4 hy hz) (ae1 p1 hy hz)
 have c1:=pure x hxl fun z hz=>by grind
 have c2:=pure (x.map (- ·)) (by grind) fun z hz=>by
  grind
 have c3:=pure (x.set 0 (nth 0 x 0+1)) (by grind) fun z hz=>by
  grind[dC]
 rw[(Qg (w:=W)).1,(Qg (w:=W)).2]at c2;rw[(Qf HW p3 hx0).1,(Qf HW p3 hx0).2]at c3;obtain⟨s,hs⟩:=nmQ (x8 W x);obtain⟨b,hbb⟩:=nmQ (yX W x)
 have hsl:s.length<1000000:=by
  rw[hs];unfold x8;split
  .simp
  .grind[tO]
 have sa:=tM hsl;rw[<-hs,<-hbb]at c1 c2 c3;have fi:=Ie (k:=k) (e:=e) (vals:=vals);rw[decide_eq_true he]at fi;have ok1:∀m:Mz,okV (mat m)=true:=fun _=>rfl
 have ok2:okV (lst di p)=true:=rfl;have sn2:∀h:Hp,ai h [lst di p,.agg [.d (.int .i8 x4.1),.d (.int .i8 x4.2.1),.d (.int .i8 x4.2.2.1),.d (.int .i8 x4.2.2.2)]]=some ([lst di p,.agg [.d (.int .i8 x4.1),.d (.int .i8 x4.2.1),.d (.int .i8 x4.2.2.1),.d (.int .i8 x4.2.2.2)]],h):=fun h=>by rfl
 simp only[tpV]at mk;simp only[i8V]at io;simp only[bW,i8V];simp[ok3];refine cd yj ?_;simp;refine cd fi ?_ (sn1 _);simp;refine cd mk ?_ (sn1 _);simp[ok1,ok2];refine cd io ?_ (sn2 _);simp;refine cd (args:=[tpV p C W,lst di x]) c1 ?_ (by rfl);have hli:∀h:Hp,eV 0 [.int .i64 0] [] h=some ([],h):=fun h=>rfl
 simp[hli];obtain⟨n,hn⟩:=nmQ (x.length);have hcel:∀h:Hp,cellsOf h (lst di x)=some (n,x.map di):=fun h=>by rw[hn];rfl
 refine aa3 (s:=4) (s':=3) (e:=1) (es:=0) (by_:=8) (k:=n) (cs:=x.map di) aa rfl rfl (by grind) (hcel _) (by intro t ht;cases ht) aa ?_;simp[hli];refine aa3 (s:=6) (s':=5) (e:=1) (es:=0) (by_:=8) (k:=n) (cs:=x.map di) aa rfl rfl (by grind) (hcel _) (by intro t ht;cases ht) aa ?_;simp
 obtain⟨A0,hA0⟩:∃A0:Nat×Bk,A0=(1,Bk.vars [V.d (D.int IntKind.u8 k),lJ i4D e,B vals]):=⟨_,rfl⟩;obtain⟨A1,hA1⟩:∃A1:Nat×Bk,A1=(1,Bk.vars [V.d (D.int IntKind.i8 x4.1),V.d (D.int IntKind.i8 x4.2.1),V.d (D.int IntKind.i8 x4.2.2.1),V.d (D.int IntKind.i8 x4.2.2.2)]):=⟨_,rfl⟩;obtain⟨A2,hA2⟩:∃A2:Nat×Bk,A2=(1,Bk.vars [lst di p,mat C,mat W]):=⟨_,rfl⟩;rw[<-hA0,<-hA1,<-hA2]
 refine lo (Ns (A0:=A0) (A1:=A1) (A2:=A2) (zz:=x) hn.symm aa hxs _ _ x [] rfl ?_);obtain⟨H0,hH0⟩:∃H,H=alH A0 A1 A2 (x.map (- ·)) false x false:=⟨_,rfl⟩;obtain⟨H1,hH1⟩:∃H,H=alH A0 A1 A2 (x.map (- ·)) false (x.set 0 (nth 0 x 0+1)) false:=⟨_,rfl⟩;obtain⟨H2,hH2⟩:∃H,H=alH A0 A1 A2 (x.map (- ·)) true (x.set 0 (nth 0 x 0+1)) false:=⟨_,rfl⟩
 obtain⟨H3,hH3⟩:∃H,H=alH A0 A1 A2 (x.map (- ·)) true (x.set 0 (nth 0 x 0+1)) true:=⟨_,rfl⟩;have i6:ixV H0 1 (.ref 6 1 0 n n n) (.d (.int .i64 0))=some (.ptr 6 1 0 n):=by rw[hH0];exact afZ (i:=0) hn.symm aa
 have i6':ixX (iZ H0 6 1) 1 6 1 0 n n 0=some (.ptr 6 1 0 n):=i6;have d6:ld1 H0 (.ptr 6 1 0 n)=some (I (nth 0 x 0)):=by rw[hH0];exact afX (i:=0) hn.symm aa
 have s6:st H0 1 (.ptr 6 1 0 n) (I (nth 0 x 0+1))=some H1:=by rw[hH0,hH1];exact afT (i:=0) hn.symm aa _
 have l1:ldA H1 3 (.ptr 2 1 0 3)=some (.agg [lst di p,mat C,mat W]):=by rw[hH1,hA2];rfl
 have l2:ldA H2 3 (.ptr 2 1 0 3)=some (.agg [lst di p,mat C,mat W]):=by rw[hH2,hA2];rfl
 have snA:∀h:Hp,aD h (.agg [lst di p,mat C,mat W])=some (.agg [lst di p,mat C,mat W],h):=fun h=>by rfl
 have hz0:=hxs _ (dC (d:=0) hxp);rw[<-hH0];simp(disch:=try exact ac)[i6,i6',d6,s6,l1];refine pY (ds:=[tpV p C W,lst di (x.map (- ·))]) (h':=H2) ?_ c2 ?_
 .have e1:=afW (A0:=A0) (A1:=A1) (A2:=A2) (y:=x.map (- ·)) (z:=x.set 0 (nth 0 x 0+1)) (f4:=false) (f6:=false) (n:=n) (by grind);rw[<-hH1,<-hH2]at e1;simp only[ai,snA,e1];rfl
 rw[show(if cC (V.tup [szV s,B b,I (gtB W)])=true then H1 else H2)=H2 from rfl];simp[l2];refine pY (ds:=[tpV p C W,lst di (x.set 0 (nth 0 x 0+1))]) (h':=H3) ?_ c3 ?_
 .have e1:=afV (A0:=A0) (A1:=A1) (A2:=A2) (y:=x.map (- ·)) (z:=x.set 0 (nth 0 x 0+1)) (f4:=true) (f6:=false) (n:=n) (by grind);rw[<-hH2,<-hH3]at e1;simp only[ai,snA,e1];rfl
 rw[show(if cC (V.tup [szV s,B b,I (gtB W)])=true then H2 else H3)=H3 from rfl];simp;have sns:∀h:Hp,ai h [szV s,szV s]=some ([szV s,szV s],h):=fun h=>rfl
 refine cd sa ?_ (sns _);simp;refine cd sa ?_ (sns _);simp
def ahC(j:Nat):IntKind:=if 6<=j∧j<51 then .i8 else if 73<=j∧j<119 then .i8 else .u8
structure akH(f:Nat->Int):Prop where
 u:∀j<120,ahC j=.u8->0<=f j∧f j<=255
 s:∀j<120,ahC j=.i8->-128<=f j∧f j<=127
end Go.Vm
namespace Go.Proofs
open Go.Shelf
def Tryz.laysPu14_ren:Go.Shelf.Ren:=⟨fun|14=>179|16=>151|17=>116|19=>175|20=>176|21=>152|22=>153|23=>154|24=>155|25=>177|27=>61|26=>178|28=>93|29=>126|30=>161|31=>162|32=>163|33=>164|35=>183|34=>182|36=>184|37=>185|38=>186|39=>191|40=>192|n=>n,fun|9=>9|3=>3|22=>167|24=>143|25=>202|4=>4|34=>201|5=>5|36=>204|37=>211|0=>0|39=>205|21=>21|44=>231|47=>242|50=>245|48=>243|2=>2|52=>213|55=>216|59=>235|60=>236|20=>20|61=>237|65=>247|66=>248|67=>249|n=>n,fun|0=>0|1=>1|2=>2|3=>3|4=>4|n=>n⟩
theorem Tryz.laysPu14:Go.Proofs.LaysPu.n14 Tryz.prog Tryz.laysPu14_ren:={
 mixed:=ag
 f14:=Tryz.func179.trans (congrArg some ag)
 f16:=Tryz.func151.trans (congrArg some ag)
 f17:=Tryz.func116.trans (congrArg some ag)
 f19:=Tryz.func175.trans (congrArg some ag)
 f20:=Tryz.func176.trans (congrArg some ag)
 f21:=Tryz.func152.trans (congrArg some ag)
 f22:=Tryz.func153.trans (congrArg some ag)
 f23:=Tryz.func154.trans (congrArg some ag)
 f24:=Tryz.func155.trans (congrArg some ag)
 f25:=Tryz.func177.trans (congrArg some ag)
 f26:=Tryz.func178.trans (congrArg some ag)
 f27:=Tryz.func61.trans (congrArg some ag)
 f28:=Tryz.func93.trans (congrArg some ag)
 f29:=Tryz.func126.trans (congrArg some ag)
 f30:=Tryz.func161.trans (congrArg some ag)
 f31:=Tryz.func162.trans (congrArg some ag)
 f32:=Tryz.func163.trans (congrArg some ag)
 f33:=Tryz.func164.trans (congrArg some ag)
 f34:=Tryz.func182.trans (congrArg some ag)
 f35:=Tryz.func183.trans (congrArg some ag)
 f36:=Tryz.func184.trans (congrArg some ag)
 f37:=Tryz.func185.trans (congrArg some ag)
 f38:=Tryz.func186.trans (congrArg some ag)
 f39:=Tryz.func191.trans (congrArg some ag)
 f40:=Tryz.func192.trans (congrArg some ag)
 t0:=Tryz.underlying0
 a0:=Tryz.isAgg0
 z0:=Tryz.sizeOf0
 v0:=Tryz.zeroValue0
 i0:=ag
 t2:=Tryz.underlying2
 a2:=Tryz.isAgg2
 z2:=Tryz.sizeOf2
 v2:=Tryz.zeroValue2
 i2:=ag
 t3:=Tryz.underlying3
 a3:=Tryz.isAgg3
 z3:=Tryz.sizeOf3
 v3:=Tryz.zeroValue3
 i3:=ag
 t4:=Tryz.underlying4
 a4:=Tryz.isAgg4
 z4:=Tryz.sizeOf4
 v4:=Tryz.zeroValue4
 i4:=ag
 t5:=Tryz.underlying5
 a5:=Tryz.isAgg5
 z5:=Tryz.sizeOf5
 v5:=Tryz.zeroValue5
 i5:=ag
 t9:=Tryz.underlying9
 a9:=Tryz.isAgg9
 z9:=Tryz.sizeOf9
 v9:=Tryz.zeroValue9
 i9:=ag
 t20:=Tryz.underlying20
 a20:=Tryz.isAgg20
 z20:=Tryz.sizeOf20
 v20:=Tryz.zeroValue20
 i20:=ag
 t21:=Tryz.underlying21
 a21:=Tryz.isAgg21
 z21:=Tryz.sizeOf21
 v21:=Tryz.zeroValue21
 i21:=ag
 t22:=Tryz.underlying167
 a22:=Tryz.isAgg167
 z22:=Tryz.sizeOf167
 v22:=Tryz.zeroValue167
 i22:=ag
 t24:=Tryz.underlying143
 a24:=Tryz.isAgg143
 z24:=Tryz.sizeOf143
 v24:=Tryz.zeroValue143
 i24:=ag
 t25:=Tryz.underlying202
 a25:=Tryz.isAgg202
 z25:=Tryz.sizeOf202
 v25:=Tryz.zeroValue202
 i25:=ag
 t34:=Tryz.underlying201
 a34:=Tryz.isAgg201
 z34:=Tryz.sizeOf201
 v34:=Tryz.zeroValue201
 i34:=ag
 c34:=ag
 t36:=Tryz.underlying204
 a36:=Tryz.isAgg204
 z36:=Tryz.sizeOf204
 v36:=Tryz.zeroValue204
 i36:=ag
 t37:=Tryz.underlying211
 a37:=Tryz.isAgg211
 z37:=Tryz.sizeOf211
 v37:=Tryz.zeroValue211
 i37:=ag
 t39:=Tryz.underlying205
 a39:=Tryz.isAgg205
 z39:=Tryz.sizeOf205
 v39:=Tryz.zeroValue205
 i39:=ag
 t44:=Tryz.underlying231
 a44:=Tryz.isAgg231
 z44:=Tryz.sizeOf231
 v44:=Tryz.zeroValue231
 i44:=ag
 t47:=Tryz.underlying242
 a47:=Tryz.isAgg242
 z47:=Tryz.sizeOf242
 v47:=Tryz.zeroValue242
 i47:=ag
 t48:=Tryz.underlying243
 a48:=Tryz.isAgg243
 z48:=Tryz.sizeOf243
 v48:=Tryz.zeroValue243
 i48:=ag
 t50:=Tryz.underlying245
 a50:=Tryz.isAgg245
 z50:=Tryz.sizeOf245
 v50:=Tryz.zeroValue245
 i50:=ag
 t52:=Tryz.underlying213
 a52:=Tryz.isAgg213
 z52:=Tryz.sizeOf213
 v52:=Tryz.zeroValue213
 i52:=ag
 t55:=Tryz.underlying216
 a55:=Tryz.isAgg216
 z55:=Tryz.sizeOf216
 v55:=Tryz.zeroValue216
 i55:=ag
 t59:=Tryz.underlying235
 a59:=Tryz.isAgg235
 z59:=Tryz.sizeOf235
 v59:=Tryz.zeroValue235
 i59:=ag
 t60:=Tryz.underlying236
 a60:=Tryz.isAgg236
 z60:=Tryz.sizeOf236
 v60:=Tryz.zeroValue236
 i60:=ag
 t61:=Tryz.underlying237
 a61:=Tryz.isAgg237
 z61:=Tryz.sizeOf237
 t65:=Tryz.underlying247
 a65:=Tryz.isAgg247
 z65:=Tryz.sizeOf247
 v65:=Tryz.zeroValue247
 i65:=ag
 t66:=Tryz.underlying248
 a66:=Tryz.isAgg248
 z66:=Tryz.sizeOf248
 v66:=Tryz.zeroValue248
 i66:=ag
 t67:=Tryz.underlying249
 a67:=Tryz.isAgg249
 z67:=Tryz.sizeOf249
 v67:=Tryz.zeroValue249
 i67:=ag
 g0:=ag
 m0:=ag
 g1:=ag
 m1:=ag
 g2:=ag
 m2:=ag
 g3:=ag
 m3:=ag
 g4:=ag
 m4:=by kernel_rfl}
def Tryz.laysC174_ren:Go.Shelf.Ren:=⟨fun|174=>83|247=>115|245=>116|287=>151|279=>152|280=>153|281=>154|282=>155|321=>175|322=>176|316=>177|171=>61|205=>178|243=>93|246=>126|283=>161|284=>162|285=>163|286=>164|129=>183|317=>182|318=>184|319=>185|320=>186|337=>191|338=>192|n=>n,fun|9=>9|3=>3|2=>2|75=>143|85=>144|4=>4|167=>201|5=>5|53=>167|175=>202|46=>204|168=>205|37=>211|0=>0|210=>231|21=>21|127=>242|145=>245|143=>243|171=>213|173=>216|212=>235|51=>236|20=>20|213=>237|232=>247|233=>248|80=>249|n=>n,fun|15=>0|16=>1|17=>2|18=>3|19=>4|n=>n⟩
theorem Tryz.laysC174:Go.Proofs.LaysC.n174 Tryz.prog Tryz.laysC174_ren:={
 mixed:=ag
 f129:=Tryz.func183.trans (congrArg some ag)
 f171:=Tryz.func61.trans (congrArg some ag)
 f174:=Tryz.func83.trans (congrArg some ag)
 f205:=Tryz.func178.trans (congrArg some ag)
 f243:=Tryz.func93.trans (congrArg some ag)
 f245:=Tryz.func116.trans (congrArg some ag)
 f246:=Tryz.func126.trans (congrArg some ag)
 f247:=Tryz.func115.trans (congrArg some ag)
 f279:=Tryz.func152.trans (congrArg some ag)
 f280:=Tryz.func153.trans (congrArg some ag)
 f281:=Tryz.func154.trans (congrArg some ag)
 f282:=Tryz.func155.trans (congrArg some ag)
 f283:=Tryz.func161.trans (congrArg some ag)
 f284:=Tryz.func162.trans (congrArg some ag)
 f285:=Tryz.func163.trans (congrArg some ag)
 f286:=Tryz.func164.trans (congrArg some ag)
 f287:=Tryz.func151.trans (congrArg some ag)
 f316:=Tryz.func177.trans (congrArg some ag)
 f317:=Tryz.func182.trans (congrArg some ag)
 f318:=Tryz.func184.trans (congrArg some ag)
 f319:=Tryz.func185.trans (congrArg some ag)
 f320:=Tryz.func186.trans (congrArg some ag)
 f321:=Tryz.func175.trans (congrArg some ag)
 f322:=Tryz.func176.trans (congrArg some ag)
 f337:=Tryz.func191.trans (congrArg some ag)
 f338:=Tryz.func192.trans (congrArg some ag)
 t0:=Tryz.underlying0
 a0:=Tryz.isAgg0
 z0:=Tryz.sizeOf0
 v0:=Tryz.zeroValue0
 t2:=Tryz.underlying2
 a2:=Tryz.isAgg2
 z2:=Tryz.sizeOf2
 v2:=Tryz.zeroValue2
 t3:=Tryz.underlying3
 a3:=Tryz.isAgg3
 z3:=Tryz.sizeOf3
 v3:=Tryz.zeroValue3
 t4:=Tryz.underlying4
 a4:=Tryz.isAgg4
 z4:=Tryz.sizeOf4
 v4:=Tryz.zeroValue4
 t5:=Tryz.underlying5
 a5:=Tryz.isAgg5
 z5:=Tryz.sizeOf5
 v5:=Tryz.zeroValue5
 t9:=Tryz.underlying9
 a9:=Tryz.isAgg9
 z9:=Tryz.sizeOf9
 v9:=Tryz.zeroValue9
 t20:=Tryz.underlying20
 a20:=Tryz.isAgg20
 z20:=Tryz.sizeOf20
 v20:=Tryz.zeroValue20
 t21:=Tryz.underlying21
 a21:=Tryz.isAgg21
 z21:=Tryz.sizeOf21
 v21:=Tryz.zeroValue21
 t37:=Tryz.underlying211
 a37:=Tryz.isAgg211
 z37:=Tryz.sizeOf211
 v37:=Tryz.zeroValue211
 t46:=Tryz.underlying204
 a46:=Tryz.isAgg204
 z46:=Tryz.sizeOf204
 v46:=Tryz.zeroValue204
 t51:=Tryz.underlying236
 a51:=Tryz.isAgg236
 z51:=Tryz.sizeOf236
 v51:=Tryz.zeroValue236
 t53:=Tryz.underlying167
 a53:=Tryz.isAgg167
 z53:=Tryz.sizeOf167
 v53:=Tryz.zeroValue167
 t75:=Tryz.underlying143
 a75:=Tryz.isAgg143
 z75:=Tryz.sizeOf143
 v75:=Tryz.zeroValue143
 t85:=Tryz.underlying144
 a85:=Tryz.isAgg144
 z85:=Tryz.sizeOf144
 v85:=Tryz.zeroValue144
 t127:=Tryz.underlying242
 a127:=Tryz.isAgg242
 z127:=Tryz.sizeOf242
 v127:=Tryz.zeroValue242
 t143:=Tryz.underlying243
 a143:=Tryz.isAgg243
 z143:=Tryz.sizeOf243
 v143:=Tryz.zeroValue243
 t145:=Tryz.underlying245
 a145:=Tryz.isAgg245
 z145:=Tryz.sizeOf245
 v145:=Tryz.zeroValue245
 t167:=Tryz.underlying201
 a167:=Tryz.isAgg201
 z167:=Tryz.sizeOf201
 v167:=Tryz.zeroValue201
 t168:=Tryz.underlying205
 a168:=Tryz.isAgg205
 z168:=Tryz.sizeOf205
 v168:=Tryz.zeroValue205
 t171:=Tryz.underlying213
 a171:=Tryz.isAgg213
 z171:=Tryz.sizeOf213
 v171:=Tryz.zeroValue213
 t173:=Tryz.underlying216
 a173:=Tryz.isAgg216
 z173:=Tryz.sizeOf216
 v173:=Tryz.zeroValue216
 t175:=Tryz.underlying202
 a175:=Tryz.isAgg202
 z175:=Tryz.sizeOf202
 v175:=Tryz.zeroValue202
 t210:=Tryz.underlying231
 a210:=Tryz.isAgg231
 z210:=Tryz.sizeOf231
 v210:=Tryz.zeroValue231
 t212:=Tryz.underlying235
 a212:=Tryz.isAgg235
 z212:=Tryz.sizeOf235
 v212:=Tryz.zeroValue235
 t213:=Tryz.underlying237
 a213:=Tryz.isAgg237
 z213:=Tryz.sizeOf237
 t232:=Tryz.underlying247
 a232:=Tryz.isAgg247
 z232:=Tryz.sizeOf247
 v232:=Tryz.zeroValue247
 t233:=Tryz.underlying248
 a233:=Tryz.isAgg248
 z233:=Tryz.sizeOf248
 v233:=Tryz.zeroValue248
 g15:=ag
 g16:=ag
 g17:=ag
 g18:=ag
 g19:=ag
 t80:=Tryz.underlying249
 a80:=Tryz.isAgg249
 z80:=Tryz.sizeOf249
 v80:=Tryz.zeroValue249
 i0:=ag
 i2:=ag
 i3:=ag
 i4:=ag
 i5:=ag
 i9:=ag
 i20:=ag
 i21:=ag
 i37:=ag
 i46:=ag
 i51:=ag
 i53:=ag
 i75:=ag
 i80:=ag
 i85:=ag
 i127:=ag
 i143:=ag
 i145:=ag
 i167:=ag
 i168:=ag
 i171:=ag
 i173:=ag
 i175:=ag
 i210:=ag
 i212:=ag
 i232:=ag
 i233:=ag
 m15:=ag
 m16:=ag
 m17:=ag
 m18:=ag
 m19:=ag
 c0:=ag
 c2:=ag
 c3:=ag
 c4:=ag
 c5:=ag
 c9:=ag
 c20:=ag
 c21:=ag
 c37:=ag
 c46:=ag
 c51:=ag
 c53:=ag
 c75:=ag
 c80:=ag
 c85:=ag
 c127:=ag
 c143:=ag
 c145:=ag
 c167:=ag
 c168:=ag
 c171:=ag
 c173:=ag
 c175:=ag
 c210:=ag
 c212:=ag
 c213:=ag
 c232:=ag
 c233:=by kernel_rfl}
end Go.Proofs
namespace Go.Vm
open Go Go.Am
variable{l:LuQ}
theorem Re:∀(l:LuQ)(a:Nat),a<=pB a l
 |[],a=>Z8 _
 | c::l,a=>by
  have h:a*10+(c.toNat-48)<=pB (a*10+(c.toNat-48)) l:=Re l _;have e:pB a (c::l)=pB (a*10+(c.toNat-48)) l:=rfl;generalize pB a (c::l)=y at *;generalize pB (a*10+(c.toNat-48)) l=z at *;generalize c.toNat-48=d at *;omega
theorem qV:∀(l:LuQ)(a:Nat),l.all oA=true->pB a l<10000000000000000000->Lib.parseUintM (2^64-1) a l=.ok (pB a l)
 |[],a,_,_=>rfl
 | c::l,a,h,hd=>by
  simp only[List.all_cons,Z7,oA,Nat.ble_eq]at h;have e:pB a (c::l)=pB (a*10+(c.toNat-48)) l:=rfl;rw[e]at hd ⊢;have hge:=Re l (a*10+(c.toNat-48));rw[Lib.parseUintM,if_pos h.1,if_neg aa,if_neg aa];exact qV l _ h.2 hd
theorem frz(w:World)(e:TypeId)(s:ByteArray):w.heap.size<=(Lib.bytesWorld w e s).heap.size∧(∀c,c<w.heap.size->(Lib.bytesWorld w e s).heap[c]?=w.heap[c]?)∧(Lib.bytesWorld w e s).os=w.os∧(Lib.bytesWorld w e s).output=w.output:=
 ⟨by rw[Lib.bytesWorld_size];omega,fun c hc=>Lib.bytesWorld_at_old w e s c hc,rfl,rfl⟩
theorem aaa{c:UInt8}(h:oA c=true):¬c.toNat=43∧¬c.toNat=45:=by simp only[oA,Z7,Nat.ble_eq]at h;omega
theorem SG(hne:l≠[])(hall:l.all oA=true)(hlt:pB 0 l<9223372036854775808):Lib.parseIntB 64 l=.ok (pB 0 l:Int):=by
 cases l with
 |nil=>exact absurd rfl hne
 | cons c r=>
  have hc:=aaa (Z2.1 hall c ae)
  have hp:Lib.parseUintB 64 (c::r)=.ok (pB 0 (c::r)):=by
   rw[Lib.parseUintB,if_neg hne];exact qV _ _ hall aa
  unfold Lib.parseIntB;simp only[hc.1,hc.2,or_self,if_false,hp];rw[if_neg aF,if_neg ae]
theorem SF(hne:l≠[])(hall:l.all oA=true)(hlt:pB 0 l<9223372036854775808):Lib.parseIntB 64 (45::l)=.ok (-(pB 0 l:Int)):=by
 have hp:Lib.parseUintB 64 l=.ok (pB 0 l):=by
  rw[Lib.parseUintB,if_neg hne];exact qV _ _ hall aa
 have h45:(45:UInt8).toNat=45:=rfl;unfold Lib.parseIntB;simp only[h45,or_true,if_true,hp];rw[if_neg ae,if_neg aF]
theorem ag9:aei X:=by
 intro f args v h;simp only[X]at h;split at h
 .rename_i hf;obtain rfl:=Zh hf;unfold LG at h;split at h
  .rename_i s a b;split at h
   .rename_i hc;obtain⟨rfl,rfl,hne,hall,hsz,hlt⟩:=hc;obtain rfl:=Option.some.inj h;refine⟨rfl,rfl,.inr ⟨⟨_,Go.Proofs.Tryz.func179,ag,ag⟩,fun w=>?_⟩⟩
    have hp:Lib.parseUintB 64 s.data.toList=.ok (pB 0 s.data.toList):=by
     rw[Lib.parseUintB,if_neg hne];exact qV _ _ hall hlt
    have hsz2:s.size=s.data.toList.length:=by rw[Array.length_toList];rfl
    have hmax:s.size≤9223372036854775806:=aa;refine(Go.Proofs.Any.strconv_ParseUint_10_at64_ok Go.Proofs.Tryz.laysPu14 s hmax _ hp w).mono ?_;rintro e w' ⟨rfl,rfl|rfl⟩
    .exact⟨rfl,Z8 _,fun _ _=>rfl,rfl,rfl⟩
    .exact⟨rfl,frz w _ s⟩
   .cases h
  .cases h
 .split at h
  .rename_i hf;obtain rfl:=Zh hf
   have key:∀(s:ByteArray)(z:Int),s.data.toList.length≤1001→Lib.parseIntB 64 s.data.toList=.ok z→v=.tuple #[.int .i64 z,.nilIface]→args=[.string s,.int .i64 10,.int .i64 64] →
     cY args=true∧plain v=true∧(Ph X F.fj args v∨(∃fn,Go.Proofs.Tryz.prog.funcs[F.fj]?=some fn∧fn.body.isNone=false∧(fn.name == "runtime.NumGoroutine")=false) ∧
     ∀w,Calls Go.Proofs.Tryz.prog F.fj args.toArray w fun e w'=>e=.returned v∧w.heap.size≤w'.heap.size∧(∀c,c<w.heap.size→w'.heap[c]?=w.heap[c]?)∧w'.os=w.os∧w'.output=w.output):=by
    intro s z hl hp hv ha;subst hv;subst ha;refine⟨rfl,rfl,.inr ⟨⟨_,Go.Proofs.Tryz.func83,ag,ag⟩,fun w=>?_⟩⟩;have hsz2:s.size=s.data.toList.length:=by rw[Array.length_toList];rfl
    refine(Go.Proofs.Any.strconv_ParseInt_10_at64_ok Go.Proofs.Tryz.laysC174 s aa z hp w).mono ?_;rintro e w' ⟨rfl,rfl|⟨t,rfl⟩⟩
    .exact⟨rfl,Z8 _,fun _ _=>rfl,rfl,rfl⟩
    .exact⟨rfl,frz w _ t⟩
   unfold Qj at h;split at h
   .rename_i s a b;split at h
    .rename_i hab;obtain⟨rfl,rfl⟩:=hab;split at h
     .rename_i l hs;split at h
      .rename_i hc;obtain⟨hne,hall,hsz,hlt⟩:=hc;obtain rfl:=Option.some.inj h;exact key s _ (by rw[hs];simp;omega) (by rw[hs];exact SF hne hall hlt) rfl rfl
      .cases h
     .rename_i l hs;split at h
      .rename_i hc;obtain⟨hne,hall,hsz,hlt⟩:=hc;obtain rfl:=Option.some.inj h;exact key s _ aa (SG hne hall hlt) rfl rfl
      .cases h
    .cases h
   .cases h
  .cases h
end Go.Vm
namespace Go.Proofs
open Go.RowKit Go.Shelf
attribute [local go_sem] Oper.semAt_some
def af5(W:World)(B o k c s:Nat):Prop:=∃(a:Option Addr)(cap:Nat),W.cell? ⟨B,o,none⟩=some (.slice a k cap)∧(0<k->a=some ⟨c,s,none⟩)
def aie(W:World)(B o B2 o2 k c s c2 s2:Nat)(us vs:LvQ):Prop:=
 af5 W B o k c s∧af5 W B2 o2 k c2 s2∧(∀(i:Nat) v,us[i]?=some v->W.cell? ⟨c,s+i,none⟩=some v)∧∀(i:Nat) v,vs[i]?=some v->W.cell? ⟨c2,s2+i,none⟩=some v
set_option maxRecDepth 100000 in
set_option maxHeartbeats 2000000 in
theorem adw(l B o k c s c2 s2:Nat)(us vs:LvQ)(hu:us.length=k)(hv:vs.length=k)(hk:k<4611686018427387904)(J Jx:Nat->World->Prop)
  (hV:∀i W1,J i W1->aie W1 B o B (o+1) k c s c2 s2 us vs)
  (hY:∀(i:Nat) x y W1,J i W1->us[i]?=some x->vs[i]?=some y->YieldAt (Go.Am.Fw none) 0 Tryz.prog l #[x,y] W1 fun e W'=>(e=.returned (.bool true)∧J (i+1) W')∨(e=.returned (.bool false)∧Jx (i+1) W'))
  (W:World) (h0:J 0 W) :
  CallsIn (Go.Am.Fw none) 1 Tryz.prog 169 #[.func (.yield l) #[] #[],.pointer (some ⟨B,o,none⟩)] W fun e W'=>(∃v,e=.returned v)∧(J k W'∨∃i,Jx i W'):=by
 refine callsIn_of_wp Tryz.func169 rfl trivial ?_ rfl;simp only[Tryz.ntmps169,List.size_toArray,List.length_cons,List.length_nil,Nat.reduceAdd,Nat.reduceSub,Array.replicate_succ,Array.replicate_zero,List.push_toArray,List.append_toArray,List.nil_append,List.cons_append];obtain⟨⟨a,cap,hc0,ha⟩,_⟩:=hV 0 W h0
 gi_wp2
 gi_loopw [8] (fun i wr=>∃j:Nat,j<=k∧i=.int .i64 j∧J j wr) (fun i _=>k-(intOf i).toNat)
 case atStart=>grind
 case round=>
  obtain⟨j,hj,rfl,hJs⟩:=hrel;by_cases hlt:j<k
  .obtain rfl:=ha aa;have ex:∃x,us[j]?=some x:=⟨_,List.getElem?_eq_getElem aa⟩;have ey:∃y,vs[j]?=some y:=⟨_,List.getElem?_eq_getElem aa⟩;obtain⟨x,hx⟩:=ex;obtain⟨y,hy'⟩:=ey;obtain⟨_,⟨a2,cap2,hc2,ha2⟩,hus,hvs⟩:=hV j wr hJs;obtain rfl:=ha2 aa;have hcx:=hus j x hx;have hcy:=hvs j y hy';obtain⟨fn,tmps,assign,body,hy,hR⟩:=hY j x y wr hJs hx hy'
   clear hx hy' hus hvs
   gi_wp2
   refine hR.mono ?_;rintro e W3 (⟨rfl,hJ3⟩|⟨rfl,hJx3⟩)
   .gi_wp2
    go_roundw
    case rel=>exact⟨j+1,aa,ae,hJ3⟩
    case measure=>simp[intOf];omega
   .gi_wp2
    refine bodyPost_ret (results_none rfl _ _ _) rfl ?_;exact⟨⟨_,rfl⟩,.inr ⟨_,hJx3⟩⟩
  .obtain rfl:j=k:=aa
   gi_wp2
   simp_all[bodyPost_end,results_none]
end Go.Proofs
namespace Go.Vm
open Go Go.Am Go.Proofs
noncomputable section
variable{f:FuncId}{p q v a b:Value}{xs:List LvQ}
theorem TK{P:Program}{args:Array Value}{w:World}{R:Ending->World->Prop}(h:CallsIn (Fw none) 1 P f args w R):CallsIn (Fw none) 0 P f args w R:=
 ⟨h.1,fun cs _=>h.2 cs (fun d hd=>by trivial)⟩
def hd1(x:LvQ):Value:=x.headD default
def sd1(x:LvQ):Value:=x.tail.headD default
theorem Pi:∀(us vs:LvQ),us.length=vs.length->(((us.zip vs).map fun x=>[x.1,x.2]).map hd1)=us∧(((us.zip vs).map fun x=>[x.1,x.2]).map sd1)=vs
 |[],[],_=>⟨rfl,rfl⟩
 | u::us,v::vs,h=>by
  obtain⟨h1,h2⟩:=Pi us vs (by grind);simp only[List.zip_cons_cons,Zv,h1,h2];trivial
 |[],_::_,h=>by simp at h
 |_::_,[],h=>by simp at h
theorem Km{H:AH}(h:Nz H p q=some xs):mQ H 1 p=some (xs.length,xs.map hd1)∧mQ H 1 q=some (xs.length,xs.map sd1)∧xs.length<4611686018427387904∧OA p=true∧OA q=true ∧
  ∀x∈xs,x=[hd1 x,sd1 x]∧plain (hd1 x)=true∧plain (sd1 x)=true:=by
 unfold Nz at h;split at h
 case h_2=>cases h
 rename_i k us k' vs hp hq;split at h
 case isFalse=>cases h
 rename_i hc;obtain⟨h1,h2,h3,h4,h5,h6,h7⟩:=hc;simp only[Z9]at h;subst h;obtain⟨m1,m2⟩:=Pi us vs aa;have hl:((us.zip vs).map fun x=>[x.1,x.2]).length=k:=by simp;omega
 rw[m1,m2,hl];simp only[Z7]at h5;refine⟨hp,by rw[hq,h1],h4,h5.1,h5.2,fun x hx=>?_⟩;obtain⟨⟨a,b⟩,hab,rfl⟩:=Zy.1 hx;have:=List.of_mem_zip hab;have e1:=Z2.1 h6 a this.1;have e2:=Z2.1 h7 b this.2;simp only[Z7]at e1 e2;exact⟨rfl,e1.1,e2.1⟩
theorem PI{X:Cfg}{φ:bH}(hp:OA p=true)(hv:am φ p v):∃c s:Nat,∀(φ':bH)(H':AH)(w':World)(k:Nat)(us:LvQ),bb X φ' H' w'->PLe φ φ'->mQ H' 1 p=some (k,us)->us.length=k->(∀u∈us,plain u=true) ->
  ∀B o v',w'.cell? ⟨B,o,none⟩=some v'->am φ' p v'->af5 w' B o k c s∧∀(i:Nat) u,us[i]?=some u->w'.cell? ⟨c,s+i,none⟩=some u:=by
 cases p<;>simp only[OA]at hp<;>try cases hp
 rename_i a n cap;cases a with
 | none=>
  refine⟨0,0,fun φ' H' w' k us hh _ hs hk _ B o v' hc hv'=>?_⟩;have e:=gU hv';subst e;cases n with
  | zero=>
   simp only[mQ,Z9,Z5]at hs;obtain⟨rfl,rfl⟩:=hs;exact⟨⟨none,cap,hc,fun h=>absurd h aa⟩,fun i u hi=>by simp at hi⟩
  |succ n=>trivial
 | some a=>
  obtain⟨a',c',rfl,hs⟩:=ig hv
  have hpl:a.spot=none∧∃pl,φ a.block=some pl:=by
   rcases hs with⟨h1,_,pl,hp,_⟩|⟨h1,_,_,_,pl,hp⟩
   .grind
   .grind
  obtain⟨hsp,pl,hpl⟩:=hpl;obtain⟨b,off,sp⟩:=a;simp only at hsp hpl;subst hsp;refine⟨pl.c,pl.s+off,fun φ' H' w' k us hh hle hs' hk hpl' B o v' hc hv'=>?_⟩;obtain⟨⟨b2,o2,s2⟩,c2,rfl,hs2⟩:=ig hv';have hpb:=hle _ _ hpl;simp only[mQ]at hs';split at hs'
  .rename_i hn;simp only[Z9,Z5]at hs';obtain⟨rfl,rfl⟩:=hs';subst hn;exact⟨⟨_,c2,hc,fun h=>absurd h aa⟩,fun i u hi=>by simp at hi⟩
  .rename_i hn;simp only[Ym,Z1,Z5]at hs';obtain⟨cs,hr,rfl,rfl⟩:=hs';obtain⟨cs',r1,r2,r3,r4⟩:=hh.read hr hpb
   have hb:b2=pl.c∧o2=pl.s+off∧s2=none:=by
    rcases hs2 with⟨_,h2,pl2,hp2,h3,h4,_⟩|⟨_,h0,_⟩
    .grind
    .omega
   obtain⟨rfl,rfl,rfl⟩:=hb;refine⟨⟨_,c2,hc,fun _=>rfl⟩,fun i u hi=>?_⟩
   grind[au.at,og,am.of_plain]
theorem SE{x:LvQ}(h:x=[hd1 x,sd1 x]∧plain (hd1 x)=true∧plain (sd1 x)=true):cY x=true:=by grind[cY]
theorem aev(hpl:∀x∈xs,x=[hd1 x,sd1 x]∧plain (hd1 x)=true∧plain (sd1 x)=true){i:Nat}(ha:(xs.map hd1)[i]?=some a)(hb:(xs.map sd1)[i]?=some b):xs[i]?=some [a,b]:=by grind
theorem afq {fn:Func}(h:Tryz.prog.funcs[f]?=some fn)(hb:fn.body.isNone=false)(hn:(fn.name == "runtime.NumGoroutine")=false):∃fn,X.P.funcs[f]?=some fn∧fn.body.isNone=false∧(fn.name == "runtime.NumGoroutine")=false:=⟨fn,h,hb,hn⟩
set_option maxRecDepth 100000 in
theorem afs:∃fn,X.P.funcs[169]?=some fn∧fn.body.isNone=false∧(fn.name == "runtime.NumGoroutine")=false:=afq Tryz.func169 rfl (by rfl)
theorem agX:RO X:=by
 intro gf lb H xs h0;have h:I6 gf lb H=some xs:=h0;clear h0;unfold I6 at h;split at h
 .rename_i hg;have hg:gf=169:=Zh hg;subst hg;split at h
  case h_2=>cases h
  rename_i b o;split at h
  case h_2=>cases h
  rename_i p q d hrd;obtain⟨s1,s2,s3,s4,s5,hpl⟩:=Km h;refine⟨fun x hx=>SE (hpl x hx),afs,fun φ w lb' hh hl=>?_⟩;simp only[au]at hl;obtain⟨v',r,rfl,hv',rfl⟩:=hl;obtain⟨pl,hpb,rfl⟩:=sy hv';obtain⟨cs',r1,r2,r3,r4⟩:=hh.read hrd hpb;simp only[au]at r1;obtain⟨p',_,rfl,hp',q',_,rfl,hq',d',_,rfl,hd',rfl⟩:=r1;obtain⟨c,s,base⟩:=PI (X:=X) s4 hp'
  obtain⟨c2,s2',aed⟩:=PI (X:=X) s5 hq';refine⟨fun W=>aie W pl.c (pl.s+o) pl.c (pl.s+o+1) xs.length c s c2 s2' (xs.map hd1) (xs.map sd1),fun φ' H' w' hh' hle hl' hs hk=>?_,fun l J Jx W hV hY h0=>?_⟩
  .have hk:(bX H' b o 3).getD []=(bX H b o 3).getD []:=hk;have hs:I6 169 [.pointer (some ⟨b,o,none⟩)] H'=some xs:=hs;rw[hrd]at hk
   have hrd':bX H' b o 3=some [p,q,d]:=by
    cases hr:bX H' b o 3 with
    |none=>grind
    |some cs=>grind
   have hz:Nz H' p q=some xs:=by
    unfold I6 at hs;rw[show Nat.beq 169 F.cX=true from rfl]at hs;simp only[hrd']at hs;exact hs
   obtain⟨t1,t2,_⟩:=Km hz;obtain⟨ds',u1,u2,u3,u4⟩:=hh'.read hrd' (hle _ _ hpb);simp only[au]at u1;obtain⟨p2,_,rfl,hp2,q2,_,rfl,hq2,d2,_,rfl,hd2,rfl⟩:=u1;have k0:=u4 0 p2 rfl;have k1:=u4 1 q2 rfl;rw[og]at k0 k1;obtain⟨w1,w2⟩:=base φ' H' w' _ _ hh' hle t1 ae (fun u hu=>by grind) _ _ _ k0 hp2
   obtain⟨w3,w4⟩:=aed φ' H' w' _ _ hh' hle t2 ae (fun u hu=>by grind) _ _ _ k1 hq2;trivial
  .exact TK (adw l pl.c (pl.s+o) xs.length c s c2 s2' (xs.map hd1) (xs.map sd1) ae ae s3 J Jx hV (fun i x y W1 hJ hx hy=>hY i [x,y] W1 hJ (aev hpl hx hy)) W h0)
 .rename_i hf;split at h
  case h_2=>cases h
  rename_i hg;rw[show F.um=F.cX from rfl,hf]at hg;cases hg
end
end Go.Vm
set_option maxRecDepth 100000
namespace Go.Vm
open Go Go.Am
variable{f:FuncId}{a:Addr}{n m fuel:Nat}{ds:LdQ}{α:Type}{t e:TypeId}
theorem afp:(List.range X.P.funcs.size).all (fun f=>!X.allow f||match X.P.funcs[f]? with
  |some fn=>ab2 X.P fn&&(match fn.body with|some c=>jL Y fn.ntmps c|none=>true)
  |none=>true)=true:=az
theorem adW{fn:Func}(ha:X.allow f=true)(hf:X.P.funcs[f]?=some fn):ab2 X.P fn=true∧(match fn.body with|some c=>jL Y fn.ntmps c|none=>true)=true:=by
 have hlt:f<X.P.funcs.size:=by
  rcases Zg f X.P.funcs.size with h|h
  .exact h
  .rw[Array.getElem?_eq_none h]at hf;cases hf
 have:=Z2.1 afp f (Yl.2 hlt);rw[ha,hf]at this;simpa using this
theorem vOk:VOk Y where
 y:=yOk
 fns f fn c ha hf hc:=by have:=(adW ha hf).2;rw[hc]at this;exact this
theorem aeW:Pf X where
 mixed:=by rfl
 fns f fn ha hf:=(adW ha hf).1
 orc:=ag9
 seq:=agX
mutual
def WD(w:World):D->Value->Prop
 |.int k n,v=>v=.int k n
 |.bool b,v=>v=.bool b
 |.str s,v=>v=.string ⟨⟨s⟩⟩
 |.pl u,v=>v=u∧plain u=true∧okCell u=true
 | .sl len cells,v=>(len=0∧cells=[]∧(v=.slice none 0 0∨∃a,v=.slice (some a) 0 0)) ∨
   ∃ c o cap n cs e fz,v=.slice (some ⟨c,o,none⟩) len cap∧len<=cap∧0<n∧cells.length=len*n ∧
    w.heap[c]?=some (.cells cs e fz)∧o+cells.length<=cs.size∧WDs w cells ((cs.toList.drop o).take cells.length)
def WDs(w:World):LdQ->LvQ->Prop
 |[],l=>l=[]
 |x::xs,l=>∃v vs,l=v::vs∧WD w x v∧WDs w xs vs
end
structure Ly(w:World)(φ:bH)(F:Nat->Prop)(H:AH):Prop where
 rel:bb X φ H w
 wf:WF H
 fr:∀c,F c->c<H.n∧∃x,H.get c=some x∧x.st=1
 ro:∀c x,H.get c=some x->x.wr=false
 top:∀b p,φ b=some p->b<H.n
 pg:∃p,φ nW=some p
structure t8(φ:bH)(F:Nat->Prop)(H:AH)(φ':bH)(F':Nat->Prop)(H':AH):Prop where
 n:H.n<=H'.n
 le:PLe φ φ'
 fm:∀c,F c->F' c
 keep:∀c,c<H.n->H'.get c=H.get c
theorem t8.refl(φ:bH)(F:Nat->Prop)(H:AH):t8 φ F H φ F H:=⟨Z8 _,PLe.refl _,fun _ h=>h,fun _ _=>rfl⟩
theorem t8.trans{φ φ1 φ2:bH}{F F1 F2:Nat->Prop}{H H1 H2:AH}(a:t8 φ F H φ1 F1 H1)(b:t8 φ1 F1 H1 φ2 F2 H2):t8 φ F H φ2 F2 H2:=
 ⟨Zz a.n b.n,a.le.trans b.le,fun c h=>b.fm c (a.fm c h),fun c h=>by rw[b.keep c (Z3 h a.n),a.keep c h]⟩
theorem t8.leF{φ φ':bH}{F F':Nat->Prop}{H H':AH}{w:World}(L:Ly w φ F H)(a:t8 φ F H φ' F' H'):LeF F F' H H':=
 ⟨a.fm,fun c hc=>a.keep c (L.fr c hc).1,fun c x hx h0=>⟨x,by grind[keep,AH.get_lt],h0⟩⟩
def roB(b n:Nat)(cells:LvQ):Blk:={cells,st:=1,wr:=false,fam:=b,start:=0,shared:=false,exact:=true,esz:=n,ver:=1}
theorem Ly.push{w:World}{φ:bH}{F:Nat->Prop}{H:AH}(L:Ly w φ F H){c o n:Nat}{us vs:LvQ}{cs:Array Value}{e:TypeId}{fz:Nat×Nat}(hh:w.heap[c]?=some (.cells cs e fz))
  (hlen:us.length=vs.length) (ho:o+us.length<=cs.size) (hvs:vs=(cs.toList.drop o).take us.length) (hr:au φ us vs) :
  Ly w (yE φ H.n ⟨c,o,us.length,n,cs.size,true⟩) (fun x=>F x∨x=H.n) (H.push (roB H.n n us)) ∧
  t8 φ F H (yE φ H.n ⟨c,o,us.length,n,cs.size,true⟩) (fun x=>F x∨x=H.n) (H.push (roB H.n n us)):=by
 have hnone:φ H.n=none:=by
  cases hq:φ H.n with
  |none=>rfl
  |some p=>have:=L.top _ p hq;omega
 have hle:PLe φ (yE φ H.n ⟨c,o,us.length,n,cs.size,true⟩):=PLe.add hnone;have hn:(H.push (roB H.n n us)).n=H.n+1:=rfl;have old:∀b,b<H.n->(H.push (roB H.n n us)).get b=H.get b:=fun b hb=>AH.get_push aa
 have new:(H.push (roB H.n n us)).get H.n=some (roB H.n n us):=AH.get_push_new H _
 have ro:∀b x,(H.push (roB H.n n us)).get b=some x->x.wr=false:=fun b x hx=>by
  rcases Zg b H.n with h|h
  .grind[ro]
  .have hb:b=H.n:=by have:=AH.get_lt hx;omega
   subst hb;rw[new]at hx;cases hx;rfl
 refine ⟨⟨⟨fun g hg=>?_,fun b p hp=>?_,fun b p x i v hp hx h1 hv=>?_,fun b p x i hp hx h1 hi=>?_,fun b b' p p' x x' _ _ hx hx' _ _ _ _=>.inl ⟨ro b x hx,ro b' x' hx'⟩⟩,?_,fun b hb=>?_,ro,fun b p hp=>?_,L.pg.imp fun p hp=>hle _ p hp⟩,
  ⟨aa,hle,fun x h=>.inl h,old⟩⟩
 .obtain⟨p,hp,h1⟩:=L.rel.glob g hg;exact⟨p,hle g p hp,h1⟩
 .by_cases hb:b=H.n
  .subst hb;rw[dQ]at hp;cases hp;exact⟨_,cs,e,fz,new,by simp[roB],rfl,rfl,rfl,hh,rfl,ho⟩
  .rw[fR hb]at hp;obtain⟨x,r⟩:=L.rel.dom b p hp
   grind[top]
 .by_cases hb:b=H.n
  .subst hb;rw[dQ]at hp;cases hp;rw[new]at hx;cases hx;obtain⟨v',h1,h2⟩:=hr.at (i:=i) hv
   grind[am.mono,cell_of_heap]
  .rw[fR hb]at hp;rw[old b (L.top b p hp)]at hx;obtain⟨v',h2,h3⟩:=L.rel.cell b p x i v hp hx h1 hv
   grind[am.mono]
 .grind
 .refine⟨by simp[AH.push,L.wf.len],fun b x hx=>?_⟩;rcases Zg b H.n with h|h
  .rw[old b h]at hx;exact L.wf.fam b x hx
  .have hb:b=H.n:=by have:=AH.get_lt hx;omega
   subst hb;rw[new]at hx;cases hx;trivial
 .rcases hb with hb|rfl
  .obtain⟨h1,x,h2,h3⟩:=L.fr b hb;exact⟨aa,x,by grind,h3⟩
  .exact⟨aa,_,new,rfl⟩
 .by_cases hb:b=H.n
  .omega
  .rw[fR hb]at hp;have:=L.top b p hp;omega
mutual
theorem lay{w:World}:∀(d:D)(v:Value){φ:bH}{F:Nat->Prop}{H:AH},Ly w φ F H->WD w d v ->
  ∃φ' F' H' u,Ly w φ' F' H'∧t8 φ F H φ' F' H'∧am φ' u v∧RD F' H' d u
 |.int k n,v,φ,F,H,L,h=>⟨φ,F,H,v,L,t8.refl ..,by simp only[WD]at h;subst h;rfl,h⟩
 |.bool b,v,φ,F,H,L,h=>⟨φ,F,H,v,L,t8.refl ..,by simp only[WD]at h;subst h;rfl,h⟩
 |.str s,v,φ,F,H,L,h=>⟨φ,F,H,v,L,t8.refl ..,by simp only[WD]at h;subst h;rfl,h⟩
 |.pl u,v,φ,F,H,L,h=>⟨φ,F,H,v,L,t8.refl ..,by grind[WD,am.of_plain],h⟩
 | .sl len cells,v,φ,F,H,L,h=>by
  simp only[WD]at h;rcases h with⟨rfl,rfl,rfl|⟨a,rfl⟩⟩|⟨c,o,cap,n,cs,e,fz,rfl,hlc,hn,hlen,hh,ho,hds⟩
  .exact⟨φ,F,H,.slice none 0 0,L,t8.refl ..,rfl,.inl ⟨rfl,rfl,.inl rfl⟩⟩
  .obtain⟨p,hp⟩:=L.pg;obtain⟨x,_,_,_,hx,h0,_⟩:=L.rel.dom _ _ hp;exact⟨φ,F,H,.slice (some ⟨nW,0,none⟩) 0 0,L,t8.refl ..,⟨a,0,rfl,.inr ⟨rfl,rfl,rfl,rfl,p,hp⟩⟩,.inl ⟨rfl,rfl,.inr ⟨_,_,_,rfl,x,hx,h0⟩⟩⟩
  .obtain⟨φ1,F1,H1,us,L1,E1,r1,d1⟩:=lays cells _ L hds;have hl:us.length=cells.length:=by have:=d1.length;omega
   obtain⟨L2,E2⟩:=L1.push (us:=us) (n:=n) (o:=o) hh (by grind) aa (by rw[hl]) r1;refine⟨_,_,_,.slice (some ⟨H1.n,0,none⟩) len cap,L2,E1.trans E2,?_,?_⟩
   .refine⟨⟨c,o,none⟩,cap,rfl,.inl ⟨rfl,rfl,_,dQ ..,rfl,rfl,.inl rfl⟩⟩
   .have new:(H1.push (roB H1.n n us)).get H1.n=some (roB H1.n n us):=AH.get_push_new H1 _;by_cases h0:len=0
    .subst h0;exact .inl ⟨rfl,Zn aa,.inr ⟨_,_,_,rfl,_,new,by simp[roB]⟩⟩
    .refine .inr ⟨H1.n,0,cap,us,n,rfl,aa,hlc,hn,hlen,.inr rfl,?_,RDs.mono (E2.leF L1) _ _ d1,_,new,.inl rfl⟩;rw[kD new rfl (by show 0+cells.length<=us.length;omega)]
     show some ((us.drop 0).take cells.length)=_
     grind
theorem lays{w:World}:∀(ds:LdQ)(vs:LvQ){φ:bH}{F:Nat->Prop}{H:AH},Ly w φ F H->WDs w ds vs ->
  ∃φ' F' H' us,Ly w φ' F' H'∧t8 φ F H φ' F' H'∧au φ' us vs∧RDs F' H' ds us
 |[],vs,φ,F,H,L,h=>⟨φ,F,H,[],L,t8.refl ..,by trivial,rfl⟩
 | d::ds,vs,φ,F,H,L,h=>by
  simp only[WDs]at h;obtain⟨v,vs,rfl,h1,h2⟩:=h;obtain⟨φ1,F1,H1,u,L1,E1,r1,d1⟩:=lay d v L h1;obtain⟨φ2,F2,H2,us,L2,E2,r2,d2⟩:=lays ds vs L1 h2;exact⟨φ2,F2,H2,u::us,L2,E1.trans E2,⟨v,vs,rfl,am.mono E2.le u v r1,r2⟩,⟨u,us,rfl,RD.mono (E2.leF L1) _ _ d1,d2⟩⟩
end
def abS:Nat->List Blk
 |0=>[]
 |n+1=>qt::abS n
theorem LL:∀(n i:Nat)(x:Blk),(abS n)[i]?=some x->x=qt
 |0,_,_,h=>by trivial
 |n+1,0,x,h=>by grind[abS]
 |n+1,i+1,x,h=>LL n i x (by trivial)
def AV:LvQ:=[.int .u64 1,.int .u64 10,.int .u64 100,.int .u64 1000,.int .u64 10000,.int .u64 100000,.int .u64 1000000,.int .u64 10000000,.int .u64 100000000,.int .u64 1000000000,.int .u64 10000000000,.int .u64 100000000000,
 .int .u64 1000000000000,.int .u64 10000000000000,.int .u64 100000000000000,.int .u64 1000000000000000,.int .u64 10000000000000000,.int .u64 100000000000000000,.int .u64 1000000000000000000,.int .u64 10000000000000000000]
def RQ(w:World):Prop:=∃cs e fz,w.heap[nW]?=some (.cells cs e fz)∧20<=cs.size∧AV=cs.toList.take 20
def H00:AH:=⟨nW,abS nW⟩
theorem adB{b:Nat}{x:Blk}(h:H00.get b=some x):x=qt:=by
 unfold AH.get at h;split at h
 .exact LL _ _ _ h
 .trivial
theorem start{w:World}(hp:RQ w):∃φ F H,Ly w φ F H∧py Y F H:=by
 obtain⟨cs,e,fz,hh,hsz,hcs⟩:=hp
 let φ:bH:=fun b=>if b=nW then some ⟨nW,0,20,1,cs.size,true⟩else none
 let H:AH:=H00.push (roB nW 1 AV)
 have hn:H.n=nW+1:=rfl;have new:H.get nW=some (roB nW 1 AV):=AH.get_push_new H00 _
 have old:∀{b x},b≠nW->H.get b=some x->x=qt:=fun{b x} hb hx=>by
  grind[H00,AH.get_push,adB]
 have hφ:∀{b p},φ b=some p->b=nW∧p=⟨nW,0,20,1,cs.size,true⟩:=fun{b p} h=>by
  grind
 have ro:∀b x,H.get b=some x->x.wr=false:=fun b x hx=>by
  by_cases hb:b=nW
  .subst hb;rw[new]at hx;cases hx;rfl
  .rw[old hb hx];rfl
 have L:Ly w φ (· = nW) H:=by
  refine⟨⟨fun g hg=>?_,fun b p hp=>?_,fun b p x i v hp hx h1 hv=>?_,fun b p x i hp hx h1 hi=>?_,fun b b' p p' x x' _ _ hx hx' _ _ _ _=>.inl ⟨ro b x hx,ro b' x' hx'⟩⟩,?_,?_,ro,fun b p hp=>?_,⟨⟨nW,0,20,1,cs.size,true⟩,by rfl⟩⟩
  .have:g=nW:=by simpa[X]using hg
   exact⟨⟨nW,0,20,1,cs.size,true⟩,by grind,this.symm,rfl⟩
  .grind[roB]
  .obtain⟨rfl,rfl⟩:=hφ hp;rw[new]at hx;cases hx;have hv':AV[i]?=some v:=hv;refine⟨v,?_,?_⟩
   .grind[cell_of_heap]
   .have hm:v∈AV:=Xu hv';have:AV.all plain=true:=rfl
    grind[am.of_plain]
  .grind
  .refine⟨by rfl,fun b x hx=>?_⟩;by_cases hb:b=nW
   .subst hb;rw[new]at hx;cases hx;trivial
   .rw[old hb hx];exact Y4 _
  .rintro c rfl;exact⟨aa,_,new,rfl⟩
  .grind
 refine⟨φ,_,H,L,fun g cs' hg=>?_⟩
 have hgp:g=nW∧cs'=LI:=by
  simp only[Y]at hg;split at hg
  .simp_all
  .cases hg
 obtain⟨rfl,rfl⟩:=hgp;refine⟨Xi _,rfl,⟨_,new,rfl,af⟩,AV,?_,?_⟩
 .rfl
 simp[LI,AV,RDs,RD]
open Go.ChangeShapes Go.WideShapes Go.ChangeAt Go.RowKit
section
variable{HH:Type}{enc:TypeId×Value->HH}{P:Program}{w:World}{base:Nat}{held:Bool}
theorem Na{v:Value}(h:w.cell? a=some v):∃cs e fz,w.heap[a.block]?=some (.cells cs e fz)∧a.spot=none∧cs[a.off]?=some v:=by
 unfold World.cell? at h;split at h
 .rename_i c e fz hc;split at h
  .cases h
  .rename_i hs;refine⟨c,e,fz,hc,?_,h⟩;cases hq:a.spot with
   |none=>rfl
   |some s=>rw[hq]at hs;simp at hs
 .cases h
theorem addr_add(a:Addr)(hs:a.spot=none)(i:Nat):a.add i=⟨a.block,a.off+i,none⟩:=by
 unfold Addr.add;split
 .rename_i h;subst h;cases a;simp at hs ⊢;exact hs
 .rfl
theorem Ir{vs:LvQ}(h:∀i v,vs[i]?=some v->w.cell? (a.add i)=some v)(hp:0<vs.length):
  ∃cs e fz,w.heap[a.block]?=some (.cells cs e fz)∧a.spot=none∧a.off+vs.length<=cs.size∧vs=(cs.toList.drop a.off).take vs.length:=by
 obtain⟨v0,h0⟩:∃v,vs[0]?=some v:=⟨vs[0],by simp[hp]⟩;obtain⟨cs,e,fz,hc,hs,_⟩:=Na (h 0 v0 h0);have ha0:a.add 0=a:=by unfold Addr.add;simp
 rw[ha0]at hc hs
 have at_:∀i v,vs[i]?=some v->cs[a.off+i]?=some v:=fun i v hv=>by
  obtain⟨cs',e',fz',hc',_,hv'⟩:=Na (h i v hv);rw[addr_add a hs]at hc' hv';simp only at hc' hv';rw[hc]at hc';cases hc';exact hv'
 have hle:a.off+vs.length<=cs.size:=by
  have hl:=at_ (vs.length-1) vs[vs.length-1] (by rw[List.getElem?_eq_getElem]);have:=(Array.getElem?_eq_some_iff.1 hl).1;omega
 refine⟨cs,e,fz,hc,hs,hle,?_⟩;apply X8;intro i;by_cases hi:i<vs.length
 .rw[List.getElem?_take_of_lt hi,List.getElem?_drop];have:=at_ i vs[i] (by rw[List.getElem?_eq_getElem hi]);rw[List.getElem?_eq_getElem hi];simpa using this.symm
 .rw[List.getElem?_eq_none aa,List.getElem?_eq_none aF]
end
inductive Sh where
 |int (k:IntKind)
 |bool
 |str
 |sl (e:Sh)
 |ar (n:Nat) (e:Sh)
 |st (fs:List Sh)
variable{s:Sh}
mutual
/-- A type has a shape. -/
def Typ(P:Program):Sh->TypeId->Prop
 |.int k,t=>P.underlying t=some (.int k)∧P.cellsOf t=1
 |.bool,t=>P.underlying t=some .bool∧P.cellsOf t=1
 |.str,t=>P.underlying t=some .string∧P.cellsOf t=1
 |.sl e,t=>∃u,P.underlying t=some (.slice u)∧P.cellsOf t=1∧0<P.cellsOf u∧Typ P e u
 |.ar n e,t=>∃u,P.underlying t=some (.array n u)∧P.cellsOf t=n*P.cellsOf u∧Typ P e u
 |.st fs,t=>∃l:List Field,P.underlying t=some (.struct l.toArray)∧TY P fs l 0 (P.cellsOf t)
def TY(P:Program):List Sh->List Field->Nat->Nat->Prop
 |[],l,o,n=>l=[]∧o=n
 |s::ss,l,o,n=>∃f r,l=f::r∧f.offset=o∧Typ P s f.type∧TY P ss r (o+P.cellsOf f.type) n
end
mutual
/-- Cells of a shape. -/
def Dat:Sh->LdQ->Prop
 |.int k,ds=>∃n,ds=[.int k n]∧(Lit.int k n).wf=true
 |.bool,ds=>∃b,ds=[.bool b]
 |.str,ds=>∃s:LuQ,ds=[.str s]∧s.length<=maxLen
 |.sl e,ds=>∃xs:List LdQ,ds=[.sl xs.length xs.flatten]∧∀x∈xs,Dat e x
 |.ar n e,ds=>∃xs:List LdQ,ds=xs.flatten∧xs.length=n∧∀x∈xs,Dat e x
 |.st ss,ds=>af8 ss ds
def af8:List Sh->LdQ->Prop
 |[],ds=>ds=[]
 |s::ss,ds=>∃a b,ds=a++b∧Dat s a∧af8 ss b
end
section
variable{HH:Type}{enc:TypeId×Value->HH}{P:Program}{w:World}{base:Nat}{held:Bool}
theorem WDs.append:∀{a b:LdQ}{u v:LvQ},WDs w a u->WDs w b v->WDs w (a++b) (u++v)
 |[],b,u,v,h,h2=>by grind[WDs]
 | x::a,b,u,v,h,h2=>by
  simp only[WDs]at h;obtain⟨y,u,rfl,h0,h1⟩:=h;exact⟨y,u++v,rfl,h0,h1.append h2⟩
theorem WDs.len:∀{a:LdQ}{u:LvQ},WDs w a u->a.length=u.length
 |[],u,h=>by grind[WDs]
 | x::a,u,h=>by
  simp only[WDs]at h;obtain⟨y,u,rfl,_,h1⟩:=h;simp[h1.len]
theorem ut{α:Type}(C:Nat->List α)(n:Nat):∀m,(∀i,i<m->(C i).length=n)->((List.range m).flatMap C).length=m*n∧∀i j,i<m->j<n->((List.range m).flatMap C)[i*n+j]?=(C i)[j]?
 |0,_=>⟨ae,fun i j hi=>by omega⟩
 | m+1,h=>by
  obtain⟨h1,h2⟩:=ut C n m fun i hi=>h i aa
  have e:(List.range (m+1)).flatMap C=(List.range m).flatMap C++C m:=by simp[V8]
  rw[e];refine⟨by rw[Zr,h1,h m aa,Xh],fun i j hi hj=>?_⟩;by_cases him:i<m
  .rw[List.getElem?_append_left,h2 i j him hj];rw[h1]
   calc i*n+j<i*n+n:=aa
    _=(i+1)*n:=by rw[Xh]
    _<=m*n:=Zu n him
  .obtain rfl:i=m:=aa
   simp_all
theorem Av(C:Nat->LvQ)(X:Nat->LdQ):∀m,(∀i,i<m->WDs w (X i) (C i))->WDs w ((List.range m).flatMap X) ((List.range m).flatMap C)
 |0,_=>rfl
 | m+1,h=>by
  simp only[V8,List.flatMap_append,List.flatMap_cons,List.flatMap_nil,Zj];exact(Av C X m fun i hi=>h i aa).append (h m aa)
theorem RX{len cap:Nat}{vs:LvQ}(hn:0<n)(hl:len<=cap)(hlen:vs.length=cap*n)(h:∀i v,vs[i]?=some v->w.cell? (a.add i)=some v)(hd:WDs w ds (vs.take (len*n)))(hds:ds.length=len*n):WD w (.sl len ds) (.slice (some a) len cap):=by
 simp only[WD];by_cases h0:cap=0
 .have e:len=0:=aa
  simp_all
 .have hpos:0<vs.length:=by rw[hlen];exact X9 aa hn
  have hle2:len*n<=vs.length:=by rw[hlen];exact Zu n hl
  obtain⟨cs,e,fz,hc,hs,hle,hvs⟩:=Ir h hpos;refine .inr ⟨a.block,a.off,cap,n,cs,e,fz,?_,hl,hn,hds,hc,aa,?_⟩
  .cases a;grind
  grind
def Opn(enc:TypeId×Value->HH)(P:Program)(w:World)(base:Nat)(held:Bool)(s:Sh):Prop:=
 ∀(t:TypeId)(fuel:Nat)(cs:LvQ)(x:DataW HH×List MemPlace),Typ P s t->DataW.trod enc P w base (fun _=>true) held fuel t cs=some x->cs.length=P.cellsOf t∧∃ds,Dat s ds∧WDs w ds cs
theorem J2[Inhabited α]{p:Nat->α->Prop}(h:∀i,i<m->∃x,p i x):∃f:Nat->α,∀i,i<m->p i (f i):=
 ⟨fun i=>if hi:i<m then Classical.choose (h i hi)else default,fun i hi=>by
  grind⟩
theorem aeS(ih:Opn enc P w base held s):Opn enc P w base held (.sl s):=by
 intro t fuel cs x ht h;simp only[Typ]at ht;obtain⟨u,hu,hc1,hcu,hs⟩:=ht;rcases Deep.open_slice hu h with⟨rfl,_⟩|⟨a,len,cap,m,n,Dd,Pl,rfl,_,hlc,_,hm,_,hx⟩
 .exact⟨by grind,[.sl 0 []],⟨[],rfl,fun x hx=>by cases hx⟩,_,_,rfl,.inl ⟨rfl,rfl,.inl rfl⟩,rfl⟩
 .simp only[if_true]at hm;subst hm;obtain⟨C,hC⟩:=J2 (α:=LvQ) hx
  obtain ⟨E,hE⟩:=J2 (α:=LdQ) (p:=fun i e=>Dat s e∧WDs w e (C i)) (m:=m) fun i hi=>by
   obtain⟨_,ds,h1,h2⟩:=ih _ _ _ _ hs (hC i hi).2
   grind
  have hCl:∀i,i<m->(C i).length=P.cellsOf u:=fun i hi=>(World.cells?_some (hC i hi).1).2.1
  obtain⟨hl1,hl2⟩:=ut C (P.cellsOf u) m hCl;have hEl:∀i,i<m->(E i).length=P.cellsOf u:=fun i hi=>by rw[(hE i hi).2.len,hCl i hi]
  refine⟨by grind,[.sl ((List.range len).map E).length ((List.range len).map E).flatten],⟨_,rfl,fun x hx=>?_⟩,_,_,rfl,?_,rfl⟩
  .simp only[Zy,Yl]at hx;obtain⟨i,hi,rfl⟩:=hx;exact(hE i aa).1
  .rw[List.length_map,Xf,<-List.flatMap_def];refine RX (vs:=(List.range m).flatMap C) hcu hlc hl1 (fun i v hv=>?_) ?_ (ut E (P.cellsOf u) len fun i hi=>hEl i aa).1
   .have hi:=(List.getElem?_eq_some_iff.1 hv).1;rw[hl1]at hi;have hdm:=Xm i (P.cellsOf u);have hmod:=Yu i hcu;have hdiv:i/P.cellsOf u<m:=Wj (by grind);have e:i=i/P.cellsOf u*P.cellsOf u+i%P.cellsOf u:=by rw[Zq];exact hdm.symm
    have:=(World.cells?_some (hC _ hdiv).1).2.2 (i%P.cellsOf u) hmod
    grind[Addr.add_add]
   ·have e:((List.range m).flatMap C).take (len*P.cellsOf u)=(List.range len).flatMap C:=by
     have e1:List.range m=List.range len++(List.range (m-len)).map (len + ·):=by
      conv=>lhs;rw[show m=len+(m-len) by omega,List.range_add]
     rw[e1,List.flatMap_append,X3];exact(ut C (P.cellsOf u) len fun i hi=>hCl i aa).1
    rw[e];exact Av C E len fun i hi=>(hE i aa).2
theorem aeT(ih:Opn enc P w base held s):Opn enc P w base held (.ar n s):=by
 intro t fuel cs x ht h;simp only[Typ]at ht;obtain⟨u,hu,hct,hs⟩:=ht;obtain⟨xs,m,_,_,hl,hxl,hx⟩:=DataW.trod_array hu h
 let C:Nat->LvQ:=fun i=>(cs.drop (i*P.cellsOf u)).take (P.cellsOf u)
 obtain ⟨E,hE⟩:=J2 (α:=LdQ) (p:=fun i e=>Dat s e∧WDs w e (C i)) (m:=n) fun i hi=>by
  have:=hx i hi;rw[List.getElem?_eq_getElem aa]at this;obtain⟨_,ds,h1,h2⟩:=ih _ _ _ _ hs this
  grind
 refine⟨hl,((List.range n).map E).flatten,⟨_,rfl,ae,fun x hx=>?_⟩,?_⟩
 .grind
 .rw[<-List.flatMap_def]
  have e:∀m,m<=n->cs.take (m*P.cellsOf u)=(List.range m).flatMap C:=by
   intro m
   induction m with
   |zero=>simp
   | succ m ihm=>
    intro hm;rw[Xh,List.take_add,ihm aa];simp[V8,C]
  have:=e n (Z8 _);rw[Zw aa]at this
  grind[Av]
mutual
theorem opn:∀s:Sh,Opn enc P w base held s
 | .int k=>by
  intro t fuel cs x ht h;simp only[Typ]at ht;obtain⟨n,rfl,_,hw⟩:=DataW.trod_int ht.1 h;exact⟨by grind,[.int k n],⟨n,rfl,hw⟩,_,_,rfl,rfl,rfl⟩
 | .bool=>by
  intro t fuel cs x ht h;simp only[Typ]at ht;obtain⟨b,rfl,_⟩:=DataW.trod_bool ht.1 h;exact⟨by grind,[.bool b],⟨b,rfl⟩,_,_,rfl,rfl,rfl⟩
 | .str=>by
  intro t fuel cs x ht h;simp only[Typ]at ht;obtain⟨s,rfl,_,hs⟩:=DataW.trod_string ht.1 h;exact⟨by grind,[.str s.data.toList],⟨_,rfl,by trivial⟩,_,_,rfl,rfl,rfl⟩
 |.sl e=>aeS (opn e)
 |.ar n e=>aeT (opn e)
 | .st ss=>by
  intro t fuel cs x ht h;simp only[Typ]at ht;obtain⟨l,hu,hl⟩:=ht;obtain⟨xs,m,_,_,hcl,hxl,hx⟩:=DataW.trod_struct hu h;refine⟨hcl,?_⟩
  have:=aha ss (l:=l) (o:=0) (n:=P.cellsOf t) (fuel:=m) (cs:=cs) hl hcl fun f hf=>by
   obtain⟨i,hi⟩:=List.getElem?_of_mem hf;have h1:=hx i f (by grind)
   grind
  trivial
theorem aha:∀(ss:List Sh){l:List Field}{o n fuel:Nat}{cs:LvQ},TY P ss l o n->cs.length=n ->
  (∀f∈l,∃x,DataW.trod enc P w base (fun _=>true) held fuel f.type ((cs.drop f.offset).take (P.cellsOf f.type))=some x)->∃ds,af8 ss ds∧WDs w ds (cs.drop o)
 | [],l,o,n,fuel,cs,ht,hl,h=>by
  simp only[TY]at ht;refine⟨[],rfl,?_⟩;rw[Y3 aa];rfl
 | s::ss,l,o,n,fuel,cs,ht,hl,h=>by
  simp only[TY]at ht;obtain⟨f,r,rfl,rfl,h1,h2⟩:=ht;obtain⟨x,hx⟩:=h f ae;obtain⟨_,a,ha,wa⟩:=opn s _ _ _ _ h1 hx;obtain⟨b,hb,wb⟩:=aha ss h2 hl fun g hg=>h g (by grind)
  refine⟨a++b,⟨a,b,rfl,ha,hb⟩,?_⟩
  have e:cs.drop f.offset=(cs.drop f.offset).take (P.cellsOf f.type)++cs.drop (f.offset+P.cellsOf f.type):=by
   rw[<-List.drop_drop,Xx]
  grind[WDs.append]
end
inductive Ar where
 |one (x:D)
 |many (xs:LdQ)
def Ar.v:Ar->V
 |.one x=>.d x
 |.many xs=>.agg (xs.map .d)
def WA(w:World):Ar->Value->Prop
 |.one x,v=>WD w x v
 |.many xs,v=>∃ws,v=.agg ⟨ws⟩∧WDs w xs ws
def WAs(w:World):List Ar->LvQ->Prop
 |[],l=>l=[]
 |x::xs,l=>∃v vs,l=v::vs∧WA w x v∧WAs w xs vs
theorem U3{F1:Nat->Prop}{H1:AH}(φ0:LnQ)(h0:Hp):∀(ds:LdQ)(us:LvQ),RDs F1 H1 ds us->RVs φ0 F1 H1 h0 (ds.map .d) us
 |[],us,h=>by trivial
 | d::ds,us,h=>by
  simp only[RDs]at h;obtain⟨u,us,rfl,h1,h2⟩:=h;exact⟨u,us,rfl,h1,U3 φ0 h0 ds us h2⟩
def RAs(F:Nat->Prop)(H:AH)(rs:List Ar)(us:LvQ):Prop:=∀φ0 h0,RVs φ0 F H h0 (rs.map Ar.v) us
theorem afa:∀(rs:List Ar)(vs:LvQ){φ:bH}{F:Nat->Prop}{H:AH},Ly w φ F H->WAs w rs vs ->
  ∃φ' F' H' us,Ly w φ' F' H'∧t8 φ F H φ' F' H'∧au φ' us vs∧RAs F' H' rs us
 |[],vs,φ,F,H,L,h=>⟨φ,F,H,[],L,t8.refl ..,by trivial,fun _ _=>rfl⟩
 | .one x::rs,vs,φ,F,H,L,h=>by
  simp only[WAs,WA]at h;obtain⟨v,vs,rfl,h1,h2⟩:=h;obtain⟨φ1,F1,H1,u,L1,E1,r1,d1⟩:=lay x v L h1;obtain⟨φ2,F2,H2,us,L2,E2,r2,d2⟩:=afa rs vs L1 h2;exact⟨φ2,F2,H2,u::us,L2,E1.trans E2,⟨v,vs,rfl,am.mono E2.le u v r1,r2⟩,fun φ0 h0=>⟨u,us,rfl,RD.mono (E2.leF L1) _ _ d1,d2 φ0 h0⟩⟩
 | .many xs::rs,vs,φ,F,H,L,h=>by
  simp only[WAs,WA]at h;obtain⟨v,vs,rfl,⟨ws,rfl,h1⟩,h2⟩:=h;obtain⟨φ1,F1,H1,us1,L1,E1,r1,d1⟩:=lays xs ws L h1;obtain⟨φ2,F2,H2,us,L2,E2,r2,d2⟩:=afa rs vs L1 h2;exact⟨φ2,F2,H2,.agg ⟨us1⟩::us,L2,E1.trans E2,⟨_,vs,rfl,⟨ws,rfl,au.mono E2.le _ _ r1⟩,r2⟩,fun φ0 h0=>⟨_,us,rfl,⟨us1,rfl,U3 φ0 h0 _ _ (RDs.mono (E2.leF L1) _ _ d1)⟩,d2 φ0 h0⟩⟩
theorem J4{rs:List Ar}{vs:LvQ}{b:Bool}{w:World}(hc:CP Y f (rs.map Ar.v) (.d (.bool b)))(hw:WAs w rs vs)(hp:RQ w)(h0:∀u,Y.X.orc f u=none:=by exact fun _=>rfl):
  Calls X.P f vs.toArray w fun e w'=>e=.returned (.bool b)∧w'.os=w.os∧w'.output=w.output∧w.heap.size<=w'.heap.size∧∀c,c<w.heap.size->w'.heap[c]?=w.heap[c]?:=by
 obtain⟨φ,F,H,L,g⟩:=start hp;obtain⟨φ1,F1,H1,us,L1,E1,r1,d1⟩:=afa rs vs L hw;obtain⟨n,wv,H2,F2,hcall,hn,_,_,_,_,_,_,_,hr⟩:=aih vOk hc F1 H1 us L1.wf L1.fr (g.mono (E1.leF L)) d1
 have hv:wv=.bool b:=by
  have:=hr [] [];simpa only[RV,RD]using this
 subst hv;refine(Nb aeW hcall L1.rel (args':=vs.toArray) r1 h0).mono ?_;rintro e w' ⟨φ',v',rfl,h1,h2,h3,h4⟩;have hv':v'=.bool b:=(am.of_plain (.bool b) rfl v').1 h1;subst hv';refine⟨rfl,h3.os,h3.out,h3.size,fun c hc=>h3.frame c hc ?_⟩;rintro⟨b',p,x,_,_,hx,_,hwr⟩
 grind[Ly.ro]
theorem Pk{v:Value}{x:DataW HH×List MemPlace}(ht:Typ P s t)(h:DataW.trod enc P w base (fun _=>true) held fuel t v.cells.toList=some x)(hv:∃cs,v=.agg cs):
  ∃ds,Dat s ds∧WA w (.many ds) v:=by obtain⟨hl,ds,h1,h2⟩:=opn s _ _ _ _ ht h;obtain⟨cs,rfl⟩:=hv;exact⟨ds,h1,cs.toList,rfl,h2⟩
theorem NQ{P:Program}{W:World}{base:Nat}{fs:Array Field}{v:Value}(ht:P.underlying t=some (.struct fs))(h:Value.okWide P W .any base t v):∃cs,v=.agg cs:=by grind[Value.okWide]
theorem TR{P:Program}{W:World}{base:Nat}{v:Value}(ht:P.underlying t=some (.array n e))(h:Value.okWide P W .any base t v):∃cs,v=.agg cs:=by grind[Value.okWide]
end
theorem aah{f:α->LdQ}(q:α->Prop)(hs:∀ds,Dat s ds->∃a,ds=f a∧q a){d:D}(h:Dat (.sl s) [d]):∃l:List α,d=.sl l.length (l.flatMap f)∧∀a∈l,q a:=by
 simp only[Dat,List.cons.injEq,and_true]at h;obtain⟨xs,rfl,hx⟩:=h
 have:∀xs:List LdQ,(∀x∈xs,Dat s x)->∃l:List α,xs=l.map f∧∀a∈l,q a:=by
  intro xs
  induction xs with
  |nil=>simp
  | cons x xs ih=>
   intro h;obtain⟨n,rfl,hn⟩:=hs x (h x ae);obtain⟨zs,rfl,hz⟩:=ih fun y hy=>h y (by grind)
   exact⟨n::zs,rfl,fun m hm=>by grind⟩
 obtain⟨l,rfl,hl⟩:=this xs hx;exact⟨l,by rw[List.length_map,<-List.flatMap_def],hl⟩
def RR(W W':World):Prop:=W'.os=W.os∧W'.output=W.output∧W.heap.size<=W'.heap.size∧∀c,c<W.heap.size->W'.heap[c]?=W.heap[c]?
section
variable{H:Type}{enc:TypeId×Value->H}{P:Program}
theorem RR.but{W W':World}(h:RR W W')(may:MemPlace->Prop):W.keptBut W' may:=by
 refine⟨h.1,h.2.1,fun i hi=>?_⟩;rw[h.2.2.2 i hi];cases hq:W.heap[i]? with
 |none=>simp
 |some o=>cases o<;>simp
theorem SD{f:Func}{s:ChangeSpec}{apart fresh handsOn again:Bool}{W W':World}{args:Array Value}{v:Value}{ds gs:List (DataW H)}{before pa pv:List MemPlace}
  (hW:DataW.Whole enc P f.params.toList s.vars apart W args.toList ds gs before)
  (hres:∀(b:Nat)(sp:Nat->Bool)(hd:Bool),DataW.TrodAll enc P W' b sp hd f.resultTypes.toList (v.resultList f.resultTypes.size) (s.fn H (ds++gs)).results [])
  (hargs:∀sp:Nat->Bool,(∀p∈before,sp p.block=true)->DataW.TrodAll enc P W' 0 sp true f.params.toList args.toList (s.fn H (ds++gs)).args pa)
  (hvars:∀sp:Nat->Bool,(∀p∈before,sp p.block=true)->DataW.TrodVars enc P W' sp s.vars (s.fn H (ds++gs)).vars pv)
  (hps:before=pa++pv) (hk:RR W W')
  (hok:∀(j:Nat)(t:TypeId)(r:Value),f.resultTypes[j]?=some t->(v.resultList f.resultTypes.size)[j]?=some r->Value.okWide P W' .any 0 t r) :
  s.post enc P f apart fresh handsOn again W args v W':=by
 have hold:∀p∈before,(fun b=>decide (b<W.heap.size)) p.block=true:=fun p hp=>by simpa using hW.lt p hp
 have hlt:=hW.lt;refine⟨ds,gs,before,[],pa,pv,hW,hres _ _ _,hargs _ hold,hvars _ hold,World.keptBut_mono (fun p hp=>⟨hp,?_⟩) (hk.but (· ∈ before)),fun _=>?_⟩
 .rw[hps,W0]at hp;exact Or.inr hp
 .obtain⟨_,_,_,_,_,hz,hn⟩:=hW;refine⟨hok,_,_,([]++pa)++pv,⟨[]++pa,pv,trodAll_append (hargs _ (fun _ _=>rfl)) (hres _ _ _),hvars _ (fun _ _=>rfl),rfl,?_,?_⟩,?_⟩
  .intro b off hp;have hp':MemPlace.cell b off∈before:=by rw[hps];simpa using hp
   have hb:b<W.heap.size:=hlt _ hp';have:=hz b off hp';simp only[World.frozen?]at this ⊢;rw[hk.2.2.2 b hb];exact this
  .intro ha;have:=hn ha;rw[hps]at this;simpa using this
  .intro p hp _;rw[hps];simpa using hp
theorem yJ(hl:laidOutB P=true){W W':World}(hk:RR W W'){sp:Nat->Bool}:∀{ts:List TypeId}{vs:LvQ}{ds:List (DataW H)}{ps:List MemPlace},(∀t∈ts,P.readableRec t=true∧t<P.types.size) ->
  DataW.TrodAll enc P W 0 (fun _=>true) true ts vs ds ps->(∀p∈ps,p.block<W.heap.size)->(∀p∈ps,sp p.block=true)->DataW.TrodAll enc P W' 0 sp true ts vs ds ps
 | [],vs,ds,ps,_,h,_,_=>by
  obtain⟨rfl,rfl,rfl⟩:=trodAll_nil h;exact trodAll_mk0
 | t::ts,vs,ds,ps,hr,h,hlt,hsp=>by
  obtain⟨v,vs',d,ds',p,q,rfl,rfl,rfl,h1,h2⟩:=trodAll_cons h;refine trodAll_cons_mk (WideElems.Trod_stays hl (hr t ae).1 (hr t ae).2 h1 (fun x hx=>?_) fun x hx=>hsp x (by simp[hx])) (yJ hl hk (fun u hu=>hr u (by simp[hu])) h2 (fun x hx=>hlt x (by simp[hx])) fun x hx=>hsp x (by simp[hx]));have hb:=hlt x (by simp[hx]);cases x with
  | cell b off=>
   simp only[World.sameAt,World.cell?];rw[hk.2.2.2 b hb]
  |map b=>exact hk.2.2.2 b hb
end
theorem E7{P:Program}{w:World}:∀{l:List (String×DataW Unit)}{ps:List MemPlace},DataW.LaidVars P w l ps->∀n d,(n,d)∈l ->
  ∃g t cs fuel p,P.globalNamed n=some g∧(P.globals[g]?).map (·.type)=some t∧w.var? P n=some cs∧DataW.trod (fun _=>()) P w 0 (fun _=>true) false fuel t cs.toList=some (d,p)
 |[],_,_,_,_,hm=>by cases hm
 | (n',d')::r,ps,h,n,d,hm=>by
  obtain⟨g,t,cs,fuel,p,q,h1,h2,h3,h4,h5,_⟩:=h;rcases Zx.1 hm with e|e
  .cases e;exact⟨g,t,cs,fuel,p,h1,h2,h3,h4⟩
  .exact E7 h5 n d e
def aeP:LiQ:=[1,10,100,1000,10000,100000,1000000,10000000,100000000,1000000000,10000000000,100000000000,1000000000000,10000000000000,100000000000000,1000000000000000,10000000000000000,100000000000000000,1000000000000000000,10000000000000000000]
theorem aeN{P:Program}{W:World}{name:String}{t e:TypeId}(hg:P.globalNamed name=some nW)(hty:(P.globals[nW]?).map (·.type)=some t)(ht:P.underlying t=some (.array 20 e))(he:P.underlying e=some (.int .u64))(hce:P.cellsOf e=1)(hct:P.cellsOf t=20)
  {l:List (String×DataW Unit)} (hm:(name,Lib.tabData .u64 aeP)∈l) (h:laidMet P l W):RQ W:=by
 obtain⟨ps,hv,_⟩:=h;obtain⟨g',t',cs,fuel,p,hg',ht',hvar,hd⟩:=E7 hv _ _ hm;obtain rfl:=Option.some.inj (hg.symm.trans hg');obtain rfl:=Option.some.inj (hty.symm.trans ht')
 have tab:Lib.TabIs P W name .u64 aeP:=by
  unfold Lib.TabIs;rw[hvar,<-Lib.cells_of_tab ht he hce hct hd]
 have hpv:∀i v,AV[i]?=some v->W.cell? ((⟨nW,0,none⟩:Addr).add i)=some v:=by
  intro i v hv;have hi:i<20:=(List.getElem?_eq_some_iff.1 hv).1;rw[addr_add _ rfl];have h1:=tab.cell hg i hi;simp only[Zi];rw[h1];have h2:AV=aeP.map fun z=>Value.int .u64 z:=rfl
  rw[h2,List.getElem?_map,Z1]at hv;obtain⟨z,hz,rfl⟩:=hv;simp[hz]
 obtain⟨cs,e,fz,h1,_,h2,h3⟩:=Ir (w:=W) (a:=⟨nW,0,none⟩) (vs:=AV) hpv af;exact⟨cs,e,fz,h1,by simpa[AV]using h2,by simpa[AV]using h3⟩
open Go.Proofs Go.Proofs.YtiipdodkemakeaaGreatDoor
theorem aj1:Tryz.prog.globalNamed "internal/strconv.uint64pow10" = some nW:=by kernel_rfl
theorem YX:(Tryz.prog.globals[nW]?).map (·.type)=some 235:=ag
theorem aer:Tryz.prog.underlying 235=some (.array 20 167):=ag
theorem aeq:Tryz.prog.underlying 167=some (.int .u64):=ag
theorem aau:Tryz.prog.cellsOf 167=1:=ag
theorem aav:Tryz.prog.cellsOf 235=20:=ag
mutual
/-- Has a type a shape? -/
def Gg(P:Program):Sh->TypeId->Bool
 | .int k,t=>(match P.underlying t with
  |some (.int k')=>decide (k'=k)
  |_=>false)&&Nat.beq (P.cellsOf t) 1
 | .bool,t=>(match P.underlying t with
  |some .bool=>true
  |_=>false)&&Nat.beq (P.cellsOf t) 1
 | .str,t=>(match P.underlying t with
  |some .string=>true
  |_=>false)&&Nat.beq (P.cellsOf t) 1
 | .sl e,t=>(match P.underlying t with
  |some (.slice u)=>Nat.beq (P.cellsOf t) 1&&Nat.blt 0 (P.cellsOf u)&&Gg P e u
  |_=>false)
 | .ar n e,t=>(match P.underlying t with
  |some (.array m u)=>Nat.beq m n&&Nat.beq (P.cellsOf t) (n*P.cellsOf u)&&Gg P e u
  |_=>false)
 | .st fs,t=>(match P.underlying t with
  |some (.struct l)=>G5 P fs l.toList 0 (P.cellsOf t)
  |_=>false)
def G5(P:Program):List Sh->List Field->Nat->Nat->Bool
 |[],l,o,n=>l.isEmpty&&Nat.beq o n
 | s::ss,l,o,n=>(match l with
  |[]=>false
  |f::r=>Nat.beq f.offset o&&Gg P s f.type&&G5 P ss r (o+P.cellsOf f.type) n)
end
mutual
theorem DV{P:Program}:∀{s:Sh}{t:TypeId},Gg P s t=true->Typ P s t
 | .int k,t,h=>by
  simp only[Gg,Z7]at h;obtain⟨h1,h2⟩:=h;split at h1
  .rename_i h3;obtain rfl:=of_decide_eq_true h1;exact⟨h3,Zh h2⟩
  .cases h1
 | .bool,t,h=>by
  simp only[Gg,Z7]at h;obtain⟨h1,h2⟩:=h;split at h1
  .rename_i h3;exact⟨h3,Zh h2⟩
  .cases h1
 | .str,t,h=>by
  simp only[Gg,Z7]at h;obtain⟨h1,h2⟩:=h;split at h1
  .rename_i h3;exact⟨h3,Zh h2⟩
  .cases h1
 | .sl e,t,h=>by
  simp only[Gg]at h;split at h
  .rename_i u h3;simp only[Z7]at h;obtain⟨⟨h1,h2⟩,h4⟩:=h;exact⟨u,h3,Zh h1,by have:=h2;simp[Nat.blt]at this;omega,DV h4⟩
  .cases h
 | .ar n e,t,h=>by
  simp only[Gg]at h;split at h
  .rename_i m u h3;simp only[Z7]at h;obtain⟨⟨h1,h2⟩,h4⟩:=h;obtain rfl:=Zh h1;exact⟨u,h3,Zh h2,DV h4⟩
  .cases h
 | .st fs,t,h=>by
  simp only[Gg]at h;split at h
  .rename_i l h3;exact⟨l.toList,by rw[h3],Pq h⟩
  .cases h
theorem Pq{P:Program}:∀{ss:List Sh}{l:List Field}{o n:Nat},G5 P ss l o n=true->TY P ss l o n
 | [],l,o,n,h=>by
  simp only[G5,Z7,List.isEmpty_iff]at h;exact⟨h.1,Zh h.2⟩
 |s::ss,[],o,n,h=>by simp[G5]at h
 | s::ss,f::r,o,n,h=>by
  simp only[G5,Z7]at h;obtain⟨⟨h1,h2⟩,h3⟩:=h;exact⟨f,r,rfl,Zh h1,DV h2,Pq h3⟩
end
theorem wf_u8{n:Int}(h:(Lit.int .u8 n).wf=true):0<=n∧n<=255:=by simp only[Lit.wf,Z7,decide_eq_true_eq]at h;exact h
theorem wf_i8{n:Int}(h:(Lit.int .i8 n).wf=true): -128<=n∧n<=127:=by simp only[Lit.wf,Z7,decide_eq_true_eq]at h;exact h
def ajS:DataW Unit->Value
 |.lit (.int k n)=>.int k n
 |_=>undef
def aey:DataW Unit->Array Value
 |.agg l=>(l.map ajS).toArray
 |_=>#[]
def ahP:DataW Unit->Value
 |.iface _ (.ptr (.agg [.lit (.string l)]))=>.string ⟨l.toArray⟩
 |_=>undef
def UV(cs:Array Value):Obj->Obj
 |.cells _ t frozen=>.cells cs t frozen
 |o=>o
noncomputable def Bp(os:Os):World:=
 let w0:=World.holding Tryz.prog os ⟨#[.cells #[ahP Rows.laid_strconv_ErrSyntax] 245,.cells #[ahP Rows.laid_strconv_ErrRange] 245],#[],[]⟩
 let low:=(World.settled Tryz.prog os).heap.size
 {w0 with heap:=((((w0.heap.modify 0 (UV #[.iface 243 (.pointer (some ⟨low,0,none⟩))])).modify 1 (UV #[.iface 243 (.pointer (some ⟨low+1,0,none⟩))])).modify 2 (UV (aey Rows.laid_internal_strconv_uint64pow10))).modify 3 (UV (aey Rows.laid_math_bits_deBruijn32tab))).modify 4 (UV (aey Rows.laid_math_bits_deBruijn64tab))}
def aeD:Sh:=.ar 4 (.int .i8)
def UT:Sh:=.st [.int .u8,.sl aeD,.bool]
theorem aai(ds:LdQ)(h:Dat aeD ds):∃x:I4,ds=i4D x∧ok4 x:=by
 obtain⟨xs,rfl,hl,hx⟩:=h
 match xs,hl,hx with
 | [x1,x2,x3,x4],_,hx=>
  obtain⟨a,rfl,ha⟩:=hx x1 ae;obtain⟨b,rfl,hb⟩:=hx x2 ae;obtain⟨c,rfl,hc⟩:=hx x3 ae;obtain⟨d,rfl,hd⟩:=hx x4 ae;exact⟨(a,b,c,d),rfl,wf_i8 ha,wf_i8 hb,wf_i8 hc,wf_i8 hd⟩
theorem aag(h:Dat UT ds):∃(k:Nat)(e:List I4)(b:Bool),ds=[.int .u8 k,.sl e.length (e.flatMap i4D),.bool b]∧k<256∧∀x∈e,ok4 x:=by obtain⟨a,b,rfl,⟨n,rfl,hn⟩,a',b',rfl,h2,_,_,rfl,⟨c,rfl⟩,rfl⟩:=h;have h2':=h2;obtain⟨xs,rfl,_⟩:=h2';have hb:=wf_u8 hn;obtain⟨e,he,hq⟩:=aah (f:=i4D) ok4 aai h2;exact⟨n.toNat,e,c,by simp only[Zj,List.cons_append,List.nil_append];rw[he,Int.toNat_of_nonneg hb.1],aa,hq⟩
end Go.Vm
