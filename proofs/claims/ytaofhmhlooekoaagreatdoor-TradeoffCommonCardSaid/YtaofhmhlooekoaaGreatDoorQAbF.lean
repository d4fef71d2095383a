/- Lemmas. -/
import Derived.Test.YtaofhmhlooekoaaGreatDoorQTrA
set_option linter.unusedVariables false
set_option linter.unusedSimpArgs false
namespace Go.Vm
open Go Go.Am Go.Big
variable{a:Ad}{h:Hp}
variable{C n i base:Nat}{r:Rg}{l L:List (List Q)}{x hi s:List Q}{div z:Int}{hl hh em b':Bool}{v:V}{e:List (Int×Nat)}{h0 h1 h2 h3 h4 s5 s6 s7:Nat×Bk}{ds:LdQ}
theorem Vh{B:Nat}{r:LiQ}(h:bdN B r)(hc:B<=C):bdN C r:=fun x hx=>Zy (h x hx) hc
section
variable{p:LiQ}{b:Nat}
structure Vt(p:LiQ)(b B:Nat)(owns:List LLQ)(steps:List (List LLQ)):Prop where
 hp:pcS p
 b0:0<b
 b1:b<1000000
 ne:0<owns.length
 five:owns.length<=5
 B1:B<=2000000
 hl:steps.length=owns.length
 ho:∀o∈owns,0<o.length∧o.length<1000000∧okR p B o
 hs:∀k,k+1<owns.length->(nth [] steps k).length=(nth [] owns k).length∧∀ss∈nth [] steps k,ss.length=(nth [] owns (k+1)).length∧okR p B ss
variable{B:Nat}{owns:List LLQ}{steps:List (List LLQ)}
def p3:Nat->Nat
 |0=>1
 |n+1=>p3 n+p3 n+p3 n
theorem adl(h:n<=4):p3 n<=81:=by have:n=0∨n=1∨n=2∨n=3∨n=4:=aa;rcases this with rfl|rfl|rfl|rfl|rfl<;>decide
theorem Vt.le(P:Vt p b B owns steps){d:Nat}(h:d<=4):B*p3 d<=200000000:=by have h1:=Za P.B1 (adl h);omega
end
variable{a:Ad}
theorem zA{α:Type}(d:α)(f:Nat->α)(h:i<n):nth d ((List.range n).map f) i=f i:=by grind[cF]
theorem sV.pre(G:sV a):Vt a.p a.w.2 1920000 (AG a) (GR a):=by
 obtain⟨w1,w2,w3,w4⟩:=G.w0;have h5:=G.five;have hcl:=G.cl;have hlen:=G.wk.len;refine⟨G.hp,w1.1,aa,by grind[AG],by grind[AG],aa,by simp[AG,GR],fun o h=>?_,fun k hk=>?_⟩
 .simp only[AG,Zf,Xk]at h;obtain⟨k,hk,rfl⟩:=h;obtain⟨n1,n2⟩:=G.cn _ (eM (d:=[]) hk);refine⟨by grind[FX],by grind[FX],fun r hr=>?_⟩
  grind[FX,ownW,Vh]
 .simp only[AG,List.length_map,List.length_range]at hk;unfold AG GR;rw[zA _ _ (show k<a.cd.length by omega),zA _ _ (show k<a.cd.length by omega),zA _ _ hk];refine⟨by simp[Lr,FX],fun ss hss=>?_⟩;simp only[Lr,Zf,Xk]at hss;obtain⟨i,hi,rfl⟩:=hss;refine⟨by simp[Lq,FX],fun r hr=>?_⟩
  simp only[Lq,Zf,Xk]at hr;obtain⟨j,hj,rfl⟩:=hr;exact G.stepW (i:=k) aa hi hj
theorem tS{h:Hp}(hu:(h.all fun x=>aA h.length x.2)=true){l:List Q}(hl:0<l.length)(hb:l.length<1000000000):CI Y F.au [szV l] h (.new 2 ((l.map tx).flatMap bg) false l.length l.length) h:=by
 refine iu ?_;have fl:((l.map tx).flatMap bg).length=l.length*2:=by rw[gP bg bG,List.length_map]
 have e:szV l=.d (.sl l.length ((l.map tx).flatMap bg)):=by unfold szV sv;rw[List.length_map]
 rw[e];generalize(l.map tx).flatMap bg=cells at *
 have nl:∀(H:Hp)(k:V->Prop)(u:PU k),rn (xi H .eql (.d (.sl l.length cells)) (.d nPQ)) k u=k (.d (.bool false)):=fun H k u=>by
  obtain⟨m,hm⟩:∃m,l.length=m+1:=⟨l.length-1,aa⟩;rw[hm];rfl
 simp[au,nl]
 have hli:dW 0 [D.str [],D.str []] [] (h++[(0,Bk.none),(0,Bk.none)])=some ([],h++[(0,Bk.none),(0,Bk.none)]):=by
  simp[dW,gD,iW]
 rw[hli];simp;refine Qq (z:=[]) ae hl aa aa ?_;refine⟨af,?_,.inr (.inr (.inl ⟨h.length+1,1,l.length,l.length,2,cells,false,af,aa,by simp[aC],rfl⟩))⟩;simp only[Y3,hu,Yk]
 try simp[aA]
def rA(a:Ad):List LLQ:=G9 a.p (AG a) (GR a)
section
variable{p:LiQ}{b B:Nat}{owns:List LLQ}{steps:List (List LLQ)}
end
def dn(n:Nat):D:=di (n:Int)
theorem U8(x:Q):biA [.str [],.str []] .neq (.agg (qT x)) (.agg (qT x))=some (B false):=by simp[biA,qT,Bi,eqC]
theorem FM{r:List Q}(hN:r.length<1000000)(K:KL)(hK:K (.exit 0) [] []):∀(q l:List Q),l++q=r ->
  lp (jB (CX Y) (szV r) (szV r)) [] [] [I l.length] [] K
 | [],l,hl=>by
  have e:l=r:=by simpa using hl
  subst e;have lr:bf (szV l)=some (I l.length):=by simp[szV]
  refine ak ?_;simp[jB,lr];exact hK
 | x::q,l,hl=>by
  have hll:r.length=l.length+(q.length+1):=by rw[<-hl];simp
  have ih:=FM hN K hK q (l++[x]) (by grind);obtain⟨w,w1,w2⟩:=acZ r [] (i:=l.length) aa;have hn:nth (0,1) r l.length=x:=by rw[<-hl,BI]
  rw[hn]at w2;have g:(l.length:Int)<r.length:=aa;have e2:((l++[x]).length:Int)=(l.length:Int)+1:=af;rw[e2]at ih;have lr:bf (szV r)=some (I r.length):=by simp[szV]
  have bs:=U8 x;refine ak ?_;simp(disch:=try exact ac)[jB,lr,g,w1,w2,bs];exact ih
theorem vP{r:List Q}(hN:r.length<1000000):CP Y F.dJ [szV r,szV r] (B true):=by
 refine wB ?_;have lr:bf (szV r)=some (I r.length):=by simp[szV]
 have:=FM hN (exK [(Exit.exit 0,fun l4 h=>out (B true) (B true) h),(Exit.ret,fun l4 h=>out (B true) (ge l4 0) h)]) (dX rfl) r [] rfl;simp[dJ,lr];exact this
variable{g:FuncId}{cs:LwQ}{cf:List Q->List Q->Int}
def mnS(cf:List Q->List Q->Int)(m:List Q)(l:List (List Q)):List Q:=l.foldl (fun m y=>if cf y m<0 then y else m) m
theorem Ht(hs:∀a b,aw [] ([szV a,szV b]++cs)=some ([szV a,szV b]++cs,[])){L:List (List Q)}(hn:L.length<1000)(hc:∀a∈L,∀b∈L,CP Y g ([szV a,szV b]++cs) (I (cf a b)))(K:KL) :
  ∀(q a:List (List Q))(m:List Q),L=a++q->m∈L->K (.exit 0) [szV (mnS cf m q)] [] ->
  lp (cN (CX Y) (lst szD L) (.fn g [] cs)) [] [] [szV m,I a.length] [] K
 | [],a,m,e,hm,hK=>by
  simp only[Zj]at e;subst e;refine ak ?_;have l1:bf (lst szD L)=some (I L.length):=rfl;have hlt:¬((L.length:Int)<(L.length:Int)):=aa;simp only[cN];simp(disch:=try exact ac)[l1,hlt];exact hK
 | y::q,a,m,e,hm,hK=>by
  refine ak ?_;have l1:bf (lst szD L)=some (I L.length):=rfl;have hal:a.length<L.length:=by rw[e];simp
  have hlt:((a.length:Int)<(L.length:Int)):=aa;have hy:y∈L:=by rw[e];simp
  have i1:ixV [] 1 (lst szD L) (I a.length)=some (.dptr (L.map szD) a.length):=by rw[e];exact oC szD a y q _ _
  have i2:ld1 [] (.dptr (L.map szD) a.length)=some (szV y):=by
   rw[lY szD L _ hal];simp only[e,Zn (Z7 _),Zd,Zi];rfl
  have e4:((a++[y]).length:Int)=(a.length:Int)+1:=af;simp only[cN];simp(disch:=try exact ac)[l1,hlt];refine aj ?_;simp(disch:=try exact ac)[i1,i2];refine cdf (fs:=[]) (hc y hy m hm) (hs y m) ?_;by_cases h:cf y m<0
  .have ih:=Ht hs hn hc K q (a++[y]) y (by simp[e]) hy (by simpa[mnS,h]using hK);rw[e4]at ih;simp(disch:=try exact ac)[h];refine aj ?_;simp(disch:=try exact ac)[i1,i2];exact lo ih
  .have ih:=Ht hs hn hc K q (a++[y]) m (by simp[e]) hm (by simpa[mnS,h]using hK);rw[e4]at ih;simp(disch:=try exact ac)[h];refine aj ?_;simp(disch:=try exact ac);exact lo ih
theorem WS(hs:∀a b,aw [] ([szV a,szV b]++cs)=some ([szV a,szV b]++cs,[]))(hn:(x::l).length<1000)(hc:∀a∈x::l,∀b∈x::l,CP Y g ([szV a,szV b]++cs) (I (cf a b))):
  CP Y F.bE [lst szD (x::l),.fn g [] cs] (szV (mnS cf x l)):=by
 refine nJ ?_;have l1:bf (lst szD (x::l))=some (I (x::l).length):=rfl;have g1:¬(((x::l).length:Int)<1):=by simp;omega
 have i1:ixV [] 1 (lst szD (x::l)) (.d (.int .i64 0))=some (.dptr ((x::l).map szD) 0):=iC szD _ [] rfl af;have i2:ld1 [] (.dptr ((x::l).map szD) 0)=some (szV x):=rfl;obtain⟨L,hL⟩:∃L,L=x::l:=⟨_,rfl⟩;rw[<-hL]at l1 g1 i1 i2 hn hc ⊢;simp only[bE];simp(disch:=try exact ac)[l1];refine aj ?_
 simp(disch:=try exact ac)[g1,i1,i2];refine lo (Ht hs hn hc _ l [x] x (by rw[hL];rfl) (by rw[hL];simp) ?_);simp(disch:=try exact ac);exact⟨_,rfl⟩
def mxS(cf:List Q->List Q->Int)(m:List Q)(l:List (List Q)):List Q:=l.foldl (fun m y=>if cf y m>0 then y else m) m
theorem NZ(cf:List Q->List Q->Int):∀(l:List (List Q))(m:List Q),mxS cf m l∈m::l
 |[],m=>by simp[mxS]
 | y::l,m=>by
  have:=NZ cf l (if cf y m>0 then y else m);simp only[mxS,List.foldl_cons]at this ⊢;split at this<;>grind
theorem Hv(hs:∀a b,aw [] ([szV a,szV b]++cs)=some ([szV a,szV b]++cs,[])){L:List (List Q)}(hn:L.length<1000)(hc:∀a∈L,∀b∈L,CP Y g ([szV a,szV b]++cs) (I (cf a b)))(K:KL) :
  ∀(q a:List (List Q))(m:List Q),L=a++q->m∈L->K (.exit 0) [szV (mxS cf m q)] [] ->
  lp (cO (CX Y) (lst szD L) (.fn g [] cs)) [] [] [szV m,I a.length] [] K
 | [],a,m,e,hm,hK=>by
  simp only[Zj]at e;subst e;refine ak ?_;have l1:bf (lst szD L)=some (I L.length):=rfl;have hlt:¬((L.length:Int)<(L.length:Int)):=aa;simp only[cO];simp(disch:=try exact ac)[l1,hlt];exact hK
 | y::q,a,m,e,hm,hK=>by
  refine ak ?_;have l1:bf (lst szD L)=some (I L.length):=rfl;have hal:a.length<L.length:=by rw[e];simp
  have hlt:((a.length:Int)<(L.length:Int)):=aa;have hy:y∈L:=by rw[e];simp
  have i1:ixV [] 1 (lst szD L) (I a.length)=some (.dptr (L.map szD) a.length):=by rw[e];exact oC szD a y q _ _
  have i2:ld1 [] (.dptr (L.map szD) a.length)=some (szV y):=by
   rw[lY szD L _ hal];simp only[e,Zn (Z7 _),Zd,Zi];rfl
  have e4:((a++[y]).length:Int)=(a.length:Int)+1:=af;simp only[cO];simp(disch:=try exact ac)[l1,hlt];refine aj ?_;simp(disch:=try exact ac)[i1,i2];refine cdf (fs:=[]) (hc y hy m hm) (hs y m) ?_;by_cases h:cf y m>0
  .have ih:=Hv hs hn hc K q (a++[y]) y (by simp[e]) hy (by simpa[mxS,h]using hK);rw[e4]at ih;simp(disch:=try exact ac)[h];refine aj ?_;simp(disch:=try exact ac)[i1,i2];exact lo ih
  .have ih:=Hv hs hn hc K q (a++[y]) m (by simp[e]) hm (by simpa[mxS,h]using hK);rw[e4]at ih;simp(disch:=try exact ac)[h];refine aj ?_;simp(disch:=try exact ac);exact lo ih
theorem WT(hs:∀a b,aw [] ([szV a,szV b]++cs)=some ([szV a,szV b]++cs,[]))(hn:(x::l).length<1000)(hc:∀a∈x::l,∀b∈x::l,CP Y g ([szV a,szV b]++cs) (I (cf a b))):
  CP Y F.bF [lst szD (x::l),.fn g [] cs] (szV (mxS cf x l)):=by
 refine nK ?_;have l1:bf (lst szD (x::l))=some (I (x::l).length):=rfl;have g1:¬(((x::l).length:Int)<1):=by simp;omega
 have i1:ixV [] 1 (lst szD (x::l)) (.d (.int .i64 0))=some (.dptr ((x::l).map szD) 0):=iC szD _ [] rfl af;have i2:ld1 [] (.dptr ((x::l).map szD) 0)=some (szV x):=rfl;obtain⟨L,hL⟩:∃L,L=x::l:=⟨_,rfl⟩;rw[<-hL]at l1 g1 i1 i2 hn hc ⊢;simp only[bF];simp(disch:=try exact ac)[l1];refine aj ?_
 simp(disch:=try exact ac)[g1,i1,i2];refine lo (Hv hs hn hc _ l [x] x (by rw[hL];rfl) (by rw[hL];simp) ?_);simp(disch:=try exact ac);exact⟨_,rfl⟩
def btG(w:Mz)(div:Int):Mz->List (List Q)
 |[]=>[]
 |x::q=>if nth 0 (de w x) 1=0 then btG w div q else m8 (de w x) div 0 x::btG w div q
theorem YV(w:Mz)(div:Int)(a:Mz)(x:LiQ):btG w div (a++[x])=if nth 0 (de w x) 1=0 then btG w div a else btG w div a++[m8 (de w x) div 0 x]:=by
 induction a with
 |nil=>simp only[List.nil_append,btG]
 | cons y a ih=>
  simp only[List.cons_append,btG,ih];split<;>split<;>simp
theorem Ie(w:Mz)(div:Int):∀a:Mz,(btG w div a).length<=a.length
 |[]=>Z7 _
 | y::a=>by
  have:=Ie w div a;simp only[btG];split<;>simp only[List.length_cons]<;>omega
theorem SI{p r x:LiQ}(hr2:2<=r.length)(h1:nth 0 r 1=0):CP Y F.iH [lst di p,lst di x,lst di r,I div] (.tup [szV [],B false,I 0]):=by
 refine tY ?_;have j1:∀h:Hp,ixV h 1 (lst di r) (.d (.int .i64 1))=some (.dptr (r.map di) 1):=fun h=>iC di r h rfl aa
 have j2:∀h:Hp,ld1 h (.dptr (r.map di) 1)=some (I (nth 0 r 1)):=fun h=>fB di 0 r h aa
 simp only[iH];simp(disch:=try exact ac)[j1,j2,h1];exact⟨_,rfl⟩
theorem abZ{p:LiQ}{C W:D}{a b:List Q}(hp:pcB p=0)(hN:p.length<1000)(ha:a.length=p.length)(hb:b.length=p.length)(oa:okS a)(ob:okS b)(hz:G4 p (dfS p a b) z):
  CP Y F.bj [szV a,szV b,.dptr [.sl p.length (p.map di),C,W] 0] (I z):=by
 refine uh ?_;have l0:∀h,ld1 h (.dptr [.sl p.length (p.map di),C,W] 0)=some (lst di p):=fun h=>rfl
 simp only[bj];simp(disch:=try exact ac)[l0];refine cd (args:=[lst di p,szV a,szV b]) (Eu hp hN ha hb oa ob hz) ?_ (by simp[aw,aJ,szV]);simp(disch:=try exact ac)
variable{p:LiQ}{c w:Mz}
def aeB(p:LiQ)(w:Mz)(div:Int)(x:LiQ):Prop:=nth 0 (de w x) 1≠0->okS (m8 (de w x) div 0 x)
theorem U2(h:Bu p c w)(w2:w.length=2){div:Int}(hd:div≠0)(hdb : -1000000000<=div∧div<=1000000000){l:Mz}(hl:l.length<1000)(ho:∀x∈l,QJ p w x)(hpu:∀x∈l,aeB p w div x)(b1 b3:Nat×Bk)(h0:Hp)(K:KL) :
  ∀(q a:Mz),l=a++q ->
  K (.exit 0) [(acU 2).v (btG w div l).length ((btG w div l).map szD)] [(1,.vars [lst di p,mat c,mat w]),b1,(acU 2).b (btG w div l).length ((btG w div l).map szD),b3] ->
  lp (j6 (CX Y) (.ptr 0 1 0 3) (.ptr 1 1 0 5) (mat (l.map (de w))) (I div) (mat l) (I l.length)) [] h0 [(acU 2).v (btG w div a).length ((btG w div a).map szD),I a.length] [(1,.vars [lst di p,mat c,mat w]),b1,(acU 2).b (btG w div a).length ((btG w div a).map szD),b3] K
 | [],a,e,hK=>by
  simp only[Zj]at e;subst e;refine ak ?_;have hlt:¬((l.length:Int)<(l.length:Int)):=aa;simp only[j6];simp(disch:=try exact ac)[hlt];exact hK
 | x::q,a,e,hK=>by
  refine ak ?_;have hlt:((a.length:Int)<(l.length:Int)):=by rw[e];simp;omega
  have hal:a.length<l.length:=aa;have hxm:x∈l:=by rw[e];simp
  have hx:=ho x hxm;have i1:∀h:Hp,ixV h 1 (mat l) (I a.length)=some (.dptr (l.map row) a.length):=fun h=>by rw[e];exact oC row a x q _ _
  have i2:∀h:Hp,ld1 h (.dptr (l.map row) a.length)=some (lst di x):=fun h=>by
   rw[lY row l _ hal];simp only[e,Zn (Z7 _),Zd,Zi];rfl
  obtain⟨rows,hrows⟩:=nmQ (l.map (de w));have hrl:rows.length=l.length:=by rw[hrows];simp
  have hre:rows[a.length]'(by omega)=de w x:=by
   have:rows=a.map (de w)++de w x::q.map (de w):=by rw[hrows,e];simp
   simp[this]
  have j1:∀h:Hp,ixV h 1 (mat rows) (I a.length)=some (.dptr (rows.map row) a.length):=fun h=>iC row rows h rfl aa
  have j2:∀h:Hp,ld1 h (.dptr (rows.map row) a.length)=some (lst di (de w x)):=fun h=>by
   rw[lY row rows _ aa,hre];rfl
  have tl:(de w x).length=2:=by simp[de,w2]
  have e4:((a++[x]).length:Int)=(a.length:Int)+1:=af;have ih:=U2 h w2 hd hdb hl ho hpu b1 b3 h0 K q (a++[x]) (by simp[e]) hK;rw[e4,YV,<-hrows]at ih;rw[<-hrows];have hx0:x≠[]:=fun e0=>by have h1:=hx.l;rw[e0,List.length_nil]at h1;have:=h.lw.n0;omega
  have hn:=h.lc.n12;obtain⟨gs,hgs⟩:=nmQ (btG w div a);have hgl:gs.length<=a.length:=by rw[hgs];exact Ie w div a
  rw[<-hgs]at ih ⊢;obtain⟨H,hH⟩:∃H:Hp,H=[(1,.vars [lst di p,mat c,mat w]),b1,(acU 2).b gs.length (gs.map szD),b3]:=⟨_,rfl⟩;have g0:jm H 0 1=.vars [lst di p,mat c,mat w]:=by rw[hH];rfl
  rw[<-hH];simp only[j6];simp(disch:=try exact ac)[hlt];refine aj ?_;simp(disch:=try exact ac)[i1,i2,j1,j2,g0];by_cases c0:nth 0 (de w x) 1=0
  .refine cd (SI (p:=p) (x:=x) (div:=div) aa c0) ?_;rw[if_pos c0,<-hH]at ih;simp(disch:=try exact ac);refine aj ?_;simp(disch:=try exact ac);rw[fK];exact lo ih
  .refine cd (pure_ok h.pr hx.l aa hx.t c0 hd hdb hx.b (by have:=hx.l;omega) hx0 (hpu x hxm c0)) ?_;rw[if_neg c0]at ih;obtain⟨g,hg⟩:=nmQ (m8 (de w x) div 0 x);rw[<-hg]at ih ⊢;have hli:dW 1 [nPQ] [(0,szV g)] H=some ([szD g],H):=TI ..;simp(disch:=try exact ac);refine aj ?_;simp(disch:=try exact ac)[hli]
   refine oP (acU 2) (by_:=24) (k:=1) (cs:=[szD g]) aa (by rw[hH];rfl) (by simp[acU]) (by simp[acU]) rfl (by intro t ht;cases ht) aa (by simp[acU]) ?_;have hs:H.set (acU 2).s ((acU 2).b (gs.length+1) (gs.map szD++[szD g]))=[(1,.vars [lst di p,mat c,mat w]),b1,(acU 2).b (gs.length+1) (gs.map szD++[szD g]),b3]:=by rw[hH];rfl
   rw[hs];simp(disch:=try exact ac);rw[fK];refine lo ?_;simpa[Acc.v,Acc.b]using ih
theorem Wa{lo:List Q}{H H':Hp}(hv:aJ H v=some (szV hi,H')):out (.tup [rgV ⟨lo,hi,hl,hh,em⟩,I z]) (.tup [.agg [szV lo,v,B hl,B hh,B em],I z]) H:=by have s1:aJ H (szV lo)=some (szV lo,H):=rfl;have s2:aJ H' (B hl)=some (B hl,H'):=rfl;have s3:aJ H' (B hh)=some (B hh,H'):=rfl;have s4:aJ H' (B em)=some (B em,H'):=rfl;have s5:aJ H' (I z)=some (I z,H'):=rfl;refine⟨H',?_⟩;simp only[aJ.eq_4,aJ.eq_3,aw,s1,hv,s2,s3,s4,s5];trivial
theorem MI(h:Bu p c w)(hg:gtB w=0){l:Mz}(hl:l.length<=60)(ho:∀x∈l,QJ p w x)(hm:mzB p l=0)(hpu:∀x∈l,aeB p w (nth 0 (nth [] w 0) 0) x){g:List Q}{gs:List (List Q)}(hgs:btG w (nth 0 (nth [] w 0) 0) l=g::gs)
  {cf:List Q->List Q->Int} (hok:∀a∈g::gs,a.length=p.length∧okS a) (hc:∀a∈g::gs,∀b∈g::gs,G4 p (dfS p a b) (cf a b)) :
  CP Y F.eU [tpV p c w,mat l] (.tup [rgV ⟨mnS cf g gs,mxS cf g gs,true,true,false⟩,I 0]):=by
 refine wZ ?_;simp only[eU,tpV];obtain⟨div,hdiv⟩:=nmQ (nth 0 (nth [] w 0) 0)
 have w2:w.length=2:=by
  apply Classical.byContradiction;intro e;simp[gtB,e]at hg
 have hd:div≠0:=by
  rw[hdiv];intro e;simp[gtB,w2,e]at hg
 have hw0:nth [] w 0∈w:=by rw[cF _ _ _ aa];exact Yu _
 have hdb : -1000000000<=div∧div<=1000000000:=by
  rw[hdiv];exact h.lw.sm _ hw0 _ (eM (by rw[h.lw.rl _ hw0];exact h.lw.n0))
 have td:=M7 h hg hl ho hm;have hn:=h.lc.n12;have l1:bf (mat l)=some (I l.length):=rfl;rw[<-hdiv]at td hpu hgs;simp(disch:=try exact ac);refine cd (args:=[tpV p c w,mat l]) td ?_ (by simp[aw,aJ,tpV,mat]);simp(disch:=try exact ac)[l1]
 refine lo (U2 h w2 hd hdb aa ho hpu (1,.vars [nlV,nlV,B false,B false,B false]) nnQ _ _ l [] rfl ?_);rw[hgs];have hgl:(g::gs).length<=l.length:=by rw[<-hgs];exact Ie w div l
 obtain⟨H,hH⟩:∃H:Hp,H=[(1,.vars [lst di p,mat c,mat w]),(1,.vars [nlV,nlV,B false,B false,B false]),(acU 2).b (g::gs).length ((g::gs).map szD),nnQ]:=⟨_,rfl⟩;rw[<-hH];obtain⟨G,hG⟩:∃G,G=(acU 2).v (g::gs).length ((g::gs).map szD):=⟨_,rfl⟩;rw[<-hG];have lg:bf G=some (I (g::gs).length):=by rw[hG];rfl
 have gne:¬(((g::gs).length:Int)=0):=by simp;omega
 obtain⟨D3,hD3⟩:∃D3:LdQ,D3=[.sl p.length (p.map di),.sl c.length (c.map row),.sl w.length (w.map row)]:=⟨_,rfl⟩;obtain⟨H1,hH1⟩:∃H1:Hp,H1=[(1,.data 1 D3 false true),(1,.vars [nlV,nlV,B false,B false,B false]),(1,.data 1 ((g::gs).map szD) false true),nnQ]:=⟨_,rfl⟩
 have sG:∀(H2:Hp)(f:Bool),H2[2]?=some (1,.data 1 ((g::gs).map szD) false f)->aJ H2 G=some (lst szD (g::gs),H2.set 2 (1,.data 1 ((g::gs).map szD) false true)):=fun H2 f h2=>by
  rw[hG];simp only[acU,Acc.v,List.length_cons,aJ,toD,aC,h2,if_true];rw[if_pos af];simp[b6,lst];exact Z1 af
 have sn1:aw H [G,.fn F.bj [] [.ptr 0 1 0 3]]=some ([lst szD (g::gs),.fn F.bj [] [.dptr D3 0]],H1):=by
  have e1:=sG H false (by rw[hH];rfl);simp only[aw,e1];rw[hH,hH1,hD3];rfl
 have sn2:aw H1 [G,.fn F.bj [] [.ptr 0 1 0 3]]=some ([lst szD (g::gs),.fn F.bj [] [.dptr D3 0]],H1):=by
  have e1:=sG H1 true (by rw[hH1];rfl);simp only[aw,e1];rw[hH1,hD3];rfl
 have hcp:∀a∈g::gs,∀b∈g::gs,CP Y F.bj ([szV a,szV b]++[.dptr D3 0]) (I (cf a b)):=fun a ha b hb=>by
  rw[hD3];exact abZ h.pr aa (hok a ha).1 (hok b hb).1 (hok a ha).2 (hok b hb).2 (hc a ha b hb)
 have hsn:∀a b:List Q,aw [] ([szV a,szV b]++[.dptr D3 0])=some ([szV a,szV b]++[.dptr D3 0],[]):=fun a b=>rfl
 have c1:=WS hsn aa hcp;have c2:=WT hsn aa hcp;have okz:∀s:List Q,okV (szV s)=true:=fun _=>rfl
 obtain⟨mn,hmn⟩:=nmQ (mnS cf g gs);obtain⟨mx,hmx⟩:=nmQ (mxS cf g gs);have hml:mx.length=p.length:=(hok mx (by rw[hmx];exact NZ cf gs g)).1;have hp0:=h.lw.n0;rw[<-hmn]at c1;rw[<-hmx]at c2;rw[<-hmn,<-hmx];simp(disch:=try exact ac)[lg,gne];refine vG sn1 c1 ?_;rw[show(if f9 (szV mn)=true then H else H1)=H1 from rfl]
 simp(disch:=try exact ac);refine vG sn2 c2 ?_;rw[show(if f9 (szV mx)=true then H1 else H1)=H1 from rfl];have hu:(H1.all fun x=>aA H1.length x.2)=true:=by rw[hH1];rfl
 have cl:=tS hu (l:=mx) aa aa;simp(disch:=try exact ac);refine fG cl (s:=3) (e:=0) (b:=.none) (by rw[hH1];rfl) ?_;rw[hH1];have hlen:((mx.map tx).flatMap bg).length=mx.length*2:=by rw[gP bg bG,List.length_map]
 rw[hlen];have hb:bld [(0,1),(1,1),(2,1),(3,1),(4,1)] [nPQ,nPQ,D.bool false,D.bool false,D.bool false] [(0,szV mn),(1,V.ref 3 1 0 mx.length mx.length (mx.length*2)),(2,V.d (D.bool true)),(3,V.d (D.bool true))]=some (.agg [szV mn,.ref 3 1 0 mx.length mx.length (mx.length*2),B true,B true,B false]):=rfl
 show bnd (bld [(0,1),(1,1),(2,1),(3,1),(4,1)] [nPQ,nPQ,D.bool false,D.bool false,D.bool false] [(0,szV mn),(1,V.ref 3 1 0 mx.length mx.length (mx.length*2)),(2,V.d (D.bool true)),(3,V.d (D.bool true))]) _
 rw[hb];simp(disch:=try exact ac)[okz];have sr:=fun(H2:Hp)(hg:H2[3]?=some (1,.data 2 ((mx.map tx).flatMap bg) false false))=>Cx (h:=H2) (s:=3) (e:=1) (n:=mx.length) (l:=mx.map tx) (ex:=false) (fr:=false) hg af
 exact Wa (sr _ rfl)
def abb(s:List Q):Bool:=s.all fun x=>decide (0<x.2)&&(Nat.gcd x.1.natAbs x.2 == 1)&&decide (ndg x.1.natAbs<=30)&&decide (ndg x.2<=30)
theorem BH(h:abb s=true):okS s:=fun x hx=>by
 have:=Z2.1 h x hx;simp only[Z8,decide_eq_true_eq,beq_iff_eq]at this;exact⟨⟨this.1.1.1,this.1.1.2⟩,this.1.2,this.2⟩
def lsB(l:LiQ):Bool:=l.all fun z=>decide (-1000000000<=z)&&decide (z<=1000000000)
theorem Mc{l:LiQ}(h:lsB l=true):bd9 l:=fun z hz=>by
 have:=Z2.1 h z hz;simpa using this
def ltB(n:Nat)(m:Mz):Bool:=decide (0<n)&&decide (n<=12)&&decide (m.length<=12)&&m.all fun r=>decide (r.length=n)&&lsB r
theorem Tl{m:Mz}(h:ltB n m=true):Im n m:=by simp only[ltB,Z8,decide_eq_true_eq,Z2]at h;exact⟨h.1.1.1,h.1.1.2,h.1.2,fun r hr=>(h.2 r hr).1,fun r hr=>Mc (h.2 r hr).2⟩
def p5:LiQ:=[2,3,5]
def mtC:Mz:=[[4,-4,1]]
def mtW:Mz:=[[1,0,-4],[0,1,4]]
theorem aae:Bu p5 mtC mtW where
 pr:=aD
 lc:=Tl aD
 lw:=Tl aD
 ch:=aD
 k1:=⟨20,100,ae,aD,aD⟩
theorem li3(a b c:Int)(h:Hp):dW 3 [.int .i64 0] [(0,.d (.int .i64 a)),(1,.d (.int .i64 b)),(2,.d (.int .i64 c))] h=some ([.int .i64 a,.int .i64 b,.int .i64 c],h):=by simp[dW,gD,iW,toD,norm]
theorem li5(n1 n2 n3 n4 n5:Nat)(a b c d e:LdQ)(h:Hp):dW 5 [nPQ] [(0,.d (.sl n1 a)),(1,.d (.sl n2 b)),(2,.d (.sl n3 c)),(3,.d (.sl n4 d)),(4,.d (.sl n5 e))] h=some ([.sl n1 a,.sl n2 b,.sl n3 c,.sl n4 d,.sl n5 e],h):=by simp[dW,gD,iW,toD,norm]
theorem XB(a1 a2 b1 b2 c1 c2:LuQ)(h:Hp):dW 3 [D.str [],D.str []] [(0,.agg [S a1,S a2]),(1,.agg [S b1,S b2]),(2,.agg [S c1,S c2])] h=some ([.str a1,.str a2,.str b1,.str b2,.str c1,.str c2],h):=by simp[dW,gD,iW,toD,norm]
theorem JO:CP Y F.dz [] (tpV p5 mtC mtW):=by refine rX ?_;simp only[dz];simp(disch:=try exact ac)[li3,TI,TG];exact⟨_,rfl⟩
def l5K:Mz:=[[0,0,0],[-3,2,0],[-2,0,1],[2,-1,0],[-1,1,0]]
def l2K:Mz:=[[-2,0,1],[-1,1,0]]
def tvB(p:LiQ)(w:Mz)(x:LiQ):Bool:=decide (x.length=p.length)&&lsB x&&decide (rcB x=0)&&lsB (de w x)
theorem QU{p:LiQ}{w:Mz}{x:LiQ}(h:tvB p w x=true):QJ p w x:=by simp only[tvB,Z8,decide_eq_true_eq]at h;exact⟨h.1.1.1,Mc h.1.1.2,h.1.2,Mc h.2⟩
def rgS:Rg:=⟨[(3,2),(0,1),(0,1)],[(8,5),(0,1),(0,1)],true,true,false⟩
theorem kst:Cu 1 en0 (de mtW [0,0,0]) ([[-3,2,0],[-2,0,1],[2,-1,0],[-1,1,0]].map (de mtW))=⟨some (3,2),some (8,5),false⟩:=by
 have e1:de mtW [0,0,0]=[0,0]:=aD;have e2:([[-3,2,0],[-2,0,1],[2,-1,0],[-1,1,0]].map (de mtW))=[[-3,2],[-6,4],[2,-1],[-1,1]]:=aD;rw[e1,e2]
 have k1:lv en0 (-3) 2 1=⟨some (3,2),none,false⟩:=by
  have:sd (jq (- -3) 1) (2,1)=(3,2):=aD;simp only[lv,this];rfl
 have k2:lv ⟨some (3,2),none,false⟩ (-3) 2 1=⟨some (3,2),none,false⟩:=by
  have:sd (jq (- -3) 1) (2,1)=(3,2):=aD;simp only[lv,this];rfl
 have k3:lv ⟨some (3,2),none,false⟩ 8 (-5) 1=⟨some (3,2),some (8,5),false⟩:=by
  have:sd (jq (-8) 1) (-5,1)=(8,5):=aD;simp only[lv,this];rfl
 have k4:lv ⟨some (3,2),some (8,5),false⟩ (-3) 2 1=⟨some (3,2),some (8,5),false⟩:=by
  have:sd (jq (- -3) 1) (2,1)=(3,2):=aD;simp only[lv,this];rfl
 simp only[Cu]
 show lv (lv (lv (lv en0 (-3) 2 1) (-3) 2 1) 8 (-5) 1) (-3) 2 1=_
 rw[k1,k2,k3,k4]
theorem XI:CP Y F.fR [tpV p5 mtC mtW,mat l5K] (.tup [rgV rgS,I 0]):=by
 have hd:nth 0 (nth [] mtW 0) 0=1:=aD
 have h:=Pj (l:=l5K) (x:=[0,0,0]) (q:=[[-3,2,0],[-2,0,1],[2,-1,0],[-1,1,0]]) aae aD rfl ae (fun x hx=>QU (Z2.1 (show l5K.all (tvB p5 mtW)=true by decide+kernel) x hx)) aD
  (by rw[hd,kst];intro q hq;cases hq;exact⟨⟨⟨ae,ae⟩,aD,aD⟩,BH aD⟩)
  (by rw[hd,kst];intro q hq;cases hq;exact⟨⟨⟨ae,ae⟩,aD,aD⟩,BH aD⟩)
 rw[hd,kst]at h
 have e:asR p5.length ⟨some (3,2),some (8,5),false⟩=rgS:=by
  have e1:scQ p5.length (3,2)=[(3,2),(0,1),(0,1)]:=aD;have e2:scQ p5.length (8,5)=[(8,5),(0,1),(0,1)]:=aD;have e3:OL ⟨some (3,2),some (8,5),false⟩=false:=aD;simp only[asR,e3,oS,e1,e2];rfl
 rwa [e]at h
def g1K:List Q:=[(1,1),(0,1),(1,4)]
def g2K:List Q:=[(0,1),(1,1),(0,1)]
def cfK(a b:List Q):Int:=(vlS p5 4 a*4-vlS p5 4 b*4).sign
theorem TZ:CP Y F.eU [tpV p5 mtC mtW,mat l2K] (.tup [rgV ⟨g1K,g2K,true,true,false⟩,I 0]):=by
 have hd:nth 0 (nth [] mtW 0) 0=1:=aD;have hg:btG mtW 1 l2K=[g1K,g2K]:=aD
 have bd:∀a ∈ [g1K,g2K],bdL 4 4 a:=fun a ha x hx=>⟨x.1*(4/x.2:Nat),by
  have:=Z2.1 (Z2.1 (show([g1K,g2K].all fun a=>a.all fun x=>decide (((0<x.2∧Nat.gcd x.1.natAbs x.2=1)∧x.1*((4:Nat):Int)=x.1*(4/x.2:Nat)*x.2)∧(x.1*(4/x.2:Nat)).natAbs<=4))=true by decide+kernel) a ha) x hx;simp only[decide_eq_true_eq]at this;exact this⟩
 have h:=MI (l:=l2K) (g:=g1K) (gs:=[g2K]) (cf:=cfK) aae aD ae (fun x hx=>QU (Z2.1 (show l2K.all (tvB p5 mtW)=true by decide+kernel) x hx)) aD
  (fun x hx _=>BH (Z2.1 (show(l2K.all fun x=>abb (m8 (de mtW x) (nth 0 (nth [] mtW 0) 0) 0 x))=true by decide+kernel) x hx)) (by rw[hd];exact hg)
  (fun a ha=>by
   have:=Z2.1 (show([g1K,g2K].all fun a=>decide (a.length=p5.length)&&abb a)=true by decide+kernel) a ha;simp only[Z8,decide_eq_true_eq]at this;exact⟨this.1,BH this.2⟩)
  (fun a ha b hb=>by
   have la:=Z2.1 (show([g1K,g2K].all fun a=>decide (a.length=p5.length))=true by decide+kernel) a ha;have lb:=Z2.1 (show([g1K,g2K].all fun a=>decide (a.length=p5.length))=true by decide+kernel) b hb;exact aei (p:=p5) ⟨ae,ae,aD⟩ (by simpa using la) (by simpa using lb) ae ae (bd a ha) (bd b hb) ae)
 have e1:mnS cfK g1K [g2K]=g1K:=aD;have e2:mxS cfK g1K [g2K]=g2K:=aD
 rwa [e1,e2]at h
theorem Mh:CP Y F.gC [] (B true):=by
 refine u9 ?_;have q0:=sf (n:=0) (d:=1) ae ae ae ae ae;have q1:=sf (n:=3) (d:=2) ae ae ae ae ae;have q2:=sf (n:=8) (d:=5) ae ae ae ae ae
 have q3:=sf (n:=1) (d:=1) ae ae ae ae ae;have q4:=sf (n:=1) (d:=4) ae ae ae ae ae;have e0:jq 0 1=(0,1):=aD;have e1:jq 3 2=(3,2):=aD;have e2:jq 8 5=(8,5):=aD;have e3:jq 1 1=(1,1):=aD;have e4:jq 1 4=(1,4):=aD
 rw[e0]at q0;rw[e1]at q1;rw[e2]at q2;rw[e3]at q3;rw[e4]at q4;have s1:=vP (r:=rgS.lo) ae;have s2:=vP (r:=rgS.hi) ae;have s3:=vP (r:=g1K) ae;have s4:=vP (r:=g2K) ae;have st:CP Y F.fR [tpV p5 mtC mtW,mat l5K] (.tup [.agg [szV rgS.lo,szV rgS.hi,B true,B true,B false],I 0]):=XI
 have bt:CP Y F.eU [tpV p5 mtC mtW,mat l2K] (.tup [.agg [szV g1K,szV g2K,B true,B true,B false],I 0]):=TZ;have okz:∀s:List Q,okV (szV s)=true:=fun _=>rfl
 simp only[qT]at q0 q1 q2 q3 q4;simp only[gC];simp(disch:=try exact ac);refine cd q0 ?_;simp(disch:=try exact ac);refine cd JO ?_ (by rfl);simp(disch:=try exact ac)[li3,li5];refine cd (args:=[tpV p5 mtC mtW,mat l5K]) st ?_ (by rfl);simp(disch:=try exact ac)[okz];refine cd JO ?_ (by rfl)
 simp(disch:=try exact ac)[li3,TG];refine cd (args:=[tpV p5 mtC mtW,mat l2K]) bt ?_ (by rfl);simp(disch:=try exact ac)[okz];refine cd q1 ?_;simp(disch:=try exact ac)[XB];refine cd (args:=[szV rgS.lo,szV rgS.lo]) s1 ?_ (by rfl);simp(disch:=try exact ac);refine cd q2 ?_;simp(disch:=try exact ac)[XB]
 refine cd (args:=[szV rgS.hi,szV rgS.hi]) s2 ?_ (by rfl);simp(disch:=try exact ac);refine cd q3 ?_;simp(disch:=try exact ac);refine cd q4 ?_;simp(disch:=try exact ac)[XB];refine cd (args:=[szV g1K,szV g1K]) s3 ?_ (by rfl);simp(disch:=try exact ac);refine cd q3 ?_;simp(disch:=try exact ac)[XB]
 refine cd (args:=[szV g2K,szV g2K]) s4 ?_ (by rfl);simp(disch:=try exact ac)
structure Cl(p:LiQ)(s:List Q):Prop where
 l:s.length=p.length
 b:bdL 12 480 s
 o:okS s
def vl(p:LiQ)(s:List Q):Int:=vlS p 12 s
def cz(p:LiQ)(a b:List Q):Int:=(vl p a-vl p b).sign
theorem yE{p:LiQ}(hp:pcB p=0)(h6:in6 p){a b:List Q}(ha:Cl p a)(hb:Cl p b):CP Y F.bY [lst di p,szV a,szV b] (.tup [I (cz p a b),I 0]):=by
 have h:=aei h6 ha.l hb.l ae ae ha.b hb.b ae
 have e:(vlS p 12 a*((12:Nat):Int)-vlS p 12 b*((12:Nat):Int)).sign=cz p a b:=by
  rw[<-Int.sub_mul,Int.sign_mul];simp only[cz,vl];rw[show Int.sign ((12:Nat):Int)=1 from rfl,Int.mul_one]
 rw[e]at h;exact Eu hp (by have:=h6.2.1;omega) ha.l hb.l ha.o hb.o h
theorem abS{p:LiQ}(hp:pcB p=0)(h6:in6 p){a b:List Q}(oa:okS a)(ob:okS b)(ha:a.length<1000)(hb:b.length<1000)(hne:yF p.length [a,b]≠0):CP Y F.bY [lst di p,szV a,szV b] (.tup [I 0,I (yF p.length [a,b])]):=by
 refine uY ?_;have hN:=h6.2.1
 have ca:=vE (p:=p) (l:=[a,b]) aa af (fun s hs=>by
  simp at hs;rcases hs with rfl|rfl
  .exact⟨oa,aa⟩
  .exact⟨ob,aa⟩)
 rw[if_pos hp]at ca;have l1:∀H,dW 2 [nPQ] [(0,szV a),(1,szV b)] H=some ([szD a,szD b],H):=fun H=>TG ..
 generalize yF p.length [a,b]=z at *;simp[bY,l1];refine cd (v:=I z) ca ?_ (by rfl);simp(disch:=try exact ac)[hne];exact⟨_,rfl⟩
structure RgOk(p:LiQ)(r:Rg):Prop where
 e:r.em=true->r.hl=false∧r.hh=false
 l0:r.hl=false->r.lo=[]
 l1:r.hl=true->Cl p r.lo
 h0:r.hh=false->r.hi=[]
 h1:r.hh=true->Cl p r.hi
def ckR(p:LiQ)(r:Rg):Int:=if r.hl=true∧r.hh=true∧vl p r.lo>vl p r.hi then 6 else 0
def ctR(p:LiQ)(r:Rg)(x:List Q):Bool:=!r.em&&(!r.hl||decide (vl p r.lo<=vl p x))&&(!r.hh||decide (vl p x<=vl p r.hi))
theorem sR{p:LiQ}{a b:List Q}:cz p a b>0↔vl p a>vl p b:=by
 unfold cz;rcases Int.lt_trichotomy (vl p a-vl p b) 0 with h|h|h
 .rw[Xh h];omega
 .rw[h];simp;omega
 .rw[Xm h];omega
theorem pW{p:LiQ}{a b:List Q}:cz p a b<=0↔vl p a<=vl p b:=by have:=@sR p a b;omega
theorem aaq{p:LiQ}{a b:List Q}:cz p a b<0↔vl p a<vl p b:=by
 unfold cz;rcases Int.lt_trichotomy (vl p a-vl p b) 0 with h|h|h
 .rw[Xh h];omega
 .rw[h];simp;omega
 .rw[Xm h];omega
theorem rW{p:LiQ}(hp:pcB p=0)(h6:in6 p)(hr:RgOk p r):CP Y F.eH [lst di p,rgV r] (I (ckR p r)):=by
 refine yY ?_;obtain⟨ra,rb,hl,hh,em⟩:=r;have hN:=h6.2.1;have a1:=lJ (p:=p) aa;rw[hp]at a1;have ix0:∀x y:V,ixA 2 1 true (.agg [x,y]) (.d (.int .i64 0))=some x:=fun _ _=>rfl
 have ix1:∀x y:V,ixA 2 1 true (.agg [x,y]) (.d (.int .i64 1))=some y:=fun _ _=>rfl
 have ba:∀x y:List Q,Ap 1 [nPQ,nPQ] [(0,szV x),(1,szV y)]=some (.agg [szV x,szV y]):=fun _ _=>rfl
 have bb:∀x y:Bool,Ap 1 [.bool false,.bool false] [(0,B x),(1,B y)]=some (.agg [B x,B y]):=fun _ _=>rfl
 have l0:bf (szV [])=some (I 0):=rfl;have fp:∀x y:List Q,Gp (some (0,1)) (fun i=>some (i,1)) [V.d nPQ,V.d nPQ] (szV x) [(1,szV y)]=some [szV x,szV y]:=fun _ _=>rfl
 have ck:∀s,Cl p s->CP Y F.jO [lst di p,szV s] (I 0):=fun s hs=>Ai hp aa hs.l hs.o
 simp only[rgV,eH];cases em with
 | true=>
  obtain⟨e1,e2⟩:=hr.e rfl;simp only at e1 e2;subst e1 e2;have e3:=hr.l0 rfl;have e4:=hr.h0 rfl;simp only at e3 e4;subst e3 e4;simp(disch:=try exact ac);refine cd a1 ?_;simp(disch:=try exact ac)[l0,fp];refine lo (ak ?_);simp only[aT];simp(disch:=try exact ac);refine aj ?_
  simp(disch:=try exact ac)[ix0,l0];refine lo (ak ?_);simp only[aT];simp(disch:=try exact ac);refine aj ?_;simp(disch:=try exact ac)[ix1,l0];refine lo (ak ?_);simp only[aT];simp(disch:=try exact ac);refine aj ?_;simp(disch:=try exact ac)
  exact aV (by simp[ckR])
 | false=>
  cases hl with
  | false=>
   have e3:=hr.l0 rfl;simp only at e3;subst e3;cases hh with
   | false=>
    have e4:=hr.h0 rfl;simp only at e4;subst e4;simp(disch:=try exact ac);refine cd a1 ?_;simp(disch:=try exact ac)[l0,fp];refine lo (ak ?_);simp only[aT];simp(disch:=try exact ac);refine aj ?_;simp(disch:=try exact ac)[ix0,l0];refine lo (ak ?_);simp only[aT]
    simp(disch:=try exact ac);refine aj ?_;simp(disch:=try exact ac)[ix1,l0];refine lo (ak ?_);simp only[aT];simp(disch:=try exact ac);refine aj ?_;simp(disch:=try exact ac);exact aV (by simp[ckR])
   | true=>
    have c2:=ck _ (hr.h1 rfl);simp(disch:=try exact ac);refine cd a1 ?_;simp(disch:=try exact ac)[l0,fp];refine lo (ak ?_);simp only[aT];simp(disch:=try exact ac);refine aj ?_;simp(disch:=try exact ac)[ix0,l0];refine lo (ak ?_);simp only[aT]
    simp(disch:=try exact ac);refine aj ?_;simp(disch:=try exact ac)[ix1,l0];refine cd c2 ?_ (by rfl);simp(disch:=try exact ac);refine lo (ak ?_);simp only[aT];simp(disch:=try exact ac);refine aj ?_;simp(disch:=try exact ac);exact aV (by simp[ckR])
  | true=>
   have c1:=ck _ (hr.l1 rfl);cases hh with
   | false=>
    have e4:=hr.h0 rfl;simp only at e4;subst e4;simp(disch:=try exact ac);refine cd a1 ?_;simp(disch:=try exact ac)[l0,fp];refine lo (ak ?_);simp only[aT];simp(disch:=try exact ac);refine aj ?_;simp(disch:=try exact ac)[ix0,l0];refine cd c1 ?_ (by rfl);simp(disch:=try exact ac)
    refine lo (ak ?_);simp only[aT];simp(disch:=try exact ac);refine aj ?_;simp(disch:=try exact ac)[ix1,l0];refine lo (ak ?_);simp only[aT];simp(disch:=try exact ac);refine aj ?_;simp(disch:=try exact ac);exact aV (by simp[ckR])
   | true=>
    have c2:=ck _ (hr.h1 rfl);have cc:=yE hp h6 (hr.l1 rfl) (hr.h1 rfl);simp(disch:=try exact ac);refine cd a1 ?_;simp(disch:=try exact ac)[l0,fp];refine lo (ak ?_);simp only[aT];simp(disch:=try exact ac);refine aj ?_;simp(disch:=try exact ac)[ix0,l0];refine cd c1 ?_ (by rfl)
    simp(disch:=try exact ac);refine lo (ak ?_);simp only[aT];simp(disch:=try exact ac);refine aj ?_;simp(disch:=try exact ac)[ix1,l0];refine cd c2 ?_ (by rfl);simp(disch:=try exact ac);refine lo (ak ?_);simp only[aT];simp(disch:=try exact ac);refine aj ?_
    simp(disch:=try exact ac);refine cd cc ?_ (by rfl);by_cases g:cz p ra rb>0
    .have g2:=sR.1 g;simp(disch:=try exact ac)[g];exact aV (by simp[ckR,g2])
    .have g2:¬vl p ra>vl p rb:=fun e=>g (sR.2 e)
     simp(disch:=try exact ac)[g];exact aV (by simp[ckR,g2])
theorem tw(b:Bool)(z:Int)(h:Hp)(e:b=b'):out (.tup [B b',I z]) (.tup [B b,I z]) h:=by subst e;exact⟨_,rfl⟩
theorem vB{p:LiQ}(hp:pcB p=0)(h6:in6 p)(hr:RgOk p r)(hc:ckR p r=0)(hx:Cl p x):CP Y F.ew [lst di p,rgV r,szV x] (.tup [B (ctR p r x),I 0]):=by
 refine wt ?_;have ck:=rW hp h6 hr;rw[hc]at ck;have hN:=h6.2.1;have cx:=Ai (p:=p) (s:=x) hp aa hx.l hx.o;obtain⟨ra,rb,hl,hh,em⟩:=r;simp only[rgV]at ck;simp only[rgV,ew];simp(disch:=try exact ac);refine cd ck ?_ (by rfl);simp(disch:=try exact ac);refine cd cx ?_ (by rfl);cases em with
 | true=>
  simp(disch:=try exact ac);exact tw _ _ _ (by simp[ctR])
 | false=>
  cases hl with
  | false=>
   simp(disch:=try exact ac);refine aj ?_;cases hh with
   | false=>
    simp(disch:=try exact ac);refine aj ?_;simp(disch:=try exact ac);exact tw _ _ _ (by simp[ctR])
   | true=>
    have c2:=yE hp h6 hx (hr.h1 rfl);simp(disch:=try exact ac);refine aj ?_;simp(disch:=try exact ac);refine cd c2 ?_ (by rfl);by_cases g:cz p x rb<=0
    .have g2:=pW.1 g;simp(disch:=try exact ac)[g];exact tw _ _ _ (by simp[ctR,g2])
    .have g2:¬vl p x<=vl p rb:=fun e=>g (pW.2 e)
     simp(disch:=try exact ac)[g];exact tw _ _ _ (by simp[ctR,g2])
  | true=>
   have c1:=yE hp h6 (hr.l1 rfl) hx;simp(disch:=try exact ac);refine aj ?_;simp(disch:=try exact ac);refine cd c1 ?_ (by rfl);cases hh with
   | false=>
    simp(disch:=try exact ac);refine aj ?_;by_cases g:cz p ra x<=0
    .have g2:=pW.1 g;simp(disch:=try exact ac)[g];exact tw _ _ _ (by simp[ctR,g2])
    .have g2:¬vl p ra<=vl p x:=fun e=>g (pW.2 e)
     simp(disch:=try exact ac)[g];exact tw _ _ _ (by simp[ctR,g2])
   | true=>
    have c2:=yE hp h6 hx (hr.h1 rfl);simp(disch:=try exact ac);refine aj ?_;simp(disch:=try exact ac);refine cd c2 ?_ (by rfl);by_cases g:cz p ra x<=0
    .have g2:=pW.1 g;by_cases k:cz p x rb<=0
     .have k2:=pW.1 k;simp(disch:=try exact ac)[g,k];exact tw _ _ _ (by simp[ctR,g2,k2])
     .have k2:¬vl p x<=vl p rb:=fun e=>k (pW.2 e)
      simp(disch:=try exact ac)[g,k];exact tw _ _ _ (by simp[ctR,g2,k2])
    .have g2:¬vl p ra<=vl p x:=fun e=>g (pW.2 e)
     simp(disch:=try exact ac)[g];exact tw _ _ _ (by simp[ctR,g2])
theorem abx{p:LiQ}(hp:pcB p=0)(h6:in6 p)(hr:RgOk p r)(hx:Cl p x):CP Y F.iQ [lst di p,rgV r,szV x] (B (ctR p r x)):=by
 refine w9 ?_;obtain⟨ra,rb,hl,hh,em⟩:=r;simp only[rgV,iQ];cases em with
 | true=>
  simp(disch:=try exact ac);exact dX (by simp[ctR])
 | false=>
  cases hl with
  | false=>
   simp(disch:=try exact ac);refine aj ?_;cases hh with
   | false=>
    simp(disch:=try exact ac);refine aj ?_;simp(disch:=try exact ac);exact dX (by simp[ctR])
   | true=>
    have c2:=yE hp h6 hx (hr.h1 rfl);simp(disch:=try exact ac);refine aj ?_;simp(disch:=try exact ac);refine cd c2 ?_ (by rfl);by_cases g:cz p x rb<=0
    .have g2:=pW.1 g;simp(disch:=try exact ac)[g];exact dX (by simp[ctR,g2])
    .have g2:¬vl p x<=vl p rb:=fun e=>g (pW.2 e)
     simp(disch:=try exact ac)[g];exact dX (by simp[ctR,g2])
  | true=>
   have c1:=yE hp h6 (hr.l1 rfl) hx;simp(disch:=try exact ac);refine aj ?_;simp(disch:=try exact ac);refine cd c1 ?_ (by rfl);cases hh with
   | false=>
    simp(disch:=try exact ac);refine aj ?_;by_cases g:cz p ra x<=0
    .have g2:=pW.1 g;simp(disch:=try exact ac)[g];exact dX (by simp[ctR,g2])
    .have g2:¬vl p ra<=vl p x:=fun e=>g (pW.2 e)
     simp(disch:=try exact ac)[g];exact dX (by simp[ctR,g2])
   | true=>
    have c2:=yE hp h6 hx (hr.h1 rfl);simp(disch:=try exact ac);refine aj ?_;simp(disch:=try exact ac);refine cd c2 ?_ (by rfl);by_cases g:cz p ra x<=0
    .have g2:=pW.1 g;by_cases k:cz p x rb<=0
     .have k2:=pW.1 k;simp(disch:=try exact ac)[g,k];exact dX (by simp[ctR,g2,k2])
     .have k2:¬vl p x<=vl p rb:=fun e=>k (pW.2 e)
      simp(disch:=try exact ac)[g,k];exact dX (by simp[ctR,g2,k2])
    .have g2:¬vl p ra<=vl p x:=fun e=>g (pW.2 e)
     simp(disch:=try exact ac)[g];exact dX (by simp[ctR,g2])
theorem xw{h:Hp}(hu:(h.all fun x=>aA h.length x.2)=true):CI Y F.au [szV []] h (.d (.sl 0 [])) h:=by
 refine iu ?_;have e:szV []=.d (.sl 0 []):=rfl
 have hli:dW 0 [D.str [],D.str []] [] (h++[(0,Bk.none),(0,Bk.none)])=some ([],h++[(0,Bk.none),(0,Bk.none)]):=by
  simp[dW,gD,iW]
 rw[e];simp only[au];simp(disch:=try exact ac)[hli];intro b;cases b with
 | true=>
  simp(disch:=try exact ac);exact⟨af,hu,.inr (.inl ⟨rfl,_,_,rfl⟩)⟩
 | false=>
  simp(disch:=try exact ac)[hli]
  show apV false (h.length+1) 2 32 (V.ref h.length 1 0 0 0 0) (V.d (D.sl 0 [])) (h++[(1,Bk.data 2 [] true false),(0,Bk.none)]) _
  have e1:∀q:kkQ,apV false (h.length+1) 2 32 (V.ref h.length 1 0 0 0 0) (V.d (D.sl 0 [])) (h++[(1,Bk.data 2 [] true false),(0,Bk.none)]) q=q (V.ref h.length 1 0 0 0 0) (h++[(1,Bk.data 2 [] true false),(0,Bk.none)]):=fun q=>by
   rfl
  rw[e1];refine⟨af,?_,.inr (.inl ⟨rfl,[],_,by simp[toD,aC];rfl⟩)⟩;simp only[Y3,hu,Yk]
  try rfl
def cmL(p:LiQ)(a b:Rg):List Q×Bool:=if b.hl=true∧(a.hl=false∨vl p a.lo<vl p b.lo)then(b.lo,true)else(a.lo,a.hl)
def cmH(p:LiQ)(a b:Rg):List Q×Bool:=if b.hh=true∧(a.hh=false∨vl p a.hi>vl p b.hi)then(b.hi,true)else(a.hi,a.hh)
def cmO(p:LiQ)(a b:Rg):Rg:=⟨(cmL p a b).1,(cmH p a b).1,(cmL p a b).2,(cmH p a b).2,false⟩
def rg0:Rg:=⟨[],[],false,false,true⟩
def cmR(p:LiQ)(a b:Rg):Rg:=if a.em=true∨b.em=true then rg0 else if ckR p (cmO p a b)=0 then cmO p a b else rg0
theorem UP{p:LiQ}{a b:Rg}(ha:RgOk p a)(hb:RgOk p b):RgOk p (cmO p a b) where
 e:=fun h=>by cases h
 l0:=fun h=>by
  simp only[cmO,cmL]at h ⊢;split at h
  .cases h
  .rename_i g;rw[if_neg g];exact ha.l0 h
 l1:=fun h=>by
  simp only[cmO,cmL]at h ⊢;split at h
  .rename_i g;rw[if_pos g];exact hb.l1 g.1
  .rename_i g;rw[if_neg g];exact ha.l1 h
 h0:=fun h=>by
  simp only[cmO,cmH]at h ⊢;split at h
  .cases h
  .rename_i g;rw[if_neg g];exact ha.h0 h
 h1:=fun h=>by
  simp only[cmO,cmH]at h ⊢;split at h
  .rename_i g;rw[if_pos g];exact hb.h1 g.1
  .rename_i g;rw[if_neg g];exact ha.h1 h
theorem LI(p:LiQ):RgOk p rg0:=⟨fun _=>⟨rfl,rfl⟩,fun _=>rfl,fun h=>(by cases h),fun _=>rfl,fun h=>(by cases h)⟩
theorem YQ{p:LiQ}{a b:Rg}:((cmL p a b).2=false∨vl p (cmL p a b).1<=vl p x)↔(a.hl=false∨vl p a.lo<=vl p x)∧(b.hl=false∨vl p b.lo<=vl p x):=by
 unfold cmL;cases h1:b.hl<;>cases h2:a.hl<;>simp
 by_cases g:vl p a.lo<vl p b.lo
 .simp[g];omega
 .simp[g];omega
theorem YR{p:LiQ}{a b:Rg}:((cmH p a b).2=false∨vl p x<=vl p (cmH p a b).1)↔(a.hh=false∨vl p x<=vl p a.hi)∧(b.hh=false∨vl p x<=vl p b.hi):=by
 unfold cmH;cases h1:b.hh<;>cases h2:a.hh<;>simp
 by_cases g:vl p b.hi<vl p a.hi
 .simp[g];omega
 .simp[g];omega
theorem B5{p:LiQ}:ctR p r x=true↔r.em=false∧(r.hl=false∨vl p r.lo<=vl p x)∧(r.hh=false∨vl p x<=vl p r.hi):=by simp only[ctR,Z8,Yb,Zb,decide_eq_true_eq,and_assoc]
theorem aej{p:LiQ}{a b:Rg}(ha:RgOk p a)(hb:RgOk p b)(x:List Q):ctR p (cmR p a b) x=(ctR p a x&&ctR p b x):=by
 rw[Yi,Z8];by_cases he:a.em=true∨b.em=true
 .rw[cmR,if_pos he];simp only[ctR,rg0,Xa,Wi];rcases he with h|h<;>simp[h]
 .have ea:a.em=false:=by cases h:a.em<;>simp_all
  have eb:b.em=false:=by cases h:b.em<;>simp_all
  rw[cmR,if_neg he]
  have key:ctR p (cmO p a b) x=true↔ctR p a x=true∧ctR p b x=true:=by
   rw[B5,B5,B5];have kl:=YQ (p:=p) (a:=a) (b:=b) (x:=x);have kh:=YR (p:=p) (a:=a) (b:=b) (x:=x)
   show false=false∧((cmL p a b).2=false∨vl p (cmL p a b).1<=vl p x)∧((cmH p a b).2=false∨vl p x<=vl p (cmH p a b).1)↔_
   rw[kl,kh];constructor
   .rintro⟨_,⟨h1,h2⟩,h3,h4⟩;exact⟨⟨ea,h1,h3⟩,eb,h2,h4⟩
   .rintro⟨⟨_,h1,h3⟩,_,h2,h4⟩;exact⟨rfl,⟨h1,h2⟩,h3,h4⟩
  split
  .exact key
  .rename_i hk
   have hk2:(cmO p a b).hl=true∧(cmO p a b).hh=true∧vl p (cmO p a b).lo>vl p (cmO p a b).hi:=by
    apply Classical.byContradiction;intro g;exact hk (by simp only[ckR,if_neg g])
   have:¬ctR p (cmO p a b) x=true:=fun h=>by
    rw[B5,hk2.1,hk2.2.1]at h;simp at h;omega
   simp only[ctR,rg0,Xa,Wi];constructor
   .intro h;cases h
   .intro h;exact absurd (key.2 h) this
theorem aek{p:LiQ}{a b:Rg}:ckR p (cmR p a b)=0:=by
 unfold cmR;split
 .rfl
 .split
  .assumption
  .rfl
theorem abU{p:LiQ}{a b:Rg}(ha:RgOk p a)(hb:RgOk p b):RgOk p (cmR p a b):=by
 unfold cmR;split
 .exact LI p
 .split
  .exact UP ha hb
  .exact LI p
theorem Qx{DD:oQ}{h:Hp}{f:FuncId}{x:V}{n len cap:Nat}{cells:LdQ}{ex:Bool}{s e:Nat}{b:Bk}{k:kkQ}{u:PU k}(hc:DD f [x] [] (.new n cells ex len cap) [])(hx:aJ h x=some (x,h))(hs:h[s]?=some (e,b))
  (hk:k (.ref s (e+1) 0 len cap cells.length) (h.set s (e+1,.data n cells ex false))):rh (Aj DD h (.fn f [] []) [x] s) k u:=by
 show Aj DD h (.fn f [] []) [x] s k
 simp only[Aj,List.nil_append,Zj,aw,hx];exact⟨_,hc,by simpa[new,hs]using hk⟩
theorem Qy{DD:oQ}{h:Hp}{f:FuncId}{x:V}{y:D}{s:Nat}{k:kkQ}{u:PU k}(hc:DD f [x] [] (.d y) [])(hx:aJ h x=some (x,h))(hk:k (.d y) h):rh (Aj DD h (.fn f [] []) [x] s) k u:=by
 show Aj DD h (.fn f [] []) [x] s k
 simp only[Aj,List.nil_append,Zj,aw,hx];exact⟨_,hc,hk⟩
theorem Hb{lo:List Q}{v1 v2:V}{H H1 H2:Hp}(h1:aJ H v1=some (szV lo,H1))(h2:aJ H1 v2=some (szV hi,H2)):out (.tup [rgV ⟨lo,hi,hl,hh,em⟩,I z]) (.tup [.agg [v1,v2,B hl,B hh,B em],I z]) H:=by have s2:aJ H2 (B hl)=some (B hl,H2):=rfl;have s3:aJ H2 (B hh)=some (B hh,H2):=rfl;have s4:aJ H2 (B em)=some (B em,H2):=rfl;have s5:aJ H2 (I z)=some (I z,H2):=rfl;refine⟨H2,?_⟩;simp only[aJ.eq_4,aJ.eq_3,aw,h1,h2,s2,s3,s4,s5];trivial
theorem hu7{a b c d e f g:Nat×Bk}(ha:aA 7 a.2=true)(hb:aA 7 b.2=true)(hc:aA 7 c.2=true)(hd:aA 7 d.2=true)(he:aA 7 e.2=true)(hf:aA 7 f.2=true)(hg:aA 7 g.2=true):
  (([a,b,c,d,e,f,g]:Hp).all fun x=>aA ([a,b,c,d,e,f,g]:Hp).length x.2)=true:=by
 show(([a,b,c,d,e,f,g]:Hp).all fun x=>aA 7 x.2)=true
 simp only[List.all_cons,List.all_nil,ha,hb,hc,hd,he,hf,hg,Yg]
theorem abT{p:LiQ}(hp:pcB p=0)(h6:in6 p){lo hi:List Q}{hl hh:Bool}(hr:RgOk p ⟨lo,hi,hl,hh,false⟩)(s0 s1 s3:Nat×Bk){R:Rg}(hR:R=if ckR p ⟨lo,hi,hl,hh,false⟩=0 then⟨lo,hi,hl,hh,false⟩else rg0)
  (u0:aA 7 s0.2=true) (u1:aA 7 s1.2=true) (u3:aA 7 s3.2=true) :
  bnd (ldA [s0,s1,(1,.vars [nlV,nlV,B false,B false,B false]),s3,(1,.vars [szV lo,szV hi,B hl,B hh,B false]),nnQ,nnQ] 5 (.ptr 4 1 0 5)) fun v57=>
     cal (CX Y).p [s0,s1,(1,.vars [nlV,nlV,B false,B false,B false]),s3,(1,.vars [szV lo,szV hi,B hl,B hh,B false]),nnQ,nnQ] (.fn F.eH [] []) [lst di p,v57] fun v58 h=>
     bnd (biI .neq v58 (.d (.int .i64 0))) fun v59=>
     cnd v59 (
      bnd (bld [(0,1),(1,1),(2,1),(3,1),(4,1)] [nPQ,nPQ,.bool false,.bool false,.bool false] [(4,(.d (.bool true)))]) fun v60=>
      stD h 5 (.ptr 2 1 0 5) v60 fun _ h=>
      bnd (ldA h 5 (.ptr 2 1 0 5)) fun v62=>
      out (.tup [rgV R,I 0]) (.tup [v62,(.d (.int .i64 0))]) h) (
      bnd (faV 0 (.ptr 4 1 0 5)) fun v63=>
      bnd (ld1 h v63) fun v64=>
      Aj (CX Y).i h (.fn F.au [] []) [v64] 5 fun v65 h=>
      bnd (faV 1 (.ptr 4 1 0 5)) fun v66=>
      bnd (ld1 h v66) fun v67=>
      cai (CX Y).i h (.fn F.au [] []) [v67] 6 fun v68 h=>
      bnd (faV 0 (.ptr 4 1 0 5)) fun v69=>
      stD h 1 v69 v65 fun _ h=>
      bnd (faV 1 (.ptr 4 1 0 5)) fun v71=>
      stD h 1 v71 v68 fun _ h=>
      bnd (ldA h 5 (.ptr 4 1 0 5)) fun v73=>
      stD h 5 (.ptr 2 1 0 5) v73 fun _ h=>
      bnd (ldA h 5 (.ptr 2 1 0 5)) fun v75=>
      out (.tup [rgV R,I 0]) (.tup [v75,(.d (.int .i64 0))]) h):=by
 have ck:=rW hp h6 hr;simp only[rgV]at ck;generalize hk:ckR p ⟨lo,hi,hl,hh,false⟩=k at ck hR;simp(disch:=try exact ac);refine cd ck ?_ (by rfl);by_cases k0:k=0
 .rw[if_pos k0]at hR;subst hR;have okz:∀s:List Q,okV (szV s)=true:=fun _=>rfl
  have snz:∀(s:List Q)(h:Hp),aJ h (szV s)=some (szV s,h):=fun _ _=>rfl
  have e0:V.d (.sl 0 [])=szV []:=rfl;have lenC:∀s:List Q,((s.map tx).flatMap bg).length=s.length*2:=fun s=>by rw[gP bg bG,List.length_map]
  have N:=h6.2.1
  have lo1:lo≠[]->0<lo.length∧lo.length<1000:=fun h=>by
   have h1:hl=true:=by
    cases hl
    .exact absurd (hr.l0 rfl) h
    .rfl
   have:=(hr.l1 h1).l;exact⟨X4.2 h,by simp only at this;omega⟩
  have hi1:hi≠[]->0<hi.length∧hi.length<1000:=fun h=>by
   have h1:hh=true:=by
    cases hh
    .exact absurd (hr.h0 rfl) h
    .rfl
   have:=(hr.h1 h1).l;exact⟨X4.2 h,by simp only at this;omega⟩
  simp(disch:=try exact ac)[k0];by_cases c1:lo=[]
  .subst c1;refine Qy (xw (h:=[]) rfl) (snz _ _) ?_;rw[e0];by_cases c2:hi=[]
   .subst c2;simp(disch:=try exact ac)[okz];refine io (xw (hu7 u0 u1 rfl u3 rfl rfl rfl)) ?_ (by intro _ _ _ _ _ e;cases e);rw[e0];simp(disch:=try exact ac)[okz];exact⟨_,rfl⟩
   .have cl:=tS (h:=[s0,s1,(1,Bk.vars [nlV,nlV,B false,B false,B false]),s3,(1,Bk.vars [szV [],szV hi,B hl,B hh,B false]),(0,Bk.none),(0,Bk.none)]) (hu7 u0 u1 rfl u3 rfl rfl rfl) (hi1 c2).1 (by have:=(hi1 c2).2;omega);simp(disch:=try exact ac)[okz];refine fG cl (s:=6) (e:=0) (b:=.none) rfl ?_;rw[lenC];simp(disch:=try exact ac)[okz]
    exact Hb (snz _ _) (Cx (l:=hi.map tx) (s:=6) (e:=1) (ex:=false) (fr:=false) rfl af)
  .have c5:=tS (h:=[]) rfl (lo1 c1).1 (by have:=(lo1 c1).2;omega);refine Qx c5 (snz _ _) (s:=5) (e:=0) (b:=.none) rfl ?_;rw[lenC];by_cases c2:hi=[]
   .subst c2;simp(disch:=try exact ac)[okz];refine io (xw (hu7 u0 u1 rfl u3 rfl rfl rfl)) ?_ (by intro _ _ _ _ _ e;cases e);rw[e0];simp(disch:=try exact ac)[okz];exact Hb (Cx (l:=lo.map tx) (s:=5) (e:=1) (ex:=false) (fr:=false) rfl af) (snz _ _)
   .have cl:=tS (h:=[s0,s1,(1,Bk.vars [nlV,nlV,B false,B false,B false]),s3,(1,Bk.vars [szV lo,szV hi,B hl,B hh,B false]),(1,Bk.data 2 ((lo.map tx).flatMap bg) false false),(0,Bk.none)]) (hu7 u0 u1 rfl u3 rfl rfl rfl) (hi1 c2).1 (by have:=(hi1 c2).2;omega);simp(disch:=try exact ac)[okz];refine fG cl (s:=6) (e:=0) (b:=.none) rfl ?_;rw[lenC]
    simp(disch:=try exact ac)[okz];exact Hb (Cx (l:=lo.map tx) (s:=5) (e:=1) (ex:=false) (fr:=false) rfl af) (Cx (l:=hi.map tx) (s:=6) (e:=1) (ex:=false) (fr:=false) rfl af)
 .rw[if_neg k0]at hR;subst hR;simp(disch:=try exact ac)[k0];exact⟨_,rfl⟩
def ClN(p:LiQ)(s:List Q):Prop:=s=[]∨Cl p s
theorem aeh{p:LiQ}(hp:pcB p=0)(h6:in6 p)(h0:0<p.length){a b:List Q}(ha:ClN p a)(hb:ClN p b):∃z e,CP Y F.bY [lst di p,szV a,szV b] (.tup [I z,I e])∧(Cl p a->Cl p b->z=cz p a b):=by
 have N:=h6.2.1;have nn:okS []:=fun x hx=>by cases hx
 rcases ha with rfl|ha
 .rcases hb with rfl|hb
  .refine⟨0,_,abS hp h6 nn nn af af (by simp[yF];omega),fun h=>?_⟩;have:=h.l;simp at this;omega
  .refine⟨0,_,abS hp h6 nn hb.o af (by have:=hb.l;omega) (by simp[yF];omega),fun h=>?_⟩;have:=h.l;simp at this;omega
 .rcases hb with rfl|hb
  .refine⟨0,_,abS hp h6 ha.o nn (by have:=ha.l;omega) af (by simp[yF,ha.l];omega),fun _ h=>?_⟩;have:=h.l;simp at this;omega
  .exact⟨_,_,yE hp h6 ha hb,fun _ _=>rfl⟩
theorem Ls(a b c d f g:Nat×Bk)(v w x y z:V)(s:List Q):st [a,b,c,d,(1,.vars [v,w,x,y,z]),f,g] 1 (.ptr 4 1 0 5) (szV s)=some [a,b,c,d,(1,.vars [szV s,w,x,y,z]),f,g]:=rfl
theorem Lo{p:LiQ}(hp:pcB p=0)(h6:in6 p)(h0:0<p.length){a b:Rg}(ha:RgOk p a)(hb:RgOk p b)(ca:ckR p a=0)(cb:ckR p b=0):CP Y F.js [lst di p,rgV a,rgV b] (.tup [rgV (cmR p a b),I 0]):=by
 refine xH ?_;have k1:=rW hp h6 ha;have k2:=rW hp h6 hb;rw[ca]at k1;rw[cb]at k2;obtain⟨zl,el,cl,hzl⟩:=aeh hp h6 h0 (a:=a.lo) (b:=b.lo) (by cases h:a.hl;exact .inl (ha.l0 h);exact .inr (ha.l1 h)) (by cases h:b.hl;exact .inl (hb.l0 h);exact .inr (hb.l1 h))
 obtain⟨zh,eh,ch,hzh⟩:=aeh hp h6 h0 (a:=a.hi) (b:=b.hi) (by cases h:a.hh;exact .inl (ha.h0 h);exact .inr (ha.h1 h)) (by cases h:b.hh;exact .inl (hb.h0 h);exact .inr (hb.h1 h));have okO:=UP ha hb;obtain⟨R,hR⟩:=nmQ (cmR p a b);rw[<-hR];obtain⟨al,ah,ahl,ahh,aem⟩:=a;obtain⟨bl,bh,bhl,bhh,bem⟩:=b;simp only at cl ch hzl hzh
 have fp:∀(x1 x2 y1 y2:List Q)(c1 c2 c3 d1 d2 d3:Bool),Ap 5 [nPQ,nPQ,.bool false,.bool false,.bool false,nPQ,nPQ,.bool false,.bool false,.bool false] [(0,.agg [szV x1,szV x2,B c1,B c2,B c3]),(1,.agg [szV y1,szV y2,B d1,B d2,B d3])]=some (.agg [szV x1,szV x2,B c1,B c2,B c3,szV y1,szV y2,B d1,B d2,B d3]):=fun _ _ _ _ _ _ _ _ _ _=>rfl
 have i0:∀(x1 x2 y1 y2:List Q)(c1 c2 c3 d1 d2 d3:Bool),ixA 2 5 false (.agg [szV x1,szV x2,B c1,B c2,B c3,szV y1,szV y2,B d1,B d2,B d3]) (.d (.int .i64 0))=some (.agg [szV x1,szV x2,B c1,B c2,B c3]):=fun _ _ _ _ _ _ _ _ _ _=>rfl
 have i1:∀(x1 x2 y1 y2:List Q)(c1 c2 c3 d1 d2 d3:Bool),ixA 2 5 false (.agg [szV x1,szV x2,B c1,B c2,B c3,szV y1,szV y2,B d1,B d2,B d3]) (.d (.int .i64 1))=some (.agg [szV y1,szV y2,B d1,B d2,B d3]):=fun _ _ _ _ _ _ _ _ _ _=>rfl
 have okz:∀s:List Q,okV (szV s)=true:=fun _=>rfl
 simp only[rgV]at k1 k2
 have fpE:∀(x1 x2 y1 y2:List Q)(c1 c2 c3 d1 d2 d3:Bool)(k:V->Prop),bnd (Ap 5 [nPQ,nPQ,.bool false,.bool false,.bool false,nPQ,nPQ,.bool false,.bool false,.bool false] [(0,.agg [szV x1,szV x2,B c1,B c2,B c3]),(1,.agg [szV y1,szV y2,B d1,B d2,B d3])]) k=k (.agg [szV x1,szV x2,B c1,B c2,B c3,szV y1,szV y2,B d1,B d2,B d3]):=fun _ _ _ _ _ _ _ _ _ _ _=>rfl
 have g1:∀(v:V)(h:Hp),True:=fun _ _=>trivial
 simp only[show rgV ⟨al,ah,ahl,ahh,aem⟩=.agg [szV al,szV ah,B ahl,B ahh,B aem]from rfl,show rgV ⟨bl,bh,bhl,bhh,bem⟩=.agg [szV bl,szV bh,B bhl,B bhh,B bem]from rfl,js];simp(disch:=try exact ac);refine lo (ak ?_);simp only[kR];simp(disch:=try exact ac)[i0,okz];refine cd k1 ?_ (by rfl)
 simp(disch:=try exact ac)[okz];refine⟨rfl,lo (h:=[(1,.vars [szV al,szV ah,B ahl,B ahh,B aem]),(1,.vars [szV bl,szV bh,B bhl,B bhh,B bem]),(1,.vars [nlV,nlV,B false,B false,B false]),nnQ,nnQ,nnQ,nnQ]) (ak ?_)⟩;simp only[kR];simp(disch:=try exact ac)[i1,okz];refine cd k2 ?_ (by rfl)
 simp(disch:=try exact ac)[okz];refine⟨rfl,lo (h:=[(1,.vars [szV al,szV ah,B ahl,B ahh,B aem]),(1,.vars [szV bl,szV bh,B bhl,B bhh,B bem]),(1,.vars [nlV,nlV,B false,B false,B false]),nnQ,nnQ,nnQ,nnQ]) (ak ?_)⟩;simp only[kR];simp(disch:=try exact ac)[okz];by_cases he:aem=true∨bem=true
 .have eR:R=rg0:=by rw[hR,cmR,if_pos he]
  subst eR;cases aem with
  | true=>
   simp(disch:=try exact ac);exact⟨_,rfl⟩
  | false=>
   have:bem=true:=he.resolve_left ae;subst this;simp(disch:=try exact ac);exact⟨_,rfl⟩
 .have e1:aem=false:=(Bool.eq_false_or_eq_true aem).resolve_left fun h=>he (.inl h)
  have e2:bem=false:=(Bool.eq_false_or_eq_true bem).resolve_left fun h=>he (.inr h)
  subst e1 e2;rw[cmR,if_neg he]at hR;simp(disch:=try exact ac)[okz];refine cd cl ?_ (by rfl)
  have leaf:=fun(lo':List Q)(hl':Bool)(hi':List Q)(hh':Bool)(hL:cmL p ⟨al,ah,ahl,ahh,false⟩ ⟨bl,bh,bhl,bhh,false⟩=(lo',hl'))(hH:cmH p ⟨al,ah,ahl,ahh,false⟩ ⟨bl,bh,bhl,bhh,false⟩=(hi',hh'))(s0 s1 s3:Nat×Bk)(u0:aA 7 s0.2=true)(u1:aA 7 s1.2=true)(u3:aA 7 s3.2=true)=>
   abT (p:=p) (lo:=lo') (hi:=hi') (hl:=hl') (hh:=hh') (R:=R) hp h6 (by rw[cmO,hL,hH]at okO;exact okO) s0 s1 s3 (by rw[hR,cmO,hL,hH]) u0 u1 u3
  simp(disch:=try exact ac)[okz];cases bhl with
  | false=>
   simp(disch:=try exact ac)[okz];refine aj ?_;simp(disch:=try exact ac)[okz,Ls];refine cd ch ?_ (by rfl);simp(disch:=try exact ac)[okz];cases bhh with
   | false=>
    simp(disch:=try exact ac)[okz];refine aj ?_;simp(disch:=try exact ac)[okz,Ls];exact leaf al ahl ah ahh (by simp[cmL]) (by simp[cmH]) _ _ _ rfl rfl rfl
   | true=>
    cases ahh with
    | false=>
     simp(disch:=try exact ac)[okz];refine aj ?_;simp(disch:=try exact ac)[okz,Ls];exact leaf al ahl bh true (by simp[cmL]) (by simp[cmH]) _ _ _ rfl rfl rfl
    | true=>
     have ez:=hzh (ha.h1 rfl) (hb.h1 rfl);by_cases gh:zh>0
     .have gv:vl p ah>vl p bh:=sR.1 (by rw[ez]at gh;exact gh);simp(disch:=try exact ac)[gh,okz];refine aj ?_;simp(disch:=try exact ac)[okz];exact leaf al ahl bh true (by simp[cmL]) (by simp[cmH,gv]) _ _ _ rfl rfl rfl
     .have gv:¬vl p ah>vl p bh:=fun h=>gh (by rw[ez];exact sR.2 h)
      simp(disch:=try exact ac)[gh,okz];refine aj ?_;simp(disch:=try exact ac)[okz];exact leaf al ahl ah true (by simp[cmL]) (by simp[cmH,gv]) _ _ _ rfl rfl rfl
  | true=>
   cases ahl with
   | false=>
    simp(disch:=try exact ac)[okz];refine aj ?_;simp(disch:=try exact ac)[okz,Ls];refine cd ch ?_ (by rfl);simp(disch:=try exact ac)[okz];cases bhh with
    | false=>
     simp(disch:=try exact ac)[okz];refine aj ?_;simp(disch:=try exact ac)[okz,Ls];exact leaf bl true ah ahh (by simp[cmL]) (by simp[cmH]) _ _ _ rfl rfl rfl
    | true=>
     cases ahh with
     | false=>
      simp(disch:=try exact ac)[okz];refine aj ?_;simp(disch:=try exact ac)[okz];exact leaf bl true bh true (by simp[cmL]) (by simp[cmH]) _ _ _ rfl rfl rfl
     | true=>
      have ez:=hzh (ha.h1 rfl) (hb.h1 rfl);by_cases gh:zh>0
      .have gv:vl p ah>vl p bh:=sR.1 (by rw[ez]at gh;exact gh);simp(disch:=try exact ac)[gh,okz];refine aj ?_;simp(disch:=try exact ac)[okz];exact leaf bl true bh true (by simp[cmL]) (by simp[cmH,gv]) _ _ _ rfl rfl rfl
      .have gv:¬vl p ah>vl p bh:=fun h=>gh (by rw[ez];exact sR.2 h)
       simp(disch:=try exact ac)[gh,okz];refine aj ?_;simp(disch:=try exact ac)[okz];exact leaf bl true ah true (by simp[cmL]) (by simp[cmH,gv]) _ _ _ rfl rfl rfl
   | true=>
    have ey:=hzl (ha.l1 rfl) (hb.l1 rfl);by_cases gl:zl<0
    .have gw:vl p al<vl p bl:=aaq.1 (by rw[ey]at gl;exact gl);simp(disch:=try exact ac)[gl,okz];refine aj ?_;simp(disch:=try exact ac)[okz,Ls];refine cd ch ?_ (by rfl);simp(disch:=try exact ac)[okz];cases bhh with
     | false=>
      simp(disch:=try exact ac)[okz];refine aj ?_;simp(disch:=try exact ac)[okz];exact leaf bl true ah ahh (by simp[cmL,gw]) (by simp[cmH]) _ _ _ rfl rfl rfl
     | true=>
      cases ahh with
      | false=>
       simp(disch:=try exact ac)[okz];refine aj ?_;simp(disch:=try exact ac)[okz];exact leaf bl true bh true (by simp[cmL,gw]) (by simp[cmH]) _ _ _ rfl rfl rfl
      | true=>
       have ez:=hzh (ha.h1 rfl) (hb.h1 rfl);by_cases gh:zh>0
       .have gv:vl p ah>vl p bh:=sR.1 (by rw[ez]at gh;exact gh);simp(disch:=try exact ac)[gh,okz];refine aj ?_;simp(disch:=try exact ac)[okz];exact leaf bl true bh true (by simp[cmL,gw]) (by simp[cmH,gv]) _ _ _ rfl rfl rfl
       .have gv:¬vl p ah>vl p bh:=fun h=>gh (by rw[ez];exact sR.2 h)
        simp(disch:=try exact ac)[gh,okz];refine aj ?_;simp(disch:=try exact ac)[okz];exact leaf bl true ah true (by simp[cmL,gw]) (by simp[cmH,gv]) _ _ _ rfl rfl rfl
    .have gw:¬vl p al<vl p bl:=fun h=>gl (by rw[ey];exact aaq.2 h)
     simp(disch:=try exact ac)[gl,okz];refine aj ?_;simp(disch:=try exact ac)[okz,Ls];refine cd ch ?_ (by rfl);simp(disch:=try exact ac)[okz];cases bhh with
     | false=>
      simp(disch:=try exact ac)[okz];refine aj ?_;simp(disch:=try exact ac)[okz];exact leaf al true ah ahh (by simp[cmL,gw]) (by simp[cmH]) _ _ _ rfl rfl rfl
     | true=>
      cases ahh with
      | false=>
       simp(disch:=try exact ac)[okz];refine aj ?_;simp(disch:=try exact ac)[okz];exact leaf al true bh true (by simp[cmL,gw]) (by simp[cmH]) _ _ _ rfl rfl rfl
      | true=>
       have ez:=hzh (ha.h1 rfl) (hb.h1 rfl);by_cases gh:zh>0
       .have gv:vl p ah>vl p bh:=sR.1 (by rw[ez]at gh;exact gh);simp(disch:=try exact ac)[gh,okz];refine aj ?_;simp(disch:=try exact ac)[okz];exact leaf al true bh true (by simp[cmL,gw]) (by simp[cmH,gv]) _ _ _ rfl rfl rfl
       .have gv:¬vl p ah>vl p bh:=fun h=>gh (by rw[ez];exact sR.2 h)
        simp(disch:=try exact ac)[gh,okz];refine aj ?_;simp(disch:=try exact ac)[okz];exact leaf al true ah true (by simp[cmL,gw]) (by simp[cmH,gv]) _ _ _ rfl rfl rfl
structure Dr where
 lo:List (Int×Nat)
 hi:List (Int×Nat)
 hl:Bool
 hh:Bool
 em:Bool
variable{d:Dr}
def pOk(e:List (Int×Nat)):Prop:=e.length=4∧∀x∈e,(-128<=x.1∧x.1<=127)∧x.2<256
def drC(d:Dr):LwQ:=se d.lo++se d.hi++[B d.hl,B d.hh,B d.em]
def HT(d:Dr):Prop:=pOk d.lo∧pOk d.hi
def mkR(p:LiQ)(d:Dr):Rg:=
 if d.em=true then rg0 else
 if vl p (oR p.length d.lo)>vl p (oR p.length d.hi)then⟨if d.hl=true then oR p.length d.hi else[],if d.hh=true then oR p.length d.lo else[],d.hl,d.hh,false⟩
 else⟨if d.hl=true then oR p.length d.lo else[],if d.hh=true then oR p.length d.hi else[],d.hl,d.hh,false⟩
theorem UR{p:LiQ}(hp4:p.length<=4)(he:pOk e):Cl p (oR p.length e):=by have b:=aew p.length e;exact⟨by simp[oR,he.1];omega,b,Ve ae b ae ae⟩
theorem Tk{p:LiQ}(hp4:p.length<=4)(hd:HT d):RgOk p (mkR p d)∧ckR p (mkR p d)=0:=by
 have c1:=UR hp4 hd.1;have c2:=UR hp4 hd.2;unfold mkR;split
 .exact⟨LI p,rfl⟩
 .split
  .refine⟨⟨fun h=>(by cases h),fun h=>(by simp only at h;simp[h]),fun h=>(by simp only at h;simp only[h,if_true];exact c2),fun h=>(by simp only at h;simp[h]),fun h=>(by simp only at h;simp only[h,if_true];exact c1)⟩,?_⟩;unfold ckR;rw[if_neg];rintro⟨h1,h2,h3⟩;simp only at h1 h2 h3;rw[if_pos h1,if_pos h2]at h3;omega
  .refine⟨⟨fun h=>(by cases h),fun h=>(by simp only at h;simp[h]),fun h=>(by simp only at h;simp only[h,if_true];exact c1),fun h=>(by simp only at h;simp[h]),fun h=>(by simp only at h;simp only[h,if_true];exact c2)⟩,?_⟩;unfold ckR;rw[if_neg];rintro⟨h1,h2,h3⟩;simp only at h1 h2 h3;rw[if_pos h1,if_pos h2]at h3;omega
theorem four(he:e.length=4):∃a b c d,e=[a,b,c,d]:=by
 match e,he with
 |[a,b,c,d],_=>exact⟨a,b,c,d,rfl⟩
theorem IX(a b:Nat×Bk)(v w x y z:V)(s:List Q):st [a,b,(1,.vars [v,w,x,y,z])] 1 (.ptr 2 1 0 5) (szV s)=some [a,b,(1,.vars [szV s,w,x,y,z])]:=rfl
theorem F7{p:LiQ}(hp:pcB p=0)(h6:in6 p)(h0:0<p.length)(hp4:p.length<=4)(hd:HT d):CP Y F.fx [lst di p,.agg (drC d)] (rgV (mkR p d)):=by
 refine wA ?_;have m1:=zF (p:=p) hd.1.1 hd.1.2 hp4 h0;have m2:=zF (p:=p) hd.2.1 hd.2.2 hp4 h0;have cc:=yE hp h6 (UR hp4 hd.1) (UR hp4 hd.2);obtain⟨R,hR⟩:=nmQ (mkR p d);rw[<-hR];obtain⟨dl,dh,hl,hh,em⟩:=d;obtain⟨a,b,c,e,h4⟩:=four hd.1.1;obtain⟨a',b',c',e',h4'⟩:=four hd.2.1;simp only at h4 h4' m1 m2 cc hR
 have okz:∀s:List Q,okV (szV s)=true:=fun _=>rfl
 have hC:drC ⟨dl,dh,hl,hh,em⟩=[.d (.int .i8 a.1),.d (.int .u8 a.2),.d (.int .i8 b.1),.d (.int .u8 b.2),.d (.int .i8 c.1),.d (.int .u8 c.2),.d (.int .i8 e.1),.d (.int .u8 e.2),.d (.int .i8 a'.1),.d (.int .u8 a'.2),.d (.int .i8 b'.1),.d (.int .u8 b'.2),.d (.int .i8 c'.1),.d (.int .u8 c'.2),.d (.int .i8 e'.1),.d (.int .u8 e'.2),B hl,B hh,B em]:=by
  simp[drC,h4,h4',se]
 have e1:se dl=[.d (.int .i8 a.1),.d (.int .u8 a.2),.d (.int .i8 b.1),.d (.int .u8 b.2),.d (.int .i8 c.1),.d (.int .u8 c.2),.d (.int .i8 e.1),.d (.int .u8 e.2)]:=by simp[h4,se]
 have e2:se dh=[.d (.int .i8 a'.1),.d (.int .u8 a'.2),.d (.int .i8 b'.1),.d (.int .u8 b'.2),.d (.int .i8 c'.1),.d (.int .u8 c'.2),.d (.int .i8 e'.1),.d (.int .u8 e'.2)]:=by simp[h4',se]
 rw[e1]at m1;rw[e2]at m2;rw[hC]
 have hR2:em=false->R=if vl p (oR p.length dl)>vl p (oR p.length dh)then⟨if hl=true then oR p.length dh else[],if hh=true then oR p.length dl else[],hl,hh,false⟩else⟨if hl=true then oR p.length dl else[],if hh=true then oR p.length dh else[],hl,hh,false⟩:=fun h=>by
  rw[hR,h];rfl
 generalize oR p.length dl=sl at *;generalize oR p.length dh=sh at *;simp only[fx];cases em with
 | true=>
  have:R=rg0:=by rw[hR];rfl
  subst this;simp(disch:=try exact ac);exact⟨_,rfl⟩
 | false=>
  have hR2:=hR2 rfl;simp(disch:=try exact ac);refine cd m1 ?_ (by rfl);simp(disch:=try exact ac);refine cd m2 ?_ (by rfl);simp(disch:=try exact ac);refine cd cc ?_ (by rfl);simp(disch:=try exact ac);refine aj ?_;by_cases g:cz p sl sh>0
  .have gv:=sR.1 g;cases hl with
   | false=>
    cases hh with
    | false=>
     have e9:R=⟨[],[],false,false,false⟩:=by rw[hR2,if_pos gv];rfl
     subst e9;simp(disch:=try exact ac)[g];refine aj ?_;simp(disch:=try exact ac)[IX,okz];refine aj ?_;simp(disch:=try exact ac)[okz];exact⟨_,rfl⟩
    | true=>
     have e9:R=⟨[],sl,false,true,false⟩:=by rw[hR2,if_pos gv];rfl
     subst e9;simp(disch:=try exact ac)[g];refine aj ?_;simp(disch:=try exact ac)[IX,okz];refine aj ?_;simp(disch:=try exact ac)[okz];exact⟨_,rfl⟩
   | true=>
    cases hh with
    | false=>
     have e9:R=⟨sh,[],true,false,false⟩:=by rw[hR2,if_pos gv];rfl
     subst e9;simp(disch:=try exact ac)[g];refine aj ?_;simp(disch:=try exact ac)[IX,okz];refine aj ?_;simp(disch:=try exact ac)[okz];exact⟨_,rfl⟩
    | true=>
     have e9:R=⟨sh,sl,true,true,false⟩:=by rw[hR2,if_pos gv];rfl
     subst e9;simp(disch:=try exact ac)[g];refine aj ?_;simp(disch:=try exact ac)[IX,okz];refine aj ?_;simp(disch:=try exact ac)[okz];exact⟨_,rfl⟩
  .have gv:¬vl p sl>vl p sh:=fun h=>g (sR.2 h)
   cases hl with
   | false=>
    cases hh with
    | false=>
     have e9:R=⟨[],[],false,false,false⟩:=by rw[hR2,if_neg gv];rfl
     subst e9;simp(disch:=try exact ac)[g];refine aj ?_;simp(disch:=try exact ac)[IX,okz];refine aj ?_;simp(disch:=try exact ac)[okz];exact⟨_,rfl⟩
    | true=>
     have e9:R=⟨[],sh,false,true,false⟩:=by rw[hR2,if_neg gv];rfl
     subst e9;simp(disch:=try exact ac)[g];refine aj ?_;simp(disch:=try exact ac)[IX,okz];refine aj ?_;simp(disch:=try exact ac)[okz];exact⟨_,rfl⟩
   | true=>
    cases hh with
    | false=>
     have e9:R=⟨sl,[],true,false,false⟩:=by rw[hR2,if_neg gv];rfl
     subst e9;simp(disch:=try exact ac)[g];refine aj ?_;simp(disch:=try exact ac)[IX,okz];refine aj ?_;simp(disch:=try exact ac)[okz];exact⟨_,rfl⟩
    | true=>
     have e9:R=⟨sl,sh,true,true,false⟩:=by rw[hR2,if_neg gv];rfl
     subst e9;simp(disch:=try exact ac)[g];refine aj ?_;simp(disch:=try exact ac)[IX,okz];refine aj ?_;simp(disch:=try exact ac)[okz];exact⟨_,rfl⟩
inductive Loc(s5 s7 s8:Nat×Bk):V->List (List Q)->Prop
 |a (x:List Q):s5=(1,.data 1 [szD x] true false)->s7=nnQ->s8=nnQ->Loc s5 s7 s8 (.ref 5 1 0 1 1 1) [x]
 |b (L:List (List Q)):0<L.length->aA 9 s5.2=true->offB [6] s5.2=true->s7=(1,.data 1 (L.map szD) false false)->s8=nnQ->Loc s5 s7 s8 (.ref 7 1 0 L.length L.length L.length) L
 |c (L:List (List Q)):0<L.length->aA 9 s5.2=true->offB [6] s5.2=true->s8=(1,.data 1 (L.map szD) false false)->s7=nnQ->Loc s5 s7 s8 (.ref 8 1 0 L.length L.length L.length) L
theorem OQ{s s' e by_ n k L:Nat}{cells cs:LdQ}{h:Hp}{y:V}{q:kkQ}{u:PU q}(hk:0<k)(hn:0<n)(hs':h[s']?=some (e,.data n cells false false))(hc:cells.length=L*n)
  (hcs:cs.length=k*n) (hy:cellsOf h y=some (k,cs)) (hyn:∀t,y≠.d (.str t)) (hb:(L+k)*by_<=140737488355328)
  (hq:q (.ref s' e 0 (L+k) (L+k) (cells++cs).length) (h.set s' (e,.data n (cells++cs) false false))):rh (apV false s n by_ (.ref s' e 0 L L cells.length) y h) q u:=by
 have e1:apV false s n by_ (.ref s' e 0 L L cells.length) y h q=apC false s n by_ (.ref s' e 0 L L cells.length) k cs h q:=by
  unfold apV;split
  .trivial
  .grind
 show apV false s n by_ (.ref s' e 0 L L cells.length) y h q
 rw[e1];unfold apC;rw[if_neg aa];have g:aC h s' e=.data n cells false false:=by simp[aC,hs']
 have hpos:0<cs.length:=by rw[hcs];exact Yj hk hn
 simp only[g,true_and,Zk];rw[if_pos ⟨Z7 _,aa,hcs⟩,if_neg aa,if_pos hb];simp only[Ze,if_false,Bool.or_self];rw[if_pos ⟨aa,aa⟩];simp only[Yx,b6];rw[Z1 aa];rw[Zs,hc]at hq;exact hq
theorem HB{h0 h1 h2 h3 h4 s5 s6 s7 s8:Nat×Bk}{v:V}{L:List (List Q)}{y:List Q}{T:Nat}{q:kkQ}{u:PU q}(hT:T=7∨T=8)(h:Loc s5 s7 s8 v L)(hn:L.length<100)
  (hq:∀v' s7' s8',Loc s5 s7' s8' v' (L++[y])->q v' [h0,h1,h2,h3,h4,s5,s6,s7',s8']):rh (apV false T 1 24 v (.d (.sl 1 [szD y])) [h0,h1,h2,h3,h4,s5,s6,s7,s8]) q u:=by
 cases h with
 | a x e5 e7 e8=>
  subst e5 e7 e8;rcases hT with rfl|rfl
  .exact B8 (s:=7) (s':=5) (e:=1) (es:=0) (by_:=24) (n:=1) (L:=1) (k:=1) (cells:=[szD x]) (cs:=[szD y]) (b0:=.none) aa rfl rfl rfl rfl rfl (by intro t ht;cases ht) aa (hq _ _ _ (.b [x,y] af rfl rfl rfl rfl))
  .exact B8 (s:=8) (s':=5) (e:=1) (es:=0) (by_:=24) (n:=1) (L:=1) (k:=1) (cells:=[szD x]) (cs:=[szD y]) (b0:=.none) aa rfl rfl rfl rfl rfl (by intro t ht;cases ht) aa (hq _ _ _ (.c [x,y] af rfl rfl rfl rfl))
 | b L p0 u5 o5 e7 e8=>
  subst e7 e8;have hl:(L.map szD).length=L.length:=af
  have:=OQ (s:=T) (s':=7) (e:=1) (by_:=24) (n:=1) (L:=L.length) (k:=1) (cells:=L.map szD) (cs:=[szD y]) (h:=[h0,h1,h2,h3,h4,s5,s6,(1,.data 1 (L.map szD) false false),nnQ]) (y:=.d (.sl 1 [szD y])) (q:=q) (u:=u) aa aa rfl af rfl rfl (by intro t ht;cases ht) aa
   (by
    have:=hq (.ref 7 1 0 (L++[y]).length (L++[y]).length (L++[y]).length) (1,.data 1 ((L++[y]).map szD) false false) nnQ (.b (L++[y]) af u5 o5 rfl rfl);simpa using this)
  rw[hl]at this;exact this
 | c L p0 u5 o5 e8 e7=>
  subst e7 e8;have hl:(L.map szD).length=L.length:=af
  have:=OQ (s:=T) (s':=8) (e:=1) (by_:=24) (n:=1) (L:=L.length) (k:=1) (cells:=L.map szD) (cs:=[szD y]) (h:=[h0,h1,h2,h3,h4,s5,s6,nnQ,(1,.data 1 (L.map szD) false false)]) (y:=.d (.sl 1 [szD y])) (q:=q) (u:=u) aa aa rfl af rfl rfl (by intro t ht;cases ht) aa
   (by
    have:=hq (.ref 8 1 0 (L++[y]).length (L++[y]).length (L++[y]).length) nnQ (1,.data 1 ((L++[y]).map szD) false false) (.c (L++[y]) af u5 o5 rfl rfl);simpa using this)
  rw[hl]at this;exact this
theorem Tq{s8:Nat×Bk}(h:Loc s5 s7 s8 v L):bf v=some (I L.length)∧∀j,j<L.length->∃p,ixV [h0,h1,h2,h3,h4,s5,s6,s7,s8] 1 v (I j)=some p∧ld1 [h0,h1,h2,h3,h4,s5,s6,s7,s8] p=some (szV (nth [] L j)):=by
 cases h with
 | a x e5 e7 e8=>
  subst e5 e7 e8;refine⟨rfl,fun j hj=>⟨.ptr 5 1 0 1,?_,?_⟩⟩
  .have:j=0:=by simp at hj;exact hj
   subst this;rfl
  .have:j=0:=by simp at hj;exact hj
   subst this;rfl
 | b L p0 u5 o5 e7 e8=>
  subst e7 e8;refine⟨rfl,fun j hj=>⟨.ptr 7 1 j L.length,?_,?_⟩⟩
  .show(if L.length=(L.map szD).length∧(0:Int)<=(j:Int)∧(j:Int)<(L.length:Int)then some (V.ptr 7 1 (0+(j:Int).toNat*1) L.length)else none)=_
   rw[if_pos ⟨af,aa,aa⟩];simp
  .show(if L.length=(L.map szD).length then _ else _)=_
   rw[if_pos af];simp[nth,hj];rfl
 | c L p0 u5 o5 e8 e7=>
  subst e7 e8;refine⟨rfl,fun j hj=>⟨.ptr 8 1 j L.length,?_,?_⟩⟩
  .show(if L.length=(L.map szD).length∧(0:Int)<=(j:Int)∧(j:Int)<(L.length:Int)then some (V.ptr 8 1 (0+(j:Int).toNat*1) L.length)else none)=_
   rw[if_pos ⟨af,aa,aa⟩];simp
  .show(if L.length=(L.map szD).length then _ else _)=_
   rw[if_pos af];simp[nth,hj];rfl
def rgD(r:Rg):LdQ:=[szD r.lo,szD r.hi,.bool r.hl,.bool r.hh,.bool r.em]
def xB(r:Rg):List (List Q):=(if r.hl=true then[r.lo]else[])++(if r.hh=true then[r.hi]else[])
theorem WX{s8:Nat×Bk}(h:Loc s5 s7 s8 v L)(o0:offB [6] h0.2=true)(o1:offB [6] h1.2=true)(o2:offB [6] h2.2=true)(o3:offB [6] h3.2=true)(o4:offB [6] h4.2=true)(i:Int):
  clean [6] [v,I i] [h0,h1,h2,h3,h4,s5,s6,s7,s8]=true:=by
 have key:oA [6] v=true∧offB [6] s5.2=true∧offB [6] s7.2=true∧offB [6] s8.2=true:=by
  cases h with
  |a x e5 e7 e8=>subst e5 e7 e8;exact⟨rfl,rfl,rfl,rfl⟩
  |b L p0 u5 o5 e7 e8=>subst e7 e8;exact⟨rfl,o5,rfl,rfl⟩
  |c L p0 u5 o5 e8 e7=>subst e7 e8;exact⟨rfl,o5,rfl,rfl⟩
 obtain⟨k1,k2,k3,k4⟩:=key;simp only[clean,gW,k1,vW,o0,o1,o2,o3,o4,k2,k3,k4,Bool.or_true,Yk];rfl
theorem UM{a b:Rg}{h0 h1 h2 h3 h4:Nat×Bk}(o0:offB [6] h0.2=true)(o1:offB [6] h1.2=true)(o2:offB [6] h2.2=true)(o3:offB [6] h3.2=true)(o4:offB [6] h4.2=true)(g0 g1 g2 g3 g4 g5 g7 g8:Nat×Bk)(c6:Bk)(K:KL){r:Rg}{i:Nat}(hi:(i=0∧r=a)∨(i=1∧r=b)){s5 s7 s8:Nat×Bk}{v:V}{L:List (List Q)}(hL:Loc s5 s7 s8 v L)(hn:L.length<90)
  (hK:∀s7' s8' v',Loc s5 s7' s8' v' (L++xB r)->lp (bQ (CX Y) (.d (.sl 2 (rgD a++rgD b))) (I 2)) [6] [g0,g1,g2,g3,g4,g5,(0,c6),g7,g8] [v',I ((i:Int)+1)] [h0,h1,h2,h3,h4,s5,nnQ,s7',s8'] K) :
  lp (bQ (CX Y) (.d (.sl 2 (rgD a++rgD b))) (I 2)) [6] [g0,g1,g2,g3,g4,g5,(0,c6),g7,g8] [v,I i] [h0,h1,h2,h3,h4,s5,nnQ,s7,s8] K:=by
 refine ak ?_;have hlt:((i:Int)<2):=aa;have okz:∀s:List Q,okV (szV s)=true:=fun _=>rfl
 have e1:∀h:Hp,ixV h 5 (.d (.sl 2 (rgD a++rgD b))) (I i)=some (.dptr (rgD a++rgD b) (i*5)):=fun h=>by
  rcases hi with⟨rfl,_⟩|⟨rfl,_⟩<;>rfl
 have e2:∀h:Hp,ldA h 5 (.dptr (rgD a++rgD b) (i*5))=some (.agg [szV r.lo,szV r.hi,B r.hl,B r.hh,B r.em]):=fun h=>by
  rcases hi with⟨rfl,rfl⟩|⟨rfl,rfl⟩<;>rfl
 obtain⟨lo',hi',hl,hh,em⟩:=r;simp only at e2
 have fin:∀s7' s8' v',Loc s5 s7' s8' v' (L++xB ⟨lo',hi',hl,hh,em⟩)->∀x6:Bk,clean [6] [v',I ((i:Int)+1)] [h0,h1,h2,h3,h4,s5,(1,x6),s7',s8']=true ∧
   lp (bQ (CX Y) (.d (.sl 2 (rgD a++rgD b))) (I 2)) [6] [g0,g1,g2,g3,g4,g5,(0,c6),g7,g8] [v',I ((i:Int)+1)] (aL [6] 0 [g0,g1,g2,g3,g4,g5,(0,c6),g7,g8] [h0,h1,h2,h3,h4,s5,(1,x6),s7',s8']) K:=fun s7' s8' v' hl' x6=>by
  refine⟨WX hl' o0 o1 o2 o3 o4 _,?_⟩
  have rs:aL [6] 0 [g0,g1,g2,g3,g4,g5,(0,c6),g7,g8] [h0,h1,h2,h3,h4,s5,(1,x6),s7',s8']=[h0,h1,h2,h3,h4,s5,nnQ,s7',s8']:=by
   simp only[pi,Pw];rfl
  rw[rs];exact hK s7' s8' v' hl'
 have l1:∀(s:List Q)(h:Hp),dW 1 [nPQ] [(0,szV s)] h=some ([szD s],h):=fun s h=>TI ..
 simp only[bQ];simp(disch:=try exact ac)[hlt];refine aj ?_;simp(disch:=try exact ac)[e1,e2,okz];refine aj ?_;cases hl with
 | false=>
  simp(disch:=try exact ac);cases hh with
  | false=>
   refine aj ?_;simp(disch:=try exact ac);exact fin _ _ _ (by simpa[xB]using hL) _
  | true=>
   refine aj ?_;simp(disch:=try exact ac)[l1];refine HB (.inr rfl) hL aa fun v2 t7 t8 hl2=>?_
   simp(disch:=try exact ac);exact fin _ _ _ (by simpa[xB]using hl2) _
 | true=>
  simp(disch:=try exact ac)[l1];refine HB (.inl rfl) hL aa fun v1 u7 u8 hl1=>?_
  simp(disch:=try exact ac);cases hh with
  | false=>
   refine aj ?_;simp(disch:=try exact ac);exact fin _ _ _ (by simpa[xB]using hl1) _
  | true=>
   refine aj ?_;simp(disch:=try exact ac)[l1];refine HB (.inr rfl) hl1 aM fun v2 t7 t8 hl2=>?_
   simp(disch:=try exact ac);exact fin _ _ _ (by simpa[xB]using hl2) _
def rgB(r:Rg):LwQ:=[szV r.lo,szV r.hi,B r.hl,B r.hh,B r.em]
theorem UL{p:LiQ}(hp:pcB p=0)(h6:in6 p){a b c:Rg}(ha:RgOk p a)(hb:RgOk p b)(hc:RgOk p c)(ka:ckR p a=0)(kb:ckR p b=0)(kc:ckR p c=0)(hct:∀x,ctR p c x=(ctR p a x&&ctR p b x)){h0 h1 s5 s6 s7 s8:Nat×Bk}{v:V}{L:List (List Q)}(hL:Loc s5 s7 s8 v L)(hn:L.length<1000)(hCl:∀x∈L,Cl p x)(hh:Hp)(K:KL)
  (hK:K (.exit 2) [] [h0,h1,(1,.vars (rgB a)),(1,.vars (rgB b)),(1,.vars (rgB c)),s5,s6,s7,s8]):∀(f i:Nat),i+f=L.length ->
  lp (cL (CX Y) (lst di p) (.ptr 2 1 0 5) (.ptr 3 1 0 5) (.ptr 4 1 0 5) v) [] hh [I i] [h0,h1,(1,.vars (rgB a)),(1,.vars (rgB b)),(1,.vars (rgB c)),s5,s6,s7,s8] K
 | 0,i,hi=>by
  refine ak ?_;have l1:=(Tq (h0:=h0) (h1:=h1) (h2:=h1) (h3:=h1) (h4:=h1) (s6:=s6) hL).1;have hlt:¬((i:Int)<(L.length:Int)):=aa;simp only[cL];simp(disch:=try exact ac)[l1,hlt];exact hK
 | f+1,i,hi=>by
  refine ak ?_;obtain⟨l1,rd⟩:=Tq (h0:=h0) (h1:=h1) (h2:=(1,.vars (rgB a))) (h3:=(1,.vars (rgB b))) (h4:=(1,.vars (rgB c))) (s6:=s6) hL;have hlt:((i:Int)<(L.length:Int)):=aa;obtain⟨q,q1,q2⟩:=rd i aa;have hx:=hCl (nth [] L i) (eM aa);generalize nth [] L i=x at *;have c1:=vB hp h6 ha ka hx;have c2:=vB hp h6 hb kb hx
  have c3:=vB hp h6 hc kc hx;have c4:=abx hp h6 ha hx;rw[hct]at c3;have ih:=UL hp h6 ha hb hc ka kb kc hct hL hn hCl hh K hK f (i+1) aa;have e4:((i+1:Nat):Int)=(i:Int)+1:=aa;rw[e4]at ih;simp only[rgB]at q1 q2 ih ⊢;simp only[rgV]at c1 c2 c3 c4;generalize ctR p a x=ta at *;generalize ctR p b x=tb at *;simp only[cL]
  simp(disch:=try exact ac)[l1,hlt,q1,q2];refine cd c1 ?_ (by rfl);simp(disch:=try exact ac)[q1,q2];refine cd c2 ?_ (by rfl);simp(disch:=try exact ac)[q1,q2];refine cd c3 ?_ (by rfl);simp(disch:=try exact ac)[q1,q2];refine cd c4 ?_ (by rfl);cases ta with
  | true=>
   cases tb with
   | true=>
    simp(disch:=try exact ac);rw[fK];exact lo ih
   | false=>
    simp(disch:=try exact ac);rw[fK];exact lo ih
  | false=>
   simp(disch:=try exact ac);rw[fK];exact lo ih
theorem V7:∀l∈rD,pcB l=0∧l.Nodup∧0<l.length∧l.length<=4∧∀x∈l,x∈c6P:=aD
def scl(l:LwQ):Prop:=∀v∈l,∃d,v=.d d∧norm d=d
theorem FI:∀(l:LwQ),scl l->∀h:Hp,aw h l=some (l,h)
 |[],_,h=>rfl
 | v::l,hl,h=>by
  obtain⟨d,rfl,e⟩:=hl v af;have ih:=FI l (fun w hw=>hl w (by simp[hw])) h;simp only[aw,aJ,e,ih]
theorem Rm{l:LwQ}(hl:scl l)(h:Hp):aJ h (.agg l)=some (.agg l,h):=by simp only[aJ,FI l hl h]
theorem LR{x:List (Int×Nat)}(hx:x.length=4):scl (se x):=by obtain⟨a,b,c,e,h4⟩:=four hx;subst h4;intro v hv;simp only[se,Zt,Yn,Y0,or_false,Xb,List.flatMap_nil,List.nil_append,List.cons_append,List.mem_flatMap]at hv;rcases hv with rfl|rfl|rfl|rfl|rfl|rfl|rfl|rfl<;>exact⟨_,rfl,rfl⟩
theorem Uv(hd:HT d):scl (drC d):=by
 intro v hv;simp only[drC,Yn,Zt,Y0,or_false,or_assoc]at hv;rcases hv with h|h|rfl|rfl|rfl
 .exact LR hd.1.1 v h
 .exact LR hd.2.1 v h
 all_goals exact⟨_,rfl,rfl⟩
theorem zG{p:LiQ}{l:LwQ}(hl:scl l)(h:Hp):aw h [lst di p,.agg l]=some ([lst di p,.agg l],h):=by have e3:aJ h (lst di p)=some (lst di p,h):=rfl;simp only[aw,Rm hl h,e3]
theorem Hf(c:LnQ):∀(l:LwQ),scl l->offB c (.vars l)=true
 |[],_=>rfl
 | v::l,hl=>by
  obtain⟨d,rfl,e⟩:=hl v af;exact Hf c l (fun w hw=>hl w (by simp[hw]))
theorem Mg{d0 d1:Dr}{x:List (Int×Nat)}(hn:n<256)(h0:HT d0)(h1:HT d1)(hx:pOk x):CP Y F.dI [.d (.int .u8 n),.agg (drC d0++drC d1),.agg (se x)] (B true):=by
 refine pF ?_;obtain⟨q1,q2,q3,q4,q5⟩:=V7 _ (PM n);obtain⟨p,hp⟩:=nmQ (FW n);have pr:=Jz hn;rw[<-hp]at q1 q2 q3 q4 q5 pr;have h6:in6 p:=⟨q2,aa,q5⟩;have m0:=F7 q1 h6 q3 q4 h0;have m1:=F7 q1 h6 q3 q4 h1;obtain⟨ra,ka⟩:=Tk q4 h0;obtain⟨rb,kb⟩:=Tk q4 h1;have mx:=zF (p:=p) hx.1 hx.2 q4 q3
 have cx:=UR q4 hx;have cm:=Lo q1 h6 q3 ra rb ka kb;have rc:=abU ra rb;have kc:ckR p (cmR p (mkR p d0) (mkR p d1))=0:=aek;have ck:=rW q1 h6 rc;rw[kc]at ck;have ct:=fun y=>aej ra rb y
 obtain⟨A,hA⟩:=nmQ (mkR p d0);obtain⟨B',hB⟩:=nmQ (mkR p d1);rw[<-hA]at m0 ra ka cm rc kc ck ct;rw[<-hB]at m1 rb kb cm rc kc ck ct;obtain⟨C,hC⟩:=nmQ (cmR p A B');rw[<-hC]at cm rc kc ck ct;obtain⟨X,hX⟩:=nmQ (oR p.length x);rw[<-hX]at mx cx;obtain⟨C0,hC0⟩:=nmQ (drC d0);obtain⟨C1,hC1⟩:=nmQ (drC d1)
 obtain⟨PX,hPX⟩:=nmQ (se x)
 have drl:∀d:Dr,HT d->(drC d).length=19:=fun d hd=>by
  obtain⟨a,b,c,e,h4⟩:=four hd.1.1;obtain⟨a',b',c',e',h4'⟩:=four hd.2.1;simp[drC,h4,h4',se]
 have l0:C0.length=19:=by rw[hC0];exact drl d0 h0
 have l1:C1.length=19:=by rw[hC1];exact drl d1 h1
 have lp8:PX.length=8:=by
  obtain⟨a,b,c,e,h4⟩:=four hx.1;rw[hPX,h4];rfl
 rw[<-hC0]at m0;rw[<-hC1]at m1;rw[<-hPX]at mx;rw[<-hC0,<-hC1,<-hPX];have s0:scl C0:=by rw[hC0];exact Uv h0
 have s1:scl C1:=by rw[hC1];exact Uv h1
 have sx:scl PX:=by rw[hPX];exact LR hx.1
 have okz:∀s:List Q,okV (szV s)=true:=fun _=>rfl
 simp only[rgV]at m0 m1 cm ck;have lt:(C0++C1).length=38:=by simp[l0,l1]
 have x0:∀k:Nat,ixP 2 19 (.ptr 0 1 0 k) (.d (.int .i64 0))=some (.ptr 0 1 0 k):=fun _=>rfl
 have x1:∀k:Nat,ixP 2 19 (.ptr 0 1 0 k) (.d (.int .i64 1))=some (.ptr 0 1 19 k):=fun _=>rfl
 have y0:AZ (.vars (C0++C1)) 19 0 38=some (.agg C0):=by
  simp only[AZ,lt,if_true,cut];rw[if_pos aa,Yx,List.take_append_of_le_length aa,Z1 aa];rfl
 have y1:AZ (.vars (C0++C1)) 19 19 38=some (.agg C1):=by
  simp only[AZ,lt,if_true,cut];rw[if_pos aa,List.drop_append_of_le_length aa,List.drop_of_length_le aa,List.nil_append,Z1 aa];rfl
 have y2:AZ (.vars PX) 8 0 8=some (.agg PX):=by
  simp only[AZ,lp8,if_true,cut];rw[if_pos aa,Yx,Z1 aa];rfl
 simp only[dI];simp(disch:=try exact ac);refine cd Mh ?_ (by rfl);rw[lt,lp8];simp(disch:=try exact ac);refine cd pr ?_ (by rfl);simp(disch:=try exact ac)[x0,x1,y0];refine cd m0 ?_ (zG s0 _);simp(disch:=try exact ac)[x0,x1,y1];refine cd m1 ?_ (zG s1 _)
 simp(disch:=try exact ac)[okz];refine cd cm ?_ (by rfl);simp(disch:=try exact ac)[okz];refine cd ck ?_ (by rfl);simp(disch:=try exact ac)[y2];refine cd mx ?_ (zG sx _);have i1:∀(s:List Q)(h:Hp),dW 1 [nPQ] [(0,szV s)] h=some ([szD s],h):=fun s h=>TI ..
 have i2:∀h:Hp,dW 2 [nPQ,nPQ,.bool false,.bool false,.bool false] [(0,.agg [szV A.lo,szV A.hi,B A.hl,B A.hh,B A.em]),(1,.agg [szV B'.lo,szV B'.hi,B B'.hl,B B'.hh,B B'.em])] h=some (rgD A++rgD B',h):=fun h=>rfl
 have i3:bf (.d (.sl 2 (rgD A++rgD B')))=some (I 2):=rfl;simp(disch:=try exact ac)[i1,i2,i3,okz]
 have hK:∀s7 s8 v,Loc (1,.data 1 [szD X] true false) s7 s8 v ([X]++xB A++xB B')->lp (cL (CX Y) (lst di p) (.ptr 2 1 0 5) (.ptr 3 1 0 5) (.ptr 4 1 0 5) v) [] [(1,.vars (C0++C1)),(1,.vars PX),(1,.vars (rgB A)),(1,.vars (rgB B')),(1,.vars (rgB C)),(1,.data 1 [szD X] true false),nnQ,s7,s8] [I 0] [(1,.vars (C0++C1)),(1,.vars PX),(1,.vars (rgB A)),(1,.vars (rgB B')),(1,.vars (rgB C)),(1,.data 1 [szD X] true false),nnQ,s7,s8]
   (exK [(.exit 2,fun l37 h=>out (B true) (.d (.bool true)) h),(.ret,fun l37 h=>out (B true) (ge l37 0) h)]):=fun s7 s8 v hl=>by
  have ad:∀r:Rg,RgOk p r->(xB r).length<=2∧∀x∈xB r,Cl p x:=fun r hr=>by
   unfold xB;refine⟨by split<;>split<;>simp,fun x hx=>?_⟩;rcases Yn.1 hx with h|h
   .split at h
    next g=>simp at h;subst h;exact hr.l1 g
    next g=>simp at h
   .split at h
    next g=>simp at h;subst h;exact hr.h1 g
    next g=>simp at h
  obtain⟨a1,a2⟩:=ad A ra;obtain⟨b1,b2⟩:=ad B' rb;refine UL q1 h6 ra rb rc ka kb kc ct hl aM (fun x hx=>?_) _ _ ?_ ([X]++xB A++xB B').length 0 aa
  .rcases Yn.1 hx with h|h
   .rcases Yn.1 h with h|h
    .simp at h;subst h;exact cx
    .exact a2 x h
   .exact b2 x h
  .exact⟨_,rfl⟩
 have nl:∀r:Rg,(xB r).length<=2:=fun r=>by
  unfold xB;split<;>split<;>simp
 have n1:=nl A;have w0:offB [6] (.vars (C0++C1))=true:=Hf _ _ fun v hv=>(Yn.1 hv).elim (s0 v) (s1 v)
 have w1:offB [6] (.vars PX)=true:=Hf _ _ sx;refine UM (a:=A) (b:=B') w0 w1 rfl rfl rfl _ _ _ _ _ _ _ _ _ _ (.inl ⟨rfl,rfl⟩) (.a X rfl rfl rfl) af fun s7 s8 v hl=>?_
 refine UM (a:=A) (b:=B') (i:=1) w0 w1 rfl rfl rfl _ _ _ _ _ _ _ _ _ _ (.inr ⟨rfl,rfl⟩) hl aM fun s7' s8' v' hl'=>?_
 refine ak ?_;simp only[bQ];simp(disch:=try exact ac);exact hK _ _ _ hl'
def adR(j:Nat):IntKind:=if 6<=j∧j<51 then .i8 else if 73<=j∧j<119 then .i8 else .u8
structure ag2(f:Nat->Int):Prop where
 u:∀j<120,adR j=.u8->0<=f j∧f j<=255
 s:∀j<120,adR j=.i8->-128<=f j∧f j<=127
open Go.Proofs Go.Proofs.YtaofhmhlooekoaaGreatDoor Go.ChangeShapes Go.WideShapes Go.ChangeAt Go.RowKit
theorem ago:Tryz.prog.globalNamed "internal/strconv.uint64pow10" = some nA:=by kernel_rfl
theorem Ud:(Tryz.prog.globals[nA]?).map (·.type)=some 225:=ag
theorem aaL:Tryz.prog.underlying 225=some (.array 20 165):=ag
theorem aaK:Tryz.prog.underlying 165=some (.int .u64):=ag
theorem UU:Tryz.prog.cellsOf 165=1:=ag
theorem UV:Tryz.prog.cellsOf 225=20:=ag
mutual
/-- Has a type a shape? -/
def EC(P:Program):Sh->TypeId->Bool
 | .int k,t=>(match P.underlying t with
  |some (.int k')=>decide (k'=k)
  |_=>false)&&Nat.beq (P.cellsOf t) 1
 | .bool,t=>(match P.underlying t with
  |some .bool=>true
  |_=>false)&&Nat.beq (P.cellsOf t) 1
 | .str,t=>(match P.underlying t with
  |some .string=>true
  |_=>false)&&Nat.beq (P.cellsOf t) 1
 | .sl e,t=>(match P.underlying t with
  |some (.slice u)=>Nat.beq (P.cellsOf t) 1&&Nat.blt 0 (P.cellsOf u)&&EC P e u
  |_=>false)
 | .ar n e,t=>(match P.underlying t with
  |some (.array m u)=>Nat.beq m n&&Nat.beq (P.cellsOf t) (n*P.cellsOf u)&&EC P e u
  |_=>false)
 | .st fs,t=>(match P.underlying t with
  |some (.struct l)=>Fv P fs l.toList 0 (P.cellsOf t)
  |_=>false)
def Fv(P:Program):List Sh->List Field->Nat->Nat->Bool
 |[],l,o,n=>l.isEmpty&&Nat.beq o n
 | s::ss,l,o,n=>(match l with
  |[]=>false
  |f::r=>Nat.beq f.offset o&&EC P s f.type&&Fv P ss r (o+P.cellsOf f.type) n)
end
mutual
theorem yX{P:Program}:∀{s:Sh}{t:TypeId},EC P s t=true->Typ P s t
 | .int k,t,h=>by
  simp only[EC,Z8]at h;obtain⟨h1,h2⟩:=h;split at h1
  .rename_i h3;obtain rfl:=of_decide_eq_true h1;exact⟨h3,Zm h2⟩
  .cases h1
 | .bool,t,h=>by
  simp only[EC,Z8]at h;obtain⟨h1,h2⟩:=h;split at h1
  .rename_i h3;exact⟨h3,Zm h2⟩
  .cases h1
 | .str,t,h=>by
  simp only[EC,Z8]at h;obtain⟨h1,h2⟩:=h;split at h1
  .rename_i h3;exact⟨h3,Zm h2⟩
  .cases h1
 | .sl e,t,h=>by
  simp only[EC]at h;split at h
  .rename_i u h3;simp only[Z8]at h;obtain⟨⟨h1,h2⟩,h4⟩:=h;exact⟨u,h3,Zm h1,by have:=h2;simp[Nat.blt]at this;omega,yX h4⟩
  .cases h
 | .ar n e,t,h=>by
  simp only[EC]at h;split at h
  .rename_i m u h3;simp only[Z8]at h;obtain⟨⟨h1,h2⟩,h4⟩:=h;obtain rfl:=Zm h1;exact⟨u,h3,Zm h2,yX h4⟩
  .cases h
 | .st fs,t,h=>by
  simp only[EC]at h;split at h
  .rename_i l h3;exact⟨l.toList,by rw[h3],MZ h⟩
  .cases h
theorem MZ{P:Program}:∀{ss:List Sh}{l:List Field}{o n:Nat},Fv P ss l o n=true->QI P ss l o n
 | [],l,o,n,h=>by
  simp only[Fv,Z8,List.isEmpty_iff]at h;exact⟨h.1,Zm h.2⟩
 |s::ss,[],o,n,h=>by simp[Fv]at h
 | s::ss,f::r,o,n,h=>by
  simp only[Fv,Z8]at h;obtain⟨⟨h1,h2⟩,h3⟩:=h;exact⟨f,r,rfl,Zm h1,yX h2,MZ h3⟩
end
theorem T8{P:Program}{W:World}{t:TypeId}{k:IntKind}{v:Value}(ht:P.underlying t=some (.int k))(h:Value.okWide P W .any base t v):∀cs,v≠.agg cs:=by rintro cs rfl;simp only[Value.okWide,ht,Cell.okWide,Cell.ok]at h
theorem wf_u8{n:Int}(h:(Lit.int .u8 n).wf=true):0<=n∧n<=255:=by simp only[Lit.wf,Z8,decide_eq_true_eq]at h;exact h
theorem wf_i8{n:Int}(h:(Lit.int .i8 n).wf=true): -128<=n∧n<=127:=by simp only[Lit.wf,Z8,decide_eq_true_eq]at h;exact h
def agf:DataW Unit->Value
 |.lit (.int k n)=>.int k n
 |_=>undef
def aaR:DataW Unit->Array Value
 |.agg l=>(l.map agf).toArray
 |_=>#[]
def ad5:DataW Unit->Value
 |.iface _ (.ptr (.agg [.lit (.string l)]))=>.string ⟨l.toArray⟩
 |_=>undef
def RE(cs:Array Value):Obj->Obj
 |.cells _ t frozen=>.cells cs t frozen
 |o=>o
noncomputable def zN(os:Os):World:=
 let w0:=World.holding Tryz.prog os ⟨#[.cells #[ad5 Rows.laid_strconv_ErrSyntax] 251,.cells #[ad5 Rows.laid_strconv_ErrRange] 251],#[],[]⟩
 let low:=(World.settled Tryz.prog os).heap.size
 {w0 with heap:=((((w0.heap.modify 1 (RE #[.iface 249 (.pointer (some ⟨low,0,none⟩))])).modify 2 (RE #[.iface 249 (.pointer (some ⟨low+1,0,none⟩))])).modify 0 (RE (aaR Rows.laid_internal_strconv_uint64pow10))).modify 3 (RE (aaR Rows.laid_math_bits_deBruijn32tab))).modify 4 (RE (aaR Rows.laid_math_bits_deBruijn64tab))}
theorem YG{d:D}(h:Dat (.int .u8) [d]):∃k:Nat,k<256∧d=.int .u8 k:=by obtain⟨n,e,hn⟩:=h;obtain rfl:=(List.cons.inj e).1;have hb:=wf_u8 hn;exact⟨n.toNat,aa,by rw[Int.toNat_of_nonneg hb.1]⟩
def Nh:Sh:=.ar 4 (.st [.int .i8,.int .u8])
def Rz:Sh:=.st [Nh,Nh,.bool,.bool,.bool]
def ag7(x:Int×Nat):LdQ:=[.int .i8 x.1,.int .u8 x.2]
theorem wl(h:Dat (.st [.int .i8,.int .u8]) ds):∃x:Int×Nat,ds=ag7 x∧(-128<=x.1∧x.1<=127)∧x.2<256:=by obtain⟨a,b,rfl,⟨n,rfl,hn⟩,a',b',rfl,h2,rfl⟩:=h;obtain⟨m,rfl,hm⟩:=h2;have b1:=wf_i8 hn;have b2:=wf_u8 hm;exact⟨(n,m.toNat),by simp[ag7,Int.toNat_of_nonneg b2.1],b1,by simp only;omega⟩
theorem HY(h:Dat Nh ds):∃e:List (Int×Nat),pOk e∧ds.map V.d=se e:=by
 obtain⟨xs,rfl,hl,hx⟩:=h
 match xs,hl,hx with
 | [x1,x2,x3,x4],_,hx=>
  obtain⟨a,rfl,ha⟩:=wl (hx x1 af);obtain⟨b,rfl,hb⟩:=wl (hx x2 af);obtain⟨c,rfl,hc⟩:=wl (hx x3 af);obtain⟨d,rfl,hd⟩:=wl (hx x4 af);refine⟨[a,b,c,d],⟨rfl,fun x hm=>?_⟩,rfl⟩;simp only[Zt,Y0,or_false]at hm;rcases hm with rfl|rfl|rfl|rfl<;>assumption
theorem UG(h:Dat Rz ds):∃d:Dr,HT d∧ds.map V.d=drC d:=by obtain⟨a,b,rfl,h1,a',b',rfl,h2,_,_,rfl,⟨x,rfl⟩,_,_,rfl,⟨y,rfl⟩,_,_,rfl,⟨z,rfl⟩,rfl⟩:=h;obtain⟨e,h3,h4⟩:=HY h1;obtain⟨f,h5,h6⟩:=HY h2;refine⟨⟨e,f,x,y,z⟩,⟨h3,h5⟩,?_⟩;simp only[List.map_append,h4,h6,drC,List.append_assoc];rfl
theorem YH(h:Dat (.ar 2 Rz) ds):∃d0 d1:Dr,HT d0∧HT d1∧ds.map V.d=drC d0++drC d1:=by
 obtain⟨xs,rfl,hl,hx⟩:=h
 match xs,hl,hx with
 | [x1,x2],_,hx=>
  obtain⟨a,ha,e1⟩:=UG (hx x1 af);obtain⟨b,hb,e2⟩:=UG (hx x2 af);refine⟨a,b,ha,hb,?_⟩;simp only[List.flatten_cons,List.flatten_nil,Zj,List.map_append,e1,e2]
end Go.Vm
