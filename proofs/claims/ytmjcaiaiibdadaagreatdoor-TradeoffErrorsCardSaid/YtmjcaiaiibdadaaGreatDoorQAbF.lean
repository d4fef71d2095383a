/- Lemmas. -/
import Derived.Test.YtmjcaiaiibdadaaGreatDoorQLcA
import Derived.ProofKit
import Derived.OpenShut
import Derived.Deep.DeepHandedRow
import Derived.Deep.Matrix
import Derived.Lib.LaidTab
import Derived.Test.YtmjcaiaiibdadaaGreatDoorTie
import Derived.Test.YtmjcaiaiibdadaaGreatDoorCards
set_option linter.unusedVariables false
set_option linter.unusedSimpArgs false
namespace Go.Vm
open Go Go.Am Go.Big
variable{a:Ad}{h:Hp}
variable{l:List (List Q)}{r hi:List Q}{x:LiQ}{div z d N M E:Int}{W W':World}{vals:Bool}{n fuel:Nat}{q:Q}{m:Mz}{ds:LdQ}{α:Type}{t:TypeId}
section
variable{p:LiQ}{b:Nat}
variable{B:Nat}{owns:List LLQ}{steps:List (List LLQ)}
end
variable{a:Ad}
theorem O1{h:Hp}(hu:(h.all λx=>ax h.length x.2)=true){l:List Q}(hl:0<l.length)(hb:l.length<1000000000):CI Y F.aA [szV l] h (.new 2 ((l.map tx).flatMap aB) false l.length l.length) h:=by
 refine oH ?_;have fl:((l.map tx).flatMap aB).length=l.length*2:=by rw[fp aB aH,List.length_map]
 have e:szV l=.d (.sl l.length ((l.map tx).flatMap aB)):=by unfold szV iQ;rw[List.length_map]
 rw[e];generalize(l.map tx).flatMap aB=cells at *
 have nl:∀(H:Hp)(k:V->Prop)(u:PU k),rn (vg H .eql (.d (.sl l.length cells)) (.d nPQ)) k u=k (.d (.bool false)):=λH k u=>by
  obtain⟨m,hm⟩:∃m,l.length=m+1:=⟨l.length-1,aa⟩;rw[hm];rfl
 simp[aA,nl]
 have hli:eC 0 [D.str [],D.str []] [] (h++[(0,Bk.none),(0,Bk.none)])=some ([],h++[(0,Bk.none),(0,Bk.none)]):=by
  simp[eC,iH,kJ]
 rw[hli];simp;refine TB (z:=[]) af hl aa aa ?_;refine⟨ac,?_,.inr (.inr (.inl ⟨h.length+1,1,l.length,l.length,2,cells,false,ac,aa,by simp[aw],rfl⟩))⟩;simp only[Zb,hu,Yz]
 try simp[ax]
section
variable{p:LiQ}{b B:Nat}{owns:List LLQ}{steps:List (List LLQ)}
end
theorem aah(x:Q):biA [.str [],.str []] .neq (.agg (qT x)) (.agg (qT x))=some (B false):=by simp[biA,qT,Cf,eqC]
theorem HZ{r:List Q}(hN:r.length<1000000)(K:KL)(hK:K (.exit 0) [] []):∀(q l:List Q),l++q=r ->
  lp (jY (CX Y) (szV r) (szV r)) [] [] [I l.length] [] K
 | [],l,hl=>by
  have e:l=r:=by simpa using hl
  subst e;have lr:aO (szV l)=some (I l.length):=by simp[szV]
  refine aj ?_;simp[jY,lr];exact hK
 | x::q,l,hl=>by
  have hll:r.length=l.length+(q.length+1):=by rw[<-hl];simp
  have ih:=HZ hN K hK q (l++[x]) (by grind);obtain⟨w,w1,w2⟩:=afF r [] (i:=l.length) aa;have hn:nth (0,1) r l.length=x:=by rw[<-hl,abq]
  rw[hn]at w2;have g:(l.length:Int)<r.length:=aa;have e2:((l++[x]).length:Int)=(l.length:Int)+1:=ac;rw[e2]at ih;have lr:aO (szV r)=some (I r.length):=by simp[szV]
  have bs:=aah x;refine aj ?_;simp(disch:=try exact ae)[jY,lr,g,w1,w2,bs];exact ih
theorem pB(hN:r.length<1000000):CP Y F.bI [szV r,szV r] (B true):=by
 refine yd ?_;have lr:aO (szV r)=some (I r.length):=by simp[szV]
 have:=HZ hN (exK [(Exit.exit 0,λl4 h=>out (B true) (B true) h),(Exit.ret,λl4 h=>out (B true) (ge l4 0) h)]) (gA rfl) r [] rfl;simp[bI,lr];exact this
variable{g:FuncId}{cs:LwQ}{cf:List Q->List Q->Int}
def mnS(cf:List Q->List Q->Int)(m:List Q)(l:List (List Q)):List Q:=l.foldl (λm y=>if cf y m<0 then y else m) m
theorem JJ(hs:∀a b,aK [] ([szV a,szV b]++cs)=some ([szV a,szV b]++cs,[])){L:List (List Q)}(hn:L.length<1000)(hc:∀a∈L,∀b∈L,CP Y g ([szV a,szV b]++cs) (I (cf a b)))(K:KL) :
  ∀(q a:List (List Q))(m:List Q),L=a++q->m∈L->K (.exit 0) [szV (mnS cf m q)] [] ->
  lp (cU (CX Y) (lst szD L) (.fn g [] cs)) [] [] [szV m,I a.length] [] K
 | [],a,m,e,hm,hK=>by
  simp only[Zq]at e;subst e;refine aj ?_;have l1:aO (lst szD L)=some (I L.length):=rfl;have hlt:¬((L.length:Int)<(L.length:Int)):=aa;simp only[cU];simp[l1,hlt];exact hK
 | y::q,a,m,e,hm,hK=>by
  refine aj ?_;have l1:aO (lst szD L)=some (I L.length):=rfl;have hal:a.length<L.length:=by rw[e];simp
  have hlt:((a.length:Int)<(L.length:Int)):=aa;have hy:y∈L:=by rw[e];simp
  have i1:ixV [] 1 (lst szD L) (I a.length)=some (.dptr (L.map szD) a.length):=by rw[e];exact vr szD a y q _ _
  have i2:ld1 [] (.dptr (L.map szD) a.length)=some (szV y):=by
   rw[k8 szD L _ hal];simp only[e,Zm (Z8 _),Zc,Zh];rfl
  have e4:((a++[y]).length:Int)=(a.length:Int)+1:=ac;simp only[cU];simp[l1,hlt];refine aM ?_;simp[i1,i2];refine cdf (fs:=[]) (hc y hy m hm) (hs y m) ?_;by_cases h:cf y m<0
  .have ih:=JJ hs hn hc K q (a++[y]) y (by simp[e]) hy (by grind[mnS]);rw[e4]at ih;simp[h];refine aM ?_;simp(disch:=try exact ae)[i1,i2];trivial
  .have ih:=JJ hs hn hc K q (a++[y]) m (by simp[e]) hm (by grind[mnS]);rw[e4]at ih;simp[h];refine aM ?_;simp(disch:=try exact ae);trivial
theorem abu(hs:∀a b,aK [] ([szV a,szV b]++cs)=some ([szV a,szV b]++cs,[])){x:List Q}(hn:(x::l).length<1000)(hc:∀a∈x::l,∀b∈x::l,CP Y g ([szV a,szV b]++cs) (I (cf a b))):
  CP Y F.bE [lst szD (x::l),.fn g [] cs] (szV (mnS cf x l)):=by
 refine o8 ?_;have l1:aO (lst szD (x::l))=some (I (x::l).length):=rfl;have g1:¬(((x::l).length:Int)<1):=by simp;omega
 have i1:ixV [] 1 (lst szD (x::l)) (.d (.int .i64 0))=some (.dptr ((x::l).map szD) 0):=fN szD _ [] rfl ac;have i2:ld1 [] (.dptr ((x::l).map szD) 0)=some (szV x):=rfl;obtain⟨L,hL⟩:∃L,L=x::l:=⟨_,rfl⟩;rw[<-hL]at l1 g1 i1 i2 hn hc ⊢;simp only[bE];simp[l1];refine aM ?_;simp[g1,i1,i2]
 refine lo (JJ hs hn hc _ l [x] x (by trivial) (by grind) ?_);simp;exact⟨_,rfl⟩
def mxS(cf:List Q->List Q->Int)(m:List Q)(l:List (List Q)):List Q:=l.foldl (λm y=>if cf y m>0 then y else m) m
theorem Qz(cf:List Q->List Q->Int):∀(l:List (List Q))(m:List Q),mxS cf m l∈m::l
 |[],m=>by simp[mxS]
 | y::l,m=>by
  have:=Qz cf l (if cf y m>0 then y else m)
  grind[mxS]
theorem JK(hs:∀a b,aK [] ([szV a,szV b]++cs)=some ([szV a,szV b]++cs,[])){L:List (List Q)}(hn:L.length<1000)(hc:∀a∈L,∀b∈L,CP Y g ([szV a,szV b]++cs) (I (cf a b)))(K:KL) :
  ∀(q a:List (List Q))(m:List Q),L=a++q->m∈L->K (.exit 0) [szV (mxS cf m q)] [] ->
  lp (cV (CX Y) (lst szD L) (.fn g [] cs)) [] [] [szV m,I a.length] [] K
 | [],a,m,e,hm,hK=>by
  simp only[Zq]at e;subst e;refine aj ?_;have l1:aO (lst szD L)=some (I L.length):=rfl;have hlt:¬((L.length:Int)<(L.length:Int)):=aa;simp only[cV];simp[l1,hlt];exact hK
 | y::q,a,m,e,hm,hK=>by
  refine aj ?_;have l1:aO (lst szD L)=some (I L.length):=rfl;have hal:a.length<L.length:=by rw[e];simp
  have hlt:((a.length:Int)<(L.length:Int)):=aa;have hy:y∈L:=by rw[e];simp
  have i1:ixV [] 1 (lst szD L) (I a.length)=some (.dptr (L.map szD) a.length):=by rw[e];exact vr szD a y q _ _
  have i2:ld1 [] (.dptr (L.map szD) a.length)=some (szV y):=by
   rw[k8 szD L _ hal];simp only[e,Zm (Z8 _),Zc,Zh];rfl
  have e4:((a++[y]).length:Int)=(a.length:Int)+1:=ac;simp only[cV];simp[l1,hlt];refine aM ?_;simp[i1,i2];refine cdf (fs:=[]) (hc y hy m hm) (hs y m) ?_;by_cases h:cf y m>0
  .have ih:=JK hs hn hc K q (a++[y]) y (by simp[e]) hy (by grind[mxS]);rw[e4]at ih;simp[h];refine aM ?_;simp(disch:=try exact ae)[i1,i2];trivial
  .have ih:=JK hs hn hc K q (a++[y]) m (by simp[e]) hm (by grind[mxS]);rw[e4]at ih;simp[h];refine aM ?_;simp(disch:=try exact ae);trivial
theorem abv(hs:∀a b,aK [] ([szV a,szV b]++cs)=some ([szV a,szV b]++cs,[])){x:List Q}(hn:(x::l).length<1000)(hc:∀a∈x::l,∀b∈x::l,CP Y g ([szV a,szV b]++cs) (I (cf a b))):
  CP Y F.bF [lst szD (x::l),.fn g [] cs] (szV (mxS cf x l)):=by
 refine o9 ?_;have l1:aO (lst szD (x::l))=some (I (x::l).length):=rfl;have g1:¬(((x::l).length:Int)<1):=by simp;omega
 have i1:ixV [] 1 (lst szD (x::l)) (.d (.int .i64 0))=some (.dptr ((x::l).map szD) 0):=fN szD _ [] rfl ac;have i2:ld1 [] (.dptr ((x::l).map szD) 0)=some (szV x):=rfl;obtain⟨L,hL⟩:∃L,L=x::l:=⟨_,rfl⟩;rw[<-hL]at l1 g1 i1 i2 hn hc ⊢;simp only[bF];simp[l1];refine aM ?_;simp[g1,i1,i2]
 refine lo (JK hs hn hc _ l [x] x (by trivial) (by grind) ?_);simp;exact⟨_,rfl⟩
def btG(w:Mz)(div:Int):Mz->List (List Q)
 |[]=>[]
 |x::q=>if nth 0 (cG w x) 1=0 then btG w div q else oO (cG w x) div 0 x::btG w div q
theorem acp(w:Mz)(div:Int)(a:Mz)(x:LiQ):btG w div (a++[x])=if nth 0 (cG w x) 1=0 then btG w div a else btG w div a++[oO (cG w x) div 0 x]:=by
 induction a with
 |nil=>rfl
 | cons y a ih=>
  grind[btG]
theorem Kw(w:Mz)(div:Int):∀a:Mz,(btG w div a).length<=a.length
 |[]=>Z8 _
 | y::a=>by
  have:=Kw w div a
  grind[btG]
theorem VG{p r:LiQ}(hr2:2<=r.length)(h1:nth 0 r 1=0):CP Y F.gS [lst di p,lst di x,lst di r,I div] (.tup [szV [],B false,I 0]):=by
 refine vN ?_;have j1:∀h:Hp,ixV h 1 (lst di r) (.d (.int .i64 1))=some (.dptr (r.map di) 1):=λh=>fN di r h rfl aa
 have j2:∀h:Hp,ld1 h (.dptr (r.map di) 1)=some (I (nth 0 r 1)):=λh=>eV di 0 r h aa
 simp only[gS];simp[j1,j2,h1];exact⟨_,rfl⟩
theorem aeU{p:LiQ}{C W:D}{a b:List Q}(hp:pcB p=0)(hN:p.length<1000)(ha:a.length=p.length)(hb:b.length=p.length)(oa:okS a)(ob:okS b)(hz:UK p (dfS p a b) z):
  CP Y F.bi [szV a,szV b,.dptr [.sl p.length (p.map di),C,W] 0] (I z):=by
 refine vU ?_;have l0:∀h,ld1 h (.dptr [.sl p.length (p.map di),C,W] 0)=some (lst di p):=λh=>rfl
 simp only[bi];simp[l0];refine cd (args:=[lst di p,szV a,szV b]) (NC hp hN ha hb oa ob hz) ?_ (by rfl);simp
variable{p:LiQ}{c w:Mz}
def agL(p:LiQ)(w:Mz)(div:Int)(x:LiQ):Prop:=nth 0 (cG w x) 1≠0->okS (oO (cG w x) div 0 x)
theorem aac(h:rY p c w)(w2:w.length=2){div:Int}(hd:div≠0)(hdb : -1000000000<=div∧div<=1000000000){l:Mz}(hl:l.length<1000)(ho:∀x∈l,Ph p w x)(hpu:∀x∈l,agL p w div x)(b1 b3:Nat×Bk)(h0:Hp)(K:KL) :
  ∀(q a:Mz),l=a++q ->
  K (.exit 0) [(acU 2).v (btG w div l).length ((btG w div l).map szD)] [(1,.vars [lst di p,mat c,mat w]),b1,(acU 2).b (btG w div l).length ((btG w div l).map szD),b3] ->
  lp (kM (CX Y) (.ptr 0 1 0 3) (.ptr 1 1 0 5) (mat (l.map (cG w))) (I div) (mat l) (I l.length)) [] h0 [(acU 2).v (btG w div a).length ((btG w div a).map szD),I a.length] [(1,.vars [lst di p,mat c,mat w]),b1,(acU 2).b (btG w div a).length ((btG w div a).map szD),b3] K
 | [],a,e,hK=>by
  simp only[Zq]at e;subst e;refine aj ?_;have hlt:¬((l.length:Int)<(l.length:Int)):=aa;simp only[kM];simp[hlt];exact hK
 | x::q,a,e,hK=>by
  refine aj ?_;have hlt:((a.length:Int)<(l.length:Int)):=by rw[e];simp;omega
  have hal:a.length<l.length:=aa;have hxm:x∈l:=by rw[e];simp
  have hx:=ho x hxm;have i1:∀h:Hp,ixV h 1 (mat l) (I a.length)=some (.dptr (l.map row) a.length):=λh=>by simp_all
  have i2:∀h:Hp,ld1 h (.dptr (l.map row) a.length)=some (lst di x):=λh=>by
   rw[k8 row l _ hal];simp only[e,Zm (Z8 _),Zc,Zh];rfl
  obtain⟨rows,hrows⟩:=nmQ (l.map (cG w));have hrl:rows.length=l.length:=by rw[hrows];simp
  have hre:rows[a.length]'(by omega)=cG w x:=by
   have:rows=a.map (cG w)++cG w x::q.map (cG w):=by rw[hrows,e];simp
   simp[this]
  have j1:∀h:Hp,ixV h 1 (mat rows) (I a.length)=some (.dptr (rows.map row) a.length):=λh=>fN row rows h rfl aa
  have j2:∀h:Hp,ld1 h (.dptr (rows.map row) a.length)=some (lst di (cG w x)):=λh=>by
   rw[k8 row rows _ aa,hre];rfl
  have tl:(cG w x).length=2:=by simp[cG,w2]
  have e4:((a++[x]).length:Int)=(a.length:Int)+1:=ac;have ih:=aac h w2 hd hdb hl ho hpu b1 b3 h0 K q (a++[x]) (by simp[e]) hK;rw[e4,acp,<-hrows]at ih;rw[<-hrows];have hx0:x≠[]:=λe0=>by have h1:=hx.l;rw[e0,List.length_nil]at h1;have:=h.lw.n0;omega
  have hn:=h.lc.n12;obtain⟨gs,hgs⟩:=nmQ (btG w div a);have hgl:gs.length<=a.length:=by rw[hgs];exact Kw w div a
  rw[<-hgs]at ih ⊢;obtain⟨H,hH⟩:∃H:Hp,H=[(1,.vars [lst di p,mat c,mat w]),b1,(acU 2).b gs.length (gs.map szD),b3]:=⟨_,rfl⟩;have g0:lO H 0 1=.vars [lst di p,mat c,mat w]:=by rw[hH];rfl
  rw[<-hH];simp only[kM];simp[hlt];refine aM ?_;simp[i1,i2,j1,j2,g0];by_cases c0:nth 0 (cG w x) 1=0
  .refine cd (VG (p:=p) (x:=x) (div:=div) aa c0) ?_;rw[if_pos c0,<-hH]at ih;simp;refine aM ?_;simp(disch:=try exact ae)
   grind[dC,lo]
  .refine cd (pure_ok h.pr hx.l aa hx.t c0 hd hdb hx.b (by grind[Ph.l]) hx0 (hpu x hxm c0)) ?_;rw[if_neg c0]at ih;obtain⟨g,hg⟩:=nmQ (oO (cG w x) div 0 x);rw[<-hg]at ih ⊢;have hli:eC 1 [nPQ] [(0,szV g)] H=some ([szD g],H):=Mw ..;simp;refine aM ?_;simp[hli]
   refine nm (acU 2) (by_:=24) (k:=1) (cs:=[szD g]) aa (by rw[hH];rfl) (by simp[acU]) (by rfl) rfl (by grind) aa (by simp[acU]) ?_;have hs:H.set (acU 2).s ((acU 2).b (gs.length+1) (gs.map szD++[szD g]))=[(1,.vars [lst di p,mat c,mat w]),b1,(acU 2).b (gs.length+1) (gs.map szD++[szD g]),b3]:=by rw[hH];rfl
   rw[hs];simp(disch:=try exact ae)
   simp_all[dC]
theorem abf{lo:List Q}{hl hh em:Bool}{v:V}{H H':Hp}(hv:bV H v=some (szV hi,H')):out (.tup [rgV ⟨lo,hi,hl,hh,em⟩,I z]) (.tup [.agg [szV lo,v,B hl,B hh,B em],I z]) H:=by have s1:bV H (szV lo)=some (szV lo,H):=rfl;have s2:bV H' (B hl)=some (B hl,H'):=rfl;have s3:bV H' (B hh)=some (B hh,H'):=rfl;have s4:bV H' (B em)=some (B em,H'):=rfl;have s5:bV H' (I z)=some (I z,H'):=rfl;refine⟨H',?_⟩;simp only[bV.eq_4,bV.eq_3,aK,s1,hv,s2,s3,s4,s5];rfl
theorem O8(h:rY p c w)(hg:gtB w=0){l:Mz}(hl:l.length<=60)(ho:∀x∈l,Ph p w x)(hm:mzB p l=0)(hpu:∀x∈l,agL p w (nth 0 (nth [] w 0) 0) x){g:List Q}{gs:List (List Q)}(hgs:btG w (nth 0 (nth [] w 0) 0) l=g::gs)
  {cf:List Q->List Q->Int} (hok:∀a∈g::gs,a.length=p.length∧okS a) (hc:∀a∈g::gs,∀b∈g::gs,UK p (dfS p a b) (cf a b)) :
  CP Y F.cN [tpV p c w,mat l] (.tup [rgV ⟨mnS cf g gs,mxS cf g gs,true,true,false⟩,I 0]):=by
 refine sF ?_;simp only[cN,tpV];obtain⟨div,hdiv⟩:=nmQ (nth 0 (nth [] w 0) 0)
 have w2:w.length=2:=by
  apply Classical.byContradiction;intro e;simp[gtB,e]at hg
 have hd:div≠0:=by
  rw[hdiv];intro e;simp[gtB,w2,e]at hg
 have hw0:nth [] w 0∈w:=by rw[cO _ _ _ aa];exact Yl _
 have hdb : -1000000000<=div∧div<=1000000000:=by
  rw[hdiv];exact h.lw.sm _ hw0 _ (og (by rw[h.lw.rl _ hw0];exact h.lw.n0))
 have td:=Pz h hg hl ho hm;have hn:=h.lc.n12;have l1:aO (mat l)=some (I l.length):=rfl;rw[<-hdiv]at td hpu hgs;simp;refine cd (args:=[tpV p c w,mat l]) td ?_ (by rfl);simp[l1];refine lo (aac h w2 hd hdb aa ho hpu (1,.vars [nlV,nlV,B false,B false,B false]) nnQ _ _ l [] rfl ?_);rw[hgs];have hgl:(g::gs).length<=l.length:=by rw[<-hgs];exact Kw w div l
 obtain⟨H,hH⟩:∃H:Hp,H=[(1,.vars [lst di p,mat c,mat w]),(1,.vars [nlV,nlV,B false,B false,B false]),(acU 2).b (g::gs).length ((g::gs).map szD),nnQ]:=⟨_,rfl⟩;rw[<-hH];obtain⟨G,hG⟩:∃G,G=(acU 2).v (g::gs).length ((g::gs).map szD):=⟨_,rfl⟩;rw[<-hG];have lg:aO G=some (I (g::gs).length):=by rw[hG];rfl
 have gne:¬(((g::gs).length:Int)=0):=by simp;omega
 obtain⟨D3,hD3⟩:∃D3:LdQ,D3=[.sl p.length (p.map di),.sl c.length (c.map row),.sl w.length (w.map row)]:=⟨_,rfl⟩;obtain⟨H1,hH1⟩:∃H1:Hp,H1=[(1,.data 1 D3 false true),(1,.vars [nlV,nlV,B false,B false,B false]),(1,.data 1 ((g::gs).map szD) false true),nnQ]:=⟨_,rfl⟩
 have sG:∀(H2:Hp)(f:Bool),H2[2]?=some (1,.data 1 ((g::gs).map szD) false f)->bV H2 G=some (lst szD (g::gs),H2.set 2 (1,.data 1 ((g::gs).map szD) false true)):=λH2 f h2=>by
  rw[hG];simp only[acU,Acc.v,List.length_cons,bV,toD,aw,h2,if_true];rw[if_pos ac];simp[bL,lst];exact Z2 ac
 have sn1:aK H [G,.fn F.bi [] [.ptr 0 1 0 3]]=some ([lst szD (g::gs),.fn F.bi [] [.dptr D3 0]],H1):=by
  have e1:=sG H false (by rw[hH];rfl);simp only[aK,e1];rw[hH,hH1,hD3];rfl
 have sn2:aK H1 [G,.fn F.bi [] [.ptr 0 1 0 3]]=some ([lst szD (g::gs),.fn F.bi [] [.dptr D3 0]],H1):=by
  have e1:=sG H1 true (by grind);simp only[aK,e1];rw[hH1,hD3];rfl
 have hcp:∀a∈g::gs,∀b∈g::gs,CP Y F.bi ([szV a,szV b]++[.dptr D3 0]) (I (cf a b)):=λa ha b hb=>by
  rw[hD3];exact aeU h.pr aa (hok a ha).1 (hok b hb).1 (hok a ha).2 (hok b hb).2 (hc a ha b hb)
 have hsn:∀a b:List Q,aK [] ([szV a,szV b]++[.dptr D3 0])=some ([szV a,szV b]++[.dptr D3 0],[]):=λa b=>rfl
 have c1:=abu hsn aa hcp;have c2:=abv hsn aa hcp;have okz:∀s:List Q,okV (szV s)=true:=λ_=>rfl
 obtain⟨mn,hmn⟩:=nmQ (mnS cf g gs);obtain⟨mx,hmx⟩:=nmQ (mxS cf g gs);have hml:mx.length=p.length:=(hok mx (by grind[Qz])).1;have hp0:=h.lw.n0;rw[<-hmn]at c1;rw[<-hmx]at c2;rw[<-hmn,<-hmx];simp(disch:=try exact ae)[lg,gne];refine tc sn1 c1 ?_;rw[show(if cu (szV mn)=true then H else H1)=H1 from rfl];simp;refine tc sn2 c2 ?_
 rw[show(if cu (szV mx)=true then H1 else H1)=H1 from rfl];have hu:(H1.all λx=>ax H1.length x.2)=true:=by rw[hH1];rfl
 have cl:=O1 hu (l:=mx) aa aa;simp;refine gz cl (s:=3) (e:=0) (b:=.none) (by grind) ?_;rw[hH1];have hlen:((mx.map tx).flatMap aB).length=mx.length*2:=by rw[fp aB aH,List.length_map]
 rw[hlen];have hb:bld [(0,1),(1,1),(2,1),(3,1),(4,1)] [nPQ,nPQ,D.bool false,D.bool false,D.bool false] [(0,szV mn),(1,V.ref 3 1 0 mx.length mx.length (mx.length*2)),(2,V.d (D.bool true)),(3,V.d (D.bool true))]=some (.agg [szV mn,.ref 3 1 0 mx.length mx.length (mx.length*2),B true,B true,B false]):=rfl
 show bnd (bld [(0,1),(1,1),(2,1),(3,1),(4,1)] [nPQ,nPQ,D.bool false,D.bool false,D.bool false] [(0,szV mn),(1,V.ref 3 1 0 mx.length mx.length (mx.length*2)),(2,V.d (D.bool true)),(3,V.d (D.bool true))]) _
 rw[hb];simp[okz];have sr:=λ(H2:Hp)(hg:H2[3]?=some (1,.data 2 ((mx.map tx).flatMap aB) false false))=>Li (h:=H2) (s:=3) (e:=1) (n:=mx.length) (l:=mx.map tx) (ex:=false) (fr:=false) hg ac
 exact abf (sr _ rfl)
theorem Mk{n:Int}(hd:d≠0):(eU n d).1*d=n*((eU n d).2:Int)∧0<(eU n d).2:=by
 unfold eU;split
 .rename_i h;obtain⟨h1,h2⟩:=QE (-n) (d:=d.natAbs) aa;refine⟨?_,h2⟩;rw[show((d.natAbs:Nat):Int) = -d by omega]at h1
  grind
 .rename_i h;obtain⟨h1,h2⟩:=QE n (d:=d.natAbs) aa;rw[show((d.natAbs:Nat):Int)=d by omega]at h1;omega
theorem Fo{u v:Q}(hu:okQ u)(hv:okQ v)(h:u.1*(v.2:Int)=v.1*(u.2:Int)):u=v:=by
 obtain⟨a,b⟩:=u;obtain⟨c,d⟩:=v;obtain⟨h1,h2⟩:=hu;obtain⟨h3,h4⟩:=hv;simp only at h1 h2 h3 h4 h;have e:=congrArg Int.natAbs h;rw[Y7,Y7,Int.natAbs_natCast,Int.natAbs_natCast]at e
 have d1:b∣d:=by
  have:b∣a.natAbs*d:=by rw[e];exact Nat.dvd_mul_left ..
  exact(Nat.Coprime.symm h2).dvd_of_dvd_mul_left this
 have d2:d∣b:=by
  have:d∣c.natAbs*b:=by rw[<-e];exact Nat.dvd_mul_left ..
  exact(Nat.Coprime.symm h4).dvd_of_dvd_mul_left this
 have ebd:b=d:=Nat.dvd_antisymm d1 d2;subst ebd;have:a=c:=Xy aa h
 grind
theorem ac7(h:n<10^20):ndg n<=30:=Zy (gK h af) af
theorem QC{n:Int}(h1:n.natAbs<10^20)(h2:d.natAbs<10^20):qL 30 (eU n d):=FC (ac7 h1) (ac7 h2)
def VQ(q:Q)(N D:Int):Prop:=okQ q∧D≠0∧q.1*D=N*(q.2:Int)
theorem I7{D:Int}(h:VQ q N D):(q.2:Int)≠0:=by have:=h.1.1;omega
theorem sC(z:Int):VQ (z,1) z 1:=⟨⟨Nat.one_pos,ac⟩,af,ac⟩
theorem Ml{n:Int}{d:Nat}(hd:0<d):(mp n d).1*(d:Int)=n*((mp n d).2:Int):=by
 have:=(Mk (n:=n) (d:=(d:Int)) aa).1;have e:eU n (d:Int)=mp n d:=by rw[eU,if_neg aa,Int.natAbs_natCast]
 rwa [e]at this
theorem aaM{n:Int}(hd:d≠0):VQ (eU n d) n d:=⟨oZ hd,hd,(Mk hd).1⟩
theorem I9{a b:Q}{D:Int}(ha:VQ a N D)(hb:VQ b M E):VQ (nK a b) (N*E+M*D) (D*E):=by
 have h0:0<a.2*b.2:=X3 ha.1.1 hb.1.1;refine⟨Af _ h0,Yc ha.2.1 hb.2.1,?_⟩;have h1:=Ml (n:=a.1*b.2+b.1*a.2) h0;have ea:=ha.2.2;have eb:=hb.2.2;rw[Int.natCast_mul]at h1
 show(mp (a.1*b.2+b.1*a.2) (a.2*b.2)).1*_=_*((mp (a.1*b.2+b.1*a.2) (a.2*b.2)).2:Int)
 generalize mp (a.1*b.2+b.1*a.2) (a.2*b.2)=q at *;refine Xy (a:=(a.2:Int)*b.2) (Yc (I7 ha) (I7 hb)) ?_
 calc q.1*(D*E)*((a.2:Int)*b.2)=q.1*((a.2:Int)*b.2)*(D*E):=by grind
  _=(a.1*b.2+b.1*a.2)*q.2*(D*E):=by rw[h1]
  _=((a.1*D)*b.2*E+(b.1*E)*a.2*D)*q.2:=by grind
  _=(N*E+M*D)*q.2*((a.2:Int)*b.2):=by rw[ea,eb];grind
theorem I8{a b:Q}{D:Int}(ha:VQ a N D)(hb:VQ b M E):VQ (pf a b) (N*M) (D*E):=by
 have h0:0<a.2*b.2:=X3 ha.1.1 hb.1.1;refine⟨Af _ h0,Yc ha.2.1 hb.2.1,?_⟩;have h1:=Ml (n:=a.1*b.1) h0;have ea:=ha.2.2;have eb:=hb.2.2;rw[Int.natCast_mul]at h1
 show(mp (a.1*b.1) (a.2*b.2)).1*_=_*((mp (a.1*b.1) (a.2*b.2)).2:Int)
 generalize mp (a.1*b.1) (a.2*b.2)=q at *;refine Xy (a:=(a.2:Int)*b.2) (Yc (I7 ha) (I7 hb)) ?_
 calc q.1*(D*E)*((a.2:Int)*b.2)=q.1*((a.2:Int)*b.2)*(D*E):=by grind
  _=(a.1*b.1)*q.2*(D*E):=by rw[h1]
  _=((a.1*D)*(b.1*E))*q.2:=by grind
  _=(N*M)*q.2*((a.2:Int)*b.2):=by rw[ea,eb];grind
theorem aaL{D:Int}(h:VQ q N D)(hN:N=0):q=(0,1):=by
 obtain⟨⟨h1,h2⟩,h3,h4⟩:=h;rw[hN,Int.zero_mul]at h4;have h5:q.1=0:=(Int.mul_eq_zero.1 h4).resolve_right h3;rw[h5]at h2;have h6:q.2=1:=by simpa using h2
 obtain⟨a,b⟩:=q;simp only at h5 h6;rw[h5,h6]
def tn(n:Nat)(k:Q):List Q:=pP n [kP n] [k]
theorem Cr{k:Q}(hk:okQ k):∀n,rX k (List.replicate n (0,1)) (List.replicate n (0,1))=List.replicate n (0,1)
 |0=>rfl
 | n+1=>by
  have e:nK (0,1) (pf (0,1) k)=(0,1):=aaL (I9 (sC 0) (I8 (sC 0) (show VQ k k.1 k.2 from⟨hk,by have:=hk.1;omega,rfl⟩))) ac;simp only[List.replicate_succ,rX,e,Cr hk n]
theorem DI{k:Q}(hk:okQ k):tn (n+1) k=k::List.replicate n (0,1):=by
 have hv:VQ k k.1 k.2:=⟨hk,by have:=hk.1;omega,rfl⟩
 have e:nK (0,1) (pf (1,1) k)=k:=by
  obtain⟨h1,h2,h3⟩:=I9 (sC 0) (I8 (sC 1) hv);refine Fo h1 hk ?_;simpa using h3
 simp only[tn,pP,kP,List.replicate_succ,Nat.add_sub_cancel,Br,rX,e,Cr hk n]
def aea(s:List Q):Bool:=s.all λx=>decide (0<x.2)&&(Nat.gcd x.1.natAbs x.2 == 1)&&decide (ndg x.1.natAbs<=30)&&decide (ndg x.2<=30)
theorem DL{s:List Q}(h:aea s=true):okS s:=λx hx=>by
 have:=Z1.1 h x hx;simp only[Z7,decide_eq_true_eq,beq_iff_eq]at this;exact⟨⟨this.1.1.1,this.1.1.2⟩,this.1.2,this.2⟩
def lsB(l:LiQ):Bool:=l.all λz=>decide (-1000000000<=z)&&decide (z<=1000000000)
theorem Oy{l:LiQ}(h:lsB l=true):bd9 l:=λz hz=>by
 have:=Z1.1 h z hz
 grind
def ltB(n:Nat)(m:Mz):Bool:=decide (0<n)&&decide (n<=12)&&decide (m.length<=12)&&m.all λr=>decide (r.length=n)&&lsB r
theorem WC(h:ltB n m=true):tg n m:=by simp only[ltB,Z7,decide_eq_true_eq,Z1]at h;exact⟨h.1.1.1,h.1.1.2,h.1.2,λr hr=>(h.2 r hr).1,λr hr=>Oy (h.2 r hr).2⟩
def p5:LiQ:=[2,3,5]
def mtC:Mz:=[[4,-4,1]]
def mtW:Mz:=[[1,0,-4],[0,1,4]]
theorem ac9:rY p5 mtC mtW where
 pr:=by rfl
 lc:=WC (by rfl)
 lw:=WC (by rfl)
 ch:=by rfl
 k1:=⟨20,100,af,by rfl,by rfl⟩
theorem li3(a b c:Int)(h:Hp):eC 3 [.int .i64 0] [(0,.d (.int .i64 a)),(1,.d (.int .i64 b)),(2,.d (.int .i64 c))] h=some ([.int .i64 a,.int .i64 b,.int .i64 c],h):=by rfl
theorem li5(n1 n2 n3 n4 n5:Nat)(a b c d e:LdQ)(h:Hp):eC 5 [nPQ] [(0,.d (.sl n1 a)),(1,.d (.sl n2 b)),(2,.d (.sl n3 c)),(3,.d (.sl n4 d)),(4,.d (.sl n5 e))] h=some ([.sl n1 a,.sl n2 b,.sl n3 c,.sl n4 d,.sl n5 e],h):=by rfl
theorem abx(a1 a2 b1 b2 c1 c2:LuQ)(h:Hp):eC 3 [D.str [],D.str []] [(0,.agg [S a1,S a2]),(1,.agg [S b1,S b2]),(2,.agg [S c1,S c2])] h=some ([.str a1,.str a2,.str b1,.str b2,.str c1,.str c2],h):=by rfl
theorem Mg:CP Y F.dK [] (tpV p5 mtC mtW):=by refine uk ?_;simp only[dK];simp[li3,Mw,WS];exact⟨_,rfl⟩
def l5K:Mz:=[[0,0,0],[-3,2,0],[-2,0,1],[2,-1,0],[-1,1,0]]
def l2K:Mz:=[[-2,0,1],[-1,1,0]]
def tvB(p:LiQ)(w:Mz)(x:LiQ):Bool:=decide (x.length=p.length)&&lsB x&&decide (rcB x=0)&&lsB (cG w x)
theorem Ub{p:LiQ}{w:Mz}(h:tvB p w x=true):Ph p w x:=by simp only[tvB,Z7,decide_eq_true_eq]at h;exact⟨h.1.1.1,Oy h.1.1.2,h.1.2,Oy h.2⟩
def rgS:Rg:=⟨[(3,2),(0,1),(0,1)],[(8,5),(0,1),(0,1)],true,true,false⟩
theorem kst:La 1 en0 (cG mtW [0,0,0]) ([[-3,2,0],[-2,0,1],[2,-1,0],[-1,1,0]].map (cG mtW))=⟨some (3,2),some (8,5),false⟩:=by
 have e1:cG mtW [0,0,0]=[0,0]:=aJ;have e2:([[-3,2,0],[-2,0,1],[2,-1,0],[-1,1,0]].map (cG mtW))=[[-3,2],[-6,4],[2,-1],[-1,1]]:=aJ;rw[e1,e2]
 have k1:oR en0 (-3) 2 1=⟨some (3,2),none,false⟩:=by
  have:uZ (eU (- -3) 1) (2,1)=(3,2):=aJ;simp only[oR,this];rfl
 have k2:oR ⟨some (3,2),none,false⟩ (-3) 2 1=⟨some (3,2),none,false⟩:=by
  have:uZ (eU (- -3) 1) (2,1)=(3,2):=aJ;simp only[oR,this];rfl
 have k3:oR ⟨some (3,2),none,false⟩ 8 (-5) 1=⟨some (3,2),some (8,5),false⟩:=by
  have:uZ (eU (-8) 1) (-5,1)=(8,5):=aJ;simp only[oR,this];rfl
 have k4:oR ⟨some (3,2),some (8,5),false⟩ (-3) 2 1=⟨some (3,2),some (8,5),false⟩:=by
  have:uZ (eU (- -3) 1) (2,1)=(3,2):=aJ;simp only[oR,this];rfl
 rfl
theorem abG:CP Y F.cJ [tpV p5 mtC mtW,mat l5K] (.tup [rgV rgS,I 0]):=by
 have hd:nth 0 (nth [] mtW 0) 0=1:=aJ
 have h:=Sb (l:=l5K) (x:=[0,0,0]) (q:=[[-3,2,0],[-2,0,1],[2,-1,0],[-1,1,0]]) ac9 (by rfl) rfl af (λx hx=>Ub (Z1.1 (show l5K.all (tvB p5 mtW)=true by rfl) x hx)) (by rfl)
  (by rw[hd,kst];intro q hq;cases hq;exact⟨⟨⟨af,af⟩,aJ,aJ⟩,DL aJ⟩)
  (by rw[hd,kst];intro q hq;cases hq;exact⟨⟨⟨af,af⟩,aJ,aJ⟩,DL aJ⟩)
 rw[hd,kst]at h
 have e:asR p5.length ⟨some (3,2),some (8,5),false⟩=rgS:=by
  have e1:scQ p5.length (3,2)=[(3,2),(0,1),(0,1)]:=aJ;have e2:scQ p5.length (8,5)=[(8,5),(0,1),(0,1)]:=aJ;have e3:Rv ⟨some (3,2),some (8,5),false⟩=false:=aJ;simp only[asR,e3,oS,e1,e2];rfl
 trivial
def g1K:List Q:=[(1,1),(0,1),(1,4)]
def g2K:List Q:=[(0,1),(1,1),(0,1)]
def cfK(a b:List Q):Int:=if tq p5 (dfS p5 a b)=[]then 0 else yR (tq p5 (dfS p5 a b))
theorem sgK{a b:List Q}(ha:a ∈ [g1K,g2K])(hb:b ∈ [g1K,g2K]):UK p5 (dfS p5 a b) (cfK a b):=by have h:=Z1.1 (Z1.1 (show([g1K,g2K].all λa=>[g1K,g2K].all λb=>decide ((tq p5 (dfS p5 a b)).length<=600∧∀t∈tq p5 (dfS p5 a b),2<=t.1∧t.1<1000000∧t.2.natAbs<9223372036854775808)&&decide (tq p5 (dfS p5 a b)≠[]->yR (tq p5 (dfS p5 a b))≠0))=true by decide+kernel) a ha) b hb;simp only[Z7,decide_eq_true_eq]at h;exact λd=>UI h.1 h.2
theorem XO:CP Y F.cN [tpV p5 mtC mtW,mat l2K] (.tup [rgV ⟨g1K,g2K,true,true,false⟩,I 0]):=by
 have hd:nth 0 (nth [] mtW 0) 0=1:=aJ;have hg:btG mtW 1 l2K=[g1K,g2K]:=aJ
 have h:=O8 (l:=l2K) (g:=g1K) (gs:=[g2K]) (cf:=cfK) ac9 (by rfl) af (λx hx=>Ub (Z1.1 (show l2K.all (tvB p5 mtW)=true by rfl) x hx)) (by rfl)
  (λx hx _=>DL (Z1.1 (show(l2K.all λx=>aea (oO (cG mtW x) (nth 0 (nth [] mtW 0) 0) 0 x))=true by decide+kernel) x hx)) (by rfl)
  (λa ha=>by
   have:=Z1.1 (show([g1K,g2K].all λa=>decide (a.length=p5.length)&&aea a)=true by decide+kernel) a ha
   grind[DL])
  (λa ha b hb=>sgK ha hb)
 have e1:mnS cfK g1K [g2K]=g1K:=aJ;have e2:mxS cfK g1K [g2K]=g2K:=aJ;trivial
theorem vp:CP Y F.fB [] (B true):=by
 refine wX ?_;have q0:=qu (n:=0) (d:=1) af af af af af;have q1:=qu (n:=3) (d:=2) af af af af af;have q2:=qu (n:=8) (d:=5) af af af af af
 have q3:=qu (n:=1) (d:=1) af af af af af;have q4:=qu (n:=1) (d:=4) af af af af af;have e0:eU 0 1=(0,1):=aJ;have e1:eU 3 2=(3,2):=aJ;have e2:eU 8 5=(8,5):=aJ;have e3:eU 1 1=(1,1):=aJ;have e4:eU 1 4=(1,4):=aJ
 rw[e0]at q0;rw[e1]at q1;rw[e2]at q2;rw[e3]at q3;rw[e4]at q4;have s1:=pB (r:=rgS.lo) af;have s2:=pB (r:=rgS.hi) af;have s3:=pB (r:=g1K) af;have s4:=pB (r:=g2K) af;have st:CP Y F.cJ [tpV p5 mtC mtW,mat l5K] (.tup [.agg [szV rgS.lo,szV rgS.hi,B true,B true,B false],I 0]):=abG
 have bt:CP Y F.cN [tpV p5 mtC mtW,mat l2K] (.tup [.agg [szV g1K,szV g2K,B true,B true,B false],I 0]):=XO;have okz:∀s:List Q,okV (szV s)=true:=λ_=>rfl
 simp only[qT]at q0 q1 q2 q3 q4;simp only[fB];simp;refine cd q0 ?_;simp;refine cd Mg ?_ (by rfl);simp[li3,li5];refine cd (args:=[tpV p5 mtC mtW,mat l5K]) st ?_ (by rfl);simp[okz];refine cd Mg ?_ (by rfl);simp[li3,WS];refine cd (args:=[tpV p5 mtC mtW,mat l2K]) bt ?_ (by rfl);simp[okz];refine cd q1 ?_;simp[abx]
 refine cd (args:=[szV rgS.lo,szV rgS.lo]) s1 ?_ (by rfl);simp;refine cd q2 ?_;simp[abx];refine cd (args:=[szV rgS.hi,szV rgS.hi]) s2 ?_ (by rfl);simp;refine cd q3 ?_;simp;refine cd q4 ?_;simp[abx];refine cd (args:=[szV g1K,szV g1K]) s3 ?_ (by rfl);simp;refine cd q3 ?_;simp[abx];refine cd (args:=[szV g2K,szV g2K]) s4 ?_ (by rfl);simp
theorem F5(hg:gtB w=0):w.length=2∧nth 0 (nth [] w 0) 0≠0:=by
 have w2:w.length=2:=by
  apply Classical.byContradiction;intro e;simp[gtB,e]at hg
 grind[gtB]
theorem LC(H:HmF n w)(hg:gtB w=0):nth 0 (nth [] w 1) 0=0:=by
 obtain⟨w2,h0⟩:=F5 hg;obtain⟨L,H⟩:=H
 have l0:L 0=0:=by
  rcases Ze (L 0)with h|h
  .exact h
  .exact absurd (H.low 0 aa 0 h) h0
 have:=H.inc 0 1 aa aa;exact H.low 1 aa 0 aa
theorem Tl{k:Nat}{e:List I4}:CP Y F.fU [.agg [.d (.int .u8 k),iQ i4D e,B vals]] (B (decide (e.length<=3))):=by
 refine yh ?_;have l1:aO (iQ i4D e)=some (I e.length):=rfl;have ok3:okV (iQ i4D e)=true:=rfl;by_cases h:e.length<=3
 .have h':(e.length:Int)<=3:=aa;simp only[fU];simp[l1,ok3,h']
  simp_all
 .have h':¬(e.length:Int)<=3:=aa;simp only[fU];simp[l1,ok3,h']
  grind[gA]
theorem aaw{s s' e es by_ k:Nat}{cs:LdQ}{b0:Bk}{h:Hp}{y:V}{q:kkQ}{u:PU q}(hk:0<k)(hs':h[s']?=some (e,.data 1 [] true false))(hs:h[s]?=some (es,b0))(hcs:cs.length=k)(hy:cellsOf h y=some (k,cs))(hyn:∀t,y≠.d (.str t))(hb:k*by_<=140737488355328)
  (hq:q (.ref s (es+1) 0 k k k) (h.set s (es+1,.data 1 cs false false))):rh (apV false s 1 by_ (.ref s' e 0 0 0 0) y h) q u:=by
 refine A7 (cells:=[]) (L:=0) hk hs' hs rfl aa hy hyn (by grind) ?_
 grind
theorem Nh{l:List Q}(h0:0<l.length)(hn:l.length<1000000):CP Y F.aA [szV l] (szV l):=by
 refine nE ?_;have fl:((l.map tx).flatMap aB).length=l.length*2:=by rw[fp aB aH,List.length_map]
 have e:szV l=.d (.sl l.length ((l.map tx).flatMap aB)):=by unfold szV iQ;rw[List.length_map]
 rw[e];generalize(l.map tx).flatMap aB=cells at *
 have nl:∀(H:Hp)(k:V->Prop)(u:PU k),rn (vg H .eql (.d (.sl l.length cells)) (.d nPQ)) k u=k (.d (.bool false)):=λH k u=>by
  obtain⟨m,hm⟩:∃m,l.length=m+1:=⟨l.length-1,aa⟩;rw[hm];rfl
 simp only[iO];have hli:eC 0 [D.str [],D.str []] [] [(0,Bk.none),(0,Bk.none)]=some ([],[(0,Bk.none),(0,Bk.none)]):=rfl;simp[nl,hli];refine A7 (s:=1) (s':=0) (e:=1) (es:=0) (by_:=32) (n:=2) (L:=0) (k:=l.length) (cells:=[]) (cs:=cells) h0 rfl rfl rfl fl rfl (by intro t ht;cases ht) aa ?_
 have sn:=x8 ⟨1,0,2,.none⟩ (L:=l.length) (cells:=cells) (h:=[(1,Bk.data 2 [] true false),(Acc.b ⟨1,0,2,.none⟩ l.length cells)]) rfl fl;obtain⟨m,hm⟩:∃m,l.length=m+1:=⟨l.length-1,aa⟩
 simp_all
theorem Qw{l:LiQ}(h0:0<l.length)(H:Hp)(k:V->Prop)(u:PU k):rn (vg H .eql (lst di l) (.d nPQ)) k u=k (.d (.bool false)):=by obtain⟨m,hm⟩:∃m,l.length=m+1:=⟨l.length-1,aa⟩;simp only[lst,hm];rfl
theorem Kn{l:LiQ}(h0:0<l.length)(hn:l.length<1000000):CP Y F.kr [lst di l] (lst di l):=by
 refine rD ?_;simp only[nF];have hli:eC 0 [.int .i64 0] [] [(0,Bk.none),(0,Bk.none)]=some ([],[(0,Bk.none),(0,Bk.none)]):=rfl;simp[Qw h0,hli];refine A7 (s:=1) (s':=0) (e:=1) (es:=0) (by_:=8) (n:=1) (L:=0) (k:=l.length) (cells:=[]) (cs:=l.map di) h0 rfl rfl rfl ac rfl (by intro t ht;cases ht) aa ?_
 have sn:=x8 ⟨1,0,1,.none⟩ (L:=l.length) (cells:=l.map di) (h:=[(1,Bk.data 1 [] true false),(Acc.b ⟨1,0,1,.none⟩ l.length (l.map di))]) rfl ac;obtain⟨m,hm⟩:∃m,l.length=m+1:=⟨l.length-1,aa⟩
 simp_all[lst]
theorem Ni{l:LiQ}(h0:0<l.length)(hn:l.length<1000000):CP Y F.iU [lst di l] (lst di l):=by
 refine qf ?_;simp only[lK];have hli:eC 0 [.int .i64 0] [] [(0,Bk.none),(0,Bk.none)]=some ([],[(0,Bk.none),(0,Bk.none)]):=rfl;simp[Qw h0,hli];refine A7 (s:=1) (s':=0) (e:=1) (es:=0) (by_:=8) (n:=1) (L:=0) (k:=l.length) (cells:=[]) (cs:=l.map di) h0 rfl rfl rfl ac rfl (by intro t ht;cases ht) aa ?_
 have sn:=x8 ⟨1,0,1,.none⟩ (L:=l.length) (cells:=l.map di) (h:=[(1,Bk.data 1 [] true false),(Acc.b ⟨1,0,1,.none⟩ l.length (l.map di))]) rfl ac;obtain⟨m,hm⟩:∃m,l.length=m+1:=⟨l.length-1,aa⟩
 simp_all[lst]
theorem VO{p:LiQ}(hp:pcB p=0)(h0:0<p.length)(hN:p.length<1000)(hd:d≠0)(hb : -1000000000<=d∧d<=1000000000):CP Y F.mC [lst di p,I 1,I d] (.tup [szV (tn p.length (eU 1 d)),I 0]):=by
 refine CZ ?_;have fo:=uD (n:=1) (d:=d) hd aa aa aa aa;have hk:qL 30 (eU 1 d):=QC aa aa;obtain⟨m,hm⟩:∃m,p.length=m+1:=⟨p.length-1,aa⟩
 have hs:okS (pP p.length [kP p.length] [eU 1 d]):=by
  have e:=DI (n:=m) (k:=eU 1 d) (oZ hd);rw[tn,<-hm]at e;rw[e];intro y hy;rcases Zx.1 hy with rfl|hy
  .exact⟨oZ hd,hk⟩
  .rw[(Xt.1 hy).2];exact Fj aa
 have sc:=EQ (p:=p) (k:=eU 1 d) hp h0 hN ⟨oZ hd,hk⟩ hs;simp only[qT]at fo sc;simp only[mC];simp;refine cd fo ?_;simp;refine cd sc ?_ (by rfl);simp;exact⟨_,rfl⟩
theorem ZQ{m:Mz}(hm:m.length<1000)(h1:∀r∈m,0<r.length∧r.length<1000000)(h0:Hp)(K:KL):∀(q a:Mz),m=a++q ->
  K (.exit 0) [(acU 0).v m.length (m.map row)] [(acU 0).b m.length (m.map row)] ->
  lp (lT (CX Y) (mat m) (I m.length)) [] h0 [(acU 0).v a.length (a.map row),I a.length] [(acU 0).b a.length (a.map row)] K
 | [],a,e,hK=>by
  simp only[Zq]at e;subst e;refine aj ?_;have hlt:¬((m.length:Int)<(m.length:Int)):=aa;simp only[lT];simp[hlt];exact hK
 | x::q,a,e,hK=>by
  refine aj ?_;have hlt:((a.length:Int)<(m.length:Int)):=by rw[e];simp;omega
  have hal:a.length<m.length:=aa;have hx:=h1 x (by grind);have i1:∀h:Hp,ixV h 1 (mat m) (I a.length)=some (.dptr (m.map row) a.length):=λh=>by simp_all
  have i2:∀h:Hp,ld1 h (.dptr (m.map row) a.length)=some (lst di x):=λh=>by
   rw[k8 row m _ hal];simp only[e,Zm (Z8 _),Zc,Zh];rfl
  obtain⟨H,hH⟩:∃H:Hp,H=[(acU 0).b a.length (a.map row)]:=⟨_,rfl⟩;rw[<-hH];have hli:eC 1 [nPQ] [(0,lst di x)] H=some ([row x],H):=Mw ..;simp only[lT];simp[hlt,i1,i2];refine cd (Kn hx.1 hx.2) ?_ (by rfl);simp[hli]
  refine nm (acU 0) (by_:=24) (k:=1) (cs:=[row x]) aa (by rw[hH];rfl) (by simp[acU]) (by rfl) rfl (by grind) aa (by simp[acU]) ?_;have hs:H.set (acU 0).s ((acU 0).b (a.length+1) (a.map row++[row x]))=[(acU 0).b (a.length+1) (a.map row++[row x])]:=by rw[hH];rfl
  rw[hs];have ih:=ZQ hm h1 h0 K q (a++[x]) (by simp[e]) hK;have e4:((a++[x]).length:Int)=(a.length:Int)+1:=ac;rw[e4,X5,List.length_append]at ih;simp(disch:=try exact ae)
  simp_all[dC]
theorem IE(hm:m.length<1000)(h1:∀r∈m,0<r.length∧r.length<1000000):CP Y F.iF [mat m] (mat m):=by refine zF ?_;have l1:aO (mat m)=some (I m.length):=rfl;simp only[iF];simp[l1];refine lo (ZQ hm h1 _ _ m [] rfl ?_);exact x8 (acU 0) rfl (by simp[acU])
def trG(p:LiQ)(w:Mz)(g:List Q):List (List Q):=[tn p.length (eU 1 (nth 0 (nth [] w 0) 0)),g]
theorem Kd(h:rY p c w)(hg:gtB w=0):nth 0 (nth [] w 0) 0≠0∧-1000000000<=nth 0 (nth [] w 0) 0∧nth 0 (nth [] w 0) 0<=1000000000:=by
 obtain⟨w2,h0⟩:=F5 hg;have hw0:nth [] w 0∈w:=by rw[cO _ _ _ aa];exact Yl _
 exact⟨h0,h.lw.sm _ hw0 _ (og (by rw[h.lw.rl _ hw0];exact h.lw.n0))⟩
theorem TR(h:rY p c w)(hg:gtB w=0){g:List Q}(hl:g.length=p.length)(hs:okS g):CP Y F.eB [tpV p c w,szV g] (.tup [tuV p c w (trG p w g),I 0]):=by
 refine pN ?_;have hn:=h.lc.n12;have hn0:=h.lc.n0;obtain⟨d0,d1⟩:=Kd h hg;have a1:=OK h hg;have a2:=II h.pr aa hl hs;have a3:=VO (d:=nth 0 (nth [] w 0) 0) h.pr hn0 aa d0 d1;have a4:=Ni (l:=p) hn0 aa;have a5:=IE (m:=c) (by have:=h.lc.ml;omega) λr hr=>by rw[h.lc.rl r hr];omega
 have a6:=IE (m:=w) (by have:=h.lw.ml;omega) λr hr=>by rw[h.lw.rl r hr];omega
 have a7:=Nh (l:=g) aa aa;have l2:∀H,eC 2 [nPQ] [(0,szV (tn p.length (eU 1 (nth 0 (nth [] w 0) 0)))),(1,szV g)] H=some ([szD (tn p.length (eU 1 (nth 0 (nth [] w 0) 0))),szD g],H):=λH=>WS ..
 rw[trG];generalize tn p.length (eU 1 (nth 0 (nth [] w 0) 0))=pq at *;have ok1:∀m:LiQ,okV (lst di m)=true:=λ_=>rfl
 have ok2:∀m:Mz,okV (mat m)=true:=λ_=>rfl
 simp only[eB,tpV];simp[ok1,ok2];refine cd (args:=[tpV p c w]) a1 ?_ (by rfl);simp[ok1,ok2];refine cd a2 ?_ (by rfl);simp[ok1,ok2];refine cd a3 ?_ (by rfl);simp[ok1,ok2];refine cd a4 ?_ (by rfl);simp[ok1,ok2];refine cd a5 ?_ (by rfl);simp[ok1,ok2];refine cd a6 ?_ (by rfl);simp[ok1,ok2];refine cd a7 ?_ (by rfl);simp[l2,ok1,ok2];exact⟨_,rfl⟩
variable{p:LiQ}{c w w':Mz}{e:Int}
def GtE(p:LiQ)(c w:Mz)(e:Int):Prop:=CP Y F.iZ [tpV p c w] (.tup [.agg [I 0,lst di [],lst di []],I e])
theorem QY(h:CP Y F.ji [tpV p c w] (I e))(he:e≠0):GtE p c w e:=by refine xn ?_;simp only[iZ,tpV];simp;refine cd (args:=[tpV p c w]) h ?_ (by rfl);simp[he];exact⟨_,rfl⟩
theorem XX(h:rY p c w)(hg:gtB w≠0):GtE p c w (gtB w):=QY (QX h) hg
theorem XW(h:rY p c w)(h1:w'.length<1000000)(h2:∀r∈w',r.length<1000000)(hn:w≠w'):GtE p c w' 14:=by refine QY ?_ aa;refine vQ ?_;have a1:=wN h h1 h2;rw[if_neg hn]at a1;simp only[ji,tpV];simp;refine cd (args:=[tpV p c w']) a1 ?_ (by rfl);simp[aW]
theorem zI(h:GtE p c w e)(he:e≠0){l:Mz}:CP Y F.cr [tpV p c w,mat l] (.tup [mat [],I 0,I e]):=by
 refine rI ?_;simp only[cr,tpV];simp;refine cd (args:=[tpV p c w]) h ?_ (by rfl);have ok1:∀m:LiQ,okV (lst di m)=true:=λ_=>rfl
 simp[he,ok1];exact⟨_,rfl⟩
theorem NX(h:GtE p c w e)(he:e≠0){l:Mz}:CP Y F.cJ [tpV p c w,mat l] (.tup [.agg [lst di [],lst di [],B false,B false,B false],I e]):=by refine tv ?_;simp only[cJ,tpV];simp;refine cd (args:=[tpV p c w,mat l]) (zI h he) ?_ (by rfl);simp[he];exact⟨_,rfl⟩
theorem Nr(h:GtE p c w e)(he:e≠0){l:Mz}:CP Y F.cN [tpV p c w,mat l] (.tup [.agg [lst di [],lst di [],B false,B false,B false],I e]):=by refine sF ?_;simp only[cN,tpV];simp;refine cd (args:=[tpV p c w,mat l]) (zI h he) ?_ (by rfl);simp[he];exact⟨_,rfl⟩
theorem VF(h:GtE p c w e)(he:e≠0):CP Y F.mD [tpV p c w,lst di x] (.tup [lst di [],B false,I e]):=by
 refine C3 ?_;have hli:∀h:Hp,eC 1 [nPQ] [(0,lst di x)] h=some ([row x],h):=λh=>Mw ..
 have ok1:∀m:Mz,okV (mat m)=true:=λ_=>rfl
 simp only[mD,tpV];simp[hli];refine cd (args:=[tpV p c w,mat [x]]) (zI h he) ?_ (by rfl);simp[he];exact⟨_,rfl⟩
variable{p:LiQ}{c w:Mz}
mutual
def WD(w:World):D->Value->Prop
 |.int k n,v=>v=.int k n
 |.bool b,v=>v=.bool b
 |.str s,v=>v=.string ⟨⟨s⟩⟩
 |.pl u,v=>v=u∧plain u=true∧okCell u=true
 | .sl len cells,v=>(len=0∧cells=[]∧(v=.slice none 0 0∨∃a,v=.slice (some a) 0 0)) ∨
   ∃ c o cap n cs e fz,v=.slice (some ⟨c,o,none⟩) len cap∧len<=cap∧0<n∧cells.length=len*n ∧
    w.heap[c]?=some (.cells cs e fz)∧o+cells.length<=cs.size∧WDs w cells ((cs.toList.drop o).take cells.length)
def WDs(w:World):LdQ->LvQ->Prop
 |[],l=>l=[]
 |x::xs,l=>∃v vs,l=v::vs∧WD w x v∧WDs w xs vs
end
structure Ly(w:World)(φ:bJ)(F:Nat->Prop)(H:AH):Prop where
 rel:bh X φ H w
 wf:WF H
 fr:∀c,F c->c<H.n∧∃x,H.get c=some x∧x.st=1
 ro:∀c x,H.get c=some x->x.wr=false
 top:∀b p,φ b=some p->b<H.n
 pg:∃p,φ oP=some p
structure uL(φ:bJ)(F:Nat->Prop)(H:AH)(φ':bJ)(F':Nat->Prop)(H':AH):Prop where
 n:H.n<=H'.n
 le:PLe φ φ'
 fm:∀c,F c->F' c
 keep:∀c,c<H.n->H'.get c=H.get c
theorem uL.refl(φ:bJ)(F:Nat->Prop)(H:AH):uL φ F H φ F H:=⟨Z8 _,PLe.refl _,λ_ h=>h,λ_ _=>rfl⟩
theorem uL.trans{φ φ1 φ2:bJ}{F F1 F2:Nat->Prop}{H H1 H2:AH}(a:uL φ F H φ1 F1 H1)(b:uL φ1 F1 H1 φ2 F2 H2):uL φ F H φ2 F2 H2:=
 ⟨Zy a.n b.n,a.le.trans b.le,λc h=>b.fm c (a.fm c h),λc h=>by rw[b.keep c (Z3 h a.n),a.keep c h]⟩
theorem uL.leF{φ φ':bJ}{F F':Nat->Prop}{H H':AH}{w:World}(L:Ly w φ F H)(a:uL φ F H φ' F' H'):LeF F F' H H':=
 ⟨a.fm,λc hc=>a.keep c (L.fr c hc).1,λc x hx h0=>⟨x,by grind[keep,AH.get_lt],h0⟩⟩
def roB(b n:Nat)(cells:LvQ):Blk:={cells,st:=1,wr:=false,fam:=b,start:=0,shared:=false,exact:=true,esz:=n,ver:=1}
theorem Ly.push{w:World}{φ:bJ}{F:Nat->Prop}{H:AH}(L:Ly w φ F H){c o n:Nat}{us vs:LvQ}{cs:Array Value}{e:TypeId}{fz:Nat×Nat}(hh:w.heap[c]?=some (.cells cs e fz))
  (hlen:us.length=vs.length) (ho:o+us.length<=cs.size) (hvs:vs=(cs.toList.drop o).take us.length) (hr:am φ us vs) :
  Ly w (zu φ H.n ⟨c,o,us.length,n,cs.size,true⟩) (λx=>F x∨x=H.n) (H.push (roB H.n n us)) ∧
  uL φ F H (zu φ H.n ⟨c,o,us.length,n,cs.size,true⟩) (λx=>F x∨x=H.n) (H.push (roB H.n n us)):=by
 have hnone:φ H.n=none:=by
  cases hq:φ H.n with
  |none=>rfl
  |some p=>have:=L.top _ p hq;omega
 have hle:PLe φ (zu φ H.n ⟨c,o,us.length,n,cs.size,true⟩):=PLe.add hnone;have hn:(H.push (roB H.n n us)).n=H.n+1:=rfl;have old:∀b,b<H.n->(H.push (roB H.n n us)).get b=H.get b:=λb hb=>AH.get_push aa
 have new:(H.push (roB H.n n us)).get H.n=some (roB H.n n us):=AH.get_push_new H _
 have ro:∀b x,(H.push (roB H.n n us)).get b=some x->x.wr=false:=λb x hx=>by
  rcases Zg b H.n with h|h
  .grind[ro]
  .have hb:b=H.n:=by have:=AH.get_lt hx;omega
   subst hb;rw[new]at hx;cases hx;rfl
 refine ⟨⟨⟨λg hg=>?_,λb p hp=>?_,λb p x i v hp hx h1 hv=>?_,λb p x i hp hx h1 hi=>?_,λb b' p p' x x' _ _ hx hx' _ _ _ _=>.inl ⟨ro b x hx,ro b' x' hx'⟩⟩,?_,λb hb=>?_,ro,λb p hp=>?_,L.pg.imp λp hp=>hle _ p hp⟩,
  ⟨aa,hle,λx h=>.inl h,old⟩⟩
 .obtain⟨p,hp,h1⟩:=L.rel.glob g hg;exact⟨p,hle g p hp,h1⟩
 .by_cases hb:b=H.n
  .subst hb;rw[dS]at hp;cases hp;exact⟨_,cs,e,fz,new,by simp[roB],rfl,rfl,rfl,hh,rfl,ho⟩
  .rw[f9 hb]at hp;obtain⟨x,r⟩:=L.rel.dom b p hp
   grind[top]
 .by_cases hb:b=H.n
  .subst hb;rw[dS]at hp;cases hp;rw[new]at hx;cases hx;obtain⟨v',h1,h2⟩:=hr.at (i:=i) hv
   grind[ak.mono,cell_of_heap]
  .rw[f9 hb]at hp;rw[old b (L.top b p hp)]at hx;obtain⟨v',h2,h3⟩:=L.rel.cell b p x i v hp hx h1 hv
   grind[ak.mono]
 .grind
 .refine⟨by simp[AH.push,L.wf.len],λb x hx=>?_⟩;rcases Zg b H.n with h|h
  .rw[old b h]at hx;exact L.wf.fam b x hx
  .have hb:b=H.n:=by have:=AH.get_lt hx;omega
   subst hb;rw[new]at hx;cases hx;trivial
 .rcases hb with hb|rfl
  .obtain⟨h1,x,h2,h3⟩:=L.fr b hb;exact⟨aa,x,by grind,h3⟩
  .exact⟨aa,_,new,rfl⟩
 .by_cases hb:b=H.n
  .omega
  .rw[f9 hb]at hp;have:=L.top b p hp;omega
mutual
theorem lay{w:World}:∀(d:D)(v:Value){φ:bJ}{F:Nat->Prop}{H:AH},Ly w φ F H->WD w d v ->
  ∃φ' F' H' u,Ly w φ' F' H'∧uL φ F H φ' F' H'∧ak φ' u v∧RD F' H' d u
 |.int k n,v,φ,F,H,L,h=>⟨φ,F,H,v,L,uL.refl ..,by simp only[WD]at h;subst h;rfl,h⟩
 |.bool b,v,φ,F,H,L,h=>⟨φ,F,H,v,L,uL.refl ..,by simp only[WD]at h;subst h;rfl,h⟩
 |.str s,v,φ,F,H,L,h=>⟨φ,F,H,v,L,uL.refl ..,by simp only[WD]at h;subst h;rfl,h⟩
 |.pl u,v,φ,F,H,L,h=>⟨φ,F,H,v,L,uL.refl ..,by grind[WD,ak.of_plain],h⟩
 | .sl len cells,v,φ,F,H,L,h=>by
  simp only[WD]at h;rcases h with⟨rfl,rfl,rfl|⟨a,rfl⟩⟩|⟨c,o,cap,n,cs,e,fz,rfl,hlc,hn,hlen,hh,ho,hds⟩
  .exact⟨φ,F,H,.slice none 0 0,L,uL.refl ..,rfl,.inl ⟨rfl,rfl,.inl rfl⟩⟩
  .obtain⟨p,hp⟩:=L.pg;obtain⟨x,_,_,_,hx,h0,_⟩:=L.rel.dom _ _ hp;exact⟨φ,F,H,.slice (some ⟨oP,0,none⟩) 0 0,L,uL.refl ..,⟨a,0,rfl,.inr ⟨rfl,rfl,rfl,rfl,p,hp⟩⟩,.inl ⟨rfl,rfl,.inr ⟨_,_,_,rfl,x,hx,h0⟩⟩⟩
  .obtain⟨φ1,F1,H1,us,L1,E1,r1,d1⟩:=lays cells _ L hds;have hl:us.length=cells.length:=by have:=d1.length;omega
   obtain⟨L2,E2⟩:=L1.push (us:=us) (n:=n) (o:=o) hh (by grind) aa (by rw[hl]) r1;refine⟨_,_,_,.slice (some ⟨H1.n,0,none⟩) len cap,L2,E1.trans E2,?_,?_⟩
   .refine⟨⟨c,o,none⟩,cap,rfl,.inl ⟨rfl,rfl,_,dS ..,rfl,rfl,.inl rfl⟩⟩
   .have new:(H1.push (roB H1.n n us)).get H1.n=some (roB H1.n n us):=AH.get_push_new H1 _;by_cases h0:len=0
    .subst h0;exact .inl ⟨rfl,Zl aa,.inr ⟨_,_,_,rfl,_,new,by simp[roB]⟩⟩
    .refine .inr ⟨H1.n,0,cap,us,n,rfl,aa,hlc,hn,hlen,.inr rfl,?_,RDs.mono (E2.leF L1) _ _ d1,_,new,.inl rfl⟩;rw[kW new rfl (by show 0+cells.length<=us.length;omega)]
     show some ((us.drop 0).take cells.length)=_
     grind
theorem lays{w:World}:∀(ds:LdQ)(vs:LvQ){φ:bJ}{F:Nat->Prop}{H:AH},Ly w φ F H->WDs w ds vs ->
  ∃φ' F' H' us,Ly w φ' F' H'∧uL φ F H φ' F' H'∧am φ' us vs∧RDs F' H' ds us
 |[],vs,φ,F,H,L,h=>⟨φ,F,H,[],L,uL.refl ..,by trivial,rfl⟩
 | d::ds,vs,φ,F,H,L,h=>by
  simp only[WDs]at h;obtain⟨v,vs,rfl,h1,h2⟩:=h;obtain⟨φ1,F1,H1,u,L1,E1,r1,d1⟩:=lay d v L h1;obtain⟨φ2,F2,H2,us,L2,E2,r2,d2⟩:=lays ds vs L1 h2;exact⟨φ2,F2,H2,u::us,L2,E1.trans E2,⟨v,vs,rfl,ak.mono E2.le u v r1,r2⟩,⟨u,us,rfl,RD.mono (E2.leF L1) _ _ d1,d2⟩⟩
end
def abd:Nat->List Blk
 |0=>[]
 |n+1=>rz::abd n
theorem L3:∀(n i:Nat)(x:Blk),(abd n)[i]?=some x->x=rz
 |0,_,_,h=>by trivial
 |n+1,0,x,h=>by grind[abd]
 |n+1,i+1,x,h=>L3 n i x (by trivial)
def BC:LvQ:=[.int .u64 1,.int .u64 10,.int .u64 100,.int .u64 1000,.int .u64 10000,.int .u64 100000,.int .u64 1000000,.int .u64 10000000,.int .u64 100000000,.int .u64 1000000000,.int .u64 10000000000,.int .u64 100000000000,
 .int .u64 1000000000000,.int .u64 10000000000000,.int .u64 100000000000000,.int .u64 1000000000000000,.int .u64 10000000000000000,.int .u64 100000000000000000,.int .u64 1000000000000000000,.int .u64 10000000000000000000]
def RJ(w:World):Prop:=∃cs e fz,w.heap[oP]?=some (.cells cs e fz)∧20<=cs.size∧BC=cs.toList.take 20
def H00:AH:=⟨oP,abd oP⟩
theorem acX{b:Nat}{x:Blk}(h:H00.get b=some x):x=rz:=by
 unfold AH.get at h;split at h
 .exact L3 _ _ _ h
 .trivial
theorem start{w:World}(hp:RJ w):∃φ F H,Ly w φ F H∧qe Y F H:=by
 obtain⟨cs,e,fz,hh,hsz,hcs⟩:=hp
 let φ:bJ:=λb=>if b=oP then some ⟨oP,0,20,1,cs.size,true⟩else none
 let H:AH:=H00.push (roB oP 1 BC)
 have hn:H.n=oP+1:=rfl;have new:H.get oP=some (roB oP 1 BC):=AH.get_push_new H00 _
 have old:∀{b x},b≠oP->H.get b=some x->x=rz:=λ{b x} hb hx=>by
  grind[H00,AH.get_push,acX]
 have hφ:∀{b p},φ b=some p->b=oP∧p=⟨oP,0,20,1,cs.size,true⟩:=λ{b p} h=>by
  grind
 have ro:∀b x,H.get b=some x->x.wr=false:=λb x hx=>by
  by_cases hb:b=oP
  .subst hb;rw[new]at hx;cases hx;rfl
  .rw[old hb hx];rfl
 have L:Ly w φ (· = oP) H:=by
  refine⟨⟨λg hg=>?_,λb p hp=>?_,λb p x i v hp hx h1 hv=>?_,λb p x i hp hx h1 hi=>?_,λb b' p p' x x' _ _ hx hx' _ _ _ _=>.inl ⟨ro b x hx,ro b' x' hx'⟩⟩,?_,?_,ro,λb p hp=>?_,⟨⟨oP,0,20,1,cs.size,true⟩,by rfl⟩⟩
  .have:g=oP:=by simpa[X]using hg
   exact⟨⟨oP,0,20,1,cs.size,true⟩,by grind,this.symm,rfl⟩
  .grind[roB]
  .obtain⟨rfl,rfl⟩:=hφ hp;rw[new]at hx;cases hx;have hv':BC[i]?=some v:=hv;refine⟨v,?_,?_⟩
   .grind[cell_of_heap]
   .have hm:v∈BC:=X4 hv';have:BC.all plain=true:=rfl
    grind[ak.of_plain]
  .grind
  .refine⟨by rfl,λb x hx=>?_⟩;by_cases hb:b=oP
   .subst hb;rw[new]at hx;cases hx;trivial
   .rw[old hb hx];exact Y9 _
  .rintro c rfl;exact⟨aa,_,new,rfl⟩
  .grind
 refine⟨φ,_,H,L,λg cs' hg=>?_⟩
 have hgp:g=oP∧cs'=LX:=by
  simp only[Y]at hg;split at hg
  .simp_all
  .cases hg
 obtain⟨rfl,rfl⟩:=hgp;refine⟨Xq _,rfl,⟨_,new,rfl,af⟩,BC,?_,?_⟩
 .rfl
 simp[LX,BC,RDs,RD]
open Go.ChangeShapes Go.WideShapes Go.ChangeAt Go.RowKit
variable{HH:Type}{enc:TypeId×Value->HH}{P:Program}{w:World}{base:Nat}{held:Bool}
theorem Nk{a:Addr}{v:Value}(h:w.cell? a=some v):∃cs e fz,w.heap[a.block]?=some (.cells cs e fz)∧a.spot=none∧cs[a.off]?=some v:=by
 unfold World.cell? at h;split at h
 .rename_i c e fz hc;split at h
  .cases h
  .rename_i hs;refine⟨c,e,fz,hc,?_,h⟩;cases hq:a.spot with
   |none=>rfl
   |some s=>rw[hq]at hs;simp at hs
 .cases h
theorem addr_add(a:Addr)(hs:a.spot=none)(i:Nat):a.add i=⟨a.block,a.off+i,none⟩:=by
 unfold Addr.add;split
 .rename_i h;subst h;cases a;simp at hs ⊢;exact hs
 .rfl
theorem IJ{a:Addr}{vs:LvQ}(h:∀i v,vs[i]?=some v->w.cell? (a.add i)=some v)(hp:0<vs.length):
  ∃cs e fz,w.heap[a.block]?=some (.cells cs e fz)∧a.spot=none∧a.off+vs.length<=cs.size∧vs=(cs.toList.drop a.off).take vs.length:=by
 obtain⟨v0,h0⟩:∃v,vs[0]?=some v:=⟨vs[0],by simp[hp]⟩;obtain⟨cs,e,fz,hc,hs,_⟩:=Nk (h 0 v0 h0);have ha0:a.add 0=a:=by unfold Addr.add;simp
 rw[ha0]at hc hs
 have at_:∀i v,vs[i]?=some v->cs[a.off+i]?=some v:=λi v hv=>by
  obtain⟨cs',e',fz',hc',_,hv'⟩:=Nk (h i v hv);rw[addr_add a hs]at hc' hv';simp only at hc' hv';rw[hc]at hc';cases hc';exact hv'
 have hle:a.off+vs.length<=cs.size:=by
  have hl:=at_ (vs.length-1) vs[vs.length-1] (by rw[List.getElem?_eq_getElem]);have:=(Array.getElem?_eq_some_iff.1 hl).1;omega
 refine⟨cs,e,fz,hc,hs,hle,?_⟩;apply Yj;intro i;by_cases hi:i<vs.length
 .rw[List.getElem?_take_of_lt hi,List.getElem?_drop];have:=at_ i vs[i] (by rw[List.getElem?_eq_getElem hi]);rw[List.getElem?_eq_getElem hi];simpa using this.symm
 .rw[List.getElem?_eq_none aa,List.getElem?_eq_none aX]
inductive Sh where
 |int (k:IntKind)
 |bool
 |str
 |sl (e:Sh)
 |ar (n:Nat) (e:Sh)
 |st (fs:List Sh)
variable{s:Sh}
mutual
/-- A type has a shape. -/
def Typ(P:Program):Sh->TypeId->Prop
 |.int k,t=>P.underlying t=some (.int k)∧P.cellsOf t=1
 |.bool,t=>P.underlying t=some .bool∧P.cellsOf t=1
 |.str,t=>P.underlying t=some .string∧P.cellsOf t=1
 |.sl e,t=>∃u,P.underlying t=some (.slice u)∧P.cellsOf t=1∧0<P.cellsOf u∧Typ P e u
 |.ar n e,t=>∃u,P.underlying t=some (.array n u)∧P.cellsOf t=n*P.cellsOf u∧Typ P e u
 |.st fs,t=>∃l:List Field,P.underlying t=some (.struct l.toArray)∧TQ P fs l 0 (P.cellsOf t)
def TQ(P:Program):List Sh->List Field->Nat->Nat->Prop
 |[],l,o,n=>l=[]∧o=n
 |s::ss,l,o,n=>∃f r,l=f::r∧f.offset=o∧Typ P s f.type∧TQ P ss r (o+P.cellsOf f.type) n
end
mutual
/-- Cells of a shape. -/
def Dat:Sh->LdQ->Prop
 |.int k,ds=>∃n,ds=[.int k n]∧(Lit.int k n).wf=true
 |.bool,ds=>∃b,ds=[.bool b]
 |.str,ds=>∃s:LuQ,ds=[.str s]∧s.length<=maxLen
 |.sl e,ds=>∃xs:List LdQ,ds=[.sl xs.length xs.flatten]∧∀x∈xs,Dat e x
 |.ar n e,ds=>∃xs:List LdQ,ds=xs.flatten∧xs.length=n∧∀x∈xs,Dat e x
 |.st ss,ds=>ae8 ss ds
def ae8:List Sh->LdQ->Prop
 |[],ds=>ds=[]
 |s::ss,ds=>∃a b,ds=a++b∧Dat s a∧ae8 ss b
end
theorem WDs.append:∀{a b:LdQ}{u v:LvQ},WDs w a u->WDs w b v->WDs w (a++b) (u++v)
 |[],b,u,v,h,h2=>by grind[WDs]
 | x::a,b,u,v,h,h2=>by
  simp only[WDs]at h;obtain⟨y,u,rfl,h0,h1⟩:=h;exact⟨y,u++v,rfl,h0,h1.append h2⟩
theorem WDs.len:∀{a:LdQ}{u:LvQ},WDs w a u->a.length=u.length
 |[],u,h=>by grind[WDs]
 | x::a,u,h=>by
  simp only[WDs]at h;obtain⟨y,u,rfl,_,h1⟩:=h;simp[h1.len]
theorem uY{α:Type}(C:Nat->List α)(n:Nat):∀m,(∀i,i<m->(C i).length=n)->((List.range m).flatMap C).length=m*n∧∀i j,i<m->j<n->((List.range m).flatMap C)[i*n+j]?=(C i)[j]?
 |0,_=>⟨ac,λi j hi=>by omega⟩
 | m+1,h=>by
  obtain⟨h1,h2⟩:=uY C n m λi hi=>h i aa
  have e:(List.range (m+1)).flatMap C=(List.range m).flatMap C++C m:=by simp[Wn]
  rw[e];refine⟨by rw[List.length_append,h1,h m aa,Xp],λi j hi hj=>?_⟩;by_cases him:i<m
  .rw[List.getElem?_append_left,h2 i j him hj];rw[h1]
   calc i*n+j<i*n+n:=aa
    _=(i+1)*n:=by rw[Xp]
    _<=m*n:=Zt n him
  .obtain rfl:i=m:=aa
   simp_all
theorem Bg(C:Nat->LvQ)(X:Nat->LdQ):∀m,(∀i,i<m->WDs w (X i) (C i))->WDs w ((List.range m).flatMap X) ((List.range m).flatMap C)
 |0,_=>rfl
 | m+1,h=>by
  simp only[Wn,Yk,List.flatMap_cons,List.flatMap_nil,Zq];exact(Bg C X m λi hi=>h i aa).append (h m aa)
theorem RP{a:Addr}{len cap:Nat}{vs:LvQ}(hn:0<n)(hl:len<=cap)(hlen:vs.length=cap*n)(h:∀i v,vs[i]?=some v->w.cell? (a.add i)=some v)(hd:WDs w ds (vs.take (len*n)))(hds:ds.length=len*n):WD w (.sl len ds) (.slice (some a) len cap):=by
 simp only[WD];by_cases h0:cap=0
 .have e:len=0:=aa
  simp_all
 .have hpos:0<vs.length:=by rw[hlen];exact X3 aa hn
  have hle2:len*n<=vs.length:=by rw[hlen];exact Zt n hl
  obtain⟨cs,e,fz,hc,hs,hle,hvs⟩:=IJ h hpos;refine .inr ⟨a.block,a.off,cap,n,cs,e,fz,?_,hl,hn,hds,hc,aa,?_⟩
  .cases a;grind
  grind
def Opn(enc:TypeId×Value->HH)(P:Program)(w:World)(base:Nat)(held:Bool)(s:Sh):Prop:=
 ∀(t:TypeId)(fuel:Nat)(cs:LvQ)(x:DataW HH×List MemPlace),Typ P s t->DataW.trod enc P w base (λ_=>true) held fuel t cs=some x->cs.length=P.cellsOf t∧∃ds,Dat s ds∧WDs w ds cs
theorem Kp[Inhabited α]{p:Nat->α->Prop}{m:Nat}(h:∀i,i<m->∃x,p i x):∃f:Nat->α,∀i,i<m->p i (f i):=
 ⟨λi=>if hi:i<m then Classical.choose (h i hi)else default,λi hi=>by
  grind⟩
theorem ad8(ih:Opn enc P w base held s):Opn enc P w base held (.sl s):=by
 intro t fuel cs x ht h;simp only[Typ]at ht;obtain⟨u,hu,hc1,hcu,hs⟩:=ht;rcases Deep.open_slice hu h with⟨rfl,_⟩|⟨a,len,cap,m,n,Dd,Pl,rfl,_,hlc,_,hm,_,hx⟩
 .exact⟨by grind,[.sl 0 []],⟨[],rfl,λx hx=>by cases hx⟩,_,_,rfl,.inl ⟨rfl,rfl,.inl rfl⟩,rfl⟩
 .simp only[if_true]at hm;subst hm;obtain⟨C,hC⟩:=Kp (α:=LvQ) hx
  obtain ⟨E,hE⟩:=Kp (α:=LdQ) (p:=λi e=>Dat s e∧WDs w e (C i)) (m:=m) λi hi=>by
   obtain⟨_,ds,h1,h2⟩:=ih _ _ _ _ hs (hC i hi).2
   grind
  have hCl:∀i,i<m->(C i).length=P.cellsOf u:=λi hi=>(World.cells?_some (hC i hi).1).2.1
  obtain⟨hl1,hl2⟩:=uY C (P.cellsOf u) m hCl;have hEl:∀i,i<m->(E i).length=P.cellsOf u:=λi hi=>by rw[(hE i hi).2.len,hCl i hi]
  refine⟨by grind,[.sl ((List.range len).map E).length ((List.range len).map E).flatten],⟨_,rfl,λx hx=>?_⟩,_,_,rfl,?_,rfl⟩
  .simp only[Zw,Wy]at hx;obtain⟨i,hi,rfl⟩:=hx;exact(hE i aa).1
  .rw[List.length_map,List.length_range,<-List.flatMap_def];refine RP (vs:=(List.range m).flatMap C) hcu hlc hl1 (λi v hv=>?_) ?_ (uY E (P.cellsOf u) len λi hi=>hEl i aa).1
   .have hi:=(List.getElem?_eq_some_iff.1 hv).1;rw[hl1]at hi;have hdm:=W7 i (P.cellsOf u);have hmod:=Yy i hcu;have hdiv:i/P.cellsOf u<m:=Wx (by grind);have e:i=i/P.cellsOf u*P.cellsOf u+i%P.cellsOf u:=by rw[Zo];exact hdm.symm
    have:=(World.cells?_some (hC _ hdiv).1).2.2 (i%P.cellsOf u) hmod
    grind[Addr.add_add]
   ·have e:((List.range m).flatMap C).take (len*P.cellsOf u)=(List.range len).flatMap C:=by
     have e1:List.range m=List.range len++(List.range (m-len)).map (len + ·):=by
      conv=>lhs;rw[show m=len+(m-len) by omega,List.range_add]
     rw[e1,Yk,Yd];exact(uY C (P.cellsOf u) len λi hi=>hCl i aa).1
    rw[e];exact Bg C E len λi hi=>(hE i aa).2
theorem ad9(ih:Opn enc P w base held s):Opn enc P w base held (.ar n s):=by
 intro t fuel cs x ht h;simp only[Typ]at ht;obtain⟨u,hu,hct,hs⟩:=ht;obtain⟨xs,m,_,_,hl,hxl,hx⟩:=DataW.trod_array hu h
 let C:Nat->LvQ:=λi=>(cs.drop (i*P.cellsOf u)).take (P.cellsOf u)
 obtain ⟨E,hE⟩:=Kp (α:=LdQ) (p:=λi e=>Dat s e∧WDs w e (C i)) (m:=n) λi hi=>by
  have:=hx i hi;rw[List.getElem?_eq_getElem aa]at this;obtain⟨_,ds,h1,h2⟩:=ih _ _ _ _ hs this
  grind
 refine⟨hl,((List.range n).map E).flatten,⟨_,rfl,ac,λx hx=>?_⟩,?_⟩
 .grind
 .rw[<-List.flatMap_def]
  have e:∀m,m<=n->cs.take (m*P.cellsOf u)=(List.range m).flatMap C:=by
   intro m
   induction m with
   |zero=>simp
   | succ m ihm=>
    intro hm;rw[Xp,List.take_add,ihm aa];simp[Wn,C]
  have:=e n (Z8 _);rw[Z2 aa]at this
  grind[Bg]
mutual
theorem opn:∀s:Sh,Opn enc P w base held s
 | .int k=>by
  intro t fuel cs x ht h;simp only[Typ]at ht;obtain⟨n,rfl,_,hw⟩:=DataW.trod_int ht.1 h;exact⟨by grind,[.int k n],⟨n,rfl,hw⟩,_,_,rfl,rfl,rfl⟩
 | .bool=>by
  intro t fuel cs x ht h;simp only[Typ]at ht;obtain⟨b,rfl,_⟩:=DataW.trod_bool ht.1 h;exact⟨by grind,[.bool b],⟨b,rfl⟩,_,_,rfl,rfl,rfl⟩
 | .str=>by
  intro t fuel cs x ht h;simp only[Typ]at ht;obtain⟨s,rfl,_,hs⟩:=DataW.trod_string ht.1 h;exact⟨by grind,[.str s.data.toList],⟨_,rfl,by trivial⟩,_,_,rfl,rfl,rfl⟩
 |.sl e=>ad8 (opn e)
 |.ar n e=>ad9 (opn e)
 | .st ss=>by
  intro t fuel cs x ht h;simp only[Typ]at ht;obtain⟨l,hu,hl⟩:=ht;obtain⟨xs,m,_,_,hcl,hxl,hx⟩:=DataW.trod_struct hu h;refine⟨hcl,?_⟩
  have:=afV ss (l:=l) (o:=0) (n:=P.cellsOf t) (fuel:=m) (cs:=cs) hl hcl λf hf=>by
   obtain⟨i,hi⟩:=List.getElem?_of_mem hf;have h1:=hx i f (by grind)
   grind
  trivial
theorem afV:∀(ss:List Sh){l:List Field}{o n fuel:Nat}{cs:LvQ},TQ P ss l o n->cs.length=n ->
  (∀f∈l,∃x,DataW.trod enc P w base (λ_=>true) held fuel f.type ((cs.drop f.offset).take (P.cellsOf f.type))=some x)->∃ds,ae8 ss ds∧WDs w ds (cs.drop o)
 | [],l,o,n,fuel,cs,ht,hl,h=>by
  simp only[TQ]at ht;refine⟨[],rfl,?_⟩;rw[Y8 aa];rfl
 | s::ss,l,o,n,fuel,cs,ht,hl,h=>by
  simp only[TQ]at ht;obtain⟨f,r,rfl,rfl,h1,h2⟩:=ht;obtain⟨x,hx⟩:=h f ac;obtain⟨_,a,ha,wa⟩:=opn s _ _ _ _ h1 hx;obtain⟨b,hb,wb⟩:=afV ss h2 hl λg hg=>h g (by grind)
  refine⟨a++b,⟨a,b,rfl,ha,hb⟩,?_⟩
  have e:cs.drop f.offset=(cs.drop f.offset).take (P.cellsOf f.type)++cs.drop (f.offset+P.cellsOf f.type):=by
   rw[<-List.drop_drop,Xu]
  grind[WDs.append]
end
inductive Ar where
 |one (x:D)
 |many (xs:LdQ)
def Ar.v:Ar->V
 |.one x=>.d x
 |.many xs=>.agg (xs.map .d)
def WA(w:World):Ar->Value->Prop
 |.one x,v=>WD w x v
 |.many xs,v=>∃ws,v=.agg ⟨ws⟩∧WDs w xs ws
def WAs(w:World):List Ar->LvQ->Prop
 |[],l=>l=[]
 |x::xs,l=>∃v vs,l=v::vs∧WA w x v∧WAs w xs vs
theorem UW{F1:Nat->Prop}{H1:AH}(φ0:LnQ)(h0:Hp):∀(ds:LdQ)(us:LvQ),RDs F1 H1 ds us->RVs φ0 F1 H1 h0 (ds.map .d) us
 |[],us,h=>by trivial
 | d::ds,us,h=>by
  simp only[RDs]at h;obtain⟨u,us,rfl,h1,h2⟩:=h;exact⟨u,us,rfl,h1,UW φ0 h0 ds us h2⟩
def RAs(F:Nat->Prop)(H:AH)(rs:List Ar)(us:LvQ):Prop:=∀φ0 h0,RVs φ0 F H h0 (rs.map Ar.v) us
theorem aem:∀(rs:List Ar)(vs:LvQ){φ:bJ}{F:Nat->Prop}{H:AH},Ly w φ F H->WAs w rs vs ->
  ∃φ' F' H' us,Ly w φ' F' H'∧uL φ F H φ' F' H'∧am φ' us vs∧RAs F' H' rs us
 |[],vs,φ,F,H,L,h=>⟨φ,F,H,[],L,uL.refl ..,by trivial,λ_ _=>rfl⟩
 | .one x::rs,vs,φ,F,H,L,h=>by
  simp only[WAs,WA]at h;obtain⟨v,vs,rfl,h1,h2⟩:=h;obtain⟨φ1,F1,H1,u,L1,E1,r1,d1⟩:=lay x v L h1;obtain⟨φ2,F2,H2,us,L2,E2,r2,d2⟩:=aem rs vs L1 h2;exact⟨φ2,F2,H2,u::us,L2,E1.trans E2,⟨v,vs,rfl,ak.mono E2.le u v r1,r2⟩,λφ0 h0=>⟨u,us,rfl,RD.mono (E2.leF L1) _ _ d1,d2 φ0 h0⟩⟩
 | .many xs::rs,vs,φ,F,H,L,h=>by
  simp only[WAs,WA]at h;obtain⟨v,vs,rfl,⟨ws,rfl,h1⟩,h2⟩:=h;obtain⟨φ1,F1,H1,us1,L1,E1,r1,d1⟩:=lays xs ws L h1;obtain⟨φ2,F2,H2,us,L2,E2,r2,d2⟩:=aem rs vs L1 h2;exact⟨φ2,F2,H2,.agg ⟨us1⟩::us,L2,E1.trans E2,⟨_,vs,rfl,⟨ws,rfl,am.mono E2.le _ _ r1⟩,r2⟩,λφ0 h0=>⟨_,us,rfl,⟨us1,rfl,UW φ0 h0 _ _ (RDs.mono (E2.leF L1) _ _ d1)⟩,d2 φ0 h0⟩⟩
theorem Kq{f:FuncId}{rs:List Ar}{vs:LvQ}{b:Bool}{w:World}(hc:CP Y f (rs.map Ar.v) (.d (.bool b)))(hw:WAs w rs vs)(hp:RJ w)(h0:∀u,Y.X.orc f u=none:=by exact λ_=>rfl):
  Calls X.P f vs.toArray w λe w'=>e=.returned (.bool b)∧w'.os=w.os∧w'.output=w.output∧w.heap.size<=w'.heap.size∧∀c,c<w.heap.size->w'.heap[c]?=w.heap[c]?:=by
 obtain⟨φ,F,H,L,g⟩:=start hp;obtain⟨φ1,F1,H1,us,L1,E1,r1,d1⟩:=aem rs vs L hw;obtain⟨n,wv,H2,F2,hcall,hn,_,_,_,_,_,_,_,hr⟩:=agM vOk hc F1 H1 us L1.wf L1.fr (g.mono (E1.leF L)) d1
 have hv:wv=.bool b:=by
  have:=hr [] [];simpa only[RV,RD]using this
 subst hv;refine(Nl aeb hcall L1.rel (args':=vs.toArray) r1 h0).mono ?_;rintro e w' ⟨φ',v',rfl,h1,h2,h3,h4⟩;have hv':v'=.bool b:=(ak.of_plain (.bool b) rfl v').1 h1;subst hv';refine⟨rfl,h3.os,h3.out,h3.size,λc hc=>h3.frame c hc ?_⟩;rintro⟨b',p,x,_,_,hx,_,hwr⟩
 grind[Ly.ro]
theorem TY{v:Value}{x:DataW HH×List MemPlace}(ht:Typ P s t)(hc:P.cellsOf t=1)(h:DataW.trod enc P w base (λ_=>true) held fuel t v.cells.toList=some x)(hv:∀cs,v≠.agg cs):
  ∃d,Dat s [d]∧WA w (.one d) v:=by
 obtain⟨hl,ds,h1,h2⟩:=opn s _ _ _ _ ht h
 have hcl:v.cells.toList=[v]:=by
  cases v<;>first|rfl|grind
 rw[hcl]at h2;have:=h2.len;obtain⟨d,rfl⟩:∃d,ds=[d]:=List.length_eq_one_iff.1 this;simp only[WDs]at h2;obtain⟨v',vs',e,h2,_⟩:=h2;simp only[List.cons.injEq]at e;obtain⟨rfl,_⟩:=e;exact⟨d,h1,h2⟩
theorem aaI{v:Value}{x:DataW HH×List MemPlace}(ht:Typ P s t)(h:DataW.trod enc P w base (λ_=>true) held fuel t v.cells.toList=some x)(hv:∃cs,v=.agg cs):
  ∃ds,Dat s ds∧WA w (.many ds) v:=by obtain⟨hl,ds,h1,h2⟩:=opn s _ _ _ _ ht h;obtain⟨cs,rfl⟩:=hv;exact⟨ds,h1,cs.toList,rfl,h2⟩
theorem NU{P:Program}{base:Nat}{fs:Array Field}{v:Value}(ht:P.underlying t=some (.struct fs))(h:Value.okWide P W .any base t v):∃cs,v=.agg cs:=by grind[Value.okWide]
theorem Gw{f:α->LdQ}(q:α->Prop)(hs:∀ds,Dat s ds->∃a,ds=f a∧q a){d:D}(h:Dat (.sl s) [d]):∃l:List α,d=.sl l.length (l.flatMap f)∧∀a∈l,q a:=by
 simp only[Dat,List.cons.injEq,and_true]at h;obtain⟨xs,rfl,hx⟩:=h
 have:∀xs:List LdQ,(∀x∈xs,Dat s x)->∃l:List α,xs=l.map f∧∀a∈l,q a:=by
  intro xs
  induction xs with
  |nil=>simp
  | cons x xs ih=>
   intro h;obtain⟨n,rfl,hn⟩:=hs x (h x ac);obtain⟨zs,rfl,hz⟩:=ih λy hy=>h y (by grind)
   exact⟨n::zs,rfl,λm hm=>by grind⟩
 obtain⟨l,rfl,hl⟩:=this xs hx;exact⟨l,by rw[List.length_map,<-List.flatMap_def],hl⟩
def RL(W W':World):Prop:=W'.os=W.os∧W'.output=W.output∧W.heap.size<=W'.heap.size∧∀c,c<W.heap.size->W'.heap[c]?=W.heap[c]?
variable{H:Type}{enc:TypeId×Value->H}{P:Program}
theorem RL.but(h:RL W W')(may:MemPlace->Prop):W.keptBut W' may:=by
 refine⟨h.1,h.2.1,λi hi=>?_⟩;rw[h.2.2.2 i hi];cases hq:W.heap[i]? with
 |none=>simp
 |some o=>cases o<;>simp
theorem SB{f:Func}{s:ChangeSpec}{apart fresh handsOn again:Bool}{W W':World}{args:Array Value}{v:Value}{ds gs:List (DataW H)}{before pa pv:List MemPlace}
  (hW:DataW.Whole enc P f.params.toList s.vars apart W args.toList ds gs before)
  (hres:∀(b:Nat)(sp:Nat->Bool)(hd:Bool),DataW.TrodAll enc P W' b sp hd f.resultTypes.toList (v.resultList f.resultTypes.size) (s.fn H (ds++gs)).results [])
  (hargs:∀sp:Nat->Bool,(∀p∈before,sp p.block=true)->DataW.TrodAll enc P W' 0 sp true f.params.toList args.toList (s.fn H (ds++gs)).args pa)
  (hvars:∀sp:Nat->Bool,(∀p∈before,sp p.block=true)->DataW.TrodVars enc P W' sp s.vars (s.fn H (ds++gs)).vars pv)
  (hps:before=pa++pv) (hk:RL W W')
  (hok:∀(j:Nat)(t:TypeId)(r:Value),f.resultTypes[j]?=some t->(v.resultList f.resultTypes.size)[j]?=some r->Value.okWide P W' .any 0 t r) :
  s.post enc P f apart fresh handsOn again W args v W':=by
 have hold:∀p∈before,(λb=>decide (b<W.heap.size)) p.block=true:=λp hp=>by simpa using hW.lt p hp
 have hlt:=hW.lt;refine⟨ds,gs,before,[],pa,pv,hW,hres _ _ _,hargs _ hold,hvars _ hold,World.keptBut_mono (λp hp=>⟨hp,?_⟩) (hk.but (· ∈ before)),λ_=>?_⟩
 .rw[hps,Xx]at hp;exact Or.inr hp
 .obtain⟨_,_,_,_,_,hz,hn⟩:=hW;refine⟨hok,_,_,([]++pa)++pv,⟨[]++pa,pv,trodAll_append (hargs _ (λ_ _=>rfl)) (hres _ _ _),hvars _ (λ_ _=>rfl),rfl,?_,?_⟩,?_⟩
  .intro b off hp;have hp':MemPlace.cell b off∈before:=by rw[hps];simpa using hp
   have hb:b<W.heap.size:=hlt _ hp';have:=hz b off hp';simp only[World.frozen?]at this ⊢;rw[hk.2.2.2 b hb];exact this
  .intro ha;have:=hn ha;rw[hps]at this;simpa using this
  .intro p hp _;rw[hps];simpa using hp
theorem zD(hl:laidOutB P=true){W W':World}(hk:RL W W'){sp:Nat->Bool}:∀{ts:List TypeId}{vs:LvQ}{ds:List (DataW H)}{ps:List MemPlace},(∀t∈ts,P.readableRec t=true∧t<P.types.size) ->
  DataW.TrodAll enc P W 0 (λ_=>true) true ts vs ds ps->(∀p∈ps,p.block<W.heap.size)->(∀p∈ps,sp p.block=true)->DataW.TrodAll enc P W' 0 sp true ts vs ds ps
 | [],vs,ds,ps,_,h,_,_=>by
  obtain⟨rfl,rfl,rfl⟩:=trodAll_nil h;exact trodAll_mk0
 | t::ts,vs,ds,ps,hr,h,hlt,hsp=>by
  obtain⟨v,vs',d,ds',p,q,rfl,rfl,rfl,h1,h2⟩:=trodAll_cons h;refine trodAll_cons_mk (WideElems.Trod_stays hl (hr t ac).1 (hr t ac).2 h1 (λx hx=>?_) λx hx=>hsp x (by simp[hx])) (zD hl hk (λu hu=>hr u (by simp[hu])) h2 (λx hx=>hlt x (by simp[hx])) λx hx=>hsp x (by simp[hx]));have hb:=hlt x (by simp[hx]);cases x with
  | cell b off=>
   simp only[World.sameAt,World.cell?];rw[hk.2.2.2 b hb]
  |map b=>exact hk.2.2.2 b hb
theorem FN{P:Program}{w:World}:∀{l:List (String×DataW Unit)}{ps:List MemPlace},DataW.LaidVars P w l ps->∀n d,(n,d)∈l ->
  ∃g t cs fuel p,P.globalNamed n=some g∧(P.globals[g]?).map (·.type)=some t∧w.var? P n=some cs∧DataW.trod (λ_=>()) P w 0 (λ_=>true) false fuel t cs.toList=some (d,p)
 |[],_,_,_,_,hm=>by cases hm
 | (n',d')::r,ps,h,n,d,hm=>by
  obtain⟨g,t,cs,fuel,p,q,h1,h2,h3,h4,h5,_⟩:=h;rcases Zx.1 hm with e|e
  .cases e;exact⟨g,t,cs,fuel,p,h1,h2,h3,h4⟩
  .exact FN h5 n d e
def ad4:LiQ:=[1,10,100,1000,10000,100000,1000000,10000000,100000000,1000000000,10000000000,100000000000,1000000000000,10000000000000,100000000000000,1000000000000000,10000000000000000,100000000000000000,1000000000000000000,10000000000000000000]
theorem ad2{P:Program}{W:World}{name:String}{t e:TypeId}(hg:P.globalNamed name=some oP)(hty:(P.globals[oP]?).map (·.type)=some t)(ht:P.underlying t=some (.array 20 e))(he:P.underlying e=some (.int .u64))(hce:P.cellsOf e=1)(hct:P.cellsOf t=20)
  {l:List (String×DataW Unit)} (hm:(name,Lib.tabData .u64 ad4)∈l) (h:laidMet P l W):RJ W:=by
 obtain⟨ps,hv,_⟩:=h;obtain⟨g',t',cs,fuel,p,hg',ht',hvar,hd⟩:=FN hv _ _ hm;obtain rfl:=Option.some.inj (hg.symm.trans hg');obtain rfl:=Option.some.inj (hty.symm.trans ht')
 have tab:Lib.TabIs P W name .u64 ad4:=by
  unfold Lib.TabIs;rw[hvar,<-Lib.cells_of_tab ht he hce hct hd]
 have hpv:∀i v,BC[i]?=some v->W.cell? ((⟨oP,0,none⟩:Addr).add i)=some v:=by
  intro i v hv;have hi:i<20:=(List.getElem?_eq_some_iff.1 hv).1;rw[addr_add _ rfl];have h1:=tab.cell hg i hi;simp only[Zj];rw[h1];have h2:BC=ad4.map λz=>Value.int .u64 z:=rfl
  rw[h2,List.getElem?_map,Z4]at hv;obtain⟨z,hz,rfl⟩:=hv;simp[hz]
 obtain⟨cs,e,fz,h1,_,h2,h3⟩:=IJ (w:=W) (a:=⟨oP,0,none⟩) (vs:=BC) hpv af;exact⟨cs,e,fz,h1,by simpa[BC]using h2,by simpa[BC]using h3⟩
variable{p:LiQ}{c w w':Mz}{e:Int}
theorem JG(h:GtE p c w e)(he:e≠0){l:Mz}:CP Y F.ii [tpV p c w,mat l] (.tup [.agg [lst di [],lst di [],B false,B false,B false],I e]):=by refine x9 ?_;simp only[ii,tpV];simp;refine cd (args:=[tpV p c w,mat l]) (zI h he) ?_ (by rfl);simp[he];exact⟨_,rfl⟩
theorem NL(h:GtE p c w e)(he:e≠0){g:V}(hg:∀h,bV h g=some (g,h)):CP Y F.eB [tpV p c w,g] (.tup [.agg [lst di [],lst di [],lst di [],lst di []],I e]):=by
 refine pN ?_;simp only[eB,tpV];simp;refine cd (args:=[tpV p c w]) h ?_ (by rfl);have ok1:∀m:LiQ,okV (lst di m)=true:=λ_=>rfl
 simp[he,ok1];exact⟨_,rfl⟩
theorem NM(h:rY p c w)(hg:gtB w=0){g:List Tx}(hl:∀x∈g,x.1.length<1000000000∧x.2.length<1000000000)(hn:g.length<1000)(he:siB p g≠0):CP Y F.eB [tpV p c w,iQ aB g] (.tup [.agg [lst di [],lst di [],lst di [],lst di []],I (siB p g)]):=by
 refine pN ?_;have h12:=h.lc.n12;have a2:=EP (p:=p) (s:=g) aa hl aa;have ok1:∀m:LiQ,okV (lst di m)=true:=λ_=>rfl
 simp only[eB,tpV];simp;refine cd (args:=[tpV p c w]) (OK h hg) ?_ (by rfl);simp[ok1];refine cd a2 ?_ (by rfl);simp[he];exact⟨_,rfl⟩
theorem Tq{lo:List Q}(h1:lo.length<1000000)(h2:hi.length<1000000){a b d:Bool}:CP Y F.fC [.agg [szV lo,szV hi,B a,B b,B d],.agg [szV lo,szV hi,B a,B b,B d]] (B true):=by refine wY ?_;simp only[fC];simp;refine cd (pB h1) ?_ (by rfl);simp;refine cd (pB h2) ?_ (by rfl);simp
theorem Tt:CP Y F.fC [.agg [lst di [],lst di [],B false,B false,B false],.agg [lst di [],lst di [],B false,B false,B false]] (B true):=Tq (lo:=[]) (hi:=[]) ac ac
theorem GD:CP Y F.dX [.agg [lst di [],lst di [],B false,B false,B false]] (B true):=by refine wZ ?_;simp only[dX];simp;refine cdz (h':=_) (by rfl) Tt ?_;simp
theorem Gn{m:Mz}(hN:m.length<1000000)(hr:∀r∈m,r.length<1000000)(k:KL):∀(q a:Mz),a++q=m->k (.exit 0) [] [] ->
  lp (jK (CX Y) (mat m) (mat m)) [] [] [I a.length] [] k
 | [],a,e,hK=>by
  simp only[Zq]at e;subst e;refine aj ?_;have l1:aO (mat a)=some (I a.length):=rfl;simp only[jK];simp[l1];exact hK
 | x::q,a,e,hK=>by
  refine aj ?_;have hal:a.length<m.length:=by rw[<-e];simp
  have hlt:((a.length:Int)<(m.length:Int)):=aa;have l1:aO (mat m)=some (I m.length):=rfl
  have i1:∀h:Hp,ixV h 1 (mat m) (I a.length)=some (.dptr (m.map row) a.length):=λh=>by
   rw[<-e];simp
  have i2:∀h:Hp,ld1 h (.dptr (m.map row) a.length)=some (lst di x):=λh=>by
   rw[<-e];simp;rfl
  have er:=AN (s:=x) (t:=x) (hr x (by grind));rw[decide_eq_true rfl]at er;have ih:=Gn hN hr k q (a++[x]) (by simp[e]) hK;have e4:((a++[x]).length:Int)=(a.length:Int)+1:=ac;rw[e4]at ih;simp only[jK];simp[hlt,l1,i1,i2];refine cd er ?_ (by rfl);simp(disch:=try exact ae)
  grind[dC,lo]
theorem Gm(hN:m.length<1000000)(hr:∀r∈m,r.length<1000000):CP Y F.fA [mat m,mat m] (B true):=by refine wW ?_;have l1:aO (mat m)=some (I m.length):=rfl;simp only[fA];simp[l1];refine lo (Gn hN hr _ m [] rfl ?_);simp
theorem Sq(h:rY p c w):CP Y F.ip [tpV p c w,tpV p c w] (B true):=by
 have hn:=h.lc.n12;have ep:=AN (s:=p) (t:=p) aa;rw[decide_eq_true rfl]at ep;have ec:=Gm (m:=c) (by have:=h.lc.ml;omega) λr hr=>by rw[h.lc.rl r hr];omega
 have ew:=Gm (m:=w) (by have:=h.lw.ml;omega) λr hr=>by rw[h.lw.rl r hr];omega
 have key:CP Y F.im [tpV p c w,tpV p c w] (B true):=by
  refine ye ?_;simp only[im,tpV];simp;refine cd ep ?_ (by rfl);simp;refine cd ec ?_ (by rfl);simp;refine cd ew ?_ (by rfl);simp
 refine yf ?_;simp only[ip,tpV];simp;refine cd (args:=[tpV p c w,tpV p c w]) key ?_ (by rfl);simp
theorem YN{h:Hp}{n:Nat}(hN:n<1000000)(h2:h.length=2)(K:KL)(h0:Hp)(hh:h0.length=3):∀(m k:Nat),k+m=n->K (.exit 0) [] (hz h (List.replicate n zT)) ->
  lp (il (CX Y) (.ref 2 1 0 n n (n*2))) [] h0 [I k] (hz h (List.replicate k zT++List.replicate m cD)) K
 | 0,k,hk,hK=>by
  have e:k=n:=aa;subst e;have l1:aO (.ref 2 1 0 k k (k*2))=some (I k):=rfl;rw[Wr,Zq];refine aj ?_;simp[il,l1];exact hK
 | m+1,k,hk,hK=>by
  have h1:(k:Int)<(n:Int):=aa;have wo:=qu (n:=0) (d:=1) af af af af af;rw[FB]at wo;have hl:(List.replicate k zT++List.replicate (m+1) cD).length=n:=by simp;omega
  have e1:=ixR (ze h (List.replicate k zT++List.replicate (m+1) cD)) hl (c:=k) aa .i64;have e2:=stR (ze h (List.replicate k zT++List.replicate (m+1) cD)) hl (c:=k) aa zT;rw[J0,Jo,h2]at e2;rw[h2]at e1;have hlen:(hz h (List.replicate (k+1) zT++List.replicate m cD)).length=h0.length:=by simp[hz,hh,h2]
  have e1':ixV (hz h (List.replicate k zT++List.replicate (m+1) cD)) 2 (.ref 2 1 0 n n (n*2)) (I k)=some (.ptr 2 1 (k*2) (n*2)):=e1;have e3:st (hz h (List.replicate k zT++List.replicate (m+1) cD)) 2 (V.ptr 2 1 (k*2) (n*2)) (.agg (qT (0,1)))=some (hz h (List.replicate (k+1) zT++List.replicate m cD)):=e2;have l1:aO (.ref 2 1 0 n n (n*2))=some (I n):=rfl;refine aj ?_
  simp[il,h1,l1];refine cd wo ?_;simp(disch:=try exact ae)[e1',e3,hlen];have:=YN hN h2 K h0 hh m (k+1) aa hK;trivial
theorem OQ{k:Q}(hk:okQ k)(h0:0<p.length)(hN:p.length<1000):CP Y F.fF [tpV p c w,.agg (qT k)] (szV (tn p.length k)):=by
 refine uU ?_;have l1:aO (lst di p)=some (I p.length):=rfl;obtain⟨m,hm⟩:∃m,p.length=m+1:=⟨p.length-1,aa⟩;obtain⟨h,hh⟩:∃h:Hp,h=[(1,.vars [lst di p,mat c,mat w]),(1,.vars (qT k))]:=⟨_,rfl⟩;simp only[fF,tpV,qT];simp[l1];refine Ow (s:=2) (e:=0) (b:=.none) (n:=p.length) rfl aa ?_;simp only[qT]at hh
 have e0:([(1,Bk.vars [lst di p,mat c,mat w]),(1,Bk.vars [S (itoa k.fst),S (ah k.snd)]),(0,Bk.none)]:Hp).set 2 (0+1,.data 2 ((List.replicate p.length cD).flatMap aB) true false)=hz h (List.replicate 0 zT++List.replicate p.length cD):=by rw[hh];rfl
 rw[e0];refine YN aa (by rw[hh];rfl) _ _ (by rw[hh];rfl) p.length 0 aa ?_;have hl:(List.replicate p.length zT).length=p.length:=ac;have hg:(hz h (List.replicate p.length zT))[2]?=some (1,.data 2 ((List.replicate p.length zT).flatMap aB) true false):=by rw[hh];rfl
 have i0:=ixR hg hl (c:=0) h0 .i64;have s0:=stR hg hl (c:=0) h0 (tx k)
 have es:(List.replicate p.length zT).set 0 (tx k)=(tn p.length k).map tx:=by
  rw[hm,DI hk,List.replicate_succ,List.set_cons_zero,Zs,List.map_replicate];rfl
 rw[es]at s0;have i0':ixV (hz h (List.replicate p.length zT)) 2 (.ref 2 1 0 p.length p.length (p.length*2)) (.d (.int .i64 0))=some (.ptr 2 1 0 (p.length*2)):=by simpa using i0
 have s0':st (hz h (List.replicate p.length zT)) 2 (.ptr 2 1 0 (p.length*2)) (.agg [S (itoa k.1),S (ah k.2)])=some ((hz h (List.replicate p.length zT)).set 2 (1,.data 2 (((tn p.length k).map tx).flatMap aB) true false)):=by simpa[tx]using s0
 have l2:lO (hz h (List.replicate p.length zT)) 1 1=.vars [S (itoa k.1),S (ah k.2)]:=by rw[hh];rfl
 have pl:((tn p.length k).map tx).length=p.length:=by rw[<-es];simp
 have sn:=Li (h:=(hz h (List.replicate p.length zT)).set 2 (1,.data 2 (((tn p.length k).map tx).flatMap aB) true false)) (s:=2) (e:=1) (n:=p.length) (l:=(tn p.length k).map tx) (ex:=true) (fr:=false) (by rw[hh];rfl) pl;simp(disch:=try exact ae)[i0',s0',l2];exact⟨_,sn⟩
theorem aaA:∀{o s:List Q},o.length=s.length->(∀x∈o,okQ x)->(∀x∈s,okQ x)->rX (0,1) o s=o
 |[],[],_,_,_=>rfl
 |[],_::_,h,_,_=>by simp at h
 |_::_,[],h,_,_=>by simp at h
 | x::o,y::s,h,ho,hs=>by
  have hx:=ho x ac;have hy:=hs y ac
  have e:nK x (pf y (0,1))=x:=by
   have v:=I9 (show VQ x x.1 x.2 from⟨hx,by have:=hx.1;omega,rfl⟩) (I8 (show VQ y y.1 y.2 from⟨hy,by have:=hy.1;omega,rfl⟩) (sC 0));obtain⟨h1,h2,h3⟩:=v;refine Fo h1 hx ?_;have hy0:(y.2:Int)≠0:=by have:=hy.1;omega
   refine Xy hy0 ?_
   grind
  rw[rX,e,aaA (by simpa using h) (λz hz=>ho z (by simp[hz])) (λz hz=>hs z (by simp[hz]))]
theorem Gp:∀(m:Nat)(v:LiQ),xq (List.replicate m 0) v=0
 |0,v=>rfl
 |m+1,[]=>rfl
 |m+1,b::v=>by simp only[List.replicate_succ,xq,Gp m v];omega
theorem IB(h0:0<n){v:LiQ}(hv:v.length=n):xq (mX n) v=nth 0 v 0:=by
 cases v with
 |nil=>simp at hv;omega
 |cons b v=>simp only[mX,xq,Gp];simp[nth]
variable{p:LiQ}{c w:Mz}{g:List (List Q)}
theorem HJ(h:rY p c w)(hm:HmF p.length w)(hg:gtB w=0):cG w (mX p.length)=[nth 0 (nth [] w 0) 0,0]:=by
 obtain⟨w2,_⟩:=F5 hg;have h10:=LC hm hg;have rl:=h.lw.rl
 match w,w2 with
 | [u,v],_=>
  have e0:=IB h.lc.n0 (rl u ac);have e1:=IB h.lc.n0 (rl v ac);have n1:nth [] [u,v] 1=v:=rfl;rw[n1]at h10;simp only[cG,Zs,Yb,e0,e1,h10];rfl
theorem Ui(h:rY p c w)(hm:HmF p.length w)(hg:gtB w=0){s:List Q}(hl:s.length=p.length)(hs:okS s):NT p w (trG p w s) (mX p.length)=ofQ (mX p.length):=by
 obtain⟨d0,d1⟩:=Kd h hg;have hn0:=h.lc.n0;obtain⟨m,hm'⟩:∃m,p.length=m+1:=⟨p.length-1,aa⟩;rw[NT,HJ h hm hg,trG,pP];generalize nth 0 (nth [] w 0) 0=d at *
 have eh:nK (0,1) (pf (eU 1 d) (d,1))=(1,1):=by
  obtain⟨h1,h2,h3⟩:=I9 (sC 0) (I8 (aaM (n:=1) d0) (sC d));refine Fo h1 (sC 1).1 ?_;refine Xy d0 ?_
  grind
 have e1:rX (d,1) (List.replicate p.length (0,1)) (tn p.length (eU 1 d))=(1,1)::List.replicate m (0,1):=by
  rw[hm',DI (oZ d0),List.replicate_succ,rX,eh,Cr (sC d).1]
 show rX (0,1) (rX (d,1) (List.replicate p.length (0,1)) (tn p.length (eU 1 d))) s=_
 rw[e1,aaA (by simp[hl,hm']) (λx hx=>?_) λx hx=>(hs x hx).1]
 .rw[hm'];simp[ofQ,mX]
 .rcases Zx.1 hx with rfl|hx
  .exact(sC 1).1
  .rw[(Xt.1 hx).2];exact(sC 0).1
theorem RQ(ht:acV p c w g)(hp10:p.length<10)(hu:agK p w (mX p.length))(he:NT p w g (mX p.length)=ofQ (mX p.length)):CP Y F.nA [tuV p c w g] (.tup [B true,I 0]):=by
 refine GN ?_;have hn:=ht.tp.lc.n12;have a1:=K6 (h:=[(1,.vars (tuC p c w g)),nnQ]) rfl ht hp10 hu;rw[he]at a1;have a2:=Ft hu.b (by have:=hu.l;omega);have a3:=Ew ht;have a4:=UX ht.tp.lc.n0 aa;have hul:(mX p.length).length=p.length:=hu.l;have a5:=UF (s:=ofQ (mX p.length)) (t:=ofQ (mX p.length)) (by rw[vd];omega)
 rw[decide_eq_true rfl]at a5;have l1:aO (lst di p)=some (I p.length):=rfl;have hfl:(prC (ofQ (mX p.length))).length=p.length*2:=by rw[u5,vd,hul]
 simp only[nA,tuV];simp only[tuC]at *;simp;refine cd (args:=[tuV p c w g]) a3 ?_ (by rfl);simp[l1];refine cd a4 ?_ (by rfl);simp;refine oN (GB (e:=0) (b:=.none) a1 rfl ?_);rw[hfl];simp;refine cd a2 ?_ (by rfl);simp
 have sn:=Li (h:=[(1,.vars [lst di p,mat c,mat w,lst szD g]),(1,.data 2 (((ofQ (mX p.length)).map tx).flatMap aB) true false)]) (s:=1) (e:=1) (n:=p.length) (l:=(ofQ (mX p.length)).map tx) rfl (by simp[vd,hul]);have e5:∀(h:Hp)(l:List Q),bV h (szV l)=some (szV l,h):=λh l=>rfl
 have sn':bV [(1,Bk.vars [lst di p,mat c,mat w,lst szD g]),(1,Bk.data 2 (prC (ofQ (mX p.length))) true false)] (.ref 1 1 0 p.length p.length (p.length*2))=some (szV (ofQ (mX p.length)),[(1,.vars [lst di p,mat c,mat w,lst szD g]),(1,.data 2 (((ofQ (mX p.length)).map tx).flatMap aB) true true)]):=sn;refine cdz (by simp only[aK,sn',e5];rfl) a5 ?_;simp;exact⟨_,rfl⟩
variable{p:LiQ}{c w:Mz}
theorem Ua(h:rY p c w):CP Y F.jp [tpV p c w] (I (gtB w)):=by
 refine yN ?_;simp only[jp,tpV];simp;have l1:aO (mat w)=some (I w.length):=rfl;by_cases h2:w.length=2
 .have i1:∀h:Hp,ixV h 1 (mat w) (.d (.int .i64 0))=some (.dptr (w.map row) 0):=λh=>fN row w h rfl aa
  have i2:∀h:Hp,ld1 h (.dptr (w.map row) 0)=some (lst di (nth [] w 0)):=λh=>eV row [] w h aa
  have hr:(nth [] w 0).length=p.length:=h.lw.rl _ (by rw[cO _ _ _ aa];simp);have hp:=h.lw.n0;have i3:∀h:Hp,ixV h 1 (lst di (nth [] w 0)) (.d (.int .i64 0))=some (.dptr ((nth [] w 0).map di) 0):=λh=>fN di _ h rfl aa
  have i4:∀h:Hp,ld1 h (.dptr ((nth [] w 0).map di) 0)=some (I (nth 0 (nth [] w 0) 0)):=λh=>eV di 0 _ h aa
  have h2':(w.length:Int)=2:=aa;by_cases h0:nth 0 (nth [] w 0) 0=0
  .simp[l1,h2',i1,i2,i3,i4,h0]
   grind[aW,gtB]
  .simp[l1,h2',i1,i2,i3,i4,h0]
   grind[aW,gtB]
 .have h2':¬(w.length:Int)=2:=aa;simp[l1,h2']
  grind[aW,gtB]
theorem Qf{p:LiQ}(h0:0<p.length)(hd:d≠0)(hb : -1000000000<=d∧d<=1000000000):(tn p.length (eU 1 d)).length=p.length∧okS (tn p.length (eU 1 d)):=by
 obtain⟨m,hm⟩:∃m,p.length=m+1:=⟨p.length-1,aa⟩;rw[hm,DI (oZ hd)];refine⟨ac,λy hy=>?_⟩;rcases Zx.1 hy with rfl|hy
 .exact⟨oZ hd,QC aa aa⟩
 .rw[(Xt.1 hy).2];exact Fj aa
theorem TW{n d:LuQ}(h:rdF n d=some q):n=itoa q.1∧d=ah q.2∧okQ q:=by
 unfold rdF at h;cases h1:rd n with
 |none=>rw[h1]at h;cases h
 | some x=>
  cases h2:rd d with
  |none=>rw[h1,h2]at h;cases h
  | some y=>
   rw[h1,h2]at h;simp only at h;split at h
   .rename_i hc;obtain rfl:=Option.some.inj h;refine⟨(Dz h1).1,?_,by show 0<y.natAbs;omega,hc.2⟩;rw[(Dz h2).1];unfold itoa;rw[if_neg aa]
   .cases h
theorem aed{x:Tx}(h:SK x=true):∃q:Q,x=tx q∧okQ q∧qL 30 q:=by
 simp only[SK,Z7,pd,decide_eq_true_eq]at h;obtain⟨⟨s1,s2⟩,hq⟩:=h;obtain⟨q,hq⟩:=Option.isSome_iff_exists.1 hq;obtain⟨e1,e2,ok⟩:=TW hq;rw[e1,pX]at s1;rw[e2,<-jE,pX,Int.natAbs_natCast]at s2;have h1:(ah q.1.natAbs).length=ndg q.1.natAbs:=ba _ _;have h2:(ah q.2).length=ndg q.2:=ba _ _;refine⟨q,?_,ok,aa,aa⟩;unfold tx
 rw[<-e1,<-e2]
theorem Qt:∀{s:List Tx},s.all SK=true->∃l:List Q,s=l.map tx∧okS l
 |[],_=>⟨[],rfl,λx hx=>by cases hx⟩
 | x::s,h=>by
  simp only[List.all_cons,Z7]at h;obtain⟨q,e,h1,h2⟩:=aed h.1;obtain⟨l,e2,h3⟩:=Qt h.2;refine⟨q::l,by rw[e,e2];rfl,λy hy=>?_⟩;rcases Zx.1 hy with rfl|hy
  .exact⟨h1,h2⟩
  .exact h3 y hy
theorem aaZ{s:List Tx}(h:wQ s=0):∃l:List Q,s=l.map tx∧okS l:=Qt (by rw[<-HP,decide_eq_true h])
theorem Ra{g:List Tx}(hN:g.length<1000)(h0 h:Hp)(K:KL):∀(q a:List Tx),a++q=g->(∀t∈a,t.1.length<=40∧t.2.length<=40)->((∀t∈g,t.1.length<=40∧t.2.length<=40)->K (.exit 0) [] h)->K .ret [B true] h ->
  lp (bY (CX Y) (iQ aB g)) [] h0 [I a.length] h K
 | [],a,e,ha,hK,hR=>by
  simp only[Zq]at e;subst e;refine aj ?_;simp only[bY];simp;exact hK ha
 | t::q,a,e,ha,hK,hR=>by
  refine aj ?_;have hal:a.length<g.length:=by rw[<-e];simp
  have hlt:((a.length:Int)<(g.length:Int)):=aa;have ht:nth ([],[]) g a.length=t:=by rw[<-e];simp[nth]
  have i1:=m9 aB aH g h (k:=.i64) (i:=(a.length:Int)) aa aa;have l1:=MC aB aH ([],[]) g h (j:=a.length) (o:=0) (x:=.str t.1) hal af (by rw[ht];rfl);rw[Nat.add_zero]at l1;have l2:=MC aB aH ([],[]) g h (j:=a.length) (o:=1) (x:=.str t.2) hal af (by rw[ht];rfl);simp only[Int.toNat_natCast]at i1
  have e4:((a++[t]).length:Int)=(a.length:Int)+1:=ac;by_cases h1:(40:Int)<t.1.length
  .simp only[bY];simp[hlt,i1,l1,h1];exact hR
  by_cases h2:(40:Int)<t.2.length
  .simp only[bY];simp[hlt,i1,l1,l2,h1,h2];exact hR
  have ih:=Ra hN h0 h K q (a++[t]) (by simp[e]) (λy hy=>by
   rcases Xx.1 hy with hy|hy
   .exact ha y hy
   .rw[Xa]at hy;subst hy;omega) hK hR
  rw[e4]at ih;simp only[bY];simp(disch:=try exact ae)[hlt,i1,l1,l2,h1,h2]
  grind[dC,lo]
theorem ah0(z:Int)(a b:Hp):(if cu (I z)=true then a else b)=a:=rfl
theorem VK{v:V}(h:cu v=false)(a b:Hp):(if cu v=true then a else b)=b:=by rw[h];rfl
theorem XP{k:LwQ->Hp->Prop}{T:(LwQ->Hp->Prop)->Prop}{u:PU k}{w:PU T}(P:LwQ->Hp->Prop)(hP:∀l h,P l h->k l h)(hT:∀q:LwQ->Hp->Prop,(∀l h,P l h->q l h)->T q):jo k T u w:=hT k hP
abbrev xp(A:Nat×Bk)(p:LiQ)(C:Mz)(y:V)(s2 s3 s4 s5 a b c d:Nat×Bk):Hp:=[A,(1,.vars [lst di p,mat C,y]),s2,s3,s4,s5,a,b,c,d]
theorem OC{k:Nat}{e:List I4}{g:List Tx}(hk:k<256)(hb:∀x∈e,ok4 x):
  CP Y F.cF [.agg [.d (.int .u8 k),iQ i4D e,B vals],iQ aB g,lst di x] (B true):=by
 refine qQ ?_;have ok3:okV (iQ i4D e)=true:=rfl;have sn1:∀h:Hp,aK h [.agg [.d (.int .u8 k),iQ i4D e,B vals]]=some ([.agg [.d (.int .u8 k),iQ i4D e,B vals]],h):=λh=>by rfl
 have lx:aO (lst di x)=some (I x.length):=rfl;have fi:=Tl (k:=k) (e:=e) (vals:=vals);simp only[cF];simp[ok3];refine cd vp ?_;simp;refine cd fi ?_ (sn1 _);by_cases he:e.length<=3
 case neg=>
  simp[he];refine cd vp ?_;simp
 by_cases h9:g.length<=8
 case neg=>
  have h9':(8:Int)<g.length:=aa;simp[he,h9'];refine cd vp ?_;simp
 by_cases h8:x.length<=8
 case neg=>
  have h8':(8:Int)<x.length:=aa;have h9':¬(8:Int)<g.length:=aa;simp[he,lx,h8',h9'];refine cd vp ?_;simp
 have h8':¬(8:Int)<x.length:=aa;have h9':¬(8:Int)<g.length:=aa;simp[he,lx,h8',h9'];refine lo (Ra aa _ _ _ g [] rfl ac (λhs=>?_) ?_)
 case refine_2=>simp
 obtain⟨p1,p2,p3,p4,p5⟩:=VJ _ (BD k);obtain⟨C,W,mk,PL⟩:=ad5 (vals:=vals) hk he hb;obtain⟨p,hp⟩:=nmQ (m6 k);rw[<-hp]at p1 p3 p4 mk PL;have T:=PL.t;have ok1:∀m:Mz,okV (mat m)=true:=λ_=>rfl
 have ok2:okV (lst di p)=true:=rfl;have snG:∀h:Hp,bV h (iQ aB g)=some (iQ aB g,h):=λh=>rfl
 have hli:∀h:Hp,eC 1 [nPQ] [(0,lst di x)] h=some ([row x],h):=λh=>Mw ..
 have eA:∀w':Mz,tpV p C w'=.agg [lst di p,mat C,mat w']:=λ_=>rfl
 obtain⟨A,hA⟩:∃A:Nat×Bk,A=(1,Bk.vars [V.d (D.int IntKind.u8 k),iQ i4D e,B vals]):=⟨_,rfl⟩;obtain⟨Z,hZ⟩:∃Z:Nat×Bk,Z=(0,Bk.none):=⟨_,rfl⟩;obtain⟨zr,hzr⟩:∃zr:LiQ,zr=List.replicate p.length 0:=⟨_,rfl⟩;simp only[tpV]at mk;simp;refine cd mk ?_ (sn1 _);simp[ok1,ok2,lx];rw[<-hA]
 refine XP (λl h=>∃y w' s2 s3 s4 s5 t3 t5,l=[]∧h=xp A p C y s2 s3 s4 s5 Z Z Z Z∧(∀a b c d,bV (xp A p C y s2 s3 s4 s5 a b c d) y=some (mat w',xp A p C y s2 t3 s4 t5 a b c d))∧(∀a b c d,bV (xp A p C y s2 t3 s4 t5 a b c d) y=some (mat w',xp A p C y s2 t3 s4 t5 a b c d))∧((x=[]∧w'=W++[zr])∨(x≠[]∧w'=W∧y=mat W∧t3=s3∧t5=s5))) ?_ ?_
 case refine_2=>
  intro q hq;simp;refine IN (λhx=>?_) (λhx=>?_)
  .have hl0:∀h:Hp,eC 0 [nPQ] [] h=some ([],h):=λh=>rfl
   simp[hl0];refine HW (by rfl) ?_;refine Le (by rfl) ?_
   have key:∀(y:V)(s2 s3 s4 s5 t3 t5:Nat×Bk),okV y=true->(∀a b c d,bV (xp A p C y s2 s3 s4 s5 a b c d) y=some (mat (W++[zr]),xp A p C y s2 t3 s4 t5 a b c d))->(∀a b c d,bV (xp A p C y s2 t3 s4 t5 a b c d) y=some (mat (W++[zr]),xp A p C y s2 t3 s4 t5 a b c d)) ->
     (bnd (faV 2 (V.ptr 1 1 0 3)) λv170=>stD (xp A p C (mat W) s2 s3 s4 s5 Z Z Z Z) 1 v170 y λx h=>q [] h):=by
    intro y s2 s3 s4 s5 t3 t5 hy h1 h2
    have hst:st (xp A p C (mat W) s2 s3 s4 s5 Z Z Z Z) 1 (.ptr 1 1 2 3) y=some (xp A p C y s2 s3 s4 s5 Z Z Z Z):=by
     cases y<;>first|(simp[st,sto,aw,bL,hy];done)|cases hy
    simp[hst];exact hq _ _ ⟨y,_,s2,s3,s4,s5,t3,t5,rfl,rfl,h1,h2,.inl ⟨hx,rfl⟩⟩
   have eZ:((List.replicate p.length 0).map di)=zr.map di:=by rw[hzr]
   have zl:zr.length=p.length:=by rw[hzr];simp
   have lp1:aO (lst di p)=some (I p.length):=rfl
   have lz:∀(s:Nat)(h:Hp)(e:Nat),h[s]?=some (e,.data 1 (zr.map di) true false)->eC 1 [nPQ] [(0,.ref s e 0 p.length p.length p.length)] h=some ([row zr],h.set s (e,.data 1 (zr.map di) true true)):=λs h e hs=>by
    have hl:(zr.map di).length=p.length:=by simp[zl]
    have hg:aw h s e=.data 1 (zr.map di) true false:=by simp[aw,hs]
    simp[eC,iH,kJ,toD,hg,zl,Z2,bL,row]
   by_cases hW:W=[]
   .subst hW
    show apV false 3 1 24 (V.ref 2 1 0 0 0 0) (mat []) _ _
    rw[show ∀h q,apV false 3 1 24 (V.ref 2 1 0 0 0 0) (mat []) h q=q (V.ref 2 1 0 0 0 0) h from λ_ _=>rfl];simp;refine HW (by rfl) ?_;refine af6 (s:=4) (e:=0) (b:=.none) (L:=p.length) (n:=p.length) rfl (Z8 _) aa ?_;rw[eZ]
    have z4:=lz 4 [A,(1,Bk.vars [lst di p,mat C,mat []]),(1,Bk.data 1 [] true false),(0,Bk.none),(1,.data 1 (zr.map di) true false),(0,Bk.none),(0,Bk.none),(0,Bk.none),(0,Bk.none),(0,Bk.none)] 1 rfl;simp[z4];refine aaw (s:=5) (s':=2) (e:=1) (es:=0) (by_:=24) (k:=1) (cs:=[row zr]) aa rfl rfl rfl (by rfl) (by intro t ht;cases ht) aa ?_
    have k1:=key (.ref 5 1 0 1 1 1) (1,Bk.data 1 [] true false) nnQ (1,.data 1 (zr.map di) true true) (1,.data 1 [row zr] false false) nnQ (1,.data 1 [row zr] false true) rfl (λ_ _ _ _=>by rfl) (λ_ _ _ _=>by rfl);rw[hZ]at k1;simp;exact k1
   .have hW0:0<W.length:=Xn.2 hW;have hw12:=T.lw.ml;refine aaw (s:=3) (s':=2) (e:=1) (es:=0) (by_:=24) (k:=W.length) (cs:=W.map row) hW0 rfl rfl ac (by rfl) (by intro t ht;cases ht) aa ?_;simp;refine HW (by rfl) ?_;refine af6 (s:=4) (e:=0) (b:=.none) (L:=p.length) (n:=p.length) rfl (Z8 _) aa ?_;rw[eZ]
    have z4:=lz 4 [A,(1,Bk.vars [lst di p,mat C,mat W]),(1,Bk.data 1 [] true false),(1,Bk.data 1 (List.map row W) false false),(1,.data 1 (zr.map di) true false),(0,Bk.none),(0,Bk.none),(0,Bk.none),(0,Bk.none),(0,Bk.none)] 1 rfl;simp[z4];have wl:(W.map row).length=W.length:=ac;have ew:(W.map row++[row zr]).length=W.length+1:=ac
    have em:mat (W++[zr])=.d (.sl (W.length+1) (W.map row++[row zr])):=by simp[lst]
    have k1:=key (.ref 3 1 0 (W.length+1) (W.length+1) (W.length+1)) (1,Bk.data 1 [] true false) (1,.data 1 (W.map row++[row zr]) false false) (1,.data 1 (zr.map di) true true) nnQ (1,.data 1 (W.map row++[row zr]) false true) nnQ rfl (λ_ _ _ _=>by
     rw[em];simp[bV,toD,aw,bL,Z2]) (λ_ _ _ _=>by
     rw[em];simp[bV,toD,aw,bL,Z2])
    rw[hZ]at k1
    have es:=λ(q:kkQ)=>acM (q:=q) (u:=.mk) (s:=5) (s':=3) (e:=1) (by_:=24) (n:=1) (k:=1) (L:=W.length) (cells:=W.map row) (cs:=[row zr]) (y:=.d (.sl 1 [row zr])) (h:=[A,(1,Bk.vars [lst di p,mat C,mat W]),(1,Bk.data 1 [] true false),(1,Bk.data 1 (List.map row W) false false),(1,.data 1 (zr.map di) true true),(0,Bk.none),(0,Bk.none),(0,Bk.none),(0,Bk.none),(0,Bk.none)]) aa aa rfl ac rfl rfl (by intro t ht;cases ht) aa
    simp only[wl,ew]at es;refine es _ ?_;simp;exact k1
  .exact hq _ _ ⟨mat W,W,nnQ,nnQ,nnQ,nnQ,nnQ,nnQ,rfl,by rw[hZ],λ_ _ _ _=>rfl,λ_ _ _ _=>rfl,.inr ⟨hx,rfl,rfl,rfl,rfl⟩⟩
 rintro l h ⟨y,w',s2,s3,s4,s5,t3,t5,rfl,rfl,y1,y2,hy⟩;have e5:∀(h:Hp)(r:LiQ),bV h (lst di r)=some (lst di r,h):=λh r=>rfl
 have e6:∀(h:Hp)(m:Mz),bV h (mat m)=some (mat m,h):=λh m=>rfl
 have sY1:∀a b c d,bV (xp A p C y s2 s3 s4 s5 a b c d) (.agg [lst di p,mat C,y])=some (tpV p C w',xp A p C y s2 t3 s4 t5 a b c d):=λa b c d=>by simp only[bV,aK,e5,e6,y1,tpV]
 have sY2:∀a b c d,bV (xp A p C y s2 t3 s4 t5 a b c d) (.agg [lst di p,mat C,y])=some (tpV p C w',xp A p C y s2 t3 s4 t5 a b c d):=λa b c d=>by simp only[bV,aK,e5,e6,y2,tpV]
 have hw1:w'.length<1000000:=by
  have:=T.lw.ml;rcases hy with⟨_,rfl⟩|⟨_,rfl,_⟩<;>simp<;>omega
 have hw2:∀r∈w',r.length<1000000:=λr hr=>by
  have hn:=T.lc.n12;rcases hy with⟨_,rfl⟩|⟨_,rfl,_⟩
  .rcases Xx.1 hr with hr|hr
   .rw[T.lw.rl r hr];omega
   .rw[Xa]at hr;rw[hr,hzr];simp;omega
  .rw[T.lw.rl r hr];omega
 have ck:=wN T hw1 hw2;simp;refine cdz (by simp only[aK,sY1];rfl) ck ?_;rw[ah0];simp;refine XP (λl h=>∃er,l=[I er]∧h=xp A p C y s2 s3 s4 s5 Z Z Z Z∧((er≠0∧GtE p C w' er)∨(er=0∧w'=W∧gtB W=0∧y=mat W∧t3=s3∧t5=s5))) ?_ ?_
 case refine_2=>
  intro q hq;rcases hy with⟨hx,rfl⟩|⟨hx,rfl,rfl,rfl,rfl⟩
  .have hn:¬W=W++[zr]:=λe0=>by have:=congrArg List.length e0;simp at this
   have ge:=XW T hw1 hw2 hn;simp[hn];exact hq _ _ ⟨14,rfl,ac,.inl ⟨af,ge⟩⟩
  .have tw:=Ua T;simp;refine cd (args:=[tpV p C w']) tw ?_ (by rfl);by_cases hg:gtB w'=0
   .exact hq _ _ ⟨_,rfl,rfl,.inr ⟨hg,rfl,hg,rfl,rfl,rfl⟩⟩
   .exact hq _ _ ⟨_,rfl,rfl,.inl ⟨hg,XX T hg⟩⟩
 rintro l h ⟨er,rfl,rfl,⟨he0,hE⟩|⟨rfl,rfl,hg,rfl,rfl,rfl⟩⟩
 .have sw:∀(u:V) h,bV h u=some (u,h)->aK h [u]=some ([u],h):=λu h hu=>by simp only[aK,hu]
  have ok7:∀m:LiQ,okV (lst di m)=true:=λ_=>rfl
  have sx:∀h,bV h (V.d (.sl 1 [row x]))=some (mat [x],h):=λ_=>rfl
  simp;refine cdz (by simp only[aK,sY1,snG];rfl) (NL hE he0 snG) ?_;rw[VK rfl];simp[ok1,ok2,ok7,he0,hli];refine cdz (by simp only[aK,sY2,sx];rfl) (NX hE he0) ?_;rw[VK rfl];simp[ok1,ok7,ok2,hli];refine cdz (by simp only[aK,sY2,sx];rfl) (JG hE he0) ?_;rw[VK rfl];simp[ok1,ok7,ok2,hli]
  refine cdz (by simp only[aK,sY2,e5];rfl) (VF hE he0) ?_;rw[VK rfl];simp[ok1,ok7,ok2,hli];refine cdz (by simp only[aK,sY2,sx];rfl) (Nr hE he0) ?_;rw[VK rfl];simp[ok1,ok7,ok2,hli];refine cd GD ?_ (by rfl);simp;refine cd GD ?_ (by rfl);simp;refine cd GD ?_ (by rfl);simp
 .have ok7:∀m:LiQ,okV (lst di m)=true:=λ_=>rfl
  have ok8:∀g:List (List Q),okV (lst szD g)=true:=λ_=>rfl
  have hN:=T.lc.n12;have hgl:∀x∈g,x.1.length<1000000000∧x.2.length<1000000000:=λt ht=>by have:=hs t ht;omega
  have a2:=EP (p:=p) (s:=g) aa hgl aa;by_cases hsz:siB p g=0
  case neg=>
   simp;refine cd (args:=[tpV p C w',iQ aB g]) (NM T hg hgl aa hsz) ?_ (by rfl);simp[ok7];refine cd a2 ?_ (by rfl);simp[hsz]
  have hsg:g.length=p.length∧wQ g=0:=by
   unfold siB scB at hsz;rw[if_pos p1]at hsz;split at hsz
   .rename_i h0;exact⟨h0,hsz⟩
   .cases hsz
  obtain⟨s,rfl,so⟩:=aaZ hsg.2;have sl:s.length=p.length:=by simpa using hsg.1
  rw[hsz]at a2;have tu:=TR T hg sl so
  have tp:CP Y F.nA [tuV p C w' (trG p w' s)] (.tup [B true,I 0]):=by
   obtain⟨w2,_⟩:=F5 hg;obtain⟨d0,d1⟩:=Kd T hg
   have TU:acV p C w' (trG p w' s):=⟨T,by rw[w2];rfl,λg hgm=>by
    rcases Zx.1 hgm with rfl|hgm
    .exact Qf p3 d0 d1
    .rw[Xa]at hgm;rw[hgm];exact⟨sl,so⟩⟩
   have um:∀z∈mX p.length,z=1∨z=0:=λz hz=>by
    rcases Zx.1 hz with h|h
    .exact .inl h
    .exact .inr (Xt.1 h).2
   have ul:(mX p.length).length=p.length:=by simp[mX];omega
   refine RQ TU aa ⟨ul,?_,λz hz=>?_,Vx aa λz hz=>?_,?_⟩ (Ui T PL.hw hg sl so)
   .rw[smR,Z1];intro z hz;rcases um z hz with rfl|rfl<;>decide
   .rcases um z hz with rfl|rfl<;>decide
   .rcases um z hz with rfl|rfl<;>decide
   .rw[HJ T PL.hw hg];intro z hz;simp at hz;rcases hz with rfl|rfl
    .exact d1
    .decide
  obtain⟨w2,_⟩:=F5 hg;obtain⟨d0,d1⟩:=Kd T hg;have hw0:nth [] w' 0∈w':=by rw[cO _ _ _ aa];exact Yl _
  have hr:=T.lw.rl _ hw0;obtain⟨gg,hgg⟩:=nmQ (trG p w' s);have g2:(gg.length:Int)=2:=by rw[hgg];rfl
  have n0:szD (nth [] gg 0)=szD (tn p.length (eU 1 (nth 0 (nth [] w' 0) 0))):=by rw[hgg];rfl
  have n1:szD (nth [] gg 1)=szD s:=by rw[hgg];rfl
  rw[<-hgg]at tu tp;have i0:∀h:Hp,ixV h 1 (lst szD gg) (.d (.int .i64 0))=some (.dptr (gg.map szD) 0):=λh=>fN szD gg h rfl aa
  have l0:∀h:Hp,ld1 h (.dptr (gg.map szD) 0)=some (szV (tn p.length (eU 1 (nth 0 (nth [] w' 0) 0)))):=λh=>by rw[eV szD [] gg h aa,n0];rfl
  have i1:∀h:Hp,ixV h 1 (lst szD gg) (.d (.int .i64 1))=some (.dptr (gg.map szD) 1):=λh=>fN szD gg h rfl aa
  have l1:∀h:Hp,ld1 h (.dptr (gg.map szD) 1)=some (szV s):=λh=>by rw[eV szD [] gg h aa,n1];rfl
  have j1:∀h:Hp,ixV h 1 (mat w') (.d (.int .i64 0))=some (.dptr (w'.map row) 0):=λh=>fN row w' h rfl aa
  have j2:∀h:Hp,ld1 h (.dptr (w'.map row) 0)=some (lst di (nth [] w' 0)):=λh=>eV row [] w' h aa
  have j3:∀h:Hp,ixV h 1 (lst di (nth [] w' 0)) (.d (.int .i64 0))=some (.dptr ((nth [] w' 0).map di) 0):=λh=>fN di _ h rfl aa
  have j4:∀h:Hp,ld1 h (.dptr ((nth [] w' 0).map di) 0)=some (I (nth 0 (nth [] w' 0) 0)):=λh=>eV di 0 _ h aa
  have pt:=qu (n:=1) (d:=nth 0 (nth [] w' 0) 0) d0 aa aa aa aa;have eq:=OQ (p:=p) (c:=C) (w:=w') (oZ (n:=1) d0) p3 aa;have sp:=pB (r:=tn p.length (eU 1 (nth 0 (nth [] w' 0) 0))) (by rw[(Qf p3 d0 d1).1];omega);have ss:=pB (r:=s) aa;generalize tn p.length (eU 1 (nth 0 (nth [] w' 0) 0))=pq at *
  simp only[qT]at pt eq;have es:iQ aB (s.map tx)=szV s:=rfl;rw[es]at a2 ⊢;have s18:=Sq T;simp only[tuV,tuC]at tu;simp;refine cd (args:=[tpV p C w',szV s]) tu ?_ (by rfl);simp[ok1,ok2,ok8];refine cd a2 ?_ (by rfl);simp;refine cd (args:=[tuV p C w' gg]) tp ?_ (by rfl);simp;refine cd (args:=[tpV p C w',tpV p C w']) s18 ?_ (by rfl);simp[g2,i0,l0,j1,j2,j3,j4];refine cd pt ?_
  simp;refine cd (args:=[tpV p C w',.agg [S (itoa (eU 1 (nth 0 (nth [] w' 0) 0)).1),S (ah (eU 1 (nth 0 (nth [] w' 0) 0)).2)]]) eq ?_ (by rfl);simp;refine cd sp ?_ (by rfl);simp[i1,l1];refine cd ss ?_ (by rfl);simp
open Go.Proofs Go.Proofs.YtmjcaiaiibdadaaGreatDoor
theorem aia:Tryz.prog.globalNamed "internal/strconv.uint64pow10" = some oP:=by kernel_rfl
theorem YA:(Tryz.prog.globals[oP]?).map (·.type)=some 271:=ag
theorem adH:Tryz.prog.underlying 271=some (.array 20 209):=ag
theorem adG:Tryz.prog.underlying 209=some (.int .u64):=ag
theorem ZU:Tryz.prog.cellsOf 209=1:=ag
theorem ZV:Tryz.prog.cellsOf 271=20:=ag
mutual
/-- Has a type a shape? -/
def GM(P:Program):Sh->TypeId->Bool
 | .int k,t=>(match P.underlying t with
  |some (.int k')=>decide (k'=k)
  |_=>false)&&Nat.beq (P.cellsOf t) 1
 | .bool,t=>(match P.underlying t with
  |some .bool=>true
  |_=>false)&&Nat.beq (P.cellsOf t) 1
 | .str,t=>(match P.underlying t with
  |some .string=>true
  |_=>false)&&Nat.beq (P.cellsOf t) 1
 | .sl e,t=>(match P.underlying t with
  |some (.slice u)=>Nat.beq (P.cellsOf t) 1&&Nat.blt 0 (P.cellsOf u)&&GM P e u
  |_=>false)
 | .ar n e,t=>(match P.underlying t with
  |some (.array m u)=>Nat.beq m n&&Nat.beq (P.cellsOf t) (n*P.cellsOf u)&&GM P e u
  |_=>false)
 | .st fs,t=>(match P.underlying t with
  |some (.struct l)=>HB P fs l.toList 0 (P.cellsOf t)
  |_=>false)
def HB(P:Program):List Sh->List Field->Nat->Nat->Bool
 |[],l,o,n=>l.isEmpty&&Nat.beq o n
 | s::ss,l,o,n=>(match l with
  |[]=>false
  |f::r=>Nat.beq f.offset o&&GM P s f.type&&HB P ss r (o+P.cellsOf f.type) n)
end
mutual
theorem Bj{P:Program}:∀{s:Sh}{t:TypeId},GM P s t=true->Typ P s t
 | .int k,t,h=>by
  simp only[GM,Z7]at h;obtain⟨h1,h2⟩:=h;split at h1
  .rename_i h3;obtain rfl:=of_decide_eq_true h1;exact⟨h3,Zk h2⟩
  .cases h1
 | .bool,t,h=>by
  simp only[GM,Z7]at h;obtain⟨h1,h2⟩:=h;split at h1
  .rename_i h3;exact⟨h3,Zk h2⟩
  .cases h1
 | .str,t,h=>by
  simp only[GM,Z7]at h;obtain⟨h1,h2⟩:=h;split at h1
  .rename_i h3;exact⟨h3,Zk h2⟩
  .cases h1
 | .sl e,t,h=>by
  simp only[GM]at h;split at h
  .rename_i u h3;simp only[Z7]at h;obtain⟨⟨h1,h2⟩,h4⟩:=h;exact⟨u,h3,Zk h1,by have:=h2;simp[Nat.blt]at this;omega,Bj h4⟩
  .cases h
 | .ar n e,t,h=>by
  simp only[GM]at h;split at h
  .rename_i m u h3;simp only[Z7]at h;obtain⟨⟨h1,h2⟩,h4⟩:=h;obtain rfl:=Zk h1;exact⟨u,h3,Zk h2,Bj h4⟩
  .cases h
 | .st fs,t,h=>by
  simp only[GM]at h;split at h
  .rename_i l h3;exact⟨l.toList,by rw[h3],Pr h⟩
  .cases h
theorem Pr{P:Program}:∀{ss:List Sh}{l:List Field}{o n:Nat},HB P ss l o n=true->TQ P ss l o n
 | [],l,o,n,h=>by
  simp only[HB,Z7,List.isEmpty_iff]at h;exact⟨h.1,Zk h.2⟩
 |s::ss,[],o,n,h=>by simp[HB]at h
 | s::ss,f::r,o,n,h=>by
  simp only[HB,Z7]at h;obtain⟨⟨h1,h2⟩,h3⟩:=h;exact⟨f,r,rfl,Zk h1,Bj h2,Pr h3⟩
end
theorem EH{P:Program}{base:Nat}{e:TypeId}{v:Value}(ht:P.underlying t=some (.slice e))(h:Value.okWide P W .any base t v):∀cs,v≠.agg cs:=by rintro cs rfl;simp only[Value.okWide,ht,Cell.okWide,Cell.ok]at h
theorem wf_u8{n:Int}(h:(Lit.int .u8 n).wf=true):0<=n∧n<=255:=by simp only[Lit.wf,Z7,decide_eq_true_eq]at h;exact h
theorem wf_i8{n:Int}(h:(Lit.int .i8 n).wf=true): -128<=n∧n<=127:=by simp only[Lit.wf,Z7,decide_eq_true_eq]at h;exact h
theorem wf_i64{n:Int}(h:(Lit.int .i64 n).wf=true): -9223372036854775808<=n∧n<=9223372036854775807:=by simp only[Lit.wf,Z7,decide_eq_true_eq]at h;exact h
def afX(x:Int):Prop:=-9223372036854775808<=x∧x<=9223372036854775807
abbrev ac5:Sh:=.sl (.int .i64)
theorem ab9{d:D}(h:Dat ac5 [d]):∃l:LiQ,d=row l∧∀x∈l,afX x:=by
 obtain ⟨l,rfl,hl⟩:=Gw (f:=λn=>[di n]) afX (λds h=>by
  obtain⟨n,e,hw⟩:=h;exact⟨n,e,wf_i64 hw⟩) h
 exact⟨l,by simp only[row,List.map_eq_flatMap],hl⟩
def ah4:DataW Unit->Value
 |.lit (.int k n)=>.int k n
 |_=>undef
def adO:DataW Unit->Array Value
 |.agg l=>(l.map ah4).toArray
 |_=>#[]
def agt:DataW Unit->Value
 |.iface _ (.ptr (.agg [.lit (.string l)]))=>.string ⟨l.toArray⟩
 |_=>undef
def UM(cs:Array Value):Obj->Obj
 |.cells _ t frozen=>.cells cs t frozen
 |o=>o
noncomputable def BX(os:Os):World:=
 let w0:=World.holding Tryz.prog os ⟨#[.cells #[agt Rows.laid_strconv_ErrSyntax] 276,.cells #[agt Rows.laid_strconv_ErrRange] 276],#[],[]⟩
 let low:=(World.settled Tryz.prog os).heap.size
 {w0 with heap:=((((w0.heap.modify 0 (UM #[.iface 274 (.pointer (some ⟨low,0,none⟩))])).modify 1 (UM #[.iface 274 (.pointer (some ⟨low+1,0,none⟩))])).modify 2 (UM (adO Rows.laid_internal_strconv_uint64pow10))).modify 3 (UM (adO Rows.laid_math_bits_deBruijn32tab))).modify 4 (UM (adO Rows.laid_math_bits_deBruijn64tab))}
def afM:Sh:=.ar 4 (.int .i8)
def UJ:Sh:=.st [.int .u8,.sl afM,.bool]
theorem aeL(ds:LdQ)(h:Dat afM ds):∃x:I4,ds=i4D x∧ok4 x:=by
 obtain⟨xs,rfl,hl,hx⟩:=h
 match xs,hl,hx with
 | [x1,x2,x3,x4],_,hx=>
  obtain⟨a,rfl,ha⟩:=hx x1 ac;obtain⟨b,rfl,hb⟩:=hx x2 ac;obtain⟨c,rfl,hc⟩:=hx x3 ac;obtain⟨d,rfl,hd⟩:=hx x4 ac;exact⟨(a,b,c,d),rfl,wf_i8 ha,wf_i8 hb,wf_i8 hc,wf_i8 hd⟩
theorem ZI(h:Dat UJ ds):∃(k:Nat)(e:List I4)(b:Bool),ds=[.int .u8 k,.sl e.length (e.flatMap i4D),.bool b]∧k<256∧∀x∈e,ok4 x:=by obtain⟨a,b,rfl,⟨n,rfl,hn⟩,a',b',rfl,h2,_,_,rfl,⟨c,rfl⟩,rfl⟩:=h;have h2':=h2;obtain⟨xs,rfl,_⟩:=h2';have hb:=wf_u8 hn;obtain⟨e,he,hq⟩:=Gw (f:=i4D) ok4 aeL h2;exact⟨n.toNat,e,c,by simp only[Zq,List.cons_append,List.nil_append];rw[he,Int.toNat_of_nonneg hb.1],aa,hq⟩
theorem ZH(ds:LdQ)(h:Dat (.st [.str,.str]) ds):∃a:Tx,ds=aB a∧True:=by obtain⟨a,b,rfl,⟨s,rfl,hs⟩,a',b',rfl,⟨t,rfl,ht⟩,rfl⟩:=h;exact⟨(s,t),rfl,trivial⟩
theorem ab8{d:D}(h:Dat (.sl (.st [.str,.str])) [d]):∃s:List Tx,d=.sl s.length (s.flatMap aB):=by obtain⟨s,e,_⟩:=Gw (f:=aB) (λ_=>True) ZH h;exact⟨s,e⟩
end Go.Vm
