/- Lemmas. -/
import Derived.Test.YtnomjjmegfhkhaaGreatDoorQLcA
import Derived.ProofKit
import Derived.OpenShut
import Derived.Deep.DeepHandedRow
import Derived.Deep.Matrix
import Derived.Lib.LaidTab
import Derived.Test.YtnomjjmegfhkhaaGreatDoorTie
import Derived.Test.YtnomjjmegfhkhaaGreatDoorCards
set_option linter.unusedVariables false
set_option linter.unusedSimpArgs false
namespace Go.Vm
open Go Go.Am Go.Big
variable{a:Ad}{h:Hp}
variable{l:Mz}{r x y:LiQ}{div z n:Int}{d:D}{W W':World}{vals:Bool}{i m k fuel:Nat}{ds:LdQ}{α:Type}{t:TypeId}
section
variable{p:LiQ}{b:Nat}
variable{B:Nat}{owns:List LLQ}{steps:List (List LLQ)}
end
variable{a:Ad}
theorem OR{h:Hp}(hu:(h.all λx=>az h.length x.2)=true){l:List Q}(hl:0<l.length)(hb:l.length<1000000000):CI Y F.aQ [szV l] h (.new 2 ((l.map tx).flatMap bJ) false l.length l.length) h:=by
 refine nZ ?_;have fl:((l.map tx).flatMap bJ).length=l.length*2:=by rw[j9 bJ cg,List.length_map]
 have e:szV l=.d (.sl l.length ((l.map tx).flatMap bJ)):=by unfold szV lF;rw[List.length_map]
 rw[e];generalize(l.map tx).flatMap bJ=cells at *
 have nl:∀(H:Hp)(k:V->Prop)(u:PU k),rn (yv H .eql (.d (.sl l.length cells)) (.d nPQ)) k u=k (.d (.bool false)):=λH k u=>by
  obtain⟨m,hm⟩:∃m,l.length=m+1:=⟨l.length-1,aa⟩;rw[hm];rfl
 simp[aQ,nl]
 have hli:fJ 0 [D.str [],D.str []] [] (h++[(0,Bk.none),(0,Bk.none)])=some ([],h++[(0,Bk.none),(0,Bk.none)]):=by
  simp[fJ,iS,kP]
 rw[hli];simp;refine Tm (z:=[]) ae hl aa aa ?_;refine⟨ac,?_,.inr (.inr (.inl ⟨h.length+1,1,l.length,l.length,2,cells,false,ac,aa,by simp[ax],rfl⟩))⟩;simp only[Y0,hu,Yd]
 try simp[az]
section
variable{p:LiQ}{b B:Nat}{owns:List LLQ}{steps:List (List LLQ)}
end
theorem aai(x:Q):biA [.str [],.str []] .neq (.agg (qT x)) (.agg (qT x))=some (B false):=by simp[biA,qT,CO,eqC]
theorem HC{r:List Q}(hN:r.length<1000000)(K:KL)(hK:K (.exit 0) [] []):∀(q l:List Q),l++q=r ->
  lp (jW (CX Y) (szV r) (szV r)) [] [] [I l.length] [] K
 | [],l,hl=>by
  have e:l=r:=by simpa using hl
  subst e;have lr:aN (szV l)=some (I l.length):=by simp[szV]
  refine ai ?_;simp[jW,lr];exact hK
 | x::q,l,hl=>by
  have hll:r.length=l.length+(q.length+1):=by rw[<-hl];simp
  have ih:=HC hN K hK q (l++[x]) (by grind);obtain⟨w,w1,w2⟩:=afO r [] (i:=l.length) aa;have hn:nth (0,1) r l.length=x:=by rw[<-hl,abx]
  rw[hn]at w2;have g:(l.length:Int)<r.length:=aa;have e2:((l++[x]).length:Int)=(l.length:Int)+1:=ac;rw[e2]at ih;have lr:aN (szV r)=some (I r.length):=by simp[szV]
  have bs:=aai x;refine ai ?_;simp(disch:=try exact af)[jW,lr,g,w1,w2,bs];exact ih
theorem rO{r:List Q}(hN:r.length<1000000):CP Y F.cr [szV r,szV r] (B true):=by
 refine xK ?_;have lr:aN (szV r)=some (I r.length):=by simp[szV]
 have:=HC hN (exK [(Exit.exit 0,λl4 h=>out (B true) (B true) h),(Exit.ret,λl4 h=>out (B true) (ge l4 0) h)]) (iq rfl) r [] rfl;simp[cr,lr];exact this
variable{g:FuncId}{cs:LwQ}{cf:List Q->List Q->Int}
def mnS(cf:List Q->List Q->Int)(m:List Q)(l:List (List Q)):List Q:=l.foldl (λm y=>if cf y m<0 then y else m) m
theorem Jp(cf:List Q->List Q->Int):∀(l:List (List Q))(m:List Q),mnS cf m l∈m::l
 |[],m=>by simp[mnS]
 | y::l,m=>by
  have:=Jp cf l (if cf y m<0 then y else m)
  grind[mnS]
theorem Js(hs:∀a b,aO [] ([szV a,szV b]++cs)=some ([szV a,szV b]++cs,[])){L:List (List Q)}(hn:L.length<1000)(hc:∀a∈L,∀b∈L,CP Y g ([szV a,szV b]++cs) (I (cf a b)))(K:KL) :
  ∀(q a:List (List Q))(m:List Q),L=a++q->m∈L->K (.exit 0) [szV (mnS cf m q)] [] ->
  lp (cQ (CX Y) (lst szD L) (.fn g [] cs)) [] [] [szV m,I a.length] [] K
 | [],a,m,e,hm,hK=>by
  simp only[Zn]at e;subst e;refine ai ?_;have l1:aN (lst szD L)=some (I L.length):=rfl;have hlt:¬((L.length:Int)<(L.length:Int)):=aa;simp only[cQ];simp[l1,hlt];exact hK
 | y::q,a,m,e,hm,hK=>by
  refine ai ?_;have l1:aN (lst szD L)=some (I L.length):=rfl;have hal:a.length<L.length:=by rw[e];simp
  have hlt:((a.length:Int)<(L.length:Int)):=aa;have hy:y∈L:=by rw[e];simp
  have i1:ixV [] 1 (lst szD L) (I a.length)=some (.dptr (L.map szD) a.length):=by rw[e];exact wR szD a y q _ _
  have i2:ld1 [] (.dptr (L.map szD) a.length)=some (szV y):=by
   rw[mH szD L _ hal];simp only[e,Zh (Z8 _),Za,Zd];rfl
  have e4:((a++[y]).length:Int)=(a.length:Int)+1:=ac;simp only[cQ];simp[l1,hlt];refine aC ?_;simp[i1,i2];refine cdf (fs:=[]) (hc y hy m hm) (hs y m) ?_;by_cases h:cf y m<0
  .have ih:=Js hs hn hc K q (a++[y]) y (by simp[e]) hy (by grind[mnS]);rw[e4]at ih;simp[h];refine aC ?_;simp(disch:=try exact af)[i1,i2];trivial
  .have ih:=Js hs hn hc K q (a++[y]) m (by simp[e]) hm (by grind[mnS]);rw[e4]at ih;simp[h];refine aC ?_;simp(disch:=try exact af);trivial
theorem abC(hs:∀a b,aO [] ([szV a,szV b]++cs)=some ([szV a,szV b]++cs,[])){x:List Q}{l:List (List Q)}(hn:(x::l).length<1000)(hc:∀a∈x::l,∀b∈x::l,CP Y g ([szV a,szV b]++cs) (I (cf a b))):
  CP Y F.bG [lst szD (x::l),.fn g [] cs] (szV (mnS cf x l)):=by
 refine oG ?_;have l1:aN (lst szD (x::l))=some (I (x::l).length):=rfl;have g1:¬(((x::l).length:Int)<1):=by simp;omega
 have i1:ixV [] 1 (lst szD (x::l)) (.d (.int .i64 0))=some (.dptr ((x::l).map szD) 0):=eY szD _ [] rfl ac;have i2:ld1 [] (.dptr ((x::l).map szD) 0)=some (szV x):=rfl;obtain⟨L,hL⟩:∃L,L=x::l:=⟨_,rfl⟩;rw[<-hL]at l1 g1 i1 i2 hn hc ⊢;simp only[bG];simp[l1];refine aC ?_;simp[g1,i1,i2]
 refine lo (Js hs hn hc _ l [x] x (by trivial) (by grind) ?_);simp;exact⟨_,rfl⟩
def mxS(cf:List Q->List Q->Int)(m:List Q)(l:List (List Q)):List Q:=l.foldl (λm y=>if cf y m>0 then y else m) m
theorem Dk(cf:List Q->List Q->Int):∀(l:List (List Q))(m:List Q),mxS cf m l∈m::l
 |[],m=>by simp[mxS]
 | y::l,m=>by
  have:=Dk cf l (if cf y m>0 then y else m)
  grind[mxS]
theorem Jt(hs:∀a b,aO [] ([szV a,szV b]++cs)=some ([szV a,szV b]++cs,[])){L:List (List Q)}(hn:L.length<1000)(hc:∀a∈L,∀b∈L,CP Y g ([szV a,szV b]++cs) (I (cf a b)))(K:KL) :
  ∀(q a:List (List Q))(m:List Q),L=a++q->m∈L->K (.exit 0) [szV (mxS cf m q)] [] ->
  lp (cS (CX Y) (lst szD L) (.fn g [] cs)) [] [] [szV m,I a.length] [] K
 | [],a,m,e,hm,hK=>by
  simp only[Zn]at e;subst e;refine ai ?_;have l1:aN (lst szD L)=some (I L.length):=rfl;have hlt:¬((L.length:Int)<(L.length:Int)):=aa;simp only[cS];simp[l1,hlt];exact hK
 | y::q,a,m,e,hm,hK=>by
  refine ai ?_;have l1:aN (lst szD L)=some (I L.length):=rfl;have hal:a.length<L.length:=by rw[e];simp
  have hlt:((a.length:Int)<(L.length:Int)):=aa;have hy:y∈L:=by rw[e];simp
  have i1:ixV [] 1 (lst szD L) (I a.length)=some (.dptr (L.map szD) a.length):=by rw[e];exact wR szD a y q _ _
  have i2:ld1 [] (.dptr (L.map szD) a.length)=some (szV y):=by
   rw[mH szD L _ hal];simp only[e,Zh (Z8 _),Za,Zd];rfl
  have e4:((a++[y]).length:Int)=(a.length:Int)+1:=ac;simp only[cS];simp[l1,hlt];refine aC ?_;simp[i1,i2];refine cdf (fs:=[]) (hc y hy m hm) (hs y m) ?_;by_cases h:cf y m>0
  .have ih:=Jt hs hn hc K q (a++[y]) y (by simp[e]) hy (by grind[mxS]);rw[e4]at ih;simp[h];refine aC ?_;simp(disch:=try exact af)[i1,i2];trivial
  .have ih:=Jt hs hn hc K q (a++[y]) m (by simp[e]) hm (by grind[mxS]);rw[e4]at ih;simp[h];refine aC ?_;simp(disch:=try exact af);trivial
theorem abD(hs:∀a b,aO [] ([szV a,szV b]++cs)=some ([szV a,szV b]++cs,[])){x:List Q}{l:List (List Q)}(hn:(x::l).length<1000)(hc:∀a∈x::l,∀b∈x::l,CP Y g ([szV a,szV b]++cs) (I (cf a b))):
  CP Y F.bH [lst szD (x::l),.fn g [] cs] (szV (mxS cf x l)):=by
 refine oH ?_;have l1:aN (lst szD (x::l))=some (I (x::l).length):=rfl;have g1:¬(((x::l).length:Int)<1):=by simp;omega
 have i1:ixV [] 1 (lst szD (x::l)) (.d (.int .i64 0))=some (.dptr ((x::l).map szD) 0):=eY szD _ [] rfl ac;have i2:ld1 [] (.dptr ((x::l).map szD) 0)=some (szV x):=rfl;obtain⟨L,hL⟩:∃L,L=x::l:=⟨_,rfl⟩;rw[<-hL]at l1 g1 i1 i2 hn hc ⊢;simp only[bH];simp[l1];refine aC ?_;simp[g1,i1,i2]
 refine lo (Jt hs hn hc _ l [x] x (by trivial) (by grind) ?_);simp;exact⟨_,rfl⟩
def btG(w:Mz)(div:Int):Mz->List (List Q)
 |[]=>[]
 |x::q=>if nth 0 (bh w x) 1=0 then btG w div q else fv (bh w x) div 0 x::btG w div q
theorem DK(w:Mz)(div:Int)(a:Mz)(x:LiQ):btG w div (a++[x])=if nth 0 (bh w x) 1=0 then btG w div a else btG w div a++[fv (bh w x) div 0 x]:=by
 induction a with
 |nil=>rfl
 | cons y a ih=>
  grind[btG]
theorem Kd(w:Mz)(div:Int):∀a:Mz,(btG w div a).length<=a.length
 |[]=>Z8 _
 | y::a=>by
  have:=Kd w div a
  grind[btG]
theorem Vu{p:LiQ}(hr2:2<=r.length)(h1:nth 0 r 1=0):CP Y F.ja [lst di p,lst di x,lst di r,I div] (.tup [szV [],B false,I 0]):=by
 refine vf ?_;have j1:∀h:Hp,ixV h 1 (lst di r) (.d (.int .i64 1))=some (.dptr (r.map di) 1):=λh=>eY di r h rfl aa
 have j2:∀h:Hp,ld1 h (.dptr (r.map di) 1)=some (I (nth 0 r 1)):=λh=>eX di 0 r h aa
 simp only[ja];simp[j1,j2,h1];exact⟨_,rfl⟩
theorem ae4{p:LiQ}{C W:D}{a b:List Q}(hp:pcB p=0)(hN:p.length<1000)(ha:a.length=p.length)(hb:b.length=p.length)(oa:okS a)(ob:okS b)(hz:GA p (dfS p a b) z):
  CP Y F.bj [szV a,szV b,.dptr [.sl p.length (p.map di),C,W] 0] (I z):=by
 refine vj ?_;have l0:∀h,ld1 h (.dptr [.sl p.length (p.map di),C,W] 0)=some (lst di p):=λh=>rfl
 simp only[bj];simp[l0];refine cd (args:=[lst di p,szV a,szV b]) (xe hp hN ha hb oa ob hz) ?_ (by rfl);simp
variable{p:LiQ}{c w:Mz}
def ag2(p:LiQ)(w:Mz)(div:Int)(x:LiQ):Prop:=nth 0 (bh w x) 1≠0->okS (fv (bh w x) div 0 x)
theorem OW(h:pP p c w)(w2:w.length=2){div:Int}(hd:div≠0)(hdb : -1000000000<=div∧div<=1000000000){l:Mz}(hl:l.length<1000)(ho:∀x∈l,yU p w x)(hpu:∀x∈l,ag2 p w div x)(b1 b3:Nat×Bk)(h0:Hp)(K:KL) :
  ∀(q a:Mz),l=a++q ->
  K (.exit 0) [(acU 2).v (btG w div l).length ((btG w div l).map szD)] [(1,.vars [lst di p,mat c,mat w]),b1,(acU 2).b (btG w div l).length ((btG w div l).map szD),b3] ->
  lp (kJ (CX Y) (.ptr 0 1 0 3) (.ptr 1 1 0 5) (mat (l.map (bh w))) (I div) (mat l) (I l.length)) [] h0 [(acU 2).v (btG w div a).length ((btG w div a).map szD),I a.length] [(1,.vars [lst di p,mat c,mat w]),b1,(acU 2).b (btG w div a).length ((btG w div a).map szD),b3] K
 | [],a,e,hK=>by
  simp only[Zn]at e;subst e;refine ai ?_;have hlt:¬((l.length:Int)<(l.length:Int)):=aa;simp only[kJ];simp[hlt];exact hK
 | x::q,a,e,hK=>by
  refine ai ?_;have hlt:((a.length:Int)<(l.length:Int)):=by rw[e];simp;omega
  have hal:a.length<l.length:=aa;have hxm:x∈l:=by rw[e];simp
  have hx:=ho x hxm;have i1:∀h:Hp,ixV h 1 (mat l) (I a.length)=some (.dptr (l.map row) a.length):=λh=>by simp_all
  have i2:∀h:Hp,ld1 h (.dptr (l.map row) a.length)=some (lst di x):=λh=>by
   rw[mH row l _ hal];simp only[e,Zh (Z8 _),Za,Zd];rfl
  obtain⟨rows,hrows⟩:=nmQ (l.map (bh w));have hrl:rows.length=l.length:=by rw[hrows];simp
  have hre:rows[a.length]'(by omega)=bh w x:=by
   have:rows=a.map (bh w)++bh w x::q.map (bh w):=by rw[hrows,e];simp
   simp[this]
  have j1:∀h:Hp,ixV h 1 (mat rows) (I a.length)=some (.dptr (rows.map row) a.length):=λh=>eY row rows h rfl aa
  have j2:∀h:Hp,ld1 h (.dptr (rows.map row) a.length)=some (lst di (bh w x)):=λh=>by
   rw[mH row rows _ aa,hre];rfl
  have tl:(bh w x).length=2:=by simp[bh,w2]
  have e4:((a++[x]).length:Int)=(a.length:Int)+1:=ac;have ih:=OW h w2 hd hdb hl ho hpu b1 b3 h0 K q (a++[x]) (by simp[e]) hK;rw[e4,DK,<-hrows]at ih;rw[<-hrows];have hx0:x≠[]:=λe0=>by have h1:=hx.l;rw[e0,List.length_nil]at h1;have:=h.lw.n0;omega
  have hn:=h.lc.n12;obtain⟨gs,hgs⟩:=nmQ (btG w div a);have hgl:gs.length<=a.length:=by rw[hgs];exact Kd w div a
  rw[<-hgs]at ih ⊢;obtain⟨H,hH⟩:∃H:Hp,H=[(1,.vars [lst di p,mat c,mat w]),b1,(acU 2).b gs.length (gs.map szD),b3]:=⟨_,rfl⟩;have g0:nr H 0 1=.vars [lst di p,mat c,mat w]:=by rw[hH];rfl
  rw[<-hH];simp only[kJ];simp[hlt];refine aC ?_;simp[i1,i2,j1,j2,g0];by_cases c0:nth 0 (bh w x) 1=0
  .refine cd (Vu (p:=p) (x:=x) (div:=div) aa c0) ?_;rw[if_pos c0,<-hH]at ih;simp;refine aC ?_;simp(disch:=try exact af)
   grind[dN,lo]
  .refine cd (pure_ok h.pr hx.l aa hx.t c0 hd hdb hx.b (by grind[yU.l]) hx0 (hpu x hxm c0)) ?_;rw[if_neg c0]at ih;obtain⟨g,hg⟩:=nmQ (fv (bh w x) div 0 x);rw[<-hg]at ih ⊢;have hli:fJ 1 [nPQ] [(0,szV g)] H=some ([szD g],H):=WN ..;simp;refine aC ?_;simp[hli]
   refine nU (acU 2) (by_:=24) (k:=1) (cs:=[szD g]) aa (by rw[hH];rfl) (by simp[acU]) (by rfl) rfl (by grind) aa (by simp[acU]) ?_;have hs:H.set (acU 2).s ((acU 2).b (gs.length+1) (gs.map szD++[szD g]))=[(1,.vars [lst di p,mat c,mat w]),b1,(acU 2).b (gs.length+1) (gs.map szD++[szD g]),b3]:=by rw[hH];rfl
   rw[hs];simp(disch:=try exact af)
   simp_all[dN]
theorem abl{lo hi:List Q}{hl hh em:Bool}{v:V}{H H':Hp}(hv:cF H v=some (szV hi,H')):out (.tup [rgV ⟨lo,hi,hl,hh,em⟩,I z]) (.tup [.agg [szV lo,v,B hl,B hh,B em],I z]) H:=by have s1:cF H (szV lo)=some (szV lo,H):=rfl;have s2:cF H' (B hl)=some (B hl,H'):=rfl;have s3:cF H' (B hh)=some (B hh,H'):=rfl;have s4:cF H' (B em)=some (B em,H'):=rfl;have s5:cF H' (I z)=some (I z,H'):=rfl;refine⟨H',?_⟩;simp only[cF.eq_4,cF.eq_3,aO,s1,hv,s2,s3,s4,s5];rfl
theorem Ga(h:pP p c w)(hg:gtB w=0){l:Mz}(hl:l.length<=60)(ho:∀x∈l,yU p w x)(hm:mzB p l=0)(hpu:∀x∈l,ag2 p w (nth 0 (nth [] w 0) 0) x){g:List Q}{gs:List (List Q)}(hgs:btG w (nth 0 (nth [] w 0) 0) l=g::gs)
  {cf:List Q->List Q->Int} (hok:∀a∈g::gs,a.length=p.length∧okS a) (hc:∀a∈g::gs,∀b∈g::gs,GA p (dfS p a b) (cf a b)) :
  CP Y F.bf [tpV p c w,mat l] (.tup [rgV ⟨mnS cf g gs,mxS cf g gs,true,true,false⟩,I 0]):=by
 refine lS ?_;simp only[bf,tpV];obtain⟨div,hdiv⟩:=nmQ (nth 0 (nth [] w 0) 0)
 have w2:w.length=2:=by
  apply Classical.byContradiction;intro e;simp[gtB,e]at hg
 have hd:div≠0:=by
  rw[hdiv];intro e;simp[gtB,w2,e]at hg
 have hw0:nth [] w 0∈w:=by rw[cC _ _ _ aa];exact Yw _
 have hdb : -1000000000<=div∧div<=1000000000:=by
  rw[hdiv];exact h.lw.sm _ hw0 _ (iT (by rw[h.lw.rl _ hw0];exact h.lw.n0))
 have td:=IP h hg hl ho hm;have hn:=h.lc.n12;have l1:aN (mat l)=some (I l.length):=rfl;rw[<-hdiv]at td hpu hgs;simp;refine cd (args:=[tpV p c w,mat l]) td ?_ (by rfl);simp[l1];refine lo (OW h w2 hd hdb aa ho hpu (1,.vars [nlV,nlV,B false,B false,B false]) nnQ _ _ l [] rfl ?_);rw[hgs];have hgl:(g::gs).length<=l.length:=by rw[<-hgs];exact Kd w div l
 obtain⟨H,hH⟩:∃H:Hp,H=[(1,.vars [lst di p,mat c,mat w]),(1,.vars [nlV,nlV,B false,B false,B false]),(acU 2).b (g::gs).length ((g::gs).map szD),nnQ]:=⟨_,rfl⟩;rw[<-hH];obtain⟨G,hG⟩:∃G,G=(acU 2).v (g::gs).length ((g::gs).map szD):=⟨_,rfl⟩;rw[<-hG];have lg:aN G=some (I (g::gs).length):=by rw[hG];rfl
 have gne:¬(((g::gs).length:Int)=0):=by simp;omega
 obtain⟨D3,hD3⟩:∃D3:LdQ,D3=[.sl p.length (p.map di),.sl c.length (c.map row),.sl w.length (w.map row)]:=⟨_,rfl⟩;obtain⟨H1,hH1⟩:∃H1:Hp,H1=[(1,.data 1 D3 false true),(1,.vars [nlV,nlV,B false,B false,B false]),(1,.data 1 ((g::gs).map szD) false true),nnQ]:=⟨_,rfl⟩
 have sG:∀(H2:Hp)(f:Bool),H2[2]?=some (1,.data 1 ((g::gs).map szD) false f)->cF H2 G=some (lst szD (g::gs),H2.set 2 (1,.data 1 ((g::gs).map szD) false true)):=λH2 f h2=>by
  rw[hG];simp only[acU,Acc.v,List.length_cons,cF,toD,ax,h2,if_true];rw[if_pos ac];simp[b6,lst];exact Zx ac
 have sn1:aO H [G,.fn F.bj [] [.ptr 0 1 0 3]]=some ([lst szD (g::gs),.fn F.bj [] [.dptr D3 0]],H1):=by
  have e1:=sG H false (by rw[hH];rfl);simp only[aO,e1];rw[hH,hH1,hD3];rfl
 have sn2:aO H1 [G,.fn F.bj [] [.ptr 0 1 0 3]]=some ([lst szD (g::gs),.fn F.bj [] [.dptr D3 0]],H1):=by
  have e1:=sG H1 true (by grind);simp only[aO,e1];rw[hH1,hD3];rfl
 have hcp:∀a∈g::gs,∀b∈g::gs,CP Y F.bj ([szV a,szV b]++[.dptr D3 0]) (I (cf a b)):=λa ha b hb=>by
  rw[hD3];exact ae4 h.pr aa (hok a ha).1 (hok b hb).1 (hok a ha).2 (hok b hb).2 (hc a ha b hb)
 have hsn:∀a b:List Q,aO [] ([szV a,szV b]++[.dptr D3 0])=some ([szV a,szV b]++[.dptr D3 0],[]):=λa b=>rfl
 have c1:=abC hsn aa hcp;have c2:=abD hsn aa hcp;have okz:∀s:List Q,okV (szV s)=true:=λ_=>rfl
 obtain⟨mn,hmn⟩:=nmQ (mnS cf g gs);obtain⟨mx,hmx⟩:=nmQ (mxS cf g gs);have hml:mx.length=p.length:=(hok mx (by grind[Dk])).1;have hp0:=h.lw.n0;rw[<-hmn]at c1;rw[<-hmx]at c2;rw[<-hmn,<-hmx];simp(disch:=try exact af)[lg,gne];refine qP sn1 c1 ?_;rw[show(if cI (szV mn)=true then H else H1)=H1 from rfl];simp;refine qP sn2 c2 ?_
 rw[show(if cI (szV mx)=true then H1 else H1)=H1 from rfl];have hu:(H1.all λx=>az H1.length x.2)=true:=by rw[hH1];rfl
 have cl:=OR hu (l:=mx) aa aa;simp;refine gA cl (s:=3) (e:=0) (b:=.none) (by grind) ?_;rw[hH1];have hlen:((mx.map tx).flatMap bJ).length=mx.length*2:=by rw[j9 bJ cg,List.length_map]
 rw[hlen];have hb:bld [(0,1),(1,1),(2,1),(3,1),(4,1)] [nPQ,nPQ,D.bool false,D.bool false,D.bool false] [(0,szV mn),(1,V.ref 3 1 0 mx.length mx.length (mx.length*2)),(2,V.d (D.bool true)),(3,V.d (D.bool true))]=some (.agg [szV mn,.ref 3 1 0 mx.length mx.length (mx.length*2),B true,B true,B false]):=rfl
 show bnd (bld [(0,1),(1,1),(2,1),(3,1),(4,1)] [nPQ,nPQ,D.bool false,D.bool false,D.bool false] [(0,szV mn),(1,V.ref 3 1 0 mx.length mx.length (mx.length*2)),(2,V.d (D.bool true)),(3,V.d (D.bool true))]) _
 rw[hb];simp[okz];have sr:=λ(H2:Hp)(hg:H2[3]?=some (1,.data 2 ((mx.map tx).flatMap bJ) false false))=>Uq (h:=H2) (s:=3) (e:=1) (n:=mx.length) (l:=mx.map tx) (ex:=false) (fr:=false) hg ac
 exact abl (sr _ rfl)
theorem EW{d:Int}(hd:d≠0):(fM n d).1*d=n*((fM n d).2:Int)∧0<(fM n d).2:=by
 unfold fM;split
 .rename_i h;obtain⟨h1,h2⟩:=Do (-n) (d:=d.natAbs) aa;refine⟨?_,h2⟩;rw[show((d.natAbs:Nat):Int) = -d by omega]at h1
  grind
 .rename_i h;obtain⟨h1,h2⟩:=Do n (d:=d.natAbs) aa;rw[show((d.natAbs:Nat):Int)=d by omega]at h1;omega
theorem HN{x:Int}(hd:div≠0)(h1:nth 0 r 1≠0):okQ (kU r div 0 x)∧(kU r div 0 x).1*(nth 0 r 1*div)=(x*div-nth 0 r 0)*((kU r div 0 x).2:Int):=by
 obtain⟨a1,a2⟩:=EW (n:=nth 0 r 0) hd;have e:kU r div 0 x=fM ((oL (x,1) (tU (fM (nth 0 r 0) div))).1*((1:Nat):Int)) (((oL (x,1) (tU (fM (nth 0 r 0) div))).2:Int)*nth 0 r 1):=by simp[kU,rr]
 obtain⟨u,hu⟩:=nmQ (fM (nth 0 r 0) div);rw[<-hu]at a1 a2 e;obtain⟨b1,b2⟩:=Do (x*(u.2:Int) + -u.1*((1:Nat):Int)) (d:=1*u.2) aa;have eq:oL (x,1) (tU u)=lY (x*(u.2:Int) + -u.1*((1:Nat):Int)) (1*u.2):=rfl;rw[eq]at e;obtain⟨s,hs⟩:∃s,s=lY (x*(u.2:Int) + -u.1*((1:Nat):Int)) (1*u.2):=⟨_,rfl⟩;rw[<-hs]at b1 b2 e
 have hsd:(s.2:Int)*nth 0 r 1≠0:=Xy aa h1;obtain⟨c1,c2⟩:=EW (n:=s.1*((1:Nat):Int)) hsd;have hok:=uG (n:=s.1*((1:Nat):Int)) hsd;rw[<-e]at c1 c2 hok;refine⟨hok,?_⟩;generalize kU r div 0 x=A at *
 have k1:s.1*div=(x*div-nth 0 r 0)*s.2:=by
  refine Int.eq_of_mul_eq_mul_right (a:=(u.2:Int)) aa ?_
  have b1':s.1*(u.2:Int)=(x*u.2-u.1)*s.2:=by
   have:=b1;simp only[W8,Int.natCast_one,Int.mul_one]at this;rw[this];grind
  calc s.1*div*(u.2:Int)=s.1*u.2*div:=by grind
   _=(x*u.2-u.1)*s.2*div:=by rw[b1']
   _=(x*u.2*div-u.1*div)*s.2:=by grind
   _=(x*u.2*div-nth 0 r 0*u.2)*s.2:=by rw[a1]
   _=(x*div-nth 0 r 0)*s.2*u.2:=by grind
 refine Int.eq_of_mul_eq_mul_right (a:=(s.2:Int)) aa ?_;have c1':A.1*(s.2*nth 0 r 1)=s.1*A.2:=by simpa using c1
 calc A.1*(nth 0 r 1*div)*(s.2:Int)=A.1*(s.2*nth 0 r 1)*div:=by grind
  _=s.1*A.2*div:=by rw[c1']
  _=s.1*div*A.2:=by grind
  _=(x*div-nth 0 r 0)*s.2*A.2:=by rw[k1]
  _=(x*div-nth 0 r 0)*A.2*s.2:=by grind
theorem HK{x:Int}(hi:i≠0)(h1:nth 0 r 1≠0):okQ (kU r div i x)∧(kU r div i x).1*nth 0 r 1=x*((kU r div i x).2:Int):=by
 have e:kU r div i x=fM (x*((1:Nat):Int)) (((1:Nat):Int)*nth 0 r 1):=by simp[kU,hi,rr]
 rw[e]
 grind[uG,EW]
theorem V2(n d:Int):(fM n d).1.natAbs<=n.natAbs∧(fM n d).2<=d.natAbs:=by
 unfold fM;split
 .grind[zE]
 .exact zE n d.natAbs
theorem adb{n:Nat}(h:n<10^20):ndg n<=30:=Z4 (dG h ae) ae
theorem Qo{d:Int}(h1:n.natAbs<10^20)(h2:d.natAbs<10^20):qL 30 (fM n d):=Bq (adb h1) (adb h2)
theorem EF{r:LiQ}{div:Int}(hr:bd9 r)(hr2:2<=r.length)(hd:div≠0)(hdb : -1000000000<=div∧div<=1000000000)(h1:nth 0 r 1≠0):∀{x:LiQ}(i:Nat),bd9 x->okS (fv r div i x)
 |[],i,_=>λy hy=>by cases hy
 | a::x,i,hx=>by
  have hr1 : -1000000000<=nth 0 r 1∧nth 0 r 1<=1000000000:=hr _ (iT aa);have hr0 : -1000000000<=nth 0 r 0∧nth 0 r 0<=1000000000:=hr _ (iT aa);have ha:=hx a ac;intro y hy;simp only[fv,Zy]at hy;rcases hy with rfl|hy
  .by_cases hi:i=0
   .subst hi;refine⟨(HN hd h1).1,?_⟩;have e:kU r div 0 a=fM ((oL (a,1) (tU (fM (nth 0 r 0) div))).1*((1:Nat):Int)) (((oL (a,1) (tU (fM (nth 0 r 0) div))).2:Int)*nth 0 r 1):=by simp[kU,rr]
    obtain⟨u,hu⟩:=nmQ (fM (nth 0 r 0) div);have hul:=V2 (nth 0 r 0) div;rw[<-hu]at e hul;have eq:oL (a,1) (tU u)=lY (a*(u.2:Int) + -u.1*((1:Nat):Int)) (1*u.2):=rfl;obtain⟨q1,q2⟩:=zE (a*(u.2:Int) + -u.1*((1:Nat):Int)) (1*u.2);rw[eq]at e;rw[e];generalize lY (a*(u.2:Int) + -u.1*((1:Nat):Int)) (1*u.2)=s at *
    have m1:a.natAbs*u.2<=1000000000*1000000000:=Zu aa aa;have m2:s.2*(nth 0 r 1).natAbs<=1000000000*1000000000:=Zu aa aa
    grind[X7,Zm,Int.natAbs_natCast,Qo]
   .refine⟨(HK hi h1).1,?_⟩;have e:kU r div i a=fM (a*((1:Nat):Int)) (((1:Nat):Int)*nth 0 r 1):=by simp[kU,hi,rr]
    grind[Qo]
  .exact EF hr hr2 hd hdb h1 (i+1) (λz hz=>hx z (by grind)) y hy
def N6(w:Mz)(x:LiQ):List Q:=if gtB w≠0∨nth 0 (bh w x) 1=0 then[]else fv (bh w x) (nth 0 (nth [] w 0) 0) 0 x
def N7(w:Mz)(x:LiQ):Bool:=decide (gtB w=0∧nth 0 (bh w x) 1≠0)
def aee(s:List Q):Bool:=s.all λx=>decide (0<x.2)&&(Nat.gcd x.1.natAbs x.2 == 1)&&decide (ndg x.1.natAbs<=30)&&decide (ndg x.2<=30)
theorem De{s:List Q}(h:aee s=true):okS s:=λx hx=>by
 have:=Zz.1 h x hx;simp only[Z7,decide_eq_true_eq,beq_iff_eq]at this;exact⟨⟨this.1.1.1,this.1.1.2⟩,this.1.2,this.2⟩
def lsB(l:LiQ):Bool:=l.all λz=>decide (-1000000000<=z)&&decide (z<=1000000000)
theorem On{l:LiQ}(h:lsB l=true):bd9 l:=λz hz=>by
 have:=Zz.1 h z hz
 grind
def ltB(n:Nat)(m:Mz):Bool:=decide (0<n)&&decide (n<=12)&&decide (m.length<=12)&&m.all λr=>decide (r.length=n)&&lsB r
theorem V0{n:Nat}{m:Mz}(h:ltB n m=true):sE n m:=by simp only[ltB,Z7,decide_eq_true_eq,Zz]at h;exact⟨h.1.1.1,h.1.1.2,h.1.2,λr hr=>(h.2 r hr).1,λr hr=>On (h.2 r hr).2⟩
def p5:LiQ:=[2,3,5]
def mtC:Mz:=[[4,-4,1]]
def mtW:Mz:=[[1,0,-4],[0,1,4]]
theorem ade:pP p5 mtC mtW where
 pr:=by rfl
 lc:=V0 (by rfl)
 lw:=V0 (by rfl)
 ch:=by rfl
 k1:=⟨20,100,ae,by rfl,by rfl⟩
theorem li3(a b c:Int)(h:Hp):fJ 3 [.int .i64 0] [(0,.d (.int .i64 a)),(1,.d (.int .i64 b)),(2,.d (.int .i64 c))] h=some ([.int .i64 a,.int .i64 b,.int .i64 c],h):=by rfl
theorem li5(n1 n2 n3 n4 n5:Nat)(a b c d e:LdQ)(h:Hp):fJ 5 [nPQ] [(0,.d (.sl n1 a)),(1,.d (.sl n2 b)),(2,.d (.sl n3 c)),(3,.d (.sl n4 d)),(4,.d (.sl n5 e))] h=some ([.sl n1 a,.sl n2 b,.sl n3 c,.sl n4 d,.sl n5 e],h):=by rfl
theorem abF(a1 a2 b1 b2 c1 c2:LuQ)(h:Hp):fJ 3 [D.str [],D.str []] [(0,.agg [S a1,S a2]),(1,.agg [S b1,S b2]),(2,.agg [S c1,S c2])] h=some ([.str a1,.str a2,.str b1,.str b2,.str c1,.str c2],h):=by rfl
theorem LZ:CP Y F.dE [] (tpV p5 mtC mtW):=by refine tQ ?_;simp only[dE];simp[li3,WN,WM];exact⟨_,rfl⟩
def l5K:Mz:=[[0,0,0],[-3,2,0],[-2,0,1],[2,-1,0],[-1,1,0]]
def l2K:Mz:=[[-2,0,1],[-1,1,0]]
def tvB(p:LiQ)(w:Mz)(x:LiQ):Bool:=decide (x.length=p.length)&&lsB x&&decide (rcB x=0)&&lsB (bh w x)
theorem TT{p:LiQ}{w:Mz}(h:tvB p w x=true):yU p w x:=by simp only[tvB,Z7,decide_eq_true_eq]at h;exact⟨h.1.1.1,On h.1.1.2,h.1.2,On h.2⟩
def rgS:Rg:=⟨[(3,2),(0,1),(0,1)],[(8,5),(0,1),(0,1)],true,true,false⟩
theorem kst:KX 1 en0 (bh mtW [0,0,0]) ([[-3,2,0],[-2,0,1],[2,-1,0],[-1,1,0]].map (bh mtW))=⟨some (3,2),some (8,5),false⟩:=by
 have e1:bh mtW [0,0,0]=[0,0]:=aG;have e2:([[-3,2,0],[-2,0,1],[2,-1,0],[-1,1,0]].map (bh mtW))=[[-3,2],[-6,4],[2,-1],[-1,1]]:=aG;rw[e1,e2]
 have k1:ot en0 (-3) 2 1=⟨some (3,2),none,false⟩:=by
  have:rr (fM (- -3) 1) (2,1)=(3,2):=aG;simp only[ot,this];rfl
 have k2:ot ⟨some (3,2),none,false⟩ (-3) 2 1=⟨some (3,2),none,false⟩:=by
  have:rr (fM (- -3) 1) (2,1)=(3,2):=aG;simp only[ot,this];rfl
 have k3:ot ⟨some (3,2),none,false⟩ 8 (-5) 1=⟨some (3,2),some (8,5),false⟩:=by
  have:rr (fM (-8) 1) (-5,1)=(8,5):=aG;simp only[ot,this];rfl
 have k4:ot ⟨some (3,2),some (8,5),false⟩ (-3) 2 1=⟨some (3,2),some (8,5),false⟩:=by
  have:rr (fM (- -3) 1) (2,1)=(3,2):=aG;simp only[ot,this];rfl
 rfl
theorem abN:CP Y F.gn [tpV p5 mtC mtW,mat l5K] (.tup [rgV rgS,I 0]):=by
 have hd:nth 0 (nth [] mtW 0) 0=1:=aG
 have h:=RY (l:=l5K) (x:=[0,0,0]) (q:=[[-3,2,0],[-2,0,1],[2,-1,0],[-1,1,0]]) ade (by rfl) rfl ae (λx hx=>TT (Zz.1 (show l5K.all (tvB p5 mtW)=true by rfl) x hx)) (by rfl)
  (by rw[hd,kst];intro q hq;cases hq;exact⟨⟨⟨ae,ae⟩,aG,aG⟩,De aG⟩)
  (by rw[hd,kst];intro q hq;cases hq;exact⟨⟨⟨ae,ae⟩,aG,aG⟩,De aG⟩)
 rw[hd,kst]at h
 have e:asR p5.length ⟨some (3,2),some (8,5),false⟩=rgS:=by
  have e1:scQ p5.length (3,2)=[(3,2),(0,1),(0,1)]:=aG;have e2:scQ p5.length (8,5)=[(8,5),(0,1),(0,1)]:=aG;have e3:Rj ⟨some (3,2),some (8,5),false⟩=false:=aG;simp only[asR,e3,oS,e1,e2];rfl
 trivial
def g1K:List Q:=[(1,1),(0,1),(1,4)]
def g2K:List Q:=[(0,1),(1,1),(0,1)]
def cfK(a b:List Q):Int:=if tq p5 (dfS p5 a b)=[]then 0 else nf (tq p5 (dfS p5 a b))
theorem sgK{a b:List Q}(ha:a ∈ [g1K,g2K])(hb:b ∈ [g1K,g2K]):GA p5 (dfS p5 a b) (cfK a b):=by have h:=Zz.1 (Zz.1 (show([g1K,g2K].all λa=>[g1K,g2K].all λb=>decide ((tq p5 (dfS p5 a b)).length<=600∧∀t∈tq p5 (dfS p5 a b),2<=t.1∧t.1<1000000∧t.2.natAbs<9223372036854775808)&&decide (tq p5 (dfS p5 a b)≠[]->nf (tq p5 (dfS p5 a b))≠0))=true by decide+kernel) a ha) b hb;simp only[Z7,decide_eq_true_eq]at h;exact λd=>Uz h.1 h.2
theorem XI:CP Y F.bf [tpV p5 mtC mtW,mat l2K] (.tup [rgV ⟨g1K,g2K,true,true,false⟩,I 0]):=by
 have hd:nth 0 (nth [] mtW 0) 0=1:=aG;have hg:btG mtW 1 l2K=[g1K,g2K]:=aG
 have h:=Ga (l:=l2K) (g:=g1K) (gs:=[g2K]) (cf:=cfK) ade (by rfl) ae (λx hx=>TT (Zz.1 (show l2K.all (tvB p5 mtW)=true by rfl) x hx)) (by rfl)
  (λx hx _=>De (Zz.1 (show(l2K.all λx=>aee (fv (bh mtW x) (nth 0 (nth [] mtW 0) 0) 0 x))=true by decide+kernel) x hx)) (by rfl)
  (λa ha=>by
   have:=Zz.1 (show([g1K,g2K].all λa=>decide (a.length=p5.length)&&aee a)=true by decide+kernel) a ha
   grind[De])
  (λa ha b hb=>sgK ha hb)
 have e1:mnS cfK g1K [g2K]=g1K:=aG;have e2:mxS cfK g1K [g2K]=g2K:=aG;trivial
theorem uN:CP Y F.fk [] (B true):=by
 refine wt ?_;have q0:=o6 (n:=0) (d:=1) ae ae ae ae ae;have q1:=o6 (n:=3) (d:=2) ae ae ae ae ae;have q2:=o6 (n:=8) (d:=5) ae ae ae ae ae
 have q3:=o6 (n:=1) (d:=1) ae ae ae ae ae;have q4:=o6 (n:=1) (d:=4) ae ae ae ae ae;have e0:fM 0 1=(0,1):=aG;have e1:fM 3 2=(3,2):=aG;have e2:fM 8 5=(8,5):=aG;have e3:fM 1 1=(1,1):=aG;have e4:fM 1 4=(1,4):=aG
 rw[e0]at q0;rw[e1]at q1;rw[e2]at q2;rw[e3]at q3;rw[e4]at q4;have s1:=rO (r:=rgS.lo) ae;have s2:=rO (r:=rgS.hi) ae;have s3:=rO (r:=g1K) ae;have s4:=rO (r:=g2K) ae;have st:CP Y F.gn [tpV p5 mtC mtW,mat l5K] (.tup [.agg [szV rgS.lo,szV rgS.hi,B true,B true,B false],I 0]):=abN
 have bt:CP Y F.bf [tpV p5 mtC mtW,mat l2K] (.tup [.agg [szV g1K,szV g2K,B true,B true,B false],I 0]):=XI;have okz:∀s:List Q,okV (szV s)=true:=λ_=>rfl
 simp only[qT]at q0 q1 q2 q3 q4;simp only[fk];simp;refine cd q0 ?_;simp;refine cd LZ ?_ (by rfl);simp[li3,li5];refine cd (args:=[tpV p5 mtC mtW,mat l5K]) st ?_ (by rfl);simp[okz];refine cd LZ ?_ (by rfl);simp[li3,WM];refine cd (args:=[tpV p5 mtC mtW,mat l2K]) bt ?_ (by rfl);simp[okz];refine cd q1 ?_;simp[abF]
 refine cd (args:=[szV rgS.lo,szV rgS.lo]) s1 ?_ (by rfl);simp;refine cd q2 ?_;simp[abF];refine cd (args:=[szV rgS.hi,szV rgS.hi]) s2 ?_ (by rfl);simp;refine cd q3 ?_;simp;refine cd q4 ?_;simp[abF];refine cd (args:=[szV g1K,szV g1K]) s3 ?_ (by rfl);simp;refine cd q3 ?_;simp[abF];refine cd (args:=[szV g2K,szV g2K]) s4 ?_ (by rfl);simp
theorem JU{A E:Nat}:∀{x v:LiQ},(∀z∈x,z.natAbs<=A)->(∀z∈v,z.natAbs<=E)->(oh x v).natAbs<=x.length*(A*E)
 |[],v,_,_=>by simp[oh]
 |a::x,[],_,_=>by simp[oh]
 | a::x,b::v,hx,hv=>by
  have ih:=JU (x:=x) (v:=v) (λz hz=>hx z (by grind)) λz hz=>hv z (by grind)
  have h1:=X7 (a*b) (oh x v);rw[Zm]at h1;have h2:=Zu (hx a ac) (hv b ac)
  grind[oh,Nat.add_mul]
theorem D8{w:Mz}(hi:i<w.length):nth 0 (bh w x) i=oh x (nth [] w i):=by grind[qM,bh]
theorem yI(hg:gtB w=0):w.length=2∧nth 0 (nth [] w 0) 0≠0:=by
 have w2:w.length=2:=by
  apply Classical.byContradiction;intro e;simp[gtB,e]at hg
 grind[gtB]
theorem S8{e:List I4}:CP Y F.fP [.agg [.d (.int .u8 k),lF i4D e,B vals]] (B (decide (e.length<=3))):=by
 refine xM ?_;have l1:aN (lF i4D e)=some (I e.length):=rfl;have ok3:okV (lF i4D e)=true:=rfl;by_cases h:e.length<=3
 .have h':(e.length:Int)<=3:=aa;simp only[fP];simp[l1,ok3,h']
  simp_all
 .have h':¬(e.length:Int)<=3:=aa;simp only[fP];simp[l1,ok3,h']
  grind[iq]
theorem FO(h:pP p c w)(hg:gtB w=0):nth 0 (nth [] w 0) 0≠0∧-1000000000<=nth 0 (nth [] w 0) 0∧nth 0 (nth [] w 0) 0<=1000000000:=by
 obtain⟨w2,h0⟩:=yI hg;have hw0:nth [] w 0∈w:=by rw[cC _ _ _ aa];exact Yw _
 exact⟨h0,h.lw.sm _ hw0 _ (iT (by rw[h.lw.rl _ hw0];exact h.lw.n0))⟩
variable{p:LiQ}{c w w':Mz}{e:Int}
def GtE(p:LiQ)(c w:Mz)(e:Int):Prop:=CP Y F.j8 [tpV p c w] (.tup [.agg [I 0,lst di [],lst di []],I e])
theorem abZ(h:CP Y F.kA [tpV p c w] (I e))(he:e≠0):GtE p c w e:=by refine wU ?_;simp only[j8,tpV];simp;refine cd (args:=[tpV p c w]) h ?_ (by rfl);simp[he];exact⟨_,rfl⟩
theorem XS(h:pP p c w)(hg:gtB w≠0):GtE p c w (gtB w):=abZ (QI h) hg
theorem T5(h:GtE p c w e)(he:e≠0):CP Y F.cn [tpV p c w,mat l] (.tup [mat [],I 0,I e]):=by
 refine nX ?_;simp only[cn,tpV];simp;refine cd (args:=[tpV p c w]) h ?_ (by rfl);have ok1:∀m:LiQ,okV (lst di m)=true:=λ_=>rfl
 simp[he,ok1];exact⟨_,rfl⟩
theorem Nb(h:GtE p c w e)(he:e≠0):CP Y F.bf [tpV p c w,mat l] (.tup [.agg [lst di [],lst di [],B false,B false,B false],I e]):=by refine lS ?_;simp only[bf,tpV];simp;refine cd (args:=[tpV p c w,mat l]) (T5 h he) ?_ (by rfl);simp[he];exact⟨_,rfl⟩
variable{p:LiQ}{c w:Mz}
theorem T6(h:pP p c w)(hg:gtB w=0)(hl:l.length<=60)(hm:mzB p l≠0):CP Y F.cn [tpV p c w,mat l] (.tup [mat [],I 0,I (mzB p l)]):=by
 refine nX ?_;simp only[cn,tpV];simp;refine cd (args:=[tpV p c w]) (XW h hg) ?_ (by rfl);have l1:aN (mat l)=some (I l.length):=rfl;have g60:¬((l.length:Int)>60):=aa;have ok1:∀m:LiQ,okV (lst di m)=true:=λ_=>rfl
 have hn:=h.lc.n12;have a2:=wK (p:=p) (m:=l) aa aa;simp[l1,g60,ok1];refine cd a2 ?_ (by rfl);simp[hm];exact⟨_,rfl⟩
theorem aaM(h:aaD p c w)(h4:p.length<=4)(hg:gtB w=0)(hm:mzB p [x]=0):yU p w x:=by
 obtain⟨h1,h2⟩:=Oj h.t.pr hm
 have hx:∀z∈x,z.natAbs<=1000:=λz hz=>by
  have:=IT h2 hz;omega
 refine⟨h1,λz hz=>by grind,Vn aa λz hz=>by grind,λz hz=>?_⟩;obtain⟨v,hv,rfl⟩:=Zw.1 hz;have h3:=JU hx (Kf (h.bw (yI hg).1) v hv);have h5:x.length*(1000*157464)<=4*(1000*157464):=Zv _ aa;omega
variable{p:LiQ}{c w w':Mz}{e:Int}
theorem Ij{lo hi:List Q}(h1:lo.length<1000000)(h2:hi.length<1000000){a b d:Bool}:CP Y F.dS [.agg [szV lo,szV hi,B a,B b,B d],.agg [szV lo,szV hi,B a,B b,B d]] (B true):=by refine wu ?_;simp only[dS];simp;refine cd (rO h1) ?_ (by rfl);simp;refine cd (rO h2) ?_ (by rfl);simp
theorem Te:CP Y F.dS [.agg [lst di [],lst di [],B false,B false,B false],.agg [lst di [],lst di [],B false,B false,B false]] (B true):=Ij (lo:=[]) (hi:=[]) ac ac
theorem F9:CP Y F.dT [.agg [lst di [],lst di [],B false,B false,B false]] (B true):=by refine ww ?_;simp only[dT];simp;refine cdz (h':=_) (by rfl) Te ?_;simp
variable{p:LiQ}{c w:Mz}{g:List (List Q)}
mutual
def WD(w:World):D->Value->Prop
 |.int k n,v=>v=.int k n
 |.bool b,v=>v=.bool b
 |.str s,v=>v=.string ⟨⟨s⟩⟩
 |.pl u,v=>v=u∧plain u=true∧okCell u=true
 | .sl len cells,v=>(len=0∧cells=[]∧(v=.slice none 0 0∨∃a,v=.slice (some a) 0 0)) ∨
   ∃ c o cap n cs e fz,v=.slice (some ⟨c,o,none⟩) len cap∧len<=cap∧0<n∧cells.length=len*n ∧
    w.heap[c]?=some (.cells cs e fz)∧o+cells.length<=cs.size∧WDs w cells ((cs.toList.drop o).take cells.length)
def WDs(w:World):LdQ->LvQ->Prop
 |[],l=>l=[]
 |x::xs,l=>∃v vs,l=v::vs∧WD w x v∧WDs w xs vs
end
structure Ly(w:World)(φ:bI)(F:Nat->Prop)(H:AH):Prop where
 rel:ba X φ H w
 wf:WF H
 fr:∀c,F c->c<H.n∧∃x,H.get c=some x∧x.st=1
 ro:∀c x,H.get c=some x->x.wr=false
 top:∀b p,φ b=some p->b<H.n
 pg:∃p,φ oo=some p
structure uj(φ:bI)(F:Nat->Prop)(H:AH)(φ':bI)(F':Nat->Prop)(H':AH):Prop where
 n:H.n<=H'.n
 le:PLe φ φ'
 fm:∀c,F c->F' c
 keep:∀c,c<H.n->H'.get c=H.get c
theorem uj.refl(φ:bI)(F:Nat->Prop)(H:AH):uj φ F H φ F H:=⟨Z8 _,PLe.refl _,λ_ h=>h,λ_ _=>rfl⟩
theorem uj.trans{φ φ1 φ2:bI}{F F1 F2:Nat->Prop}{H H1 H2:AH}(a:uj φ F H φ1 F1 H1)(b:uj φ1 F1 H1 φ2 F2 H2):uj φ F H φ2 F2 H2:=
 ⟨Z4 a.n b.n,a.le.trans b.le,λc h=>b.fm c (a.fm c h),λc h=>by rw[b.keep c (Z2 h a.n),a.keep c h]⟩
theorem uj.leF{φ φ':bI}{F F':Nat->Prop}{H H':AH}{w:World}(L:Ly w φ F H)(a:uj φ F H φ' F' H'):LeF F F' H H':=
 ⟨a.fm,λc hc=>a.keep c (L.fr c hc).1,λc x hx h0=>⟨x,by grind[keep,AH.get_lt],h0⟩⟩
def roB(b n:Nat)(cells:LvQ):Blk:={cells,st:=1,wr:=false,fam:=b,start:=0,shared:=false,exact:=true,esz:=n,ver:=1}
theorem Ly.push{w:World}{φ:bI}{F:Nat->Prop}{H:AH}(L:Ly w φ F H){c o n:Nat}{us vs:LvQ}{cs:Array Value}{e:TypeId}{fz:Nat×Nat}(hh:w.heap[c]?=some (.cells cs e fz))
  (hlen:us.length=vs.length) (ho:o+us.length<=cs.size) (hvs:vs=(cs.toList.drop o).take us.length) (hr:am φ us vs) :
  Ly w (yT φ H.n ⟨c,o,us.length,n,cs.size,true⟩) (λx=>F x∨x=H.n) (H.push (roB H.n n us)) ∧
  uj φ F H (yT φ H.n ⟨c,o,us.length,n,cs.size,true⟩) (λx=>F x∨x=H.n) (H.push (roB H.n n us)):=by
 have hnone:φ H.n=none:=by
  cases hq:φ H.n with
  |none=>rfl
  |some p=>have:=L.top _ p hq;omega
 have hle:PLe φ (yT φ H.n ⟨c,o,us.length,n,cs.size,true⟩):=PLe.add hnone;have hn:(H.push (roB H.n n us)).n=H.n+1:=rfl;have old:∀b,b<H.n->(H.push (roB H.n n us)).get b=H.get b:=λb hb=>AH.get_push aa
 have new:(H.push (roB H.n n us)).get H.n=some (roB H.n n us):=AH.get_push_new H _
 have ro:∀b x,(H.push (roB H.n n us)).get b=some x->x.wr=false:=λb x hx=>by
  rcases Zg b H.n with h|h
  .grind[ro]
  .have hb:b=H.n:=by have:=AH.get_lt hx;omega
   subst hb;rw[new]at hx;cases hx;rfl
 refine ⟨⟨⟨λg hg=>?_,λb p hp=>?_,λb p x i v hp hx h1 hv=>?_,λb p x i hp hx h1 hi=>?_,λb b' p p' x x' _ _ hx hx' _ _ _ _=>.inl ⟨ro b x hx,ro b' x' hx'⟩⟩,?_,λb hb=>?_,ro,λb p hp=>?_,L.pg.imp λp hp=>hle _ p hp⟩,
  ⟨aa,hle,λx h=>.inl h,old⟩⟩
 .obtain⟨p,hp,h1⟩:=L.rel.glob g hg;exact⟨p,hle g p hp,h1⟩
 .by_cases hb:b=H.n
  .subst hb;rw[dO]at hp;cases hp;exact⟨_,cs,e,fz,new,by simp[roB],rfl,rfl,rfl,hh,rfl,ho⟩
  .rw[fW hb]at hp;obtain⟨x,r⟩:=L.rel.dom b p hp
   grind[top]
 .by_cases hb:b=H.n
  .subst hb;rw[dO]at hp;cases hp;rw[new]at hx;cases hx;obtain⟨v',h1,h2⟩:=hr.at (i:=i) hv
   grind[ak.mono,cell_of_heap]
  .rw[fW hb]at hp;rw[old b (L.top b p hp)]at hx;obtain⟨v',h2,h3⟩:=L.rel.cell b p x i v hp hx h1 hv
   grind[ak.mono]
 .grind
 .refine⟨by simp[AH.push,L.wf.len],λb x hx=>?_⟩;rcases Zg b H.n with h|h
  .rw[old b h]at hx;exact L.wf.fam b x hx
  .have hb:b=H.n:=by have:=AH.get_lt hx;omega
   subst hb;rw[new]at hx;cases hx;trivial
 .rcases hb with hb|rfl
  .obtain⟨h1,x,h2,h3⟩:=L.fr b hb;exact⟨aa,x,by grind,h3⟩
  .exact⟨aa,_,new,rfl⟩
 .by_cases hb:b=H.n
  .omega
  .rw[fW hb]at hp;have:=L.top b p hp;omega
mutual
theorem lay{w:World}:∀(d:D)(v:Value){φ:bI}{F:Nat->Prop}{H:AH},Ly w φ F H->WD w d v ->
  ∃φ' F' H' u,Ly w φ' F' H'∧uj φ F H φ' F' H'∧ak φ' u v∧RD F' H' d u
 |.int k n,v,φ,F,H,L,h=>⟨φ,F,H,v,L,uj.refl ..,by simp only[WD]at h;subst h;rfl,h⟩
 |.bool b,v,φ,F,H,L,h=>⟨φ,F,H,v,L,uj.refl ..,by simp only[WD]at h;subst h;rfl,h⟩
 |.str s,v,φ,F,H,L,h=>⟨φ,F,H,v,L,uj.refl ..,by simp only[WD]at h;subst h;rfl,h⟩
 |.pl u,v,φ,F,H,L,h=>⟨φ,F,H,v,L,uj.refl ..,by grind[WD,ak.of_plain],h⟩
 | .sl len cells,v,φ,F,H,L,h=>by
  simp only[WD]at h;rcases h with⟨rfl,rfl,rfl|⟨a,rfl⟩⟩|⟨c,o,cap,n,cs,e,fz,rfl,hlc,hn,hlen,hh,ho,hds⟩
  .exact⟨φ,F,H,.slice none 0 0,L,uj.refl ..,rfl,.inl ⟨rfl,rfl,.inl rfl⟩⟩
  .obtain⟨p,hp⟩:=L.pg;obtain⟨x,_,_,_,hx,h0,_⟩:=L.rel.dom _ _ hp;exact⟨φ,F,H,.slice (some ⟨oo,0,none⟩) 0 0,L,uj.refl ..,⟨a,0,rfl,.inr ⟨rfl,rfl,rfl,rfl,p,hp⟩⟩,.inl ⟨rfl,rfl,.inr ⟨_,_,_,rfl,x,hx,h0⟩⟩⟩
  .obtain⟨φ1,F1,H1,us,L1,E1,r1,d1⟩:=lays cells _ L hds;have hl:us.length=cells.length:=by have:=d1.length;omega
   obtain⟨L2,E2⟩:=L1.push (us:=us) (n:=n) (o:=o) hh (by grind) aa (by rw[hl]) r1;refine⟨_,_,_,.slice (some ⟨H1.n,0,none⟩) len cap,L2,E1.trans E2,?_,?_⟩
   .refine⟨⟨c,o,none⟩,cap,rfl,.inl ⟨rfl,rfl,_,dO ..,rfl,rfl,.inl rfl⟩⟩
   .have new:(H1.push (roB H1.n n us)).get H1.n=some (roB H1.n n us):=AH.get_push_new H1 _;by_cases h0:len=0
    .subst h0;exact .inl ⟨rfl,Zi aa,.inr ⟨_,_,_,rfl,_,new,by simp[roB]⟩⟩
    .refine .inr ⟨H1.n,0,cap,us,n,rfl,aa,hlc,hn,hlen,.inr rfl,?_,RDs.mono (E2.leF L1) _ _ d1,_,new,.inl rfl⟩;rw[kT new rfl (by show 0+cells.length<=us.length;omega)]
     show some ((us.drop 0).take cells.length)=_
     grind
theorem lays{w:World}:∀(ds:LdQ)(vs:LvQ){φ:bI}{F:Nat->Prop}{H:AH},Ly w φ F H->WDs w ds vs ->
  ∃φ' F' H' us,Ly w φ' F' H'∧uj φ F H φ' F' H'∧am φ' us vs∧RDs F' H' ds us
 |[],vs,φ,F,H,L,h=>⟨φ,F,H,[],L,uj.refl ..,by trivial,rfl⟩
 | d::ds,vs,φ,F,H,L,h=>by
  simp only[WDs]at h;obtain⟨v,vs,rfl,h1,h2⟩:=h;obtain⟨φ1,F1,H1,u,L1,E1,r1,d1⟩:=lay d v L h1;obtain⟨φ2,F2,H2,us,L2,E2,r2,d2⟩:=lays ds vs L1 h2;exact⟨φ2,F2,H2,u::us,L2,E1.trans E2,⟨v,vs,rfl,ak.mono E2.le u v r1,r2⟩,⟨u,us,rfl,RD.mono (E2.leF L1) _ _ d1,d2⟩⟩
end
def abj:Nat->List Blk
 |0=>[]
 |n+1=>qI::abj n
theorem LL:∀(n i:Nat)(x:Blk),(abj n)[i]?=some x->x=qI
 |0,_,_,h=>by trivial
 |n+1,0,x,h=>by grind[abj]
 |n+1,i+1,x,h=>LL n i x (by trivial)
def Ba:LvQ:=[.int .u64 1,.int .u64 10,.int .u64 100,.int .u64 1000,.int .u64 10000,.int .u64 100000,.int .u64 1000000,.int .u64 10000000,.int .u64 100000000,.int .u64 1000000000,.int .u64 10000000000,.int .u64 100000000000,
 .int .u64 1000000000000,.int .u64 10000000000000,.int .u64 100000000000000,.int .u64 1000000000000000,.int .u64 10000000000000000,.int .u64 100000000000000000,.int .u64 1000000000000000000,.int .u64 10000000000000000000]
def Rv(w:World):Prop:=∃cs e fz,w.heap[oo]?=some (.cells cs e fz)∧20<=cs.size∧Ba=cs.toList.take 20
def H00:AH:=⟨oo,abj oo⟩
theorem ac0{b:Nat}{x:Blk}(h:H00.get b=some x):x=qI:=by
 unfold AH.get at h;split at h
 .exact LL _ _ _ h
 .trivial
theorem start{w:World}(hp:Rv w):∃φ F H,Ly w φ F H∧pN Y F H:=by
 obtain⟨cs,e,fz,hh,hsz,hcs⟩:=hp
 let φ:bI:=λb=>if b=oo then some ⟨oo,0,20,1,cs.size,true⟩else none
 let H:AH:=H00.push (roB oo 1 Ba)
 have hn:H.n=oo+1:=rfl;have new:H.get oo=some (roB oo 1 Ba):=AH.get_push_new H00 _
 have old:∀{b x},b≠oo->H.get b=some x->x=qI:=λ{b x} hb hx=>by
  grind[H00,AH.get_push,ac0]
 have hφ:∀{b p},φ b=some p->b=oo∧p=⟨oo,0,20,1,cs.size,true⟩:=λ{b p} h=>by
  grind
 have ro:∀b x,H.get b=some x->x.wr=false:=λb x hx=>by
  by_cases hb:b=oo
  .subst hb;rw[new]at hx;cases hx;rfl
  .rw[old hb hx];rfl
 have L:Ly w φ (· = oo) H:=by
  refine⟨⟨λg hg=>?_,λb p hp=>?_,λb p x i v hp hx h1 hv=>?_,λb p x i hp hx h1 hi=>?_,λb b' p p' x x' _ _ hx hx' _ _ _ _=>.inl ⟨ro b x hx,ro b' x' hx'⟩⟩,?_,?_,ro,λb p hp=>?_,⟨⟨oo,0,20,1,cs.size,true⟩,by rfl⟩⟩
  .have:g=oo:=by simpa[X]using hg
   exact⟨⟨oo,0,20,1,cs.size,true⟩,by grind,this.symm,rfl⟩
  .grind[roB]
  .obtain⟨rfl,rfl⟩:=hφ hp;rw[new]at hx;cases hx;have hv':Ba[i]?=some v:=hv;refine⟨v,?_,?_⟩
   .grind[cell_of_heap]
   .have hm:v∈Ba:=X4 hv';have:Ba.all plain=true:=rfl
    grind[ak.of_plain]
  .grind
  .refine⟨by rfl,λb x hx=>?_⟩;by_cases hb:b=oo
   .subst hb;rw[new]at hx;cases hx;trivial
   .rw[old hb hx];exact Y7 _
  .rintro c rfl;exact⟨aa,_,new,rfl⟩
  .grind
 refine⟨φ,_,H,L,λg cs' hg=>?_⟩
 have hgp:g=oo∧cs'=LI:=by
  simp only[Y]at hg;split at hg
  .simp_all
  .cases hg
 obtain⟨rfl,rfl⟩:=hgp;refine⟨Xu _,rfl,⟨_,new,rfl,ae⟩,Ba,?_,?_⟩
 .rfl
 simp[LI,Ba,RDs,RD]
open Go.ChangeShapes Go.WideShapes Go.ChangeAt Go.RowKit
variable{HH:Type}{enc:TypeId×Value->HH}{P:Program}{w:World}{base:Nat}{held:Bool}
theorem M5{a:Addr}{v:Value}(h:w.cell? a=some v):∃cs e fz,w.heap[a.block]?=some (.cells cs e fz)∧a.spot=none∧cs[a.off]?=some v:=by
 unfold World.cell? at h;split at h
 .rename_i c e fz hc;split at h
  .cases h
  .rename_i hs;refine⟨c,e,fz,hc,?_,h⟩;cases hq:a.spot with
   |none=>rfl
   |some s=>rw[hq]at hs;simp at hs
 .cases h
theorem addr_add(a:Addr)(hs:a.spot=none)(i:Nat):a.add i=⟨a.block,a.off+i,none⟩:=by
 unfold Addr.add;split
 .rename_i h;subst h;cases a;simp at hs ⊢;exact hs
 .rfl
theorem Iv{a:Addr}{vs:LvQ}(h:∀i v,vs[i]?=some v->w.cell? (a.add i)=some v)(hp:0<vs.length):
  ∃cs e fz,w.heap[a.block]?=some (.cells cs e fz)∧a.spot=none∧a.off+vs.length<=cs.size∧vs=(cs.toList.drop a.off).take vs.length:=by
 obtain⟨v0,h0⟩:∃v,vs[0]?=some v:=⟨vs[0],by simp[hp]⟩;obtain⟨cs,e,fz,hc,hs,_⟩:=M5 (h 0 v0 h0);have ha0:a.add 0=a:=by unfold Addr.add;simp
 rw[ha0]at hc hs
 have at_:∀i v,vs[i]?=some v->cs[a.off+i]?=some v:=λi v hv=>by
  obtain⟨cs',e',fz',hc',_,hv'⟩:=M5 (h i v hv);rw[addr_add a hs]at hc' hv';simp only at hc' hv';rw[hc]at hc';cases hc';exact hv'
 have hle:a.off+vs.length<=cs.size:=by
  have hl:=at_ (vs.length-1) vs[vs.length-1] (by rw[List.getElem?_eq_getElem]);have:=(Array.getElem?_eq_some_iff.1 hl).1;omega
 refine⟨cs,e,fz,hc,hs,hle,?_⟩;apply Yh;intro i;by_cases hi:i<vs.length
 .rw[List.getElem?_take_of_lt hi,List.getElem?_drop];have:=at_ i vs[i] (by rw[List.getElem?_eq_getElem hi]);rw[List.getElem?_eq_getElem hi];simpa using this.symm
 .rw[List.getElem?_eq_none aa,List.getElem?_eq_none bb]
inductive Sh where
 |int (k:IntKind)
 |bool
 |str
 |sl (e:Sh)
 |ar (n:Nat) (e:Sh)
 |st (fs:List Sh)
variable{s:Sh}
mutual
/-- A type has a shape. -/
def Typ(P:Program):Sh->TypeId->Prop
 |.int k,t=>P.underlying t=some (.int k)∧P.cellsOf t=1
 |.bool,t=>P.underlying t=some .bool∧P.cellsOf t=1
 |.str,t=>P.underlying t=some .string∧P.cellsOf t=1
 |.sl e,t=>∃u,P.underlying t=some (.slice u)∧P.cellsOf t=1∧0<P.cellsOf u∧Typ P e u
 |.ar n e,t=>∃u,P.underlying t=some (.array n u)∧P.cellsOf t=n*P.cellsOf u∧Typ P e u
 |.st fs,t=>∃l:List Field,P.underlying t=some (.struct l.toArray)∧TG P fs l 0 (P.cellsOf t)
def TG(P:Program):List Sh->List Field->Nat->Nat->Prop
 |[],l,o,n=>l=[]∧o=n
 |s::ss,l,o,n=>∃f r,l=f::r∧f.offset=o∧Typ P s f.type∧TG P ss r (o+P.cellsOf f.type) n
end
mutual
/-- Cells of a shape. -/
def Dat:Sh->LdQ->Prop
 |.int k,ds=>∃n,ds=[.int k n]∧(Lit.int k n).wf=true
 |.bool,ds=>∃b,ds=[.bool b]
 |.str,ds=>∃s:LuQ,ds=[.str s]∧s.length<=maxLen
 |.sl e,ds=>∃xs:List LdQ,ds=[.sl xs.length xs.flatten]∧∀x∈xs,Dat e x
 |.ar n e,ds=>∃xs:List LdQ,ds=xs.flatten∧xs.length=n∧∀x∈xs,Dat e x
 |.st ss,ds=>afj ss ds
def afj:List Sh->LdQ->Prop
 |[],ds=>ds=[]
 |s::ss,ds=>∃a b,ds=a++b∧Dat s a∧afj ss b
end
theorem WDs.append:∀{a b:LdQ}{u v:LvQ},WDs w a u->WDs w b v->WDs w (a++b) (u++v)
 |[],b,u,v,h,h2=>by grind[WDs]
 | x::a,b,u,v,h,h2=>by
  simp only[WDs]at h;obtain⟨y,u,rfl,h0,h1⟩:=h;exact⟨y,u++v,rfl,h0,h1.append h2⟩
theorem WDs.len:∀{a:LdQ}{u:LvQ},WDs w a u->a.length=u.length
 |[],u,h=>by grind[WDs]
 | x::a,u,h=>by
  simp only[WDs]at h;obtain⟨y,u,rfl,_,h1⟩:=h;simp[h1.len]
theorem uB{α:Type}(C:Nat->List α)(n:Nat):∀m,(∀i,i<m->(C i).length=n)->((List.range m).flatMap C).length=m*n∧∀i j,i<m->j<n->((List.range m).flatMap C)[i*n+j]?=(C i)[j]?
 |0,_=>⟨ac,λi j hi=>by omega⟩
 | m+1,h=>by
  obtain⟨h1,h2⟩:=uB C n m λi hi=>h i aa
  have e:(List.range (m+1)).flatMap C=(List.range m).flatMap C++C m:=by simp[Wg]
  rw[e];refine⟨by rw[Zq,h1,h m aa,Xt],λi j hi hj=>?_⟩;by_cases him:i<m
  .rw[List.getElem?_append_left,h2 i j him hj];rw[h1]
   calc i*n+j<i*n+n:=aa
    _=(i+1)*n:=by rw[Xt]
    _<=m*n:=Zv n him
  .obtain rfl:i=m:=aa
   simp_all
theorem AF(C:Nat->LvQ)(X:Nat->LdQ):∀m,(∀i,i<m->WDs w (X i) (C i))->WDs w ((List.range m).flatMap X) ((List.range m).flatMap C)
 |0,_=>rfl
 | m+1,h=>by
  simp only[Wg,List.flatMap_append,List.flatMap_cons,List.flatMap_nil,Zn];exact(AF C X m λi hi=>h i aa).append (h m aa)
theorem RA{a:Addr}{len cap n:Nat}{vs:LvQ}(hn:0<n)(hl:len<=cap)(hlen:vs.length=cap*n)(h:∀i v,vs[i]?=some v->w.cell? (a.add i)=some v)(hd:WDs w ds (vs.take (len*n)))(hds:ds.length=len*n):WD w (.sl len ds) (.slice (some a) len cap):=by
 simp only[WD];by_cases h0:cap=0
 .have e:len=0:=aa
  simp_all
 .have hpos:0<vs.length:=by rw[hlen];exact Yl aa hn
  have hle2:len*n<=vs.length:=by rw[hlen];exact Zv n hl
  obtain⟨cs,e,fz,hc,hs,hle,hvs⟩:=Iv h hpos;refine .inr ⟨a.block,a.off,cap,n,cs,e,fz,?_,hl,hn,hds,hc,aa,?_⟩
  .cases a;grind
  grind
def Opn(enc:TypeId×Value->HH)(P:Program)(w:World)(base:Nat)(held:Bool)(s:Sh):Prop:=
 ∀(t:TypeId)(fuel:Nat)(cs:LvQ)(x:DataW HH×List MemPlace),Typ P s t->DataW.trod enc P w base (λ_=>true) held fuel t cs=some x->cs.length=P.cellsOf t∧∃ds,Dat s ds∧WDs w ds cs
theorem J5[Inhabited α]{p:Nat->α->Prop}(h:∀i,i<m->∃x,p i x):∃f:Nat->α,∀i,i<m->p i (f i):=
 ⟨λi=>if hi:i<m then Classical.choose (h i hi)else default,λi hi=>by
  grind⟩
theorem aec(ih:Opn enc P w base held s):Opn enc P w base held (.sl s):=by
 intro t fuel cs x ht h;simp only[Typ]at ht;obtain⟨u,hu,hc1,hcu,hs⟩:=ht;rcases Deep.open_slice hu h with⟨rfl,_⟩|⟨a,len,cap,m,n,Dd,Pl,rfl,_,hlc,_,hm,_,hx⟩
 .exact⟨by grind,[.sl 0 []],⟨[],rfl,λx hx=>by cases hx⟩,_,_,rfl,.inl ⟨rfl,rfl,.inl rfl⟩,rfl⟩
 .simp only[if_true]at hm;subst hm;obtain⟨C,hC⟩:=J5 (α:=LvQ) hx
  obtain ⟨E,hE⟩:=J5 (α:=LdQ) (p:=λi e=>Dat s e∧WDs w e (C i)) (m:=m) λi hi=>by
   obtain⟨_,ds,h1,h2⟩:=ih _ _ _ _ hs (hC i hi).2
   grind
  have hCl:∀i,i<m->(C i).length=P.cellsOf u:=λi hi=>(World.cells?_some (hC i hi).1).2.1
  obtain⟨hl1,hl2⟩:=uB C (P.cellsOf u) m hCl;have hEl:∀i,i<m->(E i).length=P.cellsOf u:=λi hi=>by rw[(hE i hi).2.len,hCl i hi]
  refine⟨by grind,[.sl ((List.range len).map E).length ((List.range len).map E).flatten],⟨_,rfl,λx hx=>?_⟩,_,_,rfl,?_,rfl⟩
  .simp only[Zw,Xi]at hx;obtain⟨i,hi,rfl⟩:=hx;exact(hE i aa).1
  .rw[List.length_map,List.length_range,<-List.flatMap_def];refine RA (vs:=(List.range m).flatMap C) hcu hlc hl1 (λi v hv=>?_) ?_ (uB E (P.cellsOf u) len λi hi=>hEl i aa).1
   .have hi:=(List.getElem?_eq_some_iff.1 hv).1;rw[hl1]at hi;have hdm:=Xm i (P.cellsOf u);have hmod:=Yz i hcu;have hdiv:i/P.cellsOf u<m:=Wr (by grind);have e:i=i/P.cellsOf u*P.cellsOf u+i%P.cellsOf u:=by rw[Zo];exact hdm.symm
    have:=(World.cells?_some (hC _ hdiv).1).2.2 (i%P.cellsOf u) hmod
    grind[Addr.add_add]
   ·have e:((List.range m).flatMap C).take (len*P.cellsOf u)=(List.range len).flatMap C:=by
     have e1:List.range m=List.range len++(List.range (m-len)).map (len + ·):=by
      conv=>lhs;rw[show m=len+(m-len) by omega,List.range_add]
     rw[e1,List.flatMap_append,Yb];exact(uB C (P.cellsOf u) len λi hi=>hCl i aa).1
    rw[e];exact AF C E len λi hi=>(hE i aa).2
theorem aed{n:Nat}(ih:Opn enc P w base held s):Opn enc P w base held (.ar n s):=by
 intro t fuel cs x ht h;simp only[Typ]at ht;obtain⟨u,hu,hct,hs⟩:=ht;obtain⟨xs,m,_,_,hl,hxl,hx⟩:=DataW.trod_array hu h
 let C:Nat->LvQ:=λi=>(cs.drop (i*P.cellsOf u)).take (P.cellsOf u)
 obtain ⟨E,hE⟩:=J5 (α:=LdQ) (p:=λi e=>Dat s e∧WDs w e (C i)) (m:=n) λi hi=>by
  have:=hx i hi;rw[List.getElem?_eq_getElem aa]at this;obtain⟨_,ds,h1,h2⟩:=ih _ _ _ _ hs this
  grind
 refine⟨hl,((List.range n).map E).flatten,⟨_,rfl,ac,λx hx=>?_⟩,?_⟩
 .grind
 .rw[<-List.flatMap_def]
  have e:∀m,m<=n->cs.take (m*P.cellsOf u)=(List.range m).flatMap C:=by
   intro m
   induction m with
   |zero=>simp
   | succ m ihm=>
    intro hm;rw[Xt,List.take_add,ihm aa];simp[Wg,C]
  have:=e n (Z8 _);rw[Zx aa]at this
  grind[AF]
mutual
theorem opn:∀s:Sh,Opn enc P w base held s
 | .int k=>by
  intro t fuel cs x ht h;simp only[Typ]at ht;obtain⟨n,rfl,_,hw⟩:=DataW.trod_int ht.1 h;exact⟨by grind,[.int k n],⟨n,rfl,hw⟩,_,_,rfl,rfl,rfl⟩
 | .bool=>by
  intro t fuel cs x ht h;simp only[Typ]at ht;obtain⟨b,rfl,_⟩:=DataW.trod_bool ht.1 h;exact⟨by grind,[.bool b],⟨b,rfl⟩,_,_,rfl,rfl,rfl⟩
 | .str=>by
  intro t fuel cs x ht h;simp only[Typ]at ht;obtain⟨s,rfl,_,hs⟩:=DataW.trod_string ht.1 h;exact⟨by grind,[.str s.data.toList],⟨_,rfl,by trivial⟩,_,_,rfl,rfl,rfl⟩
 |.sl e=>aec (opn e)
 |.ar n e=>aed (opn e)
 | .st ss=>by
  intro t fuel cs x ht h;simp only[Typ]at ht;obtain⟨l,hu,hl⟩:=ht;obtain⟨xs,m,_,_,hcl,hxl,hx⟩:=DataW.trod_struct hu h;refine⟨hcl,?_⟩
  have:=af5 ss (l:=l) (o:=0) (n:=P.cellsOf t) (fuel:=m) (cs:=cs) hl hcl λf hf=>by
   obtain⟨i,hi⟩:=List.getElem?_of_mem hf;have h1:=hx i f (by grind)
   grind
  trivial
theorem af5:∀(ss:List Sh){l:List Field}{o n fuel:Nat}{cs:LvQ},TG P ss l o n->cs.length=n ->
  (∀f∈l,∃x,DataW.trod enc P w base (λ_=>true) held fuel f.type ((cs.drop f.offset).take (P.cellsOf f.type))=some x)->∃ds,afj ss ds∧WDs w ds (cs.drop o)
 | [],l,o,n,fuel,cs,ht,hl,h=>by
  simp only[TG]at ht;refine⟨[],rfl,?_⟩;rw[Y6 aa];rfl
 | s::ss,l,o,n,fuel,cs,ht,hl,h=>by
  simp only[TG]at ht;obtain⟨f,r,rfl,rfl,h1,h2⟩:=ht;obtain⟨x,hx⟩:=h f ac;obtain⟨_,a,ha,wa⟩:=opn s _ _ _ _ h1 hx;obtain⟨b,hb,wb⟩:=af5 ss h2 hl λg hg=>h g (by grind)
  refine⟨a++b,⟨a,b,rfl,ha,hb⟩,?_⟩
  have e:cs.drop f.offset=(cs.drop f.offset).take (P.cellsOf f.type)++cs.drop (f.offset+P.cellsOf f.type):=by
   rw[<-List.drop_drop,Xv]
  grind[WDs.append]
end
inductive Ar where
 |one (x:D)
 |many (xs:LdQ)
def Ar.v:Ar->V
 |.one x=>.d x
 |.many xs=>.agg (xs.map .d)
def WA(w:World):Ar->Value->Prop
 |.one x,v=>WD w x v
 |.many xs,v=>∃ws,v=.agg ⟨ws⟩∧WDs w xs ws
def WAs(w:World):List Ar->LvQ->Prop
 |[],l=>l=[]
 |x::xs,l=>∃v vs,l=v::vs∧WA w x v∧WAs w xs vs
theorem UM{F1:Nat->Prop}{H1:AH}(φ0:LnQ)(h0:Hp):∀(ds:LdQ)(us:LvQ),RDs F1 H1 ds us->RVs φ0 F1 H1 h0 (ds.map .d) us
 |[],us,h=>by trivial
 | d::ds,us,h=>by
  simp only[RDs]at h;obtain⟨u,us,rfl,h1,h2⟩:=h;exact⟨u,us,rfl,h1,UM φ0 h0 ds us h2⟩
def RAs(F:Nat->Prop)(H:AH)(rs:List Ar)(us:LvQ):Prop:=∀φ0 h0,RVs φ0 F H h0 (rs.map Ar.v) us
theorem aes:∀(rs:List Ar)(vs:LvQ){φ:bI}{F:Nat->Prop}{H:AH},Ly w φ F H->WAs w rs vs ->
  ∃φ' F' H' us,Ly w φ' F' H'∧uj φ F H φ' F' H'∧am φ' us vs∧RAs F' H' rs us
 |[],vs,φ,F,H,L,h=>⟨φ,F,H,[],L,uj.refl ..,by trivial,λ_ _=>rfl⟩
 | .one x::rs,vs,φ,F,H,L,h=>by
  simp only[WAs,WA]at h;obtain⟨v,vs,rfl,h1,h2⟩:=h;obtain⟨φ1,F1,H1,u,L1,E1,r1,d1⟩:=lay x v L h1;obtain⟨φ2,F2,H2,us,L2,E2,r2,d2⟩:=aes rs vs L1 h2;exact⟨φ2,F2,H2,u::us,L2,E1.trans E2,⟨v,vs,rfl,ak.mono E2.le u v r1,r2⟩,λφ0 h0=>⟨u,us,rfl,RD.mono (E2.leF L1) _ _ d1,d2 φ0 h0⟩⟩
 | .many xs::rs,vs,φ,F,H,L,h=>by
  simp only[WAs,WA]at h;obtain⟨v,vs,rfl,⟨ws,rfl,h1⟩,h2⟩:=h;obtain⟨φ1,F1,H1,us1,L1,E1,r1,d1⟩:=lays xs ws L h1;obtain⟨φ2,F2,H2,us,L2,E2,r2,d2⟩:=aes rs vs L1 h2;exact⟨φ2,F2,H2,.agg ⟨us1⟩::us,L2,E1.trans E2,⟨_,vs,rfl,⟨ws,rfl,am.mono E2.le _ _ r1⟩,r2⟩,λφ0 h0=>⟨_,us,rfl,⟨us1,rfl,UM φ0 h0 _ _ (RDs.mono (E2.leF L1) _ _ d1)⟩,d2 φ0 h0⟩⟩
theorem J6{f:FuncId}{rs:List Ar}{vs:LvQ}{b:Bool}{w:World}(hc:CP Y f (rs.map Ar.v) (.d (.bool b)))(hw:WAs w rs vs)(hp:Rv w)(h0:∀u,Y.X.orc f u=none:=by exact λ_=>rfl):
  Calls X.P f vs.toArray w λe w'=>e=.returned (.bool b)∧w'.os=w.os∧w'.output=w.output∧w.heap.size<=w'.heap.size∧∀c,c<w.heap.size->w'.heap[c]?=w.heap[c]?:=by
 obtain⟨φ,F,H,L,g⟩:=start hp;obtain⟨φ1,F1,H1,us,L1,E1,r1,d1⟩:=aes rs vs L hw;obtain⟨n,wv,H2,F2,hcall,hn,_,_,_,_,_,_,_,hr⟩:=ag3 vOk hc F1 H1 us L1.wf L1.fr (g.mono (E1.leF L)) d1
 have hv:wv=.bool b:=by
  have:=hr [] [];simpa only[RV,RD]using this
 subst hv;refine(M6 aeg hcall L1.rel (args':=vs.toArray) r1 h0).mono ?_;rintro e w' ⟨φ',v',rfl,h1,h2,h3,h4⟩;have hv':v'=.bool b:=(ak.of_plain (.bool b) rfl v').1 h1;subst hv';refine⟨rfl,h3.os,h3.out,h3.size,λc hc=>h3.frame c hc ?_⟩;rintro⟨b',p,x,_,_,hx,_,hwr⟩
 grind[Ly.ro]
theorem adG{v:Value}{x:DataW HH×List MemPlace}(ht:Typ P s t)(hc:P.cellsOf t=1)(h:DataW.trod enc P w base (λ_=>true) held fuel t v.cells.toList=some x)(hv:∀cs,v≠.agg cs):
  ∃d,Dat s [d]∧WA w (.one d) v:=by
 obtain⟨hl,ds,h1,h2⟩:=opn s _ _ _ _ ht h
 have hcl:v.cells.toList=[v]:=by
  cases v<;>first|rfl|grind
 rw[hcl]at h2;have:=h2.len;obtain⟨d,rfl⟩:∃d,ds=[d]:=List.length_eq_one_iff.1 this;simp only[WDs]at h2;obtain⟨v',vs',e,h2,_⟩:=h2;simp only[List.cons.injEq]at e;obtain⟨rfl,_⟩:=e;exact⟨d,h1,h2⟩
theorem aaI{v:Value}{x:DataW HH×List MemPlace}(ht:Typ P s t)(h:DataW.trod enc P w base (λ_=>true) held fuel t v.cells.toList=some x)(hv:∃cs,v=.agg cs):
  ∃ds,Dat s ds∧WA w (.many ds) v:=by obtain⟨hl,ds,h1,h2⟩:=opn s _ _ _ _ ht h;obtain⟨cs,rfl⟩:=hv;exact⟨ds,h1,cs.toList,rfl,h2⟩
theorem NI{P:Program}{base:Nat}{fs:Array Field}{v:Value}(ht:P.underlying t=some (.struct fs))(h:Value.okWide P W .any base t v):∃cs,v=.agg cs:=by grind[Value.okWide]
theorem FW{f:α->LdQ}(q:α->Prop)(hs:∀ds,Dat s ds->∃a,ds=f a∧q a)(h:Dat (.sl s) [d]):∃l:List α,d=.sl l.length (l.flatMap f)∧∀a∈l,q a:=by
 simp only[Dat,List.cons.injEq,and_true]at h;obtain⟨xs,rfl,hx⟩:=h
 have:∀xs:List LdQ,(∀x∈xs,Dat s x)->∃l:List α,xs=l.map f∧∀a∈l,q a:=by
  intro xs
  induction xs with
  |nil=>simp
  | cons x xs ih=>
   intro h;obtain⟨n,rfl,hn⟩:=hs x (h x ac);obtain⟨zs,rfl,hz⟩:=ih λy hy=>h y (by grind)
   exact⟨n::zs,rfl,λm hm=>by grind⟩
 obtain⟨l,rfl,hl⟩:=this xs hx;exact⟨l,by rw[List.length_map,<-List.flatMap_def],hl⟩
def Rx(W W':World):Prop:=W'.os=W.os∧W'.output=W.output∧W.heap.size<=W'.heap.size∧∀c,c<W.heap.size->W'.heap[c]?=W.heap[c]?
variable{H:Type}{enc:TypeId×Value->H}{P:Program}
theorem Rx.but(h:Rx W W')(may:MemPlace->Prop):W.keptBut W' may:=by
 refine⟨h.1,h.2.1,λi hi=>?_⟩;rw[h.2.2.2 i hi];cases hq:W.heap[i]? with
 |none=>simp
 |some o=>cases o<;>simp
theorem Sm{f:Func}{s:ChangeSpec}{apart fresh handsOn again:Bool}{W W':World}{args:Array Value}{v:Value}{ds gs:List (DataW H)}{before pa pv:List MemPlace}
  (hW:DataW.Whole enc P f.params.toList s.vars apart W args.toList ds gs before)
  (hres:∀(b:Nat)(sp:Nat->Bool)(hd:Bool),DataW.TrodAll enc P W' b sp hd f.resultTypes.toList (v.resultList f.resultTypes.size) (s.fn H (ds++gs)).results [])
  (hargs:∀sp:Nat->Bool,(∀p∈before,sp p.block=true)->DataW.TrodAll enc P W' 0 sp true f.params.toList args.toList (s.fn H (ds++gs)).args pa)
  (hvars:∀sp:Nat->Bool,(∀p∈before,sp p.block=true)->DataW.TrodVars enc P W' sp s.vars (s.fn H (ds++gs)).vars pv)
  (hps:before=pa++pv) (hk:Rx W W')
  (hok:∀(j:Nat)(t:TypeId)(r:Value),f.resultTypes[j]?=some t->(v.resultList f.resultTypes.size)[j]?=some r->Value.okWide P W' .any 0 t r) :
  s.post enc P f apart fresh handsOn again W args v W':=by
 have hold:∀p∈before,(λb=>decide (b<W.heap.size)) p.block=true:=λp hp=>by simpa using hW.lt p hp
 have hlt:=hW.lt;refine⟨ds,gs,before,[],pa,pv,hW,hres _ _ _,hargs _ hold,hvars _ hold,World.keptBut_mono (λp hp=>⟨hp,?_⟩) (hk.but (· ∈ before)),λ_=>?_⟩
 .rw[hps,Xp]at hp;exact Or.inr hp
 .obtain⟨_,_,_,_,_,hz,hn⟩:=hW;refine⟨hok,_,_,([]++pa)++pv,⟨[]++pa,pv,trodAll_append (hargs _ (λ_ _=>rfl)) (hres _ _ _),hvars _ (λ_ _=>rfl),rfl,?_,?_⟩,?_⟩
  .intro b off hp;have hp':MemPlace.cell b off∈before:=by rw[hps];simpa using hp
   have hb:b<W.heap.size:=hlt _ hp';have:=hz b off hp';simp only[World.frozen?]at this ⊢;rw[hk.2.2.2 b hb];exact this
  .intro ha;have:=hn ha;rw[hps]at this;simpa using this
  .intro p hp _;rw[hps];simpa using hp
theorem yZ(hl:laidOutB P=true){W W':World}(hk:Rx W W'){sp:Nat->Bool}:∀{ts:List TypeId}{vs:LvQ}{ds:List (DataW H)}{ps:List MemPlace},(∀t∈ts,P.readableRec t=true∧t<P.types.size) ->
  DataW.TrodAll enc P W 0 (λ_=>true) true ts vs ds ps->(∀p∈ps,p.block<W.heap.size)->(∀p∈ps,sp p.block=true)->DataW.TrodAll enc P W' 0 sp true ts vs ds ps
 | [],vs,ds,ps,_,h,_,_=>by
  obtain⟨rfl,rfl,rfl⟩:=trodAll_nil h;exact trodAll_mk0
 | t::ts,vs,ds,ps,hr,h,hlt,hsp=>by
  obtain⟨v,vs',d,ds',p,q,rfl,rfl,rfl,h1,h2⟩:=trodAll_cons h;refine trodAll_cons_mk (WideElems.Trod_stays hl (hr t ac).1 (hr t ac).2 h1 (λx hx=>?_) λx hx=>hsp x (by simp[hx])) (yZ hl hk (λu hu=>hr u (by simp[hu])) h2 (λx hx=>hlt x (by simp[hx])) λx hx=>hsp x (by simp[hx]));have hb:=hlt x (by simp[hx]);cases x with
  | cell b off=>
   simp only[World.sameAt,World.cell?];rw[hk.2.2.2 b hb]
  |map b=>exact hk.2.2.2 b hb
theorem Ff{P:Program}{w:World}:∀{l:List (String×DataW Unit)}{ps:List MemPlace},DataW.LaidVars P w l ps->∀n d,(n,d)∈l ->
  ∃g t cs fuel p,P.globalNamed n=some g∧(P.globals[g]?).map (·.type)=some t∧w.var? P n=some cs∧DataW.trod (λ_=>()) P w 0 (λ_=>true) false fuel t cs.toList=some (d,p)
 |[],_,_,_,_,hm=>by cases hm
 | (n',d')::r,ps,h,n,d,hm=>by
  obtain⟨g,t,cs,fuel,p,q,h1,h2,h3,h4,h5,_⟩:=h;rcases Zy.1 hm with e|e
  .cases e;exact⟨g,t,cs,fuel,p,h1,h2,h3,h4⟩
  .exact Ff h5 n d e
def ad8:LiQ:=[1,10,100,1000,10000,100000,1000000,10000000,100000000,1000000000,10000000000,100000000000,1000000000000,10000000000000,100000000000000,1000000000000000,10000000000000000,100000000000000000,1000000000000000000,10000000000000000000]
theorem ad6{P:Program}{W:World}{name:String}{t e:TypeId}(hg:P.globalNamed name=some oo)(hty:(P.globals[oo]?).map (·.type)=some t)(ht:P.underlying t=some (.array 20 e))(he:P.underlying e=some (.int .u64))(hce:P.cellsOf e=1)(hct:P.cellsOf t=20)
  {l:List (String×DataW Unit)} (hm:(name,Lib.tabData .u64 ad8)∈l) (h:laidMet P l W):Rv W:=by
 obtain⟨ps,hv,_⟩:=h;obtain⟨g',t',cs,fuel,p,hg',ht',hvar,hd⟩:=Ff hv _ _ hm;obtain rfl:=Option.some.inj (hg.symm.trans hg');obtain rfl:=Option.some.inj (hty.symm.trans ht')
 have tab:Lib.TabIs P W name .u64 ad8:=by
  unfold Lib.TabIs;rw[hvar,<-Lib.cells_of_tab ht he hce hct hd]
 have hpv:∀i v,Ba[i]?=some v->W.cell? ((⟨oo,0,none⟩:Addr).add i)=some v:=by
  intro i v hv;have hi:i<20:=(List.getElem?_eq_some_iff.1 hv).1;rw[addr_add _ rfl];have h1:=tab.cell hg i hi;simp only[Zj];rw[h1];have h2:Ba=ad8.map λz=>Value.int .u64 z:=rfl
  rw[h2,List.getElem?_map,Z0]at hv;obtain⟨z,hz,rfl⟩:=hv;simp[hz]
 obtain⟨cs,e,fz,h1,_,h2,h3⟩:=Iv (w:=W) (a:=⟨oo,0,none⟩) (vs:=Ba) hpv ae;exact⟨cs,e,fz,h1,by simpa[Ba]using h2,by simpa[Ba]using h3⟩
variable{p:LiQ}{c w:Mz}
theorem TS(h:pP p c w):CP Y F.jm [tpV p c w] (I (gtB w)):=by
 refine yj ?_;simp only[jm,tpV];simp;have l1:aN (mat w)=some (I w.length):=rfl;by_cases h2:w.length=2
 .have i1:∀h:Hp,ixV h 1 (mat w) (.d (.int .i64 0))=some (.dptr (w.map row) 0):=λh=>eY row w h rfl aa
  have i2:∀h:Hp,ld1 h (.dptr (w.map row) 0)=some (lst di (nth [] w 0)):=λh=>eX row [] w h aa
  have hr:(nth [] w 0).length=p.length:=h.lw.rl _ (by rw[cC _ _ _ aa];simp);have hp:=h.lw.n0;have i3:∀h:Hp,ixV h 1 (lst di (nth [] w 0)) (.d (.int .i64 0))=some (.dptr ((nth [] w 0).map di) 0):=λh=>eY di _ h rfl aa
  have i4:∀h:Hp,ld1 h (.dptr ((nth [] w 0).map di) 0)=some (I (nth 0 (nth [] w 0) 0)):=λh=>eX di 0 _ h aa
  have h2':(w.length:Int)=2:=aa;by_cases h0:nth 0 (nth [] w 0) 0=0
  .simp_all[gtB]
  simp_all[gtB]
 .have h2':¬(w.length:Int)=2:=aa
  simp_all[gtB]
theorem BM:∀(a u:LiQ)(z:Int),a.length<u.length->oh (a++[z]) u=oh a u+z*nth 0 u a.length
 |[],b::u,z,_=>by simp[oh,nth]
 | y::a,b::u,z,h=>by
  have:=BM a u z (by grind)
  grind[oh,nth]
theorem Ql{a b:Int}(ha : -1000000000<=a∧a<=1000000000)(hb : -1000000000<=b∧b<=1000000000): -1000000000000000000<=a*b∧a*b<=1000000000000000000:=by
 have h1:(a*b).natAbs<=1000000000*1000000000:=by
  rw[Zm];exact Zu aa aa
 omega
theorem Io{w:Mz}{x:LiQ}(h2:w.length=2)(hl:∀v∈w,v.length=x.length)(hn:x.length<=8)(hx:bd9 x)(hv:∀v∈w,bd9 v)(P C:V)(h0:Hp)(K:KL):∀(q a:LiQ),x=a++q ->
  K (.exit 0) [I (oh x (nth [] w 0)),I (oh x (nth [] w 1))] [(1,.vars [P,C,mat w])] ->
  lp (iR (CX Y) (lst di x) (.ptr 0 1 0 3)) [] h0 [I (oh a (nth [] w 0)),I (oh a (nth [] w 1)),I a.length] [(1,.vars [P,C,mat w])] K
 | [],a,e,hK=>by
  simp only[Zn]at e;subst e;refine ai ?_;have hlt:¬((x.length:Int)<(x.length:Int)):=aa
  simp_all[aN,lst,iR]
 | z::q,a,e,hK=>by
  refine ai ?_;have hal:a.length<x.length:=by rw[e];simp
  have hlt:((a.length:Int)<(x.length:Int)):=aa;have l1:aN (lst di x)=some (I x.length):=rfl;have hz:=hx z (by grind);have hmem:∀i,i<2->nth [] w i∈w:=λi hi=>by rw[cC _ _ _ aa];simp
  obtain⟨u,hu⟩:=nmQ (nth [] w 0);obtain⟨v,hvv⟩:=nmQ (nth [] w 1);have ul:u.length=x.length:=by rw[hu];exact hl _ (hmem 0 aa)
  have vl:v.length=x.length:=by rw[hvv];exact hl _ (hmem 1 aa)
  have ub:bd9 u:=by rw[hu];exact hv _ (hmem 0 aa)
  have vb:bd9 v:=by rw[hvv];exact hv _ (hmem 1 aa)
  have i1:∀h:Hp,ixV h 1 (mat w) (.d (.int .i64 0))=some (.dptr (w.map row) 0):=λh=>eY row w h rfl aa
  have i2:∀h:Hp,ld1 h (.dptr (w.map row) 0)=some (lst di u):=λh=>by rw[hu];exact eX row [] w h aa
  have i3:∀h:Hp,ixV h 1 (mat w) (.d (.int .i64 1))=some (.dptr (w.map row) 1):=λh=>eY row w h rfl aa
  have i4:∀h:Hp,ld1 h (.dptr (w.map row) 1)=some (lst di v):=λh=>by rw[hvv];exact eX row [] w h aa
  have j1:∀h:Hp,ixV h 1 (lst di u) (I a.length)=some (.dptr (u.map di) a.length):=λh=>eY di u h rfl aa
  have j2:∀h:Hp,ld1 h (.dptr (u.map di) a.length)=some (I (nth 0 u a.length)):=λh=>eX di 0 u h aa
  have j3:∀h:Hp,ixV h 1 (lst di v) (I a.length)=some (.dptr (v.map di) a.length):=λh=>eY di v h rfl aa
  have j4:∀h:Hp,ld1 h (.dptr (v.map di) a.length)=some (I (nth 0 v a.length)):=λh=>eX di 0 v h aa
  have k1:∀h:Hp,ixV h 1 (lst di x) (I a.length)=some (.dptr (x.map di) a.length):=λh=>by simp_all
  have k2:∀h:Hp,ld1 h (.dptr (x.map di) a.length)=some (I z):=λh=>by simp_all
  have ab:bd9 a:=λy hy=>hx y (by grind)
  have b0:=JV ab ub;have b1:=JV ab vb;have m0:=Ql (ub _ (iT (i:=a.length) (d:=0) aa)) hz;have m1:=Ql (vb _ (iT (i:=a.length) (d:=0) aa)) hz;have ih:=Io h2 hl hn hx hv P C h0 K q (a++[z]) (by simp[e]) hK;rw[<-hu,<-hvv,BM a u z aa,BM a v z aa]at ih;rw[<-hu,<-hvv]
  have e4:((a++[z]).length:Int)=(a.length:Int)+1:=ac;rw[e4,X0 z (nth 0 u _),X0 z (nth 0 v _)]at ih;simp only[iR];generalize nth 0 u a.length=y0 at *;generalize nth 0 v a.length=y1 at *;generalize oh a u=s0 at *;generalize oh a v=s1 at *;simp(disch:=try exact af)[hlt,l1,i1,i2,i3,i4,j1,j2,j3,j4,k1,k2]
  grind[dN,lo]
theorem MU{p:LiQ}{c w:Mz}(h:pP p c w)(h2:w.length=2)(h8:p.length<=8)(hl:x.length=p.length)(hx:bd9 x):CP Y F.fY [tpV p c w,lst di x] (.tup [I (nth 0 (bh w x) 0),I (nth 0 (bh w x) 1)]):=by refine vn ?_;rw[D8 aa,D8 aa];simp only[fY,tpV];simp;refine lo (Io h2 (λv hv=>by rw[h.lw.rl v hv,hl]) aa hx (λv hv=>h.lw.sm v hv) (lst di p) (mat c) _ _ x [] rfl ?_);simp;exact⟨_,rfl⟩
def gnA:Acc:=⟨3,0,2,.none⟩
def gnH(pp:LiQ)(cc:Mz)(w:Mz)(s:List Q):Hp:=[(1,.vars [lst di pp,mat cc,mat w]),nnQ,nnQ,gnA.b s.length (prC s)]
theorem Mx{w:Mz}{r x:LiQ}{div:Int}(hr2:2<=r.length)(hr:bd9 r)(h1:nth 0 r 1≠0)(hd:div≠0)(hdb : -1000000000<=div∧div<=1000000000)(hx:bd9 x)(hn:x.length<1000)
  (hw2:0<w.length) (hw0:0<(nth [] w 0).length) (hdv:nth 0 (nth [] w 0) 0=div) (pp:LiQ) (cc:Mz) (h0:Hp) (hh0:∃a c d e,h0=[a,(0,c),(0,d),e]) (K:KL) :
  ∀(q a:LiQ),x=a++q->K (.exit 0) [gnA.v x.length (prC (fv r div 0 x))] (gnH pp cc w (fv r div 0 x)) ->
  lp (eu (CX Y) (lst di x) (.ptr 0 1 0 3) (I (nth 0 r 0)) (I (nth 0 r 1))) [1,2] h0 [gnA.v a.length (prC (fv r div 0 a)),I a.length] (gnH pp cc w (fv r div 0 a)) K
 | [],a,e,hK=>by
  simp only[Zn]at e;subst e;refine ai ?_;have hlt:¬((x.length:Int)<(x.length:Int)):=aa
  simp_all[aN,lst,eu]
 | z::q,a,e,hK=>by
  refine ai ?_;have hal:a.length<x.length:=by rw[e];simp
  have hlt:((a.length:Int)<(x.length:Int)):=aa;have l1:aN (lst di x)=some (I x.length):=rfl;have hz:=hx z (by grind);have i1:∀h:Hp,ixV h 1 (lst di x) (I a.length)=some (.dptr (x.map di) a.length):=λh=>by simp_all
  have i2:∀h:Hp,ld1 h (.dptr (x.map di) a.length)=some (I z):=λh=>by
   simp_all
  have hr1 : -1000000000<=nth 0 r 1∧nth 0 r 1<=1000000000:=hr _ (iT aa);have hr0 : -1000000000<=nth 0 r 0∧nth 0 r 0<=1000000000:=hr _ (iT aa);have w1:∀h:Hp,ixV h 1 (mat w) (.d (.int .i64 0))=some (.dptr (w.map row) 0):=λh=>eY row w h rfl aa
  have w2:∀h:Hp,ld1 h (.dptr (w.map row) 0)=some (lst di (nth [] w 0)):=λh=>eX row [] w h aa
  have w3:∀h:Hp,ixV h 1 (lst di (nth [] w 0)) (.d (.int .i64 0))=some (.dptr ((nth [] w 0).map di) 0):=λh=>eY di _ h rfl aa
  have w4:∀h:Hp,ld1 h (.dptr ((nth [] w 0).map di) 0)=some (I div):=λh=>by rw[<-hdv];exact eX di 0 _ h aa
  obtain⟨s,hs⟩:=nmQ (fv r div 0 a);have hsl:s.length=a.length:=by rw[hs,nK]
  have eG:fv r div 0 (a++[z])=s++[kU r div a.length z]:=by rw[A7,<-hs,Zj]
  have o1:=Jf hz;have o2:=Jf hr1;have p1:=o6 (n:=z) (d:=1) ae aa aa ae ae;have p2:=o6 (n:=nth 0 r 1) (d:=1) ae aa aa ae ae;rw[EX]at p1 p2;rw[<-hs];obtain⟨A,c0,d0,E,rfl⟩:=hh0;simp only[qT]at p1;simp only[eu,gnH];simp[hlt,l1,i1,i2];refine cd p1 ?_;simp
  refine XK (λl h=>l=[]∧∃kq:Q,h=[(1,.vars [lst di pp,mat cc,mat w]),(1,.vars (qT kq)),nnQ,gnA.b s.length (prC s)]∧okQ kq∧qL 50001 kq∧kU r div a.length z=rr kq (nth 0 r 1,1)) ?_ ?_
  .rintro _ _ ⟨rfl,kq,rfl,k1,k2,k3⟩;have dv:=FI k1 o2.1 aa (k2.mono aa) (o2.2.mono aa);rw[<-k3]at dv;obtain⟨kk,hkk⟩:=nmQ (kU r div a.length z);rw[<-hkk]at dv eG;simp only[qT]at dv p2 ⊢;simp;refine cd p2 ?_;simp;refine cd dv ?_ (by rfl)
   have hli:∀h:Hp,fJ 1 [D.str [],D.str []] [(0,.agg [V.d (.str (itoa kk.1)),V.d (.str (ah kk.2))])] h=some (bJ (tx kk),h):=λh=>WG kk h
   simp[hli];refine nU gnA (L:=a.length) (by_:=32) (k:=1) (cs:=bJ (tx kk)) aa (by rw[<-hsl];rfl) (by rw[C9,hsl];rfl) (by rfl) rfl (by grind) aa ae ?_;have ih:=Mx hr2 hr h1 hd hdb hx hn hw2 hw0 hdv pp cc [A,(0,c0),(0,d0),E] ⟨A,c0,d0,E,rfl⟩ K q (a++[z]) (by simp[e]) hK;have e4:((a++[z]).length:Int)=(a.length:Int)+1:=ac
   rw[e4,eG,Je,Zq]at ih;have ea:biI BinOp.add (I (a.length:Int)) (V.d (D.int IntKind.i64 1))=some (I ((a.length:Int)+1)):=by simp(disch:=try exact af)
   refine aiS ea ?_
   have rs:aH [1,2] 0 [A,(0,c0),(0,d0),E] ([(1,Bk.vars [lst di pp,mat cc,mat w]),(1,Bk.vars [S (itoa kq.fst),S (ah kq.snd)]),(1,Bk.vars [S (itoa kk.fst),S (ah kk.snd)]),gnA.b s.length (prC s)].set gnA.s (gnA.b (a.length+1) (prC s++bJ (tx kk))))=gnH pp cc w (s++[kk]):=by
    rw[gnH,Zq,Je,hsl];obtain⟨A1,A2⟩:=A;obtain⟨E1,E2⟩:=E;rfl
   refine⟨by rfl,?_⟩;rw[rs];exact ih
  intro qq hqq;by_cases e0:a=[]
  .have fo:=o6 (n:=nth 0 r 0) (d:=div) hd aa aa aa aa;have lz:=uG (n:=nth 0 r 0) hd;have lL:qL 30 (fM (nth 0 r 0) div):=Bq (Z4 (pB aa aa) ae) (Z4 (pB aa aa) ae);have sb:=Ih o1.1 lz (o1.2.mono aa) (lL.mono aa)
   have m1:=hqq [] _ ⟨rfl,oL (z,1) (tU (fM (nth 0 r 0) div)),rfl,Jb o1.1 (ED lz),(N4 o1.2 (Ja lL)).mono aa,by simp[kU,e0]⟩;generalize fM (nth 0 r 0) div=w1' at *;generalize oL (z,1) (tU w1')=w2' at *;simp only[qT]at fo sb m1;simp[e0,w1,w2,w3,w4];refine cd fo ?_;simp;refine cd sb ?_ (by rfl);simp;exact m1
  .have m1:=hqq [] _ ⟨rfl,(z,1),rfl,o1.1,o1.2.mono aa,by simp[kU,e0]⟩;simp only[qT]at m1;simp[e0];exact m1
theorem Fz{p:LiQ}{c w:Mz}(h:pP p c w)(hg:gtB w=0)(h8:p.length<=8)(hx:yU p w x):CP Y F.d8 [tpV p c w,lst di x] (.tup [szV (N6 w x),B (N7 w x)]):=by
 refine sX ?_;obtain⟨w2,_⟩:=yI hg;obtain⟨d0,d1⟩:=FO h hg;have hw0:nth [] w 0∈w:=by rw[cC _ _ _ aa];exact Yw _
 have tl:(bh w x).length=2:=by simp[bh,w2]
 have hxl:=hx.l;have a1:=MU h w2 h8 hx.l hx.b;simp only[d8,tpV];simp;refine cd (args:=[tpV p c w,lst di x]) a1 ?_ (by rfl);by_cases h1:nth 0 (bh w x) 1=0
 .simp[h1];rw[N6,N7,if_pos (.inr h1),decide_eq_false aa];exact⟨_,rfl⟩
 .simp[h1];rw[N6,N7,if_neg aa,decide_eq_true ⟨hg,h1⟩];refine lo (Mx (r:=bh w x) (div:=nth 0 (nth [] w 0) 0) aa hx.t h1 d0 d1 hx.b aa aa (by rw[h.lw.rl _ hw0];exact h.lw.n0) rfl p c _ ⟨_,_,_,_,rfl⟩ _ x [] rfl ?_);simp
  have e1:=nC gnA (L:=x.length) (cells:=prC (fv (bh w x) (nth 0 (nth [] w 0) 0) 0 x)) (h:=gnH p c w (fv (bh w x) (nth 0 (nth [] w 0) 0) 0 x)) (by rw[gnH,nK];rfl) (by rw[C9,nK];rfl);obtain⟨h',e1,_⟩:=e1
  simp_all[bU,szV,lF,prC,nK]
def yK(l:Mz):Bool:=if 5<l.length∧l.length≠60∧l.length≠61 then false else l.all λx=>decide (x.length<=8)
theorem ME{l:Mz}(K:KL):∀(q a:Mz),a++q=l->(∀x∈a,x.length<=8)->((∀x∈l,x.length<=8)->K (.exit 0) [] [])->(¬(∀x∈l,x.length<=8)->K .ret [B false] [])->l.length<1000 ->
  lp (fX (CX Y) (mat l)) [] [] [I a.length] [] K
 | [],a,e,ha,hK,hR,hN=>by
  simp only[Zn]at e;subst e;refine ai ?_;have l1:aN (mat a)=some (I a.length):=rfl
  simp_all[fX]
 | x::q,a,e,ha,hK,hR,hN=>by
  refine ai ?_;have hal:a.length<l.length:=by rw[<-e];simp
  have hlt:((a.length:Int)<(l.length:Int)):=aa;have l1:aN (mat l)=some (I l.length):=rfl;have l2:aN (lst di x)=some (I x.length):=rfl
  have i1:∀h:Hp,ixV h 1 (mat l) (I a.length)=some (.dptr (l.map row) a.length):=λh=>by
   simp_all
  have i2:∀h:Hp,ld1 h (.dptr (l.map row) a.length)=some (lst di x):=λh=>by
   rw[<-e];simp;rfl
  have e4:((a++[x]).length:Int)=(a.length:Int)+1:=ac;by_cases h1:(8:Int)<x.length
  .simp only[fX];simp[hlt,l1,l2,i1,i2,h1];exact hR λh=>by have:=h x (by grind);omega
  have ih:=ME K q (a++[x]) (by simp[e]) (λy hy=>by
   grind) hK hR hN
  rw[e4]at ih;simp only[fX];simp(disch:=try exact af)[hlt,l1,l2,i1,i2,h1];trivial
theorem YF:CP Y F.jp [mat l] (B (yK l)):=by
 refine yk ?_;have l1:aN (mat l)=some (I l.length):=rfl;have all:(∀x∈l,x.length<=8)↔(l.all λx=>decide (x.length<=8))=true:=ac;simp only[jp]
 have main:l.length<=61->¬(5<l.length∧l.length≠60∧l.length≠61)->lp (fX (CX Y) (mat l)) [] [] [I ([]:Mz).length] [] (exK [(Exit.exit 0,λl11 h=>out (B (yK l)) (V.d (D.bool true)) h),(Exit.ret,λl11 h=>out (B (yK l)) (ge l11 0) h)]):=λh61 hn=>by
  refine ME _ l [] rfl ac (λh=>?_) (λh=>?_) aa
  .simp;exact iq (by rw[yK,if_neg hn,all.1 h])
  simp_all[iq,yK.eq_1]
 by_cases h5:5<l.length
 .have h5':(5:Int)<l.length:=aa;by_cases h60:l.length=60
  .have h60':(l.length:Int)=60:=aa;simp[l1,h60'];exact lo (main aa aa)
  have h60':¬(l.length:Int)=60:=aa;by_cases h61:l.length=61
  .have h61':(l.length:Int)=61:=aa;simp[l1,h61'];exact lo (main aa aa)
  have h61':¬(l.length:Int)=61:=aa;simp[l1,h5',h60',h61'];exact iq (by rw[yK,if_pos ⟨h5,h60,h61⟩])
 .have h5':¬(5:Int)<l.length:=aa;simp[l1,h5'];exact lo (main aa aa)
theorem EV(n:Nat):∀(a q:Mz),vu n a=0->vu n (a++q)=vu n q
 |[],q,_=>rfl
 | x::a,q,h=>by
  simp only[vu]at h;simp only[List.cons_append,vu];split at h
  .cases h
  rename_i h1;rw[if_neg h1];split at h
  .rename_i h2;rw[if_pos h2];exact EV n a q h
  omega
theorem HX(h:pP p c w){l:Mz}(hN:l.length<1000)(h0:Hp)(K:KL):∀(q a:Mz),a++q=l->vu p.length a=0->(mzB p l=0->K (.exit 0) [] [(1,.vars [lst di p,mat c,mat w])])->(mzB p l≠0->K .ret [I (mzB p l)] [(1,.vars [lst di p,mat c,mat w])]) ->
  lp (jU (CX Y) (mat l) (.ptr 0 1 0 3)) [] h0 [I a.length] [(1,.vars [lst di p,mat c,mat w])] K
 | [],a,e,ha,hK,hR=>by
  simp only[Zn]at e;subst e;refine ai ?_;have l1:aN (mat a)=some (I a.length):=rfl;simp only[jU];simp[l1];exact hK (by rw[mzB,if_pos h.pr,ha])
 | x::q,a,e,ha,hK,hR=>by
  refine ai ?_;have hal:a.length<l.length:=by rw[<-e];simp
  have hlt:((a.length:Int)<(l.length:Int)):=aa;have l1:aN (mat l)=some (I l.length):=rfl;have hn:=h.lc.n12
  have i1:∀h:Hp,ixV h 1 (mat l) (I a.length)=some (.dptr (l.map row) a.length):=λh=>by
   simp_all
  have i2:∀h:Hp,ld1 h (.dptr (l.map row) a.length)=some (lst di x):=λh=>by
   rw[<-e];simp;rfl
  have mo:=VY (p:=p) (r:=x) aa;have el:mzB p l=vu p.length (x::q):=by rw[mzB,if_pos h.pr,<-e,EV _ _ _ ha]
  have ex:mzB p [x]=vu p.length [x]:=by rw[mzB,if_pos h.pr]
  have e4:((a++[x]).length:Int)=(a.length:Int)+1:=ac;simp only[jU];simp[hlt,l1,i1,i2];refine cd mo ?_ (by rfl);by_cases hx:mzB p [x]=0
  .have ih:=HX h hN h0 K q (a++[x]) (by simp[e]) (by rw[EV _ _ _ ha,<-ex,hx]) hK hR;rw[e4]at ih;simp[hx];simp(disch:=try exact af)
   grind[dN,lo]
  ·have e5:mzB p [x]=mzB p l:=by
    rw[el,ex];rw[ex]at hx;simp only[vu]at hx ⊢;split
    .rfl
    .rename_i h1;rw[if_neg h1]at hx;split
     .grind
     .rfl
   simp_all
theorem SJ(h:pP p c w)(hN:l.length<=60):CP Y F.il [tpV p c w,mat l] (I (mzB p l)):=by
 refine xI ?_;have l1:aN (mat l)=some (I l.length):=rfl;have g1:¬(60:Int)<l.length:=aa;simp only[il,tpV];simp[l1,g1];refine lo (HX h aa _ _ l [] rfl rfl (λh0=>?_) (λh0=>?_))
 .simp_all
 simp
theorem MD(h:pP p c w){l:Mz}(hN:l.length<1000)(ho:∀x∈l,yU p w x)(h0:Hp)(K:KL):∀(q a:Mz),a++q=l->K (.exit 0) [] [(1,.vars [lst di p,mat c,mat w])] ->
  lp (jV (CX Y) (mat l) (.ptr 0 1 0 3)) [] h0 [I a.length] [(1,.vars [lst di p,mat c,mat w])] K
 | [],a,e,hK=>by
  simp only[Zn]at e;subst e;refine ai ?_;have l1:aN (mat a)=some (I a.length):=rfl
  simp_all[jV]
 | x::q,a,e,hK=>by
  refine ai ?_;have hal:a.length<l.length:=by rw[<-e];simp
  have hlt:((a.length:Int)<(l.length:Int)):=aa;have l1:aN (mat l)=some (I l.length):=rfl;have hx:=ho x (by grind)
  have i1:∀h:Hp,ixV h 1 (mat l) (I a.length)=some (.dptr (l.map row) a.length):=λh=>by
   simp_all
  have i2:∀h:Hp,ld1 h (.dptr (l.map row) a.length)=some (lst di x):=λh=>by
   rw[<-e];simp;rfl
  have e4:((a++[x]).length:Int)=(a.length:Int)+1:=ac;have ih:=MD h hN ho h0 K q (a++[x]) (by simp[e]) hK;rw[e4]at ih;simp only[jV];simp[hlt,l1,i1,i2];refine cd (args:=[tpV p c w,lst di x]) (IB h hx.l hx.b hx.r hx.t) ?_ (by rfl);simp(disch:=try exact af)
  grind[dN,lo]
theorem YE(h:pP p c w)(hN:l.length<=60)(ho:∀x∈l,yU p w x):CP Y F.im [tpV p c w,mat l] (B true):=by refine xJ ?_;simp only[im,tpV];simp;refine lo (MD h aa ho _ _ l [] rfl ?_);simp
theorem Nf(h:pP p c w)(hg:gtB w=0)(hl:l.length<=60)(hm:mzB p l≠0):CP Y F.bf [tpV p c w,mat l] (.tup [.agg [lst di [],lst di [],B false,B false,B false],I (mzB p l)]):=by refine lS ?_;simp only[bf,tpV];simp;refine cd (args:=[tpV p c w,mat l]) (T6 h hg hl hm) ?_ (by rfl);simp[hm];exact⟨_,rfl⟩
theorem Nc(h:pP p c w)(hg:gtB w=0)(hl:l.length<=60)(ho:∀x∈l,yU p w x)(hm:mzB p l=0)(hgs:btG w (nth 0 (nth [] w 0) 0) l=[]):
  CP Y F.bf [tpV p c w,mat l] (.tup [.agg [lst di [],lst di [],B false,B false,B false],I 19]):=by
 refine lS ?_;simp only[bf,tpV];obtain⟨w2,_⟩:=yI hg;obtain⟨d0,d1⟩:=FO h hg;have td:=IP h hg hl ho hm;have l1:aN (mat l)=some (I l.length):=rfl
 have none:∀(m:Mz),btG w (nth 0 (nth [] w 0) 0) m=[]->∀x∈m,nth 0 (bh w x) 1=0:=λm=>by
  induction m with
  |nil=>simp
  | cons y m ih=>
   grind[btG.eq_2]
 have hz:=none l hgs;simp;refine cd (args:=[tpV p c w,mat l]) td ?_ (by rfl);simp[l1];refine lo (OW h w2 d0 d1 aa ho (λx hx hn=>absurd (hz x hx) hn) (1,.vars [nlV,nlV,B false,B false,B false]) nnQ _ _ l [] rfl ?_);rw[hgs];simp;exact⟨_,rfl⟩
theorem MY(hp:pcB p=0)(hN:p.length<1000)(h0:0<p.length){a:List Q}(ha:a.length=p.length)(oa:okS a):CP Y F.gS [lst di p,szV a,szV []] (.tup [I 0,I 5]):=by
 refine wn ?_
 have ca:=w8 (p:=p) (l:=[a,[]]) aa ac (λs hs=>by
  simp at hs;rcases hs with rfl|rfl
  .exact⟨oa,aa⟩
  .exact⟨λx hx=>(by cases hx),ac⟩)
 rw[if_pos hp]at ca
 have e:G3 p.length [a,[]]=5:=by
  simp[G3,ha];omega
 rw[e]at ca;have l1:∀H,fJ 2 [nPQ] [(0,szV a),(1,szV [])] H=some ([szD a,szD []],H):=λH=>WM ..
 simp[gS,l1];refine cd (v:=I 5) ca ?_ (by rfl);simp;exact⟨_,rfl⟩
def JS(cf:List Q->List Q->Int):List (List Q)->LwQ
 |[]=>[nlV,nlV,B false,B false,B false]
 |g::gs=>[szV (mnS cf g gs),szV (mxS cf g gs),B true,B true,B false]
theorem Qm(cf:List Q->List Q->Int)(g:List Q)(gs:List (List Q))(y:List Q):mnS cf g (gs++[y])=if cf y (mnS cf g gs)<0 then y else mnS cf g gs:=by rw[mnS,List.foldl_append];rfl
theorem Qj(cf:List Q->List Q->Int)(g:List Q)(gs:List (List Q))(y:List Q):mxS cf g (gs++[y])=if cf y (mxS cf g gs)>0 then y else mxS cf g gs:=by rw[mxS,List.foldl_append];rfl
theorem F8(w:Mz)(div:Int):∀(a q:Mz),btG w div (a++q)=btG w div a++btG w div q
 |[],q=>rfl
 | x::a,q=>by
  simp only[List.cons_append,btG,F8 w div a q]
  grind
theorem Kc(h:pP p c w)(hg:gtB w=0):∀{l:Mz},(∀x∈l,yU p w x)->∀g∈btG w (nth 0 (nth [] w 0) 0) l,g.length=p.length∧okS g
 |[],_,g,hg2=>by cases hg2
 | x::l,ho,g,hm=>by
  obtain⟨w2,_⟩:=yI hg;obtain⟨d0,d1⟩:=FO h hg;have hx:=ho x ac;rw[btG]at hm;split at hm
  .exact Kc h hg (λy hy=>ho y (by grind)) g hm
  .rename_i hn;rcases Zy.1 hm with rfl|hm
   .exact⟨by rw[nK,hx.l],EF hx.t (by simp[bh,w2]) d0 d1 hn 0 hx.b⟩
   .exact Kc h hg (λy hy=>ho y (by grind)) g hm
theorem abe(hg:gtB w=0)(hn:nth 0 (bh w x) 1≠0):N6 w x=fv (bh w x) (nth 0 (nth [] w 0) 0) 0 x∧N7 w x=true:=by rw[N6,N7,if_neg aa,decide_eq_true ⟨hg,hn⟩];trivial
theorem YQ(h:pP p c w)(hg:gtB w=0)(h8:p.length<=8){l:Mz}(hN:l.length<1000)(ho:∀x∈l,yU p w x){cf:List Q->List Q->Int}
  (hc:∀a∈btG w (nth 0 (nth [] w 0) 0) l,∀b∈btG w (nth 0 (nth [] w 0) 0) l,GA p (dfS p a b) (cf a b)) (A R:Nat×Bk) (h0:Hp) (K:KL):∀(q a:Mz),a++q=l ->
  K (.exit 0) [] [A,(1,.vars [lst di p,mat c,mat w]),R,(1,.vars (JS cf (btG w (nth 0 (nth [] w 0) 0) l)))] ->
  lp (dQ (CX Y) (mat l) (.ptr 1 1 0 3) (.ptr 3 1 0 5)) [] h0 [I a.length] [A,(1,.vars [lst di p,mat c,mat w]),R,(1,.vars (JS cf (btG w (nth 0 (nth [] w 0) 0) a)))] K
 | [],a,e,hK=>by
  simp only[Zn]at e;subst e;refine ai ?_;have l1:aN (mat a)=some (I a.length):=rfl
  simp_all[dQ]
 | x::q,a,e,hK=>by
  refine ai ?_;have hal:a.length<l.length:=by rw[<-e];simp
  have hlt:((a.length:Int)<(l.length:Int)):=aa;have l1:aN (mat l)=some (I l.length):=rfl;have hx:=ho x (by grind)
  have i1:∀h:Hp,ixV h 1 (mat l) (I a.length)=some (.dptr (l.map row) a.length):=λh=>by
   simp_all
  have i2:∀h:Hp,ld1 h (.dptr (l.map row) a.length)=some (lst di x):=λh=>by
   rw[<-e];simp;rfl
  have e4:((a++[x]).length:Int)=(a.length:Int)+1:=ac;have ih:=YQ h hg h8 hN ho hc A R h0 K q (a++[x]) (by simp[e]) hK;rw[e4,DK]at ih;have ge:=Fz h hg h8 hx;have hp0:=h.lc.n0;have hn12:=h.lc.n12;simp only[dQ];simp[hlt,l1]
  refine XK (λl' h'=>l'=[]∧h'=[A,(1,.vars [lst di p,mat c,mat w]),R,(1,.vars (JS cf (btG w (nth 0 (nth [] w 0) 0) (a++[x]))))]) ?_ ?_
  .rintro _ _ ⟨rfl,rfl⟩;rw[DK];simp(disch:=try exact af)
   grind[dN,lo]
  intro q4 hq4;rw[DK]at hq4;have sub:∀g∈btG w (nth 0 (nth [] w 0) 0) a,g∈btG w (nth 0 (nth [] w 0) 0) l:=λg hm=>by grind[F8]
  have okA:=Kc h hg ho;simp[i1,i2];refine cd (args:=[tpV p c w,lst di x]) ge ?_ (by rfl);by_cases hr:nth 0 (bh w x) 1=0
  .rw[if_pos hr]at hq4;have eb:N7 w x=false:=by rw[N7,decide_eq_false aa]
   simp_all
  rw[if_neg hr]at hq4;obtain⟨es,eb⟩:=abe hg hr
  have gm:N6 w x∈btG w (nth 0 (nth [] w 0) 0) l:=by
   rw[<-e,F8,es];simp[btG,hr]
  rw[<-es]at hq4;obtain⟨gl,go⟩:=okA _ gm;obtain⟨g,hgg⟩:=nmQ (N6 w x);rw[<-hgg]at hq4 gm gl go ⊢;obtain⟨G,hG⟩:=nmQ (btG w (nth 0 (nth [] w 0) 0) a);rw[<-hG]at sub hq4 ⊢;have ok1:∀s:List Q,okV (szV s)=true:=λ_=>rfl
  cases G with
  | nil=>
   have s1:st [A,(1,.vars [lst di p,mat c,mat w]),R,(1,.vars [nlV,nlV,B false,B false,B false])] 1 (.ptr 3 1 0 5) (szV g)=some [A,(1,.vars [lst di p,mat c,mat w]),R,(1,.vars [szV g,nlV,B false,B false,B false])]:=rfl
   have s2:st [A,(1,.vars [lst di p,mat c,mat w]),R,(1,.vars [szV g,nlV,B true,B false,B false])] 1 (.ptr 3 1 1 5) (szV g)=some [A,(1,.vars [lst di p,mat c,mat w]),R,(1,.vars [szV g,szV g,B true,B false,B false])]:=rfl;have ce:=MY h.pr aa hp0 gl go;have en:szV []=.d (.sl 0 []):=rfl;simp[eb,JS];refine cdx (ds:=[lst di p,szV g,szV []]) (by rfl) ce ?_;simp;refine aC ?_
   simp[s1];refine cdx (ds:=[lst di p,szV g,szV []]) (by rfl) ce ?_;simp;refine aC ?_;simp[s2];exact hq4 _ _ ⟨rfl,rfl⟩
  | cons g0 gs=>
   have m1:=Jp cf gs g0;have m2:=Dk cf gs g0;have c1:=hc _ gm _ (sub _ m1);have c2:=hc _ gm _ (sub _ m2);have k1:=xe h.pr aa gl (okA _ (sub _ m1)).1 go (okA _ (sub _ m1)).2 c1;have k2:=xe h.pr aa gl (okA _ (sub _ m2)).1 go (okA _ (sub _ m2)).2 c2;simp[eb,JS];refine cd k1 ?_ (by rfl);simp
   refine XK (λl' h'=>l'=[]∧h'=[A,(1,.vars [lst di p,mat c,mat w]),R,(1,.vars [szV (mnS cf g0 (gs++[g])),szV (mxS cf g0 gs),B true,B true,B false])]) ?_ ?_
   .rintro _ _ ⟨rfl,rfl⟩;simp;refine cd k2 ?_ (by rfl);simp;refine aC ?_;by_cases hh:0<cf g (mxS cf g0 gs)
    .simp[hh,ok1];exact hq4 _ _ ⟨rfl,by rw[List.cons_append,JS,Qj,if_pos hh];rfl⟩
    .simp[hh,ok1];exact hq4 _ _ ⟨rfl,by rw[List.cons_append,JS,Qj,if_neg hh]⟩
   .intro q27 hq27;by_cases hh:cf g (mnS cf g0 gs)<0
    .simp[hh,ok1];exact hq27 _ _ ⟨rfl,by simp_all[Qm]⟩
    .simp[hh,ok1];exact hq27 _ _ ⟨rfl,by rw[Qm,if_neg hh]⟩
theorem PD(z:Int):z*z.sign=(z.natAbs:Int):=by simp
theorem UC(z:Int):z.sign.natAbs<=1:=by grind
theorem LF{r:LiQ}{d k k':Int}{N A:Nat}(h1:nth 0 r 1≠0)(hd:d≠0)(hk:nth 0 r 1*d*k=N)(hk':nth 0 r 1*k'=N):∀(x:LiQ)(i:Nat),(∀z∈x,((z*d-nth 0 r 0)*k).natAbs<=A∧(z*k').natAbs<=A)->bdL N A (fv r d i x)
 |[],i,_=>λy hy=>by cases hy
 | z::x,i,h=>λy hy=>by
  obtain⟨z1,z2⟩:=h z ac;simp only[fv,Zy]at hy;rcases hy with rfl|hy
  .by_cases hi:i=0
   .subst hi;obtain⟨o,e⟩:=HN (r:=r) (x:=z) hd h1;refine⟨_,⟨o,?_⟩,z1⟩
    grind
   .obtain⟨o,e⟩:=HK (r:=r) (div:=d) (x:=z) hi h1;refine⟨_,⟨o,?_⟩,z2⟩
    grind
  .exact LF h1 hd hk hk' x (i+1) (λy hy=>h y (by grind)) y hy
theorem aeF(h:aaD p c w)(h4:p.length<=4)(hg:gtB w=0)(hx:mzB p [x]=0)(hy:mzB p [y]=0)(h1:nth 0 (bh w x) 1≠0)(h2:nth 0 (bh w y) 1≠0):
  ∃N:Nat,0<N∧bdL N 1000000000000000000 (fv (bh w x) (nth 0 (nth [] w 0) 0) 0 x)∧bdL N 1000000000000000000 (fv (bh w y) (nth 0 (nth [] w 0) 0) 0 y):=by
 obtain⟨w2,d0⟩:=yI hg;have bw:=h.bw w2
 have tb:∀(x:LiQ),mzB p [x]=0->∀i,i<2->(nth 0 (bh w x) i).natAbs<=629856000:=λx hx i hi=>by
  obtain⟨l1,l2⟩:=Oj h.t.pr hx
  have hb:∀z∈x,z.natAbs<=1000:=λz hz=>by
   have:=IT l2 hz;omega
  rw[D8 aa];have hm:nth [] w i∈w:=by rw[cC _ _ _ aa];exact Yw _
  have h3:=JU hb (Kf bw _ hm);have h5:x.length*(1000*157464)<=4*(1000*157464):=Zv _ aa;omega
 have zb:∀(x:LiQ),mzB p [x]=0->∀z∈x,z.natAbs<=1000:=λx hx z hz=>by
  have:=IT (Oj h.t.pr hx).2 hz;omega
 have db:(nth 0 (nth [] w 0) 0).natAbs<=157464:=by
  have:=bw 0 0;exact this
 have x0:=tb x hx 0 ae;have x1:=tb x hx 1 ae;have y0:=tb y hy 0 ae;have y1:=tb y hy 1 ae;have zx:=zb x hx;have zy:=zb y hy;generalize nth 0 (nth [] w 0) 0=d at *
 have key:∀(r s:LiQ)(u:LiQ),nth 0 r 1≠0->nth 0 s 1≠0->(nth 0 r 0).natAbs<=629856000->(nth 0 s 1).natAbs<=629856000->(∀z∈u,z.natAbs<=1000) ->
   bdL ((nth 0 r 1).natAbs*d.natAbs*(nth 0 s 1).natAbs) 1000000000000000000 (fv r d 0 u):=by
  intro r s u r1 s1 r0 s0 hu;refine LF (k:=(nth 0 r 1*d).sign*(nth 0 s 1).natAbs) (k':=(nth 0 r 1).sign*(d.natAbs*(nth 0 s 1).natAbs:Nat)) r1 d0 ?_ ?_ u 0 λz hz=>⟨?_,?_⟩
  .rw[<-Int.mul_assoc,PD,Zm];simp
  .grind
  .have hz:=hu z hz;have a1:(z*d).natAbs<=1000*157464:=by rw[Zm];exact Zu hz db
   have a2:(z*d-nth 0 r 0).natAbs<=787320000:=aa
   have a3:((nth 0 r 1*d).sign*((nth 0 s 1).natAbs:Int)).natAbs<=1*629856000:=by
    rw[Zm];exact Zu (UC _) aa
   rw[Zm];exact Z4 (Zu a2 a3) ae
  .have hz:=hu z hz
   have a3:((nth 0 r 1).sign*((d.natAbs*(nth 0 s 1).natAbs:Nat):Int)).natAbs<=1*(157464*629856000):=by
    rw[Zm,Int.natAbs_natCast];exact Zu (UC _) (Zu db s0)
   rw[Zm];exact Z4 (Zu hz a3) ae
 refine⟨(nth 0 (bh w x) 1).natAbs*d.natAbs*(nth 0 (bh w y) 1).natAbs,?_,key _ _ x h1 h2 x0 y1 zx,?_⟩
 .exact Yl (Yl aa aa) aa
 .have:=key _ _ y h2 h1 y0 x1 zy
  rwa [show(nth 0 (bh w y) 1).natAbs*d.natAbs*(nth 0 (bh w x) 1).natAbs=(nth 0 (bh w x) 1).natAbs*d.natAbs*(nth 0 (bh w y) 1).natAbs by grind]at this
theorem aeE(h:aaD p c w)(hp:in6 p)(h4:p.length<=4)(hg:gtB w=0)(hx:mzB p [x]=0)(hy:mzB p [y]=0)(h1:nth 0 (bh w x) 1≠0)(h2:nth 0 (bh w y) 1≠0):
  ∃z,GA p (dfS p (fv (bh w x) (nth 0 (nth [] w 0) 0) 0 x) (fv (bh w y) (nth 0 (nth [] w 0) 0) 0 y)) z:=by obtain⟨N,hN,b1,b2⟩:=aeF h h4 hg hx hy h1 h2;obtain⟨z,hz,_⟩:=sg6 hp hN (acI (n:=p.length) (z:=1) (w:=-1) b1 b2) ae;exact⟨z,aa3 hz⟩
theorem DJ{d:Int}:∀{l:Mz},∀g∈btG w d l,∃x∈l,nth 0 (bh w x) 1≠0∧g=fv (bh w x) d 0 x
 |[],g,hm=>by cases hm
 | x::l,g,hm=>by
  rw[btG]at hm;split at hm
  .obtain⟨y,hy,h⟩:=DJ g hm
   grind
  .rename_i hn;rcases Zy.1 hm with rfl|hm
   .exact⟨x,ac,hn,rfl⟩
   .obtain⟨y,hy,h⟩:=DJ g hm
    grind
theorem abz{p:LiQ}(hp:pcB p=0):∀{l:Mz},mzB p l=0->∀x∈l,mzB p [x]=0:=by
 intro l hl;unfold mzB at hl ⊢;simp only[if_pos hp]at hl ⊢
 induction l with
 |nil=>simp
 | cons y l ih=>
  simp only[vu]at hl ih ⊢;intro x hx;split at hl
  .cases hl
  rename_i h1;split at hl
  .rename_i h2;rcases Zy.1 hx with rfl|hx
   .rw[if_neg h1,if_pos h2]
   grind
  omega
theorem Ml{e:List I4}(hk:k<256)(hb:∀x∈e,ok4 x):
  CP Y F.ci [.agg [.d (.int .u8 k),lF i4D e,B vals],mat l] (B true):=by
 refine pY ?_;have ok3:okV (lF i4D e)=true:=rfl;have sn1:∀h:Hp,aO h [.agg [.d (.int .u8 k),lF i4D e,B vals]]=some ([.agg [.d (.int .u8 k),lF i4D e,B vals]],h):=λh=>by rfl
 have l1:aN (mat l)=some (I l.length):=rfl;have fi:=S8 (k:=k) (e:=e) (vals:=vals);have fw:=YF (l:=l);simp only[ci];simp[ok3];refine cd uN ?_;simp;refine cd fi ?_ (sn1 _);by_cases he:e.length<=3
 case neg=>
  simp[he];refine cd uN ?_;simp
 simp[he];refine cd fw ?_ (by rfl);cases hfw:yK l with
 | false=>
  simp;refine cd uN ?_;simp
 |true=>
 by_cases h5:l.length<=5
 case neg=>
  have h5':(5:Int)<l.length:=aa;simp[l1,h5'];refine cd uN ?_;simp
 have h5':¬(5:Int)<l.length:=aa;simp[l1,h5'];obtain⟨p1,p2,p3,p4,p5⟩:=Vy _ (Bb k);obtain⟨C,W,mk,PL⟩:=ad9 (vals:=vals) hk he hb;obtain⟨p,hp⟩:=nmQ (kV k);rw[<-hp]at p1 p2 p3 p4 p5 mk PL;have T:=PL.t;have ok1:∀m:Mz,okV (mat m)=true:=λ_=>rfl
 have ok2:okV (lst di p)=true:=rfl;have ok7:okV (lst di [])=true:=rfl;have ok8:∀s:List Q,okV (szV s)=true:=λ_=>rfl
 have tw:=TS T;have li:=SJ T (l:=l) aa;simp only[tpV]at mk;refine cd mk ?_ (sn1 _);simp[ok1,ok2];by_cases hg:gtB W=0
 case neg=>
  refine cd (args:=[tpV p C W,mat l]) (Nb (XS T hg) hg) ?_ (by rfl);simp[ok7];refine cd (args:=[tpV p C W]) tw ?_ (by rfl);simp;refine aC ?_;simp[hg];refine cd F9 ?_ (by rfl);simp
 rw[hg]at tw;by_cases hm:mzB p l=0
 case neg=>
  refine cd (args:=[tpV p C W,mat l]) (Nf T hg aa hm) ?_ (by rfl);simp[ok7];refine cd (args:=[tpV p C W]) tw ?_ (by rfl);simp;refine aC ?_;simp;refine cd (args:=[tpV p C W,mat l]) li ?_ (by rfl);simp[hm];refine cd F9 ?_ (by rfl);simp
 rw[hm]at li;have each:=abz p1 hm;have ho:∀x∈l,yU p W x:=λx hx=>aaM PL p4 hg (each x hx)
 have ft:=YE T aa ho
 let cf:List Q->List Q->Int:=λa b=>Classical.epsilon λz=>GA p (dfS p a b) z
 have hc:∀a∈btG W (nth 0 (nth [] W 0) 0) l,∀b∈btG W (nth 0 (nth [] W 0) 0) l,GA p (dfS p a b) (cf a b):=λa ha b hb=>by
  obtain⟨x,hx,x1,rfl⟩:=DJ a ha;obtain⟨y,hy,y1,rfl⟩:=DJ b hb;exact Classical.epsilon_spec (aeE PL ⟨p2,aa,p5⟩ p4 hg (each x hx) (each y hy) x1 y1)
 have due:=λA R h0 K=>YQ T hg aa aa ho hc A R h0 K l [] rfl
 cases hG:btG W (nth 0 (nth [] W 0) 0) l with
 | nil=>
  rw[hG]at due;refine cd (args:=[tpV p C W,mat l]) (Nc T hg aa ho hm hG) ?_ (by rfl);simp[ok7];refine cd (args:=[tpV p C W]) tw ?_ (by rfl);simp;refine aC ?_;simp;refine cd (args:=[tpV p C W,mat l]) li ?_ (by rfl);simp;refine cd (args:=[tpV p C W,mat l]) ft ?_ (by rfl);simp;refine lo (due _ _ _ _ ?_);simp[JS];refine cd F9 ?_ (by rfl);simp
 | cons g gs=>
  have okG:=Kc T hg ho;have bt:=Ga T hg aa ho hm (λx hx hn=>EF (ho x hx).t (by grind[bh,yI]) (FO T hg).1 (FO T hg).2 hn 0 (ho x hx).b) hG (cf:=cf) (λa ha=>okG a (by grind)) (λa ha b hb=>hc a (by grind) b (by grind));rw[hG]at due;have m1:=Jp cf gs g;have m2:=Dk cf gs g
  have e1:=Ij (lo:=mnS cf g gs) (hi:=mxS cf g gs) (a:=true) (b:=true) (d:=false) (by grind) (by grind);simp only[rgV]at bt;refine cd (args:=[tpV p C W,mat l]) bt ?_ (by rfl);simp[ok8];refine cd (args:=[tpV p C W]) tw ?_ (by rfl);simp;refine aC ?_;simp;refine cd (args:=[tpV p C W,mat l]) li ?_ (by rfl);simp;refine cd (args:=[tpV p C W,mat l]) ft ?_ (by rfl);simp
  refine lo (due _ _ _ _ ?_);simp[JS];refine cd e1 ?_ (by rfl);simp
open Go.Proofs Go.Proofs.YtnomjjmegfhkhaaGreatDoor
theorem aiq:Tryz.prog.globalNamed "internal/strconv.uint64pow10" = some oo:=by kernel_rfl
theorem XV:(Tryz.prog.globals[oo]?).map (·.type)=some 253:=ag
theorem adL:Tryz.prog.underlying 253=some (.array 20 173):=ag
theorem adK:Tryz.prog.underlying 173=some (.int .u64):=ag
theorem ZT:Tryz.prog.cellsOf 173=1:=ag
theorem ZU:Tryz.prog.cellsOf 253=20:=ag
mutual
/-- Has a type a shape? -/
def Gn(P:Program):Sh->TypeId->Bool
 | .int k,t=>(match P.underlying t with
  |some (.int k')=>decide (k'=k)
  |_=>false)&&Nat.beq (P.cellsOf t) 1
 | .bool,t=>(match P.underlying t with
  |some .bool=>true
  |_=>false)&&Nat.beq (P.cellsOf t) 1
 | .str,t=>(match P.underlying t with
  |some .string=>true
  |_=>false)&&Nat.beq (P.cellsOf t) 1
 | .sl e,t=>(match P.underlying t with
  |some (.slice u)=>Nat.beq (P.cellsOf t) 1&&Nat.blt 0 (P.cellsOf u)&&Gn P e u
  |_=>false)
 | .ar n e,t=>(match P.underlying t with
  |some (.array m u)=>Nat.beq m n&&Nat.beq (P.cellsOf t) (n*P.cellsOf u)&&Gn P e u
  |_=>false)
 | .st fs,t=>(match P.underlying t with
  |some (.struct l)=>Hd P fs l.toList 0 (P.cellsOf t)
  |_=>false)
def Hd(P:Program):List Sh->List Field->Nat->Nat->Bool
 |[],l,o,n=>l.isEmpty&&Nat.beq o n
 | s::ss,l,o,n=>(match l with
  |[]=>false
  |f::r=>Nat.beq f.offset o&&Gn P s f.type&&Hd P ss r (o+P.cellsOf f.type) n)
end
mutual
theorem DZ{P:Program}:∀{s:Sh}{t:TypeId},Gn P s t=true->Typ P s t
 | .int k,t,h=>by
  simp only[Gn,Z7]at h;obtain⟨h1,h2⟩:=h;split at h1
  .rename_i h3;obtain rfl:=of_decide_eq_true h1;exact⟨h3,Zk h2⟩
  .cases h1
 | .bool,t,h=>by
  simp only[Gn,Z7]at h;obtain⟨h1,h2⟩:=h;split at h1
  .rename_i h3;exact⟨h3,Zk h2⟩
  .cases h1
 | .str,t,h=>by
  simp only[Gn,Z7]at h;obtain⟨h1,h2⟩:=h;split at h1
  .rename_i h3;exact⟨h3,Zk h2⟩
  .cases h1
 | .sl e,t,h=>by
  simp only[Gn]at h;split at h
  .rename_i u h3;simp only[Z7]at h;obtain⟨⟨h1,h2⟩,h4⟩:=h;exact⟨u,h3,Zk h1,by have:=h2;simp[Nat.blt]at this;omega,DZ h4⟩
  .cases h
 | .ar n e,t,h=>by
  simp only[Gn]at h;split at h
  .rename_i m u h3;simp only[Z7]at h;obtain⟨⟨h1,h2⟩,h4⟩:=h;obtain rfl:=Zk h1;exact⟨u,h3,Zk h2,DZ h4⟩
  .cases h
 | .st fs,t,h=>by
  simp only[Gn]at h;split at h
  .rename_i l h3;exact⟨l.toList,by rw[h3],Pg h⟩
  .cases h
theorem Pg{P:Program}:∀{ss:List Sh}{l:List Field}{o n:Nat},Hd P ss l o n=true->TG P ss l o n
 | [],l,o,n,h=>by
  simp only[Hd,Z7,List.isEmpty_iff]at h;exact⟨h.1,Zk h.2⟩
 |s::ss,[],o,n,h=>by simp[Hd]at h
 | s::ss,f::r,o,n,h=>by
  simp only[Hd,Z7]at h;obtain⟨⟨h1,h2⟩,h3⟩:=h;exact⟨f,r,rfl,Zk h1,DZ h2,Pg h3⟩
end
theorem NL{P:Program}{base:Nat}{e:TypeId}{v:Value}(ht:P.underlying t=some (.slice e))(h:Value.okWide P W .any base t v):∀cs,v≠.agg cs:=by rintro cs rfl;simp only[Value.okWide,ht,Cell.okWide,Cell.ok]at h
theorem wf_u8(h:(Lit.int .u8 n).wf=true):0<=n∧n<=255:=by simp only[Lit.wf,Z7,decide_eq_true_eq]at h;exact h
theorem wf_i8(h:(Lit.int .i8 n).wf=true): -128<=n∧n<=127:=by simp only[Lit.wf,Z7,decide_eq_true_eq]at h;exact h
theorem wf_i64(h:(Lit.int .i64 n).wf=true): -9223372036854775808<=n∧n<=9223372036854775807:=by simp only[Lit.wf,Z7,decide_eq_true_eq]at h;exact h
def abu(x:Int):Prop:=-9223372036854775808<=x∧x<=9223372036854775807
abbrev UA:Sh:=.sl (.int .i64)
theorem acd(h:Dat UA [d]):∃l:LiQ,d=row l∧∀x∈l,abu x:=by
 obtain ⟨l,rfl,hl⟩:=FW (f:=λn=>[di n]) abu (λds h=>by
  obtain⟨n,e,hw⟩:=h;exact⟨n,e,wf_i64 hw⟩) h
 exact⟨l,by simp only[row,List.map_eq_flatMap],hl⟩
def aik:DataW Unit->Value
 |.lit (.int k n)=>.int k n
 |_=>undef
def adS:DataW Unit->Array Value
 |.agg l=>(l.map aik).toArray
 |_=>#[]
def agE:DataW Unit->Value
 |.iface _ (.ptr (.agg [.lit (.string l)]))=>.string ⟨l.toArray⟩
 |_=>undef
def UE(cs:Array Value):Obj->Obj
 |.cells _ t frozen=>.cells cs t frozen
 |o=>o
noncomputable def By(os:Os):World:=
 let w0:=World.holding Tryz.prog os ⟨#[.cells #[agE Rows.laid_strconv_ErrSyntax] 248,.cells #[agE Rows.laid_strconv_ErrRange] 248],#[],[]⟩
 let low:=(World.settled Tryz.prog os).heap.size
 {w0 with heap:=((((w0.heap.modify 0 (UE #[.iface 246 (.pointer (some ⟨low,0,none⟩))])).modify 1 (UE #[.iface 246 (.pointer (some ⟨low+1,0,none⟩))])).modify 2 (UE (adS Rows.laid_internal_strconv_uint64pow10))).modify 3 (UE (adS Rows.laid_math_bits_deBruijn32tab))).modify 4 (UE (adS Rows.laid_math_bits_deBruijn64tab))}
def afV:Sh:=.ar 4 (.int .i8)
def UB:Sh:=.st [.int .u8,.sl afV,.bool]
theorem aeT(ds:LdQ)(h:Dat afV ds):∃x:I4,ds=i4D x∧ok4 x:=by
 obtain⟨xs,rfl,hl,hx⟩:=h
 match xs,hl,hx with
 | [x1,x2,x3,x4],_,hx=>
  obtain⟨a,rfl,ha⟩:=hx x1 ac;obtain⟨b,rfl,hb⟩:=hx x2 ac;obtain⟨c,rfl,hc⟩:=hx x3 ac;obtain⟨d,rfl,hd⟩:=hx x4 ac;exact⟨(a,b,c,d),rfl,wf_i8 ha,wf_i8 hb,wf_i8 hc,wf_i8 hd⟩
theorem ZI(h:Dat UB ds):∃(k:Nat)(e:List I4)(b:Bool),ds=[.int .u8 k,.sl e.length (e.flatMap i4D),.bool b]∧k<256∧∀x∈e,ok4 x:=by obtain⟨a,b,rfl,⟨n,rfl,hn⟩,a',b',rfl,h2,_,_,rfl,⟨c,rfl⟩,rfl⟩:=h;have h2':=h2;obtain⟨xs,rfl,_⟩:=h2';have hb:=wf_u8 hn;obtain⟨e,he,hq⟩:=FW (f:=i4D) ok4 aeT h2;exact⟨n.toNat,e,c,by simp only[Zn,List.cons_append,List.nil_append];rw[he,Int.toNat_of_nonneg hb.1],aa,hq⟩
theorem ZH(h:Dat (.sl UA) [d]):∃l:LLQ,V.d d=mat l∧∀x∈l,∀y∈x,abu y:=by
 obtain ⟨l,rfl,hl⟩:=FW (f:=λr=>[row r]) (λx=>∀y∈x,abu y) (λds h=>by
  have h':=h;obtain⟨xs,rfl,_⟩:=h';obtain⟨r,e,hr⟩:=acd h;exact⟨r,by rw[e],hr⟩) h
 exact⟨l,by simp only[lst,List.map_eq_flatMap],hl⟩
end Go.Vm
