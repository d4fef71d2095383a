/- Lemmas. -/
import Derived.Test.YtmjcaiaiibdadabGreatDoorQAbF
import Derived.Shelf.Pu.ParseUintPublic10
import Derived.Shelf.Strconv.ParseIntPublic10
import Derived.RangeFuncBox
import Derived.Shelf.Abstract
import Derived.WalkKit
import Derived.OwnWalkIn
import Derived.TacticsInMore
import Derived.LoopIn
import Derived.ProofKit
import Derived.OpenShut
import Derived.Deep.DeepHandedRow
import Derived.Deep.Matrix
import Derived.Lib.LaidTab
import Derived.Test.YtmjcaiaiibdadabGreatDoorTie
import Derived.Test.YtmjcaiaiibdadabGreatDoorCards
set_option linter.unusedVariables false
set_option linter.unusedSimpArgs false
namespace Go.Vm
open Go Go.Am Go.Big
variable{x:LiQ}
section
variable{p:LiQ}{c w:Mz}
theorem TA(h:qC p c w):CP Y F.je [tpV p c w] (I (gtB w)):=by
 refine yx ?_;simp only[je,tpV];simp;have l1:aQ (mat w)=some (I w.length):=rfl;by_cases h2:w.length=2
 .have i1:∀h:Hp,ixV h 1 (mat w) (.d (.int .i64 0))=some (.dptr (w.map row) 0):=λh=>d8 row w h rfl aa
  have i2:∀h:Hp,ld1 h (.dptr (w.map row) 0)=some (lst di (nth [] w 0)):=λh=>eH row [] w h aa
  have hr:(nth [] w 0).length=p.length:=h.lw.rl _ (by rw[cn _ _ _ aa];simp);have hp:=h.lw.n0;have i3:∀h:Hp,ixV h 1 (lst di (nth [] w 0)) (.d (.int .i64 0))=some (.dptr ((nth [] w 0).map di) 0):=λh=>d8 di _ h rfl aa
  have i4:∀h:Hp,ld1 h (.dptr ((nth [] w 0).map di) 0)=some (I (nth 0 (nth [] w 0) 0)):=λh=>eH di 0 _ h aa
  have h2':(w.length:Int)=2:=aa;by_cases h0:nth 0 (nth [] w 0) 0=0
  .simp[l1,h2',i1,i2,i3,i4,h0]
   grind[aY,gtB]
  .simp[l1,h2',i1,i2,i3,i4,h0]
   grind[aY,gtB]
 .have h2':¬(w.length:Int)=2:=aa;simp[l1,h2']
  grind[aY,gtB]
end
theorem BX:∀(a u:LiQ)(z:Int),a.length<u.length->oG (a++[z]) u=oG a u+z*nth 0 u a.length
 |[],b::u,z,_=>by simp[oG,nth]
 | y::a,b::u,z,h=>by
  have:=BX a u z (by simpa using h);simp only[List.cons_append,oG,this,List.length_cons];have e:nth 0 (b::u) (a.length+1)=nth 0 u a.length:=rfl;rw[e];omega
theorem Qk{a b:Int}(ha : -1000000000<=a∧a<=1000000000)(hb : -1000000000<=b∧b<=1000000000): -1000000000000000000<=a*b∧a*b<=1000000000000000000:=by
 have h1:(a*b).natAbs<=1000000000*1000000000:=by
  rw[Zf];exact Zr aa aa
 omega
theorem Ik{w:Mz}{x:LiQ}(h2:w.length=2)(hl:∀v∈w,v.length=x.length)(hn:x.length<=8)(hx:bd9 x)(hv:∀v∈w,bd9 v)(P C:V)(h0:Hp)(K:KL):∀(q a:LiQ),x=a++q ->
  K (.exit 0) [I (oG x (nth [] w 0)),I (oG x (nth [] w 1))] [(1,.vars [P,C,mat w])] ->
  lp (iO (CX Y) (lst di x) (.ptr 0 1 0 3)) [] h0 [I (oG a (nth [] w 0)),I (oG a (nth [] w 1)),I a.length] [(1,.vars [P,C,mat w])] K
 | [],a,e,hK=>by
  simp only[Zp]at e;subst e;refine aj ?_;have hlt:¬((x.length:Int)<(x.length:Int)):=aa;have l1:aQ (lst di x)=some (I x.length):=rfl;simp only[iO];simp[hlt,l1];exact hK
 | z::q,a,e,hK=>by
  refine aj ?_;have hal:a.length<x.length:=by rw[e];simp
  have hlt:((a.length:Int)<(x.length:Int)):=aa;have l1:aQ (lst di x)=some (I x.length):=rfl;have hz:=hx z (by grind);have hmem:∀i,i<2->nth [] w i∈w:=λi hi=>by rw[cn _ _ _ aa];exact Yx _
  obtain⟨u,hu⟩:=nmQ (nth [] w 0);obtain⟨v,hvv⟩:=nmQ (nth [] w 1);have ul:u.length=x.length:=by rw[hu];exact hl _ (hmem 0 aa)
  have vl:v.length=x.length:=by rw[hvv];exact hl _ (hmem 1 aa)
  have ub:bd9 u:=by rw[hu];exact hv _ (hmem 0 aa)
  have vb:bd9 v:=by rw[hvv];exact hv _ (hmem 1 aa)
  have i1:∀h:Hp,ixV h 1 (mat w) (.d (.int .i64 0))=some (.dptr (w.map row) 0):=λh=>d8 row w h rfl aa
  have i2:∀h:Hp,ld1 h (.dptr (w.map row) 0)=some (lst di u):=λh=>by rw[hu];exact eH row [] w h aa
  have i3:∀h:Hp,ixV h 1 (mat w) (.d (.int .i64 1))=some (.dptr (w.map row) 1):=λh=>d8 row w h rfl aa
  have i4:∀h:Hp,ld1 h (.dptr (w.map row) 1)=some (lst di v):=λh=>by rw[hvv];exact eH row [] w h aa
  have j1:∀h:Hp,ixV h 1 (lst di u) (I a.length)=some (.dptr (u.map di) a.length):=λh=>d8 di u h rfl aa
  have j2:∀h:Hp,ld1 h (.dptr (u.map di) a.length)=some (I (nth 0 u a.length)):=λh=>eH di 0 u h aa
  have j3:∀h:Hp,ixV h 1 (lst di v) (I a.length)=some (.dptr (v.map di) a.length):=λh=>d8 di v h rfl aa
  have j4:∀h:Hp,ld1 h (.dptr (v.map di) a.length)=some (I (nth 0 v a.length)):=λh=>eH di 0 v h aa
  have k1:∀h:Hp,ixV h 1 (lst di x) (I a.length)=some (.dptr (x.map di) a.length):=λh=>by simp_all
  have k2:∀h:Hp,ld1 h (.dptr (x.map di) a.length)=some (I z):=λh=>by simp_all
  have ab:bd9 a:=λy hy=>hx y (by grind)
  have b0:=JZ ab ub;have b1:=JZ ab vb;have m0:=Qk (ub _ (fG (i:=a.length) (d:=0) aa)) hz;have m1:=Qk (vb _ (fG (i:=a.length) (d:=0) aa)) hz;have ih:=Ik h2 hl hn hx hv P C h0 K q (a++[z]) (by simp[e]) hK;rw[<-hu,<-hvv,BX a u z aa,BX a v z aa]at ih;rw[<-hu,<-hvv]
  have e4:((a++[z]).length:Int)=(a.length:Int)+1:=ac;rw[e4,W7 z (nth 0 u _),W7 z (nth 0 v _)]at ih;simp only[iO];generalize nth 0 u a.length=y0 at *;generalize nth 0 v a.length=y1 at *;generalize oG a u=s0 at *;generalize oG a v=s1 at *;simp(disch:=try exact ae)[hlt,l1,i1,i2,i3,i4,j1,j2,j3,j4,k1,k2]
  grind[dh,lo]
theorem MW{p:LiQ}{c w:Mz}(h:qC p c w)(h2:w.length=2)(h8:p.length<=8)(hl:x.length=p.length)(hx:bd9 x):CP Y F.fW [tpV p c w,lst di x] (.tup [I (nth 0 (aW w x) 0),I (nth 0 (aW w x) 1)]):=by refine vL ?_;rw[KW aa,KW aa];simp only[fW,tpV];simp;refine lo (Ik h2 (λv hv=>by rw[h.lw.rl v hv,hl]) aa hx (λv hv=>h.lw.sm v hv) (lst di p) (mat c) _ _ x [] rfl ?_);simp;exact⟨_,rfl⟩
def gnA:Acc:=⟨3,0,2,.none⟩
def gnH(pp:LiQ)(cc:Mz)(w:Mz)(s:List Q):Hp:=[(1,.vars [lst di pp,mat cc,mat w]),nnQ,nnQ,gnA.b s.length (prC s)]
theorem MD{w:Mz}{r x:LiQ}{div:Int}(hr2:2<=r.length)(hr:bd9 r)(h1:nth 0 r 1≠0)(hd:div≠0)(hdb : -1000000000<=div∧div<=1000000000)(hx:bd9 x)(hn:x.length<1000)
  (hw2:0<w.length) (hw0:0<(nth [] w 0).length) (hdv:nth 0 (nth [] w 0) 0=div) (pp:LiQ) (cc:Mz) (h0:Hp) (hh0:∃a c d e,h0=[a,(0,c),(0,d),e]) (K:KL) :
  ∀(q a:LiQ),x=a++q->K (.exit 0) [gnA.v x.length (prC (fP r div 0 x))] (gnH pp cc w (fP r div 0 x)) ->
  lp (eB (CX Y) (lst di x) (.ptr 0 1 0 3) (I (nth 0 r 0)) (I (nth 0 r 1))) [1,2] h0 [gnA.v a.length (prC (fP r div 0 a)),I a.length] (gnH pp cc w (fP r div 0 a)) K
 | [],a,e,hK=>by
  simp only[Zp]at e;subst e;refine aj ?_;have hlt:¬((x.length:Int)<(x.length:Int)):=aa;have l1:aQ (lst di x)=some (I x.length):=rfl;simp only[eB];simp[hlt,l1];exact hK
 | z::q,a,e,hK=>by
  refine aj ?_;have hal:a.length<x.length:=by rw[e];simp
  have hlt:((a.length:Int)<(x.length:Int)):=aa;have l1:aQ (lst di x)=some (I x.length):=rfl;have hz:=hx z (by grind);have i1:∀h:Hp,ixV h 1 (lst di x) (I a.length)=some (.dptr (x.map di) a.length):=λh=>by simp_all
  have i2:∀h:Hp,ld1 h (.dptr (x.map di) a.length)=some (I z):=λh=>by
   simp_all
  have hr1 : -1000000000<=nth 0 r 1∧nth 0 r 1<=1000000000:=hr _ (fG aa);have hr0 : -1000000000<=nth 0 r 0∧nth 0 r 0<=1000000000:=hr _ (fG aa);have w1:∀h:Hp,ixV h 1 (mat w) (.d (.int .i64 0))=some (.dptr (w.map row) 0):=λh=>d8 row w h rfl aa
  have w2:∀h:Hp,ld1 h (.dptr (w.map row) 0)=some (lst di (nth [] w 0)):=λh=>eH row [] w h aa
  have w3:∀h:Hp,ixV h 1 (lst di (nth [] w 0)) (.d (.int .i64 0))=some (.dptr ((nth [] w 0).map di) 0):=λh=>d8 di _ h rfl aa
  have w4:∀h:Hp,ld1 h (.dptr ((nth [] w 0).map di) 0)=some (I div):=λh=>by rw[<-hdv];exact eH di 0 _ h aa
  obtain⟨s,hs⟩:=nmQ (fP r div 0 a);have hsl:s.length=a.length:=by rw[hs,mC]
  have hsn:s.length<1000:=aa;have eG:fP r div 0 (a++[z])=s++[js r div a.length z]:=by rw[Bj,<-hs,Zj]
  have o1:=tK hz;have o2:=tK hr1;have p1:=px (n:=z) (d:=1) af aa aa af af;have p2:=px (n:=nth 0 r 1) (d:=1) af aa aa af af;rw[Fo]at p1 p2;rw[<-hs];obtain⟨A,c0,d0,E,rfl⟩:=hh0;simp only[qT]at p1;simp only[eB,gnH];simp[hlt,l1,i1,i2];refine cd p1 ?_;simp
  have main:∀(kq:Q),okQ kq->qL 50001 kq->js r div a.length z=rP kq (nth 0 r 1,1) ->
    (bnd (ldA [(1,Bk.vars [lst di pp,mat cc,mat w]),(1,Bk.vars (qT kq)),nnQ,gnA.b s.length (prC s)] 2 (V.ptr 1 1 0 2)) λv11=>
     cal (CX Y).p [(1,Bk.vars [lst di pp,mat cc,mat w]),(1,Bk.vars (qT kq)),nnQ,gnA.b s.length (prC s)] (V.fn F.aV [] []) [I (nth 0 r 1),V.d (D.int IntKind.i64 1)] λv12 h=>
     cal (CX Y).p h (V.fn F.gS [] []) [v11,v12] λv13 h=>
      ext v13 0 λv14=>
       ext v13 1 λv15=>
        alV 2 [V.d (D.str []),V.d (D.str [])] h λv16 h=>
        stD h 2 v16 v14 λx_1 h=>
         bnd (ldA h 2 v16) λv18=>
          cY 1 [D.str [],D.str []] [(0,v18)] h λv19 h=>
           apV false 3 2 32 (gnA.v a.length (prC s)) v19 h λv20 h=>
            bnd (biI BinOp.add (I ↑a.length) (V.d (D.int IntKind.i64 1))) λv21=>
             clean [1,2] [v20,v21] h=true ∧
              lp (eB (CX Y) (lst di x) (V.ptr 0 1 0 3) (I (nth 0 r 0)) (I (nth 0 r 1)))
               [1,2] [A,(0,c0),(0,d0),E] [v20,v21] (aL [1,2] 0 [A,(0,c0),(0,d0),E] h) K):=by
   intro kq k1 k2 k3;have dv:=FZ k1 o2.1 aa (k2.mono aa) (o2.2.mono aa);rw[<-k3]at dv;obtain⟨kk,hkk⟩:=nmQ (js r div a.length z);rw[<-hkk]at dv eG;simp only[qT]at dv p2 ⊢;simp;refine cd p2 ?_;simp;refine cd dv ?_ (by rfl)
   have hli:∀h:Hp,dX 1 [D.str [],D.str []] [(0,.agg [V.d (.str (itoa kk.1)),V.d (.str (ah kk.2))])] h=some (aE (tx kk),h):=λh=>Mk kk h
   simp[hli];refine md gnA (L:=a.length) (by_:=32) (k:=1) (cs:=aE (tx kk)) aa (by rw[<-hsl];rfl) (by rw[rQ,hsl];rfl) (by rfl) rfl (by grind) aa af ?_;have ih:=MD hr2 hr h1 hd hdb hx hn hw2 hw0 hdv pp cc [A,(0,c0),(0,d0),E] ⟨A,c0,d0,E,rfl⟩ K q (a++[z]) (by simp[e]) hK;have e4:((a++[z]).length:Int)=(a.length:Int)+1:=ac
   rw[e4,eG,Do,List.length_append]at ih;have ea:biI BinOp.add (I (a.length:Int)) (V.d (D.int IntKind.i64 1))=some (I ((a.length:Int)+1)):=by simp(disch:=try exact ae)
   rw[ea]
   have rs:aL [1,2] 0 [A,(0,c0),(0,d0),E] ([(1,Bk.vars [lst di pp,mat cc,mat w]),(1,Bk.vars [S (itoa kq.fst),S (ah kq.snd)]),(1,Bk.vars [S (itoa kk.fst),S (ah kk.snd)]),gnA.b s.length (prC s)].set gnA.s (gnA.b (a.length+1) (prC s++aE (tx kk))))=gnH pp cc w (s++[kk]):=by
    rw[gnH,List.length_append,Do,hsl];obtain⟨A1,A2⟩:=A;obtain⟨E1,E2⟩:=E;rfl
   refine⟨by rfl,?_⟩;rw[rs];exact ih
  by_cases e0:a=[]
  .refine aH ?_;have fo:=px (n:=nth 0 r 0) (d:=div) hd aa aa aa aa;have lz:=m5 (n:=nth 0 r 0) hd;have lL:qL 30 (de (nth 0 r 0) div):=BB (Zy (pP aa aa) af) (Zy (pP aa aa) af);have sb:=BQ o1.1 lz (o1.2.mono aa) (lL.mono aa)
   have m1:=main (fw (z,1) (mM (de (nth 0 r 0) div))) (Je o1.1 (ES lz)) ((N0 o1.2 (Jc lL)).mono aa) (by simp[js,e0]);generalize de (nth 0 r 0) div=w1' at *;generalize fw (z,1) (mM w1')=w2' at *;simp only[qT]at fo sb m1;simp[e0,w1,w2,w3,w4];refine cd fo ?_;simp;refine cd sb ?_ (by rfl);simp;exact m1
  .refine aH ?_;have m1:=main (z,1) o1.1 (o1.2.mono aa) (by simp[js,e0]);simp only[qT]at m1;simp[e0];exact m1
theorem FQ{p:LiQ}{c w:Mz}(h:qC p c w)(hg:gtB w=0)(h8:p.length<=8)(hx:Di p w x):CP Y F.d6 [tpV p c w,lst di x] (.tup [szV (GG w x),B (GH w x)]):=by
 refine tE ?_;obtain⟨w2,_⟩:=JP hg;obtain⟨d0,d1⟩:=OG h hg;have hw0:nth [] w 0∈w:=by rw[cn _ _ _ aa];exact Yx _
 have tl:(aW w x).length=2:=by simp[aW,w2]
 have hn:=h.lc.n12;have hxl:=hx.l;have a1:=MW h w2 h8 hx.l hx.b;simp only[d6,tpV];simp;refine cd (args:=[tpV p c w,lst di x]) a1 ?_ (by rfl);by_cases h1:nth 0 (aW w x) 1=0
 .simp[h1];rw[GG,GH,if_pos (.inr h1),decide_eq_false aa];exact⟨_,rfl⟩
 .simp[h1];rw[GG,GH,if_neg aa,decide_eq_true ⟨hg,h1⟩];refine lo (MD (r:=aW w x) (div:=nth 0 (nth [] w 0) 0) aa hx.t h1 d0 d1 hx.b aa aa (by rw[h.lw.rl _ hw0];exact h.lw.n0) rfl p c _ ⟨_,_,_,_,rfl⟩ _ x [] rfl ?_);simp
  have e1:=nN gnA (L:=x.length) (cells:=prC (fP (aW w x) (nth 0 (nth [] w 0) 0) 0 x)) (h:=gnH p c w (fP (aW w x) (nth 0 (nth [] w 0) 0) 0 x)) (by rw[gnH,mC];rfl) (by rw[rQ,mC];rfl);obtain⟨h',e1,_⟩:=e1;refine cE (h1:=h') (h2:=h') ?_ rfl;rw[e1];simp[szV,jX,prC,mC]
theorem SL{p:LiQ}{c w:Mz}(h:qC p c w)(hx:Di p w x):CP Y F.ie [tpV p c w,mat [x]] (B true):=by
 refine xP ?_;have l1:aQ (mat [x])=some (I 1):=rfl;have t:=Cc h hx.l hx.b hx.r hx.t;have i1:∀h:Hp,ixV h 1 (mat [x]) (.d (.int .i64 0))=some (.dptr [row x] 0):=λh=>d8 row [x] h rfl ac
 have i2:∀h:Hp,ld1 h (.dptr [row x] 0)=some (lst di x):=λh=>rfl
 simp only[ie,tpV];simp;refine lo (aj ?_);simp only[nC];simp[l1,i1,i2];refine cd (args:=[tpV p c w,lst di x]) t ?_ (by rfl);simp[dh];refine lo (aj ?_);simp only[nC];simp[l1]
theorem aaE{p:LiQ}{d:Int}(h0:0<p.length)(hd:d≠0)(hb : -1000000000<=d∧d<=1000000000):(EY p.length (de 1 d)).length=p.length∧okS (EY p.length (de 1 d)):=by
 obtain⟨m,hm⟩:∃m,p.length=m+1:=⟨p.length-1,aa⟩;rw[hm,Jh (m5 hd)];refine⟨ac,λy hy=>?_⟩;rcases Zw.1 hy with rfl|hy
 .exact⟨m5 hd,DG aa aa⟩
 .rw[(Xm.1 hy).2];exact tK aa
theorem Sw{k:Nat}{e:List I4}{vals:Bool}(hk:k<256)(hb:∀x∈e,ok4 x):
  CP Y F.cC [.agg [.d (.int .u8 k),jX i4D e,B vals],lst di x] (B true):=by
 refine rj ?_;have ok3:okV (jX i4D e)=true:=rfl;have sn1:∀h:Hp,aT h [.agg [.d (.int .u8 k),jX i4D e,B vals]]=some ([.agg [.d (.int .u8 k),jX i4D e,B vals]],h):=λh=>by rfl
 have lx:aQ (lst di x)=some (I x.length):=rfl;have fi:=SN (k:=k) (e:=e) (vals:=vals);simp only[cC];simp[ok3];refine cd yM ?_;simp;refine cd fi ?_ (sn1 _);by_cases he:e.length<=3
 case neg=>
  simp[he];refine cd yM ?_;simp
 by_cases h8:x.length<=8
 case neg=>
  have h8':(8:Int)<x.length:=aa;simp[he,lx,h8'];refine cd yM ?_;simp
 have h8':¬(8:Int)<x.length:=aa;simp[he,lx,h8'];obtain⟨p1,p2,p3,p4,p5⟩:=Vb _ (Bm k);obtain⟨C,W,mk,PL⟩:=adu (vals:=vals) hk he hb;obtain⟨p,hp⟩:=nmQ (mY k);rw[<-hp]at p1 p3 p4 mk PL;have T:=PL.t;have ok1:∀m:Mz,okV (mat m)=true:=λ_=>rfl
 have ok2:okV (lst di p)=true:=rfl;have mo:=L5 (p:=p) (r:=x) aa;have tw:=TA T;simp only[tpV]at mk;refine cd mk ?_ (sn1 _);simp[ok1,ok2];by_cases hg:gtB W=0
 case neg=>
  refine cd (args:=[tpV p C W,lst di x]) (U7 (WQ T hg) hg) ?_ (by rfl);simp;refine cd (args:=[tpV p C W]) tw ?_ (by rfl);simp;refine aH ?_;simp[hg];refine aH ?_;simp[hg]
 rw[hg]at tw;by_cases hm:mzB p [x]=0
 case neg=>
  refine cd (args:=[tpV p C W,lst di x]) (U8 T hg hm) ?_ (by rfl);simp;refine cd (args:=[tpV p C W]) tw ?_ (by rfl);simp;refine aH ?_;simp;refine cd mo ?_ (by rfl);simp[hm];refine aH ?_;simp[hm]
 have tv:=aae PL p4 hg hm;have hxl:=tv.l;have c1:=acf T (λ_=>tv) hm;rw[hg]at c1;have ge:=FQ T hg aa tv;have ft:=SL T tv;obtain⟨s,hs⟩:=nmQ (GG W x);obtain⟨b,hbb⟩:=nmQ (GH W x)
 have hsl:s.length<1000000:=by
  rw[hs];unfold GG;split
  .simp
  .grind[mC]
 have sa:=uj hsl;rw[<-hs,<-hbb]at c1 ge;have hli:∀h:Hp,dX 1 [nPQ] [(0,lst di x)] h=some ([row x],h):=λh=>GM ..
 refine cd (args:=[tpV p C W,lst di x]) c1 ?_ (by rfl);simp;refine cd (args:=[tpV p C W]) tw ?_ (by rfl);simp;refine aH ?_;simp;refine cd mo ?_ (by rfl);simp[hm,hli];refine cd (args:=[tpV p C W,mat [x]]) ft ?_ (by rfl);simp;refine aH ?_;simp[hm];refine cd (args:=[tpV p C W,lst di x]) ge ?_ (by rfl);simp;have sns:∀h:Hp,aT h [szV s,szV s]=some ([szV s,szV s],h):=λh=>rfl
 refine cd sa ?_ (sns _);by_cases h1:nth 0 (aW W x) 1=0
 .have eb:b=false:=by rw[hbb,GH,decide_eq_false aa]
  subst eb;simp
 have eb:b=true:=by rw[hbb,GH,decide_eq_true ⟨hg,h1⟩]
 have es:s=fP (aW W x) (nth 0 (nth [] W 0) 0) 0 x:=by rw[hs,GG,if_neg aa]
 obtain⟨w2,_⟩:=JP hg;obtain⟨d0,d1⟩:=OG T hg;have tl:(aW W x).length=2:=by simp[aW,w2]
 have so:okS s:=by rw[es];exact EU tv.t aa d0 d1 h1 0 tv.b
 have sl:s.length=p.length:=by rw[es,mC,hxl]
 have tu:=Tl T hg sl so;have x0:x≠[]:=λe0=>by rw[e0,List.length_nil]at hxl;omega
 have ez:Dc p W (trG p W s) x=List.replicate p.length (0,1):=by
  rw[es,trG];exact XG hxl x0 w2 d0 h1
 have zo:okS (List.replicate p.length ((0:Int),1)):=λy hy=>by
  rw[(Xm.1 hy).2];exact tK aa
 have TU:ace p C W (trG p W s):=⟨T,by rw[w2];rfl,λg hgm=>by
  rcases Zw.1 hgm with rfl|hgm
  .exact aaE p3 d0 d1
  .rw[List.mem_singleton]at hgm;rw[hgm];exact⟨sl,so⟩⟩
 have te:=TC TU aa (x:=x) ⟨hxl,(VC p1 hm).2,tv.b,tv.r,tv.t⟩ (by rw[ez];exact zo);rw[ez]at te;have sg:=ZR (p:=p) p1 aa ac zo aat;have ok4:∀g:List (List Q),okV (lst szD g)=true:=λ_=>rfl
 obtain⟨g,hgg⟩:=nmQ (trG p W s);rw[<-hgg]at tu te;subst eb;simp;simp only[tuV,tuC]at tu te;refine cd (args:=[tpV p C W,szV s]) tu ?_ (by rfl);simp[ok1,ok2,ok4];refine cd (args:=[tuV p C W g,lst di x]) te ?_ (by rfl);simp;refine cd sg ?_ (by rfl);simp
end Go.Vm
namespace Go.Proofs
open Go.Shelf
def Tryz.laysPu14_ren:Go.Shelf.Ren:=⟨λ|14=>193|16=>164|17=>129|19=>189|20=>190|21=>165|22=>166|23=>167|24=>168|25=>191|27=>110|26=>192|28=>153|29=>182|30=>202|31=>203|32=>204|33=>205|35=>200|34=>209|36=>210|37=>211|38=>212|39=>213|40=>214|n=>n,λ|9=>9|3=>3|22=>188|24=>146|25=>222|4=>4|34=>221|5=>5|36=>199|37=>230|0=>0|39=>224|21=>21|44=>251|47=>262|50=>265|48=>263|2=>2|52=>257|55=>259|59=>269|60=>234|20=>20|61=>270|65=>271|66=>272|67=>273|n=>n,λ|0=>0|1=>1|2=>2|3=>3|4=>4|n=>n⟩
theorem Tryz.laysPu14:Go.Proofs.LaysPu.n14 Tryz.prog Tryz.laysPu14_ren:={
 mixed:=ag
 f14:=Tryz.func193.trans (congrArg some ag)
 f16:=Tryz.func164.trans (congrArg some ag)
 f17:=Tryz.func129.trans (congrArg some ag)
 f19:=Tryz.func189.trans (congrArg some ag)
 f20:=Tryz.func190.trans (congrArg some ag)
 f21:=Tryz.func165.trans (congrArg some ag)
 f22:=Tryz.func166.trans (congrArg some ag)
 f23:=Tryz.func167.trans (congrArg some ag)
 f24:=Tryz.func168.trans (congrArg some ag)
 f25:=Tryz.func191.trans (congrArg some ag)
 f26:=Tryz.func192.trans (congrArg some ag)
 f27:=Tryz.func110.trans (congrArg some ag)
 f28:=Tryz.func153.trans (congrArg some ag)
 f29:=Tryz.func182.trans (congrArg some ag)
 f30:=Tryz.func202.trans (congrArg some ag)
 f31:=Tryz.func203.trans (congrArg some ag)
 f32:=Tryz.func204.trans (congrArg some ag)
 f33:=Tryz.func205.trans (congrArg some ag)
 f34:=Tryz.func209.trans (congrArg some ag)
 f35:=Tryz.func200.trans (congrArg some ag)
 f36:=Tryz.func210.trans (congrArg some ag)
 f37:=Tryz.func211.trans (congrArg some ag)
 f38:=Tryz.func212.trans (congrArg some ag)
 f39:=Tryz.func213.trans (congrArg some ag)
 f40:=Tryz.func214.trans (congrArg some ag)
 t0:=Tryz.underlying0
 a0:=Tryz.isAgg0
 z0:=Tryz.sizeOf0
 v0:=Tryz.zeroValue0
 i0:=ag
 t2:=Tryz.underlying2
 a2:=Tryz.isAgg2
 z2:=Tryz.sizeOf2
 v2:=Tryz.zeroValue2
 i2:=ag
 t3:=Tryz.underlying3
 a3:=Tryz.isAgg3
 z3:=Tryz.sizeOf3
 v3:=Tryz.zeroValue3
 i3:=ag
 t4:=Tryz.underlying4
 a4:=Tryz.isAgg4
 z4:=Tryz.sizeOf4
 v4:=Tryz.zeroValue4
 i4:=ag
 t5:=Tryz.underlying5
 a5:=Tryz.isAgg5
 z5:=Tryz.sizeOf5
 v5:=Tryz.zeroValue5
 i5:=ag
 t9:=Tryz.underlying9
 a9:=Tryz.isAgg9
 z9:=Tryz.sizeOf9
 v9:=Tryz.zeroValue9
 i9:=ag
 t20:=Tryz.underlying20
 a20:=Tryz.isAgg20
 z20:=Tryz.sizeOf20
 v20:=Tryz.zeroValue20
 i20:=ag
 t21:=Tryz.underlying21
 a21:=Tryz.isAgg21
 z21:=Tryz.sizeOf21
 v21:=Tryz.zeroValue21
 i21:=ag
 t22:=Tryz.underlying188
 a22:=Tryz.isAgg188
 z22:=Tryz.sizeOf188
 v22:=Tryz.zeroValue188
 i22:=ag
 t24:=Tryz.underlying146
 a24:=Tryz.isAgg146
 z24:=Tryz.sizeOf146
 v24:=Tryz.zeroValue146
 i24:=ag
 t25:=Tryz.underlying222
 a25:=Tryz.isAgg222
 z25:=Tryz.sizeOf222
 v25:=Tryz.zeroValue222
 i25:=ag
 t34:=Tryz.underlying221
 a34:=Tryz.isAgg221
 z34:=Tryz.sizeOf221
 v34:=Tryz.zeroValue221
 i34:=ag
 c34:=ag
 t36:=Tryz.underlying199
 a36:=Tryz.isAgg199
 z36:=Tryz.sizeOf199
 v36:=Tryz.zeroValue199
 i36:=ag
 t37:=Tryz.underlying230
 a37:=Tryz.isAgg230
 z37:=Tryz.sizeOf230
 v37:=Tryz.zeroValue230
 i37:=ag
 t39:=Tryz.underlying224
 a39:=Tryz.isAgg224
 z39:=Tryz.sizeOf224
 v39:=Tryz.zeroValue224
 i39:=ag
 t44:=Tryz.underlying251
 a44:=Tryz.isAgg251
 z44:=Tryz.sizeOf251
 v44:=Tryz.zeroValue251
 i44:=ag
 t47:=Tryz.underlying262
 a47:=Tryz.isAgg262
 z47:=Tryz.sizeOf262
 v47:=Tryz.zeroValue262
 i47:=ag
 t48:=Tryz.underlying263
 a48:=Tryz.isAgg263
 z48:=Tryz.sizeOf263
 v48:=Tryz.zeroValue263
 i48:=ag
 t50:=Tryz.underlying265
 a50:=Tryz.isAgg265
 z50:=Tryz.sizeOf265
 v50:=Tryz.zeroValue265
 i50:=ag
 t52:=Tryz.underlying257
 a52:=Tryz.isAgg257
 z52:=Tryz.sizeOf257
 v52:=Tryz.zeroValue257
 i52:=ag
 t55:=Tryz.underlying259
 a55:=Tryz.isAgg259
 z55:=Tryz.sizeOf259
 v55:=Tryz.zeroValue259
 i55:=ag
 t59:=Tryz.underlying269
 a59:=Tryz.isAgg269
 z59:=Tryz.sizeOf269
 v59:=Tryz.zeroValue269
 i59:=ag
 t60:=Tryz.underlying234
 a60:=Tryz.isAgg234
 z60:=Tryz.sizeOf234
 v60:=Tryz.zeroValue234
 i60:=ag
 t61:=Tryz.underlying270
 a61:=Tryz.isAgg270
 z61:=Tryz.sizeOf270
 t65:=Tryz.underlying271
 a65:=Tryz.isAgg271
 z65:=Tryz.sizeOf271
 v65:=Tryz.zeroValue271
 i65:=ag
 t66:=Tryz.underlying272
 a66:=Tryz.isAgg272
 z66:=Tryz.sizeOf272
 v66:=Tryz.zeroValue272
 i66:=ag
 t67:=Tryz.underlying273
 a67:=Tryz.isAgg273
 z67:=Tryz.sizeOf273
 v67:=Tryz.zeroValue273
 i67:=ag
 g0:=ag
 m0:=ag
 g1:=ag
 m1:=ag
 g2:=ag
 m2:=ag
 g3:=ag
 m3:=ag
 g4:=ag
 m4:=by kernel_rfl}
def Tryz.laysC174_ren:Go.Shelf.Ren:=⟨λ|174=>87|247=>128|245=>129|287=>164|279=>165|280=>166|281=>167|282=>168|321=>189|322=>190|316=>191|171=>110|205=>192|243=>153|246=>182|283=>202|284=>203|285=>204|286=>205|129=>200|317=>209|318=>210|319=>211|320=>212|337=>213|338=>214|n=>n,λ|9=>9|3=>3|2=>2|75=>146|85=>147|4=>4|167=>221|5=>5|53=>188|175=>222|46=>199|168=>224|37=>230|0=>0|210=>251|21=>21|127=>262|145=>265|143=>263|171=>257|173=>259|212=>269|51=>234|20=>20|213=>270|232=>271|233=>272|80=>273|n=>n,λ|15=>0|16=>1|17=>2|18=>3|19=>4|n=>n⟩
theorem Tryz.laysC174:Go.Proofs.LaysC.n174 Tryz.prog Tryz.laysC174_ren:={
 mixed:=ag
 f129:=Tryz.func200.trans (congrArg some ag)
 f171:=Tryz.func110.trans (congrArg some ag)
 f174:=Tryz.func87.trans (congrArg some ag)
 f205:=Tryz.func192.trans (congrArg some ag)
 f243:=Tryz.func153.trans (congrArg some ag)
 f245:=Tryz.func129.trans (congrArg some ag)
 f246:=Tryz.func182.trans (congrArg some ag)
 f247:=Tryz.func128.trans (congrArg some ag)
 f279:=Tryz.func165.trans (congrArg some ag)
 f280:=Tryz.func166.trans (congrArg some ag)
 f281:=Tryz.func167.trans (congrArg some ag)
 f282:=Tryz.func168.trans (congrArg some ag)
 f283:=Tryz.func202.trans (congrArg some ag)
 f284:=Tryz.func203.trans (congrArg some ag)
 f285:=Tryz.func204.trans (congrArg some ag)
 f286:=Tryz.func205.trans (congrArg some ag)
 f287:=Tryz.func164.trans (congrArg some ag)
 f316:=Tryz.func191.trans (congrArg some ag)
 f317:=Tryz.func209.trans (congrArg some ag)
 f318:=Tryz.func210.trans (congrArg some ag)
 f319:=Tryz.func211.trans (congrArg some ag)
 f320:=Tryz.func212.trans (congrArg some ag)
 f321:=Tryz.func189.trans (congrArg some ag)
 f322:=Tryz.func190.trans (congrArg some ag)
 f337:=Tryz.func213.trans (congrArg some ag)
 f338:=Tryz.func214.trans (congrArg some ag)
 t0:=Tryz.underlying0
 a0:=Tryz.isAgg0
 z0:=Tryz.sizeOf0
 v0:=Tryz.zeroValue0
 t2:=Tryz.underlying2
 a2:=Tryz.isAgg2
 z2:=Tryz.sizeOf2
 v2:=Tryz.zeroValue2
 t3:=Tryz.underlying3
 a3:=Tryz.isAgg3
 z3:=Tryz.sizeOf3
 v3:=Tryz.zeroValue3
 t4:=Tryz.underlying4
 a4:=Tryz.isAgg4
 z4:=Tryz.sizeOf4
 v4:=Tryz.zeroValue4
 t5:=Tryz.underlying5
 a5:=Tryz.isAgg5
 z5:=Tryz.sizeOf5
 v5:=Tryz.zeroValue5
 t9:=Tryz.underlying9
 a9:=Tryz.isAgg9
 z9:=Tryz.sizeOf9
 v9:=Tryz.zeroValue9
 t20:=Tryz.underlying20
 a20:=Tryz.isAgg20
 z20:=Tryz.sizeOf20
 v20:=Tryz.zeroValue20
 t21:=Tryz.underlying21
 a21:=Tryz.isAgg21
 z21:=Tryz.sizeOf21
 v21:=Tryz.zeroValue21
 t37:=Tryz.underlying230
 a37:=Tryz.isAgg230
 z37:=Tryz.sizeOf230
 v37:=Tryz.zeroValue230
 t46:=Tryz.underlying199
 a46:=Tryz.isAgg199
 z46:=Tryz.sizeOf199
 v46:=Tryz.zeroValue199
 t51:=Tryz.underlying234
 a51:=Tryz.isAgg234
 z51:=Tryz.sizeOf234
 v51:=Tryz.zeroValue234
 t53:=Tryz.underlying188
 a53:=Tryz.isAgg188
 z53:=Tryz.sizeOf188
 v53:=Tryz.zeroValue188
 t75:=Tryz.underlying146
 a75:=Tryz.isAgg146
 z75:=Tryz.sizeOf146
 v75:=Tryz.zeroValue146
 t85:=Tryz.underlying147
 a85:=Tryz.isAgg147
 z85:=Tryz.sizeOf147
 v85:=Tryz.zeroValue147
 t127:=Tryz.underlying262
 a127:=Tryz.isAgg262
 z127:=Tryz.sizeOf262
 v127:=Tryz.zeroValue262
 t143:=Tryz.underlying263
 a143:=Tryz.isAgg263
 z143:=Tryz.sizeOf263
 v143:=Tryz.zeroValue263
 t145:=Tryz.underlying265
 a145:=Tryz.isAgg265
 z145:=Tryz.sizeOf265
 v145:=Tryz.zeroValue265
 t167:=Tryz.underlying221
 a167:=Tryz.isAgg221
 z167:=Tryz.sizeOf221
 v167:=Tryz.zeroValue221
 t168:=Tryz.underlying224
 a168:=Tryz.isAgg224
 z168:=Tryz.sizeOf224
 v168:=Tryz.zeroValue224
 t171:=Tryz.underlying257
 a171:=Tryz.isAgg257
 z171:=Tryz.sizeOf257
 v171:=Tryz.zeroValue257
 t173:=Tryz.underlying259
 a173:=Tryz.isAgg259
 z173:=Tryz.sizeOf259
 v173:=Tryz.zeroValue259
 t175:=Tryz.underlying222
 a175:=Tryz.isAgg222
 z175:=Tryz.sizeOf222
 v175:=Tryz.zeroValue222
 t210:=Tryz.underlying251
 a210:=Tryz.isAgg251
 z210:=Tryz.sizeOf251
 v210:=Tryz.zeroValue251
 t212:=Tryz.underlying269
 a212:=Tryz.isAgg269
 z212:=Tryz.sizeOf269
 v212:=Tryz.zeroValue269
 t213:=Tryz.underlying270
 a213:=Tryz.isAgg270
 z213:=Tryz.sizeOf270
 t232:=Tryz.underlying271
 a232:=Tryz.isAgg271
 z232:=Tryz.sizeOf271
 v232:=Tryz.zeroValue271
 t233:=Tryz.underlying272
 a233:=Tryz.isAgg272
 z233:=Tryz.sizeOf272
 v233:=Tryz.zeroValue272
 g15:=ag
 g16:=ag
 g17:=ag
 g18:=ag
 g19:=ag
 t80:=Tryz.underlying273
 a80:=Tryz.isAgg273
 z80:=Tryz.sizeOf273
 v80:=Tryz.zeroValue273
 i0:=ag
 i2:=ag
 i3:=ag
 i4:=ag
 i5:=ag
 i9:=ag
 i20:=ag
 i21:=ag
 i37:=ag
 i46:=ag
 i51:=ag
 i53:=ag
 i75:=ag
 i80:=ag
 i85:=ag
 i127:=ag
 i143:=ag
 i145:=ag
 i167:=ag
 i168:=ag
 i171:=ag
 i173:=ag
 i175:=ag
 i210:=ag
 i212:=ag
 i232:=ag
 i233:=ag
 m15:=ag
 m16:=ag
 m17:=ag
 m18:=ag
 m19:=ag
 c0:=ag
 c2:=ag
 c3:=ag
 c4:=ag
 c5:=ag
 c9:=ag
 c20:=ag
 c21:=ag
 c37:=ag
 c46:=ag
 c51:=ag
 c53:=ag
 c75:=ag
 c80:=ag
 c85:=ag
 c127:=ag
 c143:=ag
 c145:=ag
 c167:=ag
 c168:=ag
 c171:=ag
 c173:=ag
 c175:=ag
 c210:=ag
 c212:=ag
 c213:=ag
 c232:=ag
 c233:=by kernel_rfl}
end Go.Proofs
namespace Go.Vm
open Go Go.Am
variable{l:LuQ}
theorem QS:∀(l:LuQ)(a:Nat),a<=qa a l
 |[],a=>Z8 _
 | c::l,a=>by
  have h:a*10+(c.toNat-48)<=qa (a*10+(c.toNat-48)) l:=QS l _;have e:qa a (c::l)=qa (a*10+(c.toNat-48)) l:=rfl;generalize qa a (c::l)=y at *;generalize qa (a*10+(c.toNat-48)) l=z at *;generalize c.toNat-48=d at *;omega
theorem rR:∀(l:LuQ)(a:Nat),l.all o8=true->qa a l<10000000000000000000->Lib.parseUintM (2^64-1) a l=.ok (qa a l)
 |[],a,_,_=>rfl
 | c::l,a,h,hd=>by
  simp only[List.all_cons,Z7,o8,Nat.ble_eq]at h;have e:qa a (c::l)=qa (a*10+(c.toNat-48)) l:=rfl;rw[e]at hd ⊢;have hge:=QS l (a*10+(c.toNat-48));rw[Lib.parseUintM,if_pos h.1,if_neg aa,if_neg aa];exact rR l _ h.2 hd
theorem frz(w:World)(e:TypeId)(s:ByteArray):w.heap.size<=(Lib.bytesWorld w e s).heap.size∧(∀c,c<w.heap.size->(Lib.bytesWorld w e s).heap[c]?=w.heap[c]?)∧(Lib.bytesWorld w e s).os=w.os∧(Lib.bytesWorld w e s).output=w.output:=
 ⟨by rw[Lib.bytesWorld_size];omega,λc hc=>Lib.bytesWorld_at_old w e s c hc,rfl,rfl⟩
theorem XW{c:UInt8}(h:o8 c=true):¬c.toNat=43∧¬c.toNat=45:=by simp only[o8,Z7,Nat.ble_eq]at h;omega
theorem Sb(hne:l≠[])(hall:l.all o8=true)(hlt:qa 0 l<9223372036854775808):Lib.parseIntB 64 l=.ok (qa 0 l:Int):=by
 cases l with
 |nil=>exact absurd rfl hne
 | cons c r=>
  have hc:=XW (Z2.1 hall c ac)
  have hp:Lib.parseUintB 64 (c::r)=.ok (qa 0 (c::r)):=by
   rw[Lib.parseUintB,if_neg hne];exact rR _ _ hall aa
  unfold Lib.parseIntB;simp only[hc.1,hc.2,or_self,if_false,hp];rw[if_neg bi,if_neg ac]
theorem Sa(hne:l≠[])(hall:l.all o8=true)(hlt:qa 0 l<9223372036854775808):Lib.parseIntB 64 (45::l)=.ok (-(qa 0 l:Int)):=by
 have hp:Lib.parseUintB 64 l=.ok (qa 0 l):=by
  rw[Lib.parseUintB,if_neg hne];exact rR _ _ hall aa
 have h45:(45:UInt8).toNat=45:=rfl;unfold Lib.parseIntB;simp only[h45,or_true,if_true,hp];rw[if_neg ac,if_neg bi]
theorem afg:acW X:=by
 intro f args v h;simp only[X]at h;split at h
 .rename_i hf;obtain rfl:=Zk hf;unfold LI at h;split at h
  .rename_i s a b;split at h
   .rename_i hc;obtain⟨rfl,rfl,hne,hall,hsz,hlt⟩:=hc;obtain rfl:=Option.some.inj h;refine⟨rfl,rfl,.inr ⟨⟨_,Go.Proofs.Tryz.func193,ag,ag⟩,λw=>?_⟩⟩
    have hp:Lib.parseUintB 64 s.data.toList=.ok (qa 0 s.data.toList):=by
     rw[Lib.parseUintB,if_neg hne];exact rR _ _ hall hlt
    have hsz2:s.size=s.data.toList.length:=by rw[Array.length_toList];rfl
    have hmax:s.size≤9223372036854775806:=aa;refine(Go.Proofs.Any.strconv_ParseUint_10_at64_ok Go.Proofs.Tryz.laysPu14 s hmax _ hp w).mono ?_;rintro e w' ⟨rfl,rfl|rfl⟩
    .exact⟨rfl,Z8 _,λ_ _=>rfl,rfl,rfl⟩
    .exact⟨rfl,frz w _ s⟩
   .cases h
  .cases h
 .split at h
  .rename_i hf;obtain rfl:=Zk hf
   have key:∀(s:ByteArray)(z:Int),s.data.toList.length≤1001→Lib.parseIntB 64 s.data.toList=.ok z→v=.tuple #[.int .i64 z,.nilIface]→args=[.string s,.int .i64 10,.int .i64 64] →
     cN args=true∧plain v=true∧(O3 X F.fv args v∨(∃fn,Go.Proofs.Tryz.prog.funcs[F.fv]?=some fn∧fn.body.isNone=false∧(fn.name == "runtime.NumGoroutine")=false) ∧
     ∀w,Calls Go.Proofs.Tryz.prog F.fv args.toArray w λe w'=>e=.returned v∧w.heap.size≤w'.heap.size∧(∀c,c<w.heap.size→w'.heap[c]?=w.heap[c]?)∧w'.os=w.os∧w'.output=w.output):=by
    intro s z hl hp hv ha;subst hv;subst ha;refine⟨rfl,rfl,.inr ⟨⟨_,Go.Proofs.Tryz.func87,ag,ag⟩,λw=>?_⟩⟩;have hsz2:s.size=s.data.toList.length:=by rw[Array.length_toList];rfl
    refine(Go.Proofs.Any.strconv_ParseInt_10_at64_ok Go.Proofs.Tryz.laysC174 s aa z hp w).mono ?_;rintro e w' ⟨rfl,rfl|⟨t,rfl⟩⟩
    .exact⟨rfl,Z8 _,λ_ _=>rfl,rfl,rfl⟩
    .exact⟨rfl,frz w _ t⟩
   unfold PV at h;split at h
   .rename_i s a b;split at h
    .rename_i hab;obtain⟨rfl,rfl⟩:=hab;split at h
     .rename_i l hs;split at h
      .rename_i hc;obtain⟨hne,hall,hsz,hlt⟩:=hc;obtain rfl:=Option.some.inj h;exact key s _ (by rw[hs];simp;omega) (by rw[hs];exact Sa hne hall hlt) rfl rfl
      .cases h
     .rename_i l hs;split at h
      .rename_i hc;obtain⟨hne,hall,hsz,hlt⟩:=hc;obtain rfl:=Option.some.inj h;exact key s _ aa (Sb hne hall hlt) rfl rfl
      .cases h
    .cases h
   .cases h
  .cases h
end Go.Vm
namespace Go.Proofs
open Go.RowKit Go.Shelf
attribute [local go_sem] Oper.semAt_some
def aeu(W:World)(B o k c s:Nat):Prop:=∃(a:Option Addr)(cap:Nat),W.cell? ⟨B,o,none⟩=some (.slice a k cap)∧(0<k->a=some ⟨c,s,none⟩)
def af4(W:World)(B o B2 o2 k c s c2 s2:Nat)(us vs:LvQ):Prop:=
 aeu W B o k c s∧aeu W B2 o2 k c2 s2∧(∀(i:Nat) v,us[i]?=some v->W.cell? ⟨c,s+i,none⟩=some v)∧∀(i:Nat) v,vs[i]?=some v->W.cell? ⟨c2,s2+i,none⟩=some v
set_option maxRecDepth 100000 in
set_option maxHeartbeats 2000000 in
theorem acb(l B o k c s c2 s2:Nat)(us vs:LvQ)(hu:us.length=k)(hv:vs.length=k)(hk:k<4611686018427387904)(J Jx:Nat->World->Prop)
  (hV:∀i W1,J i W1->af4 W1 B o B (o+1) k c s c2 s2 us vs)
  (hY:∀(i:Nat) x y W1,J i W1->us[i]?=some x->vs[i]?=some y->YieldAt (Go.Am.Fw none) 0 Tryz.prog l #[x,y] W1 λe W'=>(e=.returned (.bool true)∧J (i+1) W')∨(e=.returned (.bool false)∧Jx (i+1) W'))
  (W:World) (h0:J 0 W) :
  CallsIn (Go.Am.Fw none) 1 Tryz.prog 150 #[.func (.yield l) #[] #[],.pointer (some ⟨B,o,none⟩)] W λe W'=>(∃v,e=.returned v)∧(J k W'∨∃i,Jx i W'):=by
 refine callsIn_of_wp Tryz.func150 rfl trivial ?_ rfl;simp only[Tryz.ntmps150,List.size_toArray,List.length_cons,List.length_nil,Nat.reduceAdd,Nat.reduceSub,Array.replicate_succ,Array.replicate_zero,List.push_toArray,List.append_toArray,List.nil_append,List.cons_append];obtain⟨⟨a,cap,hc0,ha⟩,_⟩:=hV 0 W h0
 gi_wp2
 gi_loopw [8] (λi wr=>∃j:Nat,j<=k∧i=.int .i64 j∧J j wr) (λi _=>k-(intOf i).toNat)
 case atStart=>grind
 case round=>
  obtain⟨j,hj,rfl,hJs⟩:=hrel;by_cases hlt:j<k
  .obtain rfl:=ha aa;have ex:∃x,us[j]?=some x:=⟨_,List.getElem?_eq_getElem aa⟩;have ey:∃y,vs[j]?=some y:=⟨_,List.getElem?_eq_getElem aa⟩;obtain⟨x,hx⟩:=ex;obtain⟨y,hy'⟩:=ey;obtain⟨_,⟨a2,cap2,hc2,ha2⟩,hus,hvs⟩:=hV j wr hJs;obtain rfl:=ha2 aa;have hcx:=hus j x hx;have hcy:=hvs j y hy';obtain⟨fn,tmps,assign,body,hy,hR⟩:=hY j x y wr hJs hx hy'
   clear hx hy' hus hvs
   gi_wp2
   refine hR.mono ?_;rintro e W3 (⟨rfl,hJ3⟩|⟨rfl,hJx3⟩)
   .gi_wp2
    go_roundw
    case rel=>exact⟨j+1,aa,ac,hJ3⟩
    case measure=>simp[intOf];omega
   .gi_wp2
    refine bodyPost_ret (results_none rfl _ _ _) rfl ?_;exact⟨⟨_,rfl⟩,.inr ⟨_,hJx3⟩⟩
  .obtain rfl:j=k:=aa
   gi_wp2
   simp_all[bodyPost_end,results_none]
end Go.Proofs
namespace Go.Vm
open Go Go.Am Go.Proofs
noncomputable section
variable{f:FuncId}{p q v a b:Value}{xs:List LvQ}
theorem S9{P:Program}{args:Array Value}{w:World}{R:Ending->World->Prop}(h:CallsIn (Fw none) 1 P f args w R):CallsIn (Fw none) 0 P f args w R:=
 ⟨h.1,λcs _=>h.2 cs (λd hd=>by trivial)⟩
def hd1(x:LvQ):Value:=x.headD default
def sd1(x:LvQ):Value:=x.tail.headD default
theorem O4:∀(us vs:LvQ),us.length=vs.length->(((us.zip vs).map λx=>[x.1,x.2]).map hd1)=us∧(((us.zip vs).map λx=>[x.1,x.2]).map sd1)=vs
 |[],[],_=>⟨rfl,rfl⟩
 | u::us,v::vs,h=>by
  obtain⟨h1,h2⟩:=O4 us vs (by grind);simp only[List.zip_cons_cons,Zq,h1,h2];trivial
 |[],_::_,h=>by simp at h
 |_::_,[],h=>by simp at h
theorem Kr{H:AH}(h:Nu H p q=some xs):np H 1 p=some (xs.length,xs.map hd1)∧np H 1 q=some (xs.length,xs.map sd1)∧xs.length<4611686018427387904∧Om p=true∧Om q=true ∧
  ∀x∈xs,x=[hd1 x,sd1 x]∧plain (hd1 x)=true∧plain (sd1 x)=true:=by
 unfold Nu at h;split at h
 case h_2=>cases h
 rename_i k us k' vs hp hq;split at h
 case isFalse=>cases h
 rename_i hc;obtain⟨h1,h2,h3,h4,h5,h6,h7⟩:=hc;simp only[Z9]at h;subst h;obtain⟨m1,m2⟩:=O4 us vs aa;have hl:((us.zip vs).map λx=>[x.1,x.2]).length=k:=by simp;omega
 rw[m1,m2,hl];simp only[Z7]at h5;refine⟨hp,by rw[hq,h1],h4,h5.1,h5.2,λx hx=>?_⟩;obtain⟨⟨a,b⟩,hab,rfl⟩:=Zx.1 hx;have:=List.of_mem_zip hab;have e1:=Z2.1 h6 a this.1;have e2:=Z2.1 h7 b this.2;simp only[Z7]at e1 e2;exact⟨rfl,e1.1,e2.1⟩
theorem Pv{X:Cfg}{φ:bI}(hp:Om p=true)(hv:ak φ p v):∃c s:Nat,∀(φ':bI)(H':AH)(w':World)(k:Nat)(us:LvQ),bf X φ' H' w'->PLe φ φ'->np H' 1 p=some (k,us)->us.length=k->(∀u∈us,plain u=true) ->
  ∀B o v',w'.cell? ⟨B,o,none⟩=some v'->ak φ' p v'->aeu w' B o k c s∧∀(i:Nat) u,us[i]?=some u->w'.cell? ⟨c,s+i,none⟩=some u:=by
 cases p<;>simp only[Om]at hp<;>try cases hp
 rename_i a n cap;cases a with
 | none=>
  refine⟨0,0,λφ' H' w' k us hh _ hs hk _ B o v' hc hv'=>?_⟩;have e:=gQ hv';subst e;cases n with
  | zero=>
   simp only[np,Z9,Z5]at hs;obtain⟨rfl,rfl⟩:=hs;exact⟨⟨none,cap,hc,λh=>absurd h aa⟩,λi u hi=>by simp at hi⟩
  |succ n=>trivial
 | some a=>
  obtain⟨a',c',rfl,hs⟩:=ig hv
  have hpl:a.spot=none∧∃pl,φ a.block=some pl:=by
   rcases hs with⟨h1,_,pl,hp,_⟩|⟨h1,_,_,_,pl,hp⟩
   .grind
   .grind
  obtain⟨hsp,pl,hpl⟩:=hpl;obtain⟨b,off,sp⟩:=a;simp only at hsp hpl;subst hsp;refine⟨pl.c,pl.s+off,λφ' H' w' k us hh hle hs' hk hpl' B o v' hc hv'=>?_⟩;obtain⟨⟨b2,o2,s2⟩,c2,rfl,hs2⟩:=ig hv';have hpb:=hle _ _ hpl;simp only[np]at hs';split at hs'
  .rename_i hn;simp only[Z9,Z5]at hs';obtain⟨rfl,rfl⟩:=hs';subst hn;exact⟨⟨_,c2,hc,λh=>absurd h aa⟩,λi u hi=>by simp at hi⟩
  .rename_i hn;simp only[Ya,Z4,Z5]at hs';obtain⟨cs,hr,rfl,rfl⟩:=hs';obtain⟨cs',r1,r2,r3,r4⟩:=hh.read hr hpb
   have hb:b2=pl.c∧o2=pl.s+off∧s2=none:=by
    rcases hs2 with⟨_,h2,pl2,hp2,h3,h4,_⟩|⟨_,h0,_⟩
    .grind
    .omega
   obtain⟨rfl,rfl,rfl⟩:=hb;refine⟨⟨_,c2,hc,λ_=>rfl⟩,λi u hi=>?_⟩
   grind[am.at,oW,ak.of_plain]
theorem R9{x:LvQ}(h:x=[hd1 x,sd1 x]∧plain (hd1 x)=true∧plain (sd1 x)=true):cN x=true:=by grind[cN]
theorem adb(hpl:∀x∈xs,x=[hd1 x,sd1 x]∧plain (hd1 x)=true∧plain (sd1 x)=true){i:Nat}(ha:(xs.map hd1)[i]?=some a)(hb:(xs.map sd1)[i]?=some b):xs[i]?=some [a,b]:=by grind
theorem adW {fn:Func}(h:Tryz.prog.funcs[f]?=some fn)(hb:fn.body.isNone=false)(hn:(fn.name == "runtime.NumGoroutine")=false):∃fn,X.P.funcs[f]?=some fn∧fn.body.isNone=false∧(fn.name == "runtime.NumGoroutine")=false:=⟨fn,h,hb,hn⟩
set_option maxRecDepth 100000 in
theorem adY:∃fn,X.P.funcs[150]?=some fn∧fn.body.isNone=false∧(fn.name == "runtime.NumGoroutine")=false:=adW Tryz.func150 rfl (by rfl)
theorem ae9:Ri X:=by
 intro gf lb H xs h0;have h:I9 gf lb H=some xs:=h0;clear h0;unfold I9 at h;split at h
 .rename_i hg;have hg:gf=150:=Zk hg;subst hg;split at h
  case h_2=>cases h
  rename_i b o;split at h
  case h_2=>cases h
  rename_i p q d hrd;obtain⟨s1,s2,s3,s4,s5,hpl⟩:=Kr h;refine⟨λx hx=>R9 (hpl x hx),adY,λφ w lb' hh hl=>?_⟩;simp only[am]at hl;obtain⟨v',r,rfl,hv',rfl⟩:=hl;obtain⟨pl,hpb,rfl⟩:=ti hv';obtain⟨cs',r1,r2,r3,r4⟩:=hh.read hrd hpb;simp only[am]at r1;obtain⟨p',_,rfl,hp',q',_,rfl,hq',d',_,rfl,hd',rfl⟩:=r1;obtain⟨c,s,base⟩:=Pv (X:=X) s4 hp'
  obtain⟨c2,s2',base2⟩:=Pv (X:=X) s5 hq';refine⟨λW=>af4 W pl.c (pl.s+o) pl.c (pl.s+o+1) xs.length c s c2 s2' (xs.map hd1) (xs.map sd1),λφ' H' w' hh' hle hl' hs hk=>?_,λl J Jx W hV hY h0=>?_⟩
  .have hk:(bW H' b o 3).getD []=(bW H b o 3).getD []:=hk;have hs:I9 150 [.pointer (some ⟨b,o,none⟩)] H'=some xs:=hs;rw[hrd]at hk
   have hrd':bW H' b o 3=some [p,q,d]:=by
    cases hr:bW H' b o 3 with
    |none=>grind
    |some cs=>grind
   have hz:Nu H' p q=some xs:=by
    unfold I9 at hs;rw[show Nat.beq 150 F.dI=true from rfl]at hs;simp only[hrd']at hs;exact hs
   obtain⟨t1,t2,_⟩:=Kr hz;obtain⟨ds',u1,u2,u3,u4⟩:=hh'.read hrd' (hle _ _ hpb);simp only[am]at u1;obtain⟨p2,_,rfl,hp2,q2,_,rfl,hq2,d2,_,rfl,hd2,rfl⟩:=u1;have k0:=u4 0 p2 rfl;have k1:=u4 1 q2 rfl;rw[oW]at k0 k1;obtain⟨w1,w2⟩:=base φ' H' w' _ _ hh' hle t1 ac (λu hu=>by grind) _ _ _ k0 hp2
   obtain⟨w3,w4⟩:=base2 φ' H' w' _ _ hh' hle t2 ac (λu hu=>by grind) _ _ _ k1 hq2;trivial
  .exact S9 (acb l pl.c (pl.s+o) xs.length c s c2 s2' (xs.map hd1) (xs.map sd1) ac ac s3 J Jx hV (λi x y W1 hJ hx hy=>hY i [x,y] W1 hJ (adb hpl hx hy)) W h0)
 .rename_i hf;split at h
  case h_2=>cases h
  rename_i hg;rw[show F.uQ=F.dI from rfl,hf]at hg;cases hg
end
end Go.Vm
set_option maxRecDepth 100000
namespace Go.Vm
open Go Go.Am
variable{f:FuncId}{a:Addr}{m fuel:Nat}{n:Int}{ds:LdQ}{α:Type}{t e:TypeId}{W W':World}
theorem adV:(List.range X.P.funcs.size).all (λf=>!X.allow f||match X.P.funcs[f]? with
  |some fn=>aaM X.P fn&&(match fn.body with|some c=>jU Y fn.ntmps c|none=>true)
  |none=>true)=true:=aJ
theorem acB{fn:Func}(ha:X.allow f=true)(hf:X.P.funcs[f]?=some fn):aaM X.P fn=true∧(match fn.body with|some c=>jU Y fn.ntmps c|none=>true)=true:=by
 have hlt:f<X.P.funcs.size:=by
  rcases Zg f X.P.funcs.size with h|h
  .exact h
  .rw[Array.getElem?_eq_none h]at hf;cases hf
 have:=Z2.1 adV f (Wx.2 hlt);rw[ha,hf]at this;simpa using this
theorem vOk:VOk Y where
 y:=yOk
 fns f fn c ha hf hc:=by have:=(acB ha hf).2;rw[hc]at this;exact this
theorem adA:O2 X where
 mixed:=by rfl
 fns f fn ha hf:=(acB ha hf).1
 orc:=afg
 seq:=ae9
mutual
def WD(w:World):D->Value->Prop
 |.int k n,v=>v=.int k n
 |.bool b,v=>v=.bool b
 |.str s,v=>v=.string ⟨⟨s⟩⟩
 |.pl u,v=>v=u∧plain u=true∧okCell u=true
 | .sl len cells,v=>(len=0∧cells=[]∧(v=.slice none 0 0∨∃a,v=.slice (some a) 0 0)) ∨
   ∃ c o cap n cs e fz,v=.slice (some ⟨c,o,none⟩) len cap∧len<=cap∧0<n∧cells.length=len*n ∧
    w.heap[c]?=some (.cells cs e fz)∧o+cells.length<=cs.size∧WDs w cells ((cs.toList.drop o).take cells.length)
def WDs(w:World):LdQ->LvQ->Prop
 |[],l=>l=[]
 |x::xs,l=>∃v vs,l=v::vs∧WD w x v∧WDs w xs vs
end
structure Ly(w:World)(φ:bI)(F:Nat->Prop)(H:AH):Prop where
 rel:bf X φ H w
 wf:WF H
 fr:∀c,F c->c<H.n∧∃x,H.get c=some x∧x.st=1
 ro:∀c x,H.get c=some x->x.wr=false
 top:∀b p,φ b=some p->b<H.n
 pg:∃p,φ oI=some p
structure uH(φ:bI)(F:Nat->Prop)(H:AH)(φ':bI)(F':Nat->Prop)(H':AH):Prop where
 n:H.n<=H'.n
 le:PLe φ φ'
 fm:∀c,F c->F' c
 keep:∀c,c<H.n->H'.get c=H.get c
theorem uH.refl(φ:bI)(F:Nat->Prop)(H:AH):uH φ F H φ F H:=⟨Z8 _,PLe.refl _,λ_ h=>h,λ_ _=>rfl⟩
theorem uH.trans{φ φ1 φ2:bI}{F F1 F2:Nat->Prop}{H H1 H2:AH}(a:uH φ F H φ1 F1 H1)(b:uH φ1 F1 H1 φ2 F2 H2):uH φ F H φ2 F2 H2:=
 ⟨Zy a.n b.n,a.le.trans b.le,λc h=>b.fm c (a.fm c h),λc h=>by rw[b.keep c (Z3 h a.n),a.keep c h]⟩
theorem uH.leF{φ φ':bI}{F F':Nat->Prop}{H H':AH}{w:World}(L:Ly w φ F H)(a:uH φ F H φ' F' H'):LeF F F' H H':=
 ⟨a.fm,λc hc=>a.keep c (L.fr c hc).1,λc x hx h0=>⟨x,by grind[keep,AH.get_lt],h0⟩⟩
def roB(b n:Nat)(cells:LvQ):Blk:={cells,st:=1,wr:=false,fam:=b,start:=0,shared:=false,exact:=true,esz:=n,ver:=1}
theorem Ly.push{w:World}{φ:bI}{F:Nat->Prop}{H:AH}(L:Ly w φ F H){c o n:Nat}{us vs:LvQ}{cs:Array Value}{e:TypeId}{fz:Nat×Nat}(hh:w.heap[c]?=some (.cells cs e fz))
  (hlen:us.length=vs.length) (ho:o+us.length<=cs.size) (hvs:vs=(cs.toList.drop o).take us.length) (hr:am φ us vs) :
  Ly w (za φ H.n ⟨c,o,us.length,n,cs.size,true⟩) (λx=>F x∨x=H.n) (H.push (roB H.n n us)) ∧
  uH φ F H (za φ H.n ⟨c,o,us.length,n,cs.size,true⟩) (λx=>F x∨x=H.n) (H.push (roB H.n n us)):=by
 have hnone:φ H.n=none:=by
  cases hq:φ H.n with
  |none=>rfl
  |some p=>have:=L.top _ p hq;omega
 have hle:PLe φ (za φ H.n ⟨c,o,us.length,n,cs.size,true⟩):=PLe.add hnone;have hn:(H.push (roB H.n n us)).n=H.n+1:=rfl;have old:∀b,b<H.n->(H.push (roB H.n n us)).get b=H.get b:=λb hb=>AH.get_push aa
 have new:(H.push (roB H.n n us)).get H.n=some (roB H.n n us):=AH.get_push_new H _
 have ro:∀b x,(H.push (roB H.n n us)).get b=some x->x.wr=false:=λb x hx=>by
  rcases Zg b H.n with h|h
  .grind[ro]
  .have hb:b=H.n:=by have:=AH.get_lt hx;omega
   subst hb;rw[new]at hx;cases hx;rfl
 refine ⟨⟨⟨λg hg=>?_,λb p hp=>?_,λb p x i v hp hx h1 hv=>?_,λb p x i hp hx h1 hi=>?_,λb b' p p' x x' _ _ hx hx' _ _ _ _=>.inl ⟨ro b x hx,ro b' x' hx'⟩⟩,?_,λb hb=>?_,ro,λb p hp=>?_,L.pg.imp λp hp=>hle _ p hp⟩,
  ⟨aa,hle,λx h=>.inl h,old⟩⟩
 .obtain⟨p,hp,h1⟩:=L.rel.glob g hg;exact⟨p,hle g p hp,h1⟩
 .by_cases hb:b=H.n
  .subst hb;rw[dL]at hp;cases hp;exact⟨_,cs,e,fz,new,by simp[roB],rfl,rfl,rfl,hh,rfl,ho⟩
  .rw[fV hb]at hp;obtain⟨x,r⟩:=L.rel.dom b p hp
   grind[top]
 .by_cases hb:b=H.n
  .subst hb;rw[dL]at hp;cases hp;rw[new]at hx;cases hx;obtain⟨v',h1,h2⟩:=hr.at (i:=i) hv
   grind[ak.mono,cell_of_heap]
  .rw[fV hb]at hp;rw[old b (L.top b p hp)]at hx;obtain⟨v',h2,h3⟩:=L.rel.cell b p x i v hp hx h1 hv
   grind[ak.mono]
 .grind
 .refine⟨by simp[AH.push,L.wf.len],λb x hx=>?_⟩;rcases Zg b H.n with h|h
  .rw[old b h]at hx;exact L.wf.fam b x hx
  .have hb:b=H.n:=by have:=AH.get_lt hx;omega
   subst hb;rw[new]at hx;cases hx;trivial
 .rcases hb with hb|rfl
  .obtain⟨h1,x,h2,h3⟩:=L.fr b hb;exact⟨aa,x,by grind,h3⟩
  .exact⟨aa,_,new,rfl⟩
 .by_cases hb:b=H.n
  .omega
  .rw[fV hb]at hp;have:=L.top b p hp;omega
mutual
theorem lay{w:World}:∀(d:D)(v:Value){φ:bI}{F:Nat->Prop}{H:AH},Ly w φ F H->WD w d v ->
  ∃φ' F' H' u,Ly w φ' F' H'∧uH φ F H φ' F' H'∧ak φ' u v∧RD F' H' d u
 |.int k n,v,φ,F,H,L,h=>⟨φ,F,H,v,L,uH.refl ..,by simp only[WD]at h;subst h;rfl,h⟩
 |.bool b,v,φ,F,H,L,h=>⟨φ,F,H,v,L,uH.refl ..,by simp only[WD]at h;subst h;rfl,h⟩
 |.str s,v,φ,F,H,L,h=>⟨φ,F,H,v,L,uH.refl ..,by simp only[WD]at h;subst h;rfl,h⟩
 |.pl u,v,φ,F,H,L,h=>⟨φ,F,H,v,L,uH.refl ..,by grind[WD,ak.of_plain],h⟩
 | .sl len cells,v,φ,F,H,L,h=>by
  simp only[WD]at h;rcases h with⟨rfl,rfl,rfl|⟨a,rfl⟩⟩|⟨c,o,cap,n,cs,e,fz,rfl,hlc,hn,hlen,hh,ho,hds⟩
  .exact⟨φ,F,H,.slice none 0 0,L,uH.refl ..,rfl,.inl ⟨rfl,rfl,.inl rfl⟩⟩
  .obtain⟨p,hp⟩:=L.pg;obtain⟨x,_,_,_,hx,h0,_⟩:=L.rel.dom _ _ hp;exact⟨φ,F,H,.slice (some ⟨oI,0,none⟩) 0 0,L,uH.refl ..,⟨a,0,rfl,.inr ⟨rfl,rfl,rfl,rfl,p,hp⟩⟩,.inl ⟨rfl,rfl,.inr ⟨_,_,_,rfl,x,hx,h0⟩⟩⟩
  .obtain⟨φ1,F1,H1,us,L1,E1,r1,d1⟩:=lays cells _ L hds;have hl:us.length=cells.length:=by have:=d1.length;omega
   obtain⟨L2,E2⟩:=L1.push (us:=us) (n:=n) (o:=o) hh (by grind) aa (by rw[hl]) r1;refine⟨_,_,_,.slice (some ⟨H1.n,0,none⟩) len cap,L2,E1.trans E2,?_,?_⟩
   .refine⟨⟨c,o,none⟩,cap,rfl,.inl ⟨rfl,rfl,_,dL ..,rfl,rfl,.inl rfl⟩⟩
   .have new:(H1.push (roB H1.n n us)).get H1.n=some (roB H1.n n us):=AH.get_push_new H1 _;by_cases h0:len=0
    .subst h0;exact .inl ⟨rfl,Zn aa,.inr ⟨_,_,_,rfl,_,new,by simp[roB]⟩⟩
    .refine .inr ⟨H1.n,0,cap,us,n,rfl,aa,hlc,hn,hlen,.inr rfl,?_,RDs.mono (E2.leF L1) _ _ d1,_,new,.inl rfl⟩;rw[kW new rfl (by show 0+cells.length<=us.length;omega)]
     show some ((us.drop 0).take cells.length)=_
     grind
theorem lays{w:World}:∀(ds:LdQ)(vs:LvQ){φ:bI}{F:Nat->Prop}{H:AH},Ly w φ F H->WDs w ds vs ->
  ∃φ' F' H' us,Ly w φ' F' H'∧uH φ F H φ' F' H'∧am φ' us vs∧RDs F' H' ds us
 |[],vs,φ,F,H,L,h=>⟨φ,F,H,[],L,uH.refl ..,by trivial,rfl⟩
 | d::ds,vs,φ,F,H,L,h=>by
  simp only[WDs]at h;obtain⟨v,vs,rfl,h1,h2⟩:=h;obtain⟨φ1,F1,H1,u,L1,E1,r1,d1⟩:=lay d v L h1;obtain⟨φ2,F2,H2,us,L2,E2,r2,d2⟩:=lays ds vs L1 h2;exact⟨φ2,F2,H2,u::us,L2,E1.trans E2,⟨v,vs,rfl,ak.mono E2.le u v r1,r2⟩,⟨u,us,rfl,RD.mono (E2.leF L1) _ _ d1,d2⟩⟩
end
def aaF:Nat->List Blk
 |0=>[]
 |n+1=>qX::aaF n
theorem LN:∀(n i:Nat)(x:Blk),(aaF n)[i]?=some x->x=qX
 |0,_,_,h=>by trivial
 |n+1,0,x,h=>by grind[aaF]
 |n+1,i+1,x,h=>LN n i x (by trivial)
def Bl:LvQ:=[.int .u64 1,.int .u64 10,.int .u64 100,.int .u64 1000,.int .u64 10000,.int .u64 100000,.int .u64 1000000,.int .u64 10000000,.int .u64 100000000,.int .u64 1000000000,.int .u64 10000000000,.int .u64 100000000000,
 .int .u64 1000000000000,.int .u64 10000000000000,.int .u64 100000000000000,.int .u64 1000000000000000,.int .u64 10000000000000000,.int .u64 100000000000000000,.int .u64 1000000000000000000,.int .u64 10000000000000000000]
def Rj(w:World):Prop:=∃cs e fz,w.heap[oI]?=some (.cells cs e fz)∧20<=cs.size∧Bl=cs.toList.take 20
def H00:AH:=⟨oI,aaF oI⟩
theorem ach{b:Nat}{x:Blk}(h:H00.get b=some x):x=qX:=by
 unfold AH.get at h;split at h
 .exact LN _ _ _ h
 .trivial
theorem start{w:World}(hp:Rj w):∃φ F H,Ly w φ F H∧p6 Y F H:=by
 obtain⟨cs,e,fz,hh,hsz,hcs⟩:=hp
 let φ:bI:=λb=>if b=oI then some ⟨oI,0,20,1,cs.size,true⟩else none
 let H:AH:=H00.push (roB oI 1 Bl)
 have hn:H.n=oI+1:=rfl;have new:H.get oI=some (roB oI 1 Bl):=AH.get_push_new H00 _
 have old:∀{b x},b≠oI->H.get b=some x->x=qX:=λ{b x} hb hx=>by
  grind[H00,AH.get_push,ach]
 have hφ:∀{b p},φ b=some p->b=oI∧p=⟨oI,0,20,1,cs.size,true⟩:=λ{b p} h=>by
  grind
 have ro:∀b x,H.get b=some x->x.wr=false:=λb x hx=>by
  by_cases hb:b=oI
  .subst hb;rw[new]at hx;cases hx;rfl
  .rw[old hb hx];rfl
 have L:Ly w φ (· = oI) H:=by
  refine⟨⟨λg hg=>?_,λb p hp=>?_,λb p x i v hp hx h1 hv=>?_,λb p x i hp hx h1 hi=>?_,λb b' p p' x x' _ _ hx hx' _ _ _ _=>.inl ⟨ro b x hx,ro b' x' hx'⟩⟩,?_,?_,ro,λb p hp=>?_,⟨⟨oI,0,20,1,cs.size,true⟩,by rfl⟩⟩
  .have:g=oI:=by simpa[X]using hg
   exact⟨⟨oI,0,20,1,cs.size,true⟩,by grind,this.symm,rfl⟩
  .grind[roB]
  .obtain⟨rfl,rfl⟩:=hφ hp;rw[new]at hx;cases hx;have hv':Bl[i]?=some v:=hv;refine⟨v,?_,?_⟩
   .grind[cell_of_heap]
   .have hm:v∈Bl:=X5 hv';have:Bl.all plain=true:=rfl
    grind[ak.of_plain]
  .grind
  .refine⟨by rfl,λb x hx=>?_⟩;by_cases hb:b=oI
   .subst hb;rw[new]at hx;cases hx;trivial
   .rw[old hb hx];exact Y8 _
  .rintro c rfl;exact⟨aa,_,new,rfl⟩
  .grind
 refine⟨φ,_,H,L,λg cs' hg=>?_⟩
 have hgp:g=oI∧cs'=LK:=by
  simp only[Y]at hg;split at hg
  .simp_all
  .cases hg
 obtain⟨rfl,rfl⟩:=hgp;refine⟨Xu _,rfl,⟨_,new,rfl,af⟩,Bl,?_,?_⟩
 .rfl
 simp[LK,Bl,RDs,RD]
open Go.ChangeShapes Go.WideShapes Go.ChangeAt Go.RowKit
section
variable{HH:Type}{enc:TypeId×Value->HH}{P:Program}{w:World}{base:Nat}{held:Bool}
theorem M8{v:Value}(h:w.cell? a=some v):∃cs e fz,w.heap[a.block]?=some (.cells cs e fz)∧a.spot=none∧cs[a.off]?=some v:=by
 unfold World.cell? at h;split at h
 .rename_i c e fz hc;split at h
  .cases h
  .rename_i hs;refine⟨c,e,fz,hc,?_,h⟩;cases hq:a.spot with
   |none=>rfl
   |some s=>rw[hq]at hs;simp at hs
 .cases h
theorem addr_add(a:Addr)(hs:a.spot=none)(i:Nat):a.add i=⟨a.block,a.off+i,none⟩:=by
 unfold Addr.add;split
 .rename_i h;subst h;cases a;simp at hs ⊢;exact hs
 .rfl
theorem Iq{vs:LvQ}(h:∀i v,vs[i]?=some v->w.cell? (a.add i)=some v)(hp:0<vs.length):
  ∃cs e fz,w.heap[a.block]?=some (.cells cs e fz)∧a.spot=none∧a.off+vs.length<=cs.size∧vs=(cs.toList.drop a.off).take vs.length:=by
 obtain⟨v0,h0⟩:∃v,vs[0]?=some v:=⟨vs[0],by simp[hp]⟩;obtain⟨cs,e,fz,hc,hs,_⟩:=M8 (h 0 v0 h0);have ha0:a.add 0=a:=by unfold Addr.add;simp
 rw[ha0]at hc hs
 have at_:∀i v,vs[i]?=some v->cs[a.off+i]?=some v:=λi v hv=>by
  obtain⟨cs',e',fz',hc',_,hv'⟩:=M8 (h i v hv);rw[addr_add a hs]at hc' hv';simp only at hc' hv';rw[hc]at hc';cases hc';exact hv'
 have hle:a.off+vs.length<=cs.size:=by
  have hl:=at_ (vs.length-1) vs[vs.length-1] (by rw[List.getElem?_eq_getElem]);have:=(Array.getElem?_eq_some_iff.1 hl).1;omega
 refine⟨cs,e,fz,hc,hs,hle,?_⟩;apply Yi;intro i;by_cases hi:i<vs.length
 .rw[List.getElem?_take_of_lt hi,List.getElem?_drop];have:=at_ i vs[i] (by rw[List.getElem?_eq_getElem hi]);rw[List.getElem?_eq_getElem hi];simpa using this.symm
 .rw[List.getElem?_eq_none aa,List.getElem?_eq_none bi]
end
inductive Sh where
 |int (k:IntKind)
 |bool
 |str
 |sl (e:Sh)
 |ar (n:Nat) (e:Sh)
 |st (fs:List Sh)
variable{s:Sh}
mutual
/-- A type has a shape. -/
def Typ(P:Program):Sh->TypeId->Prop
 |.int k,t=>P.underlying t=some (.int k)∧P.cellsOf t=1
 |.bool,t=>P.underlying t=some .bool∧P.cellsOf t=1
 |.str,t=>P.underlying t=some .string∧P.cellsOf t=1
 |.sl e,t=>∃u,P.underlying t=some (.slice u)∧P.cellsOf t=1∧0<P.cellsOf u∧Typ P e u
 |.ar n e,t=>∃u,P.underlying t=some (.array n u)∧P.cellsOf t=n*P.cellsOf u∧Typ P e u
 |.st fs,t=>∃l:List Field,P.underlying t=some (.struct l.toArray)∧Tk P fs l 0 (P.cellsOf t)
def Tk(P:Program):List Sh->List Field->Nat->Nat->Prop
 |[],l,o,n=>l=[]∧o=n
 |s::ss,l,o,n=>∃f r,l=f::r∧f.offset=o∧Typ P s f.type∧Tk P ss r (o+P.cellsOf f.type) n
end
mutual
/-- Cells of a shape. -/
def Dat:Sh->LdQ->Prop
 |.int k,ds=>∃n,ds=[.int k n]∧(Lit.int k n).wf=true
 |.bool,ds=>∃b,ds=[.bool b]
 |.str,ds=>∃s:LuQ,ds=[.str s]∧s.length<=maxLen
 |.sl e,ds=>∃xs:List LdQ,ds=[.sl xs.length xs.flatten]∧∀x∈xs,Dat e x
 |.ar n e,ds=>∃xs:List LdQ,ds=xs.flatten∧xs.length=n∧∀x∈xs,Dat e x
 |.st ss,ds=>aex ss ds
def aex:List Sh->LdQ->Prop
 |[],ds=>ds=[]
 |s::ss,ds=>∃a b,ds=a++b∧Dat s a∧aex ss b
end
section
variable{HH:Type}{enc:TypeId×Value->HH}{P:Program}{w:World}{base:Nat}{held:Bool}
theorem WDs.append:∀{a b:LdQ}{u v:LvQ},WDs w a u->WDs w b v->WDs w (a++b) (u++v)
 |[],b,u,v,h,h2=>by grind[WDs]
 | x::a,b,u,v,h,h2=>by
  simp only[WDs]at h;obtain⟨y,u,rfl,h0,h1⟩:=h;exact⟨y,u++v,rfl,h0,h1.append h2⟩
theorem WDs.len:∀{a:LdQ}{u:LvQ},WDs w a u->a.length=u.length
 |[],u,h=>by grind[WDs]
 | x::a,u,h=>by
  simp only[WDs]at h;obtain⟨y,u,rfl,_,h1⟩:=h;simp[h1.len]
theorem uT{α:Type}(C:Nat->List α)(n:Nat):∀m,(∀i,i<m->(C i).length=n)->((List.range m).flatMap C).length=m*n∧∀i j,i<m->j<n->((List.range m).flatMap C)[i*n+j]?=(C i)[j]?
 |0,_=>⟨ac,λi j hi=>by omega⟩
 | m+1,h=>by
  obtain⟨h1,h2⟩:=uT C n m λi hi=>h i aa
  have e:(List.range (m+1)).flatMap C=(List.range m).flatMap C++C m:=by simp[Wm]
  rw[e];refine⟨by rw[List.length_append,h1,h m aa,Xt],λi j hi hj=>?_⟩;by_cases him:i<m
  .rw[List.getElem?_append_left,h2 i j him hj];rw[h1]
   calc i*n+j<i*n+n:=aa
    _=(i+1)*n:=by rw[Xt]
    _<=m*n:=Zu n him
  .obtain rfl:i=m:=aa
   simp_all
theorem AS(C:Nat->LvQ)(X:Nat->LdQ):∀m,(∀i,i<m->WDs w (X i) (C i))->WDs w ((List.range m).flatMap X) ((List.range m).flatMap C)
 |0,_=>rfl
 | m+1,h=>by
  simp only[Wm,Yj,List.flatMap_cons,List.flatMap_nil,Zp];exact(AS C X m λi hi=>h i aa).append (h m aa)
theorem Rn{len cap n:Nat}{vs:LvQ}(hn:0<n)(hl:len<=cap)(hlen:vs.length=cap*n)(h:∀i v,vs[i]?=some v->w.cell? (a.add i)=some v)(hd:WDs w ds (vs.take (len*n)))(hds:ds.length=len*n):WD w (.sl len ds) (.slice (some a) len cap):=by
 simp only[WD];by_cases h0:cap=0
 .have e:len=0:=aa
  simp_all
 .have hpos:0<vs.length:=by rw[hlen];exact Xy aa hn
  have hle2:len*n<=vs.length:=by rw[hlen];exact Zu n hl
  obtain⟨cs,e,fz,hc,hs,hle,hvs⟩:=Iq h hpos;refine .inr ⟨a.block,a.off,cap,n,cs,e,fz,?_,hl,hn,hds,hc,aa,?_⟩
  .cases a;grind
  grind
def Opn(enc:TypeId×Value->HH)(P:Program)(w:World)(base:Nat)(held:Bool)(s:Sh):Prop:=
 ∀(t:TypeId)(fuel:Nat)(cs:LvQ)(x:DataW HH×List MemPlace),Typ P s t->DataW.trod enc P w base (λ_=>true) held fuel t cs=some x->cs.length=P.cellsOf t∧∃ds,Dat s ds∧WDs w ds cs
theorem Kb[Inhabited α]{p:Nat->α->Prop}(h:∀i,i<m->∃x,p i x):∃f:Nat->α,∀i,i<m->p i (f i):=
 ⟨λi=>if hi:i<m then Classical.choose (h i hi)else default,λi hi=>by
  grind⟩
theorem adx(ih:Opn enc P w base held s):Opn enc P w base held (.sl s):=by
 intro t fuel cs x ht h;simp only[Typ]at ht;obtain⟨u,hu,hc1,hcu,hs⟩:=ht;rcases Deep.open_slice hu h with⟨rfl,_⟩|⟨a,len,cap,m,n,Dd,Pl,rfl,_,hlc,_,hm,_,hx⟩
 .exact⟨by grind,[.sl 0 []],⟨[],rfl,λx hx=>by cases hx⟩,_,_,rfl,.inl ⟨rfl,rfl,.inl rfl⟩,rfl⟩
 .simp only[if_true]at hm;subst hm;obtain⟨C,hC⟩:=Kb (α:=LvQ) hx
  obtain ⟨E,hE⟩:=Kb (α:=LdQ) (p:=λi e=>Dat s e∧WDs w e (C i)) (m:=m) λi hi=>by
   obtain⟨_,ds,h1,h2⟩:=ih _ _ _ _ hs (hC i hi).2
   grind
  have hCl:∀i,i<m->(C i).length=P.cellsOf u:=λi hi=>(World.cells?_some (hC i hi).1).2.1
  obtain⟨hl1,hl2⟩:=uT C (P.cellsOf u) m hCl;have hEl:∀i,i<m->(E i).length=P.cellsOf u:=λi hi=>by rw[(hE i hi).2.len,hCl i hi]
  refine⟨by grind,[.sl ((List.range len).map E).length ((List.range len).map E).flatten],⟨_,rfl,λx hx=>?_⟩,_,_,rfl,?_,rfl⟩
  .simp only[Zx,Wx]at hx;obtain⟨i,hi,rfl⟩:=hx;exact(hE i aa).1
  .rw[List.length_map,List.length_range,<-List.flatMap_def];refine Rn (vs:=(List.range m).flatMap C) hcu hlc hl1 (λi v hv=>?_) ?_ (uT E (P.cellsOf u) len λi hi=>hEl i aa).1
   .have hi:=(List.getElem?_eq_some_iff.1 hv).1;rw[hl1]at hi;have hdm:=W6 i (P.cellsOf u);have hmod:=Yz i hcu;have hdiv:i/P.cellsOf u<m:=Wv (by grind);have e:i=i/P.cellsOf u*P.cellsOf u+i%P.cellsOf u:=by rw[Zo];exact hdm.symm
    have:=(World.cells?_some (hC _ hdiv).1).2.2 (i%P.cellsOf u) hmod
    grind[Addr.add_add]
   ·have e:((List.range m).flatMap C).take (len*P.cellsOf u)=(List.range len).flatMap C:=by
     have e1:List.range m=List.range len++(List.range (m-len)).map (len + ·):=by
      conv=>lhs;rw[show m=len+(m-len) by omega,List.range_add]
     rw[e1,Yj,Yd];exact(uT C (P.cellsOf u) len λi hi=>hCl i aa).1
    rw[e];exact AS C E len λi hi=>(hE i aa).2
theorem ady{n:Nat}(ih:Opn enc P w base held s):Opn enc P w base held (.ar n s):=by
 intro t fuel cs x ht h;simp only[Typ]at ht;obtain⟨u,hu,hct,hs⟩:=ht;obtain⟨xs,m,_,_,hl,hxl,hx⟩:=DataW.trod_array hu h
 let C:Nat->LvQ:=λi=>(cs.drop (i*P.cellsOf u)).take (P.cellsOf u)
 obtain ⟨E,hE⟩:=Kb (α:=LdQ) (p:=λi e=>Dat s e∧WDs w e (C i)) (m:=n) λi hi=>by
  have:=hx i hi;rw[List.getElem?_eq_getElem aa]at this;obtain⟨_,ds,h1,h2⟩:=ih _ _ _ _ hs this
  grind
 refine⟨hl,((List.range n).map E).flatten,⟨_,rfl,ac,λx hx=>?_⟩,?_⟩
 .grind
 .rw[<-List.flatMap_def]
  have e:∀m,m<=n->cs.take (m*P.cellsOf u)=(List.range m).flatMap C:=by
   intro m
   induction m with
   |zero=>simp
   | succ m ihm=>
    intro hm;rw[Xt,List.take_add,ihm aa];simp[Wm,C]
  have:=e n (Z8 _);rw[Zz aa]at this
  grind[AS]
mutual
theorem opn:∀s:Sh,Opn enc P w base held s
 | .int k=>by
  intro t fuel cs x ht h;simp only[Typ]at ht;obtain⟨n,rfl,_,hw⟩:=DataW.trod_int ht.1 h;exact⟨by grind,[.int k n],⟨n,rfl,hw⟩,_,_,rfl,rfl,rfl⟩
 | .bool=>by
  intro t fuel cs x ht h;simp only[Typ]at ht;obtain⟨b,rfl,_⟩:=DataW.trod_bool ht.1 h;exact⟨by grind,[.bool b],⟨b,rfl⟩,_,_,rfl,rfl,rfl⟩
 | .str=>by
  intro t fuel cs x ht h;simp only[Typ]at ht;obtain⟨s,rfl,_,hs⟩:=DataW.trod_string ht.1 h;exact⟨by grind,[.str s.data.toList],⟨_,rfl,by trivial⟩,_,_,rfl,rfl,rfl⟩
 |.sl e=>adx (opn e)
 |.ar n e=>ady (opn e)
 | .st ss=>by
  intro t fuel cs x ht h;simp only[Typ]at ht;obtain⟨l,hu,hl⟩:=ht;obtain⟨xs,m,_,_,hcl,hxl,hx⟩:=DataW.trod_struct hu h;refine⟨hcl,?_⟩
  have:=afh ss (l:=l) (o:=0) (n:=P.cellsOf t) (fuel:=m) (cs:=cs) hl hcl λf hf=>by
   obtain⟨i,hi⟩:=List.getElem?_of_mem hf;have h1:=hx i f (by grind)
   grind
  trivial
theorem afh:∀(ss:List Sh){l:List Field}{o n fuel:Nat}{cs:LvQ},Tk P ss l o n->cs.length=n ->
  (∀f∈l,∃x,DataW.trod enc P w base (λ_=>true) held fuel f.type ((cs.drop f.offset).take (P.cellsOf f.type))=some x)->∃ds,aex ss ds∧WDs w ds (cs.drop o)
 | [],l,o,n,fuel,cs,ht,hl,h=>by
  simp only[Tk]at ht;refine⟨[],rfl,?_⟩;rw[Y7 aa];rfl
 | s::ss,l,o,n,fuel,cs,ht,hl,h=>by
  simp only[Tk]at ht;obtain⟨f,r,rfl,rfl,h1,h2⟩:=ht;obtain⟨x,hx⟩:=h f ac;obtain⟨_,a,ha,wa⟩:=opn s _ _ _ _ h1 hx;obtain⟨b,hb,wb⟩:=afh ss h2 hl λg hg=>h g (by grind)
  refine⟨a++b,⟨a,b,rfl,ha,hb⟩,?_⟩
  have e:cs.drop f.offset=(cs.drop f.offset).take (P.cellsOf f.type)++cs.drop (f.offset+P.cellsOf f.type):=by
   rw[<-List.drop_drop,Xv]
  grind[WDs.append]
end
inductive Ar where
 |one (x:D)
 |many (xs:LdQ)
def Ar.v:Ar->V
 |.one x=>.d x
 |.many xs=>.agg (xs.map .d)
def WA(w:World):Ar->Value->Prop
 |.one x,v=>WD w x v
 |.many xs,v=>∃ws,v=.agg ⟨ws⟩∧WDs w xs ws
def WAs(w:World):List Ar->LvQ->Prop
 |[],l=>l=[]
 |x::xs,l=>∃v vs,l=v::vs∧WA w x v∧WAs w xs vs
theorem Ut{F1:Nat->Prop}{H1:AH}(φ0:LnQ)(h0:Hp):∀(ds:LdQ)(us:LvQ),RDs F1 H1 ds us->RVs φ0 F1 H1 h0 (ds.map .d) us
 |[],us,h=>by trivial
 | d::ds,us,h=>by
  simp only[RDs]at h;obtain⟨u,us,rfl,h1,h2⟩:=h;exact⟨u,us,rfl,h1,Ut φ0 h0 ds us h2⟩
def RAs(F:Nat->Prop)(H:AH)(rs:List Ar)(us:LvQ):Prop:=∀φ0 h0,RVs φ0 F H h0 (rs.map Ar.v) us
theorem adK:∀(rs:List Ar)(vs:LvQ){φ:bI}{F:Nat->Prop}{H:AH},Ly w φ F H->WAs w rs vs ->
  ∃φ' F' H' us,Ly w φ' F' H'∧uH φ F H φ' F' H'∧am φ' us vs∧RAs F' H' rs us
 |[],vs,φ,F,H,L,h=>⟨φ,F,H,[],L,uH.refl ..,by trivial,λ_ _=>rfl⟩
 | .one x::rs,vs,φ,F,H,L,h=>by
  simp only[WAs,WA]at h;obtain⟨v,vs,rfl,h1,h2⟩:=h;obtain⟨φ1,F1,H1,u,L1,E1,r1,d1⟩:=lay x v L h1;obtain⟨φ2,F2,H2,us,L2,E2,r2,d2⟩:=adK rs vs L1 h2;exact⟨φ2,F2,H2,u::us,L2,E1.trans E2,⟨v,vs,rfl,ak.mono E2.le u v r1,r2⟩,λφ0 h0=>⟨u,us,rfl,RD.mono (E2.leF L1) _ _ d1,d2 φ0 h0⟩⟩
 | .many xs::rs,vs,φ,F,H,L,h=>by
  simp only[WAs,WA]at h;obtain⟨v,vs,rfl,⟨ws,rfl,h1⟩,h2⟩:=h;obtain⟨φ1,F1,H1,us1,L1,E1,r1,d1⟩:=lays xs ws L h1;obtain⟨φ2,F2,H2,us,L2,E2,r2,d2⟩:=adK rs vs L1 h2;exact⟨φ2,F2,H2,.agg ⟨us1⟩::us,L2,E1.trans E2,⟨_,vs,rfl,⟨ws,rfl,am.mono E2.le _ _ r1⟩,r2⟩,λφ0 h0=>⟨_,us,rfl,⟨us1,rfl,Ut φ0 h0 _ _ (RDs.mono (E2.leF L1) _ _ d1)⟩,d2 φ0 h0⟩⟩
theorem Kc{rs:List Ar}{vs:LvQ}{b:Bool}{w:World}(hc:CP Y f (rs.map Ar.v) (.d (.bool b)))(hw:WAs w rs vs)(hp:Rj w)(h0:∀u,Y.X.orc f u=none:=by exact λ_=>rfl):
  Calls X.P f vs.toArray w λe w'=>e=.returned (.bool b)∧w'.os=w.os∧w'.output=w.output∧w.heap.size<=w'.heap.size∧∀c,c<w.heap.size->w'.heap[c]?=w.heap[c]?:=by
 obtain⟨φ,F,H,L,g⟩:=start hp;obtain⟨φ1,F1,H1,us,L1,E1,r1,d1⟩:=adK rs vs L hw;obtain⟨n,wv,H2,F2,hcall,hn,_,_,_,_,_,_,_,hr⟩:=af8 vOk hc F1 H1 us L1.wf L1.fr (g.mono (E1.leF L)) d1
 have hv:wv=.bool b:=by
  have:=hr [] [];simpa only[RV,RD]using this
 subst hv;refine(M9 adA hcall L1.rel (args':=vs.toArray) r1 h0).mono ?_;rintro e w' ⟨φ',v',rfl,h1,h2,h3,h4⟩;have hv':v'=.bool b:=(ak.of_plain (.bool b) rfl v').1 h1;subst hv';refine⟨rfl,h3.os,h3.out,h3.size,λc hc=>h3.frame c hc ?_⟩;rintro⟨b',p,x,_,_,hx,_,hwr⟩
 grind[Ly.ro]
theorem ac2{v:Value}{x:DataW HH×List MemPlace}(ht:Typ P s t)(hc:P.cellsOf t=1)(h:DataW.trod enc P w base (λ_=>true) held fuel t v.cells.toList=some x)(hv:∀cs,v≠.agg cs):
  ∃d,Dat s [d]∧WA w (.one d) v:=by
 obtain⟨hl,ds,h1,h2⟩:=opn s _ _ _ _ ht h
 have hcl:v.cells.toList=[v]:=by
  cases v<;>first|rfl|grind
 rw[hcl]at h2;have:=h2.len;obtain⟨d,rfl⟩:∃d,ds=[d]:=List.length_eq_one_iff.1 this;simp only[WDs]at h2;obtain⟨v',vs',e,h2,_⟩:=h2;simp only[List.cons.injEq]at e;obtain⟨rfl,_⟩:=e;exact⟨d,h1,h2⟩
theorem ZZ{v:Value}{x:DataW HH×List MemPlace}(ht:Typ P s t)(h:DataW.trod enc P w base (λ_=>true) held fuel t v.cells.toList=some x)(hv:∃cs,v=.agg cs):
  ∃ds,Dat s ds∧WA w (.many ds) v:=by obtain⟨hl,ds,h1,h2⟩:=opn s _ _ _ _ ht h;obtain⟨cs,rfl⟩:=hv;exact⟨ds,h1,cs.toList,rfl,h2⟩
theorem NI{P:Program}{base:Nat}{fs:Array Field}{v:Value}(ht:P.underlying t=some (.struct fs))(h:Value.okWide P W .any base t v):∃cs,v=.agg cs:=by grind[Value.okWide]
end
theorem MS{f:α->LdQ}(q:α->Prop)(hs:∀ds,Dat s ds->∃a,ds=f a∧q a){d:D}(h:Dat (.sl s) [d]):∃l:List α,d=.sl l.length (l.flatMap f)∧∀a∈l,q a:=by
 simp only[Dat,List.cons.injEq,and_true]at h;obtain⟨xs,rfl,hx⟩:=h
 have:∀xs:List LdQ,(∀x∈xs,Dat s x)->∃l:List α,xs=l.map f∧∀a∈l,q a:=by
  intro xs
  induction xs with
  |nil=>simp
  | cons x xs ih=>
   intro h;obtain⟨n,rfl,hn⟩:=hs x (h x ac);obtain⟨zs,rfl,hz⟩:=ih λy hy=>h y (by grind)
   exact⟨n::zs,rfl,λm hm=>by grind⟩
 obtain⟨l,rfl,hl⟩:=this xs hx;exact⟨l,by rw[List.length_map,<-List.flatMap_def],hl⟩
def Rk(W W':World):Prop:=W'.os=W.os∧W'.output=W.output∧W.heap.size<=W'.heap.size∧∀c,c<W.heap.size->W'.heap[c]?=W.heap[c]?
section
variable{H:Type}{enc:TypeId×Value->H}{P:Program}
theorem Rk.but(h:Rk W W')(may:MemPlace->Prop):W.keptBut W' may:=by
 refine⟨h.1,h.2.1,λi hi=>?_⟩;rw[h.2.2.2 i hi];cases hq:W.heap[i]? with
 |none=>simp
 |some o=>cases o<;>simp
theorem R8{f:Func}{s:ChangeSpec}{apart fresh handsOn again:Bool}{W W':World}{args:Array Value}{v:Value}{ds gs:List (DataW H)}{before pa pv:List MemPlace}
  (hW:DataW.Whole enc P f.params.toList s.vars apart W args.toList ds gs before)
  (hres:∀(b:Nat)(sp:Nat->Bool)(hd:Bool),DataW.TrodAll enc P W' b sp hd f.resultTypes.toList (v.resultList f.resultTypes.size) (s.fn H (ds++gs)).results [])
  (hargs:∀sp:Nat->Bool,(∀p∈before,sp p.block=true)->DataW.TrodAll enc P W' 0 sp true f.params.toList args.toList (s.fn H (ds++gs)).args pa)
  (hvars:∀sp:Nat->Bool,(∀p∈before,sp p.block=true)->DataW.TrodVars enc P W' sp s.vars (s.fn H (ds++gs)).vars pv)
  (hps:before=pa++pv) (hk:Rk W W')
  (hok:∀(j:Nat)(t:TypeId)(r:Value),f.resultTypes[j]?=some t->(v.resultList f.resultTypes.size)[j]?=some r->Value.okWide P W' .any 0 t r) :
  s.post enc P f apart fresh handsOn again W args v W':=by
 have hold:∀p∈before,(λb=>decide (b<W.heap.size)) p.block=true:=λp hp=>by simpa using hW.lt p hp
 have hlt:=hW.lt;refine⟨ds,gs,before,[],pa,pv,hW,hres _ _ _,hargs _ hold,hvars _ hold,World.keptBut_mono (λp hp=>⟨hp,?_⟩) (hk.but (· ∈ before)),λ_=>?_⟩
 .rw[hps,Xh]at hp;exact Or.inr hp
 .obtain⟨_,_,_,_,_,hz,hn⟩:=hW;refine⟨hok,_,_,([]++pa)++pv,⟨[]++pa,pv,trodAll_append (hargs _ (λ_ _=>rfl)) (hres _ _ _),hvars _ (λ_ _=>rfl),rfl,?_,?_⟩,?_⟩
  .intro b off hp;have hp':MemPlace.cell b off∈before:=by rw[hps];simpa using hp
   have hb:b<W.heap.size:=hlt _ hp';have:=hz b off hp';simp only[World.frozen?]at this ⊢;rw[hk.2.2.2 b hb];exact this
  .intro ha;have:=hn ha;rw[hps]at this;simpa using this
  .intro p hp _;rw[hps];simpa using hp
theorem zk(hl:laidOutB P=true){W W':World}(hk:Rk W W'){sp:Nat->Bool}:∀{ts:List TypeId}{vs:LvQ}{ds:List (DataW H)}{ps:List MemPlace},(∀t∈ts,P.readableRec t=true∧t<P.types.size) ->
  DataW.TrodAll enc P W 0 (λ_=>true) true ts vs ds ps->(∀p∈ps,p.block<W.heap.size)->(∀p∈ps,sp p.block=true)->DataW.TrodAll enc P W' 0 sp true ts vs ds ps
 | [],vs,ds,ps,_,h,_,_=>by
  obtain⟨rfl,rfl,rfl⟩:=trodAll_nil h;exact trodAll_mk0
 | t::ts,vs,ds,ps,hr,h,hlt,hsp=>by
  obtain⟨v,vs',d,ds',p,q,rfl,rfl,rfl,h1,h2⟩:=trodAll_cons h;refine trodAll_cons_mk (WideElems.Trod_stays hl (hr t ac).1 (hr t ac).2 h1 (λx hx=>?_) λx hx=>hsp x (by simp[hx])) (zk hl hk (λu hu=>hr u (by simp[hu])) h2 (λx hx=>hlt x (by simp[hx])) λx hx=>hsp x (by simp[hx]));have hb:=hlt x (by simp[hx]);cases x with
  | cell b off=>
   simp only[World.sameAt,World.cell?];rw[hk.2.2.2 b hb]
  |map b=>exact hk.2.2.2 b hb
end
theorem FB{P:Program}{w:World}:∀{l:List (String×DataW Unit)}{ps:List MemPlace},DataW.LaidVars P w l ps->∀n d,(n,d)∈l ->
  ∃g t cs fuel p,P.globalNamed n=some g∧(P.globals[g]?).map (·.type)=some t∧w.var? P n=some cs∧DataW.trod (λ_=>()) P w 0 (λ_=>true) false fuel t cs.toList=some (d,p)
 |[],_,_,_,_,hm=>by cases hm
 | (n',d')::r,ps,h,n,d,hm=>by
  obtain⟨g,t,cs,fuel,p,q,h1,h2,h3,h4,h5,_⟩:=h;rcases Zw.1 hm with e|e
  .cases e;exact⟨g,t,cs,fuel,p,h1,h2,h3,h4⟩
  .exact FB h5 n d e
def adt:LiQ:=[1,10,100,1000,10000,100000,1000000,10000000,100000000,1000000000,10000000000,100000000000,1000000000000,10000000000000,100000000000000,1000000000000000,10000000000000000,100000000000000000,1000000000000000000,10000000000000000000]
theorem adr{P:Program}{W:World}{name:String}{t e:TypeId}(hg:P.globalNamed name=some oI)(hty:(P.globals[oI]?).map (·.type)=some t)(ht:P.underlying t=some (.array 20 e))(he:P.underlying e=some (.int .u64))(hce:P.cellsOf e=1)(hct:P.cellsOf t=20)
  {l:List (String×DataW Unit)} (hm:(name,Lib.tabData .u64 adt)∈l) (h:laidMet P l W):Rj W:=by
 obtain⟨ps,hv,_⟩:=h;obtain⟨g',t',cs,fuel,p,hg',ht',hvar,hd⟩:=FB hv _ _ hm;obtain rfl:=Option.some.inj (hg.symm.trans hg');obtain rfl:=Option.some.inj (hty.symm.trans ht')
 have tab:Lib.TabIs P W name .u64 adt:=by
  unfold Lib.TabIs;rw[hvar,<-Lib.cells_of_tab ht he hce hct hd]
 have hpv:∀i v,Bl[i]?=some v->W.cell? ((⟨oI,0,none⟩:Addr).add i)=some v:=by
  intro i v hv;have hi:i<20:=(List.getElem?_eq_some_iff.1 hv).1;rw[addr_add _ rfl];have h1:=tab.cell hg i hi;simp only[Zj];rw[h1];have h2:Bl=adt.map λz=>Value.int .u64 z:=rfl
  rw[h2,List.getElem?_map,Z4]at hv;obtain⟨z,hz,rfl⟩:=hv;simp[hz]
 obtain⟨cs,e,fz,h1,_,h2,h3⟩:=Iq (w:=W) (a:=⟨oI,0,none⟩) (vs:=Bl) hpv af;exact⟨cs,e,fz,h1,by simpa[Bl]using h2,by simpa[Bl]using h3⟩
open Go.Proofs Go.Proofs.YtmjcaiaiibdadabGreatDoor
theorem ahv:Tryz.prog.globalNamed "internal/strconv.uint64pow10" = some oI:=by kernel_rfl
theorem WT:(Tryz.prog.globals[oI]?).map (·.type)=some 269:=ag
theorem ac7:Tryz.prog.underlying 269=some (.array 20 188):=ag
theorem ac6:Tryz.prog.underlying 188=some (.int .u64):=ag
theorem YN:Tryz.prog.cellsOf 188=1:=ag
theorem YO:Tryz.prog.cellsOf 269=20:=ag
mutual
/-- Has a type a shape? -/
def Gv(P:Program):Sh->TypeId->Bool
 | .int k,t=>(match P.underlying t with
  |some (.int k')=>decide (k'=k)
  |_=>false)&&Nat.beq (P.cellsOf t) 1
 | .bool,t=>(match P.underlying t with
  |some .bool=>true
  |_=>false)&&Nat.beq (P.cellsOf t) 1
 | .str,t=>(match P.underlying t with
  |some .string=>true
  |_=>false)&&Nat.beq (P.cellsOf t) 1
 | .sl e,t=>(match P.underlying t with
  |some (.slice u)=>Nat.beq (P.cellsOf t) 1&&Nat.blt 0 (P.cellsOf u)&&Gv P e u
  |_=>false)
 | .ar n e,t=>(match P.underlying t with
  |some (.array m u)=>Nat.beq m n&&Nat.beq (P.cellsOf t) (n*P.cellsOf u)&&Gv P e u
  |_=>false)
 | .st fs,t=>(match P.underlying t with
  |some (.struct l)=>Hh P fs l.toList 0 (P.cellsOf t)
  |_=>false)
def Hh(P:Program):List Sh->List Field->Nat->Nat->Bool
 |[],l,o,n=>l.isEmpty&&Nat.beq o n
 | s::ss,l,o,n=>(match l with
  |[]=>false
  |f::r=>Nat.beq f.offset o&&Gv P s f.type&&Hh P ss r (o+P.cellsOf f.type) n)
end
mutual
theorem Ef{P:Program}:∀{s:Sh}{t:TypeId},Gv P s t=true->Typ P s t
 | .int k,t,h=>by
  simp only[Gv,Z7]at h;obtain⟨h1,h2⟩:=h;split at h1
  .rename_i h3;obtain rfl:=of_decide_eq_true h1;exact⟨h3,Zk h2⟩
  .cases h1
 | .bool,t,h=>by
  simp only[Gv,Z7]at h;obtain⟨h1,h2⟩:=h;split at h1
  .rename_i h3;exact⟨h3,Zk h2⟩
  .cases h1
 | .str,t,h=>by
  simp only[Gv,Z7]at h;obtain⟨h1,h2⟩:=h;split at h1
  .rename_i h3;exact⟨h3,Zk h2⟩
  .cases h1
 | .sl e,t,h=>by
  simp only[Gv]at h;split at h
  .rename_i u h3;simp only[Z7]at h;obtain⟨⟨h1,h2⟩,h4⟩:=h;exact⟨u,h3,Zk h1,by have:=h2;simp[Nat.blt]at this;omega,Ef h4⟩
  .cases h
 | .ar n e,t,h=>by
  simp only[Gv]at h;split at h
  .rename_i m u h3;simp only[Z7]at h;obtain⟨⟨h1,h2⟩,h4⟩:=h;obtain rfl:=Zk h1;exact⟨u,h3,Zk h2,Ef h4⟩
  .cases h
 | .st fs,t,h=>by
  simp only[Gv]at h;split at h
  .rename_i l h3;exact⟨l.toList,by rw[h3],Pb h⟩
  .cases h
theorem Pb{P:Program}:∀{ss:List Sh}{l:List Field}{o n:Nat},Hh P ss l o n=true->Tk P ss l o n
 | [],l,o,n,h=>by
  simp only[Hh,Z7,List.isEmpty_iff]at h;exact⟨h.1,Zk h.2⟩
 |s::ss,[],o,n,h=>by simp[Hh]at h
 | s::ss,f::r,o,n,h=>by
  simp only[Hh,Z7]at h;obtain⟨⟨h1,h2⟩,h3⟩:=h;exact⟨f,r,rfl,Zk h1,Ef h2,Pb h3⟩
end
theorem NL{P:Program}{base:Nat}{v:Value}(ht:P.underlying t=some (.slice e))(h:Value.okWide P W .any base t v):∀cs,v≠.agg cs:=by rintro cs rfl;simp only[Value.okWide,ht,Cell.okWide,Cell.ok]at h
theorem wf_u8(h:(Lit.int .u8 n).wf=true):0<=n∧n<=255:=by simp only[Lit.wf,Z7,decide_eq_true_eq]at h;exact h
theorem wf_i8(h:(Lit.int .i8 n).wf=true): -128<=n∧n<=127:=by simp only[Lit.wf,Z7,decide_eq_true_eq]at h;exact h
theorem wf_i64(h:(Lit.int .i64 n).wf=true): -9223372036854775808<=n∧n<=9223372036854775807:=by simp only[Lit.wf,Z7,decide_eq_true_eq]at h;exact h
def afj(x:Int):Prop:=-9223372036854775808<=x∧x<=9223372036854775807
abbrev acp:Sh:=.sl (.int .i64)
theorem abA{d:D}(h:Dat acp [d]):∃l:LiQ,d=row l∧∀x∈l,afj x:=by
 obtain ⟨l,rfl,hl⟩:=MS (f:=λn=>[di n]) afj (λds h=>by
  obtain⟨n,e,hw⟩:=h;exact⟨n,e,wf_i64 hw⟩) h
 exact⟨l,by simp only[row,List.map_eq_flatMap],hl⟩
def ahp:DataW Unit->Value
 |.lit (.int k n)=>.int k n
 |_=>undef
def ade:DataW Unit->Array Value
 |.agg l=>(l.map ahp).toArray
 |_=>#[]
def afO:DataW Unit->Value
 |.iface _ (.ptr (.agg [.lit (.string l)]))=>.string ⟨l.toArray⟩
 |_=>undef
def Ul(cs:Array Value):Obj->Obj
 |.cells _ t frozen=>.cells cs t frozen
 |o=>o
noncomputable def BH(os:Os):World:=
 let w0:=World.holding Tryz.prog os ⟨#[.cells #[afO Rows.laid_strconv_ErrSyntax] 265,.cells #[afO Rows.laid_strconv_ErrRange] 265],#[],[]⟩
 let low:=(World.settled Tryz.prog os).heap.size
 {w0 with heap:=((((w0.heap.modify 0 (Ul #[.iface 263 (.pointer (some ⟨low,0,none⟩))])).modify 1 (Ul #[.iface 263 (.pointer (some ⟨low+1,0,none⟩))])).modify 2 (Ul (ade Rows.laid_internal_strconv_uint64pow10))).modify 3 (Ul (ade Rows.laid_math_bits_deBruijn32tab))).modify 4 (Ul (ade Rows.laid_math_bits_deBruijn64tab))}
def ae8:Sh:=.ar 4 (.int .i8)
def Uj:Sh:=.st [.int .u8,.sl ae8,.bool]
theorem aea(ds:LdQ)(h:Dat ae8 ds):∃x:I4,ds=i4D x∧ok4 x:=by
 obtain⟨xs,rfl,hl,hx⟩:=h
 match xs,hl,hx with
 | [x1,x2,x3,x4],_,hx=>
  obtain⟨a,rfl,ha⟩:=hx x1 ac;obtain⟨b,rfl,hb⟩:=hx x2 ac;obtain⟨c,rfl,hc⟩:=hx x3 ac;obtain⟨d,rfl,hd⟩:=hx x4 ac;exact⟨(a,b,c,d),rfl,wf_i8 ha,wf_i8 hb,wf_i8 hc,wf_i8 hd⟩
theorem YB(h:Dat Uj ds):∃(k:Nat)(e:List I4)(b:Bool),ds=[.int .u8 k,.sl e.length (e.flatMap i4D),.bool b]∧k<256∧∀x∈e,ok4 x:=by obtain⟨a,b,rfl,⟨n,rfl,hn⟩,a',b',rfl,h2,_,_,rfl,⟨c,rfl⟩,rfl⟩:=h;have h2':=h2;obtain⟨xs,rfl,_⟩:=h2';have hb:=wf_u8 hn;obtain⟨e,he,hq⟩:=MS (f:=i4D) ok4 aea h2;exact⟨n.toNat,e,c,by simp only[Zp,List.cons_append,List.nil_append];rw[he,Int.toNat_of_nonneg hb.1],aa,hq⟩
end Go.Vm
