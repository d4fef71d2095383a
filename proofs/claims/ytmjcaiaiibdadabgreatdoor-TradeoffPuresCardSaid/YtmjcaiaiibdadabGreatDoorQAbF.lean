/- Lemmas. -/
import Derived.Test.YtmjcaiaiibdadabGreatDoorQCeY
set_option linter.unusedVariables false
set_option linter.unusedSimpArgs false
namespace Go.Vm
open Go Go.Am Go.Big
variable{k i n E f:Nat}{z div d M:Int}{r x:LiQ}{m:Mz}{s hi:List Q}{o:Nat×Bk}{vals:Bool}{q:Q}
theorem ES{a:Q}(h:okQ a):okQ (mM a):=⟨h.1,by simp only[mM,X0];exact h.2⟩
theorem Jc{a:Q}{K:Nat}(h:qL K a):qL K (mM a):=⟨by simp only[mM,X0];exact h.1,h.2⟩
theorem SJ{a:Q}(la:qL 100000 a):CP Y F.oi [.agg (qT a)] (.agg (qT (mM a))):=by refine FT ?_;have n1:=zJ (z:=a.1) (by have:=la.1;omega);simp only[oi,qT,mM];simp;refine cd n1 ?_;simp;simp[mf]
theorem BQ{a b:Q}(ha:okQ a)(hb:okQ b)(la:qL 50000 a)(lb:qL 50000 b):CP Y F.j6 [.agg (qT a),.agg (qT b)] (.agg (qT (fw a (mM b)))):=by
 refine FR ?_;have n1:=SJ (a:=b) (lb.mono aa);have n2:=F6 ha (ES hb) (la.mono aa) ((Jc lb).mono aa);obtain⟨x,y,hxy⟩:∃x y,qT (fw a (mM b))=[S x,S y]:=⟨_,_,rfl⟩;obtain⟨x2,y2,hxy2⟩:∃x y,qT (mM b)=[S x,S y]:=⟨_,_,rfl⟩;rw[hxy,hxy2]at n2;rw[hxy2]at n1;rw[hxy];simp only[qT]at n1 n2 ⊢;simp only[j6];simp
 refine cd n1 ?_ (by rfl);simp;refine cd n2 ?_ (by rfl);simp;simp[mf]
theorem EE{p:LiQ}{k:Q}(hp:pcB p=0)(h0:0<p.length)(hN:p.length<1000)(hk:okQ k∧qL 30 k)(hr:okS (pJ p.length [kN p.length] [k])):CP Y F.fc [lst di p,.agg (qT k)] (.tup [szV (pJ p.length [kN p.length] [k]),I 0]):=by refine zl ?_;have a1:=SS (p:=p) hp aa h0;have a2:=Um (p:=p) (s:=kN p.length) (k:=k) hp aa (by grind[kN]) (OC _) hk hr;simp only[qT]at a2 ⊢;simp only[fc];simp;refine cd a1 ?_;simp;refine cd a2 ?_ (by rfl);simp;exact⟨_,rfl⟩
def js(r:LiQ)(div:Int)(i:Nat)(x:Int):Q:=if i=0 then rP (fw (x,1) (mM (de (nth 0 r 0) div))) (nth 0 r 1,1)else rP (x,1) (nth 0 r 1,1)
def fP(r:LiQ)(div:Int):Nat->LiQ->List Q
 |_,[]=>[]
 |i,x::q=>js r div i x::fP r div (i+1) q
theorem Bj(r:LiQ)(div:Int):∀(i:Nat)(a:LiQ)(x:Int),fP r div i (a++[x])=fP r div i a++[js r div (i+a.length) x]
 |i,[],x=>by rfl
 | i,y::a,x=>by
  simp only[List.cons_append,fP,Bj r div (i+1) a x,List.length_cons];rw[show i+1+a.length=i+(a.length+1) by omega]
theorem mC(r:LiQ)(div:Int):∀(i:Nat)(a:LiQ),(fP r div i a).length=a.length
 |_,[]=>rfl
 |i,_::a=>by simp[fP,mC r div (i+1) a]
def prA:Acc:=⟨4,0,2,.none⟩
def prC(s:List Q):LdQ:=(s.map tx).flatMap aE
theorem rQ(s:List Q):(prC s).length=s.length*2:=by rw[prC,eW aE aN,List.length_map]
theorem Do(s:List Q)(k:Q):prC (s++[k])=prC s++aE (tx k):=by simp[prC]
def prV(s:List Q):V:=if s=[]then .ref 1 1 0 0 0 0 else prA.v s.length (prC s)
def prH(by_:Q)(s:List Q):Hp:=[(1,.vars (qT by_)),(1,.data 2 [] true false),nnQ,nnQ,prA.b s.length (prC s)]
theorem adq{s:List Q}{k b:Q}{s2 s3:Nat×Bk}{q:kkQ}{u:PU q}(hn:s.length<1000)
  (hq:q (prV (s++[k])) [(1,.vars (qT b)),(1,.data 2 [] true false),s2,s3,prA.b (s.length+1) (prC (s++[k]))]) :
  rh (apV false 4 2 32 (prV s) (.d (.sl 1 (aE (tx k)))) [(1,.vars (qT b)),(1,.data 2 [] true false),s2,s3,prA.b s.length (prC s)]) q u:=by
 by_cases e:s=[]
 .subst e;trivial
 .rw[prV,if_neg e];refine md prA (by_:=32) (k:=1) (cs:=aE (tx k)) aa rfl (by rw[rQ];rfl) rfl rfl (by grind) aa af ?_
  simp_all[prV,prA,Do]
theorem tK(h : -1000000000<=z∧z<=1000000000):okQ (z,1)∧qL 30 (z,1):=Fb z aa aa
theorem JV(h : -1000000000<=z∧z<=1000000000):CP Y F.dT [I z,I 1] (.tup [.agg (qT (z,1)),I 0]):=by
 have:=uz (n:=z) (d:=1) af aa aa af af
 grind[Fo]
theorem PS{r x:LiQ}{div:Int}(hr2:2<=r.length)(hr:bd9 r)(h1:nth 0 r 1≠0)(hd:div≠0)(hdb : -1000000000<=div∧div<=1000000000)(hx:bd9 x)(hn:x.length<1000)(h0:Hp)(hh0:∃a b c d e,h0=[a,b,(0,c),(0,d),e])(K:KL) :
  ∀(q a:LiQ),x=a++q->K (.exit 0) [prV (fP r div 0 x)] (prH (nth 0 r 1,1) (fP r div 0 x)) ->
  lp (kS (CX Y) (lst di r) (I div) (.ptr 0 1 0 2) (lst di x) (I x.length)) [2,3] h0 [prV (fP r div 0 a),I a.length] (prH (nth 0 r 1,1) (fP r div 0 a)) K
 | [],a,e,hK=>by
  simp only[Zp]at e;subst e;refine aj ?_;have hlt:¬((x.length:Int)<(x.length:Int)):=aa;simp only[kS];simp[hlt];exact hK
 | z::q,a,e,hK=>by
  refine aj ?_;have hlt:((a.length:Int)<(x.length:Int)):=by rw[e];simp;omega
  have hal:a.length<x.length:=aa;have hz:=hx z (by grind);have i1:∀h:Hp,ixV h 1 (lst di x) (I a.length)=some (.dptr (x.map di) a.length):=λh=>by simp_all
  have i2:∀h:Hp,ld1 h (.dptr (x.map di) a.length)=some (I z):=λh=>by
   simp_all
  have hr1 : -1000000000<=nth 0 r 1∧nth 0 r 1<=1000000000:=hr _ (fG aa);have hr0 : -1000000000<=nth 0 r 0∧nth 0 r 0<=1000000000:=hr _ (fG aa);have j1:∀h:Hp,ixV h 1 (lst di r) (.d (.int .i64 0))=some (.dptr (r.map di) 0):=λh=>d8 di r h rfl aa
  have j2:∀h:Hp,ld1 h (.dptr (r.map di) 0)=some (I (nth 0 r 0)):=λh=>eH di 0 r h aa
  obtain⟨s,hs⟩:=nmQ (fP r div 0 a);have hsl:s.length=a.length:=by rw[hs,mC]
  have hsn:s.length<1000:=aa;have eG:fP r div 0 (a++[z])=s++[js r div a.length z]:=by rw[Bj,<-hs,Zj]
  have o1:=tK hz;have o2:=tK hr1;rw[<-hs];simp only[prH,qT];simp only[kS];simp[hlt,i1,i2];refine cd (JV hz) ?_;simp only[qT];simp;obtain⟨A,B',c0,d0,E,rfl⟩:=hh0
  have main:∀(kq:Q)(s3:Nat×Bk),okQ kq->qL 50001 kq->js r div a.length z=rP kq (nth 0 r 1,1)->(s3=nnQ∨∃y:Q,s3=(1,.vars (qT y))) ->
    (bnd (ldA [(1,Bk.vars (qT (nth 0 r 1,1))),(1,Bk.data 2 [] true false),(1,Bk.vars (qT kq)),s3,prA.b s.length (prC s)] 2 (V.ptr 2 1 0 2)) λv12=>
    bnd (ldA [(1,Bk.vars (qT (nth 0 r 1,1))),(1,Bk.data 2 [] true false),(1,Bk.vars (qT kq)),s3,prA.b s.length (prC s)] 2 (V.ptr 0 1 0 2)) λv13=>
     cal (CX Y).p [(1,Bk.vars (qT (nth 0 r 1,1))),(1,Bk.data 2 [] true false),(1,Bk.vars (qT kq)),s3,prA.b s.length (prC s)] (V.fn F.gS [] []) [v12,v13] λv14 h=>
      ext v14 0 λv15=>
       ext v14 1 λv16=>
        stD h 2 (V.ptr 2 1 0 2) v15 λx_1 h=>
         bnd (ldA h 2 (V.ptr 2 1 0 2)) λv18=>
          cY 1 [D.str [],D.str []] [(0,v18)] h λv19 h=>
           apV false 4 2 32 (prV s) v19 h λv20 h=>
            bnd (biI BinOp.add (I ↑a.length) (V.d (D.int IntKind.i64 1))) λv21=>
             clean [2,3] [v20,v21] h=true ∧
              lp (kS (CX Y) (lst di r) (I div) (V.ptr 0 1 0 2) (lst di x) (I ↑x.length))
               [2,3] [A,B',(0,c0),(0,d0),E] [v20,v21] (aL [2,3] 0 [A,B',(0,c0),(0,d0),E] h) K):=by
   intro kq s3 k1 k2 k3 k4;have dv:=FZ k1 o2.1 aa (k2.mono aa) (o2.2.mono aa);rw[<-k3]at dv;obtain⟨kk,hkk⟩:=nmQ (js r div a.length z);rw[<-hkk]at dv eG;simp only[qT]at dv ⊢;simp;refine cd dv ?_ (by rfl)
   have hli:∀h:Hp,dX 1 [D.str [],D.str []] [(0,.agg [V.d (.str (itoa kk.1)),V.d (.str (ah kk.2))])] h=some (aE (tx kk),h):=λh=>Mk kk h
   simp[hli];refine adq (s:=s) (k:=kk) (b:=(nth 0 r 1,1)) hsn ?_;have ih:=PS hr2 hr h1 hd hdb hx hn [A,B',(0,c0),(0,d0),E] ⟨A,B',c0,d0,E,rfl⟩ K q (a++[z]) (by simp[e]) hK;have e4:((a++[z]).length:Int)=(a.length:Int)+1:=ac;rw[e4,eG]at ih;have ev:prV (s++[kk])=.ref 4 1 0 (s.length+1) (s.length+1) (prC (s++[kk])).length:=by simp[prV,prA,Acc.v]
   have cl:clean [2,3] [prV (s++[kk]),I ((a.length:Int)+1)] [(1,Bk.vars (qT (nth 0 r 1,1))),(1,Bk.data 2 [] true false),(1,Bk.vars (qT kk)),s3,prA.b (s.length+1) (prC (s++[kk]))]=true:=by
    rw[ev];rcases k4 with rfl|⟨y,rfl⟩<;>rfl
   have rs:aL [2,3] 0 [A,B',(0,c0),(0,d0),E] [(1,Bk.vars (qT (nth 0 r 1,1))),(1,Bk.data 2 [] true false),(1,Bk.vars (qT kk)),s3,prA.b (s.length+1) (prC (s++[kk]))]=prH (nth 0 r 1,1) (s++[kk]):=by
    rw[prH,List.length_append];obtain⟨A1,A2⟩:=A;obtain⟨B1,B2⟩:=B';obtain⟨E1,E2⟩:=E;obtain⟨S1,S2⟩:=s3;rfl
   have ea:biI BinOp.add (I (a.length:Int)) (V.d (D.int IntKind.i64 1))=some (I ((a.length:Int)+1)):=by simp(disch:=try exact ae)
   rw[ea];refine⟨cl,?_⟩;rw[<-rs]at ih;exact ih
  by_cases e0:a=[]
  .refine aH ?_;have fo:=uz (n:=nth 0 r 0) (d:=div) hd aa aa aa aa;have lz:=m5 (n:=nth 0 r 0) hd;have lL:qL 30 (de (nth 0 r 0) div):=BB (Zy (pP aa aa) af) (Zy (pP aa aa) af);have sb:=BQ o1.1 lz (o1.2.mono aa) (lL.mono aa)
   have m1:=main (fw (z,1) (mM (de (nth 0 r 0) div))) (1,.vars (qT (de (nth 0 r 0) div))) (Je o1.1 (ES lz)) ((N0 o1.2 (Jc lL)).mono aa) (by simp[js,e0]) (.inr ⟨_,rfl⟩);generalize de (nth 0 r 0) div=w1 at *;generalize fw (z,1) (mM w1)=w2 at *;simp only[qT]at fo sb m1;simp[e0,j1,j2];refine cd fo ?_;simp;refine cd sb ?_ (by rfl);simp;exact m1
  .refine aH ?_;have m1:=main (z,1) nnQ o1.1 (o1.2.mono aa) (by simp[js,e0]) (.inl rfl);simp only[qT]at m1;simp[e0];exact m1
theorem pure_ok{p:LiQ}(hp:pcB p=0)(hl:x.length=p.length)(hr2:2<=r.length)(hr:bd9 r)(h1:nth 0 r 1≠0)(hd:div≠0)(hdb : -1000000000<=div∧div<=1000000000)(hx:bd9 x)(hn:x.length<1000)(h0:x≠[])(ho:okS (fP r div 0 x)):
  CP Y F.gM [lst di p,lst di x,lst di r,I div] (.tup [szV (fP r div 0 x),B true,I 0]):=by
 refine vF ?_;have j1:∀h:Hp,ixV h 1 (lst di r) (.d (.int .i64 1))=some (.dptr (r.map di) 1):=λh=>d8 di r h rfl aa
 have j2:∀h:Hp,ld1 h (.dptr (r.map di) 1)=some (I (nth 0 r 1)):=λh=>eH di 0 r h aa
 have hr1 : -1000000000<=nth 0 r 1∧nth 0 r 1<=1000000000:=hr _ (fG aa);have fo:=JV hr1;have hli:∀h:Hp,dX 0 [D.str [],D.str []] [] h=some ([],h):=λh=>by rfl
 have l1:aQ (lst di x)=some (I x.length):=rfl;have ck:=xH (p:=p) (s:=fP r div 0 x) hp aa (by rw[mC,hl]) ho;simp only[qT]at fo;simp only[gM];simp[j1,j2,h1];refine cd fo ?_;simp[hli,l1];have lp0:=PS hr2 hr h1 hd hdb hx hn [(1,.vars [S (itoa (nth 0 r 1)),S (ah 1)]),(1,Bk.data 2 [] true false),nnQ,nnQ,nnQ] ⟨_,_,_,_,_,rfl⟩
 refine lo (lp0 _ x [] rfl ?_);simp;obtain⟨s,hs⟩:=nmQ (fP r div 0 x);have hsl:s.length=x.length:=by rw[hs,mC]
 rw[<-hs]at ck ⊢;have hs0:s≠[]:=λe=>h0 (by grind)
 obtain⟨h',e1,_⟩:=nN prA (L:=s.length) (cells:=prC s) (h:=prH (nth 0 r 1,1) s) rfl (rQ s)
 have e2:cO (prH (nth 0 r 1,1) s) (prV s)=some (szV s,h'):=by
  rw[prV,if_neg hs0,e1];simp[szV,jX,prC]
 refine sX (ds:=[lst di p,szV s]) (h':=h') ?_ ck ?_
 .simp_all[aT]
 .rw[show(if cD (I 0)=true then prH (nth 0 r 1,1) s else h')=prH (nth 0 r 1,1) s from rfl];simp
  simp_all[jt]
def nuA:Acc:=⟨1,0,2,.none⟩
theorem aaQ(a:LiQ)(z:Int):ofQ (a++[z])=ofQ a++[(z,1)]:=by simp[ofQ]
theorem tn(a:LiQ):(ofQ a).length=a.length:=by simp[ofQ]
theorem Qd{r:LiQ}(hr:bd9 r)(hn:r.length<1000)(x0 y0:Bk)(K:KL):∀(q a:LiQ),r=a++q->K (.exit 0) [nuA.v r.length (prC (ofQ r))] [nnQ,nuA.b r.length (prC (ofQ r))] ->
  lp (mV (CX Y) (lst di r) (I r.length)) [0] [(0,x0),(0,y0)] [nuA.v a.length (prC (ofQ a)),I a.length] [nnQ,nuA.b a.length (prC (ofQ a))] K
 | [],a,e,hK=>by
  simp only[Zp]at e;subst e;refine aj ?_;have hlt:¬((r.length:Int)<(r.length:Int)):=aa;simp only[mV];simp(disch:=try exact ae)[hlt];exact hK
 | z::q,a,e,hK=>by
  refine aj ?_;have hlt:((a.length:Int)<(r.length:Int)):=by rw[e];simp;omega
  have hal:a.length<r.length:=aa;have hz:=hr z (by rw[e];simp);have i1:∀h:Hp,ixV h 1 (lst di r) (I a.length)=some (.dptr (r.map di) a.length):=λh=>by rw[e];exact vh di a z q _ _
  have i2:∀h:Hp,ld1 h (.dptr (r.map di) a.length)=some (I z):=λh=>by
   rw[k8 di r _ hal];simp only[e,Zl (Z8 _),Ze,Zh];rfl
  have lq:∀H,dX 1 [D.str [],D.str []] [(0,.agg (qT (z,1)))] H=some (aE (tx (z,1)),H):=λH=>Mk _ H
  have ih:=Qd hr hn x0 y0 K q (a++[z]) (by rw[e];simp) hK;have ee:prC (ofQ (a++[z]))=prC (ofQ a)++aE (tx (z,1)):=by rw[aaQ,Do]
  rw[List.length_append,List.length_singleton,ee]at ih;have e4:((a.length+1:Nat):Int)=(a.length:Int)+1:=aa;rw[e4]at ih;simp only[qT]at lq;simp only[mV];simp(disch:=try exact ae)[hlt,i1,i2];refine cd (JV hz) ?_;simp only[qT];simp(disch:=try exact ae)[lq]
  refine md nuA (by_:=32) (k:=1) (cs:=aE (tx (z,1))) aa rfl (by rw[rQ,tn];rfl) rfl rfl (by intro t ht;cases ht) aa af ?_;simp(disch:=try exact ae);rw[<-List.length_append];exact⟨rfl,ih⟩
theorem Fa(hr:bd9 r)(hn:r.length<1000):CP Y F.jj [lst di r] (szV (ofQ r)):=by
 refine AW ?_;have l1:aQ (lst di r)=some (I r.length):=rfl;simp only[jj];simp(disch:=try exact ae)[l1];refine lo (Qd hr hn _ _ _ r [] rfl ?_);simp(disch:=try exact ae);have ll:((ofQ r).map tx).length=r.length:=by simp[ofQ]
 have:=xL nuA (L:=r.length) (cells:=prC (ofQ r)) (h:=[nnQ,nuA.b r.length (prC (ofQ r))]) rfl (by rw[rQ,tn];rfl);simpa[szV,jX,prC,ll]using this
theorem LC(a b:Nat):((List.replicate a zT++List.replicate b ef).flatMap aE).length=(a+b)*2:=by rw[eW aE aN];simp
theorem abn(t:Tx){m:Nat}(h:m<=i):((List.replicate i t).flatMap aE).take (m*2)=(List.replicate m t).flatMap aE:=by obtain⟨d,rfl⟩:=Nat.exists_eq_add_of_le h;rw[<-List.replicate_append_replicate,Yj,List.take_append_of_le_length (by rw[eW aE aN];simp),Zz (by rw[eW aE aN];simp)]
theorem abo(t:Tx){m:Nat}(h:m<=i):((List.replicate i t).flatMap aE).drop (m*2)=(List.replicate (i-m) t).flatMap aE:=by obtain⟨d,rfl⟩:=Nat.exists_eq_add_of_le h;rw[<-List.replicate_append_replicate,Yj,List.drop_append_of_le_length (by rw[eW aE aN];simp),List.drop_of_length_le (by rw[eW aE aN];simp),List.nil_append,Nat.add_sub_cancel_left]
theorem BP(t:Tx)(i:Nat):((List.replicate i t).flatMap aE).length=i*2:=by rw[eW aE aN,Zb]
@[simp ↓] theorem ahA (h:Hp)(n:Nat)(x y:V)(k:kkQ):cpD h n x y k=rh (cpD h n x y) k .mk:=id rfl
theorem YI{h:Hp}{n i r j m cap:Nat}(hi:i+r=n)(hm:min j r=m)(m0:0<m){y:V}(hy:cellsOf (hz h (List.replicate i zT++List.replicate r ef)) y=some (j,(List.replicate j zT).flatMap aE)){k:kkQ}{u:PU k}
  (hk:k (I m) (hz h (List.replicate (i+m) zT++List.replicate (r-m) ef))):rh (cpD (hz h (List.replicate i zT++List.replicate r ef)) 2 (.ref h.length 1 (i*2) r cap (n*2)) y) k u:=by
 show cpD _ 2 _ y k
 have hl:((List.replicate i zT++List.replicate r ef).flatMap aE).length=n*2:=by rw[LC,hi]
 have mj:m<=j:=aa;have mr:m<=r:=aa;unfold cpD;simp only[dJ (FJ h _),hy,hm];rw[if_pos ⟨⟨m0,by trivial,aa,by trivial⟩,hl.symm,BP _ _,by rw[hl];omega⟩];have a1:=BP zT i
 have p1:List.take (i*2) ((List.replicate i zT++List.replicate r ef).flatMap aE)=(List.replicate i zT).flatMap aE:=by
  rw[Yj,List.take_append_of_le_length aa,Zz aa]
 have p2:List.drop (i*2) ((List.replicate i zT++List.replicate r ef).flatMap aE)=(List.replicate r ef).flatMap aE:=by
  rw[Yj,List.drop_append_of_le_length aa,List.drop_of_length_le aa,List.nil_append]
 have e:(List.take (i*2) ((List.replicate i zT++List.replicate r ef).flatMap aE)++List.take (m*2) ((List.replicate j zT).flatMap aE)++List.drop (i*2+m*2) ((List.replicate i zT++List.replicate r ef).flatMap aE))=(List.replicate (i+m) zT++List.replicate (r-m) ef).flatMap aE:=by
  rw[p1,abn zT mj,<-List.drop_drop,p2,abo ef mr,Yj,<-List.replicate_append_replicate,Yj]
 rw[e];have:=Oq h (List.replicate i zT++List.replicate r ef) (List.replicate (i+m) zT++List.replicate (r-m) ef);rw[bY,this];exact hk
theorem Co{h:Hp}{n:Nat}(hn:n<10)(K:KL)(h0:Hp):∀(f i r:Nat),r<=f->0<i->i+r=n->K (.exit 0) [] (hz h (List.replicate n zT)) ->
  lp (bA (CX Y) h.length (.ref h.length 1 0 n n (n*2))) [] h0 [I i] (hz h (List.replicate i zT++List.replicate r ef)) K
 | f,i,0,hf,hi0,hi,hK=>by
  have:i=n:=aa;subst this;refine aj ?_;have l1:aQ (.ref h.length 1 0 i i (i*2))=some (I i):=rfl;have hlt:¬((i:Int)<(i:Int)):=aa;simp only[bA];simp(disch:=try exact ae)[l1,hlt];simpa using hK
 |0,i,r+1,hf,hi0,hi,hK=>by omega
 | f+1,i,r+1,hf,hi0,hi,hK=>by
  refine aj ?_;have l1:aQ (.ref h.length 1 0 n n (n*2))=some (I n):=rfl;have hlt:((i:Int)<(n:Int)):=aa;simp only[bA];have hl:((List.replicate i zT++List.replicate (r+1) ef).flatMap aE).length=n*2:=by rw[LC,hi]
  have hg:=dJ (FJ h (List.replicate i zT++List.replicate (r+1) ef))
  have s1:slV (hz h (List.replicate i zT++List.replicate (r+1) ef)) 2 (V.ref h.length 1 0 n n (n*2)) (some (I i)) none=some (.ref h.length 1 (i*2) (r+1) (r+1) (n*2)):=by
   have b1:boV 0 n (some (I (i:Int)))=some i:=by
    show(if(0:Int)<=i∧(i:Int)<=(n:Int)then some (i:Int).toNat else none)=_
    rw[if_pos ⟨aa,aa⟩,Int.toNat_natCast]
   simp only[slV,hg,boV,b1]
   show(match boV 0 n (some (I (i:Int)))with|some i=>_|none=>none)=_
   rw[b1];simp only;rw[if_pos ⟨hl.symm,Z8 _,by trivial⟩,Zj,show n-i=r+1 by omega]
  have s2:slV (hz h (List.replicate i zT++List.replicate (r+1) ef)) 2 (V.ref h.length 1 0 n n (n*2)) none (some (I i))=some (.ref h.length 1 0 i n (n*2)):=by
   have b1:boV n n (some (I (i:Int)))=some i:=by
    show(if(0:Int)<=i∧(i:Int)<=(n:Int)then some (i:Int).toNat else none)=_
    rw[if_pos ⟨aa,aa⟩,Int.toNat_natCast]
   simp only[slV,hg,b1]
   show(match boV 0 i none with|some i'=>_|none=>none)=_
   rw[show boV 0 i none=some 0 from rfl];simp only;rw[if_pos ⟨hl.symm,Z8 _,by trivial⟩];simp
  have hc:cellsOf (hz h (List.replicate i zT++List.replicate (r+1) ef)) (.ref h.length 1 0 i n (n*2))=some (i,(List.replicate i zT).flatMap aE):=by
   simp only[cellsOf,hg];rw[if_pos ⟨hl.symm,by rw[hl];omega⟩,Yn,Yj,List.take_append_of_le_length (by rw[BP];exact Z8 _),Zz (by rw[BP];exact Z8 _)]
  simp(disch:=try exact ae)[l1,hlt,s1,s2];refine YI (m:=min i (r+1)) hi rfl aa hc ?_;obtain⟨m,hm⟩:=nmQ (min i (r+1));rw[<-hm];have ih:=Co hn K h0 f (i+m) (r+1-m) aa aa aa hK;simp(disch:=try exact ae);rw[Int.natCast_add]at ih;rw[dh];exact lo ih
theorem R2{h:Hp}(hu:(h.all λx=>ax h.length x.2)=true)(h1:0<n)(hn:n<10):CI Y F.aM [.d (.sl 1 (aE zT)),I n] h (.new 2 ((List.replicate n zT).flatMap aE) true n n) h:=by
 refine nS ?_;have mu:=Sn (n:=n) hn;have nn:¬((n:Int)<0):=aa;simp only[aM];have w1:IntKind.u64.wrap (n:Int)=n:=wrap_u64 aa;have v1:aQ (.d (.sl 1 (aE zT)))=some (I 1):=rfl;have v2:cvI IntKind.u64 (I 1)=some (.d (.int .u64 1)):=rfl;simp(disch:=try exact ae)[nn];refine aH ?_;rw[w1]
 simp(disch:=try exact ae)[v1,v2];refine cd mu ?_ (by rfl);simp(disch:=try exact ae);refine aH ?_;simp(disch:=try exact ae);refine VG (e:=0) (b:=.none) ac aa ?_
 have e0:(h++[(0,Bk.none)]).set h.length (0+1,.data 2 ((List.replicate n ef).flatMap aE) true false)=hz h (List.replicate 0 zT++List.replicate n ef):=by simp[hz]
 rw[e0]
 have c1:=YI (h:=h) (n:=n) (i:=0) (r:=n) (j:=1) (m:=1) (cap:=n) (y:=.d (.sl 1 (aE zT))) (k:=λv18 h_2=>
    lp (bA (CX Y) h.length (.ref h.length 1 0 n n (n*2))) [] h_2 [v18] h_2
     (exK [(Exit.exit 0,λl19 h_3=>mN h.length (V.new 2 (List.flatMap aE (List.replicate n zT)) true n n) h (.ref h.length 1 0 n n (n*2)) h_3)])) (u:=.mk) aa aa aa (by simp[cellsOf]) ?_
 .exact c1
 refine Co hn _ _ n 1 (n-1) aa aa aa ?_;have hfl:=BP zT n;refine⟨by simp[hz],?_,.inr (.inr (.inl ⟨h.length,1,n,n,2,(List.replicate n zT).flatMap aE,true,by rw[hfl],Z8 _,?_,rfl⟩))⟩
 .simp only[hz,Za,hu,Yu]
 .simp[hz,aw]
theorem Q1{h:Hp}{s fs:List Q}{k:Q}{i:Nat}(hi:i<fs.length)(hki:nth ([],[]) (fs.map tx) i=tx k)(hf:fs.length<1000000)(hN:s.length<1000000){Ko Ks Kk:Nat}(hk:okQ k)(lk:qL Kk k)
  (b1:Ko<=100000) (b2:Ks+Kk<=100000) (h0:Hp) (kk:KL):∀(q a oq a':List Q),a++q=s->a'.length=a.length->oq.length=q.length->okK Ko oq->okK Ks q->kk (.exit 2) [] (hz h ((a'++rU k oq q).map tx)) ->
  lp (mW (CX Y) h.length (szV fs) (.ref h.length 1 0 s.length s.length (s.length*2)) (I i) (szV s) (I s.length)) [] h0 [I a.length] (hz h ((a'++oq).map tx)) kk
 | [],a,oq,a',ha,h1,h2,ho,hs,hkk=>by
  simp only[Zp]at ha;simp only[List.length_nil]at h2;have h2':oq=[]:=Zn h2;subst ha h2';have hlt:¬((a.length:Int)<(a.length:Int)):=aa;refine aj ?_;simp only[mW];simp(disch:=try exact ae)[hlt];simpa[rU]using hkk
 |x::q,a,[],a',ha,h1,h2,ho,hs,hkk=>by simp at h2
 | x::q,a,y::oq,a',ha,h1,h2,ho,hs,hkk=>by
  have hal:a.length<s.length:=by subst ha;simp
  obtain⟨o1,o2⟩:=ho y ac;obtain⟨s1,s2⟩:=hs x ac;have hlen:((a'++y::oq).map tx).length=s.length:=by subst ha;simp at h2 ⊢;omega
  have mul:=MF s1 hk (s2.mono aa) (lk.mono aa);have add:=F6 o1 (Jd s1 hk) (o2.mono b1) ((NZ s2 lk).mono aa);have g1:(a.length:Int)<(s.length:Int):=aa;have hx:nth ([],[]) (s.map tx) a.length=tx x:=by subst ha;exact oJ ..
  have hy:nth ([],[]) ((a'++y::oq).map tx) a.length=tx y:=by rw[<-h1];exact oJ ..
  have i1:=λh:Hp=>oU aE aN (s.map tx) h (k:=.i64) (i:=(a.length:Int)) aa (by grind)
  have i2:=λh:Hp=>oR aE aN ([],[]) (s.map tx) h (j:=a.length) (by grind)
  have j1:=λh:Hp=>oU aE aN (fs.map tx) h (k:=.i64) (i:=(i:Int)) aa (by grind)
  have j2:=λh:Hp=>oR aE aN ([],[]) (fs.map tx) h (j:=i) (by grind)
  simp only[hx,hki,Int.toNat_natCast]at i1 i2 j1 j2;have hg:=FJ h ((a'++y::oq).map tx);have e1:=ixR hg hlen (c:=a.length) hal .i64;have e2:=ldR hg hlen (c:=a.length) hal;have e3:=stR hg hlen (c:=a.length) hal (tx (fw y (oB x k)))
  have es:((a'++y::oq).map tx).set a.length (tx (fw y (oB x k)))=((a'++[fw y (oB x k)])++oq).map tx:=by
   have:=I8 (a'.map tx) (tx y) (tx (fw y (oB x k))) (oq.map tx);rw[List.length_map,h1]at this;simpa using this
  simp only[hy,es,Oq]at e2 e3;have ih:=Q1 (h:=h) hi hki hf hN hk lk b1 b2 h0 kk q (a++[x]) oq (a'++[fw y (oB x k)]) (by grind) (by grind) (by grind) (λw hw=>ho w (by grind)) (λw hw=>hs w (by grind)) (by simpa[rU]using hkk);have e4:(((a++[x]).length:Nat):Int)=(a.length:Int)+1:=ac;rw[e4]at ih;simp only[qT]at mul add
  obtain⟨w1,w2,hw⟩:∃w1 w2,qT (oB x k)=[S w1,S w2]:=⟨_,_,rfl⟩;have z1:szV s=jX aE (s.map tx):=rfl;have z2:szV fs=jX aE (fs.map tx):=rfl;generalize hz h ((a'++y::oq).map tx)=H0 at *;generalize hz h ((a'++[fw y (oB x k)]++oq).map tx)=H1 at *;refine aj ?_;simp only[mW];simp(disch:=try exact ae)[z1,z2,i1,i2,j1,j2,e1,e2,g1];refine cd mul ?_ (by rfl)
  simp(disch:=try exact ae);refine cd add ?_ (by rfl);have e3':st H0 2 (V.ptr h.length 1 (a.length*2) (s.length*2)) (.agg [S (itoa (fw y (oB x k)).fst),S (ah (fw y (oB x k)).snd)])=some H1:=e3;simp(disch:=try exact ae)[e1,e3'];rw[dh];exact lo ih
theorem M2{h:Hp}{n:Nat}{fs:List Q}(hf:fs.length<1000000)(hN:n<1000000){Ks Kk:Nat}(b2:Ks+Kk<=90000)(h0:Hp)(kk:KL):∀(l a:List (List Q))(q f:List Q)(o:List Q)(Ko:Nat),f++q=fs->f.length=a.length->l.length=q.length->Ko+l.length*(Ks+Kk+1)<=100000 ->
  o.length=n->okK Ko o->(∀s∈l,s.length=n∧okK Ks s)->okK Kk q->kk (.exit 0) [] (hz h ((yp o l q).map tx)) ->
  lp (mX (CX Y) h.length (szV fs) (.ref h.length 1 0 n n (n*2)) (lst szD (a++l)) (I (a++l).length)) [] h0 [I a.length] (hz h (o.map tx)) kk
 | [],a,q,f,o,Ko,hfq,h1,h2,b1,hn,ho,hl,hq,hkk=>by
  have hlt:¬((a.length:Int)<((a++[]).length:Int)):=ac;refine aj ?_;simp only[mX];simp(disch:=try exact ae)[hlt];simpa[yp]using hkk
 |s::l,a,[],f,o,Ko,hfq,h1,h2,b1,hn,ho,hl,hq,hkk=>by simp at h2
 | s::l,a,k::q,f,o,Ko,hfq,h1,h2,b1,hn,ho,hl,hq,hkk=>by
  obtain⟨s1,s2⟩:=hl s ac;obtain⟨k1,k2⟩:=hq k ac;have hLl:(l.length+1)*(Ks+Kk+1)=l.length*(Ks+Kk+1)+(Ks+Kk+1):=Xt ..;rw[List.length_cons,hLl]at b1;have hb:(a++s::l).length<1000000:=by simp at h2 ⊢;subst hfq;simp at hf;omega
  have g1:(a.length:Int)<((a++s::l).length:Int):=by simp;omega
  have i1:=λh:Hp=>oE szD (a++s::l) h (k:=.i64) (i:=(a.length:Int)) aa g1
  have i2:=λh:Hp=>eH szD [] (a++s::l) h (j:=a.length) ac
  have hnt:nth [] (a++s::l) a.length=s:=ac;simp only[hnt,Int.toNat_natCast]at i1 i2;have hlv:aQ (.ref h.length 1 0 n n (n*2))=some (I n):=rfl;have hki:nth ([],[]) (fs.map tx) a.length=tx k:=by rw[<-hfq,<-h1];exact oJ ..
  have hi:a.length<fs.length:=by rw[<-hfq];simp;omega
  simp only[Pn]at i2;have ih:=M2 (h:=h) hf hN b2 h0 kk l (a++[s]) q (f++[k]) (rU k o s) (Ko+(Ks+Kk)+1) (by grind) (by grind) (by grind) aa (by rw[AM k o s (hn.trans s1.symm),s1]) (D8 k1 k2 ho s2) (λt ht=>hl t (by grind)) (λt ht=>hq t (by grind)) (by simpa[yp]using hkk);have e4:(((a++[s]).length:Nat):Int)=(a.length:Int)+1:=ac
  have e5:a++[s]++l=a++s::l:=ac;rw[e4,e5]at ih;generalize a++s::l=L at *;refine aj ?_;simp only[mX];simp(disch:=try exact ae)[i1,i2,g1,hlv];subst s1;refine lo (Q1 hi hki hf hN k1 k2 (Ko:=Ko) (Ks:=Ks) aa aa _ _ s [] o [] rfl rfl hn ho s2 ?_);simp(disch:=try exact ae);rw[dh];exact lo ih
theorem YL{h:Hp}(hu:(h.all λx=>ax h.length x.2)=true){p:LiQ}{l:List (List Q)}{fs:List Q}{Ks Kk:Nat}(h0:0<p.length)(hN:p.length<10)(hf:fs.length<1000000)(hlen:l.length=fs.length)(b2:Ks+Kk<=90000)(b1:1+l.length*(Ks+Kk+1)<=100000)
  (hl:∀s∈l,s.length=p.length∧okK Ks s) (hq:okK Kk fs):CI Y F.jk [lst di p,lst szD l,szV fs] h (.new 2 (prC (pJ p.length l fs)) true p.length p.length) h:=by
 refine AY ?_
 have hu1:((h++[(0,Bk.none)]).all λx=>ax (h++[(0,Bk.none)]).length x.2)=true:=by
  simp only[Za,Z7];refine⟨?_,rfl⟩;rw[Z2]at hu ⊢;intro x hx;exact t6 ac (hu x hx)
 have zi:=R2 hu1 (n:=p.length) h0 hN;have l1:aQ (lst di p)=some (I p.length):=rfl;have l2:aQ (lst szD l)=some (I l.length):=rfl;simp only[jk]
 have li:∀H:Hp,dX 1 [D.str [],D.str []] [(0,V.agg [V.d (D.str [48]),V.d (D.str [49])])] H=some (aE zT,H):=λH=>by
  have q1:itoa 0=[48]:=aJ;have q2:ah 1=[49]:=aJ;have:=Mk (0,1) H;simp only[qT,q1,q2]at this;exact this
 simp(disch:=try exact ae)[l1,l2,li];refine pw (gr (e:=0) (b:=.none) zi ac ?_);have e0:(h++[(0,Bk.none)]).set h.length (0+1,.data 2 ((List.replicate p.length zT).flatMap aE) true false)=hz h ((List.replicate p.length (0,1)).map tx):=by simp[hz,zT]
 rw[e0,BP];have hz':okK 1 (List.replicate p.length ((0,1):Q)):=zc p.length;refine M2 (n:=p.length) hf aa b2 _ _ l [] fs [] _ 1 rfl rfl hlen b1 ac hz' hl hq ?_;simp(disch:=try exact ae)
 have hln:(pJ p.length l fs).length=p.length:=by
  unfold pJ;rw[sy (λs hs=>by rw[(hl s hs).1];simp)];simp
 have hfl:(prC (pJ p.length l fs)).length=p.length*2:=by rw[rQ,hln]
 refine⟨by simp[hz],?_,.inr (.inr (.inl ⟨h.length,1,p.length,p.length,2,prC (pJ p.length l fs),true,by rw[hfl],Z8 _,?_,rfl⟩))⟩
 .simp only[hz,Za,hu,Yu]
 .simp[hz,aw,prC,pJ]
def tuC(p:LiQ)(c w:Mz)(g:List (List Q)):LwQ:=[lst di p,mat c,mat w,lst szD g]
def tuV(p:LiQ)(c w:Mz)(g:List (List Q)):V:=.agg (tuC p c w g)
structure ace(p:LiQ)(c w:Mz)(g:List (List Q)):Prop where
 tp:qC p c w
 gl:g.length=w.length
 gs:∀s∈g,s.length=p.length∧okS s
variable{p:LiQ}{c w:Mz}{g:List (List Q)}
theorem NC(h:ace p c w g):CP Y F.nP [tuV p c w g] (I 0):=by
 refine Ej ?_;have hn:=h.tp.lc.n12;have hwl:=h.tp.lw.ml;have hgl:=h.gl;have a1:=yl h.tp;have a2:=xg (p:=p) (l:=g) aa aa (λs hs=>⟨(h.gs s hs).2,by rw[(h.gs s hs).1];omega⟩);rw[if_pos h.tp.pr,D2 λs hs=>(h.gs s hs).1]at a2;have l1:aQ (lst szD g)=some (I g.length):=rfl;have l2:aQ (mat w)=some (I w.length):=rfl
 have g1:((g.length:Int)=(w.length:Int))=True:=eq_true aa;simp only[nP,tuV,tuC];simp(disch:=try exact ae);refine cd (args:=[tpV p c w]) a1 ?_ (by simp[aT,cO,tpV,mat]);simp(disch:=try exact ae)[l1,l2,g1];refine cd a2 ?_ (by rfl);exact aY rfl
theorem KP(hp:pcB p=0)(hN:p.length<1000000)(hl:s.length=p.length)(hs:okS s):CP Y F.mq [lst di p,szV s] (.tup [szV s,I 0]):=by refine CF ?_;simp only[mq];simp(disch:=try exact ae);refine cd (xH hp hN hl hs) ?_ (by rfl);simp(disch:=try exact ae);exact⟨_,rfl⟩
def CJ(p:LiQ)(w:Mz)(g:List (List Q))(x:LiQ):List Q:=pJ p.length g (ofQ (aW w x))
structure af5(p:LiQ)(w:Mz)(x:LiQ):Prop where
 l:x.length=p.length
 s:smR x=true
 b:bd9 x
 r:rcB x=0
 t:bd9 (aW w x)
theorem KV{h:Hp}(hu:(h.all λx=>ax h.length x.2)=true)(ht:ace p c w g)(hp10:p.length<10)(hx:af5 p w x):CI Y F.iw [tuV p c w g,lst di x] h (.tup [.new 2 (prC (CJ p w g x)) true p.length p.length,I 0]) h:=by
 refine zh ?_;have hn:=ht.tp.lc.n12;have hwl:=ht.tp.lw.ml;have hgl:=ht.gl;have a1:=NC ht;have a2:=L5 (p:=p) (r:=x) aa;rw[adF ht.tp.pr hx.l hx.s]at a2;have a3:=Cc ht.tp hx.l hx.b hx.r hx.t;have tl:(aW w x).length=w.length:=by simp[aW]
 have a4:=Fa hx.t aa
 have hu1:((h++[(1,Bk.vars (tuC p c w g)),(0,Bk.none)]).all λx=>ax (h++[(1,Bk.vars (tuC p c w g)),(0,Bk.none)]).length x.2)=true:=by
  simp only[Za,Z7];refine⟨?_,rfl⟩;rw[Z2]at hu ⊢;intro x hx;exact t6 ac (hu x hx)
 have ok1:okK 30 (ofQ (aW w x)):=λy hy=>by
  obtain⟨z,hz,rfl⟩:=Zx.1 hy;exact tK (hx.t z hz)
 have a5:=YL (p:=p) (l:=g) (fs:=ofQ (aW w x)) hu1 (Ks:=30) (Kk:=30) ht.tp.lc.n0 hp10 (by rw[tn];omega) (by rw[tn];omega) aa aa (λs hs=>ht.gs s hs) ok1;have e0:(h++[(0,Bk.none),(0,Bk.none)])[h.length]?=some (0,Bk.none):=ac;have es:(h++[(0,Bk.none),(0,Bk.none)]).set h.length (1,.vars (tuC p c w g))=h++[(1,Bk.vars (tuC p c w g)),(0,Bk.none)]:=ac
 have hx1:lh (h++[(1,Bk.vars (tuC p c w g)),(0,Bk.none)]) h.length 1=.vars (tuC p c w g):=by simp[lh,aw]
 have hs1:(h++[(1,Bk.vars (tuC p c w g)),(0,Bk.none)])[h.length+1]?=some (0,Bk.none):=ac
 have hf:∀y,(h++[(1,Bk.vars (tuC p c w g)),(0,Bk.none)]).set (h.length+1) y=h++[(1,Bk.vars (tuC p c w g)),y]:=λy=>by
  rw[Y3 _ _ aa];simp
 simp only[iw,tuV];simp only[tuC]at *;simp(disch:=try exact ae)[e0,es,hx1];obtain⟨H1,hH⟩:=nmQ (h++[(1,Bk.vars [lst di p,mat c,mat w,lst szD g]),(0,Bk.none)]);rw[<-hH]at a5 hx1 hs1 hf ⊢;refine cd (args:=[tuV p c w g]) a1 ?_ (by simp[aT,cO,tuV,tuC,mat]);simp(disch:=try exact ae)[hx1];refine cd a2 ?_ (by rfl)
 simp(disch:=try exact ae)[hx1];refine cd (args:=[tpV p c w,lst di x]) a3 ?_ (by simp[aT,cO,tpV,mat]);simp(disch:=try exact ae)[hx1];refine cd a4 ?_ (by rfl);simp(disch:=try exact ae)[hx1];refine pw (gr (e:=0) (b:=.none) a5 hs1 ?_);rw[hf]
 have hln:(pJ p.length g (ofQ (aW w x))).length=p.length:=by
  unfold pJ;rw[sy (λs hs=>by rw[(ht.gs s hs).1];simp)];simp
 have hfl:(prC (CJ p w g x)).length=p.length*2:=by rw[rQ,CJ,hln]
 simp(disch:=try exact ae);refine⟨ac,?_,.inr (.inr (.inr (.inr (.inl ⟨h.length+1,1,p.length,p.length,2,prC (CJ p w g x),true,.int .i64 0,by rfl,Nat.le_succ _,?_,rfl⟩))))⟩
 .simp only[Za,hu,Yu]
 .simp[aw];rfl
def Dc(p:LiQ)(w:Mz)(g:List (List Q))(x:LiQ):List Q:=List.zipWith (λa z=>fw a (mM (z,1))) (CJ p w g x) x
def erH(C:LwQ)(x2:Nat×Bk)(s:List Q):Hp:=[(1,.vars C),(1,.data 2 ((s.map tx).flatMap aE) true false),x2]
theorem XH{C:LwQ}(hC:offB [2] (.vars C)=true){n:Nat}{x:LiQ}(hxb:bd9 x)(hx:x.length=n)(hn:n<1000)(h0:Hp)(hh:∃u v w,h0=[u,v,(0,w)])(K:KL):∀(q a:LiQ)(o e:List Q),a++q=x->e.length=a.length->o.length=q.length->okK 50000 o->K (.exit 0) [] (erH C nnQ (e++List.zipWith (λa z=>fw a (mM (z,1))) o q)) ->
  lp (oN (CX Y) (.ref 1 1 0 n n (n*2)) (szV (ofQ x)) (I n)) [2] h0 [I a.length] (erH C nnQ (e++o)) K
 | [],a,o,e,ha,h1,h2,ho,hK=>by
  simp only[Zp]at ha;simp only[List.length_nil]at h2;have h2':o=[]:=Zn h2;subst ha h2' hx;have hlt:¬((a.length:Int)<(a.length:Int)):=aa;refine aj ?_;simp only[oN];simp(disch:=try exact ae)[hlt];simpa using hK
 |z::q,a,[],e,ha,h1,h2,ho,hK=>by simp at h2
 | z::q,a,y::o,e,ha,h1,h2,ho,hK=>by
  have hal:a.length<n:=by rw[<-hx,<-ha];simp
  obtain⟨o1,o2⟩:=ho y ac;have hlen:((e++y::o).map tx).length=n:=by rw[<-hx,<-ha];simp at h2 ⊢;omega
  have hz:=hxb z (by rw[<-ha];simp);obtain⟨z1,z2⟩:=tK hz;have sub:=BQ o1 z1 o2 (z2.mono aa);have g1:(a.length:Int)<(n:Int):=aa
  have hxn:nth ([],[]) ((ofQ x).map tx) a.length=tx (z,1):=by
   have e1:(ofQ x).map tx=(ofQ a++(z,1)::ofQ q).map tx:=by rw[<-ha];simp[ofQ]
   have:=oJ ([],[]) tx (ofQ a) (z,1) (ofQ q);rw[tn]at this;rw[e1,this]
  have hy:nth ([],[]) ((e++y::o).map tx) a.length=tx y:=by rw[<-h1];exact oJ ..
  have i1:=λh:Hp=>oU aE aN ((ofQ x).map tx) h (k:=.i64) (i:=(a.length:Int)) aa (by rw[List.length_map,tn];omega)
  have i2:=λh:Hp=>oR aE aN ([],[]) ((ofQ x).map tx) h (j:=a.length) (by rw[List.length_map,tn];omega)
  simp only[hxn,Int.toNat_natCast]at i1 i2;have hg:∀x2,(erH C x2 (e++y::o))[1]?=some (1,.data 2 (((e++y::o).map tx).flatMap aE) true false):=λx2=>rfl
  have e1:=λx2=>ixR (hg x2) hlen (c:=a.length) hal .i64
  have e2:=λx2=>ldR (hg x2) hlen (c:=a.length) hal
  have e3:=λx2=>stR (hg x2) hlen (c:=a.length) hal (tx (fw y (mM (z,1))))
  have es:((e++y::o).map tx).set a.length (tx (fw y (mM (z,1))))=((e++[fw y (mM (z,1))])++o).map tx:=by
   have:=I8 (e.map tx) (tx y) (tx (fw y (mM (z,1)))) (o.map tx);rw[List.length_map,h1]at this;simpa using this
  simp only[hy,es]at e2 e3;have ih:=XH hC hxb hx hn h0 hh K q (a++[z]) o (e++[fw y (mM (z,1))]) (by simp[ha]) (by simp[h1]) (by simpa using h2) (λw hw=>ho w (by simp[hw])) (by simpa using hK);have e4:(((a++[z]).length:Nat):Int)=(a.length:Int)+1:=ac;rw[e4]at ih;have z2:szV (ofQ x)=jX aE ((ofQ x).map tx):=rfl;simp only[qT]at sub
  have e3':∀x2,st (erH C x2 (e++y::o)) 2 (.ptr 1 1 (a.length*2) (n*2)) (.agg [S (itoa (fw y (mM (z,1))).fst),S (ah (fw y (mM (z,1))).snd)])=some (erH C x2 (e++[fw y (mM (z,1))]++o)):=e3;have hs2:(erH C nnQ (e++y::o))[2]?=some nnQ:=rfl;have hs3:∀b b',(erH C b (e++y::o)).set 2 b'=erH C b' (e++y::o):=λb b'=>rfl
  have hx2:∀b,lh (erH C (1,b) (e++y::o)) 2 1=b:=λb=>rfl
  have i2':∀h:Hp,ldA h 2 (.dptr (((ofQ x).map tx).flatMap aE) (a.length*2))=some (.agg [S (itoa z),S (ah 1)]):=i2;have e2':∀x2,ldA (erH C x2 (e++y::o)) 2 (.ptr 1 1 (a.length*2) (n*2))=some (.agg [S (itoa y.1),S (ah y.2)]):=e2;refine aj ?_;simp only[oN];simp(disch:=try exact ae)[z2,i1,i2',g1,hs2,hs3,hx2,e1,e2'];refine cd sub ?_ (by rfl)
  simp(disch:=try exact ae)[e1,e3'];have es2:e++fw y (mM (z,1))::o=e++[fw y (mM (z,1))]++o:=ac
  have rs:∀b s,aL [2] 0 h0 (erH C (1,b) s)=erH C nnQ s:=λb s=>by
   obtain⟨⟨u1,u2⟩,⟨v1,v2⟩,w,rfl⟩:=hh;rfl
  rw[rs,es2];refine⟨?_,lo ih⟩;simp only[clean,erH,qm,hC];rfl
theorem TC(ht:ace p c w g)(hp10:p.length<10)(hx:af5 p w x)(hr:okS (Dc p w g x)):CP Y F.nO [tuV p c w g,lst di x] (.tup [szV (Dc p w g x),I 0]):=by
 refine Ei ?_;have hn:=ht.tp.lc.n12;have hxl:=hx.l;have hwl:=ht.tp.lw.ml;have hgl:=ht.gl;have a1:=KV (h:=[(1,.vars (tuC p c w g)),nnQ,nnQ]) rfl ht hp10 hx;have tl:(aW w x).length=w.length:=by simp[aW]
 have ok1:okK 30 (ofQ (aW w x)):=λy hy=>by
  obtain⟨z,hz,rfl⟩:=Zx.1 hy;exact tK (hx.t z hz)
 have hln:(CJ p w g x).length=p.length:=by
  unfold CJ pJ;rw[sy (λs hs=>by rw[(ht.gs s hs).1];simp)];simp
 have ok2:okK 50000 (CJ p w g x):=λy hy=>by
  have:=IR (zc p.length) (λs hs=>(ht.gs s hs).2) ok1 y hy;exact⟨this.1,this.2.mono aa⟩
 have a2:=Fa hx.b aa;have a3:=KP ht.tp.pr aa (by rw[Dc,List.length_zipWith,hln,hxl];simp) hr;have l1:aQ (szV (ofQ x))=some (I p.length):=by rw[DL,tn,hxl]
 simp only[nO,tuV];simp only[tuC]at *;simp(disch:=try exact ae);refine pw (Nb (e:=0) (b:=.none) a1 rfl ?_);have hfl:(prC (CJ p w g x)).length=p.length*2:=by rw[rQ,hln]
 rw[hfl];simp(disch:=try exact ae);refine cd a2 ?_ (by rfl);simp(disch:=try exact ae)[l1];refine lo (XH (C:=[lst di p,mat c,mat w,lst szD g]) rfl hx.b hxl aa _ ⟨_,_,_,rfl⟩ _ x [] (CJ p w g x) [] rfl rfl (by rw[hln,hxl]) ok2 ?_);have ez:List.zipWith (λa z=>fw a (mM (z,1))) (CJ p w g x) x=Dc p w g x:=rfl;rw[ez,List.nil_append]
 have sn:=Pt (h:=erH [lst di p,mat c,mat w,lst szD g] nnQ (Dc p w g x)) (s:=1) (e:=1) (n:=p.length) (l:=(Dc p w g x).map tx) rfl (by rw[List.length_map,Dc,List.length_zipWith,hln,hxl];simp);have l4:ld1 (erH [lst di p,mat c,mat w,lst szD g] nnQ (Dc p w g x)) (.ptr 0 1 0 4)=some (lst di p):=rfl
 have hx0:lh (erH [lst di p,mat c,mat w,lst szD g] nnQ (Dc p w g x)) 0 1=.vars [lst di p,mat c,mat w,lst szD g]:=rfl;simp(disch:=try exact ae)[hx0];have e5:∀h:Hp,cO h (lst di p)=some (lst di p,h):=λh=>rfl
 refine cdz (by simp only[aT,e5,sn];rfl) a3 ?_;simp(disch:=try exact ae);exact⟨_,rfl⟩
theorem rC{α:Type}(d:α)(m:List α)(h:i<m.length):nth d m i=m[i]:=by rw[nth,Z6,List.getElem?_eq_getElem h];rfl
theorem Qz(H:HmF n m):m.length<=n:=by
 obtain⟨L,H⟩:=H
 have:=xx (n:=n) (tQ H m.length 0 0 aa (λ_=>Y8 _)) (λx hx=>by
  obtain⟨k,_,hk,rfl⟩:=u5 hx;exact H.lt k aa)
 grind[xy]
theorem WP(H:HmF n m):∀r∈m,r.length=n:=λr hr=>by
 obtain⟨L,H⟩:=H;obtain⟨i,hi,rfl⟩:=Zi.1 hr;have:=H.ln i hi
 grind[rC]
theorem OX(hb:BdE E m):∀r∈m,∀z∈r,z.natAbs<=E:=λr hr z hz=>by
 obtain⟨i,hi,rfl⟩:=Zi.1 hr;obtain⟨j,hj,rfl⟩:=Zi.1 hz;have:=hb i j
 grind[rC]
theorem zM(h1:0<n)(h2:n<=12)(H:HmF n m)(hb:BdE (10^9) m):sZ n m:=
 ⟨h1,h2,by have:=Qz H;omega,WP H,λr hr z hz=>by have:=OX hb r hr z hz;omega⟩
theorem Vd{l:Nat}(h1:∀j,j<l->nth 0 r j=0)(h2:nth 0 r l≠0):piv r=l:=by
 have hl:l<r.length:=Decidable.byContradiction λh=>h2 (by rw[nth,Z6,List.getElem?_eq_none aa];rfl)
 have:r.findIdx? (λn=>n !=0)=some l:=by
  rw[List.findIdx?_eq_some_iff_getElem];refine⟨hl,by grind[rC],λj hj=>?_⟩;rw[<-rC 0 r aa,h1 j hj];simp
 grind[piv,idx]
theorem QC{n:Nat}{m:Mz}{L:Nat->Nat}(H:Hm n n m.length L m):∀(q a:Mz)(b:Int),m=a++q->(∀i,i<m.length->i=a.length->b<L i)->JN b a q=true
 |[],a,b,e,hb=>rfl
 | r::q,a,b,e,hb=>by
  have hal:a.length<m.length:=by rw[e];simp
  have er:nth [] m a.length=r:=by rw[rC _ _ hal];simp[e]
  have p1:=H.pos a.length hal;have p2:=H.low a.length hal;simp only[eZ,er]at p1 p2;have hp:=Vd p2 aa;have hb':=hb a.length hal rfl;simp only[JN,hp,Int.toNat_natCast];rw[if_neg aa,if_neg]
  .refine QC H q (a++[r]) _ (by simp[e]) λi hi he=>?_
   rw[List.length_append,List.length_singleton]at he;subst he;have:=H.inc a.length (a.length+1) aa hi;omega
  .rw[Bool.not_eq_true,List.any_eq_false];intro o ho;obtain⟨j,hj,rfl⟩:=Zi.1 ho;have eo:nth [] m j=a[j]:=by rw[rC _ _ aa];simp[e,List.getElem_append_left hj]
   have:=H.red j a.length hj hal
   grind[upF]
theorem Pm{c:Nat}(hc:c<=12):∀{m:Mz},(∀r∈m,r.length=c)->(∀r∈m,∀z∈r,z.natAbs<=1000000000)->Gx c m=0
 |[],_,_=>rfl
 | r::q,h1,h2=>by
  have hr:=h1 r ac;simp only[Gx];rw[if_neg aa,if_neg aa,if_neg]
  .exact Pm hc (λx hx=>h1 x (by grind)) λx hx=>h2 x (by grind)
  .rw[Bool.not_eq_true,List.any_eq_false];intro z hz;have:=h2 r ac z hz
   grind[Ou]
theorem U0(h1:r.length<=64)(h2:∀z∈r,z.natAbs<=1000000000):rcB r=0:=by
 unfold rcB;rw[if_neg];rintro(h|h)
 .omega
 grind[Cr]
theorem LE{n:Nat}(hn:n<=64):∀{m:Mz},(∀r∈m,r.length=n)->(∀r∈m,∀z∈r,z.natAbs<=1000000000)->wO n m=0
 |[],_,_=>rfl
 | r::q,h1,h2=>by
  have hr:=h1 r ac;simp only[wO];rw[U0 aa (h2 r ac),if_neg af,if_neg aa];exact LE hn (λx hx=>h1 x (by grind)) λx hx=>h2 x (by grind)
theorem V9(hn:n<=12)(hm:m.length<=12)(h1:∀r∈m,r.length=n)(h2:∀r∈m,∀z∈r,z.natAbs<=1000000000):lcB n m=0:=by unfold lcB;rw[if_neg aa,if_neg aa];exact LE aa h1 h2
theorem JJ(hn:n<=12)(H:HmF n m)(hb:BdE (10^9) m):GN n m=0:=by
 have hl:=Qz H;have hr:=WP H;have hz:=OX hb;have hz':∀r∈m,∀z∈r,z.natAbs<=1000000000:=λr hr z hzz=>hz r hr z hzz
 unfold GN;rw[V9 hn aa hr hz',if_neg af,if_pos];unfold hfB
 have t0:tcB m=0:=by
  unfold tcB;rw[if_neg aa];refine Pm ?_ (λr hr'=>?_) hz'
  .cases m with
   |nil=>simp[nth]
   |cons x q=>have:=hr x ac;grind[nth]
  .rw[hr r hr'];cases m with
   |nil=>cases hr'
   |cons x q=>have:=hr x ac;grind[nth]
 obtain⟨L,H⟩:=H;rw[t0,QC H m [] (-1) rfl (λi _ _=>by omega)];rfl
def ofN(N:Nat)(r0 o:Nat×Bk)(l:List RwL):Hp:=r0::o::nnQ::loB l::(l.map RwL.k++List.replicate (N-l.length) nnQ)
theorem Jk{N:Nat}{r0:Nat×Bk}{l:List RwL}(h:l.length<=N):(ofN N r0 o l).length=N+4:=by grind[ofN]
theorem Qc{r0:Nat×Bk}{l:List RwL}(h:l.length<=12):ofN 12 r0 o l++List.replicate 14 nnQ=ofN 26 r0 o l:=by simp only[ofN,List.cons_append,List.append_assoc,List.replicate_append_replicate];rw[show 12-l.length+14=26-l.length by omega]
theorem Vs{r0:Nat×Bk}{l:List RwL}(h:l.length<=12):(ofN 26 r0 o l).take 16=ofN 12 r0 o l:=by rw[<-Qc h,Yd (by rw[Jk h])]
section
variable{r0:Nat×Bk}(hr0:ax 16 r0.2=true)
include hr0
theorem Qb{N:Nat}{l:List RwL}(ho:ax 16 o.2=true)(hl:∀R∈l,R.s<16):((ofN N r0 o l).all λx=>ax 16 x.2)=true:=by simp only[ofN,List.all_cons,Za,ho,hr0,Ja,Br,Ye,Yu];exact Bool.and_eq_true_iff.2 ⟨rfl,Me hl⟩
theorem Ct{m:LLQ}(hm:m.length<=12)(hr:∀r∈m,r.length<1000000)(hz:∀r∈m,∀z∈r,-9223372036854775808<z∧z<9223372036854775808)(h0:Hp)(K:KL) :
  ∀(q a:LLQ)(o:Nat×Bk),m=a++q->o=ooF nnQ (lgR true 4 a)->K (.exit 0) [loV 3 (lgR true 4 m)] (ofN 26 r0 (ooF nnQ (lgR true 4 m)) (lgR true 4 m)) ->
  lp (lY (CX Y) 16 (mat m) (I m.length)) [] h0 [loV 3 (lgR true 4 a),I a.length] (ofN 26 r0 o (lgR true 4 a)) K
 | [],a,o,e,hu,hK=>by
  simp only[Zp]at e;subst e;refine aj ?_;simp only[lY];have hlt:¬((m.length:Int)<(m.length:Int)):=aa;simp[hlt]
  grind
 | r::q,a,o,e,hu,hK=>by
  refine aj ?_;have hlt:((a.length:Int)<(m.length:Int)):=by rw[e];simp;omega
  have hl:a.length<m.length:=aa;have hal:a.length<12:=aa;have hrm:r∈m:=by rw[e];simp
  obtain⟨H,hH⟩:=nmQ (ofN 26 r0 o (lgR true 4 a));have i1:ixV H 1 (mat m) (I a.length)=some (.dptr (m.map row) a.length):=by rw[e];exact vh row a r q _ _
  have i2:ld1 H (.dptr (m.map row) a.length)=some (lst di r):=by
   rw[k8 row m _ hl];simp only[e,Zl (Z8 _),Ze,Zh];rfl
  have hlen:H.length=30:=by rw[hH,Jk bi]
  have hu1:(H.all λx=>ax H.length x.2)=true:=by
   rw[hlen];refine tZ (b:=16) aa ?_;rw[hH];have hlt16:∀R∈lgR true 4 a,R.s<16:=λR hR=>by have:=Fy true 4 a R hR;omega
   exact Qb hr0 (by rw[hu];exact P0 rfl hlt16) hlt16
  rw[<-hH];simp only[lY];simp[hlt,i1,i2]
  have g1:H[a.length+4]?=some nnQ:=by
   rw[hH];simp only[ofN,List.getElem?_cons_succ];rw[List.getElem?_append_right ac,List.getElem?_replicate,if_pos bi]
  refine vI (a.length+4) ?_;refine gr (BC (Rd.data _ r) (hz r hrm) (hr r hrm) hu1) g1 ?_;obtain⟨R,hR⟩:∃R:RwL,R=⟨a.length+4,1,[],[],true,r.length,r⟩:=⟨_,rfl⟩;have v1:V.ref (a.length+4) (0+1) 0 r.length r.length (r.map sI).length=R.v:=by rw[hR];simp[RwL.v,RwL.tot]
  have k1:((0+1,Bk.data 1 (r.map sI) true false):Nat×Bk)=R.k:=by rw[hR];simp[RwL.k]
  have e1:H.set (a.length+4) R.k=r0::o::nnQ::loB (lgR true 4 a)::((lgR true 4 a++[R]).map RwL.k++List.replicate (26-(lgR true 4 a++[R]).length) nnQ):=by
   rw[hH];simp only[ofN,List.set_cons_succ];rw[Y3 _ _ ac];simp only[List.length_map,DJ,Ze,X6,List.length_append,List.append_assoc,Zq,X3,List.length_cons,List.length_nil];rw[show 26-a.length=(26-(a.length+1))+1 by omega,List.replicate_succ,List.set_cons_zero];rfl
  have l2:lgR true 4 (a++[r])=lgR true 4 a++[R]:=by rw[JG,hR]
  rw[v1,k1,e1,<-l2];simp;refine vI 1 ?_;simp;refine Jw (e:=o.1) (b:=o.2) rfl (v:=R.v) rfl ?_;simp;refine vI 3 ?_;simp;refine(DI (l:=lgR true 4 a) (R:=R) bi (by simp[sk,aw]) rfl ?_);rw[<-l2];have ih:=Ct hm hr hz h0 K q (a++[r]) (o.1+1,.vars [R.v]) (by simp[e]) (by rw[l2,P2,hu]) hK
  have e2:((a++[r]).length:Int)=(a.length:Int)+1:=ac;rw[e2]at ih;simp(disch:=try exact ae);refine lo ?_;have e3:26-(lgR true 4 (a++[r])).length=25-a.length:=ac
  grind[ofN.eq_1,dh]
theorem Mb{m:LLQ}(hm:m.length<=12)(hr:∀r∈m,r.length<1000000)(hz:∀r∈m,∀z∈r,-9223372036854775808<z∧z<9223372036854775808):
  CI Y F.cu [mat m] (ofN 12 r0 nnQ []) (loV 3 (lgR true 4 m)) (ofN 12 r0 (ooF nnQ (lgR true 4 m)) (lgR true 4 m)):=by
 refine zU ?_;have hl:(ofN 12 r0 nnQ []).length=16:=rfl;have l1:aQ (mat m)=some (I m.length):=rfl;have hlt16:∀R∈lgR true 4 m,R.s<16:=λR hR=>by have:=Fy true 4 m R hR;omega
 rw[hl];simp only[cu];rw[Qc ac];simp[l1];refine lo (Ct hr0 hm hr hz _ _ m [] nnQ rfl rfl ?_);simp;refine⟨by rw[Vs bi],Qb hr0 (P0 rfl hlt16) hlt16,.inl ⟨rfl,?_⟩⟩;unfold loV;split
 .rfl
 rfl
end
theorem NR{so eo o:Nat}{h:Hp}{m:List RwL}(hs:h[so]?=some (eo,.vars (m.map RwL.v)))(hr:∀R∈m,LS h R)(hc:∀R∈m,R.r.length<=R.cap)(h0:m≠[])(ho:o<=m.length):
  ∃h1,cO h (.ref so eo 0 o m.length m.length)=some (uZ ((m.map RwL.r).take o),h1)∧∀(s e:Nat)(vs:LwQ),s≠so->h[s]?=some (e,Bk.vars vs)->h1[s]?=some (e,Bk.vars vs):=by
 obtain⟨h1,e1,v1⟩:=IN m h hr hc;have g1:=v1 _ _ _ hs;have g0:aw h so eo=.vars (m.map RwL.v):=by simp[aw,hs]
 have hd:J1 (m.map RwL.v)=none:=by
  cases m with
  |nil=>trivial
  |cons R m=>rfl
 refine⟨bY h1 so eo (.data 1 (m.map λR=>tM R.r) false true),?_,λs e vs hne hg=>?_⟩
 .have t1:toD h (.ref so eo 0 o m.length m.length)=none:=by simp[toD,g0,hd]
  have t2:NE h (.ref so eo 0 o m.length m.length)=some (.sl o ((m.map λR=>tM R.r).take o),bY h1 so eo (.data 1 (m.map λR=>tM R.r) false true)):=by
   simp only[NE,g0,e1];have:aw h1 so eo=.vars (m.map RwL.v):=by simp[aw,g1]
   simp only[this];rw[if_pos (by grind)];simp
  simp_all[cO,uZ,lst,Function.comp_def]
 grind[bY.eq_1]
theorem adL{n Bd f o':Nat}{m z':Mz}(hB:Bd<=100000)(h0:0<n)(hn:n<=12)(hl:lcB n m=0)(hm:m.length<=12)(hr:∀r∈m,r.length=n)(hz:∀r∈m,∀z∈r,-9223372036854775808<z∧z<9223372036854775808)
  (hf:rG Bd f n m=some (o',z')) (ho:sZ n (z'.take o')):CP Y F.qq [I n,mat m] (.tup [qO n (z'.take o'),I 0]):=by
 refine JK ?_;simp only[qq];simp;have hrl:∀r∈m,r.length<1000000:=λr hr'=>by grind
 have ck:=H5 (n:=n) (m:=m) aa hrl;rw[hl]at ck;refine cd ck ?_ (by rfl);obtain⟨r0,hr0⟩:∃r0:Nat×Bk,r0=(1,.vars [I 0,nlV]):=⟨_,rfl⟩;have u0:ax 16 r0.2=true:=by rw[hr0];rfl
 have hH:([(1,Bk.vars [V.d (D.int IntKind.i64 0),V.d nPQ]),(0,Bk.none),(0,Bk.none),(0,Bk.none),(0,Bk.none),(0,Bk.none),(0,Bk.none),(0,Bk.none),(0,Bk.none),(0,Bk.none),(0,Bk.none),(0,Bk.none),(0,Bk.none),(0,Bk.none),(0,Bk.none),(0,Bk.none)]:Hp)=ofN 12 r0 nnQ []:=by rw[hr0];rfl
 have c1:=Mb u0 hm hrl hz;have ok1:okV (mat (z'.take o'))=true:=rfl;have c3:=yK (m:=z'.take o') (n:=n) (by grind[sZ.ml]) (λr hr'=>by grind[sZ.rl]) ho.sm;simp;rw[hH];by_cases hm0:m=[]
 .subst hm0
  have hz0:z'=[]:=by
   have hfm:=(DT (n:=n) (λi hi=>by simp at hi) hf).2.2;exact Zn hfm
  subst hz0;rw[List.take_nil]at c3 ⊢;have c1':CI Y F.cu [mat []] (ofN 12 r0 nnQ []) nlV (ofN 12 r0 nnQ []):=c1;refine gK c1' ?_ ac;refine gK (HY (h:=ofN 12 r0 nnQ []) (n:=n) ?_) ?_ ac
  .exact Qb (N:=12) u0 rfl (λR hR=>by cases hR)
  refine sX (ds:=[uZ [],I n]) (h':=ofN 12 r0 nnQ []) rfl c3 ?_;rw[hr0];simp[qO,ok1];exact⟨_,by rfl⟩
 .obtain⟨l,hll⟩:=nmQ (lgR true 4 m);have hln:l.length=m.length:=by rw[hll];simp
  have hl0:l≠[]:=λe=>hm0 (by grind)
  have hlr:l.map RwL.r=m:=by rw[hll,VZ]
  have hnth:∀i,i<l.length->nth RwL.z l i=⟨i+4,1,[],[],true,(nth [] m i).length,nth [] m i⟩:=λi hi=>by rw[hll,JF true 4 _ i aa]
  have hnl:∀i,i<l.length->(nth [] m i).length=n:=λi hi=>by rw[rC _ _ aa];grind
  obtain⟨o,hoo⟩:=nmQ (ooF nnQ l)
  have uo:ax 16 o.2=true:=by
   rw[hoo];exact P0 rfl λR hR=>by rw[hll]at hR;have:=Fy true 4 m R hR;omega
  rw[<-hll,<-hoo]at c1;obtain⟨H,hHe⟩:=nmQ (ofN 12 r0 o l);have hHl:H.length=16:=by rw[hHe,Jk aa]
  have T:Tr H.length H H 3 l.length n l:=by
   refine⟨?_,λi hi=>?_,λi j hi hj hij=>?_,λi hi=>?_,λi hi=>?_,λ_ _ _=>rfl,aa,λi hi=>?_,?_,Z8 _,λs h1 h2=>by omega⟩
   .grind[ofN,loB]
   .have h5:=DK true m 4 [r0,o,nnQ,loB l] (List.replicate (12-l.length) nnQ) rfl (nR l i) (by grind[yI]);rw[<-hll]at h5;rw[hHe];exact h5
   .grind
   .grind
   .grind
   .grind
   .rw[hHl,hHe];exact Qb u0 uo λR hR=>by rw[hll]at hR;have:=Fy true 4 m R hR;omega
  obtain⟨m1,f1,f2⟩:=JR (hlr.symm▸hf);obtain⟨⟨⟨h1,T1,e1⟩,hQ⟩,q1,q2⟩:=F7 (Q:=λR=>n<=R.cap∧4<=R.s) (λ_ _ h=>h) T (λi hi=>by rw[nR,hnth i hi];exact⟨by grind,ac⟩) f1;have fo:=Fz hB aa aa (Z8 _) T f1 T1 e1;have lv:loV 3 l=.ref 3 l.length 0 l.length l.length l.length:=by rw[loV,if_neg hl0]
  rw[lv,<-hHe]at c1;refine gK c1 ?_ ac;refine gK fo ?_ ac;have hm1:m1≠[]:=λe=>hl0 (by grind)
  have g0:h1[0]?=some (1,.vars [I 0,nlV]):=by
   rw[T1.fr 0 aa (λi hi=>by grind),hHe,hr0];rfl
  have T1o:=T1.o;rw[<-q2]at T1o ⊢
  obtain ⟨h3,e3,v3⟩:=NR (o:=o') T1o (λR hR=>by
   obtain⟨i,hi,rfl⟩:=Bw hR;exact⟨false,T1.r i hi⟩) (λR hR=>by
   grind[Bw,Tr.ln]) hm1 aa
  rw[f2]at e3;have g3:=v3 0 1 _ aa g0
  have hs3:∀c w:V,okV c=true->okV w=true->st h3 2 (.ptr 0 1 0 2) (.agg [c,w])=some (h3.set 0 (1,.vars [c,w])):=λc w hc hw=>by
   grind[st,sto,aw,bY]
  have h3l:0<h3.length:=(List.getElem?_eq_some_iff.1 g3).1
  have hl3:∀c w:V,ldA (h3.set 0 (1,.vars [c,w])) 2 (.ptr 0 1 0 2)=some (.agg [c,w]):=λc w=>by
   simp[ldA,aw,List.getElem?_set_self h3l]
  have sI:∀h:Hp,cO h (I n)=some (I n,h):=λh=>rfl
  refine sX (ds:=[uZ (z'.take o'),I n]) (h':=h3) (by grind[aT]) c3 ?_;have okI:okV (I (n:Int))=true:=rfl;have hs4:=hs3 (I n) (mat (z'.take o')) rfl ok1;have hl4:=hl3 (I n) (mat (z'.take o'));rw[show(if cD (V.tup [qO n (z'.take o'),I 0])=true then h1 else h3)=h3 from rfl];simp only[qO];simp[hs4,hl4];exact⟨_,by rfl⟩
abbrev I4:=Int×Int×Int×Int
def i4D(x:I4):LdQ:=[.int .i8 x.1,.int .i8 x.2.1,.int .i8 x.2.2.1,.int .i8 x.2.2.2]
theorem Qx(x:I4):(i4D x).length=4:=rfl
def i4L(x:I4):LiQ:=[x.1,x.2.1,x.2.2.1,x.2.2.2]
def ok4(x:I4):Prop:=(-128<=x.1∧x.1<=127)∧(-128<=x.2.1∧x.2.1<=127)∧(-128<=x.2.2.1∧x.2.2.1<=127)∧(-128<=x.2.2.2∧x.2.2.2<=127)
def mkI(p:LiQ)(x:I4):Rw:=itv p.length (i4L x)
theorem OR{p:LiQ}{g w c:Mz}(hp:pcB p=0)(h0:0<p.length)(h4:p.length<=4)(hm:m.length<=3)(hr:∀r∈m,r.length=p.length)(hz:∀r∈m,∀z∈r,z.natAbs<=9)(R:aev p.length m g w c f)(vals:Bool):
  CP Y F.gF [lst di p,mat m,B vals] (.tup [tpV p (if vals=true then w else c) (if vals=true then c else w),I 0]):=by
 refine wM ?_;obtain⟨o,g',hf,hg⟩:=R.g0;have lg:sZ p.length g:=zM h0 aa R.hg R.bg;have lw:sZ p.length w:=zM h0 aa R.hw (R.bw.mono af);have lc:sZ p.length c:=zM h0 aa R.hc (R.bc.mono af)
 have c1:=adL (n:=p.length) (m:=m) (Z8 100000) h0 aa (V9 aa aa hr λr hr' z hz'=>by grind) aa hr (λr hr' z hz'=>by grind) hf (by grind);rw[hg]at c1;have hlc:=JJ aa R.hg R.bg;have c2:=Ql (Z8 100000) hlc lg R.gw lw.rl (by grind[sZ.ml]) R.wc lc;have c3:=Qt (Z8 100000) hlc lg R.gw lw
 have cp:=mD (p:=p) aa;rw[hp]at cp;have l1:aQ (lst di p)=some (I p.length):=rfl;have ok1:∀m:Mz,okV (mat m)=true:=λ_=>rfl
 have ok2:okV (lst di p)=true:=rfl;simp only[qO]at c1 c2 c3;simp only[gF];simp;refine cd cp ?_;simp[l1];refine cd c1 ?_ (by rfl);simp[ok1];refine cd c2 ?_ (by rfl);simp[ok1];refine cd c3 ?_ (by rfl);simp[ok1];cases vals with
 | false=>
  refine aH ?_;simp[ok1,ok2];exact⟨_,by rfl⟩
 | true=>
  refine aH ?_;simp[ok1,ok2];exact⟨_,by rfl⟩
theorem VH{p:LiQ}{e:List I4}{kk:Nat}{vals:Bool}(he:e.length<=3)(hb:∀x∈e,ok4 x)(hp:p.length<=4)(b1 b3:Nat×Bk)(h0:Hp)(K:KL):∀(q a:List I4),e=a++q ->
  K (.exit 0) [(acU 2).v e.length (e.map λx=>row (mkI p x))] [(1,.vars [.d (.int .u8 kk),jX i4D e,B vals]),b1,(acU 2).b e.length (e.map λx=>row (mkI p x)),b3] ->
  lp (jT (CX Y) (.ptr 0 1 0 3) (lst di p)) [] h0 [(acU 2).v a.length (a.map λx=>row (mkI p x)),I a.length] [(1,.vars [.d (.int .u8 kk),jX i4D e,B vals]),b1,(acU 2).b a.length (a.map λx=>row (mkI p x)),b3] K
 | [],a,e1,hK=>by
  simp only[Zp]at e1;subst e1;refine aj ?_;have hlt:¬((e.length:Int)<(e.length:Int)):=aa;have l1:aQ (jX i4D e)=some (I e.length):=rfl;simp only[jT];simp[hlt,l1];exact hK
 | x::q,a,e1,hK=>by
  refine aj ?_;have hlt:((a.length:Int)<(e.length:Int)):=by rw[e1];simp;omega
  have h3:((a.length:Int)<3):=aa;have hal:a.length<e.length:=aa;have hx2:nth (0,0,0,0) e a.length=x:=by rw[rC _ _ hal];simp[e1]
  have hm:=hb x (by grind);have io:CP Y F.dD [lst di p,.agg [i8V x.1,i8V x.2.1,i8V x.2.2.1,i8V x.2.2.2]] (lst di (mkI p x)):=Ns hm.1 hm.2.1 hm.2.2.1 hm.2.2.2 hp;have l1:aQ (jX i4D e)=some (I e.length):=rfl;have i1:=λh=>oU i4D Qx e h (k:=.i64) (i:=(a.length:Int)) aa aa
  have i2:=λh=>oR i4D Qx (0,0,0,0) e h (j:=a.length) hal
  rw[hx2]at i2;simp only[Int.toNat_natCast]at i1;have i2':∀h,ldA h 4 (.dptr (e.flatMap i4D) (a.length*4))=some (.agg [i8V x.1,i8V x.2.1,i8V x.2.2.1,i8V x.2.2.2]):=i2;obtain⟨H,hH⟩:∃H:Hp,H=[(1,.vars [.d (.int .u8 kk),jX i4D e,B vals]),b1,(acU 2).b a.length (a.map λx=>row (mkI p x)),b3]:=⟨_,rfl⟩;have g1:lh H 0 1=.vars [.d (.int .u8 kk),jX i4D e,B vals]:=by rw[hH];rfl
  have li1:dX 1 [nPQ] [(0,lst di (mkI p x))] H=some ([row (mkI p x)],H):=GM ..;have sn:aT H [lst di p,.agg [i8V x.1,i8V x.2.1,i8V x.2.2.1,i8V x.2.2.2]]=some ([lst di p,.agg [i8V x.1,i8V x.2.1,i8V x.2.2.1,i8V x.2.2.2]],H):=by simp[aT,cO,i8V]
  rw[<-hH];simp only[jT];simp[hlt,h3,l1,g1,i1,i2'];refine cd io ?_ sn;simp[li1];refine md (acU 2) (by_:=24) (k:=1) (cs:=[row (mkI p x)]) aa (by rw[hH];rfl) (by simp[acU]) (by rfl) rfl (by grind) aa (by simp[acU]) ?_
  have hs:H.set (acU 2).s ((acU 2).b (a.length+1) ((a.map λx=>row (mkI p x))++[row (mkI p x)]))=[(1,.vars [.d (.int .u8 kk),jX i4D e,B vals]),b1,(acU 2).b (a.length+1) ((a.map λx=>row (mkI p x))++[row (mkI p x)]),b3]:=by rw[hH];rfl
  rw[hs];have ih:=VH (kk:=kk) (vals:=vals) he hb hp b1 b3 h0 K q (a++[x]) (by grind) hK;have e4:((a++[x]).length:Int)=(a.length:Int)+1:=ac;rw[e4,X6,List.length_append]at ih;simp(disch:=try exact ae)
  simp_all[dh]
theorem Sp{k:Nat}{e:List I4}{vals:Bool}{g w c:Mz}{f:Nat}(hk:k<256)(he:e.length<=3)(hb:∀x∈e,ok4 x)(R:aev (mY k).length (e.map (mkI (mY k))) g w c f) :
  CP Y F.fM [.agg [.d (.int .u8 k),jX i4D e,B vals]] (tpV (mY k) (if vals=true then w else c) (if vals=true then c else w)):=by
 refine xR ?_;obtain⟨p1,p2,p3,p4,p5⟩:=Vb _ (Bm k);obtain⟨p,hp⟩:=nmQ (mY k);have pk:=LJ hk;rw[<-hp]at p1 p2 p3 p4 p5 R pk ⊢
 have bu:=OR p1 p3 p4 (by grind) (λr hr=>by
  obtain⟨x,_,rfl⟩:=Zx.1 hr
  grind[mkI,itv,i4L]) (λr hr z hz=>by
  grind[mkI,itv]) R vals
 obtain⟨C,hC⟩:=nmQ (if vals=true then w else c)
 obtain⟨W,hW⟩:=nmQ (if vals=true then c else w)
 rw[<-hC,<-hW]at bu ⊢;have em:mat (e.map (mkI p))=.d (.sl e.length (e.map λx=>row (mkI p x))):=by simp[lst,Function.comp_def]
 have ok1:∀m:Mz,okV (mat m)=true:=λ_=>rfl
 have ok2:okV (lst di p)=true:=rfl;have ok3:okV (jX i4D e)=true:=rfl;simp only[tpV]at bu;simp only[fM];simp[ok3];refine cd pk ?_;simp;refine lo (VH (kk:=k) (vals:=vals) he hb p4 _ _ _ _ e [] rfl ?_);simp
 obtain⟨h',e1,hh⟩:=nN (acU 2) (L:=e.length) (cells:=e.map λx=>row (mkI p x)) (h:=[(1,.vars [.d (.int .u8 k),jX i4D e,B vals]),(1,.vars [.d nPQ,.d nPQ,.d nPQ]),(acU 2).b e.length (e.map λx=>row (mkI p x)),nnQ]) rfl (by simp[acU])
 obtain ⟨x,hx⟩:∃x,h'=[(1,.vars [.d (.int .u8 k),jX i4D e,B vals]),(1,.vars [.d nPQ,.d nPQ,.d nPQ]),x,nnQ]:=by
  rcases hh with⟨_,hh⟩|⟨_,hh⟩
  .grind
  .exact⟨_,hh⟩
 rw[<-em]at e1;have sp:∀h:Hp,cO h (lst di p)=some (lst di p,h):=λh=>rfl
 have sb:∀h:Hp,cO h (B vals)=some (B vals,h):=λh=>rfl
 refine sX (ds:=[lst di p,mat (e.map (mkI p)),B vals]) (h':=h') (by simp_all[aT]) bu ?_;rw[show ∀h:Hp,(if cD (V.tup [V.agg [lst di p,mat C,mat W],I 0])=true then h else h')=h' from λ_=>rfl,hx];simp[ok1,ok2];exact⟨_,by rfl⟩
structure af7(p:LiQ)(C W:Mz):Prop where
 t:qC p C W
 hw:HmF p.length W
 hc:HmF p.length C
 bw:W.length=2->BdE 157464 W
 b6:BdE (10^6) W
theorem adu{e:List I4}(hk:k<256)(he:e.length<=3)(hb:∀x∈e,ok4 x):
  ∃C W,CP Y F.fM [.agg [.d (.int .u8 k),jX i4D e,B vals]] (tpV (mY k) C W)∧af7 (mY k) C W:=by
 obtain⟨p1,p2,p3,p4,p5⟩:=Vb _ (Bm k);have hlen:∀y:I4,(mkI (mY k) y).length=(mY k).length:=λy=>by grind[mkI,itv,i4L]
 have hsm:∀(y:I4),∀z∈mkI (mY k) y,z.natAbs<=9:=λy z hz=>by
  grind[mkI,itv]
 obtain ⟨g,w,c,f,R⟩:=aa5 (n:=(mY k).length) (m:=e.map (mkI (mY k))) p4 (by grind) (λi hi=>by
  grind[rC]) (λi j=>by
  by_cases hi:i<(e.map (mkI (mY k))).length
  .by_cases hj:j<(mY k).length
   .have hel:nth [] (e.map (mkI (mY k))) i=mkI (mY k) (e[i]'(by grind)):=by rw[rC _ _ hi,List.getElem_map]
    grind[fG]
   .rw[Tu (n:=(mY k).length) (λi hi=>by grind[rC]) aa];simp
  .rw[ut aa];simp)
 have lw:sZ (mY k).length w:=zM p3 aa R.hw (R.bw.mono af);have lc:sZ (mY k).length c:=zM p3 aa R.hc (R.bc.mono af);refine⟨_,_,Sp (vals:=vals) hk he hb R,?_⟩;cases vals with
 |false=>exact⟨⟨p1,lc,lw,JJ aa R.hc (R.bc.mono af),100000,f,Z8 _,R.cw,R.wc⟩,R.hw,R.hc,R.sw,R.bw⟩
 |true=>exact⟨⟨p1,lw,lc,JJ aa R.hw (R.bw.mono af),100000,f,Z8 _,R.wc,R.cw⟩,R.hc,R.hw,R.sc,R.bc⟩
theorem KI{w:Int}(hz:ndg z.natAbs<1000000)(hw:ndg w.natAbs<1000000):CP Y F.fJ [S (itoa z),S (itoa w)] (I (sgn (z-w))):=by
 refine vC ?_;simp[fJ];refine cd (qJ z) ?_;simp;refine cd (qJ w) ?_;by_cases h:sgn z=sgn w
 .have sz:=sC (itoa z);have sw:=sC (itoa w);rw[sS,w7]at sz sw;simp[h];refine cd sz ?_;simp;refine cd sw ?_;simp;by_cases g:z<0
  .have g2:w<0:=by unfold sgn at h;split at h<;>split at h<;>first|omega|(split at h<;>first|omega|(split at h<;>omega))
   have e:Big.cmp w.natAbs z.natAbs=sgn (z-w):=by
    unfold Big.cmp sgn;split<;>split<;>first|omega|(split<;>omega)
   refine aH ?_;simp(disch:=try exact ae)[g];refine cd (sf hw hz) ?_;exact aY e
  .have g2:¬w<0:=by unfold sgn at h;split at h<;>split at h<;>first|omega|(split at h<;>first|omega|(split at h<;>omega))
   have e:Big.cmp z.natAbs w.natAbs=sgn (z-w):=by
    unfold Big.cmp sgn;split<;>split<;>first|omega|(split<;>omega)
   refine aH ?_;simp(disch:=try exact ae)[g];refine cd (sf hz hw) ?_;exact aY e
 .simp[h];by_cases g:sgn z<sgn w
  ·have e:(-1:Int)=sgn (z-w):=by
    revert g;unfold sgn
    split<;>split<;>(try split)<;>(try split)<;>(try split)<;>omega
   simp[g];exact aY e
  ·have e:(1:Int)=sgn (z-w):=by
    revert g h;unfold sgn
    split<;>split<;>(try split)<;>(try split)<;>(try split)<;>omega
   simp[g];exact aY e
theorem Px{d:Nat}(h:0<d):sgn (z*d)=sgn z:=by
 have hd:(0:Int)<d:=aa;unfold sgn;by_cases h0:z=0
 .simp[h0]
 ·have h1:¬z*(d:Int)=0:=λe=>by
   rcases Int.mul_eq_zero.1 e with e|e<;>omega
  rw[if_neg h0,if_neg h1];by_cases h2:z<0
  .rw[if_pos h2,if_pos (Int.mul_neg_of_neg_of_pos h2 hd)]
  .rw[if_neg h2,if_neg (by have:=Int.mul_pos (show 0<z by omega) hd;omega)]
theorem F5{a b:Q}(ha:okQ a)(hb:okQ b)(la:qL 100000 a)(lb:qL 100000 b):CP Y F.fB [.agg (qT a),.agg (qT b)] (I (sgn (a.1*b.2-b.1*a.2))):=by
 refine yT ?_;have b1:=uG a;have b2:=uG b;have la1:=la.1;have la2:=la.2;have lb1:=lb.1;have lb2:=lb.2;have w1:=KI (z:=a.1) (w:=b.1) aa aa;have m1:=pF (z:=a.1) (w:=(b.2:Int)) aa (by rw[Int.natAbs_natCast];omega);have m2:=pF (z:=b.1) (w:=(a.2:Int)) aa (by rw[Int.natAbs_natCast];omega);rw[j5]at m1 m2
 have big:∀(z:Int)(n:Nat),ndg z.natAbs<=100000->ndg n<=100000->ndg (z*n).natAbs<1000000:=λz n h1 h2=>by
  have h3:=Ym (cF z.natAbs) (cF n);rw[<-X9]at h3;have e:(z*(n:Int)).natAbs=z.natAbs*n:=by rw[Zf,Int.natAbs_natCast]
  rw[<-e]at h3;have h4:=gG (d:=ndg z.natAbs+ndg n+1) (Z3 h3 (Z0 af aa)) aa;omega
 have w2:=KI (z:=a.1*b.2) (w:=b.1*a.2) (big _ _ la1 lb2) (big _ _ lb1 la2);simp[fB,qT];refine cd (args:=[.agg (qT a)]) b1 ?_ (by rfl);by_cases h1:sdg a.1<=9∧ndg a.2<=9
 .simp[h1.1,h1.2];refine aH ?_;simp;refine cd (args:=[.agg (qT b)]) b2 ?_ (by rfl);by_cases h2:sdg b.1<=9∧ndg b.2<=9
  ·have sm:∀(z:Int)(n:Nat),sdg z<=9->ndg n<=9->(z*n).natAbs<10^18:=λz n h1 h2=>by
    have h3:=Ym (rN h1) (Z3 (cF n) (Z0 af h2));rw[Zf,Int.natAbs_natCast];exact Z3 h3 af
   have s1:=sm a.1 b.2 h1.1 h2.2;have s2:=sm b.1 a.2 h2.1 h1.2;simp[h2.1,h2.2];generalize a.1*(b.2:Int)=x at *;generalize b.1*(a.2:Int)=y at *;have wx:IntKind.wrap .i64 x=x:=wrap_i64 ⟨aa,aa⟩;have wy:IntKind.wrap .i64 y=y:=wrap_i64 ⟨aa,aa⟩;rw[wx,wy];refine Ng (λg=>?_) (λg=>?_)
   .exact aY (by unfold sgn;rw[if_neg aa,if_pos aa])
   .simp[wx,wy];refine Ng (λg2=>?_) (λg2=>?_)
    .exact aY (by unfold sgn;rw[if_neg aa,if_neg aa])
    .exact aY (by unfold sgn;rw[if_pos aa])
  .have h2':(decide (sdg b.1<=9)&&decide (ndg b.2<=9))=false:=by grind
   simp[h2',-Bool.decide_and];by_cases e:a.2=b.2
   .have es:sgn (a.1*b.2-b.1*a.2)=sgn (a.1-b.1):=by rw[e,<-Int.sub_mul,Px hb.1]
    have e2:ah a.2=ah b.2:=by rw[e]
    simp(disch:=try exact ae)[e2];refine cd w1 ?_;exact aY es.symm
   .have e2:¬ah a.2=ah b.2:=λh=>e (py h)
    simp(disch:=try exact ae)[e2];refine cd m1 ?_;simp(disch:=try exact ae);refine cd m2 ?_;simp(disch:=try exact ae);refine cd w2 ?_;exact aY rfl
 .have h1':(decide (sdg a.1<=9)&&decide (ndg a.2<=9))=false:=by grind
  .simp[h1',-Bool.decide_and];refine aH ?_;simp;by_cases e:a.2=b.2
   .have es:sgn (a.1*b.2-b.1*a.2)=sgn (a.1-b.1):=by rw[e,<-Int.sub_mul,Px hb.1]
    have e2:ah a.2=ah b.2:=by rw[e]
    simp(disch:=try exact ae)[e2];refine cd w1 ?_;exact aY es.symm
   .have e2:¬ah a.2=ah b.2:=λh=>e (py h)
    simp(disch:=try exact ae)[e2];refine cd m1 ?_;simp(disch:=try exact ae);refine cd m2 ?_;simp(disch:=try exact ae);refine cd w2 ?_;exact aY rfl
structure EnS where
 lo:Option Q
 hi:Option Q
 em:Bool
def oT:Option Q->LwQ
 |some q=>qT q
 |none=>[S [],S []]
def enC(s:EnS):LwQ:=oT s.lo++oT s.hi++[B s.lo.isSome,B s.hi.isSome,B s.em]
def okE(s:EnS):Prop:=(∀q,s.lo=some q->okQ q∧qL 1000 q)∧∀q,s.hi=some q->okQ q∧qL 1000 q
def J9(a b:Q):Int:=sgn (a.1*b.2-b.1*a.2)
def zY(s:EnS)(b:Int)(k:Q):EnS:=
 if b>0 then(match s.lo with
  |none=>{s with lo:=some k}
  |some q=>if J9 k q>0 then{s with lo:=some k}else s)
 else (match s.hi with
  |none=>{s with hi:=some k}
  |some q=>if J9 k q<0 then{s with hi:=some k}else s)
def oL(s:EnS)(a b div:Int):EnS:=if b=0 then{s with em:=s.em||decide (a<0)}else zY s b (rP (de (-a) div) (b,1))
theorem Dt(k:Q):oT (some k)=[S (itoa k.1),S (ah k.2)]:=rfl
theorem Bq(o:Option Q):∃x y:LuQ,oT o=[S x,S y]:=by
 cases o with
 |none=>exact⟨_,_,rfl⟩
 |some q=>exact⟨_,_,rfl⟩
def kpH(x0 x1 x3:Nat×Bk)(e:Nat)(st:EnS):Hp:=[x0,x1,(e,.vars (enC st)),x3]
variable{x0 x1 x3:Nat×Bk}{e:Nat}
theorem w6{st':EnS}{t:Hp}{cs:LwQ}(hu0:ax 4 x0.2=true)(hu1:ax 4 x1.2=true)(hu3:ax 4 x3.2=true)(hst:enC st'=cs):mN 4 (.tup []) (kpH x0 x1 x3 e st') (.tup []) (x0::x1::(e,.vars cs)::x3::t):=by
 subst hst;obtain⟨lo,hi,em⟩:=st';obtain⟨a1,a2,ha⟩:=Bq lo;obtain⟨b1,b2,hb⟩:=Bq hi;refine⟨rfl,?_,.inl ⟨rfl,rfl⟩⟩;have h2:ax 4 (.vars (enC ⟨lo,hi,em⟩))=true:=by simp[enC,ha,hb,ax,ji,under]
 grind[kpH]
theorem aa8{st:EnS}{a b div:Int}(hst:okE st)(ha : -2000000000<=a∧a<=2000000000)(hb : -2000000000<=b∧b<=2000000000)(hd:div≠0)(hdb : -1000000000<=div∧div<=1000000000)
  (hu0:ax 4 x0.2=true) (hu1:ax 4 x1.2=true) (hu3:ax 4 x3.2=true):CI Y F.fk [.ptr 2 e 0 7,I a,I b,I div] (kpH x0 x1 x3 e st) (.tup []) (kpH x0 x1 x3 e (oL st a b div)):=by
 refine wA ?_;obtain⟨E0,B0⟩:=x0;obtain⟨E1,B1⟩:=x1;obtain⟨E3,B3⟩:=x3;obtain⟨lo,hi,em⟩:=st;obtain⟨x1,x2,hx⟩:=Bq lo;obtain⟨y1,y2,hy⟩:=Bq hi;have hE:enC ⟨lo,hi,em⟩=[S x1,S x2,S y1,S y2,B lo.isSome,B hi.isSome,B em]:=by simp[enC,hx,hy]
 have hK:kpH (E0,B0) (E1,B1) (E3,B3) e ⟨lo,hi,em⟩=[(E0,B0),(E1,B1),(e,.vars [S x1,S x2,S y1,S y2,B lo.isSome,B hi.isSome,B em]),(E3,B3)]:=by rw[kpH,hE]
 rw[hK];simp only[fk];by_cases b0:b=0
 .subst b0;cases em with
  | true=>
   simp
   grind[w6,oL]
  | false=>
   simp
   grind[w6,enC,oL]
 .have f1:=uz (n:=-a) (d:=div) hd aa aa aa aa
  have f2:CP Y F.dT [I b,I 1] (.tup [.agg (qT (b,1)),I 0]):=by
   have:=uz (n:=b) (d:=1) af aa aa af af
   rwa [Fo]at this
  have lz:=m5 (n:=-a) hd;have lL:qL 30 (de (-a) div):=BB (Zy (pP aa aa) af) (Zy (pP aa aa) af);have o2:=Fb b aa aa;have f3:=FZ lz o2.1 aa (lL.mono aa) (o2.2.mono aa);have kO:okQ (rP (de (-a) div) (b,1)):=PQ lz aa
  have kL:qL 1000 (rP (de (-a) div) (b,1)):=(U3 lL o2.2).mono aa;obtain⟨k,hk⟩:=nmQ (rP (de (-a) div) (b,1))
  have hkf:oL ⟨lo,hi,em⟩ a b div=zY ⟨lo,hi,em⟩ b k:=by
   simp only[oL,if_neg b0,hk]
  rw[<-hk]at f3 kO kL;rw[hkf];generalize de (-a) div=w1 at *;simp only[qT]at f1 f2 f3;simp(disch:=try exact ae)[b0];refine cd f1 ?_;simp;refine cd f2 ?_ (by rfl);simp;refine cd f3 ?_ (by rfl);simp;refine aH ?_;by_cases bp:b>0
  .cases lo with
   | none=>
    simp[bp];refine aH ?_;simp
    grind[w6,zY,enC,Dt]
   | some q=>
    have q1:=hst.1 q rfl;have cm:=F5 kO q1.1 (kL.mono aa) (q1.2.mono aa);simp only[qT]at cm;simp only[oT,qT,List.cons.injEq,V.d.injEq,D.str.injEq,and_true]at hx;obtain⟨rfl,rfl⟩:=hx;simp[bp];refine cd cm ?_ (by rfl);by_cases cp:sgn (k.1*q.2-q.1*k.2)>0
    .simp[cp];refine aH ?_;simp
     grind[w6,zY,enC,Dt,J9]
    .have bn:¬b<0:=aa;simp[cp,bn];refine aH ?_;simp[bn];refine aH ?_;simp
     grind[w6,zY,J9]
  .have bn:b<0:=aa;cases hi with
   | none=>
    simp[bp,bn];refine aH ?_;simp[bn];refine aH ?_;simp
    grind[w6,zY,enC,Dt]
   | some q=>
    have q1:=hst.2 q rfl;have cm:=F5 kO q1.1 (kL.mono aa) (q1.2.mono aa);simp only[qT]at cm;simp only[oT,qT,List.cons.injEq,V.d.injEq,D.str.injEq,and_true]at hy;obtain⟨rfl,rfl⟩:=hy;simp[bp];refine aH ?_;simp[bn];refine cd cm ?_ (by rfl);by_cases cp:sgn (k.1*q.2-q.1*k.2)<0
    .simp[cp];refine aH ?_;simp
     grind[w6,zY,enC,Dt,J9]
    .simp[cp];refine aH ?_;simp
     grind[w6,zY,J9]
theorem Ms{st:EnS}{a b:Int}(hst:okE st)(ha : -2000000000<=a∧a<=2000000000)(hb : -2000000000<=b∧b<=2000000000)(hd:div≠0)(hdb : -1000000000<=div∧div<=1000000000):okE (oL st a b div):=by
 unfold oL;by_cases b0:b=0
 .rw[if_pos b0];exact hst
 .rw[if_neg b0];have lz:=m5 (n:=-a) hd;have lL:qL 30 (de (-a) div):=BB (Zy (pP aa aa) af) (Zy (pP aa aa) af);have o2:=Fb b aa aa;have kO:okQ (rP (de (-a) div) (b,1)):=PQ lz aa;have kL:qL 1000 (rP (de (-a) div) (b,1)):=(U3 lL o2.2).mono aa
  generalize rP (de (-a) div) (b,1)=k at *;unfold zY;obtain⟨h1,h2⟩:=hst;obtain⟨lo,hi,em⟩:=st;split
  .split
   .exact⟨λq hq=>by grind,h2⟩
   .split
    .exact⟨λq hq=>by grind,h2⟩
    trivial
  .split
   .exact⟨h1,λq hq=>by grind⟩
   .split
    .exact⟨h1,λq hq=>by grind⟩
    trivial
structure Rg where
 lo:List Q
 hi:List Q
 hl:Bool
 hh:Bool
 em:Bool
def rgV(r:Rg):V:=.agg [szV r.lo,szV r.hi,B r.hl,B r.hh,B r.em]
def oD:Option Q->LdQ
 |some q=>[.str (itoa q.1),.str (ah q.2)]
 |none=>[.str [],.str []]
def enD(s:EnS):LdQ:=oD s.lo++oD s.hi++[.bool s.lo.isSome,.bool s.hi.isSome,.bool s.em]
def Q7(s:EnS):Bool:=match s.lo,s.hi with
 |some a,some b=>decide (J9 a b>0)
 |_,_=>false
def scQ(n:Nat)(q:Q):List Q:=pJ n [kN n] [q]
def oS(n:Nat):Option Q->List Q
 |some q=>scQ n q
 |none=>[]
def asR(n:Nat)(s:EnS):Rg:=if s.em||Q7 s then⟨[],[],false,false,true⟩else⟨oS n s.lo,oS n s.hi,s.lo.isSome,s.hi.isSome,false⟩
def okF(n:Nat)(o:Option Q):Prop:=∀q,o=some q->(okQ q∧qL 30 q)∧okS (scQ n q)
theorem Oj(h:Hp)(cs:LdQ)(i:Nat){d:D}(hd:cs[i]?=some d):ld1 h (.dptr cs i)=some (.d d):=by simp[ld1,hd]
theorem aa3(h:Hp)(a b:D)(t:LdQ):ldA h 2 (.dptr (a::b::t) 0)=some (.agg [.d a,.d b]):=by rfl
theorem aa2(h:Hp)(x y a b:D)(t:LdQ):ldA h 2 (.dptr (x::y::a::b::t) 2)=some (.agg [.d a,.d b]):=by rfl
theorem TX(x0:Nat×Bk)(v b c d e:V)(s:List Q):st [x0,(1,.vars [v,b,c,d,e])] 1 (.ptr 1 1 0 5) (szV s)=some [x0,(1,.vars [szV s,b,c,d,e])]:=rfl
theorem af2{p:LiQ}{st:EnS}(hp:pcB p=0)(h0:0<p.length)(hN:p.length<1000)(h1:okF p.length st.lo)(h2:okF p.length st.hi):CP Y F.jc [.dptr (enD st) 0,lst di p] (.tup [rgV (asR p.length st),I 0]):=by
 refine yj ?_;obtain⟨lo,hi,em⟩:=st;have sc:∀q,(okQ q∧qL 30 q)∧okS (scQ p.length q)->CP Y F.fc [lst di p,.agg (qT q)] (.tup [szV (scQ p.length q),I 0]):=λq hq=>EE hp h0 hN hq.1 hq.2
 have okz:∀s:List Q,okV (szV s)=true:=λ_=>rfl
 obtain⟨a1,a2,hlo⟩:∃a1 a2,oD lo=[.str a1,.str a2]:=by cases lo<;>exact⟨_,_,rfl⟩
 obtain⟨b1,b2,hhi⟩:∃b1 b2,oD hi=[.str b1,.str b2]:=by cases hi<;>exact⟨_,_,rfl⟩
 obtain⟨C,hC⟩:=nmQ (enD ⟨lo,hi,em⟩);have hC2:C=[.str a1,.str a2,.str b1,.str b2,.bool lo.isSome,.bool hi.isSome,.bool em]:=by rw[hC];simp[enD,hlo,hhi]
 have l4:∀h,ld1 h (.dptr C 4)=some (B lo.isSome):=λh=>Oj h C 4 (by grind)
 have l5:∀h,ld1 h (.dptr C 5)=some (B hi.isSome):=λh=>Oj h C 5 (by grind)
 have l6:∀h,ld1 h (.dptr C 6)=some (B em):=λh=>Oj h C 6 (by grind)
 have m0:∀h,ldA h 2 (.dptr C 0)=some (.agg [S a1,S a2]):=λh=>by grind[aa3]
 have m2:∀h,ldA h 2 (.dptr C 2)=some (.agg [S b1,S b2]):=λh=>by grind[aa2]
 rw[<-hC];simp only[jc];cases em with
 | true=>
  simp[l6];exact⟨_,rfl⟩
 | false=>
  cases lo with
  | none=>
   cases hi with
   | none=>
    simp[l6,l4,l5];refine aH ?_;simp[l5];refine aH ?_;simp;exact⟨_,rfl⟩
   | some b=>
    have hb:=h2 b rfl;have s2:=sc b hb;simp only[oD,List.cons.injEq,D.str.injEq,and_true]at hhi;obtain⟨rfl,rfl⟩:=hhi;simp only[qT]at s2;simp[l6,l4,l5];refine aH ?_;simp[l5];refine aH ?_;simp[m2];refine cd s2 ?_ (by rfl);simp[okz];exact⟨_,rfl⟩
  | some a=>
   have ha:=h1 a rfl;have s1:=sc a ha;simp only[oD,List.cons.injEq,D.str.injEq,and_true]at hlo;obtain⟨rfl,rfl⟩:=hlo;cases hi with
   | none=>
    simp only[qT]at s1;simp[l6,l4,l5];refine aH ?_;simp[m0];refine cd s1 ?_ (by rfl);simp[TX,l5];refine aH ?_;simp;exact⟨_,rfl⟩
   | some b=>
    have hb:=h2 b rfl;have s2:=sc b hb;simp only[oD,List.cons.injEq,D.str.injEq,and_true]at hhi;obtain⟨rfl,rfl⟩:=hhi;have cm:=F5 ha.1.1 hb.1.1 (ha.1.2.mono aa) (hb.1.2.mono aa);simp only[qT]at s1 s2 cm;simp[l6,l4,l5,m0,m2];refine cd cm ?_ (by rfl);by_cases cp:sgn (a.1*b.2-b.1*a.2)>0
    .have ea:asR p.length ⟨some a,some b,false⟩=⟨[],[],false,false,true⟩:=by simp[asR,Q7,J9,cp]
     rw[ea];simp[cp];exact⟨_,rfl⟩
    .have ea:asR p.length ⟨some a,some b,false⟩=⟨scQ p.length a,scQ p.length b,true,true,false⟩:=by simp[asR,Q7,J9,cp,oS]
     rw[ea];simp[cp,l4,l5];refine aH ?_;simp[m0];refine cd s1 ?_ (by rfl);simp[TX,l5];refine aH ?_;simp[m2];refine cd s2 ?_ (by rfl);simp[okz];exact⟨_,rfl⟩
def GA(div:Int):EnS->LiQ->Mz->EnS
 |st,_,[]=>st
 |st,r,s::q=>GA div (oL st (nth 0 s 0-nth 0 r 0) (nth 0 s 1-nth 0 r 1) div) s q
theorem Hv{rows:Mz}{div:Int}(hn:rows.length<1000)(h2:∀r∈rows,r.length=2∧bd9 r)(hd:div≠0)(hdb : -1000000000<=div∧div<=1000000000){x0 x1:Nat×Bk}(hu0:ax 4 x0.2=true)(hu1:ax 4 x1.2=true)
  (o0:offB [3] x0.2=true) (o1:offB [3] x1.2=true) (h0:Hp) (hh:∃a b c d,h0=[a,b,c,(0,d)]) (K:KL):∀(q a:Mz)(r:LiQ)(st:EnS),rows=a++r::q->okE st ->
  K (.exit 0) [] (kpH x0 x1 nnQ 1 (GA div st r q)) ->
  lp (lT (CX Y) (mat rows) (I div) (.ptr 2 1 0 7)) [3] h0 [I ((a.length:Int)+1)] (kpH x0 x1 nnQ 1 st) K
 | [],a,r,st,e,hst,hK=>by
  refine aj ?_;have hl:rows.length=a.length+1:=by rw[e];simp
  have l1:aQ (mat rows)=some (I rows.length):=rfl;have hlt:¬((a.length:Int)+1<(rows.length:Int)):=aa;simp only[lT];simp[l1,hlt];exact hK
 | s::q,a,r,st,e,hst,hK=>by
  refine aj ?_;have hl:a.length+1<rows.length:=by rw[e];simp
  have l1:aQ (mat rows)=some (I rows.length):=rfl;have hlt:((a.length:Int)+1<(rows.length:Int)):=aa;have hrm:r∈rows:=by rw[e];simp
  have hsm:s∈rows:=by rw[e];simp
  obtain⟨r2,rb⟩:=h2 r hrm;obtain⟨s2,sb⟩:=h2 s hsm;have R0:∀h:Hp,ixV h 1 (mat rows) (I a.length)=some (.dptr (rows.map row) a.length):=λh=>d8 row rows h rfl aa
  have R1:∀h:Hp,ixV h 1 (mat rows) (I ((a.length:Int)+1))=some (.dptr (rows.map row) (a.length+1)):=λh=>d8 row rows h aa hl
  have L0:∀h:Hp,ld1 h (.dptr (rows.map row) a.length)=some (lst di r):=λh=>by
   rw[k8 row rows _ aa];simp only[e,Zl (Z8 _),Ze,Zh];rfl
  have L1:∀h:Hp,ld1 h (.dptr (rows.map row) (a.length+1))=some (lst di s):=λh=>by
   have e5:rows[a.length+1]=s:=by simp[e]
   rw[k8 row rows _ hl,e5];rfl
  have X:∀(t:LiQ),t.length=2->∀h:Hp,ixV h 1 (lst di t) (.d (.int .i64 0))=some (.dptr (t.map di) 0)∧ld1 h (.dptr (t.map di) 0)=some (I (nth 0 t 0))∧ixV h 1 (lst di t) (.d (.int .i64 1))=some (.dptr (t.map di) 1)∧ld1 h (.dptr (t.map di) 1)=some (I (nth 0 t 1)):=λt ht h=>
   ⟨d8 di t h rfl aa,eH di 0 t h aa,d8 di t h rfl aa,eH di 0 t h aa⟩
  have Xr:=X r r2;have Xs:=X s s2;have r0b:=rb (nth 0 r 0) (fG aa);have r1b:=rb (nth 0 r 1) (fG aa);have s0b:=sb (nth 0 s 0) (fG aa);have s1b:=sb (nth 0 s 1) (fG aa);have kp:=aa8 (x0:=x0) (x1:=x1) (x3:=nnQ) (e:=1) (a:=nth 0 s 0-nth 0 r 0) (b:=nth 0 s 1-nth 0 r 1) hst aa aa hd hdb hu0 hu1 rfl
  have kE:=Ms (a:=nth 0 s 0-nth 0 r 0) (b:=nth 0 s 1-nth 0 r 1) hst aa aa hd hdb;have ih:=Hv hn h2 hd hdb hu0 hu1 o0 o1 h0 hh K q (a++[r]) s _ (by simp[e]) kE hK;have e4:((a++[r]).length:Int)=(a.length:Int)+1:=ac;rw[e4]at ih;obtain⟨H,hH⟩:=nmQ (kpH x0 x1 nnQ 1 st);rw[<-hH]at kp ⊢;simp only[lT]
  simp(disch:=try exact ae)[l1,hlt,R1,L1,R0,L0,(Xr _).1,(Xr _).2.1,(Xr _).2.2.1,(Xr _).2.2.2,(Xs _).1,(Xs _).2.1,(Xs _).2.2.1,(Xs _).2.2.2];refine gK kp ?_ ac
  have cl:clean [3] [I ((a.length:Int)+1+1)] (kpH x0 x1 nnQ 1 (oL st (nth 0 s 0-nth 0 r 0) (nth 0 s 1-nth 0 r 1) div))=true:=by
   simp only[clean,Z7];refine⟨rfl,E9 0 _ λy hy=>?_⟩;simp only[kpH,Zw,Yo,or_false]at hy;rcases hy with rfl|rfl|rfl|rfl
   .exact o0
   .exact o1
   .obtain⟨a1,a2,e1⟩:=Bq (oL st (nth 0 s 0-nth 0 r 0) (nth 0 s 1-nth 0 r 1) div).lo;obtain⟨b1,b2,e2⟩:=Bq (oL st (nth 0 s 0-nth 0 r 0) (nth 0 s 1-nth 0 r 1) div).hi;simp only[enC,e1,e2];rfl
   .rfl
  have rs:aL [3] 0 h0 (kpH x0 x1 nnQ 1 (oL st (nth 0 s 0-nth 0 r 0) (nth 0 s 1-nth 0 r 1) div))=kpH x0 x1 nnQ 1 (oL st (nth 0 s 0-nth 0 r 0) (nth 0 s 1-nth 0 r 1) div):=by
   obtain⟨a',b',c',d',rfl⟩:=hh;obtain⟨A1,A2⟩:=a';obtain⟨B1,B2⟩:=b';obtain⟨C1,C2⟩:=c';obtain⟨X1,X2⟩:=x0;obtain⟨Y1,Y2⟩:=x1;rfl
  have ea:biI BinOp.add (I ((a.length:Int)+1)) (V.d (D.int IntKind.i64 1))=some (I ((a.length:Int)+1+1)):=by simp(disch:=try exact ae)
  simp_all
theorem K0{div:Int}(hd:div≠0)(hdb : -1000000000<=div∧div<=1000000000):∀(q:Mz)(r:LiQ)(st:EnS),okE st->(∀s∈r::q,s.length=2∧bd9 s)->okE (GA div st r q)
 |[],_,_,h,_=>h
 | s::q,r,st,h,hb=>by
  obtain⟨r2,rb⟩:=hb r ac;obtain⟨s2,sb⟩:=hb s ac;have r0b:=rb (nth 0 r 0) (fG aa);have r1b:=rb (nth 0 r 1) (fG aa);have s0b:=sb (nth 0 s 0) (fG aa);have s1b:=sb (nth 0 s 1) (fG aa);exact K0 hd hdb q s _ (Ms h aa aa hd hdb) λt ht=>hb t (by grind)
theorem afP(st:EnS):J1 (enC st)=some (enD st):=by obtain⟨lo,hi,em⟩:=st;cases lo<;>cases hi<;>rfl
theorem ad7(st:EnS):(enC st).length=7:=by obtain⟨lo,hi,em⟩:=st;cases lo<;>cases hi<;>rfl
def en0:EnS:=⟨none,none,false⟩
variable{p:LiQ}{c w:Mz}
theorem RI(h:qC p c w)(hg:gtB w=0){l:Mz}{x:LiQ}{q:Mz}(hlx:l=x::q)(hl:l.length<=60)(ho:∀x∈l,Di p w x)(hm:mzB p l=0)
  (h1:okF p.length (GA (nth 0 (nth [] w 0) 0) en0 (aW w x) (q.map (aW w))).lo) (h2:okF p.length (GA (nth 0 (nth [] w 0) 0) en0 (aW w x) (q.map (aW w))).hi) :
  CP Y F.f9 [tpV p c w,mat l] (.tup [rgV (asR p.length (GA (nth 0 (nth [] w 0) 0) en0 (aW w x) (q.map (aW w)))),I 0]):=by
 refine zp ?_;simp only[f9,tpV];obtain⟨div,hdiv⟩:=nmQ (nth 0 (nth [] w 0) 0)
 have w2:w.length=2:=by
  apply Classical.byContradiction;intro e;simp[gtB,e]at hg
 have hd:div≠0:=by
  rw[hdiv];intro e;simp[gtB,w2,e]at hg
 have hw0:nth [] w 0∈w:=by rw[cn _ _ _ aa];exact Yx _
 have hdb : -1000000000<=div∧div<=1000000000:=by
  rw[hdiv];exact h.lw.sm _ hw0 _ (fG (by rw[h.lw.rl _ hw0];exact h.lw.n0))
 have td:=IP h hg hl ho hm;have hn:=h.lc.n12;rw[<-hdiv]at td h1 h2 ⊢;simp;refine cd (args:=[tpV p c w,mat l]) td ?_ (by rfl);simp
 have hb:∀s∈l.map (aW w),s.length=2∧bd9 s:=λs hs=>by
  obtain⟨y,hy,rfl⟩:=Zx.1 hs;exact⟨by simp[aW,w2],(ho y hy).t⟩
 have e0:okE en0:=⟨λq hq=>(by cases hq),λq hq=>(by cases hq)⟩;have ht:okE (GA div en0 (aW w x) (q.map (aW w))):=K0 hd hdb _ _ _ e0 (by grind)
 refine lo (Hv (rows:=l.map (aW w)) (div:=div) (by grind) hb hd hdb (x0:=(1,.vars [lst di p,mat c,mat w])) (x1:=(1,.vars [nlV,nlV,B false,B false,B false])) rfl rfl rfl rfl _ ⟨_,_,_,_,rfl⟩ _ (q.map (aW w)) [] (aW w x) en0 (by grind) e0 ?_);have aso:=af2 (p:=p) (st:=GA div en0 (aW w x) (q.map (aW w))) h.pr h.lw.n0 aa h1 h2
 generalize GA div en0 (aW w x) (q.map (aW w))=st at *;obtain⟨R,hR⟩:=nmQ (asR p.length st);rw[<-hR]at aso ⊢
 have sn:aT (kpH (1,.vars [lst di p,mat c,mat w]) (1,.vars [nlV,nlV,B false,B false,B false]) nnQ 1 st) [.ptr 2 1 0 7,lst di p]=some ([.dptr (enD st) 0,lst di p],[(1,.vars [lst di p,mat c,mat w]),(1,.vars [nlV,nlV,B false,B false,B false]),(1,.data 1 (enD st) false true),nnQ]):=by
  have g:aw (kpH (1,.vars [lst di p,mat c,mat w]) (1,.vars [nlV,nlV,B false,B false,B false]) nnQ 1 st) 2 1=.vars (enC st):=rfl;simp only[aT,cO,g,afP,ad7,if_true];rfl
 obtain⟨H,hH⟩:=nmQ (kpH (1,.vars [lst di p,mat c,mat w]) (1,.vars [nlV,nlV,B false,B false,B false]) nnQ 1 st);rw[<-hH]at sn ⊢;have g0:lh H 0 1=.vars [lst di p,mat c,mat w]:=by rw[hH];rfl
 simp[g0];refine sX sn aso ?_;have okz:∀s:List Q,okV (szV s)=true:=λ_=>rfl
 simp only[rgV,cD];simp[okz];exact⟨_,rfl⟩
variable{l:Int->Nat}{N:Nat}
theorem ae1(s:List Q)(h:Hp)(hi:i<s.length):∃w,ixV h 2 (szV s) (I i)=some w∧ldA h 2 w=some (.agg (qT (nth (0,1) s i))):=by
 have h1:=oU aE aN (s.map tx) h (k:=.i64) (i:=(i:Int)) aa (by grind);rw[Int.toNat_natCast]at h1;refine⟨_,h1,?_⟩;have h2:=oR aE aN (tx (0,1)) (s.map tx) h (j:=i) (by grind);rw[h2]
 have e:nth (tx (0,1)) (s.map tx) i=tx (nth (0,1) s i):=by
  rw[cn _ _ _ (by grind),cn _ _ _ hi,List.getElem_map]
 rw[e];rfl
variable{a:Ad}
variable{a:Ad}{h:Hp}
section
variable{p:LiQ}{b:Nat}
variable{B:Nat}{owns:List LLQ}{steps:List (List LLQ)}
end
variable{a:Ad}
theorem ON{h:Hp}(hu:(h.all λx=>ax h.length x.2)=true){l:List Q}(hl:0<l.length)(hb:l.length<1000000000):CI Y F.aA [szV l] h (.new 2 ((l.map tx).flatMap aE) false l.length l.length) h:=by
 refine oz ?_;have fl:((l.map tx).flatMap aE).length=l.length*2:=by rw[eW aE aN,List.length_map]
 have e:szV l=.d (.sl l.length ((l.map tx).flatMap aE)):=by unfold szV jX;rw[List.length_map]
 rw[e];generalize(l.map tx).flatMap aE=cells at *
 have nl:∀(H:Hp)(k:V->Prop)(u:PU k),rn (uX H .eql (.d (.sl l.length cells)) (.d nPQ)) k u=k (.d (.bool false)):=λH k u=>by
  obtain⟨m,hm⟩:∃m,l.length=m+1:=⟨l.length-1,aa⟩;rw[hm];rfl
 simp[aA,nl]
 have hli:dX 0 [D.str [],D.str []] [] (h++[(0,Bk.none),(0,Bk.none)])=some ([],h++[(0,Bk.none),(0,Bk.none)]):=by
  simp[dX,iP,kT]
 rw[hli];simp;refine S4 (z:=[]) af hl aa aa ?_;refine⟨ac,?_,.inr (.inr (.inl ⟨h.length+1,1,l.length,l.length,2,cells,false,ac,aa,by simp[aw],rfl⟩))⟩;simp only[Za,hu,Yu]
 try simp[ax]
section
variable{p:LiQ}{b B:Nat}{owns:List LLQ}{steps:List (List LLQ)}
end
theorem ZA(x:Q):biA [.str [],.str []] .neq (.agg (qT x)) (.agg (qT x))=some (B false):=by simp[biA,qT,De,eqC]
theorem HF{r:List Q}(hN:r.length<1000000)(K:KL)(hK:K (.exit 0) [] []):∀(q l:List Q),l++q=r ->
  lp (jS (CX Y) (szV r) (szV r)) [] [] [I l.length] [] K
 | [],l,hl=>by
  have e:l=r:=by simpa using hl
  subst e;have lr:aQ (szV l)=some (I l.length):=by simp[szV]
  refine aj ?_;simp[jS,lr];exact hK
 | x::q,l,hl=>by
  have hll:r.length=l.length+(q.length+1):=by rw[<-hl];simp
  have ih:=HF hN K hK q (l++[x]) (by grind);obtain⟨w,w1,w2⟩:=ae1 r [] (i:=l.length) aa;have hn:nth (0,1) r l.length=x:=by rw[<-hl,aaR]
  rw[hn]at w2;have g:(l.length:Int)<r.length:=aa;have e2:((l++[x]).length:Int)=(l.length:Int)+1:=ac;rw[e2]at ih;have lr:aQ (szV r)=some (I r.length):=by simp[szV]
  have bs:=ZA x;refine aj ?_;simp(disch:=try exact ae)[jS,lr,g,w1,w2,bs];exact ih
theorem uj{r:List Q}(hN:r.length<1000000):CP Y F.cM [szV r,szV r] (B true):=by
 refine xQ ?_;have lr:aQ (szV r)=some (I r.length):=by simp[szV]
 have:=HF hN (exK [(Exit.exit 0,λl4 h=>out (B true) (B true) h),(Exit.ret,λl4 h=>out (B true) (ge l4 0) h)]) (ju rfl) r [] rfl;simp[cM,lr];exact this
variable{g:FuncId}{cs:LwQ}{cf:List Q->List Q->Int}
def mnS(cf:List Q->List Q->Int)(m:List Q)(l:List (List Q)):List Q:=l.foldl (λm y=>if cf y m<0 then y else m) m
theorem Ju(hs:∀a b,aT [] ([szV a,szV b]++cs)=some ([szV a,szV b]++cs,[])){L:List (List Q)}(hn:L.length<1000)(hc:∀a∈L,∀b∈L,CP Y g ([szV a,szV b]++cs) (I (cf a b)))(K:KL) :
  ∀(q a:List (List Q))(m:List Q),L=a++q->m∈L->K (.exit 0) [szV (mnS cf m q)] [] ->
  lp (cI (CX Y) (lst szD L) (.fn g [] cs)) [] [] [szV m,I a.length] [] K
 | [],a,m,e,hm,hK=>by
  simp only[Zp]at e;subst e;refine aj ?_;have l1:aQ (lst szD L)=some (I L.length):=rfl;have hlt:¬((L.length:Int)<(L.length:Int)):=aa;simp only[cI];simp[l1,hlt];exact hK
 | y::q,a,m,e,hm,hK=>by
  refine aj ?_;have l1:aQ (lst szD L)=some (I L.length):=rfl;have hal:a.length<L.length:=by rw[e];simp
  have hlt:((a.length:Int)<(L.length:Int)):=aa;have hy:y∈L:=by rw[e];simp
  have i1:ixV [] 1 (lst szD L) (I a.length)=some (.dptr (L.map szD) a.length):=by rw[e];exact vh szD a y q _ _
  have i2:ld1 [] (.dptr (L.map szD) a.length)=some (szV y):=by
   rw[k8 szD L _ hal];simp only[e,Zl (Z8 _),Ze,Zh];rfl
  have e4:((a++[y]).length:Int)=(a.length:Int)+1:=ac;simp only[cI];simp[l1,hlt];refine aH ?_;simp[i1,i2];refine cdf (fs:=[]) (hc y hy m hm) (hs y m) ?_;by_cases h:cf y m<0
  .have ih:=Ju hs hn hc K q (a++[y]) y (by simp[e]) hy (by grind[mnS]);rw[e4]at ih;simp[h];refine aH ?_;simp(disch:=try exact ae)[i1,i2];trivial
  .have ih:=Ju hs hn hc K q (a++[y]) m (by simp[e]) hm (by grind[mnS]);rw[e4]at ih;simp[h];refine aH ?_;simp(disch:=try exact ae);trivial
theorem aaU(hs:∀a b,aT [] ([szV a,szV b]++cs)=some ([szV a,szV b]++cs,[])){x:List Q}{l:List (List Q)}(hn:(x::l).length<1000)(hc:∀a∈x::l,∀b∈x::l,CP Y g ([szV a,szV b]++cs) (I (cf a b))):
  CP Y F.bG [lst szD (x::l),.fn g [] cs] (szV (mnS cf x l)):=by
 refine oY ?_;have l1:aQ (lst szD (x::l))=some (I (x::l).length):=rfl;have g1:¬(((x::l).length:Int)<1):=by simp;omega
 have i1:ixV [] 1 (lst szD (x::l)) (.d (.int .i64 0))=some (.dptr ((x::l).map szD) 0):=d8 szD _ [] rfl ac;have i2:ld1 [] (.dptr ((x::l).map szD) 0)=some (szV x):=rfl;obtain⟨L,hL⟩:∃L,L=x::l:=⟨_,rfl⟩;rw[<-hL]at l1 g1 i1 i2 hn hc ⊢;simp only[bG];simp[l1];refine aH ?_;simp[g1,i1,i2]
 refine lo (Ju hs hn hc _ l [x] x (by trivial) (by grind) ?_);simp;exact⟨_,rfl⟩
def mxS(cf:List Q->List Q->Int)(m:List Q)(l:List (List Q)):List Q:=l.foldl (λm y=>if cf y m>0 then y else m) m
theorem Qi(cf:List Q->List Q->Int):∀(l:List (List Q))(m:List Q),mxS cf m l∈m::l
 |[],m=>by simp[mxS]
 | y::l,m=>by
  have:=Qi cf l (if cf y m>0 then y else m)
  grind[mxS]
theorem Jv(hs:∀a b,aT [] ([szV a,szV b]++cs)=some ([szV a,szV b]++cs,[])){L:List (List Q)}(hn:L.length<1000)(hc:∀a∈L,∀b∈L,CP Y g ([szV a,szV b]++cs) (I (cf a b)))(K:KL) :
  ∀(q a:List (List Q))(m:List Q),L=a++q->m∈L->K (.exit 0) [szV (mxS cf m q)] [] ->
  lp (cJ (CX Y) (lst szD L) (.fn g [] cs)) [] [] [szV m,I a.length] [] K
 | [],a,m,e,hm,hK=>by
  simp only[Zp]at e;subst e;refine aj ?_;have l1:aQ (lst szD L)=some (I L.length):=rfl;have hlt:¬((L.length:Int)<(L.length:Int)):=aa;simp only[cJ];simp[l1,hlt];exact hK
 | y::q,a,m,e,hm,hK=>by
  refine aj ?_;have l1:aQ (lst szD L)=some (I L.length):=rfl;have hal:a.length<L.length:=by rw[e];simp
  have hlt:((a.length:Int)<(L.length:Int)):=aa;have hy:y∈L:=by rw[e];simp
  have i1:ixV [] 1 (lst szD L) (I a.length)=some (.dptr (L.map szD) a.length):=by rw[e];exact vh szD a y q _ _
  have i2:ld1 [] (.dptr (L.map szD) a.length)=some (szV y):=by
   rw[k8 szD L _ hal];simp only[e,Zl (Z8 _),Ze,Zh];rfl
  have e4:((a++[y]).length:Int)=(a.length:Int)+1:=ac;simp only[cJ];simp[l1,hlt];refine aH ?_;simp[i1,i2];refine cdf (fs:=[]) (hc y hy m hm) (hs y m) ?_;by_cases h:cf y m>0
  .have ih:=Jv hs hn hc K q (a++[y]) y (by simp[e]) hy (by grind[mxS]);rw[e4]at ih;simp[h];refine aH ?_;simp(disch:=try exact ae)[i1,i2];trivial
  .have ih:=Jv hs hn hc K q (a++[y]) m (by simp[e]) hm (by grind[mxS]);rw[e4]at ih;simp[h];refine aH ?_;simp(disch:=try exact ae);trivial
theorem aaV(hs:∀a b,aT [] ([szV a,szV b]++cs)=some ([szV a,szV b]++cs,[])){x:List Q}{l:List (List Q)}(hn:(x::l).length<1000)(hc:∀a∈x::l,∀b∈x::l,CP Y g ([szV a,szV b]++cs) (I (cf a b))):
  CP Y F.bH [lst szD (x::l),.fn g [] cs] (szV (mxS cf x l)):=by
 refine oZ ?_;have l1:aQ (lst szD (x::l))=some (I (x::l).length):=rfl;have g1:¬(((x::l).length:Int)<1):=by simp;omega
 have i1:ixV [] 1 (lst szD (x::l)) (.d (.int .i64 0))=some (.dptr ((x::l).map szD) 0):=d8 szD _ [] rfl ac;have i2:ld1 [] (.dptr ((x::l).map szD) 0)=some (szV x):=rfl;obtain⟨L,hL⟩:∃L,L=x::l:=⟨_,rfl⟩;rw[<-hL]at l1 g1 i1 i2 hn hc ⊢;simp only[bH];simp[l1];refine aH ?_;simp[g1,i1,i2]
 refine lo (Jv hs hn hc _ l [x] x (by trivial) (by grind) ?_);simp;exact⟨_,rfl⟩
def btG(w:Mz)(div:Int):Mz->List (List Q)
 |[]=>[]
 |x::q=>if nth 0 (aW w x) 1=0 then btG w div q else fP (aW w x) div 0 x::btG w div q
theorem abO(w:Mz)(div:Int)(a:Mz)(x:LiQ):btG w div (a++[x])=if nth 0 (aW w x) 1=0 then btG w div a else btG w div a++[fP (aW w x) div 0 x]:=by
 induction a with
 |nil=>rfl
 | cons y a ih=>
  grind[btG]
theorem Kh(w:Mz)(div:Int):∀a:Mz,(btG w div a).length<=a.length
 |[]=>Z8 _
 | y::a=>by
  have:=Kh w div a
  grind[btG]
theorem LH{p:LiQ}(hr2:2<=r.length)(h1:nth 0 r 1=0):CP Y F.gM [lst di p,lst di x,lst di r,I div] (.tup [szV [],B false,I 0]):=by
 refine vF ?_;have j1:∀h:Hp,ixV h 1 (lst di r) (.d (.int .i64 1))=some (.dptr (r.map di) 1):=λh=>d8 di r h rfl aa
 have j2:∀h:Hp,ld1 h (.dptr (r.map di) 1)=some (I (nth 0 r 1)):=λh=>eH di 0 r h aa
 simp only[gM];simp[j1,j2,h1];exact⟨_,rfl⟩
theorem aej{p:LiQ}{C W:D}{a b:List Q}(hp:pcB p=0)(hN:p.length<1000)(ha:a.length=p.length)(hb:b.length=p.length)(oa:okS a)(ob:okS b)(hz:NQ p (dfS p a b) z):
  CP Y F.bq [szV a,szV b,.dptr [.sl p.length (p.map di),C,W] 0] (I z):=by
 refine vJ ?_;have l0:∀h,ld1 h (.dptr [.sl p.length (p.map di),C,W] 0)=some (lst di p):=λh=>rfl
 simp only[bq];simp[l0];refine cd (args:=[lst di p,szV a,szV b]) (Nt hp hN ha hb oa ob hz) ?_ (by rfl);simp
variable{p:LiQ}{c w:Mz}
def af6(p:LiQ)(w:Mz)(div:Int)(x:LiQ):Prop:=nth 0 (aW w x) 1≠0->okS (fP (aW w x) div 0 x)
theorem YV(h:qC p c w)(w2:w.length=2){div:Int}(hd:div≠0)(hdb : -1000000000<=div∧div<=1000000000){l:Mz}(hl:l.length<1000)(ho:∀x∈l,Di p w x)(hpu:∀x∈l,af6 p w div x)(b1 b3:Nat×Bk)(h0:Hp)(K:KL) :
  ∀(q a:Mz),l=a++q ->
  K (.exit 0) [(acU 2).v (btG w div l).length ((btG w div l).map szD)] [(1,.vars [lst di p,mat c,mat w]),b1,(acU 2).b (btG w div l).length ((btG w div l).map szD),b3] ->
  lp (kK (CX Y) (.ptr 0 1 0 3) (.ptr 1 1 0 5) (mat (l.map (aW w))) (I div) (mat l) (I l.length)) [] h0 [(acU 2).v (btG w div a).length ((btG w div a).map szD),I a.length] [(1,.vars [lst di p,mat c,mat w]),b1,(acU 2).b (btG w div a).length ((btG w div a).map szD),b3] K
 | [],a,e,hK=>by
  simp only[Zp]at e;subst e;refine aj ?_;have hlt:¬((l.length:Int)<(l.length:Int)):=aa;simp only[kK];simp[hlt];exact hK
 | x::q,a,e,hK=>by
  refine aj ?_;have hlt:((a.length:Int)<(l.length:Int)):=by rw[e];simp;omega
  have hal:a.length<l.length:=aa;have hxm:x∈l:=by rw[e];simp
  have hx:=ho x hxm;have i1:∀h:Hp,ixV h 1 (mat l) (I a.length)=some (.dptr (l.map row) a.length):=λh=>by simp_all
  have i2:∀h:Hp,ld1 h (.dptr (l.map row) a.length)=some (lst di x):=λh=>by
   rw[k8 row l _ hal];simp only[e,Zl (Z8 _),Ze,Zh];rfl
  obtain⟨rows,hrows⟩:=nmQ (l.map (aW w));have hrl:rows.length=l.length:=by rw[hrows];simp
  have hre:rows[a.length]'(by omega)=aW w x:=by
   have:rows=a.map (aW w)++aW w x::q.map (aW w):=by rw[hrows,e];simp
   simp[this]
  have j1:∀h:Hp,ixV h 1 (mat rows) (I a.length)=some (.dptr (rows.map row) a.length):=λh=>d8 row rows h rfl aa
  have j2:∀h:Hp,ld1 h (.dptr (rows.map row) a.length)=some (lst di (aW w x)):=λh=>by
   rw[k8 row rows _ aa,hre];rfl
  have tl:(aW w x).length=2:=by simp[aW,w2]
  have e4:((a++[x]).length:Int)=(a.length:Int)+1:=ac;have ih:=YV h w2 hd hdb hl ho hpu b1 b3 h0 K q (a++[x]) (by simp[e]) hK;rw[e4,abO,<-hrows]at ih;rw[<-hrows];have hx0:x≠[]:=λe0=>by have h1:=hx.l;rw[e0,List.length_nil]at h1;have:=h.lw.n0;omega
  have hn:=h.lc.n12;obtain⟨gs,hgs⟩:=nmQ (btG w div a);have hgl:gs.length<=a.length:=by rw[hgs];exact Kh w div a
  rw[<-hgs]at ih ⊢;obtain⟨H,hH⟩:∃H:Hp,H=[(1,.vars [lst di p,mat c,mat w]),b1,(acU 2).b gs.length (gs.map szD),b3]:=⟨_,rfl⟩;have g0:lh H 0 1=.vars [lst di p,mat c,mat w]:=by rw[hH];rfl
  rw[<-hH];simp only[kK];simp[hlt];refine aH ?_;simp[i1,i2,j1,j2,g0];by_cases c0:nth 0 (aW w x) 1=0
  .refine cd (LH (p:=p) (x:=x) (div:=div) aa c0) ?_;rw[if_pos c0,<-hH]at ih;simp;refine aH ?_;simp(disch:=try exact ae)
   grind[dh,lo]
  .refine cd (pure_ok h.pr hx.l aa hx.t c0 hd hdb hx.b (by grind[Di.l]) hx0 (hpu x hxm c0)) ?_;rw[if_neg c0]at ih;obtain⟨g,hg⟩:=nmQ (fP (aW w x) div 0 x);rw[<-hg]at ih ⊢;have hli:dX 1 [nPQ] [(0,szV g)] H=some ([szD g],H):=GM ..;simp;refine aH ?_;simp[hli]
   refine md (acU 2) (by_:=24) (k:=1) (cs:=[szD g]) aa (by rw[hH];rfl) (by simp[acU]) (by rfl) rfl (by grind) aa (by simp[acU]) ?_;have hs:H.set (acU 2).s ((acU 2).b (gs.length+1) (gs.map szD++[szD g]))=[(1,.vars [lst di p,mat c,mat w]),b1,(acU 2).b (gs.length+1) (gs.map szD++[szD g]),b3]:=by rw[hH];rfl
   rw[hs];simp(disch:=try exact ae)
   simp_all[dh]
theorem aaH{lo:List Q}{hl hh em:Bool}{v:V}{H H':Hp}(hv:cO H v=some (szV hi,H')):out (.tup [rgV ⟨lo,hi,hl,hh,em⟩,I z]) (.tup [.agg [szV lo,v,B hl,B hh,B em],I z]) H:=by have s1:cO H (szV lo)=some (szV lo,H):=rfl;have s2:cO H' (B hl)=some (B hl,H'):=rfl;have s3:cO H' (B hh)=some (B hh,H'):=rfl;have s4:cO H' (B em)=some (B em,H'):=rfl;have s5:cO H' (I z)=some (I z,H'):=rfl;refine⟨H',?_⟩;simp only[cO.eq_4,cO.eq_3,aT,s1,hv,s2,s3,s4,s5];rfl
theorem OU(h:qC p c w)(hg:gtB w=0){l:Mz}(hl:l.length<=60)(ho:∀x∈l,Di p w x)(hm:mzB p l=0)(hpu:∀x∈l,af6 p w (nth 0 (nth [] w 0) 0) x){g:List Q}{gs:List (List Q)}(hgs:btG w (nth 0 (nth [] w 0) 0) l=g::gs)
  {cf:List Q->List Q->Int} (hok:∀a∈g::gs,a.length=p.length∧okS a) (hc:∀a∈g::gs,∀b∈g::gs,NQ p (dfS p a b) (cf a b)) :
  CP Y F.fu [tpV p c w,mat l] (.tup [rgV ⟨mnS cf g gs,mxS cf g gs,true,true,false⟩,I 0]):=by
 refine yk ?_;simp only[fu,tpV];obtain⟨div,hdiv⟩:=nmQ (nth 0 (nth [] w 0) 0)
 have w2:w.length=2:=by
  apply Classical.byContradiction;intro e;simp[gtB,e]at hg
 have hd:div≠0:=by
  rw[hdiv];intro e;simp[gtB,w2,e]at hg
 have hw0:nth [] w 0∈w:=by rw[cn _ _ _ aa];exact Yx _
 have hdb : -1000000000<=div∧div<=1000000000:=by
  rw[hdiv];exact h.lw.sm _ hw0 _ (fG (by rw[h.lw.rl _ hw0];exact h.lw.n0))
 have td:=IP h hg hl ho hm;have hn:=h.lc.n12;have l1:aQ (mat l)=some (I l.length):=rfl;rw[<-hdiv]at td hpu hgs;simp;refine cd (args:=[tpV p c w,mat l]) td ?_ (by rfl);simp[l1];refine lo (YV h w2 hd hdb aa ho hpu (1,.vars [nlV,nlV,B false,B false,B false]) nnQ _ _ l [] rfl ?_);rw[hgs];have hgl:(g::gs).length<=l.length:=by rw[<-hgs];exact Kh w div l
 obtain⟨H,hH⟩:∃H:Hp,H=[(1,.vars [lst di p,mat c,mat w]),(1,.vars [nlV,nlV,B false,B false,B false]),(acU 2).b (g::gs).length ((g::gs).map szD),nnQ]:=⟨_,rfl⟩;rw[<-hH];obtain⟨G,hG⟩:∃G,G=(acU 2).v (g::gs).length ((g::gs).map szD):=⟨_,rfl⟩;rw[<-hG];have lg:aQ G=some (I (g::gs).length):=by rw[hG];rfl
 have gne:¬(((g::gs).length:Int)=0):=by simp;omega
 obtain⟨D3,hD3⟩:∃D3:LdQ,D3=[.sl p.length (p.map di),.sl c.length (c.map row),.sl w.length (w.map row)]:=⟨_,rfl⟩;obtain⟨H1,hH1⟩:∃H1:Hp,H1=[(1,.data 1 D3 false true),(1,.vars [nlV,nlV,B false,B false,B false]),(1,.data 1 ((g::gs).map szD) false true),nnQ]:=⟨_,rfl⟩
 have sG:∀(H2:Hp)(f:Bool),H2[2]?=some (1,.data 1 ((g::gs).map szD) false f)->cO H2 G=some (lst szD (g::gs),H2.set 2 (1,.data 1 ((g::gs).map szD) false true)):=λH2 f h2=>by
  rw[hG];simp only[acU,Acc.v,List.length_cons,cO,toD,aw,h2,if_true];rw[if_pos ac];simp[bY,lst];exact Zz ac
 have sn1:aT H [G,.fn F.bq [] [.ptr 0 1 0 3]]=some ([lst szD (g::gs),.fn F.bq [] [.dptr D3 0]],H1):=by
  have e1:=sG H false (by rw[hH];rfl);simp only[aT,e1];rw[hH,hH1,hD3];rfl
 have sn2:aT H1 [G,.fn F.bq [] [.ptr 0 1 0 3]]=some ([lst szD (g::gs),.fn F.bq [] [.dptr D3 0]],H1):=by
  have e1:=sG H1 true (by grind);simp only[aT,e1];rw[hH1,hD3];rfl
 have hcp:∀a∈g::gs,∀b∈g::gs,CP Y F.bq ([szV a,szV b]++[.dptr D3 0]) (I (cf a b)):=λa ha b hb=>by
  rw[hD3];exact aej h.pr aa (hok a ha).1 (hok b hb).1 (hok a ha).2 (hok b hb).2 (hc a ha b hb)
 have hsn:∀a b:List Q,aT [] ([szV a,szV b]++[.dptr D3 0])=some ([szV a,szV b]++[.dptr D3 0],[]):=λa b=>rfl
 have c1:=aaU hsn aa hcp;have c2:=aaV hsn aa hcp;have okz:∀s:List Q,okV (szV s)=true:=λ_=>rfl
 obtain⟨mn,hmn⟩:=nmQ (mnS cf g gs);obtain⟨mx,hmx⟩:=nmQ (mxS cf g gs);have hml:mx.length=p.length:=(hok mx (by grind[Qi])).1;have hp0:=h.lw.n0;rw[<-hmn]at c1;rw[<-hmx]at c2;rw[<-hmn,<-hmx];simp(disch:=try exact ae)[lg,gne];refine sX sn1 c1 ?_;rw[show(if cD (szV mn)=true then H else H1)=H1 from rfl];simp;refine sX sn2 c2 ?_
 rw[show(if cD (szV mx)=true then H1 else H1)=H1 from rfl];have hu:(H1.all λx=>ax H1.length x.2)=true:=by rw[hH1];rfl
 have cl:=ON hu (l:=mx) aa aa;simp;refine gr cl (s:=3) (e:=0) (b:=.none) (by grind) ?_;rw[hH1];have hlen:((mx.map tx).flatMap aE).length=mx.length*2:=by rw[eW aE aN,List.length_map]
 rw[hlen];have hb:bld [(0,1),(1,1),(2,1),(3,1),(4,1)] [nPQ,nPQ,D.bool false,D.bool false,D.bool false] [(0,szV mn),(1,V.ref 3 1 0 mx.length mx.length (mx.length*2)),(2,V.d (D.bool true)),(3,V.d (D.bool true))]=some (.agg [szV mn,.ref 3 1 0 mx.length mx.length (mx.length*2),B true,B true,B false]):=rfl
 show bnd (bld [(0,1),(1,1),(2,1),(3,1),(4,1)] [nPQ,nPQ,D.bool false,D.bool false,D.bool false] [(0,szV mn),(1,V.ref 3 1 0 mx.length mx.length (mx.length*2)),(2,V.d (D.bool true)),(3,V.d (D.bool true))]) _
 rw[hb];simp[okz];have sr:=λ(H2:Hp)(hg:H2[3]?=some (1,.data 2 ((mx.map tx).flatMap aE) false false))=>Pt (h:=H2) (s:=3) (e:=1) (n:=mx.length) (l:=mx.map tx) (ex:=false) (fr:=false) hg ac
 exact aaH (sr _ rfl)
theorem wW{n:Int}(hd:d≠0):(de n d).1*d=n*((de n d).2:Int)∧0<(de n d).2:=by
 unfold de;split
 .rename_i h;obtain⟨h1,h2⟩:=Jz (-n) (d:=d.natAbs) aa;refine⟨?_,h2⟩;rw[show((d.natAbs:Nat):Int) = -d by omega]at h1
  grind
 .rename_i h;obtain⟨h1,h2⟩:=Jz n (d:=d.natAbs) aa;rw[show((d.natAbs:Nat):Int)=d by omega]at h1;omega
theorem Vp{u v:Q}(hu:okQ u)(hv:okQ v)(h:u.1*(v.2:Int)=v.1*(u.2:Int)):u=v:=by
 obtain⟨a,b⟩:=u;obtain⟨c,d⟩:=v;obtain⟨h1,h2⟩:=hu;obtain⟨h3,h4⟩:=hv;simp only at h1 h2 h3 h4 h;have e:=congrArg Int.natAbs h;rw[Zf,Zf,Int.natAbs_natCast,Int.natAbs_natCast]at e
 have d1:b∣d:=by
  have:b∣a.natAbs*d:=by rw[e];exact Nat.dvd_mul_left ..
  exact(Nat.Coprime.symm h2).dvd_of_dvd_mul_left this
 have d2:d∣b:=by
  have:d∣c.natAbs*b:=by rw[<-e];exact Nat.dvd_mul_left ..
  exact(Nat.Coprime.symm h4).dvd_of_dvd_mul_left this
 have ebd:b=d:=Nat.dvd_antisymm d1 d2;subst ebd;have:a=c:=Xz aa h
 grind
theorem HQ{x:Int}(hd:div≠0)(h1:nth 0 r 1≠0):okQ (js r div 0 x)∧(js r div 0 x).1*(nth 0 r 1*div)=(x*div-nth 0 r 0)*((js r div 0 x).2:Int):=by
 obtain⟨a1,a2⟩:=wW (n:=nth 0 r 0) hd;have e:js r div 0 x=de ((fw (x,1) (mM (de (nth 0 r 0) div))).1*((1:Nat):Int)) (((fw (x,1) (mM (de (nth 0 r 0) div))).2:Int)*nth 0 r 1):=by simp[js,rP]
 obtain⟨u,hu⟩:=nmQ (de (nth 0 r 0) div);rw[<-hu]at a1 a2 e;obtain⟨b1,b2⟩:=Jz (x*(u.2:Int) + -u.1*((1:Nat):Int)) (d:=1*u.2) aa;have eq:fw (x,1) (mM u)=kG (x*(u.2:Int) + -u.1*((1:Nat):Int)) (1*u.2):=rfl;rw[eq]at e;obtain⟨s,hs⟩:∃s,s=kG (x*(u.2:Int) + -u.1*((1:Nat):Int)) (1*u.2):=⟨_,rfl⟩;rw[<-hs]at b1 b2 e
 have hsd:(s.2:Int)*nth 0 r 1≠0:=Yr aa h1;obtain⟨c1,c2⟩:=wW (n:=s.1*((1:Nat):Int)) hsd;have hok:=m5 (n:=s.1*((1:Nat):Int)) hsd;rw[<-e]at c1 c2 hok;refine⟨hok,?_⟩;generalize js r div 0 x=A at *
 have k1:s.1*div=(x*div-nth 0 r 0)*s.2:=by
  refine Xz (a:=(u.2:Int)) aa ?_
  have b1':s.1*(u.2:Int)=(x*u.2-u.1)*s.2:=by
   have:=b1;simp only[Ww,Int.natCast_one,Int.mul_one]at this;rw[this];grind
  calc s.1*div*(u.2:Int)=s.1*u.2*div:=by grind
   _=(x*u.2-u.1)*s.2*div:=by rw[b1']
   _=(x*u.2*div-u.1*div)*s.2:=by grind
   _=(x*u.2*div-nth 0 r 0*u.2)*s.2:=by rw[a1]
   _=(x*div-nth 0 r 0)*s.2*u.2:=by grind
 refine Xz (a:=(s.2:Int)) aa ?_;have c1':A.1*(s.2*nth 0 r 1)=s.1*A.2:=by simpa using c1
 calc A.1*(nth 0 r 1*div)*(s.2:Int)=A.1*(s.2*nth 0 r 1)*div:=by grind
  _=s.1*A.2*div:=by rw[c1']
  _=s.1*div*A.2:=by grind
  _=(x*div-nth 0 r 0)*s.2*A.2:=by rw[k1]
  _=(x*div-nth 0 r 0)*A.2*s.2:=by grind
theorem HP{x:Int}(hi:i≠0)(h1:nth 0 r 1≠0):okQ (js r div i x)∧(js r div i x).1*nth 0 r 1=x*((js r div i x).2:Int):=by
 have e:js r div i x=de (x*((1:Nat):Int)) (((1:Nat):Int)*nth 0 r 1):=by simp[js,hi,rP]
 rw[e];have h:((1:Nat):Int)*nth 0 r 1≠0:=by simpa using h1
 grind[m5,wW]
theorem VK(n d:Int):(de n d).1.natAbs<=n.natAbs∧(de n d).2<=d.natAbs:=by
 unfold de;split
 .grind[zO]
 .exact zO n d.natAbs
theorem acu(h:n<10^20):ndg n<=30:=Zy (gG h af) af
theorem DG{n:Int}(h1:n.natAbs<10^20)(h2:d.natAbs<10^20):qL 30 (de n d):=BB (acu h1) (acu h2)
theorem EU{r:LiQ}{div:Int}(hr:bd9 r)(hr2:2<=r.length)(hd:div≠0)(hdb : -1000000000<=div∧div<=1000000000)(h1:nth 0 r 1≠0):∀{x:LiQ}(i:Nat),bd9 x->okS (fP r div i x)
 |[],i,_=>λy hy=>by cases hy
 | a::x,i,hx=>by
  have hr1 : -1000000000<=nth 0 r 1∧nth 0 r 1<=1000000000:=hr _ (fG aa);have hr0 : -1000000000<=nth 0 r 0∧nth 0 r 0<=1000000000:=hr _ (fG aa);have ha:=hx a ac;intro y hy;simp only[fP,Zw]at hy;rcases hy with rfl|hy
  .by_cases hi:i=0
   .subst hi;refine⟨(HQ hd h1).1,?_⟩;have e:js r div 0 a=de ((fw (a,1) (mM (de (nth 0 r 0) div))).1*((1:Nat):Int)) (((fw (a,1) (mM (de (nth 0 r 0) div))).2:Int)*nth 0 r 1):=by simp[js,rP]
    obtain⟨u,hu⟩:=nmQ (de (nth 0 r 0) div);have hul:=VK (nth 0 r 0) div;rw[<-hu]at e hul;have eq:fw (a,1) (mM u)=kG (a*(u.2:Int) + -u.1*((1:Nat):Int)) (1*u.2):=rfl;obtain⟨q1,q2⟩:=zO (a*(u.2:Int) + -u.1*((1:Nat):Int)) (1*u.2);rw[eq]at e;rw[e];generalize kG (a*(u.2:Int) + -u.1*((1:Nat):Int)) (1*u.2)=s at *
    have m1:a.natAbs*u.2<=1000000000*1000000000:=Zr aa aa;have m2:s.2*(nth 0 r 1).natAbs<=1000000000*1000000000:=Zr aa aa
    grind[Xe,Zf,Int.natAbs_natCast,DG]
   .refine⟨(HP hi h1).1,?_⟩;have e:js r div i a=de (a*((1:Nat):Int)) (((1:Nat):Int)*nth 0 r 1):=by simp[js,hi,rP]
    grind[DG]
  .exact EU hr hr2 hd hdb h1 (i+1) (λz hz=>hx z (by grind)) y hy
theorem abm(h:qC p c w)(hg:gtB w≠0):CP Y F.fS [tpV p c w] (.tup [.agg [I 0,lst di [],lst di []],I (gtB w)]):=by refine sU ?_;simp only[fS,tpV];simp;refine cd (args:=[tpV p c w]) (JO h) ?_ (by rfl);simp[hg];exact⟨_,rfl⟩
theorem TM(h:qC p c w)(hg:gtB w≠0){l:Mz}:CP Y F.bh [tpV p c w,mat l] (.tup [mat [],I 0,I (gtB w)]):=by
 refine kJ ?_;simp only[bh,tpV];simp;refine cd (args:=[tpV p c w]) (abm h hg) ?_ (by rfl);have ok1:∀m:LiQ,okV (lst di m)=true:=λ_=>rfl
 simp[hg,ok1];exact⟨_,rfl⟩
def GG(w:Mz)(x:LiQ):List Q:=if gtB w≠0∨nth 0 (aW w x) 1=0 then[]else fP (aW w x) (nth 0 (nth [] w 0) 0) 0 x
def GH(w:Mz)(x:LiQ):Bool:=decide (gtB w=0∧nth 0 (aW w x) 1≠0)
theorem acf(h:qC p c w)(hx:gtB w=0->Di p w x)(hm:mzB p [x]=0):CP Y F.fK [tpV p c w,lst di x] (.tup [szV (GG w x),B (GH w x),I (gtB w)]):=by
 refine qZ ?_;have hli:∀h:Hp,dX 1 [nPQ] [(0,lst di x)] h=some ([row x],h):=λh=>GM ..
 have ok1:∀m:Mz,okV (mat m)=true:=λ_=>rfl
 simp only[fK,tpV];simp[hli];by_cases hg:gtB w=0
 .have hx:=hx hg;have td:=IP h hg (l:=[x]) ac (λy hy=>by grind) hm
  have w2:w.length=2:=by
   apply Classical.byContradiction;intro e;simp[gtB,e]at hg
  obtain⟨div,hdiv⟩:=nmQ (nth 0 (nth [] w 0) 0)
  have hd:div≠0:=by
   rw[hdiv];intro e;simp[gtB,w2,e]at hg
  have hw0:nth [] w 0∈w:=by rw[cn _ _ _ aa];exact Yx _
  have hdb : -1000000000<=div∧div<=1000000000:=by
   rw[hdiv];exact h.lw.sm _ hw0 _ (fG (by rw[h.lw.rl _ hw0];exact h.lw.n0))
  have tl:(aW w x).length=2:=by simp[aW,w2]
  have hx0:x≠[]:=λe0=>by have h1:=hx.l;rw[e0,List.length_nil]at h1;have:=h.lw.n0;omega
  have hn:=h.lc.n12;have i1:∀h:Hp,ixV h 1 (mat [aW w x]) (.d (.int .i64 0))=some (.dptr [row (aW w x)] 0):=λh=>d8 row [aW w x] h rfl ac
  have i2:∀h:Hp,ld1 h (.dptr [row (aW w x)] 0)=some (lst di (aW w x)):=λh=>rfl
  have em:mat ([x].map (aW w))=mat [aW w x]:=rfl;rw[<-hdiv,em]at td;refine cd (args:=[tpV p c w,mat [x]]) td ?_ (by rfl);simp[i1,i2];by_cases h1:nth 0 (aW w x) 1=0
  .refine cd (LH (p:=p) (x:=x) (div:=div) aa h1) ?_;simp;rw[GG,GH,hg,if_pos (.inr h1),decide_eq_false aa];exact⟨_,rfl⟩
  .refine cd (pure_ok h.pr hx.l aa hx.t h1 hd hdb hx.b (by grind[Di.l]) hx0 (EU hx.t aa hd hdb h1 0 hx.b)) ?_;simp;rw[GG,GH,hg,if_neg aa,decide_eq_true ⟨rfl,h1⟩,<-hdiv];exact⟨_,rfl⟩
 .refine cd (args:=[tpV p c w,mat [x]]) (TM h hg) ?_ (by rfl);simp[hg];rw[GG,GH,if_pos (.inl hg),decide_eq_false aa];exact⟨_,rfl⟩
def VQ(q:Q)(N D:Int):Prop:=okQ q∧D≠0∧q.1*D=N*(q.2:Int)
theorem IK{N D:Int}(h:VQ q N D):(q.2:Int)≠0:=by have:=h.1.1;omega
theorem qd(z:Int):VQ (z,1) z 1:=⟨⟨Nat.one_pos,ac⟩,af,ac⟩
theorem Ma{n:Int}{d:Nat}(hd:0<d):(kG n d).1*(d:Int)=n*((kG n d).2:Int):=by
 have:=(wW (n:=n) (d:=(d:Int)) aa).1;have e:de n (d:Int)=kG n d:=by rw[de,if_neg aa,Int.natAbs_natCast]
 rwa [e]at this
theorem aac{n:Int}(hd:d≠0):VQ (de n d) n d:=⟨m5 hd,hd,(wW hd).1⟩
theorem ww{a b:Q}{N D E:Int}(ha:VQ a N D)(hb:VQ b M E):VQ (fw a b) (N*E+M*D) (D*E):=by
 have h0:0<a.2*b.2:=Xy ha.1.1 hb.1.1;refine⟨zN _ h0,Yr ha.2.1 hb.2.1,?_⟩;have h1:=Ma (n:=a.1*b.2+b.1*a.2) h0;have ea:=ha.2.2;have eb:=hb.2.2;rw[Int.natCast_mul]at h1
 show(kG (a.1*b.2+b.1*a.2) (a.2*b.2)).1*_=_*((kG (a.1*b.2+b.1*a.2) (a.2*b.2)).2:Int)
 generalize kG (a.1*b.2+b.1*a.2) (a.2*b.2)=q at *;refine Xz (a:=(a.2:Int)*b.2) (Yr (IK ha) (IK hb)) ?_
 calc q.1*(D*E)*((a.2:Int)*b.2)=q.1*((a.2:Int)*b.2)*(D*E):=by grind
  _=(a.1*b.2+b.1*a.2)*q.2*(D*E):=by rw[h1]
  _=((a.1*D)*b.2*E+(b.1*E)*a.2*D)*q.2:=by grind
  _=(N*E+M*D)*q.2*((a.2:Int)*b.2):=by rw[ea,eb];grind
theorem AU{a b:Q}{N D E:Int}(ha:VQ a N D)(hb:VQ b M E):VQ (oB a b) (N*M) (D*E):=by
 have h0:0<a.2*b.2:=Xy ha.1.1 hb.1.1;refine⟨zN _ h0,Yr ha.2.1 hb.2.1,?_⟩;have h1:=Ma (n:=a.1*b.1) h0;have ea:=ha.2.2;have eb:=hb.2.2;rw[Int.natCast_mul]at h1
 show(kG (a.1*b.1) (a.2*b.2)).1*_=_*((kG (a.1*b.1) (a.2*b.2)).2:Int)
 generalize kG (a.1*b.1) (a.2*b.2)=q at *;refine Xz (a:=(a.2:Int)*b.2) (Yr (IK ha) (IK hb)) ?_
 calc q.1*(D*E)*((a.2:Int)*b.2)=q.1*((a.2:Int)*b.2)*(D*E):=by grind
  _=(a.1*b.1)*q.2*(D*E):=by rw[h1]
  _=((a.1*D)*(b.1*E))*q.2:=by grind
  _=(N*M)*q.2*((a.2:Int)*b.2):=by rw[ea,eb];grind
theorem IJ{N D:Int}(h:VQ q N D)(hN:N=0):q=(0,1):=by
 obtain⟨⟨h1,h2⟩,h3,h4⟩:=h;rw[hN,Int.zero_mul]at h4;have h5:q.1=0:=(Int.mul_eq_zero.1 h4).resolve_right h3;rw[h5]at h2;have h6:q.2=1:=by simpa using h2
 obtain⟨a,b⟩:=q;simp only at h5 h6;rw[h5,h6]
def EY(n:Nat)(k:Q):List Q:=pJ n [kN n] [k]
theorem Iy{k:Q}(hk:okQ k):∀n,rU k (List.replicate n (0,1)) (List.replicate n (0,1))=List.replicate n (0,1)
 |0=>rfl
 | n+1=>by
  have e:fw (0,1) (oB (0,1) k)=(0,1):=IJ (ww (qd 0) (AU (qd 0) (show VQ k k.1 k.2 from⟨hk,by have:=hk.1;omega,rfl⟩))) ac;simp only[List.replicate_succ,rU,e,Iy hk n]
theorem Jh{k:Q}(hk:okQ k):EY (n+1) k=k::List.replicate n (0,1):=by
 have hv:VQ k k.1 k.2:=⟨hk,by have:=hk.1;omega,rfl⟩
 have e:fw (0,1) (oB (1,1) k)=k:=by
  obtain⟨h1,h2,h3⟩:=ww (qd 0) (AU (qd 1) hv);refine Vp h1 hk ?_;simpa using h3
 simp only[EY,pJ,kN,List.replicate_succ,Nat.add_sub_cancel,yp,rU,e,Iy hk n]
theorem MK{r:LiQ}{div:Int}(h1:nth 0 r 1≠0):∀{x:LiQ}{i:Nat},i≠0->List.zipWith (λa z=>fw a (mM (z,1))) (rU (nth 0 r 1,1) (rU (nth 0 r 0,1) (List.replicate x.length (0,1)) (List.replicate x.length (0,1))) (fP r div i x)) x=List.replicate x.length (0,1)
 |[],i,_=>rfl
 | z::x,i,hi=>by
  have ih:=MK (r:=r) (div:=div) h1 (x:=x) (i:=i+1) aa;obtain⟨p1,p2⟩:=HP (r:=r) (div:=div) (x:=z) hi h1
  have e:fw (fw (fw (0,1) (oB (0,1) (nth 0 r 0,1))) (oB (js r div i z) (nth 0 r 1,1))) (mM (z,1))=(0,1):=
   IJ (ww (ww (ww (qd 0) (AU (qd 0) (qd (nth 0 r 0)))) (AU (show VQ (js r div i z) z (nth 0 r 1)from⟨p1,h1,p2⟩) (qd _))) (qd (-z))) (by grind)
  simp only[List.length_cons,List.replicate_succ,fP,rU,List.zipWith_cons_cons,e,ih]
theorem XG{p:LiQ}{w:Mz}(hl:x.length=p.length)(h0:x≠[])(h2:w.length=2)(hd:div≠0)(h1:nth 0 (aW w x) 1≠0):
  Dc p w [EY p.length (de 1 div),fP (aW w x) div 0 x] x=List.replicate p.length (0,1):=by
 obtain ⟨r0,r1,hr⟩:∃r0 r1,aW w x=[r0,r1]:=by
  match w,h2 with
  |[u,v],_=>exact⟨_,_,rfl⟩
 rw[Dc,CJ,hr,<-hl];rw[hr]at h1;cases x with
 |nil=>exact absurd rfl h0
 | cons z x=>
  rw[List.length_cons,Jh (m5 hd)];have et:=MK (r:=[r0,r1]) (div:=div) h1 (x:=x) (i:=1) aa;obtain⟨p1,p2⟩:=HQ (r:=[r0,r1]) (x:=z) hd h1
  have e:fw (fw (fw (0,1) (oB (de 1 div) (r0,1))) (oB (js [r0,r1] div 0 z) (r1,1))) (mM (z,1))=(0,1):=
   IJ (ww (ww (ww (qd 0) (AU (aac hd) (qd r0))) (AU (show VQ (js [r0,r1] div 0 z) (z*div-r0) (r1*div)from⟨p1,Yr h1 hd,p2⟩) (qd r1))) (qd (-z))) (by grind)
  have et':List.zipWith (λa z=>fw a (mM (z,1))) (rU (r1,1) (rU (r0,1) (List.replicate x.length (0,1)) (List.replicate x.length (0,1))) (fP [r0,r1] div 1 x)) x=List.replicate x.length (0,1):=et
  show List.zipWith _ (yp (List.replicate (x.length+1) (0,1)) [de 1 div::List.replicate x.length (0,1),fP [r0,r1] div 0 (z::x)] [(r0,1),(r1,1)]) (z::x)=_
  simp only[List.replicate_succ,yp,rU,fP,List.zipWith_cons_cons,e,et']
theorem Pf:∀(p:LiQ)(n d:Nat),wC d p (List.replicate n (0,1))=[]
 |[],n,d=>by cases n<;>rfl
 |z::p,0,d=>rfl
 |z::p,n+1,d=>by simp[List.replicate_succ,wC,Pf p n d]
theorem aat{p:LiQ}:NQ p (List.replicate n (0,1)) 0:=λd=>by
 have e:tq p (List.replicate n (0,1))=[]:=Pf ..;rw[e];exact Li (ts:=[]) ⟨ac,ac⟩ ac
def adz(s:List Q):Bool:=s.all λx=>decide (0<x.2)&&(Nat.gcd x.1.natAbs x.2 == 1)&&decide (ndg x.1.natAbs<=30)&&decide (ndg x.2<=30)
theorem Dr(h:adz s=true):okS s:=λx hx=>by
 have:=Z2.1 h x hx;simp only[Z7,decide_eq_true_eq,beq_iff_eq]at this;exact⟨⟨this.1.1.1,this.1.1.2⟩,this.1.2,this.2⟩
def lsB(l:LiQ):Bool:=l.all λz=>decide (-1000000000<=z)&&decide (z<=1000000000)
theorem Og{l:LiQ}(h:lsB l=true):bd9 l:=λz hz=>by
 have:=Z2.1 h z hz
 grind
def ltB(n:Nat)(m:Mz):Bool:=decide (0<n)&&decide (n<=12)&&decide (m.length<=12)&&m.all λr=>decide (r.length=n)&&lsB r
theorem VI(h:ltB n m=true):sZ n m:=by simp only[ltB,Z7,decide_eq_true_eq,Z2]at h;exact⟨h.1.1.1,h.1.1.2,h.1.2,λr hr=>(h.2 r hr).1,λr hr=>Og (h.2 r hr).2⟩
def p5:LiQ:=[2,3,5]
def mtC:Mz:=[[4,-4,1]]
def mtW:Mz:=[[1,0,-4],[0,1,4]]
theorem acw:qC p5 mtC mtW where
 pr:=by rfl
 lc:=VI (by rfl)
 lw:=VI (by rfl)
 ch:=by rfl
 k1:=⟨20,100,af,by rfl,by rfl⟩
theorem li3(a b c:Int)(h:Hp):dX 3 [.int .i64 0] [(0,.d (.int .i64 a)),(1,.d (.int .i64 b)),(2,.d (.int .i64 c))] h=some ([.int .i64 a,.int .i64 b,.int .i64 c],h):=by rfl
theorem li5(n1 n2 n3 n4 n5:Nat)(a b c d e:LdQ)(h:Hp):dX 5 [nPQ] [(0,.d (.sl n1 a)),(1,.d (.sl n2 b)),(2,.d (.sl n3 c)),(3,.d (.sl n4 d)),(4,.d (.sl n5 e))] h=some ([.sl n1 a,.sl n2 b,.sl n3 c,.sl n4 d,.sl n5 e],h):=by rfl
theorem aaX(a1 a2 b1 b2 c1 c2:LuQ)(h:Hp):dX 3 [D.str [],D.str []] [(0,.agg [S a1,S a2]),(1,.agg [S b1,S b2]),(2,.agg [S c1,S c2])] h=some ([.str a1,.str a2,.str b1,.str b2,.str c1,.str c2],h):=by rfl
theorem L4:CP Y F.dC [] (tpV p5 mtC mtW):=by refine ug ?_;simp only[dC];simp[li3,GM,VY];exact⟨_,rfl⟩
def l5K:Mz:=[[0,0,0],[-3,2,0],[-2,0,1],[2,-1,0],[-1,1,0]]
def l2K:Mz:=[[-2,0,1],[-1,1,0]]
def tvB(p:LiQ)(w:Mz)(x:LiQ):Bool:=decide (x.length=p.length)&&lsB x&&decide (rcB x=0)&&lsB (aW w x)
theorem TB{p:LiQ}{w:Mz}(h:tvB p w x=true):Di p w x:=by simp only[tvB,Z7,decide_eq_true_eq]at h;exact⟨h.1.1.1,Og h.1.1.2,h.1.2,Og h.2⟩
def rgS:Rg:=⟨[(3,2),(0,1),(0,1)],[(8,5),(0,1),(0,1)],true,true,false⟩
theorem kst:GA 1 en0 (aW mtW [0,0,0]) ([[-3,2,0],[-2,0,1],[2,-1,0],[-1,1,0]].map (aW mtW))=⟨some (3,2),some (8,5),false⟩:=by
 have e1:aW mtW [0,0,0]=[0,0]:=aJ;have e2:([[-3,2,0],[-2,0,1],[2,-1,0],[-1,1,0]].map (aW mtW))=[[-3,2],[-6,4],[2,-1],[-1,1]]:=aJ;rw[e1,e2]
 have k1:oL en0 (-3) 2 1=⟨some (3,2),none,false⟩:=by
  have:rP (de (- -3) 1) (2,1)=(3,2):=aJ;simp only[oL,this];rfl
 have k2:oL ⟨some (3,2),none,false⟩ (-3) 2 1=⟨some (3,2),none,false⟩:=by
  have:rP (de (- -3) 1) (2,1)=(3,2):=aJ;simp only[oL,this];rfl
 have k3:oL ⟨some (3,2),none,false⟩ 8 (-5) 1=⟨some (3,2),some (8,5),false⟩:=by
  have:rP (de (-8) 1) (-5,1)=(8,5):=aJ;simp only[oL,this];rfl
 have k4:oL ⟨some (3,2),some (8,5),false⟩ (-3) 2 1=⟨some (3,2),some (8,5),false⟩:=by
  have:rP (de (- -3) 1) (2,1)=(3,2):=aJ;simp only[oL,this];rfl
 rfl
theorem aa6:CP Y F.f9 [tpV p5 mtC mtW,mat l5K] (.tup [rgV rgS,I 0]):=by
 have hd:nth 0 (nth [] mtW 0) 0=1:=aJ
 have h:=RI (l:=l5K) (x:=[0,0,0]) (q:=[[-3,2,0],[-2,0,1],[2,-1,0],[-1,1,0]]) acw (by rfl) rfl af (λx hx=>TB (Z2.1 (show l5K.all (tvB p5 mtW)=true by rfl) x hx)) (by rfl)
  (by rw[hd,kst];intro q hq;cases hq;exact⟨⟨⟨af,af⟩,aJ,aJ⟩,Dr aJ⟩)
  (by rw[hd,kst];intro q hq;cases hq;exact⟨⟨⟨af,af⟩,aJ,aJ⟩,Dr aJ⟩)
 rw[hd,kst]at h
 have e:asR p5.length ⟨some (3,2),some (8,5),false⟩=rgS:=by
  have e1:scQ p5.length (3,2)=[(3,2),(0,1),(0,1)]:=aJ;have e2:scQ p5.length (8,5)=[(8,5),(0,1),(0,1)]:=aJ;have e3:Q7 ⟨some (3,2),some (8,5),false⟩=false:=aJ;simp only[asR,e3,oS,e1,e2];rfl
 trivial
def g1K:List Q:=[(1,1),(0,1),(1,4)]
def g2K:List Q:=[(0,1),(1,1),(0,1)]
def cfK(a b:List Q):Int:=if tq p5 (dfS p5 a b)=[]then 0 else yB (tq p5 (dfS p5 a b))
theorem sgK{a b:List Q}(ha:a ∈ [g1K,g2K])(hb:b ∈ [g1K,g2K]):NQ p5 (dfS p5 a b) (cfK a b):=by have h:=Z2.1 (Z2.1 (show([g1K,g2K].all λa=>[g1K,g2K].all λb=>decide ((tq p5 (dfS p5 a b)).length<=600∧∀t∈tq p5 (dfS p5 a b),2<=t.1∧t.1<1000000∧t.2.natAbs<9223372036854775808)&&decide (tq p5 (dfS p5 a b)≠[]->yB (tq p5 (dfS p5 a b))≠0))=true by decide+kernel) a ha) b hb;simp only[Z7,decide_eq_true_eq]at h;exact λd=>Li h.1 h.2
theorem WJ:CP Y F.fu [tpV p5 mtC mtW,mat l2K] (.tup [rgV ⟨g1K,g2K,true,true,false⟩,I 0]):=by
 have hd:nth 0 (nth [] mtW 0) 0=1:=aJ;have hg:btG mtW 1 l2K=[g1K,g2K]:=aJ
 have h:=OU (l:=l2K) (g:=g1K) (gs:=[g2K]) (cf:=cfK) acw (by rfl) af (λx hx=>TB (Z2.1 (show l2K.all (tvB p5 mtW)=true by rfl) x hx)) (by rfl)
  (λx hx _=>Dr (Z2.1 (show(l2K.all λx=>adz (fP (aW mtW x) (nth 0 (nth [] mtW 0) 0) 0 x))=true by decide+kernel) x hx)) (by rfl)
  (λa ha=>by
   have:=Z2.1 (show([g1K,g2K].all λa=>decide (a.length=p5.length)&&adz a)=true by decide+kernel) a ha
   grind[Dr])
  (λa ha b hb=>sgK ha hb)
 have e1:mnS cfK g1K [g2K]=g1K:=aJ;have e2:mxS cfK g1K [g2K]=g2K:=aJ;trivial
theorem yM:CP Y F.fp [] (B true):=by
 refine wL ?_;have q0:=px (n:=0) (d:=1) af af af af af;have q1:=px (n:=3) (d:=2) af af af af af;have q2:=px (n:=8) (d:=5) af af af af af
 have q3:=px (n:=1) (d:=1) af af af af af;have q4:=px (n:=1) (d:=4) af af af af af;have e0:de 0 1=(0,1):=aJ;have e1:de 3 2=(3,2):=aJ;have e2:de 8 5=(8,5):=aJ;have e3:de 1 1=(1,1):=aJ;have e4:de 1 4=(1,4):=aJ
 rw[e0]at q0;rw[e1]at q1;rw[e2]at q2;rw[e3]at q3;rw[e4]at q4;have s1:=uj (r:=rgS.lo) af;have s2:=uj (r:=rgS.hi) af;have s3:=uj (r:=g1K) af;have s4:=uj (r:=g2K) af;have st:CP Y F.f9 [tpV p5 mtC mtW,mat l5K] (.tup [.agg [szV rgS.lo,szV rgS.hi,B true,B true,B false],I 0]):=aa6
 have bt:CP Y F.fu [tpV p5 mtC mtW,mat l2K] (.tup [.agg [szV g1K,szV g2K,B true,B true,B false],I 0]):=WJ;have okz:∀s:List Q,okV (szV s)=true:=λ_=>rfl
 simp only[qT]at q0 q1 q2 q3 q4;simp only[fp];simp;refine cd q0 ?_;simp;refine cd L4 ?_ (by rfl);simp[li3,li5];refine cd (args:=[tpV p5 mtC mtW,mat l5K]) st ?_ (by rfl);simp[okz];refine cd L4 ?_ (by rfl);simp[li3,VY];refine cd (args:=[tpV p5 mtC mtW,mat l2K]) bt ?_ (by rfl);simp[okz];refine cd q1 ?_;simp[aaX]
 refine cd (args:=[szV rgS.lo,szV rgS.lo]) s1 ?_ (by rfl);simp;refine cd q2 ?_;simp[aaX];refine cd (args:=[szV rgS.hi,szV rgS.hi]) s2 ?_ (by rfl);simp;refine cd q3 ?_;simp;refine cd q4 ?_;simp[aaX];refine cd (args:=[szV g1K,szV g1K]) s3 ?_ (by rfl);simp;refine cd q3 ?_;simp[aaX];refine cd (args:=[szV g2K,szV g2K]) s4 ?_ (by rfl);simp
theorem QT{A E:Nat}:∀{x v:LiQ},(∀z∈x,z.natAbs<=A)->(∀z∈v,z.natAbs<=E)->(oG x v).natAbs<=x.length*(A*E)
 |[],v,_,_=>by simp[oG]
 |a::x,[],_,_=>by simp[oG]
 | a::x,b::v,hx,hv=>by
  have ih:=QT (x:=x) (v:=v) (λz hz=>hx z (by grind)) λz hz=>hv z (by grind)
  have h1:=Xe (a*b) (oG x v);rw[Zf]at h1;have h2:=Zr (hx a ac) (hv b ac)
  grind[oG,Nat.add_mul]
theorem KW{w:Mz}(hi:i<w.length):nth 0 (aW w x) i=oG x (nth [] w i):=by grind[rC,aW]
theorem JP(hg:gtB w=0):w.length=2∧nth 0 (nth [] w 0) 0≠0:=by
 have w2:w.length=2:=by
  apply Classical.byContradiction;intro e;simp[gtB,e]at hg
 grind[gtB]
theorem SN{e:List I4}:CP Y F.fN [.agg [.d (.int .u8 k),jX i4D e,B vals]] (B (decide (e.length<=3))):=by
 refine xS ?_;have l1:aQ (jX i4D e)=some (I e.length):=rfl;have ok3:okV (jX i4D e)=true:=rfl;by_cases h:e.length<=3
 .have h':(e.length:Int)<=3:=aa;simp only[fN];simp[l1,ok3,h']
  simp_all
 .have h':¬(e.length:Int)<=3:=aa;simp only[fN];simp[l1,ok3,h']
  grind[ju]
theorem M5{l:List Q}(h0:0<l.length)(hn:l.length<1000000):CP Y F.aA [szV l] (szV l):=by
 refine nu ?_;have fl:((l.map tx).flatMap aE).length=l.length*2:=by rw[eW aE aN,List.length_map]
 have e:szV l=.d (.sl l.length ((l.map tx).flatMap aE)):=by unfold szV jX;rw[List.length_map]
 rw[e];generalize(l.map tx).flatMap aE=cells at *
 have nl:∀(H:Hp)(k:V->Prop)(u:PU k),rn (uX H .eql (.d (.sl l.length cells)) (.d nPQ)) k u=k (.d (.bool false)):=λH k u=>by
  obtain⟨m,hm⟩:∃m,l.length=m+1:=⟨l.length-1,aa⟩;rw[hm];rfl
 simp only[iH];have hli:dX 0 [D.str [],D.str []] [] [(0,Bk.none),(0,Bk.none)]=some ([],[(0,Bk.none),(0,Bk.none)]):=rfl;simp[nl,hli];refine D6 (s:=1) (s':=0) (e:=1) (es:=0) (by_:=32) (n:=2) (L:=0) (k:=l.length) (cells:=[]) (cs:=cells) h0 rfl rfl rfl fl rfl (by intro t ht;cases ht) aa ?_
 have sn:=xL ⟨1,0,2,.none⟩ (L:=l.length) (cells:=cells) (h:=[(1,Bk.data 2 [] true false),(Acc.b ⟨1,0,2,.none⟩ l.length cells)]) rfl fl;obtain⟨m,hm⟩:∃m,l.length=m+1:=⟨l.length-1,aa⟩
 simp_all
theorem Qf{l:LiQ}(h0:0<l.length)(H:Hp)(k:V->Prop)(u:PU k):rn (uX H .eql (lst di l) (.d nPQ)) k u=k (.d (.bool false)):=by obtain⟨m,hm⟩:∃m,l.length=m+1:=⟨l.length-1,aa⟩;simp only[lst,hm];rfl
theorem Ka{l:LiQ}(h0:0<l.length)(hn:l.length<1000000):CP Y F.kf [lst di l] (lst di l):=by
 refine rc ?_;simp only[nA];have hli:dX 0 [.int .i64 0] [] [(0,Bk.none),(0,Bk.none)]=some ([],[(0,Bk.none),(0,Bk.none)]):=rfl;simp[Qf h0,hli];refine D6 (s:=1) (s':=0) (e:=1) (es:=0) (by_:=8) (n:=1) (L:=0) (k:=l.length) (cells:=[]) (cs:=l.map di) h0 rfl rfl rfl ac rfl (by intro t ht;cases ht) aa ?_
 have sn:=xL ⟨1,0,1,.none⟩ (L:=l.length) (cells:=l.map di) (h:=[(1,Bk.data 1 [] true false),(Acc.b ⟨1,0,1,.none⟩ l.length (l.map di))]) rfl ac;obtain⟨m,hm⟩:∃m,l.length=m+1:=⟨l.length-1,aa⟩
 simp_all[lst]
theorem M6{l:LiQ}(h0:0<l.length)(hn:l.length<1000000):CP Y F.iN [lst di l] (lst di l):=by
 refine p9 ?_;simp only[lN];have hli:dX 0 [.int .i64 0] [] [(0,Bk.none),(0,Bk.none)]=some ([],[(0,Bk.none),(0,Bk.none)]):=rfl;simp[Qf h0,hli];refine D6 (s:=1) (s':=0) (e:=1) (es:=0) (by_:=8) (n:=1) (L:=0) (k:=l.length) (cells:=[]) (cs:=l.map di) h0 rfl rfl rfl ac rfl (by intro t ht;cases ht) aa ?_
 have sn:=xL ⟨1,0,1,.none⟩ (L:=l.length) (cells:=l.map di) (h:=[(1,Bk.data 1 [] true false),(Acc.b ⟨1,0,1,.none⟩ l.length (l.map di))]) rfl ac;obtain⟨m,hm⟩:∃m,l.length=m+1:=⟨l.length-1,aa⟩
 simp_all[lst]
theorem Vh{p:LiQ}(hp:pcB p=0)(h0:0<p.length)(hN:p.length<1000)(hd:d≠0)(hb : -1000000000<=d∧d<=1000000000):CP Y F.mz [lst di p,I 1,I d] (.tup [szV (EY p.length (de 1 d)),I 0]):=by
 refine CG ?_;have fo:=uz (n:=1) (d:=d) hd aa aa aa aa;have hk:qL 30 (de 1 d):=DG aa aa;obtain⟨m,hm⟩:∃m,p.length=m+1:=⟨p.length-1,aa⟩
 have hs:okS (pJ p.length [kN p.length] [de 1 d]):=by
  have e:=Jh (n:=m) (k:=de 1 d) (m5 hd);rw[EY,<-hm]at e;rw[e];intro y hy;rcases Zw.1 hy with rfl|hy
  .exact⟨m5 hd,hk⟩
  .rw[(Xm.1 hy).2];exact tK aa
 have sc:=EE (p:=p) (k:=de 1 d) hp h0 hN ⟨m5 hd,hk⟩ hs;simp only[qT]at fo sc;simp only[mz];simp;refine cd fo ?_;simp;refine cd sc ?_ (by rfl);simp;exact⟨_,rfl⟩
theorem YJ{m:Mz}(hm:m.length<1000)(h1:∀r∈m,0<r.length∧r.length<1000000)(h0:Hp)(K:KL):∀(q a:Mz),m=a++q ->
  K (.exit 0) [(acU 0).v m.length (m.map row)] [(acU 0).b m.length (m.map row)] ->
  lp (lS (CX Y) (mat m) (I m.length)) [] h0 [(acU 0).v a.length (a.map row),I a.length] [(acU 0).b a.length (a.map row)] K
 | [],a,e,hK=>by
  simp only[Zp]at e;subst e;refine aj ?_;have hlt:¬((m.length:Int)<(m.length:Int)):=aa;simp only[lS];simp[hlt];exact hK
 | x::q,a,e,hK=>by
  refine aj ?_;have hlt:((a.length:Int)<(m.length:Int)):=by rw[e];simp;omega
  have hal:a.length<m.length:=aa;have hx:=h1 x (by grind);have i1:∀h:Hp,ixV h 1 (mat m) (I a.length)=some (.dptr (m.map row) a.length):=λh=>by simp_all
  have i2:∀h:Hp,ld1 h (.dptr (m.map row) a.length)=some (lst di x):=λh=>by
   rw[k8 row m _ hal];simp only[e,Zl (Z8 _),Ze,Zh];rfl
  obtain⟨H,hH⟩:∃H:Hp,H=[(acU 0).b a.length (a.map row)]:=⟨_,rfl⟩;rw[<-hH];have hli:dX 1 [nPQ] [(0,lst di x)] H=some ([row x],H):=GM ..;simp only[lS];simp[hlt,i1,i2];refine cd (Ka hx.1 hx.2) ?_ (by rfl);simp[hli]
  refine md (acU 0) (by_:=24) (k:=1) (cs:=[row x]) aa (by rw[hH];rfl) (by simp[acU]) (by rfl) rfl (by grind) aa (by simp[acU]) ?_;have hs:H.set (acU 0).s ((acU 0).b (a.length+1) (a.map row++[row x]))=[(acU 0).b (a.length+1) (a.map row++[row x])]:=by rw[hH];rfl
  rw[hs];have ih:=YJ hm h1 h0 K q (a++[x]) (by simp[e]) hK;have e4:((a++[x]).length:Int)=(a.length:Int)+1:=ac;rw[e4,X6,List.length_append]at ih;simp(disch:=try exact ae)
  simp_all[dh]
theorem Il(hm:m.length<1000)(h1:∀r∈m,0<r.length∧r.length<1000000):CP Y F.iy [mat m] (mat m):=by refine zm ?_;have l1:aQ (mat m)=some (I m.length):=rfl;simp only[iy];simp[l1];refine lo (YJ hm h1 _ _ m [] rfl ?_);exact xL (acU 0) rfl (by simp[acU])
def trG(p:LiQ)(w:Mz)(g:List Q):List (List Q):=[EY p.length (de 1 (nth 0 (nth [] w 0) 0)),g]
theorem OG(h:qC p c w)(hg:gtB w=0):nth 0 (nth [] w 0) 0≠0∧-1000000000<=nth 0 (nth [] w 0) 0∧nth 0 (nth [] w 0) 0<=1000000000:=by
 obtain⟨w2,h0⟩:=JP hg;have hw0:nth [] w 0∈w:=by rw[cn _ _ _ aa];exact Yx _
 exact⟨h0,h.lw.sm _ hw0 _ (fG (by rw[h.lw.rl _ hw0];exact h.lw.n0))⟩
theorem Tl(h:qC p c w)(hg:gtB w=0){g:List Q}(hl:g.length=p.length)(hs:okS g):CP Y F.jK [tpV p c w,szV g] (.tup [tuV p c w (trG p w g),I 0]):=by
 refine zn ?_;have hn:=h.lc.n12;have hn0:=h.lc.n0;obtain⟨d0,d1⟩:=OG h hg;have a1:=Ow h hg;have a2:=xH h.pr aa hl hs;have a3:=Vh (d:=nth 0 (nth [] w 0) 0) h.pr hn0 aa d0 d1;have a4:=M6 (l:=p) hn0 aa;have a5:=Il (m:=c) (by have:=h.lc.ml;omega) λr hr=>by rw[h.lc.rl r hr];omega
 have a6:=Il (m:=w) (by have:=h.lw.ml;omega) λr hr=>by rw[h.lw.rl r hr];omega
 have a7:=M5 (l:=g) aa aa;have l2:∀H,dX 2 [nPQ] [(0,szV (EY p.length (de 1 (nth 0 (nth [] w 0) 0)))),(1,szV g)] H=some ([szD (EY p.length (de 1 (nth 0 (nth [] w 0) 0))),szD g],H):=λH=>VY ..
 rw[trG];generalize EY p.length (de 1 (nth 0 (nth [] w 0) 0))=pq at *;have ok1:∀m:LiQ,okV (lst di m)=true:=λ_=>rfl
 have ok2:∀m:Mz,okV (mat m)=true:=λ_=>rfl
 simp only[jK,tpV];simp[ok1,ok2];refine cd (args:=[tpV p c w]) a1 ?_ (by rfl);simp[ok1,ok2];refine cd a2 ?_ (by rfl);simp[ok1,ok2];refine cd a3 ?_ (by rfl);simp[ok1,ok2];refine cd a4 ?_ (by rfl);simp[ok1,ok2];refine cd a5 ?_ (by rfl);simp[ok1,ok2];refine cd a6 ?_ (by rfl);simp[ok1,ok2];refine cd a7 ?_ (by rfl);simp[l2,ok1,ok2];exact⟨_,rfl⟩
variable{p:LiQ}{c w w':Mz}{e:Int}
def GtE(p:LiQ)(c w:Mz)(e:Int):Prop:=CP Y F.fS [tpV p c w] (.tup [.agg [I 0,lst di [],lst di []],I e])
theorem abj(h:CP Y F.ky [tpV p c w] (I e))(he:e≠0):GtE p c w e:=by refine sU ?_;simp only[fS,tpV];simp;refine cd (args:=[tpV p c w]) h ?_ (by rfl);simp[he];exact⟨_,rfl⟩
theorem WQ(h:qC p c w)(hg:gtB w≠0):GtE p c w (gtB w):=abj (JO h) hg
theorem TK(h:GtE p c w e)(he:e≠0){l:Mz}:CP Y F.bh [tpV p c w,mat l] (.tup [mat [],I 0,I e]):=by
 refine kJ ?_;simp only[bh,tpV];simp;refine cd (args:=[tpV p c w]) h ?_ (by rfl);have ok1:∀m:LiQ,okV (lst di m)=true:=λ_=>rfl
 simp[he,ok1];exact⟨_,rfl⟩
theorem U7(h:GtE p c w e)(he:e≠0):CP Y F.fK [tpV p c w,lst di x] (.tup [lst di [],B false,I e]):=by
 refine qZ ?_;have hli:∀h:Hp,dX 1 [nPQ] [(0,lst di x)] h=some ([row x],h):=λh=>GM ..
 have ok1:∀m:Mz,okV (mat m)=true:=λ_=>rfl
 simp only[fK,tpV];simp[hli];refine cd (args:=[tpV p c w,mat [x]]) (TK h he) ?_ (by rfl);simp[he];exact⟨_,rfl⟩
variable{p:LiQ}{c w:Mz}
theorem TL(h:qC p c w)(hg:gtB w=0){l:Mz}(hl:l.length<=60)(hm:mzB p l≠0):CP Y F.bh [tpV p c w,mat l] (.tup [mat [],I 0,I (mzB p l)]):=by
 refine kJ ?_;simp only[bh,tpV];simp;refine cd (args:=[tpV p c w]) (Ow h hg) ?_ (by rfl);have l1:aQ (mat l)=some (I l.length):=rfl;have g60:¬((l.length:Int)>60):=aa;have ok1:∀m:LiQ,okV (lst di m)=true:=λ_=>rfl
 have hn:=h.lc.n12;have a2:=wV (p:=p) (m:=l) aa aa;simp[l1,g60,ok1];refine cd a2 ?_ (by rfl);simp[hm];exact⟨_,rfl⟩
theorem U8(h:qC p c w)(hg:gtB w=0)(hm:mzB p [x]≠0):CP Y F.fK [tpV p c w,lst di x] (.tup [lst di [],B false,I (mzB p [x])]):=by
 refine qZ ?_;have hli:∀h:Hp,dX 1 [nPQ] [(0,lst di x)] h=some ([row x],h):=λh=>GM ..
 have ok1:∀m:Mz,okV (mat m)=true:=λ_=>rfl
 simp only[fK,tpV];simp[hli];refine cd (args:=[tpV p c w,mat [x]]) (TL h hg ac hm) ?_ (by rfl);simp[hm];exact⟨_,rfl⟩
theorem aae(h:af7 p c w)(h4:p.length<=4)(hg:gtB w=0)(hm:mzB p [x]=0):Di p w x:=by
 obtain⟨h1,h2⟩:=VC h.t.pr hm
 have hx:∀z∈x,z.natAbs<=1000:=λz hz=>by
  have:=aal h2 hz;omega
 refine⟨h1,λz hz=>by grind,U0 aa λz hz=>by grind,λz hz=>?_⟩;obtain⟨v,hv,rfl⟩:=Zx.1 hz;have h3:=QT hx (OX (h.bw (JP hg).1) v hv);have h5:x.length*(1000*157464)<=4*(1000*157464):=Zu _ aa;omega
end Go.Vm
