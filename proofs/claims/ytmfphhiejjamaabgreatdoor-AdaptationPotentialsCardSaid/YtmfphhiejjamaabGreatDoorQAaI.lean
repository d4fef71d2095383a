/- Lemmas. -/
import Derived.Test.YtmfphhiejjamaabGreatDoorQSzI
set_option linter.unusedVariables false
set_option linter.unusedSimpArgs false
namespace Go.Vm
open Go Go.Am Go.Big
variable{i f t b Bd Cd C n most k j:Nat}{p r x M l r' d c:LiQ}{m R0 R:LLQ}{z q w:Int}{A:List Q}{ch:List LLQ}
def stepG(p:LiQ):LiQ->LLQ->LiQ
 |v,[]=>v
 |v,d::q=>stepG p (dI 1 v (pn p d)) q
def yv(a:Ad)(i f t:Nat):LLQ:=(nth [] a.lk i).map (pY a i f t)
def zJ(a:Ad)(i f t:Nat):LiQ:=stepG a.p (List.replicate a.p.length 0) (yv a i f t)
theorem cI.move{a:Ad}(G:cI a)(hi:i<a.lk.length)(hf:f<(nth [] a.cd i).length)(ht:t<(nth [] a.cd (i+1)).length):∀d∈yv a i f t,d.length=a.p.length∧bdR 160 d:=by intro d hd;obtain⟨x,hx,rfl⟩:=Zc.1 hd;obtain⟨j,hj,rfl⟩:=Wu hx;have hlen:=G.wk.len;have hcl:=G.cl;obtain⟨_,_,⟨n1,n2⟩,n3,n4⟩:=G.wk.notes hi hj;rw[aN _ _ _ hj]at n1 n2 n3 n4;obtain⟨s1,s2⟩:=G.shift (i:=i) (k:=f) aa hf;obtain⟨t1,t2⟩:=G.shift (i:=i+1) (k:=t) aa ht;exact⟨Dx t1 n3 s1 n1,UV (A:=72) (B:=8) (C:=72) (D:=8) t2 n4 s2 n2⟩
def sH(a:Ad)(f t:Nat)(s2:Nat×Bk):Hp:=[adB a,fB f t,s2]
theorem Pm{a:Ad}(G:cI a){f t:Nat}{m:LLQ}(hm:∀d∈m,d.length=a.p.length∧bdR 160 d)(hN:m.length<=100)(h0:Hp)(hh:h0.length=3)(K:KL):∀(q l:LLQ)(v:LiQ)(s:V)(s2 s2':Nat×Bk),l++q=m->v.length=a.p.length->bdN (160*l.length) v ->
  bJ (sH a f t s2) s=some (szV (szI 1 v),sH a f t s2') ->
  (∀s s2 s2',bJ (sH a f t s2) s=some (szV (szI 1 (stepG a.p v q)),sH a f t s2')->K (.exit 0) [I 0,s] (sH a f t s2)) ->
  lp (mi (CX Y) (.ptr 0 1 0 6) (mat m) (I m.length)) [] h0 [I 0,s,I l.length] (sH a f t s2) K
 | [],l,v,s,s2,s2',hl,hv,hb,hs,hK=>by
  have e:l.length=m.length:=by rw[<-hl];simp
  refine aj ?_;simp[mi,e];exact hK s s2 s2' hs
 | d::q,l,v,s,s2,s2',hl,hv,hb,hs,hK=>by
  have hll:m.length=l.length+(q.length+1):=by rw[<-hl];simp
  obtain⟨d1,d2⟩:=hm d (by grind);obtain⟨hin,hp0⟩:=eh G.hp;have hNp:=hin.2.1;have mg:=Ai G d1 (dO d2 aa);have ba:bdN 160 (pn a.p d):=ya (MX (B:=160) d2);have sa:=K5 G.hp (b:=1) (B:=160*l.length) (C:=160) ae ae hv (by rw[pV,d1]) hb ba aa ae
  have i1:∀h:Hp,ixV h 1 (mat m) (I l.length)=some (.dptr (m.map row) l.length):=fun h=>aJ row _ h rfl aa
  have i2:∀h:Hp,ld1 h (.dptr (m.map row) l.length)=some (lst di d):=fun h=>by rw[aC row [] m h aa,<-hl,bM];rfl
  have l6:∀x,ldA (sH a f t x) 6 (.ptr 0 1 0 6)=some (.agg (adC a)):=fun _=>rfl
  have f0:∀x,ld1 (sH a f t x) (.ptr 0 1 0 6)=some (lst di a.p):=fun _=>rfl
  have vl:(dI 1 v (pn a.p d)).length=a.p.length:=by rw[hQ _ (by rw[pV,hv,d1]),hv]
  have ih:=Pm G hm hN h0 hh K q (l++[d]) (dI 1 v (pn a.p d)) (szV (szI 1 (dI 1 v (pn a.p d)))) s2' s2' (by grind) vl (by
   have:=lE hb ba
   grind) (by rfl) hK
  have g:(l.length:Int)<m.length:=aa;refine aj ?_;have hn:nth [] m l.length=d:=by rw[<-hl,bM]
  have sn:aS (sH a f t s2) [lst di a.p,s,szV (szI 1 (pn a.p d))]=some ([lst di a.p,szV (szI 1 v),szV (szI 1 (pn a.p d))],sH a f t s2'):=
   mT (by rfl) (mT hs (mT (by rfl) (by rfl)))
  have hre:∀x,au [] 0 h0 (sH a f t x)=sH a f t x:=fun x=>aX 0 h0 _ (by simp[sH,hh])
  simp[mi,g,i1,i2,hn];refine aT ?_;simp[i1,i2,hn];refine aT ?_;simp[l6];refine cd mg ?_;simp;refine aT ?_;simp[f0];refine cdz sn sa ?_;rw[show fN (V.tup [szV (szI 1 (dI 1 v (pn a.p d))),I 0])=false from rfl,if_neg ae];simp(disch:=try exact ag)[hre];have e2:((l++[d]).length:Int)=(l.length:Int)+1:=af
  simp_all
theorem xD(n:Nat):szI 1 (List.replicate n 0)=List.replicate n (0,1):=by
 induction n with
 |zero=>rfl
 |succ n ih=>rw[List.replicate_succ,List.replicate_succ];show _::szI 1 (List.replicate n 0)=_;rw[ih];rfl
theorem step_ok{a:Ad}(G:cI a)(hi:i<a.lk.length)(hf:f<(nth [] a.cd i).length)(ht:t<(nth [] a.cd (i+1)).length):
  CP Y F.jJ [.agg (adC a),mat (mb a),I i,.agg [I f,I t]] (.tup [szV (szI 1 (zJ a i f t)),I 0]):=by
 refine AY ?_;have mv:=LK G hi hf ht;have mm:=G.move hi hf ht;have hml:(yv a i f t).length=(nth [] a.lk i).length:=by simp[yv]
 have hls:=G.wk.ls _ (aQ (d:=[]) hi)
 change CP Y F.du [.agg (adC a),mat (mb a),I i,.agg [I f,I t]] (.tup [mat (yv a i f t),I 0])at mv
 obtain⟨hin,hp0⟩:=eh G.hp;have hNp:=hin.2.1;have bx:=xy (a:=a) 0 [nnQ,nnQ,nnQ] [adB a,nnQ,nnQ] rfl rfl;have bl:∀(k:kkQ)(u:PU k),rh (cQ 1 (.agg [I f,I t]) [adB a,nnQ,nnQ]) k u=k (.ptr 1 1 0 2) (sH a f t nnQ):=fun _ _=>rfl
 have l6:∀x,ldA (sH a f t x) 6 (.ptr 0 1 0 6)=some (.agg (adC a)):=fun _=>rfl
 have l2:∀x,ldA (sH a f t x) 2 (.ptr 1 1 0 2)=some (.agg [I f,I t]):=fun _=>rfl
 have f0:∀x,ld1 (sH a f t x) (.ptr 0 1 0 6)=some (lst di a.p):=fun _=>rfl
 have zi:=Ka (h:=sH a f t nnQ) rfl G.hp.1 aa;unfold zJ;generalize yv a i f t=m at *;simp[jJ,bx,bl,l6,l2];refine cd mv ?_;simp[f0];refine jC (MU (e:=0) (b:=.none) zi rfl ?_)
 have eZ:(List.replicate a.p.length zT).flatMap aK=((List.replicate a.p.length ((0,1):Q)).map tx).flatMap aK:=by
  rw[Wc];rfl
 have hfl:((List.replicate a.p.length zT).flatMap aK).length=a.p.length*2:=by rw[d6 aK bv];simp
 have sn:bJ (sH a f t (1,.data 2 ((List.replicate a.p.length zT).flatMap aK) true false)) (.ref 2 1 0 a.p.length a.p.length ((List.replicate a.p.length zT).flatMap aK).length)=some (szV (szI 1 (List.replicate a.p.length 0)),sH a f t (1,.data 2 ((List.replicate a.p.length zT).flatMap aK) true true)):=by
  rw[xD];simp only[bJ,toD,sH,aw,List.getElem?_cons_succ,List.getElem?_cons_zero,if_true];rw[if_pos ⟨trivial,Z7 _,aa⟩];simp only[szV,qm,List.length_map,Zh,Zj,<-eZ];rw[Z6 aa];rfl
 have hs:(sH a f t nnQ).set 2 (0+1,.data 2 ((List.replicate a.p.length zT).flatMap aK) true false)=sH a f t (1,.data 2 ((List.replicate a.p.length zT).flatMap aK) true false):=rfl;rw[hs]
 have:=Pm G (f:=f) (t:=t) (m:=m) mm aa (sH a f t (1,.data 2 ((List.replicate a.p.length zT).flatMap aK) true false)) rfl
  (exK [(Exit.exit 0,fun l16 h=>out (V.tup [szV (szI 1 (stepG a.p (List.replicate a.p.length 0) m)),I 0]) (V.tup [ge l16 1,ge l16 0]) h)]) m [] (List.replicate a.p.length 0) _ _ _ rfl af (fun x hx=>by grind) sn
  (fun s s2 s2' h=>aG h rfl)
 exact this
theorem Ny(hb:0<b)(r:LiQ):szI 1 r=szI b (r.map (· * (b:Int))):=by
 have:=xL b (oi (b:=1) ae r)
 grind[xK]
def gD(p:LiQ)(O St:D):LdQ:=[row p,O,St]
def wI(p r:LiQ):Int:=bE r (L5 p)
theorem Mc(hp:pcS p)(O St:D)(hb:0<b)(hb1:b<1000000){t:LiQ}(lr:r.length=p.length)(lt:t.length=p.length)(hr:bdN Bd r)(ht:bdN Cd t)(hB:Bd<1000000000000)(hC:Cd<1000000000000):
  CP Y F.dG [.dptr (gD p O St) 0,szV (szI b r),szV (szI b t)] (B (decide (wI p r<wI p t))):=by
 refine uQ ?_;obtain⟨hi,h0⟩:=eh hp;have hN:=hi.2.1;have m1:Bd*b<=1000000000000*1000000:=Zn aa aa;have m2:Cd*b<=1000000000000*1000000:=Zn aa aa;have sg:=acJ hi (by rw[ci,lr]) (by rw[ci,lt]) hb hb (oi hb r) (oi hb t) hr ht aa
 have co:=FY hp.1 aa (by rw[ci,lr]) (by rw[ci,lt]) (qd hb aa hr aa) (qd hb aa ht aa) sg
 have e:((bE r (L5 p)*(b:Int)-bE t (L5 p)*(b:Int)).sign<0)=(wI p r<wI p t):=by
  unfold wI;rw[<-Int.sub_mul,u5 aa];apply propext;rcases Int.lt_trichotomy (bE r (L5 p)) (bE t (L5 p))with h|h|h
  .rw[X2 aa];omega
  .grind
  .rw[X3 aa];omega
 have f0:∀h:Hp,ld1 h (.dptr (gD p O St) 0)=some (lst di p):=fun _=>rfl
 simp[dG,f0];refine cd co ?_ (by rfl);simp[e]
def sN:LiQ->LLQ->LiQ
 |v,[]=>v
 |v,d::q=>sN (dI 1 v d) q
theorem YV{p:LiQ}(hp:pcS p)(O St:D){b:Nat}(hb:0<b)(hb1:b<1000000){B:Nat}(hB:B<1000000000000){m:LLQ}(hm:∀d∈m,d.length=p.length∧bdN B d)(hN:m.length<=100)(h0:Hp)(hh:h0.length=1)(K:KL):∀(q l:LLQ)(v:LiQ)(s:V)(s2 s2':Nat×Bk),l++q=m->v.length=p.length->bdN (B*l.length) v ->
  bJ [s2] s=some (szV (szI b v),[s2']) ->
  (∀s s2 s2',bJ [s2] s=some (szV (szI b (sN v q)),[s2'])->K (.exit 0) [s,I 0] [s2]) ->
  lp (iG (CX Y) (.dptr (gD p O St) 0) (lst szD (m.map (szI b))) (I m.length)) [] h0 [s,I 0,I l.length] [s2] K
 | [],l,v,s,s2,s2',hl,hv,hbv,hs,hK=>by
  have e:l.length=m.length:=by rw[<-hl];simp
  refine aj ?_;simp[iG,e];exact hK s s2 s2' hs
 | d::q,l,v,s,s2,s2',hl,hv,hbv,hs,hK=>by
  have hll:m.length=l.length+(q.length+1):=by rw[<-hl];simp
  obtain⟨d1,d2⟩:=hm d (by grind);have hBl:B*l.length<=B*100:=Zw _ aa;have sa:=K5 hp hb aa hv d1 hbv d2 aa aa;obtain⟨M,hM⟩:=nmQ (m.map (szI b));have hMl:M.length=m.length:=by rw[hM];simp
  have hMn:nth [] M l.length=szI b d:=by rw[hM,<-hl,Xx,Z2];have:=bM [] (l.map (szI b)) (szI b d) (q.map (szI b));simpa using this
  have i1:∀h:Hp,ixV h 1 (lst szD M) (I l.length)=some (.dptr (M.map szD) l.length):=fun h=>aJ szD _ h rfl aa
  have i2:∀h:Hp,ld1 h (.dptr (M.map szD) l.length)=some (szV (szI b d)):=fun h=>by rw[aC szD [] M h aa,hMn];rfl
  have f0:∀h:Hp,ld1 h (.dptr (gD p O St) 0)=some (lst di p):=fun _=>rfl
  have vl:(dI 1 v d).length=p.length:=by rw[hQ _ aa,hv]
  have ih:=YV hp O St hb hb1 hB hm hN h0 hh K q (l++[d]) (dI 1 v d) (szV (szI b (dI 1 v d))) s2' s2' (by grind) vl (by
   simp_all[lE,Zq]) (by rfl) hK
  rw[<-hM]at ih ⊢;have g:(l.length:Int)<m.length:=aa
  have sn:aS [s2] [lst di p,s,szV (szI b d)]=some ([lst di p,szV (szI b v),szV (szI b d)],[s2']):=
   mT (by rfl) (mT hs (mT (by rfl) (by rfl)))
  have hre:∀x,au [] 0 h0 [x]=[x]:=fun x=>aX 0 h0 _ (by grind)
  refine aj ?_;simp[iG,g,i1,i2];refine aT ?_;simp[i1,i2];refine aT ?_;simp[f0];refine cdz sn sa ?_;rw[show fN (V.tup [szV (szI b (dI 1 v d)),I 0])=false from rfl,if_neg ae];simp(disch:=try exact ag)[hre];have e2:((l++[d]).length:Int)=(l.length:Int)+1:=af
  simp_all
theorem Ef(hb:0<b)(n:Nat):szI b (List.replicate n 0)=List.replicate n (0,1):=by
 have h1:=xD n;have h2:=Ny hb (List.replicate n 0)
 simp_all
theorem Qs(hp:pcS p)(O St:D)(hb:0<b)(hb1:b<1000000){B:Nat}(hB:B<1000000000000)(hm:∀d∈m,d.length=p.length∧bdN B d)(hN:m.length<=100):
  CP Y F.d8 [.dptr (gD p O St) 0,lst szD (m.map (szI b))] (.tup [szV (szI b (sN (List.replicate p.length 0) m)),I 0]):=by
 refine vM ?_;obtain⟨hin,hp0⟩:=eh hp;have hNp:=hin.2.1;have f0:∀h:Hp,ld1 h (.dptr (gD p O St) 0)=some (lst di p):=fun _=>rfl
 have zi:=Ka (h:=[nnQ]) rfl hp.1 aa;simp[d8,f0];refine jC (MU (e:=0) (b:=.none) zi rfl ?_)
 have eZ:(List.replicate p.length zT).flatMap aK=((List.replicate p.length ((0,1):Q)).map tx).flatMap aK:=by
  rw[Wc];rfl
 have hfl:((List.replicate p.length zT).flatMap aK).length=p.length*2:=by rw[d6 aK bv];simp
 have sn:bJ [(1,.data 2 ((List.replicate p.length zT).flatMap aK) true false)] (.ref 0 1 0 p.length p.length ((List.replicate p.length zT).flatMap aK).length)=some (szV (szI b (List.replicate p.length 0)),[(1,.data 2 ((List.replicate p.length zT).flatMap aK) true true)]):=by
  rw[Ef hb];simp only[bJ,toD,aw,List.getElem?_cons_zero,if_true];rw[if_pos ⟨trivial,Z7 _,aa⟩];simp only[szV,qm,List.length_map,Zh,Zj,<-eZ];rw[Z6 aa];rfl
 have:=YV hp O St hb hb1 hB (m:=m) hm hN [(1,.data 2 ((List.replicate p.length zT).flatMap aK) true false)] rfl
  (exK [(Exit.exit 0,fun l8 h=>out (V.tup [szV (szI b (sN (List.replicate p.length 0) m)),I 0]) (V.tup [ge l8 0,ge l8 1]) h)]) m [] (List.replicate p.length 0) _ _ _ rfl af (fun x hx=>by grind) sn
  (fun s s2 s2' h=>aG h rfl)
 simp_all
theorem Va(z:Int):vW z 1=(z,1):=by simp[vW,gU]
theorem qc(h1 : -9223372036854775808<z)(h2:z<9223372036854775808):CP Y F.bX [I z] (.agg (qT (z,1))):=by
 refine wS ?_
 have fo:CP Y F.j8 [I z,I 1] (.tup [.agg [S (itoa z),S (ai 1)],I 0]):=by
  have:=Mf (n:=z) (d:=1) ae h1 h2 ae ae;rw[Va]at this;exact this
 simp[bX];refine cd fo ?_;simp;exact kX rfl rfl
theorem HE(z:Int):gU z 1=(z,1):=by simp[gU]
def fC(v:LiQ):LdQ:=((szI 1 v).map tx).flatMap aK
theorem MP(v:LiQ)(x:Int):fC (v++[x])=fC v++aK (tx (x,1)):=by simp[fC,szI,HE]
theorem tz(v:LiQ):(fC v).length=v.length*2:=by unfold fC;rw[d6 aK bv,List.length_map,ci]
theorem XL(v:LiQ):V.d (.sl v.length (fC v))=szV (szI 1 v):=by simp[szV,qm,fC,ci]
def og(z:Int)(r:LiQ):LiQ:=r.map fun x=>if z<0 then 0-x else x
def acA(h:Hp):Acc:=⟨h.length+0,0,2,.none⟩
theorem YX{h:Hp}{p r:LiQ}{z:Int}(hN:r.length<1000000)(hr:smR r=true)(K:KL):∀(q l:LiQ),l++q=r ->
  K (.exit 0) [(acA h).v r.length (fC (og z r))] (h++[(acA h).b r.length (fC (og z r))]) ->
  lp (iO (CX Y) h.length (lst di r) (I z)) [] (h++[nnQ]) [(acA h).v l.length (fC (og z l)),I l.length] (h++[(acA h).b l.length (fC (og z l))]) K
 | [],l,hl,hK=>by
  have e:l=r:=by simpa using hl
  subst e;refine aj ?_;simp[iO];exact hK
 | x::q,l,hl,hK=>by
  have hll:r.length=l.length+(q.length+1):=by rw[<-hl];simp
  have xb:=Di hr (x:=x) (by grind);have i1:∀H:Hp,ixV H 1 (lst di r) (I l.length)=some (.dptr (r.map di) l.length):=fun H=>aJ di _ H rfl aa
  have i2:∀H:Hp,ld1 H (.dptr (r.map di) l.length)=some (I x):=fun H=>by rw[aC di 0 r H aa,<-hl,bM];rfl
  obtain⟨y,hy⟩:=nmQ (if z<0 then 0-x else x)
  have yb : -1000<=y∧y<=1000:=by rw[hy];split<;>omega
  have wo:=qc (z:=y) aa aa;have eL:og z (l++[x])=og z l++[y]:=by simp[og,hy]
  have ih:=YX (h:=h) (p:=p) (z:=z) hN hr K q (l++[x]) (by grind) hK;rw[eL,MP]at ih;have li:∀H,cO 1 [D.str [],D.str []] [(0,.agg (qT (y,1)))] H=some (aK (tx (y,1)),H):=fun H=>Qi (y,1) H
  have cl:=tz (og z l);have ll:(og z l).length=l.length:=by simp[og]
  have g:(l.length:Int)<r.length:=aa;have lr:bj (lst di r)=some (I r.length):=rfl
  have main:∀(K2:kkQ),K2 ((acA h).v (l.length+1) (fC (og z l)++aK (tx (y,1)))) (h++[(acA h).b (l.length+1) (fC (og z l)++aK (tx (y,1)))]) ->
    apV false (h.length+0) 2 32 ((acA h).v l.length (fC (og z l))) (.d (.sl 1 (aK (tx (y,1))))) (h++[(acA h).b l.length (fC (og z l))]) K2:=fun K2 hk=>by
   have:=hO (acA h) (L:=l.length) (by_:=32) (k:=1) (cells:=fC (og z l)) (cs:=aK (tx (y,1))) (h:=h++[(acA h).b l.length (fC (og z l))]) (y:=.d (.sl 1 (aK (tx (y,1))))) (q:=K2) (u:=.mk) aa (by simp[acA]) (by rw[cl,ll];rfl) rfl rfl (fun t e=>by cases e) aa (by show 0<2;decide) (by
     have e:(h++[(acA h).b l.length (fC (og z l))]).set (acA h).s ((acA h).b (l.length+1) (fC (og z l)++aK (tx (y,1))))=h++[(acA h).b (l.length+1) (fC (og z l)++aK (tx (y,1)))]:=by simp[acA]
     grind)
   exact this
  have e2:((l++[x]).length:Int)=(l.length:Int)+1:=af;have e3:(l++[x]).length=l.length+1:=af;rw[e2,e3]at ih;have hre:∀b,au [] 0 (h++[(0,Bk.none)]) (h++[b])=h++[b]:=fun b=>aX 0 _ _ af
  refine aj ?_;simp[iO,g,i1,i2,lr];refine aT ?_
  have g2:biI .add (I l.length) (.d (.int .i64 1))=some (I ((l.length:Int)+1)):=by
   have:=FW (a:=(l.length:Int)) (b:=1) aa;exact this
  have fin:∀k:kkQ,(∀v10 h4,k v10 h4=bnd (biI BinOp.add (I l.length) (V.d (D.int IntKind.i64 1))) fun v11=>
    clean [] [v10,v11] h4=true∧lp (iO (CX Y) h.length (lst di r) (I z)) [] (h++[(0,Bk.none)]) [v10,v11] (au [] 0 (h++[(0,Bk.none)]) h4) K) ->
    apV false h.length 2 32 ((acA h).v l.length (fC (og z l))) (.d (.sl 1 (aK (tx (y,1))))) (h++[(acA h).b l.length (fC (og z l))]) k:=fun k hk=>by
   simp_all
  by_cases hz:z<0
  .have bs:biI .sub (V.d (D.int IntKind.i64 0)) (I x)=some (I y):=by rw[rT,wrap_i64 aa,hy,if_pos hz]
   rw[bs];simp[hz];refine cd wo ?_;simp[li]
   simp_all
  .have ey:y=x:=by rw[hy,if_neg hz]
   rw[ey]at wo li fin;simp[hz];refine cd wo ?_;simp[li]
   simp_all
theorem YZ{h:Hp}(hu:(h.all fun x=>bW h.length x.2)=true)(hp:pcB p=0)(hN:p.length<=100)(hl:r.length=p.length)(h0:0<r.length)(hb:tE p)(hx:smR r=true):
  CI Y F.ef [lst di p,lst di r] h (.new 2 (fC (og (Big.cmp (kV p r).1 (kV p r).2) r)) false r.length r.length) h:=by
 refine yN ?_;have ms:=U4 hp hN hl hb hx;generalize Big.cmp (kV p r).1 (kV p r).2=z at *;obtain⟨n,hn⟩:∃n,r.length=n+1:=⟨r.length-1,aa⟩
 have:=YX (h:=h) (p:=p) (z:=z) (r:=r) aa hx (exK [(Exit.exit 0,fun l4 h'=>qN h.length (.new 2 (fC (og z r)) false r.length r.length) h (ge l4 0) h')]) r [] rfl (by
  have ll:(og z r).length=r.length:=by simp[og]
  have cl:=tz (og z r);refine⟨af,?_,.inr (.inr (.inl ⟨h.length+0,1,r.length,r.length,2,fC (og z r),false,?_,aa,?_,rfl⟩))⟩
  .simp only[Yp,hu,Zg,hn,Acc.b]
   try rfl
  .rw[hn];rfl
  .rw[hn];simp[aw,acA])
 simp[ef];refine cd ms ?_;simp;exact this
theorem Kr(h:Int->Int):∀{p x:LiQ},x.length=p.length->qD h (p.zip x)=bE x (p.map h)
 |[],[],_=>rfl
 | q::p,z::x,hl=>by
  have:=Kr h (p:=p) (x:=x) (by grind)
  grind[List.zip_cons_cons,qD,bE]
 |[],_::_,hl=>by rfl
 |_::_,[],hl=>by rfl
theorem QJ:∀{ts:List (Int×Int)},(ts.map Prod.fst).Nodup->(∀t∈ts,cfT ts t.1=0)->∀t∈ts,t.2=0
 |[],_,_=>fun t ht=>by simp at ht
 | s::ts,hn,h=>by
  simp only[Z2,Xm]at hn;intro t ht
  have hs:s.2=0:=by
   have:=h s af;rw[cfT,if_pos rfl,DT ts hn.1]at this;omega
  rcases Zo.1 ht with rfl|ht
  .exact hs
  .refine QJ hn.2 (fun u hu=>?_) t ht
   grind[cfT.eq_2]
theorem zip_fst:∀{p x:LiQ},x.length=p.length->(p.zip x).map Prod.fst=p
 |[],_,_=>by simp
 |q::p,z::x,hl=>by simp only[List.zip_cons_cons,Z2,zip_fst (p:=p) (x:=x) (by grind)]
 |_::_,[],hl=>by simp at hl
theorem OX:∀{p x:LiQ},x.length=p.length->(∀t∈p.zip x,t.2=0)->∀z∈x,z=0
 |[],[],_,_=>fun z hz=>by simp at hz
 | q::p,y::x,hl,h=>by
  intro z hz;rcases Zo.1 hz with rfl|hz
  .exact h (q,z) af
  .exact OX (p:=p) (x:=x) (by grind) (fun t ht=>h t (by simp[ht])) z hz
 |[],_::_,hl,_=>by simp at hl
 |_::_,[],hl,_=>by simp at hl
theorem WK(hC:C<=1000000000000)(hi:in6 p)(hl:x.length=p.length)(hx:∀z∈x,z.natAbs<=C)(h:(bE x (L5 p)).natAbs<=73786976294838206464):∀z∈x,z=0:=by
 have hf:=zip_fst hl;have hm:∀t∈p.zip x,t.1∈c6P:=fun t ht=>hi.2.2 _ (by grind)
 have hb:zF (p.zip x)<=73786976294838206464:=by
  have h1:=IC (C:=C) (p.zip x) fun t ht=>hx _ (by
   obtain⟨a,b⟩:=t;exact(We ht).2)
  have h2:(p.zip x).length<=p.length:=by rw[List.length_zip];omega
  have h3:=hi.2.1;have h4:(p.zip x).length*C<=6*C:=Zz _ aa;omega
 have hz:=BG (n:=2048) JR rfl XX hm hb (by rw[Kr _ hl];exact h);refine OX hl (QJ (by rw[hf];exact hi.1) fun t ht=>hz t.1 (hm t ht))
theorem Vv(hq:q∈c6P):∀n,n=2048->2^lg q n<=q.toNat^(2^n)∧q.toNat^(2^n)<=2^(lg q n+1):=by
 intro n hn;have h1:=(acX hq (i:=5) ae).1;rw[show 64*2^5=2048 from rfl,<-hn]at h1;obtain⟨v,hv⟩:=Yh.1 h1;have e:lg q n=v:=by unfold lg;rw[hv];rfl
 have hp:=XW q hq;rw[e];by_cases h2:q.toNat=2
 .grind[CU]
 ·have hnb:aY q.toNat-1<=n+64:=by
   have:=(Nat.log2_lt (n:=q.toNat) (k:=7) aa).2 aa;unfold aY;split<;>omega
  obtain⟨a,b⟩:=Oh aa h2 hnb hv;omega
theorem VG(hi:in6 p)(hl:x.length=p.length)(hx:smR x=true):og (Big.cmp (kV p x).1 (kV p x).2) x=pn p x:=by
 have hb:=Tl hx;obtain⟨n,hn⟩:∃n:Nat,n=2048:=⟨_,rfl⟩;have hL:L5 p=p.map fun q=>((lg q n:Nat):Int):=by unfold L5;rw[<-hn];rfl
 obtain⟨s1,s2⟩:=NK (l:=fun q=>lg q n) (N:=2^n) (p:=p) (x:=x) (fun q hq=>Vv (hi.2.2 q hq) n hn) hb (Yj ae);rw[<-hL]at s1 s2;have h6:=hi.2.1;by_cases h:(bE x (L5 p)).natAbs<=73786976294838206464
 .have hz:=WK ae hi hl hb h
  have e1:∀z:Int,og z x=x:=fun z=>by
   unfold og;refine(Ym fun y hy=>?_).trans (List.map_id x)
   grind
  have e2:pn p x=x:=by
   unfold pn;refine(Ym fun y hy=>?_).trans (List.map_id x);rw[hz y hy];simp
  grind
 .unfold pn;rw[Im];rcases Int.lt_trichotomy (bE x (L5 p)) 0 with g|g|g
  .rw[B8 (s2 aa),X2 g];simp[og]
  .omega
  .rw[B9 (s1 aa),X3 g];simp[og]
theorem Io{h:Hp}(hu:(h.all fun x=>bW h.length x.2)=true)(hp:pcS p)(hl:r.length=p.length)(hb:tE p)(hx:smR r=true):
  CI Y F.ef [lst di p,lst di r] h (.new 2 (fC (pn p r)) false r.length r.length) h:=by
 obtain⟨hi,h0⟩:=eh hp;have h6:=hi.2.1;have:=YZ hu hp.1 aa hl aa hb hx
 grind[VG]
def acS:Acc:=⟨0,0,2,.none⟩
def pS(s:List Q):LdQ:=(s.map tx).flatMap aK
theorem MO(s:List Q)(x:Q):pS (s++[x])=pS s++aK (tx x):=by simp[pS]
theorem FP(s:List Q):(pS s).length=s.length*2:=by unfold pS;rw[d6 aK bv,List.length_map]
theorem XK(s:List Q):V.d (.sl s.length (pS s))=szV s:=by simp[szV,qm,pS]
theorem SY(s:List Q)(h:Hp)(hi:i<s.length):∃w,ixV h 2 (szV s) (I i)=some w∧ldA h 2 w=some (.agg (qT (nth (0,1) s i))):=by
 have h1:=ou aK bv (s.map tx) h (k:=.i64) (i:=(i:Int)) aa (by grind);rw[Int.toNat_natCast]at h1;refine⟨_,h1,?_⟩;have h2:=ot aK bv (tx (0,1)) (s.map tx) h (j:=i) (by grind);rw[h2]
 have e:nth (tx (0,1)) (s.map tx) i=tx (nth (0,1) s i):=by
  rw[aN _ _ _ (by grind),aN _ _ _ hi,Wo]
 rw[e];rfl
theorem Um(hb:0<b)(x y:Int):vm (gU x b) (gU y b)=gU (x+y) b:=
 IR hb (NP (Br hb rfl) (Br hb rfl))
theorem Dh(b:Nat)(hi:i<r.length):nth (0,1) (szI b r) i=gU (nth 0 r i) b:=by grind[aN,szI]
theorem Kp:∀{r t:LiQ}{i:Nat},r.length=t.length->i<r.length->nth 0 (dI 1 r t) i=nth 0 r i+nth 0 t i
 |a::r,c::t,0,_,_=>by simp[dI,nth]
 | a::r,c::t,i+1,h,hi=>by
  have:=Kp (r:=r) (t:=t) (i:=i) (by grind) (by grind);trivial
 |[],_,_,_,hi=>by simp at hi
 |_::_,[],_,h,_=>by simp at h
theorem Ql{b Bd Cd:Nat}(hb:0<b)(hb1:b<1000000000){r t:LiQ}(hl:t.length=r.length)(hN:r.length<1000000)(hr:bdN Bd r)(ht:bdN Cd t)(hB:Bd<100000000000000000)(hC:Cd<100000000000000000)(K:KL) :
  ∀(m k:Nat),k+m=r.length ->
  K (.exit 0) [acS.v r.length (pS (szI b (dI 1 r t)))] [acS.b r.length (pS (szI b (dI 1 r t)))] ->
  lp (kJ (CX Y) (szV (szI b r)) (szV (szI b t))) [] [nnQ] [acS.v k (pS (szI b ((dI 1 r t).take k))),I k] [acS.b k (pS (szI b ((dI 1 r t).take k)))] K
 | 0,k,hk,hK=>by
  have e:k=r.length:=aa;subst e;have vl:(dI 1 r t).length=r.length:=hQ _ hl.symm;rw[Z6 aa];have lr:bj (szV (szI b r))=some (I r.length):=by rw[Al,ci]
  refine aj ?_;simp[kJ,lr];exact hK
 | m+1,k,hk,hK=>by
  have hkr:k<r.length:=aa;have vl:(dI 1 r t).length=r.length:=hQ _ hl.symm;have ih:=Ql hb hb1 hl hN hr ht hB hC K m (k+1) aa hK;obtain⟨w1,a1,a2⟩:=SY (szI b r) [acS.b k (pS (szI b ((dI 1 r t).take k)))] (i:=k) (by grind[ci]);obtain⟨w2,c1,c2⟩:=SY (szI b t) [acS.b k (pS (szI b ((dI 1 r t).take k)))] (i:=k) (by grind[ci])
  rw[Dh b hkr]at a2;rw[Dh b aa]at c2;have okr:=qd hb hb1 hr aa;have okt:=qd hb hb1 ht aa;obtain⟨x1,x2⟩:=okr (gU (nth 0 r k) b) (Wt (aQ hkr));obtain⟨y1,y2⟩:=okt (gU (nth 0 t k) b) (Wt (aQ aa));have fa:=Mh x1 y1 (x2.mono ae) (y2.mono ae);rw[Um hb]at fa
  have tk:=Ed (l:=dI 1 r t) (k:=k) aa;rw[Kp hl.symm hkr]at tk;have eS:szI b ((dI 1 r t).take (k+1))=szI b ((dI 1 r t).take k)++[gU (nth 0 r k+nth 0 t k) b]:=by rw[tk];simp[szI]
  rw[eS,MO]at ih;have tl:(szI b ((dI 1 r t).take k)).length=k:=by rw[ci,Zr];omega
  have cl:=FP (szI b ((dI 1 r t).take k));rw[tl]at cl;generalize pS (szI b ((dI 1 r t).take k))=cs at *;have li:∀H,cO 1 [D.str [],D.str []] [(0,.agg (qT (gU (nth 0 r k+nth 0 t k) b)))] H=some (aK (tx (gU (nth 0 r k+nth 0 t k) b)),H):=fun H=>Qi _ H
  generalize gU (nth 0 r k+nth 0 t k) b=s at *;generalize gU (nth 0 r k) b=s1 at *;generalize gU (nth 0 t k) b=s2 at *;have lr:bj (szV (szI b r))=some (I r.length):=by rw[Al,ci]
  generalize szV (szI b r)=RV at *;generalize szV (szI b t)=TV at *;have g:(k:Int)<r.length:=aa;have e2:((k+1:Nat):Int)=(k:Int)+1:=af;rw[e2]at ih;refine aj ?_;simp[kJ,lr,g,a1,a2,c1,c2];refine cd fa ?_ (by rfl);simp[li];refine hO acS (L:=k) (k:=1) (cells:=cs) (cs:=aK (tx s)) aa rfl cl rfl rfl (fun t e=>by cases e) aa ae ?_
  have g2:biI .add (I k) (.d (.int .i64 1))=some (I ((k:Int)+1)):=by
   have:=FW (a:=(k:Int)) (b:=1) aa;exact this
  grind[bnd,clean_nil,aX,acS]
theorem Js(hb:0<b)(hb1:b<1000000000){t:LiQ}(hl:t.length=r.length)(hN:r.length<1000000)(hr:bdN Bd r)(ht:bdN Cd t)(hB:Bd<100000000000000000)(hC:Cd<100000000000000000):
  CP Y F.fu [szV (szI b r),szV (szI b t)] (szV (szI b (dI 1 r t))):=by
 refine yL ?_;have vl:(dI 1 r t).length=r.length:=hQ _ hl.symm
 have:=Ql hb hb1 hl hN hr ht hB hC (exK [(Exit.exit 0,fun l1 h=>out (szV (szI b (dI 1 r t))) (ge l1 0) h)]) r.length 0 aa (by
  have cl:=FP (szI b (dI 1 r t));have e:=XK (szI b (dI 1 r t));rw[ci,vl]at cl e;rw[<-e];exact abY acS rfl cl)
 rw[V8]at this;simp[fu];exact this
theorem LO{n:Nat}(hN:n<1000000)(K:KL)(h0:Hp)(hh:h0.length=1):∀(m k:Nat),k+m=n->K (.exit 0) [] (hz [] (List.replicate n zT)) ->
  lp (jM (CX Y) (.ref 0 1 0 n n (n*2))) [] h0 [I k] (hz [] (List.replicate k zT++List.replicate m jF)) K
 | 0,k,hk,hK=>by
  have e:k=n:=aa;subst e;have h1:¬(k:Int)<(k:Int):=aa;rw[Xi,Y8];refine aj ?_;simp[jM,h1];exact hK
 | m+1,k,hk,hK=>by
  have h1:(k:Int)<(n:Int):=aa;have wo:=qc (z:=0) aa aa;have hl:(List.replicate k zT++List.replicate (m+1) jF).length=n:=by simp;omega
  have e1:=ixR (Jv [] (List.replicate k zT++List.replicate (m+1) jF)) hl (c:=k) aa .i64;have e2:=stR (Jv [] (List.replicate k zT++List.replicate (m+1) jF)) hl (c:=k) aa zT;rw[VO,IN]at e2;have hlen:(hz [] (List.replicate (k+1) zT++List.replicate m jF)).length=h0.length:=by simp[hz,hh]
  have e1':ixV (hz [] (List.replicate k zT++List.replicate (m+1) jF)) 2 (.ref 0 1 0 n n (n*2)) (I k)=some (.ptr 0 1 (k*2) (n*2)):=e1;have e3:st (hz [] (List.replicate k zT++List.replicate (m+1) jF)) 2 (V.ptr 0 1 (k*2) (n*2)) (.agg (qT (0,1)))=some (hz [] (List.replicate (k+1) zT++List.replicate m jF)):=e2;refine aj ?_;simp[jM,h1];refine cd wo ?_
  simp(disch:=try exact ag)[e1',e3,hlen];have:=LO hN K h0 hh m (k+1) aa hK;trivial
theorem LN(hN:p.length<1000000):CP Y F.fK [lst di p] (szV (szI 1 (List.replicate p.length 0))):=by
 refine ye ?_;have hl:bj (lst di p)=some (I p.length):=rfl;simp[fK];refine U0 (s:=0) (e:=0) (b:=.none) (h:=[nnQ]) (n:=p.length) rfl aa ?_;have e0:([(0,Bk.none)]:Hp).set 0 (0+1,.data 2 ((List.replicate p.length jF).flatMap aK) true false)=hz [] (List.replicate 0 zT++List.replicate p.length jF):=rfl;rw[e0]
 refine LO hN _ _ rfl p.length 0 aa ?_;rw[xD];have hfl:((List.replicate p.length zT).flatMap aK).length=p.length*2:=by rw[d6 aK bv];simp
 have eZ:(List.replicate p.length zT).flatMap aK=((List.replicate p.length ((0,1):Q)).map tx).flatMap aK:=by rw[Wc];rfl
 refine⟨[(1,.data 2 ((List.replicate p.length zT).flatMap aK) true true)],?_⟩;simp only[bJ,toD,hz,ge,aw,List.nil_append,List.getElem?_cons_zero,if_true];rw[if_pos ⟨aa,Z7 _,aa⟩];simp only[szV,qm,List.length_map,Zh,Zj,<-eZ];rw[Z6 aa];rfl
def AT(p:LiQ):List LLQ->Int
 |[]=>0
 |l::q=>if l.length=0 then 13 else if 20<l.length then 4 else if mzB p l≠0 then mzB p l else AT p q
theorem ada{a:Ad}(hp:a.p.length<1000000000)(hc:∀c∈a.cd,c.length<1000000000)(hN:a.cd.length<1000000)(k:KL):∀(q l:List LLQ),l++q=a.cd ->
  (AT a.p q=0->k (.exit 0) [] [adB a])->(AT a.p q≠0->k .ret [I (AT a.p q)] [adB a]) ->
  lp (gv (CX Y) (.ptr 0 1 0 6) (lst aA a.cd) (I a.cd.length)) [] [adB a] [I l.length] [adB a] k
 | [],l,hl,h0,h1=>by
  have e:l.length=a.cd.length:=by rw[<-hl];simp
  refine aj ?_;simp[gv,e];exact h0 rfl
 | c::q,l,hl,h0,h1=>by
  have hll:a.cd.length=l.length+(q.length+1):=by rw[<-hl];simp
  have hcl:=hc c (by grind);have i1:∀h:Hp,ixV h 1 (lst aA a.cd) (I l.length)=some (.dptr (a.cd.map aA) l.length):=fun h=>aJ aA _ h rfl aa
  have i2:∀h:Hp,ld1 h (.dptr (a.cd.map aA) l.length)=some (.d (aA c)):=fun h=>by rw[aC aA [] a.cd h aa,<-hl,bM]
  have f1:ld1 [adB a] (.ptr 0 1 0 6)=some (lst di a.p):=rfl;refine aj ?_;simp only[AT]at h0 h1;by_cases g:c.length=0
  .rw[if_pos g]at h1;have g':(c.length:Int)=0:=aa;simp(disch:=try exact ag)[gv,i1,i2,g']
   grind
  .rw[if_neg g]at h0 h1;have g':¬c=[]:=by rintro rfl;simp at g
   by_cases g2:20<c.length
   .rw[if_pos g2]at h1;have g2':(20:Int)<c.length:=aa;simp(disch:=try exact ag)[gv,i1,i2,g',g2']
    grind
   .rw[if_neg g2]at h0 h1;have g2':¬(20:Int)<c.length:=aa;simp(disch:=try exact ag)[gv,i1,i2,g',g2',f1];refine cd (args:=[lst di a.p,mat c]) (tP hp hcl) ?_;by_cases g3:mzB a.p c=0
    .rw[if_neg (by simp[g3])]at h0 h1;simp(disch:=try exact ag)[g3];have:=ada hp hc hN k q (l++[c]) (by grind) h0 h1
     simp_all
    .rw[if_pos g3]at h1;simp[g3]
     grind
def acB(a:Ad):Int:=if dcB a.p a.ch a.lk≠0 then dcB a.p a.ch a.lk else if a.cd.length≠a.ch.length then 5 else if AT a.p a.cd≠0 then AT a.p a.cd else if a.w.1<0 then 3 else 0
theorem SE{a:Ad}(hp:a.p.length<1000000000)(hc:∀c∈a.ch,c.length<1000000000)(hN:a.ch.length<1000000)(hM:a.lk.length<1000000)(hl:∀l∈a.lk,l.length<1000000)(hd:∀c∈a.cd,c.length<1000000000)(hD:a.cd.length<1000000)(hw:okQ a.w∧qL 30 a.w):
  CP Y F.fA [.agg (adC a)] (I (acB a)):=by
 refine zw ?_;have dc:=H3 hp hc hN hM hl;have fc:=Ca (itoa a.w.1) (ai a.w.2) (by have:=(Be hw.2).1;grind[tx]) (by have:=(Be hw.2).2;grind[tx]);have rd:=NY hw.1 hw.2;simp only[tx]at rd;rw[rd]at fc;have fs:=Sb a.w;have bx:=xy (a:=a) 0 [nnQ] [adB a] rfl rfl;have l3:ldA [adB a] 3 (.ptr 0 1 0 6)=some (.agg (wkC a.p a.ch a.lk)):=rfl
 have f1:ld1 [adB a] (.ptr 0 1 1 6)=some (lst aA a.ch):=rfl;have f3:ld1 [adB a] (.ptr 0 1 3 6)=some (lst aA a.cd):=rfl;have lw:ldA [adB a] 2 (.ptr 0 1 4 6)=some (.agg (qT a.w)):=rfl;have hgX:fh [adB a] 0 1=.vars [lst di a.p,lst aA a.ch,lst lkD a.lk,lst aA a.cd,S (itoa a.w.1),S (ai a.w.2)]:=rfl;unfold acB;simp[fA,bx,l3];refine cd dc ?_;by_cases g:dcB a.p a.ch a.lk=0
 .rw[if_neg (by simp[g])];simp[g,f1,f3];by_cases g2:a.cd.length=a.ch.length
  .rw[if_neg aa];have g2':(a.cd.length:Int)=(a.ch.length:Int):=aa;simp(disch:=try exact ag)[g2',f3];rw[<-g2'];refine lo (ada hp hd hD _ a.cd [] rfl (fun g3=>?_) (fun g3=>?_))
   .rw[if_neg aa];simp[hgX];refine cd fc ?_;simp[hgX];refine cd (args:=[.agg (qT a.w)]) fs ?_ (by rfl);by_cases g4:a.w.1<0
    .rw[if_pos g4];have g5:sgn a.w.1<0:=by unfold sgn;split<;>first|omega|(split<;>omega)
     simp[g5]<;>exact cx rfl
    .rw[if_neg g4];have g5:¬sgn a.w.1<0:=by unfold sgn;split<;>first|omega|(split<;>omega)
     simp[g5]<;>exact cx rfl
   .rw[if_pos g3];simp<;>exact cx rfl
  .rw[if_pos g2];have g2':¬(a.cd.length:Int)=(a.ch.length:Int):=aa;simp(disch:=try exact ag)[g2']<;>exact cx rfl
 .rw[if_pos g];simp[g]<;>exact cx rfl
theorem LH{n:Nat}:∀{m:LLQ},(∀r∈m,r.length=n∧bdR 1000 r)->Gm n m=0
 |[],_=>rfl
 | r::m,h=>by
  obtain⟨h1,h2⟩:=h r af;simp only[Gm];rw[if_neg aa,if_pos (xG h2)];exact LH fun x hx=>h x (by grind)
theorem EW(hp:pcB p=0)(h:∀r∈m,r.length=p.length∧bdR 1000 r):mzB p m=0:=by grind[mzB,LH]
theorem FN(h0:0<n)(h1:n<=most):B7 n most=0:=by unfold B7;rw[if_neg aa,if_neg aa]
theorem H8{p:LiQ}(hp:pcB p=0):∀{ch:List LLQ},(∀c∈ch,(0<c.length∧c.length<=12)∧∀r∈c,r.length=p.length∧bdR 1000 r)->JO p ch=0
 |[],_=>rfl
 | c::q,h=>by
  obtain⟨⟨h1,h2⟩,h3⟩:=h c af;simp only[JO];rw[if_neg (by grind[FN]),if_neg (by grind[EW])];exact H8 hp fun x hx=>h x (by grind)
theorem FQ{p:LiQ}(hp:pcB p=0):∀{cd:List LLQ},(∀c∈cd,(0<c.length∧c.length<=20)∧∀r∈c,r.length=p.length∧bdR 1000 r)->AT p cd=0
 |[],_=>rfl
 | c::q,h=>by
  obtain⟨⟨h1,h2⟩,h3⟩:=h c af;simp only[AT];rw[if_neg aa,if_neg aa,if_neg (by grind[EW])];exact FQ hp fun x hx=>h x (by grind)
theorem HI{n:Nat}{B:Int}{ch:List LLQ}{lk:List (List Lk)}(w:wy n B ch lk)(hne:∀l∈lk,0<l.length):∀(q d:List (List Lk)),d++q=lk->Jp ch d.length q=0
 |[],_,_=>rfl
 | l::q,d,hd=>by
  have hm:l∈lk:=by rw[<-hd];simp
  have hl:nth [] lk d.length=l:=by rw[<-hd,bM]
  have ok:=w.ok d.length (by grind);rw[hl]at ok;simp only[Jp];rw[if_neg (by grind[FN,wy.ls]),if_pos ok];have:=HI w hne q (d++[l]) (by grind)
  grind
variable{a:Ad}
theorem cI.dc(G:cI a):dcB a.p a.ch a.lk=0:=by
 have h5:=G.five;have hl:=G.wk.len;unfold dcB;rw[if_neg (by simp[G.hp.1]),if_neg (by simp[FN (n:=a.ch.length) (most:=64) aa aa]),if_neg,if_pos hl]
 .exact HI G.wk G.lkn a.lk [] rfl
 .simp[H8 G.hp.1 (ch:=a.ch) fun c hc=>⟨⟨G.cne c hc,G.wk.cs c hc⟩,fun r hr=>⟨(G.wk.rows c hc r hr).1,dO (G.wk.rows c hc r hr).2 aa⟩⟩]
theorem cI.ac(G:cI a):acB a=0:=by obtain⟨w1,w2,w3,w4⟩:=G.w0;unfold acB;rw[if_neg (by simp[G.dc]),if_neg (by simp[G.cl]),if_neg,if_neg aa];simp[FQ G.hp.1 (cd:=a.cd) fun c hc=>⟨G.cn c hc,fun r hr=>⟨(G.cr c hc r hr).1,dO (G.cr c hc r hr).2 aa⟩⟩]
theorem cI.qL(G:cI a):qL 30 a.w:=by obtain⟨w1,w2,w3,w4⟩:=G.w0;exact⟨cN (d:=30) aa ae,cN (d:=30) aa ae⟩
theorem cI.check(G:cI a):CP Y F.fA [.agg (adC a)] (I 0):=by
 obtain⟨hin,hp0⟩:=eh G.hp;have hN:=hin.2.1;have h5:=G.five;have hl:=G.wk.len;have hc:=G.cl;have:=SE (a:=a) aa (fun c hc=>by have:=G.wk.cs c hc;omega) aa aa (fun l hl=>by have:=G.wk.ls l hl;omega) (fun c hc=>by grind[cn]) aa ⟨G.w0.1,G.qL⟩
 grind[ac]
theorem cI.fits(G:cI a):mzB a.p (mb a)=0:=by
 refine EW G.hp.1 fun r hr=>?_
 obtain⟨j,hj,rfl⟩:=Wu hr;have hl:=G.wk.len;have hc:=G.cl;have:=Dk a;obtain⟨h1,h2⟩:=G.root (i:=j) aa
 grind[aN,dO]
theorem cI.roots(G:cI a):CP Y F.lU [.agg (wkC a.p a.ch a.lk)] (.tup [mat (mb a),I 0]):=by obtain⟨hin,hp0⟩:=eh G.hp;have hN:=hin.2.1;exact ZA G.wk hp0 aa aa aa G.lkn G.dc G.fits
def vt(A B:List Q)(k:Nat):List Tx:=(A.take k++B.drop k).map tx
theorem U3{B:List Q}(h:A.length=B.length)(hk:k<=B.length):(vt A B k).length=B.length:=by grind[vt]
theorem U2{B:List Q}(h:A.length=B.length)(hk:k<B.length):nth ([],[]) (vt A B k) k=tx (nth (0,1) B k):=by
 have tl:(A.take k).length=k:=by rw[Zr];omega
 grind[vt,aN]
theorem U1{B:List Q}(h:A.length=B.length)(hk:k<B.length):(vt A B k).set k (tx (nth (0,1) A k))=vt A B (k+1):=by
 have tl:(A.take k).length=k:=by rw[Zr];omega
 unfold vt;rw[Z0 hk];have:=wQ tx (A.take k) B[k] (nth (0,1) A k) (B.drop (k+1));rw[tl]at this;have e:A.take (k+1)=A.take k++[nth (0,1) A k]:=by rw[Xp,List.getElem?_eq_getElem (show k<A.length by omega),aN (0,1) A k aa];rfl
 grind
theorem aaK{w:Q}(hw:okQ w):tX (z,1) w=gU (z*w.1) w.2:=by have h1:rp 1 ((z,1):Q) z:=⟨⟨Nat.one_pos,af⟩,af⟩;have:=Pv h1 hw;rw[Xr]at this;exact IR hw.1 this
def owH(a:Ad)(l:List Tx):Hp:=[adB a,(1,.data 2 (l.flatMap aK) false false)]
theorem Qc{a:Ad}(G:cI a){s:LiQ}(hs:bdN 1000 s)(hN:s.length<1000000)(h0:Hp)(hh:h0.length=2)(K:KL):∀(m k:Nat),k+m=s.length ->
  K (.exit 0) [] (owH a ((szI a.w.2 (s.map (· * a.w.1))).map tx)) ->
  lp (kI (CX Y) (.ptr 0 1 0 6) (.ref 1 1 0 s.length s.length (s.length*2))) [] h0 [I k] (owH a (vt (szI a.w.2 (s.map (· * a.w.1))) (szI 1 s) k)) K
 | 0,k,hk,hK=>by
  have e:k=s.length:=aa;subst e
  have e1:vt (szI a.w.2 (s.map (· * a.w.1))) (szI 1 s) s.length=(szI a.w.2 (s.map (· * a.w.1))).map tx:=by
   unfold vt;rw[Z6 (by simp[ci]),Zb (by simp[ci]),Y8]
  rw[e1];refine aj ?_;simp[kI];exact hK
 | m+1,k,hk,hK=>by
  have hks:k<s.length:=aa;have ih:=Qc G hs hN h0 hh K m (k+1) aa hK;obtain⟨w1,w2,w3,w4⟩:=G.w0;obtain⟨A,hA⟩:=nmQ (szI a.w.2 (s.map (· * a.w.1)));obtain⟨B',hB⟩:=nmQ (szI 1 s);have lA:A.length=s.length:=by rw[hA,ci];simp
  have lB:B'.length=s.length:=by rw[hB,ci]
  have nA:nth (0,1) A k=gU (nth 0 s k*a.w.1) a.w.2:=by
   rw[hA,Dh _ (by grind)];congr 1;rw[aN 0 (s.map (· * a.w.1)) k (by grind),aN 0 s k hks,Wo]
  have nB:nth (0,1) B' k=(nth 0 s k,1):=by rw[hB,Dh _ hks,HE]
  rw[<-hA,<-hB]at ih ⊢;have sk:=hs _ (aQ (d:=0) hks);have nk:=UK (nth 0 s k) aa aa;have fm:=Mg (a:=(nth 0 s k,1)) (b:=a.w) nk.1 w1 (nk.2.mono ae) (G.qL.mono ae);rw[aaK w1,<-nA]at fm;have ml:=U3 (A:=A) (B:=B') (k:=k) aa aa;rw[lB]at ml;have mn:=U2 (A:=A) (B:=B') (k:=k) aa aa;rw[nB]at mn
  have ms:=U1 (A:=A) (B:=B') (k:=k) aa aa;have g0:(owH a (vt A B' k))[1]?=some (1,.data 2 ((vt A B' k).flatMap aK) false false):=rfl;have e1:=ixR g0 ml (c:=k) hks .i64;have e2:=ldR g0 ml (c:=k) hks;rw[mn]at e2;have e3:=stR g0 ml (c:=k) hks (tx (nth (0,1) A k));rw[ms]at e3
  have e3':st (owH a (vt A B' k)) 2 (.ptr 1 1 (k*2) (s.length*2)) (.agg (qT (nth (0,1) A k)))=some (owH a (vt A B' (k+1))):=e3;have lw:ldA (owH a (vt A B' k)) 2 (.ptr 0 1 4 6)=some (.agg (qT a.w)):=rfl;have hre:au [] 0 h0 (owH a (vt A B' (k+1)))=owH a (vt A B' (k+1)):=aX 0 h0 _ (by simp[owH,hh]);have g:(k:Int)<s.length:=aa;have e4:((k+1:Nat):Int)=(k:Int)+1:=af
  rw[e4]at ih;generalize nth (0,1) A k=y at *;refine aj ?_;simp[kI,g,e1,e2,lw];refine cd (args:=[.agg (qT (nth 0 s k,1)),.agg (qT a.w)]) fm ?_ (by rfl);simp(disch:=try exact ag)[e1,e3',hre];exact ih
theorem aaQ{a:Ad}(G:cI a)(hb:tE a.p)(hi:i<a.cd.length)(hk:k<(nth [] a.cd i).length):CP Y F.jj [.agg (adC a),I i,I k] (szV (szI a.w.2 (uB a i k))):=by
 refine yK ?_;obtain⟨hin,hp0⟩:=eh G.hp;have hN:=hin.2.1;obtain⟨c1,c2⟩:=G.cand hi hk;have bx:=xy (a:=a) 0 [nnQ,nnQ] [adB a,nnQ] rfl rfl;have f0:∀x,ld1 [adB a,x] (.ptr 0 1 0 6)=some (lst di a.p):=fun _=>rfl
 have f3:∀x,ld1 [adB a,x] (.ptr 0 1 3 6)=some (lst aA a.cd):=fun _=>rfl
 have x1:∀(h:Hp),ixV h 1 (lst aA a.cd) (I i)=some (.dptr (a.cd.map aA) i):=fun h=>aJ aA _ h rfl hi
 have x2:∀(h:Hp),ld1 h (.dptr (a.cd.map aA) i)=some (mat (nth [] a.cd i)):=fun h=>aC aA [] a.cd h hi
 have x3:∀(h:Hp),ixV h 1 (mat (nth [] a.cd i)) (I k)=some (.dptr ((nth [] a.cd i).map row) k):=fun h=>aJ row _ h rfl hk
 have x4:∀(h:Hp),ld1 h (.dptr ((nth [] a.cd i).map row) k)=some (lst di (nth [] (nth [] a.cd i) k)):=fun h=>aC row [] _ h hk
 unfold uB;generalize nth [] (nth [] a.cd i) k=r at *
 have ab:=Io (h:=[adB a,nnQ]) (by
  rfl) G.hp c1 hb (xG (dO c2 aa))
 have cl:=tz (pn a.p r);rw[pV]at cl;simp[jj,bx,f0,f3,x1,x2,x3,x4];refine jC (fe (e:=0) (b:=.none) ab rfl ?_);rw[cl,<-pV a.p r];have sl:(pn a.p r).length<1000000:=by rw[pV];omega
 have bA:bdN 1000 (pn a.p r):=ya fun z hz=>by have:=c2 z hz;omega
 generalize pn a.p r=s at *
 have eH:([adB a,(0,Bk.none)]:Hp).set 1 (0+1,.data 2 (fC s) false false)=owH a (vt (szI a.w.2 (s.map (· * a.w.1))) (szI 1 s) 0):=by
  unfold vt fC;rw[V8,Zj,List.nil_append];rfl
 rw[eH];refine Qc G bA sl _ rfl _ s.length 0 aa ?_;have lA:(szI a.w.2 (s.map (· * a.w.1))).length=s.length:=by rw[ci];simp
 generalize szI a.w.2 (s.map (· * a.w.1))=A at *;have hfl:((A.map tx).flatMap aK).length=s.length*2:=by rw[d6 aK bv];simp[lA]
 refine⟨[adB a,(1,.data 2 ((A.map tx).flatMap aK) false true)],?_⟩;simp only[bJ,toD,owH,ge,aw,List.getElem?_cons_succ,List.getElem?_cons_zero,if_true];rw[if_pos ⟨aa,Z7 _,aa⟩];simp only[szV,qm,List.length_map,Zj,lA];rw[Z6 aa];rfl
theorem Fu{m:Nat}(hk:k<M.length):(M.take k++List.replicate (m+1) 0).set k (nth 0 M k)=M.take (k+1)++List.replicate m 0:=by
 have tl:(M.take k).length=k:=by rw[Zr];omega
 have e1:=List.set_append_right (s:=M.take k) (t:=List.replicate (m+1) (0:Int)) k (nth 0 M k) aa
 grind[Ed]
theorem Fv{m:Nat}(hl:M.length=n)(hk:k+m=n):(M.take k++List.replicate m (0:Int)).length=n:=by grind
theorem tM(hk:k<l.length)(h:Hp):ixV h 1 (lst di l) (I k)=some (.dptr (l.map di) k)∧ld1 h (.dptr (l.map di) k)=some (I (nth 0 l k)):=
 ⟨aJ di _ h rfl hk,aC di 0 l h hk⟩
theorem P2{n:Nat}(hn:n<1000000){r x y:LiQ}(l1:r.length=n)(l2:x.length=n)(l3:y.length=n)(b1:bdR 1000 r)(b2:bdR 1000 x)(b3:bdR 1000 y)(s0 s1:Nat×Bk)(h0:Hp)(hh:h0.length=3)(K:KL) :
  ∀(m k:Nat),k+m=n->K (.exit 0) [] [s0,s1,dB (jA (dP r x) y)] ->
  lp (jO (CX Y) (lst di r) (lst di x) (lst di y) (.ref 2 1 0 n n n)) [] h0 [I k] [s0,s1,dB ((jA (dP r x) y).take k++List.replicate m 0)] K
 | 0,k,hk,hK=>by
  have e:k=n:=aa;subst e;rw[Z6 (by grind[jA]),Xi,Y8];refine aj ?_;simp[jO];exact hK
 | m+1,k,hk,hK=>by
  have hkn:k<n:=aa;have e0:(dP r x).length=n:=by simp[dP,l1,l2]
  have ml:(jA (dP r x) y).length=n:=by simp[jA,e0,l3]
  have mn:nth 0 (jA (dP r x) y) k=nth 0 r k+nth 0 x k-nth 0 y k:=by rw[zH aa aa,FV aa aa]
  have ih:=P2 hn l1 l2 l3 b1 b2 b3 s0 s1 h0 hh K m (k+1) aa hK;generalize hM:jA (dP r x) y=M at *;have q1:=b1 _ (aQ (d:=0) (l:=r) (i:=k) aa);have q2:=b2 _ (aQ (d:=0) (l:=x) (i:=k) aa);have q3:=b3 _ (aQ (d:=0) (l:=y) (i:=k) aa);have x1:=fun h=>(tM (l:=r) (k:=k) aa h).1
  have x2:=fun h=>(tM (l:=r) (k:=k) aa h).2
  have y1:=fun h=>(tM (l:=x) (k:=k) aa h).1
  have y2:=fun h=>(tM (l:=x) (k:=k) aa h).2
  have z1:=fun h=>(tM (l:=y) (k:=k) aa h).1
  have z2:=fun h=>(tM (l:=y) (k:=k) aa h).2
  have g0:([s0,s1,dB (M.take k++List.replicate (m+1) 0)]:Hp)[2]?=some (1,.data 1 ((M.take k++List.replicate (m+1) 0).map di) true false):=rfl;have fl:=Fv (M:=M) (k:=k) (m:=m+1) (n:=n) ml aa;have i3:=ixB g0 fl hkn .i64;have i5:=stB (x:=nth 0 M k) g0 fl hkn rfl;rw[Fu aa]at i5
  have i6:st [s0,s1,dB (M.take k++List.replicate (m+1) 0)] 1 (.ptr 2 1 k n) (I (nth 0 M k))=some [s0,s1,dB (M.take (k+1)++List.replicate m 0)]:=i5;rw[mn]at i6;have hre:∀d,au [] 0 h0 [s0,s1,d]=[s0,s1,d]:=fun d=>aX 0 h0 _ (by grind)
  have g:(k:Int)<n:=aa;have e2:((k+1:Nat):Int)=(k:Int)+1:=af;rw[e2]at ih;generalize nth 0 r k=v1 at *;generalize nth 0 x k=v2 at *;generalize nth 0 y k=v3 at *;refine aj ?_;simp(disch:=try exact ag)[jO,g,x1,x2,y1,y2,z1,z2,i3,i6,hre];exact ih
def yA(ch:List LLQ)(i:Nat)(x:Lk)(r:LiQ):LiQ:=jA (dP r (pC ch i x)) (pB ch i x)
theorem P1{lk:List (List Lk)}(w:wy n 8 ch lk)(hn:n<1000000)(hi:i<lk.length)(hj:j<(nth [] lk i).length)(lr:r.length=n)(br:bdR 1000 r):
  CP Y F.eE [.agg (wkC p ch lk),I i,I j,lst di r] (lst di (yA ch i (nth (0,0) (nth [] lk i) j) r)):=by
 refine yh ?_;obtain⟨⟨a0,a1⟩,⟨b0,b1⟩,⟨n1,n2⟩,n3,n4⟩:=w.notes hi hj;have hl:=w.len;have hf:=w.few;unfold yA;obtain⟨f,t,hx⟩:∃f t,nth (0,0) (nth [] lk i) j=(f,t):=⟨_,_,rfl⟩;rw[hx]at a0 a1 b0 b1 n1 n2 n3 n4 ⊢;simp only at a0 a1 b0 b1
 have bx:∀(k:kkQ)(u:PU k),rh (cQ 0 (.agg (wkC p ch lk)) [nnQ,nnQ,nnQ]) k u=k (.ptr 0 1 0 3) [wkB p ch lk,nnQ,nnQ]:=fun _ _=>rfl
 have f1:∀b c:Nat×Bk,ld1 [wkB p ch lk,b,c] (.ptr 0 1 1 3)=some (lst aA ch):=fun _ _=>rfl
 have f2:∀b c:Nat×Bk,ld1 [wkB p ch lk,b,c] (.ptr 0 1 2 3)=some (lst lkD lk):=fun _ _=>rfl
 have k1:∀h:Hp,ixV h 1 (lst lkD lk) (I i)=some (.dptr (lk.map lkD) i):=fun h=>aJ lkD _ h rfl hi
 have k2:∀h:Hp,ld1 h (.dptr (lk.map lkD) i)=some (.d (lkD (nth [] lk i))):=fun h=>aC lkD [] lk h hi
 have k3:∀h:Hp,ixV h 2 (.d (lkD (nth [] lk i))) (I j)=some (.dptr ((nth [] lk i).flatMap lkC) (j*2)):=fun h=>by
  have:=ou lkC tQ (nth [] lk i) h (k:=.i64) (i:=(j:Int)) aa aa;trivial
 have k4:∀h:Hp,ldA h 2 (.dptr ((nth [] lk i).flatMap lkC) (j*2))=some (.agg [I f,I t]):=fun h=>by
  have:=ot lkC tQ ((0,0):Lk) (nth [] lk i) h (j:=j) hj;rw[this,hx];rfl
 have c1:∀(h:Hp),ixV h 1 (lst aA ch) (I i)=some (.dptr (ch.map aA) i):=fun h=>aJ aA _ h rfl aa
 have c2:∀(h:Hp),ld1 h (.dptr (ch.map aA) i)=some (mat (nth [] ch i)):=fun h=>aC aA [] ch h aa
 have c3:∀(h:Hp),ixV h 1 (lst aA ch) (I ((i:Int)+1))=some (.dptr (ch.map aA) (i+1)):=fun h=>aJ aA _ h aa aa
 have c4:∀(h:Hp),ld1 h (.dptr (ch.map aA) (i+1))=some (mat (nth [] ch (i+1))):=fun h=>aC aA [] ch h aa
 have d1:∀(h:Hp),ixV h 1 (mat (nth [] ch i)) (I f)=some (.dptr ((nth [] ch i).map row) f.toNat):=fun h=>kv row _ h a0 aa
 have d2:∀(h:Hp),ld1 h (.dptr ((nth [] ch i).map row) f.toNat)=some (lst di (pC ch i (f,t))):=fun h=>aC row [] _ h aa
 have d3:∀(h:Hp),ixV h 1 (mat (nth [] ch (i+1))) (I t)=some (.dptr ((nth [] ch (i+1)).map row) t.toNat):=fun h=>kv row _ h b0 aa
 have d4:∀(h:Hp),ld1 h (.dptr ((nth [] ch (i+1)).map row) t.toNat)=some (lst di (pB ch i (f,t))):=fun h=>aC row [] _ h aa
 have lr':bj (lst di r)=some (I r.length):=rfl;simp(disch:=try exact ag)[eE,bx,f2,k1,k2,k3,k4,f1,c1,c2,c3,c4,d1,d2,d3,d4];rw[lr];have eM:(List.replicate n (D.int IntKind.i64 0))=((jA (dP r (pC ch i (f,t))) (pB ch i (f,t))).take 0++List.replicate n (0:Int)).map di:=by simp[di]
 rw[eM];refine P2 (n:=n) hn lr n1 n3 br (dO n2 aa) (dO n4 aa) _ _ _ rfl _ n 0 aa ?_;have ml:(jA (dP r (pC ch i (f,t))) (pB ch i (f,t))).length=n:=by simp[jA,dP,lr,n1,n3]
 generalize jA (dP r (pC ch i (f,t))) (pB ch i (f,t))=M at *;refine⟨[wkB p ch lk,(1,.vars [I f,I t]),(1,.data 1 (M.map di) true true)],?_⟩
 simp_all[bJ,toD,dB,aw,lst,Z6]
theorem Ey(G:cI a){i k:Nat}(hi:i<a.cd.length)(hk:k<(nth [] a.cd i).length)(h0:Hp)(hh:h0.length=2)(K:KL) :
  ∀(m j:Nat),j+m=a.p.length->K (.exit 0) [] [adB a,dB (shR a i k)] ->
  lp (il (CX Y) (mat (mb a)) (I i) (I k) (.ptr 0 1 0 6) (.ref 1 1 0 a.p.length a.p.length a.p.length)) [] h0 [I j] [adB a,dB ((shR a i k).take j++List.replicate m 0)] K
 | 0,j,hj,hK=>by
  obtain⟨s1,s2⟩:=G.shift hi hk;have e:j=a.p.length:=aa;rw[Z6 aa,Xi,Y8,e];refine aj ?_;simp[il];exact hK
 | m+1,j,hj,hK=>by
  have hjn:j<a.p.length:=aa;obtain⟨hin,h1⟩:=eh G.hp;have hN:=hin.2.1;have hl:=G.wk.len;have hc:=G.cl;obtain⟨r1,r2⟩:=G.root hi;obtain⟨c1,c2⟩:=G.cand hi hk;obtain⟨s1,s2⟩:=G.shift hi hk;have rl:=Dk a
  have mn:nth 0 (shR a i k) j=nth 0 (nth [] (mb a) i) j+nth 0 (nth [] (nth [] a.cd i) k) j:=by
   unfold shR;rw[FV aa aa]
  have ih:=Ey G hi hk h0 hh K m (j+1) aa hK;have f3:∀x,ld1 [adB a,x] (.ptr 0 1 3 6)=some (lst aA a.cd):=fun _=>rfl
  have e1:∀(h:Hp),ixV h 1 (mat (mb a)) (I i)=some (.dptr ((mb a).map row) i):=fun h=>aJ row _ h rfl aa
  have e2:∀(h:Hp),ld1 h (.dptr ((mb a).map row) i)=some (lst di (nth [] (mb a) i)):=fun h=>aC row [] _ h aa
  have x1:∀(h:Hp),ixV h 1 (lst aA a.cd) (I i)=some (.dptr (a.cd.map aA) i):=fun h=>aJ aA _ h rfl hi
  have x2:∀(h:Hp),ld1 h (.dptr (a.cd.map aA) i)=some (mat (nth [] a.cd i)):=fun h=>aC aA [] a.cd h hi
  have x3:∀(h:Hp),ixV h 1 (mat (nth [] a.cd i)) (I k)=some (.dptr ((nth [] a.cd i).map row) k):=fun h=>aJ row _ h rfl hk
  have x4:∀(h:Hp),ld1 h (.dptr ((nth [] a.cd i).map row) k)=some (lst di (nth [] (nth [] a.cd i) k)):=fun h=>aC row [] _ h hk
  generalize shR a i k=M at *;generalize nth [] (mb a) i=r at *;generalize nth [] (nth [] a.cd i) k=c at *;have q1:=r2 _ (aQ (d:=0) (l:=r) (i:=j) aa);have q2:=c2 _ (aQ (d:=0) (l:=c) (i:=j) aa);have y1:=fun h=>(tM (l:=r) (k:=j) aa h).1
  have y2:=fun h=>(tM (l:=r) (k:=j) aa h).2
  have z1:=fun h=>(tM (l:=c) (k:=j) aa h).1
  have z2:=fun h=>(tM (l:=c) (k:=j) aa h).2
  have g0:([adB a,dB (M.take j++List.replicate (m+1) 0)]:Hp)[1]?=some (1,.data 1 ((M.take j++List.replicate (m+1) 0).map di) true false):=rfl;have fl:=Fv (M:=M) (k:=j) (m:=m+1) (n:=a.p.length) s1 aa;have i3:=ixB g0 fl hjn .i64;have i5:=stB (x:=nth 0 M j) g0 fl hjn rfl;rw[Fu aa]at i5
  have i6:st [adB a,dB (M.take j++List.replicate (m+1) 0)] 1 (.ptr 1 1 j a.p.length) (I (nth 0 M j))=some [adB a,dB (M.take (j+1)++List.replicate m 0)]:=i5;rw[mn]at i6;have hre:∀d,au [] 0 h0 [adB a,d]=[adB a,d]:=fun d=>aX 0 h0 _ (by grind)
  have g:(j:Int)<a.p.length:=aa;have e3:((j+1:Nat):Int)=(j:Int)+1:=af;rw[e3]at ih;generalize nth 0 r j=v1 at *;generalize nth 0 c j=v2 at *;refine aj ?_;simp(disch:=try exact ag)[il,g,f3,e1,e2,x1,x2,x3,x4,y1,y2,z1,z2,i3,i6,hre];exact ih
theorem Ex(G:cI a)(hi:i<a.cd.length)(hk:k<(nth [] a.cd i).length):
  CP Y F.cS [.agg (adC a),mat (mb a),I i,I k] (lst di (shR a i k)):=by
 refine u9 ?_;obtain⟨hin,h1⟩:=eh G.hp;have hN:=hin.2.1;have hl:=G.wk.len;have hc:=G.cl;have rl:=Dk a;obtain⟨r1,r2⟩:=G.root hi;obtain⟨s1,s2⟩:=G.shift hi hk;have bx:=xy (a:=a) 0 [nnQ,nnQ] [adB a,nnQ] rfl rfl;have e1:∀(h:Hp),ixV h 1 (mat (mb a)) (I i)=some (.dptr ((mb a).map row) i):=fun h=>aJ row _ h rfl aa
 have e2:∀(h:Hp),ld1 h (.dptr ((mb a).map row) i)=some (lst di (nth [] (mb a) i)):=fun h=>aC row [] _ h aa
 simp(disch:=try exact ag)[cS,bx,e1,e2];rw[r1];have eM:(List.replicate a.p.length (D.int IntKind.i64 0))=((shR a i k).take 0++List.replicate a.p.length (0:Int)).map di:=by simp[di]
 rw[eM];refine Ey G hi hk _ rfl _ a.p.length 0 aa ?_;generalize shR a i k=M at *;refine⟨[adB a,(1,.data 1 (M.map di) true true)],?_⟩
 grind[bJ,toD,dB,aw,bS,lst]
def Gj(R:LLQ):V:=if R.length=1 then .ref 2 1 0 1 1 1 else .ref 3 1 0 R.length R.length R.length
def tW(p:LiQ)(ch:List LLQ)(lk:List (List Lk))(z:LiQ)(R:LLQ):Hp:=[wkB p ch lk,(1,.data 1 (z.map di) true true),(1,.data 1 [row z] true false),rtE R]
theorem TJ{lk:List (List Lk)}{z:LiQ}(hz:R0=[]->r=z):∃w,ixV (tW p ch lk z (R0++[r])) 1 (Gj (R0++[r])) (I R0.length)=some w∧ld1 (tW p ch lk z (R0++[r])) w=some (lst di r):=by
 by_cases h:R0=[]
 .subst h;rw[hz rfl];exact⟨.ptr 2 1 0 1,rfl,rfl⟩
 .have hp:0<R0.length:=Xj.2 h;have h1:¬(R0++[r]).length=1:=by simp;exact h
  refine⟨.ptr 3 1 R0.length (R0++[r]).length,?_,?_⟩
  .grind[Gj,tW,rtE,ixV,aw]
  .simp only[tW,rtE,if_neg h1,ld1,aw,List.getElem?_cons_succ,List.getElem?_cons_zero,if_true,List.length_map];simp;rfl
theorem aaf{lk:List (List Lk)}{z:LiQ}(h0:0<R.length)(hz:R.length=1->R=[z])(hb:R.length<1000000)(q:kkQ):
  apV false 3 1 24 (Gj R) (.d (.sl 1 [row r'])) (tW p ch lk z R) q=q (Gj (R++[r'])) (tW p ch lk z (R++[r'])):=by
 by_cases h:R.length=1
 .rw[hz h];rfl
 .have h2:¬(R++[r']).length=1:=by simp;intro e;rw[e]at h0;simp at h0
  have hg:aw (tW p ch lk z R) 3 1=.data 1 (R.map row) false false:=by simp[aw,tW,rtE,h]
  show apC false 3 1 24 (Gj R) 1 [row r'] (tW p ch lk z R) q=_
  simp only[Gj,if_neg h,if_neg h2];unfold apC;rw[if_neg ae];simp only[hg];rw[if_pos ⟨trivial,af,Z7 _,af,rfl⟩,if_neg aa,if_pos aa];simp only[Ze,if_false,V7];rw[if_pos ⟨af,af⟩];have hne:¬R=[]:=by rintro rfl;simp at h0
  grind[tW,rtE,bS,Z6]
theorem RL{lk:List (List Lk)}(w:wy n 8 ch lk)(hi:i<lk.length)(hj:j<(nth [] lk i).length)(lr:r.length=n):
  yA ch i (nth (0,0) (nth [] lk i) j) r=dP r (xm ch lk i j):=by
 obtain⟨_,_,⟨n1,n2⟩,n3,n4⟩:=w.notes hi hj;unfold yA xm;generalize pC ch i (nth (0,0) (nth [] lk i) j)=x at *;generalize pB ch i (nth (0,0) (nth [] lk i) j)=y at *;apply Wp
 .simp[jA,dP]
 grind[jA,dP]
theorem U9{p:LiQ}{n:Nat}{ch:List LLQ}{lk:List (List Lk)}(w:wy n 8 ch lk)(h0:0<n)(hn:n<1000000)(hl8:lk.length<=8)(hne:∀l∈lk,0<l.length){z:LiQ}(hh:Hp)(hhl:hh.length=4)(k:KL):∀(q a:List (List Lk))(R0:LLQ)(r:LiQ),a++q=lk->R0.length=a.length->r.length=n->bdR (16*a.length) r->(R0=[]->r=z)->(∀x l,R0=x::l->x=z) ->
  k (.exit 0) [Gj (R0++vg ch lk a.length r q)] (tW p ch lk z (R0++vg ch lk a.length r q)) ->
  lp (jz (CX Y) (.ptr 0 1 0 3)) [] hh [Gj (R0++[r]),I a.length] (tW p ch lk z (R0++[r])) k
 | [],a,R0,r,ha,hR,_,_,_,_,hk=>by
  have e:a.length=lk.length:=by rw[<-ha];simp
  have f2:ld1 (tW p ch lk z (R0++[r])) (.ptr 0 1 2 3)=some (lst lkD lk):=rfl;refine aj ?_;simp[jz,f2,e];exact hk
 | l::q,a,R0,r,ha,hR,hr,hb,hz,hz2,hk=>by
  have hll:lk.length=a.length+(q.length+1):=by rw[<-ha];simp
  have hf:=w.few;have hlen:=w.len;have hal:a.length<lk.length:=aa;have hlj:0<(nth [] lk a.length).length:=by rw[<-ha,bM];exact hne l (by grind)
  obtain⟨m1,m2⟩:=w.lead hal hlj;have nx:=P1 (p:=p) w hn hal hlj hr (dO hb aa);rw[RL w hal hlj hr]at nx;generalize hL:xm ch lk a.length 0=L at *;obtain⟨v,j1,j2⟩:=TJ (p:=p) (ch:=ch) (lk:=lk) (z:=z) (r:=r) (R0:=R0) hz;rw[hR]at j1;have g:(a.length:Int)<lk.length:=aa;have f2:ld1 (tW p ch lk z (R0++[r])) (.ptr 0 1 2 3)=some (lst lkD lk):=rfl
  have l5:ldA (tW p ch lk z (R0++[r])) 3 (.ptr 0 1 0 3)=some (.agg (wkC p ch lk)):=rfl;have li:∀H,cO 1 [nPQ] [(0,lst di (dP r L))] H=some ([row (dP r L)],H):=fun H=>Vu ..
  refine aj ?_;simp[jz,f2,g,l5,j1,j2];refine cd nx ?_;simp[li]
  have ap:=aaf (p:=p) (ch:=ch) (lk:=lk) (z:=z) (r':=dP r L) (R:=R0++[r]) af (fun e=>by
   have:R0=[]:=by simpa using e
   grind) (by grind)
  unfold rh;rw[ap];have cl1:∀x:Int,clean [] [Gj (R0++[r]++[dP r L]),I x] (tW p ch lk z (R0++[r]++[dP r L]))=true:=fun x=>clean_nil _ _
  have re1:au [] 0 hh (tW p ch lk z (R0++[r]++[dP r L]))=tW p ch lk z (R0++[r]++[dP r L]):=aX 0 hh _ (by grind[tW])
  have g2:biI .add (I a.length) (.d (.int .i64 1))=some (I ((a++[l]).length:Int)):=by
   have:=FW (a:=(a.length:Int)) (b:=1) aa;rw[show(I 1:V)=.d (.int .i64 1)from rfl]at this;rw[this];simp
  show bnd _ _
  rw[g2];refine⟨cl1 _,?_⟩;rw[re1];have e1:vg ch lk a.length r (l::q)=r::vg ch lk (a.length+1) (dP r L) q:=by simp only[vg,hL]
  rw[e1]at hk
  have bA:bdR (16*(a++[l]).length) (dP r L):=fun x hx=>by
   have:=vK hb m2 x hx
   grind
  have ih:=U9 (p:=p) w h0 hn hl8 hne (z:=z) hh hhl k q (a++[l]) (R0++[r]) (dP r L) (by grind) (by grind) (by rw[Ch aa,hr]) bA (fun e=>by grind) (fun x m e=>by
   cases R0 with
   |nil=>grind
   |cons u v=>grind) (by grind)
  exact ih
theorem RR{lk:List (List Lk)}(w:wy p.length 8 ch lk)(h0:0<p.length)(hn:p.length<1000000)(hl8:lk.length<=8)(hne:∀l∈lk,0<l.length):
  CP Y F.gR [.agg (wkC p ch lk)] (mat (sZ p.length ch lk)):=by
 refine wU ?_;have bx:∀(k:kkQ)(u:PU k),rh (cQ 0 (.agg (wkC p ch lk)) [nnQ,nnQ,nnQ,nnQ]) k u=k (.ptr 0 1 0 3) [wkB p ch lk,nnQ,nnQ,nnQ]:=fun _ _=>rfl
 have f0:∀a b c:Nat×Bk,ld1 [wkB p ch lk,a,b,c] (.ptr 0 1 0 3)=some (lst di p):=fun _ _ _=>rfl
 simp(disch:=try exact ag)[gR,bx,f0];obtain⟨z,hz⟩:∃z,z=List.replicate p.length (0:Int):=⟨_,rfl⟩;have zl:z.length=p.length:=by rw[hz];simp
 have ez:List.replicate p.length (D.int IntKind.i64 0)=z.map di:=by rw[hz];simp[di]
 have li:cO 1 [nPQ] [(0,V.ref 1 1 0 p.length p.length p.length)] [wkB p ch lk,(1,Bk.data 1 (z.map di) true false),(0,Bk.none),(0,Bk.none)]=some ([row z],[wkB p ch lk,(1,Bk.data 1 (z.map di) true true),(0,Bk.none),(0,Bk.none)]):=by
  simp[cO,jv,iH,toD,aw,bS,row,zl,Z6]
 rw[ez,li];simp;have eH:([wkB p ch lk,(1,Bk.data 1 (z.map di) true true),(1,Bk.data 1 [row z] true false),(0,Bk.none)]:Hp)=tW p ch lk z [z]:=rfl;rw[eH];have z0:bdR (16*((([]:List (List Lk)).length:Nat):Int)) z:=fun x hx=>by grind
 refine U9 w h0 hn hl8 hne (z:=z) _ rfl _ lk [] [] z rfl rfl zl z0 (fun _=>rfl) (fun _ _ e=>by cases e) ?_;rw[List.nil_append];have er:vg ch lk ([]:List (List Lk)).length z lk=sZ p.length ch lk:=by rw[hz];rfl
 rw[er];obtain⟨t,ht⟩:=Hn ch lk 0 (List.replicate p.length (0:Int)) lk;have hR:sZ p.length ch lk=z::t:=by rw[hz];exact ht
 rw[hR];simp;cases t with
 |nil=>exact⟨_,rfl⟩
 | cons y t=>
  refine⟨[wkB p ch lk,(1,Bk.data 1 (z.map di) true true),(1,Bk.data 1 [row z] true false),(1,.data 1 ((z::y::t).map row) false true)],?_⟩;have h1:¬(z::y::t).length=1:=af;simp[Gj,tW,rtE,bJ,toD,aw,lst,Z6]
theorem P8{n:Nat}(hn:n<1000000){x y:LiQ}(l1:x.length=n)(l2:y.length=n)(b1:bdR 1000 x)(b2:bdR 1000 y)(s0 s1:Nat×Bk)(h0:Hp)(hh:h0.length=3)(K:KL) :
  ∀(m k:Nat),k+m=n->K (.exit 0) [] [s0,s1,dB (jA x y)] ->
  lp (jP (CX Y) (lst di y) (lst di x) (.ref 2 1 0 n n n)) [] h0 [I k] [s0,s1,dB ((jA x y).take k++List.replicate m 0)] K
 | 0,k,hk,hK=>by
  have e:k=n:=aa;subst e;rw[Z6 (by grind[jA]),Xi,Y8];refine aj ?_;simp[jP];exact hK
 | m+1,k,hk,hK=>by
  have hkn:k<n:=aa;have ml:(jA x y).length=n:=by simp[jA,l1,l2]
  have mn:nth 0 (jA x y) k=nth 0 x k-nth 0 y k:=by rw[zH aa aa]
  have ih:=P8 hn l1 l2 b1 b2 s0 s1 h0 hh K m (k+1) aa hK;generalize hM:jA x y=M at *;have q2:=b1 _ (aQ (d:=0) (l:=x) (i:=k) aa);have q3:=b2 _ (aQ (d:=0) (l:=y) (i:=k) aa);have y1:=fun h=>(tM (l:=x) (k:=k) aa h).1
  have y2:=fun h=>(tM (l:=x) (k:=k) aa h).2
  have z1:=fun h=>(tM (l:=y) (k:=k) aa h).1
  have z2:=fun h=>(tM (l:=y) (k:=k) aa h).2
  have g0:([s0,s1,dB (M.take k++List.replicate (m+1) 0)]:Hp)[2]?=some (1,.data 1 ((M.take k++List.replicate (m+1) 0).map di) true false):=rfl;have fl:=Fv (M:=M) (k:=k) (m:=m+1) (n:=n) ml aa;have i3:=ixB g0 fl hkn .i64;have i5:=stB (x:=nth 0 M k) g0 fl hkn rfl;rw[Fu aa]at i5
  have i6:st [s0,s1,dB (M.take k++List.replicate (m+1) 0)] 1 (.ptr 2 1 k n) (I (nth 0 M k))=some [s0,s1,dB (M.take (k+1)++List.replicate m 0)]:=i5;rw[mn]at i6;have hre:∀d,au [] 0 h0 [s0,s1,d]=[s0,s1,d]:=fun d=>aX 0 h0 _ (by grind)
  have g:(k:Int)<n:=aa;have e2:((k+1:Nat):Int)=(k:Int)+1:=af;rw[e2]at ih;generalize nth 0 x k=v2 at *;generalize nth 0 y k=v3 at *;refine aj ?_;simp(disch:=try exact ag)[jP,g,y1,y2,z1,z2,i3,i6,hre];exact ih
theorem aaL(G:cI a)(hi:i<a.lk.length)(hf:f<(nth [] a.cd i).length)(ht:t<(nth [] a.cd (i+1)).length)(hj:j<(nth [] a.lk i).length):
  jA (shR a (i+1) t) (yA a.ch i (nth (0,0) (nth [] a.lk i) j) (shR a i f))=pY a i f t (nth (0,0) (nth [] a.lk i) j):=by
 have hlen:=G.wk.len;have hcl:=G.cl;obtain⟨_,_,⟨n1,n2⟩,n3,n4⟩:=G.wk.notes hi hj;obtain⟨s1,s2⟩:=G.shift (i:=i) (k:=f) aa hf;obtain⟨t1,t2⟩:=G.shift (i:=i+1) (k:=t) aa ht;unfold yA pY mvR;generalize pC a.ch i (nth (0,0) (nth [] a.lk i) j)=x at *;generalize pB a.ch i (nth (0,0) (nth [] a.lk i) j)=y at *;apply Wp
 .grind[jA,dP]
 .intro k h1 h2;simp only[jA,dP,Wo,List.getElem_zip];omega
theorem Vg(G:cI a)(hi:i<a.lk.length)(hf:f<(nth [] a.cd i).length)(ht:t<(nth [] a.cd (i+1)).length)(hj:j<(nth [] a.lk i).length):
  CP Y F.im [.agg (adC a),mat (mb a),I i,I j,.agg [I f,I t]] (lst di (pY a i f t (nth (0,0) (nth [] a.lk i) j))):=by
 refine yj ?_;obtain⟨hin,h1⟩:=eh G.hp;have hN:=hin.2.1;have hlen:=G.wk.len;have hfew:=G.wk.few;have hcl:=G.cl;have eq:=aaL G hi hf ht hj;obtain⟨_,_,⟨n1,n2⟩,n3,n4⟩:=G.wk.notes hi hj;obtain⟨s1,s2⟩:=G.shift (i:=i) (k:=f) aa hf;obtain⟨t1,t2⟩:=G.shift (i:=i+1) (k:=t) aa ht;have sh1:=Ex G (i:=i) (k:=f) aa hf
 have sh2:=Ex G (i:=i+1) (k:=t) aa ht;have ei:((i+1:Nat):Int)=(i:Int)+1:=af;rw[ei]at sh2;have nx:=P1 (p:=a.p) G.wk aa hi hj s1 (dO s2 aa);have nl:(yA a.ch i (nth (0,0) (nth [] a.lk i) j) (shR a i f)).length=a.p.length:=by simp[yA,jA,dP,s1,n1,n3]
 have nb:bdR 1000 (yA a.ch i (nth (0,0) (nth [] a.lk i) j) (shR a i f)):=dO (zI (vK s2 n2) n4) aa;rw[<-eq];have bx:=xy (a:=a) 0 [nnQ,nnQ,nnQ] [adB a,nnQ,nnQ] rfl rfl;have bl:∀(k:kkQ)(u:PU k),rh (cQ 1 (.agg [I f,I t]) [adB a,nnQ,nnQ]) k u=k (.ptr 1 1 0 2) [adB a,fB f t,nnQ]:=fun _ _=>rfl
 have l6:ldA [adB a,fB f t,nnQ] 6 (.ptr 0 1 0 6)=some (.agg (adC a)):=rfl;have l3:ldA [adB a,fB f t,nnQ] 3 (.ptr 0 1 0 6)=some (.agg (wkC a.p a.ch a.lk)):=rfl;have k0:ld1 [adB a,fB f t,nnQ] (.ptr 1 1 0 2)=some (I f):=rfl;have k1:ld1 [adB a,fB f t,nnQ] (.ptr 1 1 1 2)=some (I t):=rfl;generalize yA a.ch i (nth (0,0) (nth [] a.lk i) j) (shR a i f)=d at *
 generalize shR a (i+1) t=s at *;simp[im,bx,bl,l3,l6,k0];refine cd sh1 ?_;simp;refine cd nx ?_;simp(disch:=try exact ag)[l6,k1];refine cd sh2 ?_;simp(disch:=try exact ag);rw[t1];have eM:(List.replicate a.p.length (D.int IntKind.i64 0))=((jA s d).take 0++List.replicate a.p.length (0:Int)).map di:=by simp[di]
 rw[eM];refine P8 (n:=a.p.length) aa t1 nl (dO t2 aa) nb _ _ _ rfl _ a.p.length 0 aa ?_;have ml:(jA s d).length=a.p.length:=by simp[jA,t1,nl]
 generalize jA s d=M at *;refine⟨[adB a,fB f t,(1,.data 1 (M.map di) true true)],?_⟩
 grind[bJ,toD,dB,aw,bS,lst]
def abB(d:LiQ)(fz:Bool):Nat×Bk:=(1,.data 2 (fC d) false fz)
theorem agC(s0 s1:Nat×Bk):bJ [s0,s1,abB d false] (.ref 2 1 0 d.length d.length (d.length*2))=some (szV (szI 1 d),[s0,s1,abB d true]):=by have cl:=tz d;have cV:=XL d;rw[<-cV];simp only[bJ,toD,abB,aw,List.getElem?_cons_succ,List.getElem?_cons_zero,if_true];rw[if_pos ⟨aa,Z7 _,aa⟩];simp only[Zj,bS];rw[Z6 aa];rfl
theorem Qa(G:cI a)(hb:tE a.p){i f t:Nat}(hi:i<a.lk.length)(hf:f<(nth [] a.cd i).length)(ht:t<(nth [] a.cd (i+1)).length)(K:KL):∀(q l:List Lk)(v:LiQ),l++q=nth [] a.lk i->v.length=a.p.length->bdN (160*l.length) v ->
  K (.exit 0) [szV (szI 1 (stepG a.p v (q.map (pY a i f t))))] (sH a f t nnQ) ->
  lp (jN (CX Y) (mat (mb a)) (I i) (.ptr 0 1 0 6) (.ptr 1 1 0 2)) [2] (sH a f t nnQ) [szV (szI 1 v),I l.length] (sH a f t nnQ) K
 | [],l,v,hl,hv,hbv,hK=>by
  have e:l.length=(nth [] a.lk i).length:=by rw[<-hl];simp
  have f2:∀x,ld1 (sH a f t x) (.ptr 0 1 2 6)=some (lst lkD a.lk):=fun _=>rfl
  have k1:∀h:Hp,ixV h 1 (lst lkD a.lk) (I i)=some (.dptr (a.lk.map lkD) i):=fun h=>aJ lkD _ h rfl hi
  have k2:∀h:Hp,ld1 h (.dptr (a.lk.map lkD) i)=some (.d (lkD (nth [] a.lk i))):=fun h=>aC lkD [] a.lk h hi
  refine aj ?_;simp[jN,f2,k1,k2,e];exact hK
 | z::q,l,v,hl,hv,hbv,hK=>by
  have hll:(nth [] a.lk i).length=l.length+(q.length+1):=by rw[<-hl];simp
  have hlt:l.length<(nth [] a.lk i).length:=aa;have hls:=G.wk.ls _ (aQ (d:=[]) hi);have hz:nth (0,0) (nth [] a.lk i) l.length=z:=by rw[<-hl,bM]
  obtain⟨hin,hp0⟩:=eh G.hp;have hNp:=hin.2.1;have mv:=Vg G hi hf ht hlt;rw[hz]at mv;obtain⟨d1,d2⟩:=G.move hi hf ht (pY a i f t z) (Wt (by grind));simp only[Z2,stepG]at hK;generalize pY a i f t z=d at *;have ab:=Io (h:=sH a f t nnQ) (by rfl) G.hp d1 hb (xG (dO d2 aa))
  have ba:bdN 160 (pn a.p d):=ya (MX (B:=160) d2);have la:(pn a.p d).length=d.length:=pV ..;rw[<-la]at ab;have lad:(pn a.p d).length=v.length:=aa;have ad:=Js (b:=1) (Bd:=160*l.length) (Cd:=160) ae ae lad aa hbv ba aa ae;generalize pn a.p d=s at *;have vl:(dI 1 v s).length=a.p.length:=by rw[hQ _ aa,hv]
  have ih:=Qa G hb hi hf ht K q (l++[z]) (dI 1 v s) (by grind) vl (by
   have:=lE hbv ba
   grind) hK
  have f0:∀x,ld1 (sH a f t x) (.ptr 0 1 0 6)=some (lst di a.p):=fun _=>rfl
  have f2:∀x,ld1 (sH a f t x) (.ptr 0 1 2 6)=some (lst lkD a.lk):=fun _=>rfl
  have k1:∀h:Hp,ixV h 1 (lst lkD a.lk) (I i)=some (.dptr (a.lk.map lkD) i):=fun h=>aJ lkD _ h rfl hi
  have k2:∀h:Hp,ld1 h (.dptr (a.lk.map lkD) i)=some (.d (lkD (nth [] a.lk i))):=fun h=>aC lkD [] a.lk h hi
  have l6:∀x,ldA (sH a f t x) 6 (.ptr 0 1 0 6)=some (.agg (adC a)):=fun _=>rfl
  have l2:∀x,ldA (sH a f t x) 2 (.ptr 1 1 0 2)=some (.agg [I f,I t]):=fun _=>rfl
  have g:(l.length:Int)<(nth [] a.lk i).length:=aa;refine aj ?_;simp[jN,f2,k1,k2,g,f0,l6,l2];refine cd mv ?_;simp;refine jC (fe (e:=0) (b:=.none) ab rfl ?_);have eS:(sH a f t nnQ).set 2 (0+1,.data 2 (fC s) false false)=[adB a,fB f t,abB s false]:=rfl;rw[eS,tz]
  have sn:aS [adB a,fB f t,abB s false] [szV (szI 1 v),.ref 2 (0+1) 0 s.length s.length (s.length*2)]=some ([szV (szI 1 v),szV (szI 1 s)],[adB a,fB f t,abB s true]):=
   mT (by rfl) (mT (agC _ _) (by rfl))
  simp;refine cdz sn ad ?_;rw[show fN (szV (szI 1 (dI 1 v s)))=false from rfl,if_neg ae];simp(disch:=try exact ag)
  have cl1:∀x:Int,clean [2] [szV (szI 1 (dI 1 v s)),I x] [adB a,fB f t,abB s true]=true:=fun x=>by
   trivial
  have re1:au [2] 0 (sH a f t nnQ) [adB a,fB f t,abB s true]=sH a f t nnQ:=rfl;refine⟨cl1 _,?_⟩;rw[re1];have e2:((l++[z]).length:Int)=(l.length:Int)+1:=af
  simp_all
theorem aaP(G:cI a)(hb:tE a.p)(hi:i<a.lk.length)(hf:f<(nth [] a.cd i).length)(ht:t<(nth [] a.cd (i+1)).length):
  CP Y F.ik [.agg (adC a),mat (mb a),I i,.agg [I f,I t]] (szV (szI 1 (zJ a i f t))):=by
 refine yf ?_;obtain⟨hin,hp0⟩:=eh G.hp;have hNp:=hin.2.1;have bx:=xy (a:=a) 0 [nnQ,nnQ,nnQ] [adB a,nnQ,nnQ] rfl rfl;have bl:∀(k:kkQ)(u:PU k),rh (cQ 1 (.agg [I f,I t]) [adB a,nnQ,nnQ]) k u=k (.ptr 1 1 0 2) (sH a f t nnQ):=fun _ _=>rfl
 have f0:∀x,ld1 (sH a f t x) (.ptr 0 1 0 6)=some (lst di a.p):=fun _=>rfl
 have zo:=LN (p:=a.p) aa;unfold zJ yv;simp[ik,bx,bl,f0];refine cd zo ?_;simp;refine Qa G hb hi hf ht _ (nth [] a.lk i) [] _ rfl af (fun x hx=>by grind) ?_;exact⟨_,zE _ _⟩
def inC(a:Ad)(k:Nat)(z:Int):Bool:=decide (0<=z)&&decide (z<(nth [] a.cd k).length)
def tw(a:Ad):Nat->LiQ->Bool
 |_,[]=>true
 |k,z::q=>inC a k z&&tw a (k+1) q
def chB(a:Ad)(c:LiQ):Int:=if c.length=a.cd.length then(if tw a 0 c=true then 0 else 3)else 5
theorem Jt{a:Ad}:inC a k z=true↔0<=z∧z<(nth [] a.cd k).length:=by simp[inC]
theorem FO{a:Ad}:∀{c:LiQ}{k j:Nat},tw a k c=true->j<c.length->inC a (k+j) (nth 0 c j)=true
 |z::q,k,0,h,_=>by simp only[tw,Z8]at h;exact h.1
 | z::q,k,j+1,h,hj=>by
  simp only[tw,Z8]at h;have:=FO (j:=j) h.2 (by grind);rw[show k+(j+1)=k+1+j by omega];exact this
 |[],_,_,_,hj=>by simp at hj
theorem acU(G:cI a){c:LiQ}(hc:c.length=a.cd.length)(K:KL):∀(q l:LiQ),l++q=c->(tw a l.length q=true->K (.exit 0) [] [adB a])->(tw a l.length q=false->K .ret [.d nPQ,I 3] [adB a]) ->
  lp (fx (CX Y) (.ptr 0 1 0 6) (lst di c) (I c.length)) [] [adB a] [I l.length] [adB a] K
 | [],l,hl,h0,h1=>by
  have e:l.length=c.length:=by rw[<-hl];simp
  refine aj ?_;simp[fx,e];exact h0 rfl
 | z::q,l,hl,h0,h1=>by
  have hll:c.length=l.length+(q.length+1):=by rw[<-hl];simp
  have h5:=G.five;have hcl:=G.cl;have f3:ld1 [adB a] (.ptr 0 1 3 6)=some (lst aA a.cd):=rfl;have i1:∀h:Hp,ixV h 1 (lst di c) (I l.length)=some (.dptr (c.map di) l.length):=fun h=>aJ di _ h rfl aa
  have i2:∀h:Hp,ld1 h (.dptr (c.map di) l.length)=some (I z):=fun h=>by rw[aC di 0 c h aa,<-hl,bM];rfl
  have c1:∀(h:Hp),ixV h 1 (lst aA a.cd) (I l.length)=some (.dptr (a.cd.map aA) l.length):=fun h=>aJ aA _ h rfl aa
  have c2:∀(h:Hp),ld1 h (.dptr (a.cd.map aA) l.length)=some (mat (nth [] a.cd l.length)):=fun h=>aC aA [] a.cd h aa
  simp only[tw]at h0 h1;refine aj ?_;by_cases g1:z<0
  .simp(disch:=try exact ag)[fx,i1,i2,g1]
   grind[inC]
  .by_cases g2:((nth [] a.cd l.length).length:Int)<=z
   .simp(disch:=try exact ag)[fx,i1,i2,g1,f3,c1,c2,g2]
    grind[inC]
   .have ok:inC a l.length z=true:=Jt.2 ⟨aa,aa⟩;rw[ok]at h0 h1;simp(disch:=try exact ag)[fx,i1,i2,g1,f3,c1,c2,g2];have:=acU G hc K q (l++[z]) (by grind) (by grind) (by grind)
    simp_all
theorem H6(G:cI a)(h:chB a c=0):CP Y F.fX [.agg (adC a),lst di c] (.tup [mat (mb a),I 0]):=by
 refine yy ?_;unfold chB at h
 have hc:c.length=a.cd.length:=by
  by_cases g:c.length=a.cd.length
  .exact g
  .omega
 rw[if_pos hc]at h
 have hall:tw a 0 c=true:=by
  by_cases g:tw a 0 c=true
  .exact g
  .grind
 have bx:=xy (a:=a) 0 [nnQ] [adB a] rfl rfl;have ck:=G.check;have rt:=G.roots;have l6:ldA [adB a] 6 (.ptr 0 1 0 6)=some (.agg (adC a)):=rfl;have f3:ld1 [adB a] (.ptr 0 1 3 6)=some (lst aA a.cd):=rfl;have hgX:fh [adB a] 0 1=.vars [lst di a.p,lst aA a.ch,lst lkD a.lk,lst aA a.cd,S (itoa a.w.1),S (ai a.w.2)]:=rfl
 have l3:(V.agg [lst di a.p,lst aA a.ch,lst lkD a.lk])=.agg (wkC a.p a.ch a.lk):=rfl;have g':(c.length:Int)=(a.cd.length:Int):=aa;simp[fX,bx,l6];refine cd ck ?_;simp[f3,g'];rw[<-g'];refine lo (acU G hc _ c [] rfl (fun _=>?_) (fun e=>absurd (hall.symm.trans e) af));simp[hgX];refine cd rt ?_;simp;simp[aG]
def tL(a:Ad):Nat->LiQ->LLQ
 |_,[]=>[]
 |k,z::q=>shR a k z.toNat::tL a (k+1) q
theorem Hh(a:Ad):∀(c:LiQ)(k:Nat),(tL a k c).length=c.length
 |[],_=>rfl
 |z::q,k=>by simp[tL,Hh a q]
def Db:Acc:=⟨1,0,1,.none⟩
def roH(a:Ad)(R:LLQ):Hp:=[adB a,Db.b R.length (R.map row)]
theorem ack(G:cI a){c:LiQ}(hc:c.length=a.cd.length)(hall:tw a 0 c=true)(K:KL):∀(q l:LiQ)(R:LLQ),l++q=c->R.length=l.length -> 
  K (.exit 0) [Db.v c.length ((R++tL a l.length q).map row)] (roH a (R++tL a l.length q)) ->
  lp (kR (CX Y) (.ptr 0 1 0 6) (mat (mb a)) (lst di c) (I c.length)) [] (roH a []) [Db.v l.length (R.map row),I l.length] (roH a R) K
 | [],l,R,hl,hR,hK=>by
  have e:l.length=c.length:=by rw[<-hl];simp
  refine aj ?_;simp only[tL,Y8]at hK;simp[kR,e];exact hK
 | z::q,l,R,hl,hR,hK=>by
  have hll:c.length=l.length+(q.length+1):=by rw[<-hl];simp
  have h5:=G.five;have hcl:=G.cl;have hz:nth 0 c l.length=z:=by rw[<-hl,bM]
  have hin:=Jt.1 (by have:=FO (j:=l.length) hall aa;rwa [hz,Zp]at this);obtain⟨m,rfl⟩:∃m:Nat,z=m:=⟨z.toNat,aa⟩;have rt:=IV G (i:=l.length) (k:=m) aa aa;have i1:∀h:Hp,ixV h 1 (lst di c) (I l.length)=some (.dptr (c.map di) l.length):=fun h=>aJ di _ h rfl aa
  have i2:∀h:Hp,ld1 h (.dptr (c.map di) l.length)=some (I m):=fun h=>by rw[aC di 0 c h aa,hz];rfl
  have l6:∀R,ldA (roH a R) 6 (.ptr 0 1 0 6)=some (.agg (adC a)):=fun _=>rfl
  have li:∀H,cO 1 [nPQ] [(0,lst di (shR a l.length m))] H=some ([row (shR a l.length m)],H):=fun H=>Vu ..
  have eS:(tL a l.length ((m:Int)::q))=shR a l.length m::tL a (l.length+1) q:=by simp[tL]
  rw[eS]at hK;generalize hM:shR a l.length m=M at *;refine aj ?_;simp(disch:=try exact ag)[kR,i1,i2,l6];refine cd rt ?_;simp[li];refine hO Db (L:=l.length) (k:=1) (cells:=R.map row) (cs:=[row M]) aa (by rw[<-hR];rfl) (by simp[Db,hR]) rfl rfl (fun t e=>by cases e) aa ae ?_
  have g2:biI .add (I l.length) (.d (.int .i64 1))=some (I ((l++[(m:Int)]).length:Int)):=by
   have:=FW (a:=(l.length:Int)) (b:=1) aa;rw[show(I 1:V)=.d (.int .i64 1)from rfl]at this;rw[this];simp
  show bnd _ _
  rw[g2]
  have eS2:(roH a R).set Db.s (Db.b (l.length+1) (R.map row++[row M]))=roH a (R++[M]):=by
   rw[<-hR];simp[roH,Db]
  rw[eS2];have ih:=ack G hc hall K q (l++[(m:Int)]) (R++[M]) (by simp[hl]) (by simp[hR]) (by simpa using hK);have re1:au [] 0 (roH a []) (roH a (R++[M]))=roH a (R++[M]):=aX 0 _ _ rfl;refine⟨?_,?_⟩
  .simp[clean,dT,kH,Acc.v,Acc.b,Db,roH,dw,qk,offB,z8]
  .rw[re1];simpa using ih
theorem SD(G:cI a)(h:chB a c=0):CP Y F.jq [.agg (adC a),lst di c] (.tup [mat (tL a 0 c),I 0]):=by
 refine zt ?_;have co:=H6 G h;unfold chB at h
 have hc:c.length=a.cd.length:=by
  by_cases g:c.length=a.cd.length
  .exact g
  .omega
 rw[if_pos hc]at h
 have hall:tw a 0 c=true:=by
  by_cases g:tw a 0 c=true
  .exact g
  .grind
 have bx:=xy (a:=a) 0 [nnQ,nnQ] [adB a,nnQ] rfl rfl;have l6:∀x,ldA [adB a,x] 6 (.ptr 0 1 0 6)=some (.agg (adC a)):=fun _=>rfl
 simp[jq,bx,l6];refine cd co ?_;simp;have eH:([adB a,(0,Bk.none)]:Hp)=roH a []:=rfl;rw[eH];refine lo (ack G hc hall _ c [] [] rfl rfl ?_);have hl:=Hh a c 0;rw[List.nil_append]
 show exK _ _ [Db.v c.length ((tL a 0 c).map row)] (roH a (tL a 0 c))
 rw[<-hl];generalize tL a 0 c=R at *;obtain⟨h',q1,_⟩:=uR Db (L:=R.length) (cells:=R.map row) (h:=roH a R) rfl (by simp[Db]);simp;exact aG q1 rfl
def stW(a:Ad)(i f t:Nat):LiQ:=(zJ a i f t).map (· * (a.w.2:Int))
theorem G1:∀{v s t:LiQ},dI 1 (dI 1 v s) t=dI 1 (dI 1 v t) s
 | a::v,b::s,c::t=>by
  simp only[dI,G1 (v:=v)]
  grind
 |[],_,_=>by rfl
 |a::v,[],t=>by cases t<;>simp[dI]
 |a::v,b::s,[]=>by rfl
theorem KG{p:LiQ}{B:Nat}:∀{m:LLQ}{v:LiQ}{C:Nat},(∀d∈m,d.length=p.length∧bdN B d)->v.length=p.length->bdN C v->(stepG p v m).length=p.length∧bdN (C+B*m.length) (stepG p v m)
 |[],v,C,_,hv,hb=>⟨hv,by trivial⟩
 | d::m,v,C,hm,hv,hb=>by
  obtain⟨d1,d2⟩:=hm d af;have:=KG (m:=m) (v:=dI 1 v (pn p d)) (C:=C+B) (fun x hx=>hm x (by grind)) (by rw[hQ _ (by grind[pV]),hv]) (lE hb (ya d2));refine⟨this.1,fun x hx=>?_⟩;have:=this.2 x hx
  grind[Zq]
theorem cI.stepV(G:cI a)(hi:i<a.lk.length)(hf:f<(nth [] a.cd i).length)(ht:t<(nth [] a.cd (i+1)).length):(zJ a i f t).length=a.p.length∧bdN 1920 (zJ a i f t):=by
 have hls:=G.wk.ls _ (aQ (d:=[]) hi);obtain⟨h1,h2⟩:=KG (p:=a.p) (B:=160) (C:=0) (m:=yv a i f t) (v:=List.replicate a.p.length 0) (fun d hd=>⟨(G.move hi hf ht d hd).1,MX (B:=160) (G.move hi hf ht d hd).2⟩) af (fun x hx=>by grind);refine⟨h1,fun x hx=>?_⟩;have:=h2 x hx;have e:(yv a i f t).length=(nth [] a.lk i).length:=by simp[yv]
 omega
theorem QL{B:Nat}(h:bdN B r){W:Nat}(hw:w.natAbs<=W):bdN (B*W) (r.map (· * w)):=by intro x hx;obtain⟨y,hy,rfl⟩:=Zc.1 hx;rw[Y2];exact Zn (h y hy) hw
theorem cI.stepW(G:cI a)(hi:i<a.lk.length)(hf:f<(nth [] a.cd i).length)(ht:t<(nth [] a.cd (i+1)).length):(stW a i f t).length=a.p.length∧bdN 1920000 (stW a i f t):=by obtain⟨w1,w2,w3,w4⟩:=G.w0;obtain⟨h1,h2⟩:=G.stepV hi hf ht;exact⟨by grind[stW],QL (W:=1000) h2 aa⟩
theorem cI.ownW(G:cI a)(hi:i<a.cd.length)(hk:k<(nth [] a.cd i).length):(uB a i k).length=a.p.length∧bdN 8000 (uB a i k):=by obtain⟨w1,w2,w3,w4⟩:=G.w0;obtain⟨c1,c2⟩:=G.cand hi hk;exact⟨by grind[uB,pV],QL (ya (MX (B:=8) c2)) (W:=1000) aa⟩
def JN(a:Ad)(c:LiQ):Prop:=c.length=a.cd.length∧∀k<c.length,0<=nth 0 c k∧nth 0 c k<(nth [] a.cd k).length
theorem aby(h:chB a c=0):JN a c:=by
 unfold chB at h
 have hc:c.length=a.cd.length:=by
  by_cases g:c.length=a.cd.length
  .exact g
  .omega
 rw[if_pos hc]at h
 have hall:tw a 0 c=true:=by
  by_cases g:tw a 0 c=true
  .exact g
  .grind
 refine⟨hc,fun k hk=>?_⟩;have:=Jt.1 (FO (j:=k) hall hk)
 grind
theorem JN.at{c:LiQ}(h:JN a c){l:LiQ}{z:Int}{q:LiQ}(hl:l++z::q=c):∃m:Nat,z=m∧m<(nth [] a.cd l.length).length:=by obtain⟨h1,h2⟩:=h.2 l.length (by grind);rw[<-hl,bM]at h1 h2;exact⟨z.toNat,aa,aa⟩
def prI(l:LiQ):Nat:=(nth 0 l (l.length-1)).toNat
end Go.Vm
