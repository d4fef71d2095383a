/- Lemmas. -/
import Derived.Test.YtgcaaigeilmbaaaGreatDoorQAaD
set_option linter.unusedVariables false
set_option linter.unusedSimpArgs false
namespace Go.Vm
open Go Go.Am Go.Big
variable{Bd t i k f e s L j C n:Nat}{r c x y:LiQ}{m d cs:LLQ}{z w:Int}{cells:LdQ}{clr:LnQ}{t1 t5 t6 s1 s2 s3 s4 s5 s6:Nat×Bk}
theorem YT{b:Nat}(hb:0<b)(r:LiQ):szI 1 r=szI b (r.map (· * (b:Int))):=by
 have:=KO b (Hd (b:=1) AF r)
 grind[KN]
def gD(p:LiQ)(O St:D):LdQ:=[row p,O,St]
def wI(p r:LiQ):Int:=uR r (L5 p)
theorem Tt{p:LiQ}(hp:pcS p)(O St:D){b Cd:Nat}(hb:0<b)(hb1:b<1000000){t:LiQ}(lr:r.length=p.length)(lt:t.length=p.length)(hr:bdN Bd r)(ht:bdN Cd t)(hB:Bd<1000000000000)(hC:Cd<1000000000000):
  CP Y F.Bg [.dptr (gD p O St) 0,szV (szI b r),szV (szI b t)] (B (decide (wI p r<wI p t))):=by
 refine Jp ?_;obtain⟨hi,h0⟩:=Ei hp;have hN:=hi.2.1;have m1:Bd*b<=1000000000000*1000000:=Yw aa aa;have m2:Cd*b<=1000000000000*1000000:=Yw aa aa;have sg:=afv hi (by rw[D6,lr]) (by rw[D6,lt]) hb hb (Hd hb r) (Hd hb t) hr ht aa
 have co:=U7 hp.1 aa (by rw[D6,lr]) (by rw[D6,lt]) (J5 hb aa hr aa) (J5 hb aa ht aa) sg
 have e:((uR r (L5 p)*(b:Int)-uR t (L5 p)*(b:Int)).sign<0)=(wI p r<wI p t):=by
  unfold wI;rw[<-Int.sub_mul,LZ aa];apply propext;rcases Int.lt_trichotomy (uR r (L5 p)) (uR t (L5 p))with h|h|h
  .rw[Int.sign_eq_neg_one_of_neg aa];omega
  .grind
  .rw[W8 aa];omega
 have f0:∀h:Hp,ld1 h (.dptr (gD p O St) 0)=some (lst di p):=fun _=>rfl
 simp[Bg,f0];refine cd co ?_ (by rfl);simp[e]
def rI:LiQ->LLQ->LiQ
 |v,[]=>v
 |v,d::q=>rI (kh 1 v d) q
theorem abR{p:LiQ}(hp:pcS p)(O St:D){b:Nat}(hb:0<b)(hb1:b<1000000){B:Nat}(hB:B<1000000000000){m:LLQ}(hm:∀d∈m,d.length=p.length∧bdN B d)(hN:m.length<=100)(h0:Hp)(hh:h0.length=1)(K:KL):∀(q l:LLQ)(v:LiQ)(s:V)(s2 s2':Nat×Bk),l++q=m->v.length=p.length->bdN (B*l.length) v ->
  cX [s2] s=some (szV (szI b v),[s2']) ->
  (∀s s2 s2',cX [s2] s=some (szV (szI b (rI v q)),[s2'])->K (.exit 0) [s,I 0] [s2]) ->
  lp (Dm (CX Y) (.dptr (gD p O St) 0) (lst szD (m.map (szI b))) (I m.length)) [] h0 [s,I 0,I l.length] [s2] K
 | [],l,v,s,s2,s2',hl,hv,hbv,hs,hK=>by
  have e:l.length=m.length:=by rw[<-hl];simp
  refine AJ ?_;simp[Dm,e];exact hK s s2 s2' hs
 | d::q,l,v,s,s2,s2',hl,hv,hbv,hs,hK=>by
  have hll:m.length=l.length+(q.length+1):=by rw[<-hl];simp
  obtain⟨d1,d2⟩:=hm d (by grind);have hBl:B*l.length<=B*100:=Zr _ aa;have sa:=SX hp hb aa hv d1 hbv d2 aa aa;obtain⟨M,hM⟩:=nmQ (m.map (szI b));have hMl:M.length=m.length:=by rw[hM];simp
  have hMn:nth [] M l.length=szI b d:=by rw[hM,<-hl,X2,Z0];have:=nr [] (l.map (szI b)) (szI b d) (q.map (szI b));simpa using this
  have i1:∀h:Hp,ixV h 1 (lst szD M) (I l.length)=some (.dptr (M.map szD) l.length):=fun h=>qw szD _ h rfl aa
  have i2:∀h:Hp,ld1 h (.dptr (M.map szD) l.length)=some (szV (szI b d)):=fun h=>by rw[jO szD [] M h aa,hMn];rfl
  have f0:∀h:Hp,ld1 h (.dptr (gD p O St) 0)=some (lst di p):=fun _=>rfl
  have vl:(kh 1 v d).length=p.length:=by rw[kf _ aa,hv]
  have ih:=abR hp O St hb hb1 hB hm hN h0 hh K q (l++[d]) (kh 1 v d) (szV (szI b (kh 1 v d))) s2' s2' (by grind) vl (by
   simp_all[lN,Y4]) (by rfl) hK
  rw[<-hM]at ih ⊢;have g:(l.length:Int)<m.length:=aa
  have sn:AT [s2] [lst di p,s,szV (szI b d)]=some ([lst di p,szV (szI b v),szV (szI b d)],[s2']):=
   GY (by rfl) (GY hs (GY (by rfl) (by rfl)))
  have hre:∀x,aL [] 0 h0 [x]=[x]:=fun x=>ua 0 h0 _ (by grind)
  refine AJ ?_;simp[Dm,g,i1,i2];refine AN ?_;simp[i1,i2];refine AN ?_;simp[f0];refine cdz sn sa ?_;rw[show cj (V.tup [szV (szI b (kh 1 v d)),I 0])=false from rfl,if_neg AF];simp(disch:=try exact zN)[hre];have e2:((l++[d]).length:Int)=(l.length:Int)+1:=mR
  simp_all
theorem Ui{b:Nat}(hb:0<b)(n:Nat):szI b (List.replicate n 0)=List.replicate n (0,1):=by
 have h1:=Qo n;have h2:=YT hb (List.replicate n 0)
 simp_all
theorem VZ{p:LiQ}(hp:pcS p)(O St:D){b:Nat}(hb:0<b)(hb1:b<1000000){B:Nat}(hB:B<1000000000000)(hm:∀d∈m,d.length=p.length∧bdN B d)(hN:m.length<=100):
  CP Y F.By [.dptr (gD p O St) 0,lst szD (m.map (szI b))] (.tup [szV (szI b (rI (List.replicate p.length 0) m)),I 0]):=by
 refine JI ?_;obtain⟨hin,hp0⟩:=Ei hp;have hNp:=hin.2.1;have f0:∀h:Hp,ld1 h (.dptr (gD p O St) 0)=some (lst di p):=fun _=>rfl
 have zi:=Sa (h:=[nnQ]) rfl hp.1 aa;simp[By,f0];refine EH (TS (e:=0) (b:=.none) zi rfl ?_)
 have eZ:(List.replicate p.length zT).flatMap ub=((List.replicate p.length ((0,1):Q)).map tx).flatMap ub:=by
  rw[List.map_replicate];rfl
 have hfl:((List.replicate p.length zT).flatMap ub).length=p.length*2:=by rw[CB ub Bp];simp
 have sn:cX [(1,.data 2 ((List.replicate p.length zT).flatMap ub) true false)] (.ref 0 1 0 p.length p.length ((List.replicate p.length zT).flatMap ub).length)=some (szV (szI b (List.replicate p.length 0)),[(1,.data 2 ((List.replicate p.length zT).flatMap ub) true true)]):=by
  rw[Ui hb];simp only[cX,toD,aj,List.getElem?_cons_zero,if_true];rw[if_pos ⟨trivial,Z5 _,aa⟩];simp only[szV,sk,List.length_map,Yy,Y0,<-eZ];rw[Zd aa];rfl
 have:=abR hp O St hb hb1 hB (m:=m) hm hN [(1,.data 2 ((List.replicate p.length zT).flatMap ub) true false)] rfl
  (exK [(Exit.exit 0,fun l8 h=>out (V.tup [szV (szI b (rI (List.replicate p.length 0) m)),I 0]) (V.tup [ge l8 0,ge l8 1]) h)]) m [] (List.replicate p.length 0) _ _ _ rfl mR (fun x hx=>by grind) sn
  (fun s s2 s2' h=>AO h rfl)
 simp_all
theorem aaN(z:Int):zt z 1=(z,1):=by simp[zt,qc]
theorem Jr(h1 : -9223372036854775808<z)(h2:z<9223372036854775808):CP Y F.BH [I z] (.agg (qT (z,1))):=by
 refine Kd ?_
 have fo:CP Y F.En [I z,I 1] (.tup [.agg [S (itoa z),S (AI 1)],I 0]):=by
  have:=Tv (n:=z) (d:=1) AF h1 h2 AF AF;rw[aaN]at this;exact this
 simp[BH];refine cd fo ?_;simp;exact EI rfl rfl
theorem afc(s:List Q)(h:Hp)(hi:i<s.length):∃w,ixV h 2 (szV s) (I i)=some w∧ldA h 2 w=some (.agg (qT (nth (0,1) s i))):=by
 have h1:=GE ub Bp (s.map tx) h (k:=.i64) (i:=(i:Int)) aa (by grind);rw[Int.toNat_natCast]at h1;refine⟨_,h1,?_⟩;have h2:=GD ub Bp (tx (0,1)) (s.map tx) h (j:=i) (by grind);rw[h2]
 have e:nth (tx (0,1)) (s.map tx) i=tx (nth (0,1) s i):=by
  rw[dM _ _ _ (by grind),dM _ _ _ hi,List.getElem_map]
 rw[e];rfl
variable{a:Ad}
def inC(a:Ad)(k:Nat)(z:Int):Bool:=decide (0<=z)&&decide (z<(nth [] a.cd k).length)
def Iv(a:Ad):Nat->LiQ->Bool
 |_,[]=>true
 |k,z::q=>inC a k z&&Iv a (k+1) q
def chB(a:Ad)(c:LiQ):Int:=if c.length=a.cd.length then(if Iv a 0 c=true then 0 else 3)else 5
theorem RF{a:Ad}:inC a k z=true↔0<=z∧z<(nth [] a.cd k).length:=by simp[inC]
theorem PD{a:Ad}:∀{c:LiQ}{k j:Nat},Iv a k c=true->j<c.length->inC a (k+j) (nth 0 c j)=true
 |z::q,k,0,h,_=>by simp only[Iv,Z7]at h;exact h.1
 | z::q,k,j+1,h,hj=>by
  simp only[Iv,Z7]at h;have:=PD (j:=j) h.2 (by grind);rw[show k+(j+1)=k+1+j by omega];exact this
 |[],_,_,_,hj=>by simp at hj
theorem ad2(G:dX a){c:LiQ}(hc:c.length=a.cd.length)(K:KL):∀(q l:LiQ),l++q=c->(Iv a l.length q=true->K (.exit 0) [] [adB a])->(Iv a l.length q=false->K .ret [.d nPQ,I 3] [adB a]) ->
  lp (Ct (CX Y) (.ptr 0 1 0 6) (lst di c) (I c.length)) [] [adB a] [I l.length] [adB a] K
 | [],l,hl,h0,h1=>by
  have e:l.length=c.length:=by rw[<-hl];simp
  refine AJ ?_;simp[Ct,e];exact h0 rfl
 | z::q,l,hl,h0,h1=>by
  have hll:c.length=l.length+(q.length+1):=by rw[<-hl];simp
  have h5:=G.five;have hcl:=G.cl;have f3:ld1 [adB a] (.ptr 0 1 3 6)=some (lst qb a.cd):=rfl;have i1:∀h:Hp,ixV h 1 (lst di c) (I l.length)=some (.dptr (c.map di) l.length):=fun h=>qw di _ h rfl aa
  have i2:∀h:Hp,ld1 h (.dptr (c.map di) l.length)=some (I z):=fun h=>by rw[jO di 0 c h aa,<-hl,nr];rfl
  have c1:∀(h:Hp),ixV h 1 (lst qb a.cd) (I l.length)=some (.dptr (a.cd.map qb) l.length):=fun h=>qw qb _ h rfl aa
  have c2:∀(h:Hp),ld1 h (.dptr (a.cd.map qb) l.length)=some (mat (nth [] a.cd l.length)):=fun h=>jO qb [] a.cd h aa
  simp only[Iv]at h0 h1;refine AJ ?_;by_cases g1:z<0
  .simp(disch:=try exact zN)[Ct,i1,i2,g1]
   grind[inC]
  .by_cases g2:((nth [] a.cd l.length).length:Int)<=z
   .simp(disch:=try exact zN)[Ct,i1,i2,g1,f3,c1,c2,g2]
    grind[inC]
   .have ok:inC a l.length z=true:=RF.2 ⟨aa,aa⟩;rw[ok]at h0 h1;simp(disch:=try exact zN)[Ct,i1,i2,g1,f3,c1,c2,g2];have:=ad2 G hc K q (l++[z]) (by grind) (by grind) (by grind)
    simp_all
theorem QP(G:dX a)(h:chB a c=0):CP Y F.Bz [.agg (adC a),lst di c] (.tup [mat (IP a),I 0]):=by
 refine HC ?_;unfold chB at h
 have hc:c.length=a.cd.length:=by
  by_cases g:c.length=a.cd.length
  .exact g
  .omega
 rw[if_pos hc]at h
 have hall:Iv a 0 c=true:=by
  by_cases g:Iv a 0 c=true
  .exact g
  .grind
 have bx:=PG (a:=a) 0 [nnQ] [adB a] rfl rfl;have ck:=G.check;have rt:=G.roots;have l6:ldA [adB a] 6 (.ptr 0 1 0 6)=some (.agg (adC a)):=rfl;have f3:ld1 [adB a] (.ptr 0 1 3 6)=some (lst qb a.cd):=rfl;have hgX:bB [adB a] 0 1=.vars [lst di a.p,lst qb a.ch,lst lkD a.lk,lst qb a.cd,S (itoa a.w.1),S (AI a.w.2)]:=rfl
 have l3:(V.agg [lst di a.p,lst qb a.ch,lst lkD a.lk])=.agg (wkC a.p a.ch a.lk):=rfl;have g':(c.length:Int)=(a.cd.length:Int):=aa;simp[Bz,bx,l6];refine cd ck ?_;simp[f3,g'];rw[<-g'];refine lo (ad2 G hc _ c [] rfl (fun _=>?_) (fun e=>absurd (hall.symm.trans e) mR));simp[hgX];refine cd rt ?_;simp;simp[AO]
def IG(a:Ad):Nat->LiQ->LLQ
 |_,[]=>[]
 |k,z::q=>shR a k z.toNat::IG a (k+1) q
theorem Qt(a:Ad):∀(c:LiQ)(k:Nat),(IG a k c).length=c.length
 |[],_=>rfl
 |z::q,k=>by simp[IG,Qt a q]
def N4:Acc:=⟨1,0,1,.none⟩
def roH(a:Ad)(R:LLQ):Hp:=[adB a,N4.b R.length (R.map row)]
theorem adE(G:dX a){c:LiQ}(hc:c.length=a.cd.length)(hall:Iv a 0 c=true)(K:KL):∀(q l:LiQ)(R:LLQ),l++q=c->R.length=l.length -> 
  K (.exit 0) [N4.v c.length ((R++IG a l.length q).map row)] (roH a (R++IG a l.length q)) ->
  lp (EE (CX Y) (.ptr 0 1 0 6) (mat (IP a)) (lst di c) (I c.length)) [] (roH a []) [N4.v l.length (R.map row),I l.length] (roH a R) K
 | [],l,R,hl,hR,hK=>by
  have e:l.length=c.length:=by rw[<-hl];simp
  refine AJ ?_;simp only[IG,Yf]at hK;simp[EE,e];exact hK
 | z::q,l,R,hl,hR,hK=>by
  have hll:c.length=l.length+(q.length+1):=by rw[<-hl];simp
  have h5:=G.five;have hcl:=G.cl;have hz:nth 0 c l.length=z:=by rw[<-hl,nr]
  have hin:=RF.1 (by have:=PD (j:=l.length) hall aa;rwa [hz,Y9]at this);obtain⟨m,rfl⟩:∃m:Nat,z=m:=⟨z.toNat,aa⟩;have rt:=Ri G (i:=l.length) (k:=m) aa aa;have i1:∀h:Hp,ixV h 1 (lst di c) (I l.length)=some (.dptr (c.map di) l.length):=fun h=>qw di _ h rfl aa
  have i2:∀h:Hp,ld1 h (.dptr (c.map di) l.length)=some (I m):=fun h=>by rw[jO di 0 c h aa,hz];rfl
  have l6:∀R,ldA (roH a R) 6 (.ptr 0 1 0 6)=some (.agg (adC a)):=fun _=>rfl
  have li:∀H,BS 1 [nPQ] [(0,lst di (shR a l.length m))] H=some ([row (shR a l.length m)],H):=fun H=>acI ..
  have eS:(IG a l.length ((m:Int)::q))=shR a l.length m::IG a (l.length+1) q:=by simp[IG]
  rw[eS]at hK;generalize hM:shR a l.length m=M at *;refine AJ ?_;simp(disch:=try exact zN)[EE,i1,i2,l6];refine cd rt ?_;simp[li];refine D7 N4 (L:=l.length) (k:=1) (cells:=R.map row) (cs:=[row M]) aa (by rw[<-hR];rfl) (by simp[N4,hR]) rfl rfl (fun t e=>by cases e) aa AF ?_
  have g2:biI .add (I l.length) (.d (.int .i64 1))=some (I ((l++[(m:Int)]).length:Int)):=by
   have:=Wj (a:=(l.length:Int)) (b:=1) aa;rw[show(I 1:V)=.d (.int .i64 1)from rfl]at this;rw[this];simp
  show bnd _ _
  rw[g2]
  have eS2:(roH a R).set N4.s (N4.b (l.length+1) (R.map row++[row M]))=roH a (R++[M]):=by
   rw[<-hR];simp[roH,N4]
  rw[eS2];have ih:=adE G hc hall K q (l++[(m:Int)]) (R++[M]) (by simp[hl]) (by simp[hR]) (by simpa using hK);have re1:aL [] 0 (roH a []) (roH a (R++[M]))=roH a (R++[M]):=ua 0 _ _ rfl;refine⟨?_,?_⟩
  .simp[clean,dp,E4,Acc.v,Acc.b,N4,roH,d9,jF,offB,kL]
  .rw[re1];simpa using ih
theorem YD(G:dX a)(h:chB a c=0):CP Y F.Ca [.agg (adC a),lst di c] (.tup [mat (IG a 0 c),I 0]):=by
 refine Iz ?_;have co:=QP G h;unfold chB at h
 have hc:c.length=a.cd.length:=by
  by_cases g:c.length=a.cd.length
  .exact g
  .omega
 rw[if_pos hc]at h
 have hall:Iv a 0 c=true:=by
  by_cases g:Iv a 0 c=true
  .exact g
  .grind
 have bx:=PG (a:=a) 0 [nnQ,nnQ] [adB a,nnQ] rfl rfl;have l6:∀x,ldA [adB a,x] 6 (.ptr 0 1 0 6)=some (.agg (adC a)):=fun _=>rfl
 simp[Ca,bx,l6];refine cd co ?_;simp;have eH:([adB a,(0,Bk.none)]:Hp)=roH a []:=rfl;rw[eH];refine lo (adE G hc hall _ c [] [] rfl rfl ?_);have hl:=Qt a c 0;rw[List.nil_append]
 show exK _ _ [N4.v c.length ((IG a 0 c).map row)] (roH a (IG a 0 c))
 rw[<-hl];generalize IG a 0 c=R at *;obtain⟨h',q1,_⟩:=KE N4 (L:=R.length) (cells:=R.map row) (h:=roH a R) rfl (by simp[N4]);simp;exact AO q1 rfl
def stW(a:Ad)(i f t:Nat):LiQ:=(Qp a i f t).map (· * (a.w.2:Int))
theorem kt{p:LiQ}{B:Nat}:∀{m:LLQ}{v:LiQ}{C:Nat},(∀d∈m,d.length=p.length∧bdN B d)->v.length=p.length->bdN C v->(stepG p v m).length=p.length∧bdN (C+B*m.length) (stepG p v m)
 |[],v,C,_,hv,hb=>⟨hv,by trivial⟩
 | d::m,v,C,hm,hv,hb=>by
  obtain⟨d1,d2⟩:=hm d mR;have:=kt (m:=m) (v:=kh 1 v (oW p d)) (C:=C+B) (fun x hx=>hm x (by grind)) (by rw[kf _ (by grind[KF]),hv]) (lN hb (nL d2));refine⟨this.1,fun x hx=>?_⟩;have:=this.2 x hx
  grind[Y4]
theorem dX.stepV(G:dX a)(hi:i<a.lk.length)(hf:f<(nth [] a.cd i).length)(ht:t<(nth [] a.cd (i+1)).length):(Qp a i f t).length=a.p.length∧bdN 1920 (Qp a i f t):=by
 have hls:=G.wk.ls _ (BD (d:=[]) hi);obtain⟨h1,h2⟩:=kt (p:=a.p) (B:=160) (C:=0) (m:=qa a i f t) (v:=List.replicate a.p.length 0) (fun d hd=>⟨(G.move hi hf ht d hd).1,tK (B:=160) (G.move hi hf ht d hd).2⟩) mR (fun x hx=>by grind);refine⟨h1,fun x hx=>?_⟩;have:=h2 x hx;have e:(qa a i f t).length=(nth [] a.lk i).length:=by simp[qa]
 omega
theorem nK{B:Nat}(h:bdN B r){W:Nat}(hw:w.natAbs<=W):bdN (B*W) (r.map (· * w)):=by intro x hx;obtain⟨y,hy,rfl⟩:=Zi.1 hx;rw[Yr];exact Yw (h y hy) hw
theorem dX.stepW(G:dX a)(hi:i<a.lk.length)(hf:f<(nth [] a.cd i).length)(ht:t<(nth [] a.cd (i+1)).length):(stW a i f t).length=a.p.length∧bdN 1920000 (stW a i f t):=by obtain⟨w1,w2,w3,w4⟩:=G.w0;obtain⟨h1,h2⟩:=G.stepV hi hf ht;exact⟨by grind[stW],nK (W:=1000) h2 aa⟩
theorem dX.ownW(G:dX a)(hi:i<a.cd.length)(hk:k<(nth [] a.cd i).length):(rW a i k).length=a.p.length∧bdN 8000 (rW a i k):=by obtain⟨w1,w2,w3,w4⟩:=G.w0;obtain⟨c1,c2⟩:=G.cand hi hk;exact⟨by grind[rW,KF],nK (nL (tK (B:=8) c2)) (W:=1000) aa⟩
def xh(a:Ad)(c:LiQ):Prop:=c.length=a.cd.length∧∀k<c.length,0<=nth 0 c k∧nth 0 c k<(nth [] a.cd k).length
theorem ac5(h:chB a c=0):xh a c:=by
 unfold chB at h
 have hc:c.length=a.cd.length:=by
  by_cases g:c.length=a.cd.length
  .exact g
  .omega
 rw[if_pos hc]at h
 have hall:Iv a 0 c=true:=by
  by_cases g:Iv a 0 c=true
  .exact g
  .grind
 refine⟨hc,fun k hk=>?_⟩;have:=RF.1 (PD (j:=k) hall hk)
 grind
theorem xh.at{c:LiQ}(h:xh a c){l:LiQ}{z:Int}{q:LiQ}(hl:l++z::q=c):∃m:Nat,z=m∧m<(nth [] a.cd l.length).length:=by obtain⟨h1,h2⟩:=h.2 l.length (by grind);rw[<-hl,nr]at h1 h2;exact⟨z.toNat,aa,aa⟩
def prI(l:LiQ):Nat:=(nth 0 l (l.length-1)).toNat
def zrB(d:LiQ):Bool:=d.all (· == 0)
theorem UO(x:Int):CP Y F.Es [I x] (B (!(x == 0))):=by
 refine NM ?_;simp[Es]
 grind[F5]
theorem XJ(d:LiQ)(hN:d.length<1000000):CP Y F.G1 [lst di d] (B (zrB d)):=by
 refine Rh ?_;have co:=Kx (g:=F.Es) (p:=fun x=>!(x == 0)) d aa (fun x _=>UO x);simp[G1];refine cd co ?_;simp;refine F5 ?_;unfold zrB
 induction d with
 |nil=>rfl
 | cons x d ih=>
  grind
abbrev Mv:=Nat×Nat×LiQ
def mvC(x:Mv):LdQ:=[di x.1,di x.2.1,row x.2.2]
theorem VR(x:Mv):(mvC x).length=3:=rfl
def Rx(k:Nat):Nat->LLQ->List Mv
 |_,[]=>[]
 |i,d::q=>(if zrB d=true then[]else[(k,i,d)])++Rx k (i+1) q
def R5:Acc:=⟨1,0,3,.none⟩
def moH(a:Ad)(R:List Mv):Hp:=[adB a,R5.b R.length (R.flatMap mvC)]
def moV(R:List Mv):V:=R5.v R.length (R.flatMap mvC)
theorem aaI{m:LLQ}{k:Nat}(hk:k<1000000)(hN:m.length<1000)(hm:∀d∈m,d.length<1000000)(h0:Hp)(hh:h0.length=2)(K:KL):∀(q l:LLQ)(R:List Mv),l++q=m->R.length+q.length<1000000 ->
  K (.exit 2) [moV (R++Rx k l.length q)] (moH a (R++Rx k l.length q)) ->
  lp (Dy (CX Y) (I (k+1:Nat)) (mat m) (I m.length)) [] h0 [moV R,I l.length] (moH a R) K
 | [],l,R,hl,hR,hK=>by
  have e:l.length=m.length:=by rw[<-hl];simp
  simp only[Rx,Yf]at hK;refine AJ ?_;simp[Dy,e];exact hK
 | d::q,l,R,hl,hR,hK=>by
  have hll:m.length=l.length+(q.length+1):=by rw[<-hl];simp
  simp only[List.length_cons]at hR;have iz:=XJ d (hm d (by grind));have i1:∀h:Hp,ixV h 1 (mat m) (I l.length)=some (.dptr (m.map row) l.length):=fun h=>qw row _ h rfl aa
  have i2:∀h:Hp,ld1 h (.dptr (m.map row) l.length)=some (lst di d):=fun h=>by rw[jO row [] m h aa,<-hl,nr];rfl
  have e2:((l++[d]).length:Int)=(l.length:Int)+1:=mR;have e3:(l++[d]).length=l.length+1:=mR;have g:(l.length:Int)<m.length:=aa;have hre:∀R,aL [] 0 h0 (moH a R)=moH a R:=fun R=>ua 0 h0 _ (by simp[hh,moH])
  simp only[Rx]at hK;by_cases g0:zrB d=true
  .rw[if_pos g0,List.nil_append]at hK;have ih:=aaI hk hN hm h0 hh K q (l++[d]) R (by grind) aa (by grind);rw[e2]at ih;refine AJ ?_;simp[Dy,g];refine AN ?_;simp[i1,i2];refine cd iz ?_;simp[g0];refine AN ?_;simp(disch:=try exact zN)[hre];exact ih
  .rw[if_neg g0]at hK;have g0':zrB d=false:=by simpa using g0
   have ih:=aaI hk hN hm h0 hh K q (l++[d]) (R++[(k,l.length,d)]) (by grind) (by grind) (by grind);rw[e2]at ih;have gk:((k+1:Nat):Int)-1=(k:Int):=aa
   have li:∀H,BS 1 [D.int IntKind.i64 0,D.int IntKind.i64 0,nPQ] [(0,.agg [I k,I l.length,lst di d])] H=some (mvC (k,l.length,d),H):=fun H=>by
    rfl
   have fl:=CB mvC VR R;have eH:moH a R=[adB a,R5.b R.length (R.flatMap mvC)]:=rfl;refine AJ ?_;simp[Dy,g];refine AN ?_;simp[i1,i2];refine cd iz ?_;simp[g0'];refine AN ?_;simp(disch:=try exact zN)[gk,li];unfold moV
   refine D7 R5 (L:=R.length) (k:=1) (cells:=R.flatMap mvC) (cs:=mvC (k,l.length,d)) aa rfl fl rfl rfl (fun t e=>by cases e) aa AF ?_
   have eS2:(moH a R).set R5.s (R5.b (R.length+1) (R.flatMap mvC++mvC (k,l.length,d)))=moH a (R++[(k,l.length,d)]):=by
    simp[moH,R5]
   rw[eS2]
   have eV:R5.v (R.length+1) (R.flatMap mvC++mvC (k,l.length,d))=moV (R++[(k,l.length,d)]):=by
    simp[moV]
   rw[eV];simp(disch:=try exact zN)[hre];exact ih
def Ti(a:Ad):Nat->Nat->LiQ->List Mv
 |_,_,[]=>[]
 |k,pr,z::q=>Rx k 0 (qa a k pr z.toNat)++Ti a (k+1) z.toNat q
theorem Tg(k:Nat):∀(m:LLQ)(i:Nat),(Rx k i m).length<=m.length
 |[],_=>Z5 _
 | d::m,i=>by
  have:=Tg k m (i+1)
  grind[Rx]
theorem adM(G:dX a){c:LiQ}(hc:xh a c)(h0:Hp)(hh:h0.length=2)(K:KL):∀(q l:LiQ)(R:List Mv),l++q=c->0<l.length->R.length<=12*l.length ->
  K (.exit 0) [moV (R++Ti a (l.length-1) (prI l) q)] (moH a (R++Ti a (l.length-1) (prI l) q)) ->
  lp (EF (CX Y) (lst di c) (.ptr 0 1 0 6) (mat (IP a))) [] h0 [moV R,I l.length] (moH a R) K
 | [],l,R,hl,hp,hR,hK=>by
  have e:l.length=c.length:=by rw[<-hl];simp
  refine AJ ?_;simp only[Ti,Yf]at hK;simp[EF,e];exact hK
 | z::q,l,R,hl,hp,hR,hK=>by
  have hll:c.length=l.length+(q.length+1):=by rw[<-hl];simp
  have h5:=G.five;have hcl:=G.cl;have hcc:=hc.1;have hlen:=G.wk.len;obtain⟨m,rfl,hm⟩:=hc.at hl;have hz:nth 0 c l.length=(m:Int):=by rw[<-hl,nr]
  obtain⟨hin,hp0⟩:=Ei G.hp;have hNp:=hin.2.1;obtain⟨k,hk⟩:∃k,l.length=k+1:=⟨l.length-1,aa⟩
  have hpr:nth 0 c k=((prI l:Nat):Int)∧prI l<(nth [] a.cd k).length:=by
   obtain⟨h1,h2⟩:=hc.2 k aa
   have e:nth 0 c k=nth 0 l k:=by
    rw[dM _ _ _ aa,dM _ _ _ aa];simp only[<-hl];rw[List.getElem_append_left aa]
   unfold prI;rw[hk,Wv,<-e];exact⟨aa,aa⟩
  obtain⟨p1,p2⟩:=hpr;have hkl:k<a.lk.length:=aa;have hm':m<(nth [] a.cd (k+1)).length:=by rw[<-hk];exact hm
  have mv:=Tj G hkl p2 hm';have mm:=G.move hkl p2 hm'
  change CP Y F.BN [.agg (adC a),mat (IP a),I k,.agg [I (prI l),I m]] (.tup [mat (qa a k (prI l) m),I 0])at mv
  have hls:=G.wk.ls _ (BD (d:=[]) hkl);have ml:(qa a k (prI l) m).length<=12:=by simp only[qa,List.length_map];exact hls
  have e2:((l++[(m:Int)]).length:Int)=(l.length:Int)+1:=mR;have e3:(l++[(m:Int)]).length=l.length+1:=mR
  have pr:prI (l++[(m:Int)])=m:=by
   unfold prI;rw[e3,Wv,nr];simp
  have ek:l.length-1=k:=aa;have gl:=Tg k (qa a k (prI l) m) 0;simp only[Ti,ek,Int.toNat_natCast]at hK;generalize qa a k (prI l) m=M at *;have ih:=adM G hc h0 hh K q (l++[(m:Int)]) (R++Rx k 0 M) (by grind) aa (by grind) (by grind);rw[e2]at ih;have i1:∀h:Hp,ixV h 1 (lst di c) (I l.length)=some (.dptr (c.map di) l.length):=fun h=>qw di _ h rfl aa
  have i2:∀h:Hp,ld1 h (.dptr (c.map di) l.length)=some (I m):=fun h=>by rw[jO di 0 c h aa,hz];rfl
  have l6:∀R,ldA (moH a R) 6 (.ptr 0 1 0 6)=some (.agg (adC a)):=fun _=>rfl
  have g:(l.length:Int)<c.length:=aa;have gk:(l.length:Int)-1=(k:Int):=aa;have j1:∀h:Hp,ixV h 1 (lst di c) (I k)=some (.dptr (c.map di) k):=fun h=>qw di _ h rfl aa
  have j2:∀h:Hp,ld1 h (.dptr (c.map di) k)=some (I (prI l)):=fun h=>by rw[jO di 0 c h aa,p1];rfl
  have hre:∀R,aL [] 0 h0 (moH a R)=moH a R:=fun R=>ua 0 h0 _ (by simp[hh,moH])
  have el:(l.length:Int)=((k+1:Nat):Int):=aa;have lm:fL (mat M)=some (I M.length):=rfl;refine AJ ?_;simp(disch:=try exact zN)[EF,g,gk,i1,i2,j1,j2,l6];refine cd mv ?_;simp[lm];rw[el]at ih ⊢;refine lo (aaI (a:=a) (m:=M) (k:=k) aa aa (fun d hd=>by grind) _ rfl _ M [] R rfl aa ?_);simp(disch:=try exact zN)[hre]
  exact ih
theorem abW(G:dX a)(h:chB a c=0):CP Y F.Cb [.agg (adC a),lst di c] (.tup [sk mvC (Ti a 0 (nth 0 c 0).toNat c.tail),I 0]):=by
 refine IA ?_;have co:=QP G h;have hc:=ac5 h;have hcc:=hc.1;have hcl:=G.cl;have hlen:=G.wk.len;have bx:=PG (a:=a) 0 [nnQ,nnQ] [adB a,nnQ] rfl rfl;have l6:∀x,ldA [adB a,x] 6 (.ptr 0 1 0 6)=some (.agg (adC a)):=fun _=>rfl
 simp[Cb,bx,l6];refine cd co ?_;simp
 obtain ⟨z,q,rfl⟩:∃z q,c=z::q:=by
  cases c with
  |nil=>grind
  |cons z q=>simp
 have eH:([adB a,(0,Bk.none)]:Hp)=moH a []:=rfl;rw[eH];refine lo (adM G hc (moH a []) rfl _ q [z] [] rfl mR mR ?_);have e0:([z]:LiQ).length-1=0:=rfl;have e1:prI [z]=z.toNat:=rfl;have e2:nth 0 (z::q) 0=z:=rfl;rw[e0,e1,List.nil_append,e2,List.tail_cons];generalize Ti a 0 z.toNat q=R at *;have fl:=CB mvC VR R
 obtain⟨h',q1,_⟩:=KE R5 (L:=R.length) (cells:=R.flatMap mvC) (h:=moH a R) rfl fl;simp;exact AO q1 rfl
def szL(b:Nat)(o:LLQ):D:=.sl o.length (o.map fun r=>szD (szI b r))
def C6(b:Nat)(os:List LLQ):D:=.sl os.length (os.map (szL b))
def EQ(b:Nat)(os:List (List LLQ)):D:=.sl os.length (os.map (C6 b))
theorem UZ{h:Hp}(hu:(h.all fun x=>gM h.length x.2)=true)(hl:0<cells.length)(hb:cells.length<1000000000):CI Y F.AZ [.d (.sl cells.length cells)] h (.new 1 cells false cells.length cells.length) h:=by
 refine Gx ?_
 have nl:∀(H:Hp)(k:V->Prop)(u:PU k),rn (oA H .eql (.d (.sl cells.length cells)) (.d nPQ)) k u=k (.d (.bool false)):=fun H k u=>by
  obtain⟨m,hm⟩:∃m,cells.length=m+1:=⟨cells.length-1,aa⟩;rw[hm];rfl
 simp[AZ,nl]
 have hli:BS 0 [nPQ] [] (h++[(0,Bk.none),(0,Bk.none)])=some ([],h++[(0,Bk.none),(0,Bk.none)]):=by
  simp[BS,cY,eA]
 rw[hli];simp;refine K5 (z:=[]) AF hl mR aa ?_;refine⟨mR,?_,.inr (.inr (.inl ⟨h.length+1,1,cells.length,cells.length,1,cells,false,mR,aa,by simp[aj],rfl⟩))⟩;simp only[Yb,hu,Yv]
 try simp[gM]
theorem U0{h:Hp}(hu:(h.all fun x=>gM h.length x.2)=true)(hl:0<cells.length)(hb:cells.length<1000000000):CI Y F.AW [.d (.sl cells.length cells)] h (.new 1 cells false cells.length cells.length) h:=by
 refine FU ?_
 have nl:∀(H:Hp)(k:V->Prop)(u:PU k),rn (oA H .eql (.d (.sl cells.length cells)) (.d nPQ)) k u=k (.d (.bool false)):=fun H k u=>by
  obtain⟨m,hm⟩:∃m,cells.length=m+1:=⟨cells.length-1,aa⟩;rw[hm];rfl
 simp[AW,nl]
 have hli:BS 0 [nPQ] [] (h++[(0,Bk.none),(0,Bk.none)])=some ([],h++[(0,Bk.none),(0,Bk.none)]):=by
  simp[BS,cY,eA]
 rw[hli];simp;refine K5 (z:=[]) AF hl mR aa ?_;refine⟨mR,?_,.inr (.inr (.inl ⟨h.length+1,1,cells.length,cells.length,1,cells,false,mR,aa,by simp[aj],rfl⟩))⟩;simp only[Yb,hu,Yv]
 try simp[gM]
def wN(p:LiQ):Option LiQ->LiQ->LiQ->LLQ->LLQ->Option LiQ
 | o,own,n,st::ss,be::bs=>wN p (match o with
   |none=>some (rI n [own,st,be])
   |some m=>some (if wI p (rI n [own,st,be])<wI p m then rI n [own,st,be]else m)) own n ss bs
 |o,_,_,_,_=>o
def opV(b:Nat):Option LiQ->V
 |none=>.d nPQ
 |some m=>szV (szI b m)
structure Ac(p:LiQ)(b Bd:Nat):Prop where
 hp:pcS p
 b0:0<b
 b1:b<1000000
 B1:Bd<100000000000
def okR(p:LiQ)(Bd:Nat)(l:LLQ):Prop:=∀r∈l,r.length=p.length∧bdN Bd r
theorem Vp{p:LiQ}{b:Nat}(G:Ac p b Bd){z:LiQ}(hx:x.length=p.length∧bdN Bd x)(hy:y.length=p.length∧bdN Bd y)(hz:z.length=p.length∧bdN Bd z):
  (rI (List.replicate p.length 0) [x,y,z]).length=p.length∧bdN (Bd+Bd+Bd) (rI (List.replicate p.length 0) [x,y,z]):=by simp only[rI];rw[H7 1 hx.1,Rz];refine⟨?_,lN (lN hx.2 hy.2) hz.2⟩;rw[kf _ (by rw[kf _ aa];omega),kf _ aa,hx.1]
theorem ZT{p:LiQ}{b Bd:Nat}(G:Ac p b Bd)(O:D){k i:Nat}{steps:List (List LLQ)}{own:LLQ}{o:LiQ}(hk:k<steps.length)(hi:i<(nth [] steps k).length)(ho:o.length=p.length∧bdN Bd o)
  (hr:okR p Bd (nth [] (nth [] steps k) i)) (hbe:okR p Bd own) (hl:own.length<=(nth [] (nth [] steps k) i).length) (hN:own.length<1000000) (h:Hp) (h0:Hp) (hh:h0.length=h.length) (K:KL) :
  ∀(q a:LLQ)(sq sa:LLQ)(m:Option LiQ),a++q=own->sa++sq=nth [] (nth [] steps k) i->sa.length=a.length->(∀x,m=some x->x.length=p.length∧bdN (Bd+Bd+Bd) x) ->
  (∀v,v=opV b (wN p m o (List.replicate p.length 0) sq q)->K (.exit 4) [v] h) ->
  lp (CV (CX Y) (.dptr (gD p O (EQ b steps)) 0) (I k) (I i) (szV (szI b o)) (.d (szL b own)) (I own.length)) [] h0 [opV b m,I a.length] h K
 | [],a,sq,sa,m,ha,hs,hsa,hm,hK=>by
  have e:a.length=own.length:=by rw[<-ha];simp
  refine AJ ?_;simp[CV,e];exact hK _ (by cases sq<;>rfl)
 | be::q,a,[],sa,m,ha,hs,hsa,hm,hK=>by
  have e1:own.length=a.length+(q.length+1):=by rw[<-ha];simp
  have e2:(nth [] (nth [] steps k) i).length=sa.length:=by rw[<-hs];simp
  omega
 | be::q,a,st::sq,sa,m,ha,hs,hsa,hm,hK=>by
  have e1:own.length=a.length+(q.length+1):=by rw[<-ha];simp
  have e2:(nth [] (nth [] steps k) i).length=sa.length+(sq.length+1):=by rw[<-hs];simp
  obtain⟨hin,hp0⟩:=Ei G.hp;have rbe:=hbe be (by grind);have rst:=hr st (by grind);obtain⟨s1,s2⟩:=Vp G ho rst rbe;have hB:=G.B1
  have ga:=VZ G.hp O (EQ b steps) G.b0 G.b1 (B:=Bd) aa (m:=[o,st,be]) (fun d hd=>by
   grind) mR
  obtain⟨c,hc⟩:=nmQ (rI (List.replicate p.length 0) [o,st,be])
  have hK':∀v,v=opV b (wN p (match m with
   |none=>some c
   |some m=>some (if wI p c<wI p m then c else m)) o (List.replicate p.length 0) sq q)->K (.exit 4) [v] h:=by
   intro v hv;refine hK v ?_;rw[hv,hc];rfl
  rw[<-hc]at ga s1 s2;have i1:∀H:Hp,ixV H 1 (.d (szL b own)) (I a.length)=some (.dptr (own.map fun r=>szD (szI b r)) a.length):=fun H=>qw (fun r=>szD (szI b r)) own H rfl aa
  have i2:∀H:Hp,ld1 H (.dptr (own.map fun r=>szD (szI b r)) a.length)=some (szV (szI b be)):=fun H=>by rw[jO (fun r=>szD (szI b r)) [] own H aa,<-ha,nr];rfl
  have f2:∀H:Hp,ld1 H (.dptr (gD p O (EQ b steps)) 2)=some (.d (EQ b steps)):=fun _=>rfl
  have j1:∀H:Hp,ixV H 1 (.d (EQ b steps)) (I k)=some (.dptr (steps.map (C6 b)) k):=fun H=>qw (C6 b) steps H rfl hk
  have j2:∀H:Hp,ld1 H (.dptr (steps.map (C6 b)) k)=some (.d (C6 b (nth [] steps k))):=fun H=>jO (C6 b) [] steps H hk
  have j3:∀H:Hp,ixV H 1 (.d (C6 b (nth [] steps k))) (I i)=some (.dptr ((nth [] steps k).map (szL b)) i):=fun H=>qw (szL b) _ H rfl hi
  have j4:∀H:Hp,ld1 H (.dptr ((nth [] steps k).map (szL b)) i)=some (.d (szL b (nth [] (nth [] steps k) i))):=fun H=>jO (szL b) [] _ H hi
  have j5:∀H:Hp,ixV H 1 (.d (szL b (nth [] (nth [] steps k) i))) (I a.length)=some (.dptr ((nth [] (nth [] steps k) i).map fun r=>szD (szI b r)) a.length):=fun H=>qw (fun r=>szD (szI b r)) _ H rfl aa
  have j6:∀H:Hp,ld1 H (.dptr ((nth [] (nth [] steps k) i).map fun r=>szD (szI b r)) a.length)=some (szV (szI b st)):=fun H=>by rw[jO (fun r=>szD (szI b r)) [] _ H aa,<-hs,<-hsa,nr];rfl
  have li:∀H,BS 3 [nPQ] [(0,szV (szI b o)),(1,szV (szI b st)),(2,szV (szI b be))] H=some ([szD (szI b o),szD (szI b st),szD (szI b be)],H):=fun H=>by
   rfl
  have g:(a.length:Int)<own.length:=aa;have hre:aL [] 0 h0 h=h:=ua 0 h0 _ hh.symm;have e3:((a++[be]).length:Int)=(a.length:Int)+1:=mR;refine AJ ?_;simp[CV,g];refine AN ?_;simp[i1,i2,f2,j1,j2,j3,j4,j5,j6,li];refine cd (args:=[.dptr (gD p O (EQ b steps)) 0,lst szD ([o,st,be].map (szI b))]) ga ?_ (by rfl);simp;cases m with
  | none=>
   have ih:=ZT G O hk hi ho hr hbe hl hN h h0 hh K q (a++[be]) sq (sa++[st]) (some c) (by grind) (by grind) (by grind) (fun x hx=>by grind) hK';rw[e3]at ih;have nn:∀(k:V->Prop)(u:PU k),rn (oA h .eql (opV b none) (.d nPQ)) k u=k (.d (.bool true)):=fun _ _=>rfl
   simp[nn];refine AN ?_;simp(disch:=try exact zN)[hre];exact ih
  | some x=>
   obtain⟨x1,x2⟩:=hm x rfl
   have ih:=ZT G O hk hi ho hr hbe hl hN h h0 hh K q (a++[be]) sq (sa++[st]) (some (if wI p c<wI p x then c else x)) (by grind) (by grind) (by grind) (fun y hy=>by
    grind) hK'
   rw[e3]at ih;have le:=Tt G.hp O (EQ b steps) G.b0 G.b1 s1 x1 s2 x2 aa aa
   have nn:∀(k:V->Prop)(u:PU k),rn (oA h .eql (opV b (some x)) (.d nPQ)) k u=k (.d (.bool false)):=fun k u=>by
    have:((szI b x).map tx).length=(p.length-1)+1:=by rw[List.length_map,D6,x1];omega
    show oA h .eql (.d (.sl ((szI b x).map tx).length _)) _ k=_
    rw[this];rfl
   simp[nn];refine cd (args:=[.dptr (gD p O (EQ b steps)) 0,szV (szI b c),szV (szI b x)]) le ?_ (by rfl);by_cases g2:wI p c<wI p x
   .rw[if_pos g2]at ih;simp[g2];refine AN ?_;simp(disch:=try exact zN)[hre];exact ih
   .rw[if_neg g2]at ih;simp[g2];refine AN ?_;simp(disch:=try exact zN)[hre];exact ih
def wg(p:LiQ):LLQ->List LLQ->LLQ->LLQ
 |o::os,ss::sss,bs=>((wN p none o (List.replicate p.length 0) ss bs).getD [])::wg p os sss bs
 |_,_,_=>[]
theorem Kj(p:LiQ):∀(o:LLQ)(ss:List LLQ)(bs:LLQ),ss.length=o.length->(wg p o ss bs).length=o.length
 |[],_,_,_=>by rfl
 |o::os,[],bs,h=>by simp at h
 |o::os,s::ss,bs,h=>by simp[wg,Kj p os ss bs (by grind)]
theorem Ry{p:LiQ}{b Bd:Nat}(G:Ac p b Bd){o:LiQ}(ho:o.length=p.length∧bdN Bd o):∀(ss bs:LLQ)(m:Option LiQ),okR p Bd ss->okR p Bd bs->(∀x,m=some x->x.length=p.length∧bdN (Bd+Bd+Bd) x)->(m.isSome=true∨(0<ss.length∧0<bs.length)) ->
  ∃x,wN p m o (List.replicate p.length 0) ss bs=some x∧x.length=p.length∧bdN (Bd+Bd+Bd) x
 | [],bs,m,_,_,hm,h=>by
  rcases h with h|h
  .obtain⟨x,hx⟩:=Xz.1 h;exact⟨x,by cases bs<;>exact hx,hm x hx⟩
  grind
 | _::_,[],m,_,_,hm,h=>by
  rcases h with h|h
  .obtain⟨x,hx⟩:=Xz.1 h;exact⟨x,hx,hm x hx⟩
  grind
 | st::ss,be::bs,m,hs,hb,hm,h=>by
  obtain⟨s1,s2⟩:=Vp G ho (hs st mR) (hb be mR);simp only[wN];refine Ry G ho ss bs _ (fun r hr=>hs r (by grind)) (fun r hr=>hb r (by grind)) ?_ ?_
  .grind
  .cases m<;>exact .inl rfl
def szE(b:Nat)(r:LiQ):D:=szD (szI b r)
def rsC(A:LwQ)(e L:Nat)(b:Nat)(R:LLQ)(Bb:LwQ):LwQ:=A++.ref 1 e 0 L L L :: .d (szL b R)::Bb
def rsH(c:LwQ)(e:Nat)(d:LLQ)(b:Nat):Hp:=[(1,.vars c),(e,.data 1 (d.map (szE b)) false false)]
theorem adA{p:LiQ}{b Bd:Nat}(G:Ac p b Bd)(O:D){n k:Nat}{steps:List (List LLQ)}{own R:LLQ}{sss:List LLQ}{A Bb:LwQ}{e:Nat}(hA:A.length=k)(hn:(rsC A e own.length b R Bb).length=n)(hk:k<steps.length)(hs:nth [] steps k=sss)(hsl:sss.length=own.length)
  (hN:own.length<1000000) (hnN:n<1000000) (ho:okR p Bd own) (hR:okR p Bd R) (hR0:0<R.length) (hRN:R.length<1000000) (hss:∀ss∈sss,ss.length=R.length∧okR p Bd ss) (h0:Hp) (hh:h0.length=2) (K:KL) :
  ∀(q a:LLQ)(sq sa:List LLQ)(dn:LLQ),a++q=own->sa++sq=sss->sa.length=a.length->dn.length=a.length ->
  K (.exit 2) [] (rsH (rsC A e own.length b R Bb) e (dn++wg p q sq R) b) ->
  lp (CW (CX Y) (.dptr (gD p O (EQ b steps)) 0) (.ref 0 1 0 n n n) (I k) (.d (szL b own)) (I own.length)) [] h0 [I a.length] (rsH (rsC A e own.length b R Bb) e (dn++q) b) K
 | [],a,sq,sa,dn,ha,hsa,hsl2,hd,hK=>by
  have e1:a.length=own.length:=by rw[<-ha];simp
  have e2:sq=[]:=by
   have:sss.length=sa.length+sq.length:=by rw[<-hsa];simp
   exact Zo aa
  subst e2;refine AJ ?_;simp only[wg,Yf]at hK;rw[Yf];simp[CW,e1];exact hK
 | o::q,a,[],sa,dn,ha,hsa,hsl2,hd,hK=>by
  have e1:own.length=a.length+(q.length+1):=by rw[<-ha];simp
  have:sss.length=sa.length:=by rw[<-hsa];simp
  omega
 | o::q,a,ss::sq,sa,dn,ha,hsa,hsl2,hd,hK=>by
  have e1:own.length=a.length+(q.length+1):=by rw[<-ha];simp
  have e2:sss.length=sa.length+(sq.length+1):=by rw[<-hsa];simp
  obtain⟨w1,w2⟩:=hss ss (by grind);have ro:=ho o (by grind);have hns:nth [] (nth [] steps k) a.length=ss:=by rw[hs,<-hsa,<-hsl2,nr]
  obtain⟨x,m1,m2,m3⟩:=Ry G ro ss R none w2 hR (fun _ h=>by cases h) (.inr ⟨aa,hR0⟩);have hl2:=ZT G O hk (i:=a.length) (own:=R) (o:=o) (by grind) ro (by grind) hR (by grind) hRN (rsH (rsC A e own.length b R Bb) e (dn++o::q) b) (rsH (rsC A e own.length b R Bb) e (dn++o::q) b) rfl
  have i1:∀H:Hp,ixV H 1 (.d (szL b own)) (I a.length)=some (.dptr (own.map fun r=>szD (szI b r)) a.length):=fun H=>qw (fun r=>szD (szI b r)) own H rfl aa
  have i2:∀H:Hp,ld1 H (.dptr (own.map fun r=>szD (szI b r)) a.length)=some (szV (szI b o)):=fun H=>by rw[jO (fun r=>szD (szI b r)) [] own H aa,<-ha,nr];rfl
  have hkn:k+1<n:=by rw[<-hn];simp[rsC];omega
  have hg0:∀d,aj (rsH (rsC A e own.length b R Bb) e d b) 0 1=.vars (rsC A e own.length b R Bb):=fun _=>rfl
  have x1:∀d,ixV (rsH (rsC A e own.length b R Bb) e d b) 1 (.ref 0 1 0 n n n) (I ((k:Int)+1))=some (.ptr 0 1 (k+1) n):=fun d=>by
   simp only[ixV,hg0];rw[if_pos ⟨hn.symm,aa,aa⟩];simp
  have x2:∀d,ld1 (rsH (rsC A e own.length b R Bb) e d b) (.ptr 0 1 (k+1) n)=some (.d (szL b R)):=fun d=>by
   simp_all[ld1,rsC]
  have x3:∀d,ixV (rsH (rsC A e own.length b R Bb) e d b) 1 (.ref 0 1 0 n n n) (I k)=some (.ptr 0 1 k n):=fun d=>by
   simp only[ixV,hg0];rw[if_pos ⟨hn.symm,aa,aa⟩];simp
  have x4:∀d,ld1 (rsH (rsC A e own.length b R Bb) e d b) (.ptr 0 1 k n)=some (.ref 1 e 0 own.length own.length own.length):=fun d=>by
   simp only[ld1,hg0,hn,if_true];rw[<-hA];simp[rsC]
  have dl:(dn++o::q).length=own.length:=by simp;omega
  have hg1:aj (rsH (rsC A e own.length b R Bb) e (dn++o::q) b) 1 e=.data 1 ((dn++o::q).map (szE b)) false false:=by simp[aj,rsH]
  have x5:ixV (rsH (rsC A e own.length b R Bb) e (dn++o::q) b) 1 (.ref 1 e 0 own.length own.length own.length) (I a.length)=some (.ptr 1 e a.length own.length):=by
   simp only[ixV,hg1,List.length_map,dl];rw[if_pos ⟨trivial,aa,aa⟩];simp
  have x6:st (rsH (rsC A e own.length b R Bb) e (dn++o::q) b) 1 (.ptr 1 e a.length own.length) (szV (szI b x))=some (rsH (rsC A e own.length b R Bb) e (dn++x::q) b):=by
   show st _ 1 _ (.d (szE b x))=_
   rw[vU];have e3:bB (rsH (rsC A e own.length b R Bb) e (dn++o::q) b) 1 e=.data 1 ((dn++o::q).map (szE b)) false false:=hg1;rw[e3,vf _ _ _ _ _ _ _ _ _ (by rw[List.length_map,dl]) (by grind)];have e4:=L0 (szE b) dn o x q;rw[hd]at e4
   show some (aM _ 1 e (.data 1 (((dn++o::q).map (szE b)).set a.length (szE b x)) false false))=_
   rw[e4];rfl
  have ek:wg p (o::q) (ss::sq) R=x::wg p q sq R:=by simp only[wg,m1];rfl
  rw[ek]at hK;have ih:=adA G O hA hn hk hs hsl hN hnN ho hR hR0 hRN hss h0 hh K q (a++[o]) sq (sa++[ss]) (dn++[x]) (by grind) (by grind) (by grind) (by grind) (by grind);have e5:dn++[x]++q=dn++x::q:=mR;have e6:((a++[o]).length:Int)=(a.length:Int)+1:=mR;rw[e5,e6]at ih
  have hre:∀d,aL [] 0 h0 (rsH (rsC A e own.length b R Bb) e d b)=rsH (rsC A e own.length b R Bb) e d b:=fun d=>ua 0 h0 _ (by simp[rsH,hh])
  have lR:fL (.d (szL b R))=some (I R.length):=rfl;have g:(a.length:Int)<own.length:=aa;refine AJ ?_;simp(disch:=try exact zN)[CW,g,i1,i2,x1,x2,lR];refine lo (hl2 _ R [] ss [] none rfl (by grind) rfl (fun _ h=>by cases h) (fun v hv=>?_));rw[hv,m1];have ho2:opV b (some x)=szV (szI b x):=rfl;rw[ho2]
  have ixe:∀(H:Hp)(n s e off len cap tot:Nat)(z:Int),ixX (bB H s e) n s e off len tot z=ixV H n (.ref s e off len cap tot) (I z):=fun H n s e off len cap tot z=>by
   rfl
  have y3:=(ixe _ 1 0 1 0 n n n k).trans (x3 (dn++o::q));have y5:=(ixe _ 1 1 e 0 own.length own.length own.length a.length).trans x5;simp(disch:=try exact zN)[x3,x4,x5,x6,y3,y5,hre];exact ih
theorem ae0{o:Option V}{v:V}{k:V->Prop}(h:o=some v)(hk:k v):bnd o k:=by rw[h];exact hk
def me(p:LiQ):List LLQ->List (List LLQ)->List LLQ
 |o::o2::os,ss::sss=>wg p o ss ((me p (o2::os) sss).headD [])::me p (o2::os) sss
 |l,_=>l
theorem Nz(p:LiQ)(o:LLQ)(os:List LLQ)(sss:List (List LLQ)):∃h t,me p (o::os) sss=h::t:=by
 cases os with
 |nil=>exact⟨o,[],by cases sss<;>rfl⟩
 | cons o2 os=>cases sss with
  |nil=>exact⟨_,_,rfl⟩
  |cons ss sss=>exact⟨_,_,rfl⟩
theorem Gb(p:LiQ):∀(l:List LLQ)(s:List (List LLQ)),(me p l s).length=l.length
 |[],s=>by cases s<;>rfl
 |[o],s=>by cases s<;>rfl
 |o::o2::os,[]=>rfl
 |o::o2::os,ss::sss=>by simp only[me,List.length_cons,Gb p (o2::os) sss]
theorem aaz(b:Nat)(o:LLQ):norm (szL b o)=szL b o:=rfl
theorem Su{h h1 h2:Hp}:∀{u v:LwQ}{x y:LdQ},eA h u=some (x,h1)->eA h1 v=some (y,h2)->eA h (u++v)=some (x++y,h2)
 |[],v,x,y,e1,e2=>by cases e1;exact e2
 | a::u,v,x,y,e1,e2=>by
  simp only[List.cons_append];unfold eA at e1 ⊢;split at e1
  .rename_i z h3 hz;split at e1
   .rename_i zs h4 hzs;cases e1;rw[Su hzs e2];rfl
   trivial
  trivial
theorem OD(b:Nat)(h:Hp):∀l:List LLQ,eA h (l.map fun o=>V.d (szL b o))=some (l.map (szL b),h)
 |[]=>rfl
 | o::l=>by
  have:=OD b h l
  grind[eA,toD,aaz]
def rsS(b:Nat)(l:List LLQ)(s1:Nat×Bk):Hp:=[(1,.vars (l.map fun o=>V.d (szL b o))),s1]
theorem aeX{b:Nat}{A B:List LLQ}:ghS (.cls 0) (rsH ((A.map fun o=>V.d (szL b o))++.ref 1 e 0 d.length d.length d.length::(B.map fun o=>V.d (szL b o))) e d b)=some (rsS b (A++d::B) (e,.data 1 (d.map (szE b)) false true)):=by
 obtain⟨C,hC⟩:∃C,C=(A.map fun o=>V.d (szL b o))++.ref 1 e 0 d.length d.length d.length::(B.map fun o=>V.d (szL b o)):=⟨_,rfl⟩
 have t1:toD (rsH C e d b) (.ref 1 e 0 d.length d.length d.length)=some (szL b d,[(1,.vars C),(e,.data 1 (d.map (szE b)) false true)]):=by
  simp only[toD,rsH,aj,List.getElem?_cons_succ,List.getElem?_cons_zero,if_true,List.length_map];rw[if_pos ⟨trivial,Z5 _,aa⟩];simp only[Y0,X9];rw[Zd mR];rfl
 have t2:eA (rsH C e d b) C=some (A.map (szL b)++szL b d::B.map (szL b),[(1,.vars C),(e,.data 1 (d.map (szE b)) false true)]):=by
  rw[show eA (rsH C e d b) C=eA (rsH C e d b) ((A.map fun o=>V.d (szL b o))++.ref 1 e 0 d.length d.length d.length::(B.map fun o=>V.d (szL b o))) by rw[<-hC]];refine Su (OD b _ A) ?_;unfold eA;rw[t1];simp only[OD]
 rw[<-hC];have g0:(rsH C e d b)[0]?=some (1,.vars C):=rfl;unfold ghS;simp only[g0,t2]
 show some _=some _
 congr 1;simp[rsS,aM];rfl
theorem OB(b n:Nat):∀l:List LLQ,cI n (l.map fun o=>V.d (szL b o))=true
 |[]=>rfl
 | o::l=>by
  have:=OB b n l;trivial
theorem adD{p:LiQ}{b Bd:Nat}(G:Ac p b Bd){owns:List LLQ}{steps:List (List LLQ)}(hl:steps.length=owns.length)(hN:owns.length<1000000)(ho:∀o∈owns,0<o.length∧o.length<1000000∧okR p Bd o)
  (hs:∀k,k+1<owns.length->(nth [] steps k).length=(nth [] owns k).length∧∀ss∈nth [] steps k,ss.length=(nth [] owns (k+1)).length∧okR p Bd ss)
  (hB:∀m,m<owns.length->∀r∈me p (owns.drop m) (steps.drop m),r.length<1000000∧okR p Bd r) (h0:Hp) (hh:∃e0 b0 x,h0=[x,(e0,b0)]) (K:KL) :
  ∀(m:Nat)(s1:Nat×Bk),m<owns.length->gM 2 s1.2=true ->
  (∀s1,K (.exit 0) [] (rsS b (me p owns steps) s1)) ->
  lp (CY (CX Y) (.dptr (gD p (C6 b owns) (EQ b steps)) 0) (.ref 0 1 0 owns.length owns.length owns.length)) [] h0 [I ((m:Int)-1)] (rsS b (owns.take m++me p (owns.drop m) (steps.drop m)) s1) K
 | 0,s1,hm,hk1,hK=>by
  have g:¬(0:Int)<=-1:=aa;refine AJ ?_;simp only[List.take_zero,Y0,List.nil_append];have e:((0:Nat):Int)-1 = -1:=aa;rw[e];simp[CY]
  grind
 | m+1,s1,hm,hk1,hK=>by
  obtain⟨o,hoe⟩:=nmQ (nth [] owns m);obtain⟨sm,hse⟩:=mnQ (nth [] steps m);obtain⟨o1,o2,o3⟩:=ho o (by rw[hoe];exact BD aa);obtain⟨sl,sr⟩:=hs m aa;rw[hse,<-hoe]at sl;rw[hse]at sr;have d1:owns.drop m=o::owns.drop (m+1):=by rw[hoe,dM [] owns m aa];exact Y2 aa
  have d2:steps.drop m=sm::steps.drop (m+1):=by rw[<-hse,dM [] steps m aa];exact Y2 aa
  obtain⟨u,us,hu⟩:∃u us,owns.drop (m+1)=u::us:=⟨_,_,Y2 hm⟩;obtain⟨r0,rt,hr⟩:=Nz p u us (steps.drop (m+1));have hrl:=Gb p (owns.drop (m+1)) (steps.drop (m+1));have hBm:=hB (m+1) hm;rw[hu]at hrl hBm;rw[hr]at hrl hBm;obtain⟨b1,b2⟩:=hBm r0 mR;have hul:(u::us).length=owns.length-(m+1):=by rw[<-hu,Zm]
  have e0:me p (owns.drop m) (steps.drop m)=wg p o sm r0::r0::rt:=by
   rw[d1,d2,hu];simp only[me,hr,List.headD_cons]
  have tk:owns.take (m+1)=owns.take m++[o]:=by
   rw[hoe,W4,List.getElem?_eq_getElem (show m<owns.length by omega),dM [] owns m aa];rfl
  have ol:owns.length<1000000:=hN;have tl:(owns.take m).length=m:=by rw[Zz];omega
  obtain⟨e1,k1⟩:=s1
  have hun:nth [] owns (m+1)=u:=by
   rw[dM [] owns (m+1) hm];have:=Y2 hm;rw[hu]at this;exact((List.cons.inj this).1).symm
  have hr0:r0.length=u.length:=by
   cases us with
   | nil=>
    have:me p [u] (steps.drop (m+1))=[u]:=by cases steps.drop (m+1)<;>rfl
    grind
   | cons u2 us=>
    have h2:m+1+1<owns.length:=by simp at hul;omega
    have d3:steps.drop (m+1)=nth [] steps (m+1)::steps.drop (m+1+1):=by rw[dM [] steps (m+1) aa];exact Y2 aa
    grind[me,Kj]
  have u0:0<u.length:=by rw[<-hun];exact(ho _ (BD aa)).1
  have hss:∀ss∈sm,ss.length=r0.length∧okR p Bd ss:=by
   intro ss h;obtain⟨q1,q2⟩:=sr ss h;exact⟨by rw[q1,hun,hr0],q2⟩
  have ih:=adD G hl hN ho hs hB h0 hh K m (e1+1,.data 1 ((wg p o sm r0).map (szE b)) false true) aa rfl hK;rw[e0]at ih
  have cl:=UZ (h:=rsS b (owns.take (m+1)++me p (owns.drop (m+1)) (steps.drop (m+1))) (e1,k1)) (by
   have h1:=OB b 2 (owns.take (m+1)++me p (owns.drop (m+1)) (steps.drop (m+1)));simp only[rsS,List.all_cons,List.all_nil,Yj,List.length_cons,List.length_nil,Z7];trivial) (cells:=o.map fun r=>szD (szI b r)) (by grind) (by grind)
  rw[tk,hu,hr]at cl ⊢;simp only[List.append_assoc,List.singleton_append]at cl ⊢;simp only[List.length_cons]at hrl hul;obtain⟨AV,hAV⟩:=nmQ ((owns.take m).map fun o=>V.d (szL b o))
  have AVl:AV.length=m:=by rw[hAV,List.length_map,tl]
  have ecs:((owns.take m++o::r0::rt).map fun o=>V.d (szL b o))=AV++.d (szL b o) :: .d (szL b r0)::rt.map fun o=>V.d (szL b o):=by rw[hAV];simp
  have ncs:(AV++V.d (szL b o) :: .d (szL b r0)::rt.map fun o=>V.d (szL b o)).length=owns.length:=by
   simp;omega
  have f1:∀H:Hp,ld1 H (.dptr (gD p (C6 b owns) (EQ b steps)) 1)=some (.d (C6 b owns)):=fun _=>rfl
  have i1:∀H:Hp,ixV H 1 (.d (C6 b owns)) (I m)=some (.dptr (owns.map (szL b)) m):=fun H=>qw (szL b) owns H rfl aa
  have i2:∀H:Hp,ld1 H (.dptr (owns.map (szL b)) m)=some (.d (szL b o)):=fun H=>by rw[jO (szL b) [] owns H aa,hoe]
  have hm1:((m+1:Nat):Int)-1=(m:Int):=aa;rw[hm1];have g:(0:Int)<=(m:Int):=aa;have esz:V.d (szL b o)=.d (.sl (o.map fun r=>szD (szI b r)).length (o.map fun r=>szD (szI b r))):=by rw[List.length_map];rfl
  refine AJ ?_;simp[CY,g,f1,i1,i2];rw[esz];refine EH (CU (e:=e1) (b:=k1) cl rfl ?_);rw[List.length_map];obtain⟨RT,hRT⟩:=nmQ (rt.map fun o=>V.d (szL b o))
  rw[<-hRT]at ecs ncs;obtain⟨C,hC⟩:∃C,C=AV++V.d (szL b o) :: .d (szL b r0)::RT:=⟨_,rfl⟩
  have eH:(rsS b (owns.take m++o::r0::rt) (e1,k1)).set 1 (e1+1,.data 1 (o.map fun r=>szD (szI b r)) false false)=rsH C (e1+1) o b:=by
   rw[hC,<-ecs];rfl
  rw[eH];have hg0:aj (rsH C (e1+1) o b) 0 1=.vars C:=rfl;have hCl:C.length=owns.length:=by rw[hC];exact ncs
  have x3:ixV (rsH C (e1+1) o b) 1 (.ref 0 1 0 owns.length owns.length owns.length) (I m)=some (.ptr 0 1 m owns.length):=by
   simp only[ixV,hg0];rw[if_pos ⟨hCl.symm,aa,aa⟩];simp
  have y4:stX (bB (rsH C (e1+1) o b) 0 1) (rsH C (e1+1) o b) 0 1 m owns.length [.ref 1 (e1+1) 0 o.length o.length o.length]=some (rsH (rsC AV (e1+1) o.length b r0 RT) (e1+1) o b):=by
   have hg1:bB (rsH C (e1+1) o b) 0 1=.vars C:=rfl;rw[hg1,vT,if_pos ⟨hCl.symm,by grind,rfl⟩];have t1:C.take m=AV:=by rw[hC,<-AVl];simp
   have t2:C.drop (m+1)=.d (szL b r0)::RT:=by rw[hC,<-AVl];simp
   show some (aM _ 0 1 (.vars (C.take m++[V.ref 1 (e1+1) 0 o.length o.length o.length]++C.drop (m+1))))=_
   rw[t1,t2];simp[aM,rsH,rsC]
  have hn':(rsC AV (e1+1) o.length b r0 RT).length=owns.length:=by
   rw[<-hCl,hC];simp[rsC]
  have l1:=adA G (C6 b owns) (n:=owns.length) (k:=m) (steps:=steps) (own:=o) (R:=r0) (sss:=sm) (A:=AV) (Bb:=RT) (e:=e1+1) AVl hn' aa hse sl o2 aa o3 b2 aa b1 hss
   (rsH (rsC AV (e1+1) o.length b r0 RT) (e1+1) o b) rfl
  have lO:fL (.d (szL b o))=some (I o.length):=rfl;have rl:(wg p o sm r0).length=o.length:=Kj p o sm r0 sl;have cls:=aeX (b:=b) (e:=e1+1) (A:=owns.take m) (B:=r0::rt) (d:=wg p o sm r0)
  have eC:((owns.take m).map fun o=>V.d (szL b o))++.ref 1 (e1+1) 0 (wg p o sm r0).length (wg p o sm r0).length (wg p o sm r0).length::((r0::rt).map fun o=>V.d (szL b o))=rsC AV (e1+1) o.length b r0 RT:=by
   rw[rl,hAV,hRT];rfl
  rw[eC]at cls;obtain⟨ea,ka,xa,hh2⟩:=hh;have hre:∀l s,aL [] 0 h0 (rsS b l s)=rsS b l s:=fun l s=>ua 0 h0 _ (by rw[hh2];rfl)
  have ixe:∀(H:Hp)(n s e off len cap tot:Nat)(z:Int),ixX (bB H s e) n s e off len tot z=ixV H n (.ref s e off len cap tot) (I z):=fun H n s e off len cap tot z=>by
   rfl
  have y3:=(ixe _ 1 0 1 0 owns.length owns.length owns.length m).trans x3;simp[x3,y3];rw[y4];simp[f1,i1,i2,lO];refine lo (l1 _ o [] sm [] [] rfl rfl rfl rfl ?_);rw[List.nil_append]
  show ghG _ _ _
  refine adS cls ?_;unfold ghG;have g5:biI .sub (I m) (.d (.int .i64 1))=some (I ((m:Int)-1)):=by rw[ta,wrap_i64 aa]
  refine ae0 g5 ?_;refine⟨mR,?_⟩
  grind
structure Ae(p:LiQ)(b Bd:Nat)(owns:List LLQ)(steps:List (List LLQ)):Prop where
 g:Ac p b Bd
 ne:0<owns.length
 hl:steps.length=owns.length
 hN:owns.length<1000000
 ho:∀o∈owns,0<o.length∧o.length<1000000∧okR p Bd o
 hs:∀k,k+1<owns.length->(nth [] steps k).length=(nth [] owns k).length∧∀ss∈nth [] steps k,ss.length=(nth [] owns (k+1)).length∧okR p Bd ss
 hB:∀m,m<owns.length->∀r∈me p (owns.drop m) (steps.drop m),r.length<1000000∧okR p Bd r
theorem TB(b:Nat):∀l:List LLQ,oM (l.map fun o=>V.d (szL b o))=some (l.map (szL b))
 |[]=>rfl
 | o::l=>by
  have:=TB b l
  grind[oM]
theorem aad{p:LiQ}{b:Nat}{owns:List LLQ}{steps:List (List LLQ)}(c:Ae p b Bd owns steps):
  CP Y F.Bw [.dptr (gD p (C6 b owns) (EQ b steps)) 0] (.tup [.d (C6 b (me p owns steps)),I 0]):=by
 refine I5 ?_;obtain⟨n,hn⟩:∃n,owns.length=n+1:=⟨owns.length-1,by have:=c.ne;omega⟩;have hN:=c.hN;have f1:∀H:Hp,ld1 H (.dptr (gD p (C6 b owns) (EQ b steps)) 1)=some (.d (C6 b owns)):=fun _=>rfl
 have ml:(owns.map (szL b)).length=owns.length:=List.length_map _;have cl:=U0 (h:=[nnQ,nnQ]) rfl (cells:=owns.map (szL b)) aa aa;have esz:V.d (C6 b owns)=.d (.sl (owns.map (szL b)).length (owns.map (szL b))):=by rw[List.length_map];rfl
 have go:ghS (.opn 0) [(1,.data 1 (owns.map (szL b)) false false),nnQ]=some (rsS b owns nnQ):=by
  show some (aM _ 0 1 (.vars ((owns.map (szL b)).map .d)))=_
  simp[aM,rsS]
 have lO:fL (.d (C6 b owns))=some (I owns.length):=rfl;simp[Bw,f1];rw[esz];refine EH (CU (e:=0) (b:=.none) cl rfl ?_);refine adS go ?_;unfold ghG;rw[ml];have g2:∀H:Hp,ld1 H (.dptr (gD p (C6 b owns) (EQ b steps)) (0+1))=some (.d (C6 b owns)):=fun _=>rfl
 have r0:=adD c.g c.hl c.hN c.ho c.hs c.hB (rsS b owns nnQ) ⟨0,.none,_,rfl⟩ (exK [(Exit.exit 0,fun l10 h=>out (V.tup [.d (C6 b (me p owns steps)),I 0]) (V.tup [.ref 0 1 0 owns.length owns.length owns.length,I 0]) h),(Exit.ret,fun l10 h=>out (V.tup [.d (C6 b (me p owns steps)),I 0]) (V.tup [ge l10 0,ge l10 1]) h)]) n nnQ aa rfl (fun s1=>by
  have hl:=Gb p owns steps;refine AO (h2:=[(1,.data 1 ((me p owns steps).map (szL b)) false true),s1]) ?_ rfl;simp only[cX,toD,rsS,aj,List.getElem?_cons_zero,if_true,TB,List.length_map,hl]
  grind[Zd,C6,aM])
 have e1:owns.take n++me p (owns.drop n) (steps.drop n)=owns:=by
  have:(owns.drop n).length=1:=by rw[Zm];omega
  obtain⟨x,hx⟩:=List.length_eq_one_iff.1 this;have:me p (owns.drop n) (steps.drop n)=owns.drop n:=by rw[hx];cases steps.drop n<;>rfl
  rw[this,X8]
 rw[e1]at r0;have g3:(owns.length:Int)-2=(n:Int)-1:=aa;simp(disch:=try exact zN)[g2,lO,g3];exact r0
theorem RH(h t:Hp)(i:Nat):(h++t)[h.length+i]?=t[i]?:=by rw[List.getElem?_append_right aa,Nat.add_sub_cancel_left]
theorem Kc(h t:Hp)(i:Nat)(x:Nat×Bk):(h++t).set (h.length+i) x=h++t.set i x:=by rw[List.set_append_right _ _ aa,Nat.add_sub_cancel_left]
theorem Hm(h t:Hp)(i e:Nat):aj (h++t) (h.length+i) e=aj t i e:=by simp[aj,RH]
theorem Ol(h t:Hp)(i e o n:Nat):ld1 (h++t) (.ptr (h.length+i) e o n)=ld1 t (.ptr i e o n):=by simp[ld1,Hm]
theorem VV(h t:Hp)(m i e o n:Nat):ldA (h++t) m (.ptr (h.length+i) e o n)=ldA t m (.ptr i e o n):=by simp[ldA,Hm]
theorem Md(h:∀t∈clr,t≠s):d9 clr s=true:=by
 induction clr with
 |nil=>rfl
 | cons t l ih=>
  rw[Jz,beq_lit,decide_eq_false (h t mR),ih fun u hu=>h u (by grind)];rfl
theorem Uc{b:Nat}(hc:∀t∈clr,b<=t):∀x:V,under b x=true->E4 clr x=true:=by
 intro x
 induction x using V.rec (motive_2:=fun l=>cI b l=true->dp clr l=true)with
 |agg l ih=>trivial
 |tup l ih=>trivial
 | fn g a c iha ihc=>
  grind[under,E4]
 |ifc t x ih=>trivial
 |nil=>rfl
 | cons x l ih ihl h=>
  grind[cI,dp]
 | ref s e off len cap tot=>
  intro h;have:s<b:=by simpa[under,Nat.blt_eq]using h
  exact Md fun t ht=>by grind
 | ptr s e off tot=>
  intro h;have:s<b:=by simpa[under,Nat.blt_eq]using h
  exact Md fun t ht=>by grind
 |_=>intro _;rfl
theorem Nv{clr:LnQ}{b:Nat}(hc:∀t∈clr,b<=t):∀l:LwQ,cI b l=true->dp clr l=true
 |[],_=>rfl
 | x::l,h=>by
  simp only[cI,Z7]at h;simp only[dp,Uc hc x h.1,Nv hc l h.2,Yj]
theorem Ud{b:Nat}(hc:∀t∈clr,b<=t)(x:Bk)(h:gM b x=true):offB clr x=true:=by
 cases x with
 |vars l=>exact Nv hc l h
 |_=>rfl
theorem Tb{clr:LnQ}{b:Nat}(hc:∀t∈clr,b<=t):∀(h t:Hp)(i:Nat),(h.all fun x=>gM b x.2)=true->jF clr (i+h.length) t=true->jF clr i (h++t)=true
 |[],t,i,_,ht=>ht
 | x::h,t,i,hu,ht=>by
  simp only[List.all_cons,Z7]at hu;rw[List.cons_append,FK,Ud hc _ hu.1,W7,Yv];refine Tb hc h t (i+1) hu.2 ?_;rw[List.length_cons]at ht;rw[show i+1+h.length=i+(h.length+1) by omega];exact ht
theorem MU{clr:LnQ}:∀(h t t0:Hp)(i:Nat),(∀c∈clr,i+h.length<=c)->aL clr i (h++t0) (h++t)=h++aL clr (i+h.length) t0 t
 |[],t,t0,i,_=>rfl
 | x::h,t,t0,i,hc=>by
  rw[List.cons_append,List.cons_append,Jy,Md (s:=i) (fun c hcc=>by grind),if_pos rfl,MU h t t0 (i+1) (fun c hcc=>by grind)];rw[List.length_cons,List.cons_append,show i+1+h.length=i+(h.length+1) by omega]
def jd(a:Ad)(k:Nat):LLQ:=(List.range (nth [] a.cd k).length).map (rW a k)
def Fs(a:Ad)(k i:Nat):LLQ:=(List.range (nth [] a.cd (k+1)).length).map (stW a k i)
def ma(a:Ad)(k:Nat):List LLQ:=(List.range (nth [] a.cd k).length).map (Fs a k)
def hO(a:Ad):List LLQ:=(List.range a.cd.length).map (jd a)
def mb(a:Ad):List (List LLQ):=(List.range a.cd.length).map (ma a)
theorem aeo(G:dX a)(k i j:Nat):szI 1 (Qp a k i j)=szI a.w.2 (stW a k i j):=YT (G.w0.1.1) _
def wgA(h:Hp)(i:Nat):Acc:=⟨h.length+i,0,1,.none⟩
def wgH(h:Hp)(a:Ad)(s1 s2 s3 s4 s5 s6:Nat×Bk):Hp:=h++[adB a,s1,s2,s3,s4,s5,s6]
theorem Ve(h:Hp)(a:Ad)(s1 s2 s3 s4 s5 s6:Nat×Bk):(wgH h a s1 s2 s3 s4 s5 s6).length=h.length+7:=by simp[wgH]
theorem YH(h:Hp)(a:Ad)(s1 s2 s3 s4 s5 s6:Nat×Bk):ld1 (wgH h a s1 s2 s3 s4 s5 s6) (.ptr h.length 1 3 6)=some (lst qb a.cd):=by have:=Ol h [adB a,s1,s2,s3,s4,s5,s6] 0 1 3 6;trivial
theorem adt(h:Hp)(a:Ad)(s1 s2 s3 s4 s5 s6:Nat×Bk):ldA (wgH h a s1 s2 s3 s4 s5 s6) 6 (.ptr h.length 1 0 6)=some (.agg (adC a)):=by have:=VV h [adB a,s1,s2,s3,s4,s5,s6] 6 0 1 0 6;trivial
def stC(a:Ad)(k i n:Nat):LdQ:=(List.range n).map fun t=>szE a.w.2 (stW a k i t)
theorem YX(a:Ad)(k i n:Nat):stC a k i (n+1)=stC a k i n++[szE a.w.2 (stW a k i n)]:=by simp[stC,Yp]
theorem adq(G:dX a){k i:Nat}(hk:k<a.cd.length)(hi:i<(nth [] a.cd k).length){h:Hp}{s1 s2 s4 s5 s6:Nat×Bk}(h0:Hp)(hh:h0.length=h.length+7)(K:KL) :
  ∀(m j:Nat),j+m=(nth [] a.cd (k+1)).length ->
  K (.exit 4) [(wgA h 3).v (nth [] a.cd (k+1)).length (stC a k i (nth [] a.cd (k+1)).length)] (wgH h a s1 s2 ((wgA h 3).b (nth [] a.cd (k+1)).length (stC a k i (nth [] a.cd (k+1)).length)) s4 s5 s6) ->
  lp (Dx (CX Y) h.length (.ptr h.length 1 0 6) (mat (IP a)) (I k) (I i)) [] h0 [(wgA h 3).v j (stC a k i j),I j] (wgH h a s1 s2 ((wgA h 3).b j (stC a k i j)) s4 s5 s6) K
 | 0,j,hj,hK=>by
  have h5:=G.five;have hcl:=G.cl;have w3:=YH h a s1 s2 ((wgA h 3).b j (stC a k i j)) s4 s5 s6;have ej:(nth [] a.cd (k+1)).length=j:=aa;rw[ej]at hK;have lc:fL (lst qb a.cd)=some (I a.cd.length):=rfl;refine AJ ?_;by_cases g:k+1<a.cd.length
  .have i1:∀H:Hp,ixV H 1 (lst qb a.cd) (I ((k:Int)+1))=some (.dptr (a.cd.map qb) (k+1)):=fun H=>qw qb _ H aa g
   have i2:∀H:Hp,ld1 H (.dptr (a.cd.map qb) (k+1))=some (mat (nth [] a.cd (k+1))):=fun H=>jO qb [] a.cd H g
   have lm:fL (mat (nth [] a.cd (k+1)))=some (I j):=by rw[<-ej];rfl
   have g':(k:Int)+1<a.cd.length:=aa;simp(disch:=try exact zN)[Dx,w3,lc,g',i1,i2,lm];exact hK
  .have g':¬(k:Int)+1<a.cd.length:=aa;simp(disch:=try exact zN)[Dx,w3,lc,g'];exact hK
 | m+1,j,hj,hK=>by
  have h5:=G.five;have hcl:=G.cl;have hlen:=G.wk.len
  have g:k+1<a.cd.length:=by
   by_cases g:k+1<a.cd.length
   .exact g
   .have:nth [] a.cd (k+1)=[]:=by unfold nth;rw[Z4,List.getElem?_eq_none aa];rfl
    grind
  have hn20:(nth [] a.cd (k+1)).length<=20:=(G.cn _ (BD (d:=[]) g)).2;have w3:=YH h a s1 s2 ((wgA h 3).b j (stC a k i j)) s4 s5 s6;have w6:=adt h a s1 s2 ((wgA h 3).b j (stC a k i j)) s4 s5 s6;have lc:fL (lst qb a.cd)=some (I a.cd.length):=rfl;have i1:∀H:Hp,ixV H 1 (lst qb a.cd) (I ((k:Int)+1))=some (.dptr (a.cd.map qb) (k+1)):=fun H=>qw qb _ H aa g
  have i2:∀H:Hp,ld1 H (.dptr (a.cd.map qb) (k+1))=some (mat (nth [] a.cd (k+1))):=fun H=>jO qb [] a.cd H g
  have lm:fL (mat (nth [] a.cd (k+1)))=some (I (nth [] a.cd (k+1)).length):=rfl;have g':(k:Int)+1<a.cd.length:=aa;have gj:(j:Int)<(nth [] a.cd (k+1)).length:=aa;have so:=step_ok G (i:=k) (f:=i) (t:=j) aa hi aa;rw[aeo G]at so;have ih:=adq G hk hi (h:=h) (s1:=s1) (s2:=s2) (s4:=s4) (s5:=s5) (s6:=s6) h0 hh K m (j+1) aa hK;rw[YX]at ih
  have li:∀H,BS 1 [nPQ] [(0,szV (szI a.w.2 (stW a k i j)))] H=some ([szE a.w.2 (stW a k i j)],H):=fun H=>by
   rfl
  have cl:(stC a k i j).length=j*1:=by simp[stC]
  refine AJ ?_;simp(disch:=try exact zN)[Dx,w3,w6,lc,g',i1,i2,lm,gj];refine cd so ?_;simp[li];refine D7 (wgA h 3) (L:=j) (k:=1) (cells:=stC a k i j) (cs:=[szE a.w.2 (stW a k i j)]) aa (by simp[wgH,wgA]) cl rfl rfl (fun t e=>by cases e) aa (by show 0<1;decide) ?_
  have eS:(wgH h a s1 s2 ((wgA h 3).b j (stC a k i j)) s4 s5 s6).set (wgA h 3).s ((wgA h 3).b (j+1) (stC a k i j++[szE a.w.2 (stW a k i j)]))=wgH h a s1 s2 ((wgA h 3).b (j+1) (stC a k i j++[szE a.w.2 (stW a k i j)])) s4 s5 s6:=by
   unfold wgH wgA;rw[Kc];rfl
  rw[eS];have hre:∀x,aL [] 0 h0 (wgH h a s1 s2 x s4 s5 s6)=wgH h a s1 s2 x s4 s5 s6:=fun x=>ua 0 h0 _ (by rw[hh,Ve])
  have g2:biI .add (I j) (.d (.int .i64 1))=some (I ((j+1:Nat):Int)):=LO aa
  simp_all
theorem M2{h h':Hp}{v:V}{x:D}(ht:toD h v=some (x,h'))(hv:(∃y,v=.d y)∨∃s e o l c t,v=.ref s e o l c t):BS 1 [nPQ] [(0,v)] h=some ([x],h'):=by
 rcases hv with⟨y,rfl⟩|⟨s,e,o,l,c,t,rfl⟩
 .simp[BS,cY,eA,ht]
 .simp[BS,cY,eA,ht]
theorem Ht(A:Acc)(L:Nat)(c:LdQ):(∃y,A.v L c=.d y)∨∃s e o l c' t,A.v L c=.ref s e o l c' t:=by
 cases L with
 |zero=>exact .inl ⟨_,rfl⟩
 |succ L=>simp
theorem GP(A:Acc){c:LdQ}{h:Hp}(hs:h[A.s]?=some (A.b L c))(hc:c.length=L*A.n):∃fr,toD h (A.v L c)=some (.sl L c,if L=0 then h else h.set A.s (A.e+1,.data A.n c false fr)):=by
 refine⟨true,?_⟩;cases L with
 | zero=>
  have:c=[]:=Zo aa;subst this;rfl
 | succ L=>
  have hg:aj h A.s (A.e+1)=.data A.n c false false:=by simp only[aj,hs,Acc.b,if_true]
  simp only[Acc.v,toD,hg,true_and,Y9];rw[if_pos ⟨Z5 _,aa⟩,if_neg aa];simp only[Y0,aM];rw[Zd aa]
variable{a:Ad}{h:Hp}
theorem Sk{clr:LnQ}(hc:∀t∈clr,h.length<=t)(hu:(h.all fun x=>gM h.length x.2)=true){l:LwQ}(hl:dp clr l=true){s1 s2 s3 s4 s5 s6:Nat×Bk}(b1:offB clr s1.2=true)(b2:offB clr s2.2=true)(b3:offB clr s3.2=true)
  (b4:offB clr s4.2=true) (b5:offB clr s5.2=true) (b6:offB clr s6.2=true):clean clr l (wgH h a s1 s2 s3 s4 s5 s6)=true:=by unfold clean;rw[hl,Yv];refine Tb hc _ _ 0 hu ?_;have b0:offB clr (adB a).2=true:=rfl;simp only[FK,b0,b1,b2,b3,b4,b5,b6,W7,Yv];rfl
theorem aej{t2 t4:Nat×Bk}:aL [h.length+3] 0 (wgH h a t1 t2 nnQ t4 t5 t6) (wgH h a s1 s2 s3 s4 s5 s6)=wgH h a s1 s2 nnQ s4 s5 s6:=by unfold wgH;rw[MU _ _ _ _ mR];simp[Jy,Qz,Jz,MZ]
theorem YG:aL [h.length+2,h.length+3,h.length+4] 0 (wgH h a t1 nnQ nnQ nnQ t5 t6) (wgH h a s1 s2 s3 s4 s5 s6)=wgH h a s1 nnQ nnQ nnQ s5 s6:=by unfold wgH;rw[MU _ _ _ _ mR];simp[Jy,Qz,Jz,MZ]
def owC(a:Ad)(k n:Nat):LdQ:=(List.range n).map fun i=>szE a.w.2 (rW a k i)
theorem aau(a:Ad)(k n:Nat):owC a k (n+1)=owC a k n++[szE a.w.2 (rW a k n)]:=by simp[owC,Yp]
def skC(a:Ad)(k n:Nat):LdQ:=(List.range n).map fun i=>szL a.w.2 (Fs a k i)
theorem ZH(a:Ad)(k n:Nat):skC a k (n+1)=skC a k n++[szL a.w.2 (Fs a k n)]:=by simp[skC,Yp]
theorem ab5(a:Ad)(k i:Nat):D.sl (nth [] a.cd (k+1)).length (stC a k i (nth [] a.cd (k+1)).length)=szL a.w.2 (Fs a k i):=by simp only[szL,Fs,List.length_map,Yo,Yg];rfl
theorem acp(a:Ad)(k:Nat):D.sl (nth [] a.cd k).length (owC a k (nth [] a.cd k).length)=szL a.w.2 (jd a k):=by simp only[szL,jd,List.length_map,Yo,Yg];rfl
theorem ZG(a:Ad)(k:Nat):D.sl (nth [] a.cd k).length (skC a k (nth [] a.cd k).length)=C6 a.w.2 (ma a k):=by simp only[C6,ma,List.length_map,Yo,Yg];rfl
theorem IM(h:Hp)(a:Ad)(s1 s2 s3 s4 s5 s6:Nat×Bk)(i:Nat):(wgH h a s1 s2 s3 s4 s5 s6)[h.length+i]?=([adB a,s1,s2,s3,s4,s5,s6]:Hp)[i]?:=by simp[wgH,RH]
theorem Vd(h:Hp)(a:Ad)(s1 s2 s3 s4 s5 s6 x:Nat×Bk):(wgH h a s1 s2 s3 s4 s5 s6).set (h.length+2) x=wgH h a s1 x s3 s4 s5 s6:=by simp[wgH]
theorem abY(h:Hp)(a:Ad)(s1 s2 s3 s4 s5 s6 x:Nat×Bk):(wgH h a s1 s2 s3 s4 s5 s6).set (h.length+3) x=wgH h a s1 s2 x s4 s5 s6:=by simp[wgH]
theorem Vb(h:Hp)(a:Ad)(s1 s2 s3 s4 s5 s6 x:Nat×Bk):(wgH h a s1 s2 s3 s4 s5 s6).set (h.length+4) x=wgH h a s1 s2 s3 x s5 s6:=by simp[wgH]
theorem Va(h:Hp)(a:Ad)(s1 s2 s3 s4 s5 s6 x:Nat×Bk):(wgH h a s1 s2 s3 s4 s5 s6).set (h.length+5) x=wgH h a s1 s2 s3 s4 x s6:=by simp[wgH]
theorem U9(h:Hp)(a:Ad)(s1 s2 s3 s4 s5 s6 x:Nat×Bk):(wgH h a s1 s2 s3 s4 s5 s6).set (h.length+6) x=wgH h a s1 s2 s3 s4 s5 x:=by simp[wgH]
theorem Rp{c:LdQ}(hc:∀t∈clr,t≠h.length+i):E4 clr ((wgA h i).v L c)=true:=Io _ _ _ _ (Md hc)
theorem adr(G:dX a){k:Nat}(hk:k<a.cd.length)(hu:(h.all fun x=>gM h.length x.2)=true){s1 s5 s6:Nat×Bk}(b1:offB [h.length+3] s1.2=true)(b5:offB [h.length+3] s5.2=true)(b6:offB [h.length+3] s6.2=true)
  (K:KL) (hK:∀s3,offB [h.length+2,h.length+3,h.length+4] (s3:Nat×Bk).2=true->K (.exit 2) [(wgA h 2).v (nth [] a.cd k).length (owC a k (nth [] a.cd k).length),(wgA h 4).v (nth [] a.cd k).length (skC a k (nth [] a.cd k).length)]
   (wgH h a s1 ((wgA h 2).b (nth [] a.cd k).length (owC a k (nth [] a.cd k).length)) s3 ((wgA h 4).b (nth [] a.cd k).length (skC a k (nth [] a.cd k).length)) s5 s6)) :
  ∀(m i:Nat),i+m=(nth [] a.cd k).length ->
  lp (EA (CX Y) h.length (.ptr h.length 1 0 6) (mat (IP a)) (I k) (I (nth [] a.cd k).length)) [h.length+3] (wgH h a s1 nnQ nnQ nnQ s5 s6) [(wgA h 2).v i (owC a k i),(wgA h 4).v i (skC a k i),I i]
   (wgH h a s1 ((wgA h 2).b i (owC a k i)) nnQ ((wgA h 4).b i (skC a k i)) s5 s6) K
 | 0,i,hi=>by
  have ei:(nth [] a.cd k).length=i:=aa;rw[ei]at hK ⊢;refine AJ ?_;simp[EA];exact hK _ rfl
 | m+1,i,hi=>by
  have h5:=G.five;have hcl:=G.cl;have hn20:(nth [] a.cd k).length<=20:=(G.cn _ (BD (d:=[]) hk)).2;have oo:=aez G hk (k:=i) aa;have w6:=fun s2 s3 s4=>adt h a s1 s2 s3 s4 s5 s6
  have ih:=adr G hk hu b1 b5 b6 K hK m (i+1) aa;rw[aau,ZH]at ih
  have li:∀H,BS 1 [nPQ] [(0,szV (szI a.w.2 (rW a k i)))] H=some ([szE a.w.2 (rW a k i)],H):=fun H=>by
   rfl
  have g:(i:Int)<(nth [] a.cd k).length:=aa;have c1:(owC a k i).length=i*1:=by simp[owC]
  have c2:(skC a k i).length=i*1:=by simp[skC]
  have l2:=fun s2 s4 (H0:Hp) hH K2=>adq G hk (i:=i) aa (h:=h) (s1:=s1) (s2:=s2) (s4:=s4) (s5:=s5) (s6:=s6) H0 hH K2 _ 0 (Y9 _)
  refine AJ ?_;simp[EA,w6,g];refine cd oo ?_;simp[li];refine D7 (wgA h 2) (L:=i) (k:=1) (cells:=owC a k i) (cs:=[szE a.w.2 (rW a k i)]) aa (IM ..) c1 rfl rfl (fun t e=>by cases e) aa (by show 0<1;decide) ?_;rw[show(wgA h 2).s=h.length+2 from rfl,Vd];obtain⟨B2,hB2⟩:∃B,B=(wgA h 2).b (i+1) (owC a k i++[szE a.w.2 (rW a k i)]):=⟨_,rfl⟩
  have o2:offB [h.length+3] B2.2=true:=by rw[hB2];exact Du _ _ _ _ rfl
  rw[<-hB2]at ih ⊢;simp;refine lo (l2 _ _ _ (Ve ..) _ ?_);have cs:(stC a k i (nth [] a.cd (k+1)).length).length=(nth [] a.cd (k+1)).length*1:=by simp[stC]
  obtain⟨fr,td⟩:=GP (wgA h 3) (h:=wgH h a s1 B2 ((wgA h 3).b (nth [] a.cd (k+1)).length (stC a k i (nth [] a.cd (k+1)).length)) ((wgA h 4).b i (skC a k i)) s5 s6) (L:=(nth [] a.cd (k+1)).length) (c:=stC a k i (nth [] a.cd (k+1)).length) (IM ..) cs;rw[ab5]at td;have li2:=M2 td (Ht ..)
  obtain ⟨s3,e3,b3⟩:∃s3:Nat×Bk,(if(nth [] a.cd (k+1)).length=0 then wgH h a s1 B2 ((wgA h 3).b (nth [] a.cd (k+1)).length (stC a k i (nth [] a.cd (k+1)).length)) ((wgA h 4).b i (skC a k i)) s5 s6
    else(wgH h a s1 B2 ((wgA h 3).b (nth [] a.cd (k+1)).length (stC a k i (nth [] a.cd (k+1)).length)) ((wgA h 4).b i (skC a k i)) s5 s6).set (wgA h 3).s ((wgA h 3).e+1,.data (wgA h 3).n (stC a k i (nth [] a.cd (k+1)).length) false fr)) =
    wgH h a s1 B2 s3 ((wgA h 4).b i (skC a k i)) s5 s6∧offB [h.length+3] s3.2=true:=by
   by_cases z:(nth [] a.cd (k+1)).length=0
   .rw[if_pos z];exact⟨_,rfl,Du _ _ _ _ rfl⟩
   .rw[if_neg z,show(wgA h 3).s=h.length+3 from rfl,abY];exact⟨_,rfl,rfl⟩
  rw[e3]at li2;simp[li2];refine D7 (wgA h 4) (L:=i) (k:=1) (cells:=skC a k i) (cs:=[szL a.w.2 (Fs a k i)]) aa (IM ..) c2 rfl rfl (fun t e=>by cases e) aa (by show 0<1;decide) ?_;rw[show(wgA h 4).s=h.length+4 from rfl,Vb];have g2:biI .add (I i) (.d (.int .i64 1))=some (I ((i+1:Nat):Int)):=LO aa
  show bnd _ _
  rw[g2];refine⟨Sk mR hu ?_ b1 o2 b3 (Du _ _ _ _ rfl) b5 b6,?_⟩
  .simp only[dp,Rp (h:=h) (clr:=[h.length+3]) (i:=2) mR,Rp (h:=h) (clr:=[h.length+3]) (i:=4) mR,Yv];rfl
  grind[aej]
def oC(a:Ad)(n:Nat):LdQ:=(List.range n).map fun k=>szL a.w.2 (jd a k)
theorem acz(a:Ad)(n:Nat):oC a (n+1)=oC a n++[szL a.w.2 (jd a n)]:=by simp[oC,Yp]
def sC(a:Ad)(n:Nat):LdQ:=(List.range n).map fun k=>C6 a.w.2 (ma a k)
theorem acd(a:Ad)(n:Nat):sC a (n+1)=sC a n++[C6 a.w.2 (ma a n)]:=by simp[sC,Yp]
def grB(h:Hp)(a:Ad)(i j:Nat):Nat×Bk:=(1,.vars [lst di a.p,(wgA h 5).v i (oC a i),(wgA h 6).v j (sC a j)])
def wgK(h:Hp)(a:Ad)(n:Nat)(s2 s3 s4:Nat×Bk):Hp:=wgH h a (grB h a n n) s2 s3 s4 ((wgA h 5).b n (oC a n)) ((wgA h 6).b n (sC a n))
theorem VW(h5:∀t∈clr,t≠h.length+5)(h6:∀t∈clr,t≠h.length+6):offB clr (grB h a i j).2=true:=by grind[E4,lst,grB,offB,dp,Rp]
theorem ael(s2 s3 s4 s5 s6:Nat×Bk)(i j:Nat):ld1 (wgH h a (grB h a i j) s2 s3 s4 s5 s6) (.ptr (h.length+1) 1 1 3)=some ((wgA h 5).v i (oC a i)):=by unfold wgH;rw[Ol];rfl
theorem aek(s2 s3 s4 s5 s6:Nat×Bk)(i j:Nat):ld1 (wgH h a (grB h a i j) s2 s3 s4 s5 s6) (.ptr (h.length+1) 1 2 3)=some ((wgA h 6).v j (sC a j)):=by unfold wgH;rw[Ol];rfl
theorem Q0(s2 s3 s4 s5 s6:Nat×Bk)(i j:Nat):ownB (wgH h a (grB h a i j) s2 s3 s4 s5 s6) (h.length+1) 1 3=true:=by unfold ownB wgH;rw[Hm];rfl
theorem ae9(s2 s3 s4 s5 s6:Nat×Bk)(i j:Nat):smB (wgH h a (grB h a i j) s2 s3 s4 s5 s6) (.ptr (h.length+1) 1 0 3) (.ptr (h.length+1) 1 1 3)=true:=by simp[smB,Q0]
theorem aei(s2 s3 s4 s5 s6:Nat×Bk)(i j:Nat):smB (wgH h a (grB h a i j) s2 s3 s4 s5 s6) (.ptr (h.length+1) 1 0 3) (.ptr (h.length+1) 1 2 3)=true:=by simp[smB,Q0]
theorem aem(s2 s3 s4 s6:Nat×Bk)(i j:Nat):apt (wgH h a (grB h a i j) s2 s3 s4 ((wgA h 5).b i (oC a i)) s6) ((wgA h 5).v i (oC a i)) (.ptr (h.length+1) 1 0 3)=true:=by
 cases i with
 |zero=>exact Q0 ..
 | succ i=>
  have hd:uk (wgH h a (grB h a (i+1) j) s2 s3 s4 ((wgA h 5).b (i+1) (oC a (i+1))) s6) (h.length+5) 1 (oC a (i+1)).length=true:=by
   unfold uk wgH;rw[Hm]
   show Nat.beq _ _=true
   exact Za _
  show((!Nat.beq (h.length+5) (h.length+1))&&uk _ (h.length+5) 1 (oC a (i+1)).length&&ownB _ (h.length+1) 1 3)=true
  grind[Q0,beq_lit]
theorem aeh(s2 s3 s4 s5 s6:Nat×Bk)(i j:Nat):st (wgH h a (grB h a i j) s2 s3 s4 s5 s6) 1 (.ptr (h.length+1) 1 1 3) ((wgA h 5).v (i+1) (oC a (i+1)))=some (wgH h a (grB h a (i+1) j) s2 s3 s4 s5 s6):=by
 have hg:aj (wgH h a (grB h a i j) s2 s3 s4 s5 s6) (h.length+1) 1=(grB h a i j).2:=by unfold wgH;rw[Hm];rfl
 show sto _ (h.length+1) 1 1 3 [_]=_
 unfold sto;rw[hg]
 show some (aM _ _ _ _)=_
 unfold aM wgH;rw[Kc];rfl
theorem aeg(s2 s3 s4 s5 s6:Nat×Bk)(i j:Nat):st (wgH h a (grB h a i j) s2 s3 s4 s5 s6) 1 (.ptr (h.length+1) 1 2 3) ((wgA h 6).v (j+1) (sC a (j+1)))=some (wgH h a (grB h a i (j+1)) s2 s3 s4 s5 s6):=by
 have hg:aj (wgH h a (grB h a i j) s2 s3 s4 s5 s6) (h.length+1) 1=(grB h a i j).2:=by unfold wgH;rw[Hm];rfl
 show sto _ (h.length+1) 1 2 3 [_]=_
 unfold sto;rw[hg]
 show some (aM _ _ _ _)=_
 unfold aM wgH;rw[Kc];rfl
theorem ads(G:dX a)(hu:(h.all fun x=>gM h.length x.2)=true)(K:KL)(hK:K (.exit 0) [] (wgK h a a.cd.length nnQ nnQ nnQ)) :
  ∀(m k:Nat),k+m=a.cd.length ->
  lp (EB (CX Y) h.length (.ptr h.length 1 0 6) (mat (IP a)) (.ptr (h.length+1) 1 0 3) (lst qb a.cd) (I a.cd.length)) [h.length+2,h.length+3,h.length+4] (wgK h a 0 nnQ nnQ nnQ) [I k]
   (wgK h a k nnQ nnQ nnQ) K
 | 0,k,hk=>by
  have ek:a.cd.length=k:=aa;rw[ek]at hK ⊢;refine AJ ?_;simp[EB];exact hK
 | m+1,k,hk=>by
  have h5:=G.five;have hcl:=G.cl;have hkc:k<a.cd.length:=aa;obtain⟨n1,n2⟩:=G.cn _ (BD (d:=[]) hkc);have ih:=ads G hu K hK m (k+1) aa;have i1:∀H:Hp,ixV H 1 (lst qb a.cd) (I k)=some (.dptr (a.cd.map qb) k):=fun H=>qw qb _ H rfl hkc
  have i2:∀H:Hp,ld1 H (.dptr (a.cd.map qb) k)=some (mat (nth [] a.cd k)):=fun H=>jO qb [] a.cd H hkc
  have lm:fL (mat (nth [] a.cd k))=some (I (nth [] a.cd k).length):=rfl;have g:(k:Int)<a.cd.length:=aa;have l1:=fun s5 s6 b5 b6 K2 hK2=>adr G hkc hu (s1:=grB h a k k) (s5:=s5) (s6:=s6) (VW mR mR) b5 b6 K2 hK2 _ 0 (Y9 _)
  have oc1:(owC a k (nth [] a.cd k).length).length=(nth [] a.cd k).length*1:=by simp[owC]
  have sc1:(skC a k (nth [] a.cd k).length).length=(nth [] a.cd k).length*1:=by simp[skC]
  have oc2:(oC a k).length=k*1:=by simp[oC]
  have sc2:(sC a k).length=k*1:=by simp[sC]
  refine AJ ?_;simp[EB,g,i1,i2,lm];refine lo (l1 _ _ (Du _ _ _ _ rfl) (Du _ _ _ _ rfl) _ fun s3 b3=>?_);obtain⟨s5,e5⟩:∃s,s=(wgA h 5).b k (oC a k):=⟨_,rfl⟩;obtain⟨s6,e6⟩:∃s,s=(wgA h 6).b k (sC a k):=⟨_,rfl⟩;obtain⟨s4,e4⟩:∃s,s=(wgA h 4).b (nth [] a.cd k).length (skC a k (nth [] a.cd k).length):=⟨_,rfl⟩
  obtain⟨s2,e2⟩:∃s,s=(wgA h 2).b (nth [] a.cd k).length (owC a k (nth [] a.cd k).length):=⟨_,rfl⟩
  have d1:∀s5 s6,∃s2':Nat×Bk,offB [h.length+2,h.length+3,h.length+4] s2'.2=true∧toD (wgH h a (grB h a k k) s2 s3 s4 s5 s6) ((wgA h 2).v (nth [] a.cd k).length (owC a k (nth [] a.cd k).length))=some (szL a.w.2 (jd a k),wgH h a (grB h a k k) s2' s3 s4 s5 s6):=fun s5 s6=>by
   obtain⟨fr,td⟩:=GP (wgA h 2) (h:=wgH h a (grB h a k k) s2 s3 s4 s5 s6) (L:=(nth [] a.cd k).length) (c:=owC a k (nth [] a.cd k).length) (by rw[e2];exact IM ..) oc1;rw[acp,if_neg aa,show(wgA h 2).s=h.length+2 from rfl,Vd]at td;exact⟨_,rfl,td⟩
  have d2:∀s2 s5 s6,∃s4':Nat×Bk,offB [h.length+2,h.length+3,h.length+4] s4'.2=true∧toD (wgH h a (grB h a k k) s2 s3 s4 s5 s6) ((wgA h 4).v (nth [] a.cd k).length (skC a k (nth [] a.cd k).length))=some (C6 a.w.2 (ma a k),wgH h a (grB h a k k) s2 s3 s4' s5 s6):=fun s2 s5 s6=>by
   obtain⟨fr,td⟩:=GP (wgA h 4) (h:=wgH h a (grB h a k k) s2 s3 s4 s5 s6) (L:=(nth [] a.cd k).length) (c:=skC a k (nth [] a.cd k).length) (by rw[e4];exact IM ..) sc1;rw[ZG,if_neg aa,show(wgA h 4).s=h.length+4 from rfl,Vb]at td;exact⟨_,rfl,td⟩
  obtain⟨s2',o2,t2⟩:=d1 s5 s6;have li2:=M2 t2 (Ht ..);rw[<-e5,<-e6,<-e4,<-e2];simp;refine SF (ae9 ..) ?_;have wl1:=fun s2 s5 s6=>ael (a:=a) (h:=h) s2 s3 s4 s5 s6 k k
  have wl2:=fun s2 s5 s6=>aek (a:=a) (h:=h) s2 s3 s4 s5 s6 k k
  have xl1:=fun s2 s5 s6=>(wW _ _ _ _ _).symm.trans (wl1 s2 s5 s6)
  have xl2:=fun s2 s5 s6=>(wW _ _ _ _ _).symm.trans (wl2 s2 s5 s6)
  simp[xl1,wl1,li2];refine Qq (by grind[aem]) ?_;have ap5:=fun(q:kkQ)(u:PU q) hq=>D7 (wgA h 5) (L:=k) (k:=1) (by_:=24) (cells:=oC a k) (cs:=[szL a.w.2 (jd a k)]) (h:=wgH h a (grB h a k k) s2' s3 s4 s5 s6) (y:=.d (.sl 1 [szL a.w.2 (jd a k)])) (q:=q) (u:=u) aa (by rw[e5];exact IM ..) oc2 rfl rfl (fun t e=>by cases e) aa (by show 0<1;decide) hq
  rw[<-acz,show(wgA h 5).s=h.length+5 from rfl,Va]at ap5;refine ap5 _ .mk ?_;obtain⟨s4',o4,t4⟩:=d2 s2' ((wgA h 5).b (k+1) (oC a (k+1))) s6;have li4:=M2 t4 (Ht ..);obtain⟨s5',e5'⟩:∃s,s=(wgA h 5).b (k+1) (oC a (k+1)):=⟨_,rfl⟩;obtain⟨v5',ev5⟩:∃v,v=(wgA h 5).v (k+1) (oC a (k+1)):=⟨_,rfl⟩;rw[<-e5']at li4 ⊢;rw[<-ev5];simp;refine SF (aei ..) ?_;simp[xl2,wl2,li4]
  have ap6:=fun(q:kkQ)(u:PU q) hq=>D7 (wgA h 6) (L:=k) (k:=1) (by_:=24) (cells:=sC a k) (cs:=[C6 a.w.2 (ma a k)]) (h:=wgH h a (grB h a k k) s2' s3 s4' s5' s6) (y:=.d (.sl 1 [C6 a.w.2 (ma a k)])) (q:=q) (u:=u) aa (by rw[e6];exact IM ..) sc2 rfl rfl (fun t e=>by cases e) aa (by show 0<1;decide) hq
  rw[<-acd,show(wgA h 6).s=h.length+6 from rfl,U9]at ap6;refine ap6 _ .mk ?_;obtain⟨s6',e6'⟩:∃s,s=(wgA h 6).b (k+1) (sC a (k+1)):=⟨_,rfl⟩;obtain⟨v6',ev6⟩:∃v,v=(wgA h 6).v (k+1) (sC a (k+1)):=⟨_,rfl⟩;rw[<-e6',<-ev6];have w1:st (wgH h a (grB h a k k) s2' s3 s4' s5' s6') 1 (.ptr (h.length+1) 1 1 3) v5'=some (wgH h a (grB h a (k+1) k) s2' s3 s4' s5' s6'):=by rw[ev5];exact aeh ..
  have w2:st (wgH h a (grB h a (k+1) k) s2' s3 s4' s5' s6') 1 (.ptr (h.length+1) 1 2 3) v6'=some (wgH h a (grB h a (k+1) (k+1)) s2' s3 s4' s5' s6'):=by rw[ev6];exact aeg ..
  simp(disch:=try exact zN)[w1,w2];have o5:offB [h.length+2,h.length+3,h.length+4] s5'.2=true:=by rw[e5'];exact Du _ _ _ _ rfl
  have o6:offB [h.length+2,h.length+3,h.length+4] s6'.2=true:=by rw[e6'];exact Du _ _ _ _ rfl
  refine⟨Sk mR hu rfl (VW mR mR) o2 b3 o4 o5 o6,?_⟩;unfold wgK at ih ⊢;rw[YG,e5',e6'];exact ih
theorem YI(G:dX a)(hu:(h.all fun x=>gM h.length x.2)=true):CI Y F.B9 [.agg (adC a)] h (.tup [.tup [.new 1 (gD a.p (C6 a.w.2 (hO a)) (EQ a.w.2 (mb a))) true 0 0],I 0]) h:=by
 refine LE ?_;have rt:=G.roots;have h5:=G.five;have hcl:=G.cl;have hlen:=G.wk.len;have hfew:=G.wk.few;obtain⟨n,hn⟩:∃n,a.cd.length=n+1:=⟨a.cd.length-1,aa⟩;have lc:fL (lst qb a.cd)=some (I a.cd.length):=rfl
 have bx:∀(k:kkQ)(u:PU k),rh (oR h.length (.agg (adC a)) (h++[nnQ,nnQ,nnQ,nnQ,nnQ,nnQ,nnQ])) k u=k (.ptr h.length 1 0 6) (wgH h a nnQ nnQ nnQ nnQ nnQ nnQ):=fun k u=>by
  refine PG (a:=a) h.length _ _ ?_ (e:=0) (b:=.none) mR k u;have:=RH h [(0,Bk.none),nnQ,nnQ,nnQ,nnQ,nnQ,nnQ] 0;rw[Nat.add_zero]at this;rw[this];have s:=Kc h [(0,Bk.none),nnQ,nnQ,nnQ,nnQ,nnQ,nnQ] 0 (1,.vars (adC a));trivial
 have l3:ldA (wgH h a nnQ nnQ nnQ nnQ nnQ nnQ) 3 (.ptr h.length 1 0 6)=some (.agg (wkC a.p a.ch a.lk)):=by
  have:=VV h [adB a,(0,Bk.none),nnQ,nnQ,nnQ,nnQ,nnQ] 3 0 1 0 6;rw[Nat.add_zero]at this;unfold wgH;rw[this];rfl
 have lp0:ld1 (wgH h a nnQ nnQ nnQ nnQ nnQ nnQ) (.ptr h.length 1 0 6)=some (lst di a.p):=by
  have:=Ol h [adB a,(0,Bk.none),nnQ,nnQ,nnQ,nnQ,nnQ] 0 1 0 6;rw[Nat.add_zero]at this;unfold wgH;rw[this];rfl
 have g1:(wgH h a nnQ nnQ nnQ nnQ nnQ nnQ)[h.length+1]?=some nnQ:=IM ..
 have eS:(wgH h a nnQ nnQ nnQ nnQ nnQ nnQ).set (h.length+1) (1,.vars [lst di a.p,.d nPQ,.d nPQ])=wgK h a 0 nnQ nnQ nnQ:=by
  unfold wgK wgH;rw[Kc];rfl
 have c3:=YH h a (grB h a 0 0) nnQ nnQ nnQ ((wgA h 5).b 0 (oC a 0)) ((wgA h 6).b 0 (sC a 0));have c3x:ld1 (wgK h a 0 nnQ nnQ nnQ) (.ptr h.length 1 3 6)=some (lst qb a.cd):=c3;have oc1:∀n,(oC a n).length=n*1:=fun n=>by simp[oC]
 have sc1:∀n,(sC a n).length=n*1:=fun n=>by simp[sC]
 have main:=ads (h:=h) G hu (exK [(Exit.exit 0,fun l16 h'=>pY h.length (V.tup [V.tup [V.new 1 (gD a.p (C6 a.w.snd (hO a)) (EQ a.w.snd (mb a))) true 0 0],I 0]) h (V.tup [.ptr (h.length+1) 1 0 3,I 0]) h'),
  (Exit.ret,fun l16 h'=>pY h.length (V.tup [V.tup [V.new 1 (gD a.p (C6 a.w.snd (hO a)) (EQ a.w.snd (mb a))) true 0 0],I 0]) h (V.tup [ge l16 0,ge l16 1]) h')]) (by
  have tk:∀s1 s2 s3 s4 s5 s6,(wgH h a s1 s2 s3 s4 s5 s6).take h.length=h:=fun _ _ _ _ _ _=>by simp[wgH]
  obtain⟨fr5,t5⟩:=GP (wgA h 5) (h:=wgK h a a.cd.length nnQ nnQ nnQ) (L:=a.cd.length) (c:=oC a a.cd.length) (IM ..) (oc1 _);rw[if_neg aa]at t5;unfold wgK at t5;rw[show(wgA h 5).s=h.length+5 from rfl,Va]at t5;obtain⟨s5,hs5⟩:∃s:Nat×Bk,s=((wgA h 5).e+1,.data (wgA h 5).n (oC a a.cd.length) false fr5):=⟨_,rfl⟩;rw[<-hs5]at t5
  obtain⟨fr6,t6⟩:=GP (wgA h 6) (h:=wgH h a (grB h a a.cd.length a.cd.length) nnQ nnQ nnQ s5 ((wgA h 6).b a.cd.length (sC a a.cd.length))) (L:=a.cd.length) (c:=sC a a.cd.length) (IM ..) (sc1 _);rw[if_neg aa,show(wgA h 6).s=h.length+6 from rfl,U9]at t6;obtain⟨s6,hs6⟩:∃s:Nat×Bk,s=((wgA h 6).e+1,.data (wgA h 6).n (sC a a.cd.length) false fr6):=⟨_,rfl⟩
  rw[<-hs6]at t6;have tp:∀H,toD H (lst di a.p)=some (row a.p,H):=fun _=>rfl
  have eo:D.sl a.cd.length (oC a a.cd.length)=C6 a.w.2 (hO a):=by
   simp only[C6,hO,List.length_map,Yo,Yg];rfl
  have es:D.sl a.cd.length (sC a a.cd.length)=EQ a.w.2 (mb a):=by
   simp only[EQ,mb,List.length_map,Yo,Yg];rfl
  refine⟨(tk ..).symm,hu,.inr (.inr (.inr (.inr (.inr ⟨h.length+1,1,[lst di a.p,(wgA h 5).v a.cd.length (oC a a.cd.length),(wgA h 6).v a.cd.length (sC a a.cd.length)],[row a.p,C6 a.w.2 (hO a),EQ a.w.2 (mb a)],wgH h a (grB h a a.cd.length a.cd.length) nnQ nnQ nnQ s5 s6,aa,?_,?_,?_,?_,?_⟩))))⟩
  .unfold wgK wgH;rw[Hm];rfl
  .simp_all[wgK,eA]
  .unfold wgH;rw[Hm];rfl
  .grind[wgK]
  .exact .inr ⟨_,rfl,rfl⟩)
 simp[B9,bx,l3];refine cd rt ?_;simp[lp0,g1,eS,c3x,lc];exact main _ 0 (Y9 _)
theorem Ky{B:Nat}(h:bdN B r)(hc:B<=C):bdN C r:=fun x hx=>Zq (h x hx) hc
theorem Il{p:LiQ}{B:Nat}{l:LLQ}(h:okR p B l)(hc:B<=C):okR p C l:=fun r hr=>⟨(h r hr).1,Ky (h r hr).2 hc⟩
section
variable{p:LiQ}{b:Nat}
theorem Vz{B:Nat}(G:Ac p b B){bs:LLQ}(hb:okR p B bs)(hb0:0<bs.length):∀(o:LLQ)(ss:List LLQ),okR p B o->(∀s∈ss,0<s.length∧okR p B s)->okR p (B+B+B) (wg p o ss bs)
 |[],_,_,_=>fun r hr=>by trivial
 |o::os,[],_,_=>fun r hr=>by trivial
 | o::os,s::ss,ho,hs=>by
  obtain⟨x,m1,m2,m3⟩:=Ry G (ho o mR) s bs none (hs s mR).2 hb (fun _ h=>by cases h) (.inr ⟨(hs s mR).1,hb0⟩);have ih:=Vz G hb hb0 os ss (fun r hr=>ho r (by grind)) (fun r hr=>hs r (by grind));intro r hr;simp only[wg,m1,Option.getD_some,Zs]at hr;rcases hr with rfl|hr
  .trivial
  .exact ih r hr
structure rD(p:LiQ)(b B:Nat)(owns:List LLQ)(steps:List (List LLQ)):Prop where
 hp:pcS p
 b0:0<b
 b1:b<1000000
 ne:0<owns.length
 five:owns.length<=5
 B1:B<=2000000
 hl:steps.length=owns.length
 ho:∀o∈owns,0<o.length∧o.length<1000000∧okR p B o
 hs:∀k,k+1<owns.length->(nth [] steps k).length=(nth [] owns k).length∧∀ss∈nth [] steps k,ss.length=(nth [] owns (k+1)).length∧okR p B ss
variable{B:Nat}{owns:List LLQ}{steps:List (List LLQ)}
def p3:Nat->Nat
 |0=>1
 |n+1=>p3 n+p3 n+p3 n
theorem wu(h:n<=4):p3 n<=81:=by have:n=0∨n=1∨n=2∨n=3∨n=4:=aa;rcases this with rfl|rfl|rfl|rfl|rfl<;>decide
theorem aas:∀n,1<=p3 n
 |0=>Z5 _
 |n+1=>by have:=aas n;grind[p3]
theorem rD.gr(P:rD p b B owns steps)(h:n<=4):Ac p b (B*p3 n):=
 ⟨P.hp,P.b0,P.b1,by have h1:=Yw P.B1 (wu h);omega⟩
theorem rD.rests(P:rD p b B owns steps):∀(d m:Nat),m+d+1=owns.length->∀r∈me p (owns.drop m) (steps.drop m),0<r.length∧r.length<1000000∧okR p (B*p3 d) r
 | 0,m,hm=>by
  have hml:m<owns.length:=aa;have e1:owns.drop m=[nth [] owns m]:=by rw[Y2 hml,dM _ _ _ hml,List.drop_of_length_le aa]
  rw[e1];intro r hr;have:me p [nth [] owns m] (steps.drop m)=[nth [] owns m]:=by cases steps.drop m<;>rfl
  rw[this,List.mem_singleton]at hr;subst hr;have:=P.ho _ (BD (d:=[]) hml)
  grind[p3]
 | d+1,m,hm=>by
  have five:=P.five;have hml:m<owns.length:=aa;have hml1:m+1<owns.length:=aa;have hl:=P.hl;have e1:owns.drop m=nth [] owns m::nth [] owns (m+1)::owns.drop (m+1+1):=by rw[Y2 hml,dM _ _ _ hml,Y2 hml1,dM _ _ _ hml1]
  have e1':owns.drop (m+1)=nth [] owns (m+1)::owns.drop (m+1+1):=by rw[Y2 hml1,dM _ _ _ hml1]
  have e2:steps.drop m=nth [] steps m::steps.drop (m+1):=by rw[Y2 aa,dM _ _ _ aa]
  have ih:=P.rests d (m+1) aa;rw[e1,e2];simp only[me];rw[<-e1'];obtain⟨hd,tl,ht⟩:=Nz p (nth [] owns (m+1)) (owns.drop (m+1+1)) (steps.drop (m+1));rw[<-e1']at ht;rw[ht]at ih ⊢;obtain⟨h1,h2,h3⟩:=ih hd mR;obtain⟨o1,o2,o3⟩:=P.ho _ (BD (d:=[]) hml);obtain⟨o1',_⟩:=P.ho _ (BD (d:=[]) hml1);obtain⟨s1,s2⟩:=P.hs m hml1
  have hB1:B<=B*p3 d:=by have:=Zr B (aas d);omega
  have rk:=Vz (P.gr (n:=d) aa) h3 h1 (nth [] owns m) (nth [] steps m) (Il o3 hB1) (fun s hs=>⟨by grind,Il (s2 s hs).2 hB1⟩);have rl:=Kj p (nth [] owns m) (nth [] steps m) hd s1;have e3:B*p3 (d+1)=B*p3 d+B*p3 d+B*p3 d:=by simp only[p3,Y4]
  grind[Il]
theorem rD.le(P:rD p b B owns steps){d:Nat}(h:d<=4):B*p3 d<=200000000:=by have h1:=Yw P.B1 (wu h);omega
theorem rD.cost(P:rD p b B owns steps):Ae p b 200000000 owns steps:=by
 have hB:=P.B1;have five:=P.five;refine⟨⟨P.hp,P.b0,P.b1,AF⟩,P.ne,P.hl,aa,fun o h=>?_,fun k hk=>?_,fun m hm r hr=>?_⟩
 .obtain⟨h1,h2,h3⟩:=P.ho o h;exact⟨h1,h2,Il h3 aa⟩
 .obtain⟨h1,h2⟩:=P.hs k hk;exact⟨h1,fun ss h=>⟨(h2 ss h).1,Il (h2 ss h).2 aa⟩⟩
 .obtain⟨h1,h2,h3⟩:=P.rests (owns.length-1-m) m aa r hr;exact⟨h2,Il h3 (P.le aa)⟩
end
variable{a:Ad}
theorem fJ{α:Type}(d:α)(f:Nat->α)(h:i<n):nth d ((List.range n).map f) i=f i:=by grind[dM]
theorem dX.pre(G:dX a):rD a.p a.w.2 1920000 (hO a) (mb a):=by
 obtain⟨w1,w2,w3,w4⟩:=G.w0;have h5:=G.five;have hcl:=G.cl;have hlen:=G.wk.len;refine⟨G.hp,w1.1,aa,by grind[hO],by grind[hO],aa,by simp[hO,mb],fun o h=>?_,fun k hk=>?_⟩
 .simp only[hO,Zi,Zb]at h;obtain⟨k,hk,rfl⟩:=h;obtain⟨n1,n2⟩:=G.cn _ (BD (d:=[]) hk);refine⟨by grind[jd],by grind[jd],fun r hr=>?_⟩
  grind[jd,ownW,Ky]
 .simp only[hO,List.length_map,Yo]at hk;unfold hO mb;rw[fJ _ _ (show k<a.cd.length by omega),fJ _ _ (show k<a.cd.length by omega),fJ _ _ hk];refine⟨by simp[ma,jd],fun ss hss=>?_⟩;simp only[ma,Zi,Zb]at hss;obtain⟨i,hi,rfl⟩:=hss;refine⟨by simp[Fs,jd],fun r hr=>?_⟩
  simp only[Fs,Zi,Zb]at hr;obtain⟨j,hj,rfl⟩:=hr;exact G.stepW (i:=k) aa hi hj
def grD(a:Ad):LdQ:=gD a.p (C6 a.w.2 (hO a)) (EQ a.w.2 (mb a))
theorem UY{h:Hp}(hu:(h.all fun x=>gM h.length x.2)=true){l:List Q}(hl:0<l.length)(hb:l.length<1000000000):CI Y F.AM [szV l] h (.new 2 ((l.map tx).flatMap ub) false l.length l.length) h:=by
 refine FQ ?_;have fl:((l.map tx).flatMap ub).length=l.length*2:=by rw[CB ub Bp,List.length_map]
 have e:szV l=.d (.sl l.length ((l.map tx).flatMap ub)):=by unfold szV sk;rw[List.length_map]
 rw[e];generalize(l.map tx).flatMap ub=cells at *
 have nl:∀(H:Hp)(k:V->Prop)(u:PU k),rn (oA H .eql (.d (.sl l.length cells)) (.d nPQ)) k u=k (.d (.bool false)):=fun H k u=>by
  obtain⟨m,hm⟩:∃m,l.length=m+1:=⟨l.length-1,aa⟩;rw[hm];rfl
 simp[AM,nl]
 have hli:BS 0 [D.str [],D.str []] [] (h++[(0,Bk.none),(0,Bk.none)])=some ([],h++[(0,Bk.none),(0,Bk.none)]):=by
  simp[BS,cY,eA]
 rw[hli];simp;refine K5 (z:=[]) AF hl aa aa ?_;refine⟨mR,?_,.inr (.inr (.inl ⟨h.length+1,1,l.length,l.length,2,cells,false,mR,aa,by simp[aj],rfl⟩))⟩;simp only[Yb,hu,Yv]
 try simp[gM]
def QV(p:LiQ)(cs:LLQ):Nat->Nat->LLQ->Nat
 |b,_,[]=>b
 |b,i,c::q=>QV p cs (if wI p c<wI p (nth [] cs b)then i else b) (i+1) q
def Qg(p:LiQ)(cs:LLQ):Nat:=QV p cs 0 0 cs
theorem TX{p:LiQ}{cs:LLQ}:∀(q:LLQ)(b i:Nat),b<cs.length->i+q.length<=cs.length->QV p cs b i q<cs.length
 |[],b,i,hb,_=>hb
 | c::q,b,i,hb,hi=>by
  simp only[List.length_cons]at hi;simp only[QV];refine TX q _ _ ?_ aa
  grind
theorem Wc{p:LiQ}(h:0<cs.length):Qg p cs<cs.length:=TX cs 0 0 h aa
def rA(a:Ad):List LLQ:=me a.p (hO a) (mb a)
def Ix:Acc:=⟨2,0,1,.none⟩
def Hq:Acc:=⟨3,0,1,.none⟩
def bsH(a:Ad)(s2 s3:Nat×Bk):Hp:=[adB a,(1,.data 1 (grD a) false true),s2,s3,nnQ]
theorem ad7{p:LiQ}{b Bd:Nat}(hp:pcS p)(b0:0<b)(b1:b<1000000)(hB:Bd<1000000000000)(a:Ad)(O St:D)(eg:grD a=gD p O St){cs:LLQ}(hc:okR p Bd cs)(h0:0<cs.length)(hN:cs.length<1000000)(s3:Nat×Bk)(H0:Hp)(hh:H0.length=5)(K:KL) :
  ∀(q d:LLQ)(m:Nat),d++q=cs->m<cs.length ->
  K (.exit 4) [I (QV p cs m d.length q)] (bsH a (Ix.b cs.length (cs.map (szE b))) s3) ->
  lp (EZ (CX Y) (.ptr 1 1 0 3) (Ix.v cs.length (cs.map (szE b))) (I cs.length)) [] H0 [I m,I d.length] (bsH a (Ix.b cs.length (cs.map (szE b))) s3) K
 | [],d,m,hd,hm,hK=>by
  have e:d.length=cs.length:=by rw[<-hd];simp
  refine AJ ?_;simp[EZ,e];exact hK
 | c::q,d,m,hd,hm,hK=>by
  have e1:cs.length=d.length+(q.length+1):=by rw[<-hd];simp
  have rc:=hc c (by grind);have rm:=hc _ (BD (d:=[]) hm);have hnc:nth [] cs d.length=c:=by rw[<-hd,nr]
  have le:=Tt hp O St b0 b1 rc.1 rm.1 rc.2 rm.2 hB hB;rw[<-eg]at le;obtain⟨n,hn⟩:∃n,cs.length=n+1:=⟨cs.length-1,aa⟩;have hs:(bsH a (Ix.b cs.length (cs.map (szE b))) s3)[2]?=some (1,.data 1 (cs.map (szE b)) false false):=by rw[hn];rfl
  have hv:Ix.v cs.length (cs.map (szE b))=.ref 2 1 0 cs.length cs.length cs.length:=by
   have:(cs.map (szE b)).length=cs.length:=List.length_map _
   conv=>lhs;rw[hn]
   simp only[Acc.v,Ix,this,hn]
  have x1:=ixB (f:=szE b) hs rfl (i:=d.length) aa .i64;have x2:=ldB (f:=szE b) [] hs rfl (i:=d.length) aa;rw[hnc]at x2;have y1:=ixB (f:=szE b) hs rfl (i:=m) hm .i64;have y2:=ldB (f:=szE b) [] hs rfl (i:=m) hm
  have ih:=ad7 hp b0 b1 hB a O St eg hc h0 hN s3 H0 hh K q (d++[c]) (if wI p c<wI p (nth [] cs m)then d.length else m) (by grind) (by split<;>omega) (by
   have e:(d++[c]).length=d.length+1:=mR;rw[e];exact hK)
  have e3:((d++[c]).length:Int)=(d.length:Int)+1:=mR;rw[e3]at ih;have sn:AT (bsH a (Ix.b cs.length (cs.map (szE b))) s3) [.ptr 1 1 0 3,.d (szE b c),.d (szE b (nth [] cs m))]=some ([.dptr (grD a) 0,.d (szE b c),.d (szE b (nth [] cs m))],bsH a (Ix.b cs.length (cs.map (szE b))) s3):=by rfl
  have hre:aL [] 0 H0 (bsH a (Ix.b cs.length (cs.map (szE b))) s3)=bsH a (Ix.b cs.length (cs.map (szE b))) s3:=ua 0 H0 _ (by rw[hh];rfl);rw[hv]at ih ⊢;generalize bsH a (Ix.b cs.length (cs.map (szE b))) s3=H at *
  have xe:∀(i:Nat),ixX (bB H 2 1) 1 2 1 0 cs.length cs.length (i:Int)=ixV H 1 (.ref 2 1 0 cs.length cs.length cs.length) (I i):=fun i=>by
   rfl
  have x1':=(xe _).trans x1;have y1':=(xe _).trans y1;have x2':=(wW _ _ _ _ _).symm.trans x2;have y2':=(wW _ _ _ _ _).symm.trans y2;have g:(d.length:Int)<cs.length:=aa;refine AJ ?_;simp[EZ,g];refine AN ?_;simp[x1,x1',x2,x2',y1,y1',y2,y2'];refine cdz sn le ?_;rw[show ∀x:Bool,cj (B x)=true from fun _=>rfl,if_pos rfl];by_cases gw:wI p c<wI p (nth [] cs m)
  .rw[if_pos gw]at ih;simp[gw];refine AN ?_;simp(disch:=try exact zN)[hre];exact ih
  .rw[if_neg gw]at ih;simp[gw];refine AN ?_;simp(disch:=try exact zN)[hre];exact ih
theorem Qx(p:LiQ):∀(m:Nat)(l:List LLQ)(s:List (List LLQ)),m<l.length->l.length<=s.length->nth [] (me p l s) m=(me p (l.drop m) (s.drop m)).headD []
 | 0,l,s,_,_=>by
  rw[Y0,Y0];cases me p l s<;>rfl
 |m+1,[],s,h,_=>by rfl
 |m+1,[o],s,h,_=>by simp at h
 |m+1,o::o2::os,[],_,h=>by simp at h
 | m+1,o::o2::os,ss::sss,h,h2=>by
  have:=Qx p m (o2::os) sss (by grind) (by grind);trivial
section
variable{p:LiQ}{b B:Nat}{owns:List LLQ}{steps:List (List LLQ)}
theorem rD.rest_at(P:rD p b B owns steps){m:Nat}(hm:m<owns.length):(nth [] (me p owns steps) m).length=(nth [] owns m).length∧okR p 200000000 (nth [] (me p owns steps) m):=by
 have hl:=P.hl;have five:=P.five;have mem:nth [] (me p owns steps) m∈me p owns steps:=BD (d:=[]) (by grind[Gb]);refine⟨?_,?_⟩
 .rw[Qx p m owns steps hm aa];by_cases h1:m+1<owns.length
  .have e1:owns.drop m=nth [] owns m::nth [] owns (m+1)::owns.drop (m+1+1):=by rw[Y2 hm,dM _ _ _ hm,Y2 h1,dM _ _ _ h1]
   have e2:steps.drop m=nth [] steps m::steps.drop (m+1):=by rw[Y2 aa,dM _ _ _ aa]
   grind[me,Kj,hs]
  .have e1:owns.drop m=[nth [] owns m]:=by rw[Y2 hm,dM _ _ _ hm,List.drop_of_length_le aa]
   rw[e1];rfl
 .have:=P.rests (owns.length-1) 0 aa;rw[Y0,Y0]at this;exact Il (this _ mem).2.2 (P.le aa)
theorem ab2(hx:x.length=p.length∧bdN Bd x)(hy:y.length=p.length∧bdN Bd y):
  (rI (List.replicate p.length 0) [x,y]).length=p.length∧bdN (Bd+Bd) (rI (List.replicate p.length 0) [x,y]):=by simp only[rI];rw[H7 1 hx.1,Rz];exact⟨by rw[kf _ aa,hx.1],lN hx.2 hy.2⟩
end
theorem KT(a:Ad):(hO a).length=a.cd.length:=by simp[hO]
theorem OK(a:Ad):(mb a).length=a.cd.length:=by simp[mb]
theorem aat(hk:k<a.cd.length):nth [] (hO a) k=jd a k:=by grind[hO,fJ]
theorem WJ(hk:k<a.cd.length):nth [] (mb a) k=ma a k:=by grind[mb,fJ]
theorem WI(hi:i<(nth [] a.cd k).length):nth [] (ma a k) i=Fs a k i:=by grind[ma,fJ]
theorem WH(hj:j<(nth [] a.cd (k+1)).length):nth [] (Fs a k i) j=stW a k i j:=by grind[Fs,fJ]
theorem VE(G:dX a)(hk:k<a.cd.length):(nth [] (rA a) k).length=(nth [] a.cd k).length∧okR a.p 200000000 (nth [] (rA a) k):=by
 obtain⟨h1,h2⟩:=G.pre.rest_at (m:=k) (by grind[KT])
 grind[rA,aat,jd]
def cst(a:Ad)(k c i:Nat):LiQ:=if k=0 then nth [] (nth [] (rA a) k) i else rI (List.replicate a.p.length 0) [stW a (k-1) c i,nth [] (nth [] (rA a) k) i]
def csC(a:Ad)(k c n:Nat):LdQ:=(List.range n).map fun i=>szE a.w.2 (cst a k c i)
theorem abm(a:Ad)(k c n:Nat):csC a k c (n+1)=csC a k c n++[szE a.w.2 (cst a k c n)]:=by simp[csC,Yp]
theorem aeV(G:dX a){c:Nat}(hk:k<a.cd.length)(hc:k=0∨c<(nth [] a.cd (k-1)).length)(hi:i<(nth [] a.cd k).length):(cst a k c i).length=a.p.length∧bdN 400000000 (cst a k c i):=by
 obtain⟨r1,r2⟩:=VE G hk;have hcl:=G.cl;have hlen:=G.wk.len;have rr:=r2 _ (BD (d:=[]) (show i<(nth [] (rA a) k).length by omega));unfold cst;by_cases h:k=0
 .grind[Ky]
 .rw[if_neg h];obtain⟨m,rfl⟩:∃m,k=m+1:=⟨k-1,aa⟩;have:=G.stepW (i:=m) (f:=c) (t:=i) aa (hc.resolve_left h) hi;exact ab2 (Bd:=200000000) ⟨this.1,Ky this.2 aa⟩ rr
theorem Tl(A:Acc)(L:Nat)(c:LdQ):fL (A.v L c)=some (I L):=by cases L<;>rfl
theorem ad8(G:dX a){k c:Nat}(hk:k<a.cd.length)(hc:k=0∨c<(nth [] a.cd (k-1)).length){ch:V}{s3:Nat×Bk}(hch:0<k->∀s2,∃w,ixV (bsH a s2 s3) 1 ch (I ((k:Int)-1))=some w∧ld1 (bsH a s2 s3) w=some (I c))(H0:Hp)(hh:H0.length=5)(K:KL) :
  ∀(m i:Nat),i+m=(nth [] a.cd k).length->K (.exit 2) [ch,Ix.v (nth [] a.cd k).length (csC a k c (nth [] a.cd k).length)] (bsH a (Ix.b (nth [] a.cd k).length (csC a k c (nth [] a.cd k).length)) s3) ->
  lp (D5 (CX Y) (.ptr 1 1 0 3) (I k) (.d (szL a.w.2 (nth [] (rA a) k))) (I (nth [] a.cd k).length)) [] H0 [ch,Ix.v i (csC a k c i),I i] (bsH a (Ix.b i (csC a k c i)) s3) K
 | 0,i,hi,hK=>by
  have ei:(nth [] a.cd k).length=i:=aa;rw[ei]at hK ⊢;refine AJ ?_;simp[D5];exact hK
 | m+1,i,hi,hK=>by
  have h5:=G.five;have hcl:=G.cl;have hlen:=G.wk.len;obtain⟨w1,w2,w3,w4⟩:=G.w0;have hn20:(nth [] a.cd k).length<=20:=(G.cn _ (BD (d:=[]) hk)).2;obtain⟨r1,r2⟩:=VE G hk;have ih:=ad8 G hk hc hch H0 hh K m (i+1) aa hK;rw[abm]at ih
  have i1:∀H:Hp,ixV H 1 (.d (szL a.w.2 (nth [] (rA a) k))) (I i)=some (.dptr ((nth [] (rA a) k).map fun r=>szD (szI a.w.2 r)) i):=fun H=>qw (fun r=>szD (szI a.w.2 r)) _ H rfl aa
  have i2:∀H:Hp,ld1 H (.dptr ((nth [] (rA a) k).map fun r=>szD (szI a.w.2 r)) i)=some (szV (szI a.w.2 (nth [] (nth [] (rA a) k) i))):=fun H=>jO (fun r=>szD (szI a.w.2 r)) [] _ H aa
  have g:(i:Int)<(nth [] a.cd k).length:=aa;have c1:(csC a k c i).length=i*1:=by simp[csC]
  have li:∀x H,BS 1 [nPQ] [(0,szV (szI a.w.2 x))] H=some ([szE a.w.2 x],H):=fun x H=>by
   rfl
  have hre:∀s,aL [] 0 H0 (bsH a s s3)=bsH a s s3:=fun s=>ua 0 H0 _ (by rw[hh];rfl)
  have g2:biI .add (I i) (.d (.int .i64 1))=some (I ((i+1:Nat):Int)):=LO aa
  have fin:∀(q:kkQ)(u:PU q),q (Ix.v (i+1) (csC a k c i++[szE a.w.2 (cst a k c i)])) (bsH a (Ix.b (i+1) (csC a k c i++[szE a.w.2 (cst a k c i)])) s3)->rh (apV false 2 1 24 (Ix.v i (csC a k c i)) (.d (.sl 1 [szE a.w.2 (cst a k c i)])) (bsH a (Ix.b i (csC a k c i)) s3)) q u:=fun q u hq=>
   D7 Ix (L:=i) (k:=1) (cells:=csC a k c i) (cs:=[szE a.w.2 (cst a k c i)]) aa rfl c1 rfl rfl (fun t e=>by cases e) aa AF hq
  obtain⟨s2,hs2⟩:∃s,s=Ix.b i (csC a k c i):=⟨_,rfl⟩;obtain⟨v2,hv2⟩:∃s,s=Ix.v i (csC a k c i):=⟨_,rfl⟩;rw[<-hs2,<-hv2]at fin ⊢;refine AJ ?_;by_cases h0:k=0
  .subst h0;have ec:cst a 0 c i=nth [] (nth [] (rA a) 0) i:=rfl;rw[ec]at fin ih;simp[D5,g,i1,i2];refine AN ?_;simp[li]
   simp_all
  .obtain⟨l,rfl⟩:∃l,k=l+1:=⟨k-1,aa⟩;have hcl':c<(nth [] a.cd l).length:=hc.resolve_left h0;have hl:l<a.cd.length:=aa;have ec:cst a (l+1) c i=rI (List.replicate a.p.length 0) [stW a l c i,nth [] (nth [] (rA a) (l+1)) i]:=rfl;have sw:=G.stepW (i:=l) (f:=c) (t:=i) aa hcl' aa;have rr:=r2 _ (BD (d:=[]) (show i<(nth [] (rA a) (l+1)).length by omega))
   have ga:=VZ G.hp (C6 a.w.2 (hO a)) (EQ a.w.2 (mb a)) w1.1 aa (B:=200000000) aa (m:=[stW a l c i,nth [] (nth [] (rA a) (l+1)) i]) (fun d hd=>by
    grind[Ky]) mR
   rw[<-ec]at ga;obtain⟨w,x1,x2⟩:=hch aa s2;have el:((l+1:Nat):Int)-1=(l:Int):=aa;rw[el]at x1;have f2:ld1 (bsH a s2 s3) (.ptr 1 1 2 3)=some (.d (EQ a.w.2 (mb a))):=rfl;have f2':=(wW _ _ _ _ _).symm.trans f2;have j1:∀H:Hp,ixV H 1 (.d (EQ a.w.2 (mb a))) (I l)=some (.dptr ((mb a).map (C6 a.w.2)) l):=fun H=>qw (C6 a.w.2) _ H rfl (by grind[OK])
   have j2:∀H:Hp,ld1 H (.dptr ((mb a).map (C6 a.w.2)) l)=some (.d (C6 a.w.2 (ma a l))):=fun H=>by rw[jO (C6 a.w.2) [] _ H (by grind[OK]),WJ hl]
   have j3:∀H:Hp,ixV H 1 (.d (C6 a.w.2 (ma a l))) (I c)=some (.dptr ((ma a l).map (szL a.w.2)) c):=fun H=>qw (szL a.w.2) _ H rfl (by grind[ma])
   have j4:∀H:Hp,ld1 H (.dptr ((ma a l).map (szL a.w.2)) c)=some (.d (szL a.w.2 (Fs a l c))):=fun H=>by rw[jO (szL a.w.2) [] _ H (by grind[ma]),WI hcl']
   have j5:∀H:Hp,ixV H 1 (.d (szL a.w.2 (Fs a l c))) (I i)=some (.dptr ((Fs a l c).map fun r=>szD (szI a.w.2 r)) i):=fun H=>qw (fun r=>szD (szI a.w.2 r)) _ H rfl (by grind[Fs])
   have j6:∀H:Hp,ld1 H (.dptr ((Fs a l c).map fun r=>szD (szI a.w.2 r)) i)=some (szV (szI a.w.2 (stW a l c i))):=fun H=>by rw[jO (fun r=>szD (szI a.w.2 r)) [] _ H (by grind[Fs]),WH aa];rfl
   have li3:∀H,BS 2 [nPQ] [(0,szV (szI a.w.2 (stW a l c i))),(1,szV (szI a.w.2 (nth [] (nth [] (rA a) (l+1)) i)))] H=some ([szD (szI a.w.2 (stW a l c i)),szD (szI a.w.2 (nth [] (nth [] (rA a) (l+1)) i))],H):=fun H=>by
    rfl
   have sn:AT (bsH a s2 s3) [.ptr 1 1 0 3,.d (.sl 2 [szD (szI a.w.2 (stW a l c i)),szD (szI a.w.2 (nth [] (nth [] (rA a) (l+1)) i))])]=some ([.dptr (gD a.p (C6 a.w.2 (hO a)) (EQ a.w.2 (mb a))) 0,lst szD ([stW a l c i,nth [] (nth [] (rA a) (l+1)) i].map (szI a.w.2))],bsH a s2 s3):=by rfl
   have gl:(0:Int)<((l+1:Nat):Int):=aa;simp[D5,g,gl,i1,i2];refine AN ?_;simp(disch:=try exact zN)[el,f2,f2',j1,j2,x1,x2,j3,j4,j5,j6,li3];refine cdx sn ga ?_;simp;simp[li]
   simp_all
def IZ(a:Ad)(k c:Nat):LLQ:=(List.range (nth [] a.cd k).length).map (cst a k c)
theorem aeW(a:Ad)(k c:Nat):(IZ a k c).map (szE a.w.2)=csC a k c (nth [] a.cd k).length:=by simp[IZ,csC]
def NH(a:Ad):Nat->Nat->Nat->LnQ
 |0,_,_=>[]
 |m+1,k,c=>Qg a.p (IZ a k c)::NH a m (k+1) (Qg a.p (IZ a k c))
def Fo(a:Ad):LnQ:=NH a a.cd.length 0 0
def dn(n:Nat):D:=di (n:Int)
theorem aeI(z:Int)(H:Hp):BS 1 [D.int IntKind.i64 0] [(0,I z)] H=some ([di z],H):=by rfl
theorem ad9(G:dX a)(H0:Hp)(hh:∃s3,H0=bsH a nnQ s3)(K:KL) :
  ∀(m:Nat)(cs:LnQ)(c:Nat),cs.length+m=a.cd.length->(∀x l,cs=l++[x]->x=c)->(0<cs.length->c<(nth [] a.cd (cs.length-1)).length) ->
  (K (.exit 0) [Hq.v a.cd.length ((cs++NH a m cs.length c).map dn)] (bsH a nnQ (Hq.b a.cd.length ((cs++NH a m cs.length c).map dn)))) ->
  lp (E0 (CX Y) (.ptr 1 1 0 3) (.d (C6 a.w.2 (rA a))) (I (rA a).length)) [2] H0 [Hq.v cs.length (cs.map dn),I cs.length] (bsH a nnQ (Hq.b cs.length (cs.map dn))) K
 | 0,cs,c,hk,_,_,hK=>by
  have hr:(rA a).length=a.cd.length:=by unfold rA;rw[Gb,KT]
  have e:(rA a).length=cs.length:=aa;simp only[NH,Yf]at hK;have e2:a.cd.length=cs.length:=aa;rw[e2]at hK;rw[e];refine AJ ?_;simp[E0];exact hK
 | m+1,cs,c,hk,hc1,hc2,hK=>by
  have hr:(rA a).length=a.cd.length:=by unfold rA;rw[Gb,KT]
  have h5:=G.five;have hcl:=G.cl;have hkc:cs.length<a.cd.length:=aa;obtain⟨w1,w2,w3,w4⟩:=G.w0;obtain⟨n0,hn20⟩:=G.cn _ (BD (d:=[]) hkc);obtain⟨r1,r2⟩:=VE G hkc
  have hcc:cs.length=0∨c<(nth [] a.cd (cs.length-1)).length:=by
   by_cases h:cs.length=0
   .omega
   .exact .inr (hc2 aa)
  have i1:∀H:Hp,ixV H 1 (.d (C6 a.w.2 (rA a))) (I cs.length)=some (.dptr ((rA a).map (szL a.w.2)) cs.length):=fun H=>qw (szL a.w.2) _ H rfl aa
  have i2:∀H:Hp,ld1 H (.dptr ((rA a).map (szL a.w.2)) cs.length)=some (.d (szL a.w.2 (nth [] (rA a) cs.length))):=fun H=>jO (szL a.w.2) [] _ H aa
  have lm:fL (.d (szL a.w.2 (nth [] (rA a) cs.length)))=some (I (nth [] a.cd cs.length).length):=by rw[<-r1];rfl
  have g:(cs.length:Int)<(rA a).length:=aa;have ckl:(IZ a cs.length c).length=(nth [] a.cd cs.length).length:=by simp[IZ]
  have hlt:=Wc (p:=a.p) (cs:=IZ a cs.length c) aa;have l1:=fun(ch:V)(s3:Nat×Bk) (hch) (K2)=>ad8 G hkc hcc (ch:=ch) (s3:=s3) hch (bsH a nnQ s3) rfl K2 (nth [] a.cd cs.length).length 0 (Y9 _)
  have okc:okR a.p 400000000 (IZ a cs.length c):=fun r hr=>by
   grind[IZ,aeV]
  have l2:=fun(s3:Nat×Bk)(H:Hp)(hH:H.length=5)(K2:KL)=>ad7 G.hp w1.1 aa (Bd:=400000000) aa a (C6 a.w.2 (hO a)) (EQ a.w.2 (mb a)) rfl okc aa aa s3 H hH K2 (IZ a cs.length c) [] 0 rfl aa
  rw[ckl,aeW]at l2;have hl3:(cs.map dn).length=cs.length*1:=mR
  have hch:0<cs.length->∀s2,∃w,ixV (bsH a s2 (Hq.b cs.length (cs.map dn))) 1 (Hq.v cs.length (cs.map dn)) (I ((cs.length:Int)-1))=some w∧ld1 (bsH a s2 (Hq.b cs.length (cs.map dn))) w=some (I c):=fun hp s2=>by
   obtain⟨n,hn⟩:∃n,cs.length=n+1:=⟨cs.length-1,aa⟩;have hs:(bsH a s2 (Hq.b cs.length (cs.map dn)))[3]?=some (1,.data 1 (cs.map dn) false false):=by rw[hn];rfl
   have hv:Hq.v cs.length (cs.map dn)=.ref 3 1 0 cs.length cs.length cs.length:=by
    have:(cs.map dn).length=cs.length:=List.length_map _
    conv=>lhs;rw[hn]
    simp only[Acc.v,Hq,this,hn]
   have x1:=ixB (f:=dn) hs rfl (i:=cs.length-1) aa .i64;have x2:=ldB (f:=dn) 0 hs rfl (i:=cs.length-1) aa
   have ec:nth 0 cs (cs.length-1)=c:=by
    have hne:cs≠[]:=by rintro rfl;simp at hp
    have e:cs=cs.dropLast++[cs.getLast hne]:=(List.dropLast_concat_getLast hne).symm;have e2:(cs.dropLast).length=cs.length-1:=List.length_dropLast;rw[<-hc1 _ _ e,<-e2]
    conv=>lhs;arg 2;rw[e]
    exact nr ..
   rw[ec]at x2;have ei:((cs.length-1:Nat):Int)=(cs.length:Int)-1:=aa;rw[ei]at x1;rw[hv];exact⟨_,x1,x2⟩
  have ih:=ad9 G H0 hh K m (cs++[Qg a.p (IZ a cs.length c)]) (Qg a.p (IZ a cs.length c)) (by grind) (fun x l e=>by
   grind [List.append_inj_right']) (fun _=>by simpa using by omega) (by
    have e:(cs++[Qg a.p (IZ a cs.length c)]).length=cs.length+1:=mR
    grind[NH])
  refine AJ ?_;simp[E0,g,i1,i2,lm];refine lo (l1 _ _ hch _ ?_);have la:fL (Ix.v (nth [] a.cd cs.length).length (csC a cs.length c (nth [] a.cd cs.length).length))=some (I (nth [] a.cd cs.length).length):=Tl ..;obtain⟨v3,hv3⟩:∃s,s=Hq.v cs.length (cs.map dn):=⟨_,rfl⟩;obtain⟨s3,hs3⟩:∃s,s=Hq.b cs.length (cs.map dn):=⟨_,rfl⟩
  have fin:∀(x:D)(s2:Nat×Bk)(q:kkQ)(u:PU q),q (Hq.v (cs.length+1) (cs.map dn++[x])) (bsH a s2 (Hq.b (cs.length+1) (cs.map dn++[x])))->rh (apV false 3 1 8 v3 (.d (.sl 1 [x])) (bsH a s2 s3)) q u:=fun x s2 q u hq=>by
   rw[hv3,hs3];exact D7 Hq (L:=cs.length) (k:=1) (cells:=cs.map dn) (cs:=[x]) aa rfl hl3 rfl rfl (fun t e=>by cases e) aa AF hq
  rw[<-hv3,<-hs3];simp[la];refine lo (l2 _ _ rfl _ ?_);simp[aeI];refine fin _ _ _ .mk ?_;have g2:biI .add (I cs.length) (.d (.int .i64 1))=some (I ((cs.length+1:Nat):Int)):=LO aa
  show bnd _ _
  rw[g2];obtain⟨y,rfl⟩:=hh;have o1:∀L c,E4 [2] (Hq.v L c)=true:=fun L c=>Io _ _ _ _ rfl
  have o3:∀L c,offB [2] (Hq.b L c).2=true:=fun L c=>Du _ _ _ _ rfl
  have oa:offB [2] (adB a).2=true:=rfl;refine⟨?_,?_⟩
  .rfl
  .have er:∀s2 s3,aL [2] 0 (bsH a nnQ y) (bsH a s2 s3)=bsH a nnQ s3:=fun _ _=>rfl
   rw[er];have ed:cs.map dn++[di (QV a.p (IZ a cs.length c) 0 0 (IZ a cs.length c):Nat)]=(cs++[Qg a.p (IZ a cs.length c)]).map dn:=by simp[dn,Qg]
   have el:(cs++[Qg a.p (IZ a cs.length c)]).length=cs.length+1:=mR
   grind
theorem QU(a:Ad):∀(m k c:Nat),(NH a m k c).length=m
 |0,_,_=>rfl
 |m+1,k,c=>by simp only[NH,List.length_cons,QU a m]
def Ge(a:Ad):LiQ:=nth [] (nth [] (rA a) 0) (nth 0 (Fo a) 0)
theorem ado(G:dX a):CP Y F.B7 [.agg (adC a)] (.tup [.d (.sl a.cd.length ((Fo a).map dn)),szV (szI a.w.2 (Ge a)),I 0]):=by
 refine IL ?_;have h5:=G.five;have hcl:=G.cl;have hlen:=G.wk.len;obtain⟨hin,hp0⟩:=Ei G.hp;have hNp:=hin.2.1;have ck:=G.check;have we:=YI G (h:=[adB a,nnQ,nnQ,nnQ,nnQ]) rfl;have re:CP Y F.Bw [.dptr (grD a) 0] (.tup [.d (C6 a.w.2 (rA a)),I 0]):=aad G.pre.cost
 have bx:=PG (a:=a) 0 [nnQ,nnQ,nnQ,nnQ,nnQ] [adB a,nnQ,nnQ,nnQ,nnQ] rfl rfl;have l6:ldA [adB a,nnQ,nnQ,nnQ,nnQ] 6 (.ptr 0 1 0 6)=some (.agg (adC a)):=rfl
 have sn:AT ([adB a,nnQ,nnQ,nnQ,nnQ].set 1 (0+1,.vars ((grD a).map .d))) [.ptr 1 (0+1) 0 (grD a).length]=some ([.dptr (grD a) 0],bsH a nnQ nnQ):=rfl;have lR:fL (.d (C6 a.w.2 (rA a)))=some (I (rA a).length):=rfl;have hr:(rA a).length=a.cd.length:=by unfold rA;rw[Gb,KT]
 have h0c:0<a.cd.length:=aa;obtain⟨r1,r2⟩:=VE G h0c;obtain⟨n,hn⟩:∃n,a.cd.length=n+1:=⟨a.cd.length-1,aa⟩;have bl:(Fo a).length=a.cd.length:=QU ..
 have b0:nth 0 (Fo a) 0<(nth [] (rA a) 0).length:=by
  have:nth 0 (Fo a) 0=Qg a.p (IZ a 0 0):=by unfold Fo;rw[hn];rfl
  rw[this,r1];have hlt:=Wc (p:=a.p) (cs:=IZ a 0 0) (by grind[dX.cn,BD,IZ]);simpa[IZ]using hlt
 have rr:=r2 _ (BD (d:=[]) b0);have i1:∀H:Hp,ixV H 1 (.d (C6 a.w.2 (rA a))) (.d (.int .i64 0))=some (.dptr ((rA a).map (szL a.w.2)) 0):=fun H=>qw (szL a.w.2) _ H rfl aa
 have i2:∀H:Hp,ld1 H (.dptr ((rA a).map (szL a.w.2)) 0)=some (.d (szL a.w.2 (nth [] (rA a) 0))):=fun H=>jO (szL a.w.2) [] _ H aa
 have i3:∀H:Hp,ixV H 1 (.d (szL a.w.2 (nth [] (rA a) 0))) (I (nth 0 (Fo a) 0:Nat))=some (.dptr ((nth [] (rA a) 0).map fun r=>szD (szI a.w.2 r)) (nth 0 (Fo a) 0)):=fun H=>qw (fun r=>szD (szI a.w.2 r)) _ H rfl b0
 have i4:∀H:Hp,ld1 H (.dptr ((nth [] (rA a) 0).map fun r=>szD (szI a.w.2 r)) (nth 0 (Fo a) 0))=some (szV (szI a.w.2 (Ge a))):=fun H=>jO (fun r=>szD (szI a.w.2 r)) [] _ H b0
 have hs:(bsH a nnQ (Hq.b a.cd.length ((Fo a).map dn)))[3]?=some (1,.data 1 ((Fo a).map dn) false false):=by rw[hn];rfl
 have hv:Hq.v a.cd.length ((Fo a).map dn)=.ref 3 1 0 a.cd.length a.cd.length a.cd.length:=by
  have:((Fo a).map dn).length=a.cd.length:=by rw[List.length_map,bl]
  conv=>lhs;rw[hn]
  simp only[Acc.v,Hq,this,hn]
 have x1:=ixB (f:=dn) hs bl (i:=0) h0c .i64;have x2:=ldB (f:=dn) 0 hs bl (i:=0) h0c;have csz:=UY (h:=bsH a nnQ (Hq.b a.cd.length ((Fo a).map dn))) (l:=szI a.w.2 (Ge a)) (by rw[hn];rfl) (by grind[D6,Ge]) (by grind[D6,Ge])
 have main:=ad9 G (bsH a nnQ nnQ) ⟨_,rfl⟩ (exK [(Exit.exit 0,fun l15 h=>
   bnd (ixV h 1 (.d (C6 a.w.2 (rA a))) (.d (.int .i64 0))) fun v16=>
   bnd (ld1 h v16) fun v17=>
   bnd (ixV h 1 (ge l15 0) (.d (.int .i64 0))) fun v18=>
   bnd (ld1 h v18) fun v19=>
   bnd (ixV h 1 v17 v19) fun v20=>
   bnd (ld1 h v20) fun v21=>
   cai (CX Y).i h (.fn F.AM [] []) [v21] 4 fun v22 h=>
   out (.tup [.d (.sl a.cd.length ((Fo a).map dn)),szV (szI a.w.2 (Ge a)),I 0]) (.tup [(ge l15 0),v22,(.d (.int .i64 0))]) h),
   (.ret,fun l15 h=>out (.tup [.d (.sl a.cd.length ((Fo a).map dn)),szV (szI a.w.2 (Ge a)),I 0]) (.tup [(ge l15 1),(ge l15 2),(ge l15 0)]) h)]) a.cd.length [] 0 mR (fun x l e=>by simp at e) (fun h=>by simp at h) (by
  rw[List.nil_append]
  show exK _ _ [Hq.v a.cd.length ((Fo a).map dn)] (bsH a nnQ (Hq.b a.cd.length ((Fo a).map dn)))
  rw[hv];have e0:((0:Nat):Int)=0:=rfl;rw[e0]at x1;have e1:V.d (dn (nth 0 (Fo a) 0))=I (nth 0 (Fo a) 0:Nat):=rfl;rw[e1]at x2;generalize hH:bsH a nnQ (Hq.b a.cd.length ((Fo a).map dn))=H at *;simp only[Dv,xX,i1,xl,i2,x1,x2,i3,i4];refine CU (e:=0) (b:=.none) csz (by rw[<-hH];rfl) ?_
  have fl:(((szI a.w.2 (Ge a)).map tx).flatMap ub).length=(szI a.w.2 (Ge a)).length*2:=by rw[CB ub Bp,List.length_map]
  have e4:V.d (.sl (szI a.w.2 (Ge a)).length (((szI a.w.2 (Ge a)).map tx).flatMap ub))=szV (szI a.w.2 (Ge a)):=by unfold szV sk;rw[List.length_map]
  rw[<-e4,<-hH];generalize((szI a.w.2 (Ge a)).map tx).flatMap ub=cells at *;generalize(szI a.w.2 (Ge a)).length=len at *;have bl':((Fo a).map dn).length=a.cd.length:=by rw[List.length_map,bl]
  generalize(Fo a).map dn=bc at *;refine⟨[adB a,(1,.data 1 (grD a) false true),nnQ,(1,.data 1 bc false true),(1,.data 2 cells false true)],?_⟩
  show cX _ (.tup [.ref 3 1 0 a.cd.length a.cd.length a.cd.length,.ref 4 1 0 len len cells.length,I 0])=_
  have t1:toD ((bsH a nnQ (Hq.b a.cd.length bc)).set 4 (0+1,.data 2 cells false false)) (.ref 3 1 0 a.cd.length a.cd.length a.cd.length)=some (.sl a.cd.length bc,[adB a,(1,.data 1 (grD a) false true),nnQ,(1,.data 1 bc false true),(1,.data 2 cells false false)]):=by
   have hg:aj ((bsH a nnQ (Hq.b a.cd.length bc)).set 4 (0+1,.data 2 cells false false)) 3 1=.data 1 bc false false:=by rw[hn];rfl
   simp only[toD,hg];rw[if_pos ⟨bl'.symm,Z5 _,aa⟩];simp only[Y0,X9];rw[Zd aa];congr 2
  have t2:toD [adB a,(1,.data 1 (grD a) false true),nnQ,(1,.data 1 bc false true),(1,.data 2 cells false false)] (.ref 4 1 0 len len cells.length)=some (.sl len cells,[adB a,(1,.data 1 (grD a) false true),nnQ,(1,.data 1 bc false true),(1,.data 2 cells false true)]):=by
   have hg:aj [adB a,(1,.data 1 (grD a) false true),nnQ,(1,.data 1 bc false true),(1,.data 2 cells false false)] 4 1=.data 2 cells false false:=rfl;simp only[toD,hg];rw[if_pos ⟨trivial,Z5 _,aa⟩];simp only[Y0];rw[Zd aa];rfl
  simp_all[cX,AT])
 simp[B7,bx,l6];refine cd ck ?_;simp[l6];refine EH (abx (e:=0) (b:=.none) we rfl ?_);simp;refine cdz sn re ?_;rw[show cj (V.tup [V.d (C6 a.w.2 (rA a)),I 0])=false from rfl,if_neg AF];simp[lR];exact main
theorem Qv{r:LiQ}(hN:r.length<1000000)(K:KL)(hK:K (.exit 0) [] []):∀(q l:LiQ),l++q=r ->
  lp (Eh (CX Y) (lst di r) (lst di r)) [] [] [I l.length] [] K
 | [],l,hl=>by
  have e:l=r:=by simpa using hl
  subst e;refine AJ ?_;simp[Eh];exact hK
 | x::q,l,hl=>by
  have hll:r.length=l.length+(q.length+1):=by rw[<-hl];simp
  have ih:=Qv hN K hK q (l++[x]) (by grind);have i1:∀H:Hp,ixV H 1 (lst di r) (I l.length)=some (.dptr (r.map di) l.length):=fun H=>qw di _ H rfl aa
  have i2:∀H:Hp,ld1 H (.dptr (r.map di) l.length)=some (I x):=fun H=>by rw[jO di 0 r H aa,<-hl,nr];rfl
  have g:(l.length:Int)<r.length:=aa;have e2:((l++[x]).length:Int)=(l.length:Int)+1:=mR;rw[e2]at ih;have hre:aL [] 0 [] []=([]:Hp):=rfl;have lr:fL (lst di r)=some (I r.length):=rfl;refine AJ ?_;simp(disch:=try exact zN)[Eh,lr,g,i1,i2];exact ih
theorem WR(hN:r.length<1000000):CP Y F.Dg [lst di r,lst di r] (B true):=by refine Lc ?_;have lr:fL (lst di r)=some (I r.length):=rfl;have:=Qv hN (exK [(Exit.exit 0,fun l4 h=>out (B true) (B true) h),(Exit.ret,fun l4 h=>out (B true) (ge l4 0) h)]) (F5 rfl) r [] rfl;simp[Dg,lr];exact this
theorem abG(x:Q):biA [.str [],.str []] .neq (.agg (qT x)) (.agg (qT x))=some (B false):=by simp[biA,qT,NS,eqC]
theorem Qu{r:List Q}(hN:r.length<1000000)(K:KL)(hK:K (.exit 0) [] []):∀(q l:List Q),l++q=r ->
  lp (Eg (CX Y) (szV r) (szV r)) [] [] [I l.length] [] K
 | [],l,hl=>by
  have e:l=r:=by simpa using hl
  subst e;have lr:fL (szV l)=some (I l.length):=by simp[szV]
  refine AJ ?_;simp[Eg,lr];exact hK
 | x::q,l,hl=>by
  have hll:r.length=l.length+(q.length+1):=by rw[<-hl];simp
  have ih:=Qu hN K hK q (l++[x]) (by grind);obtain⟨w,w1,w2⟩:=afc r [] (i:=l.length) aa;have hn:nth (0,1) r l.length=x:=by rw[<-hl,nr]
  rw[hn]at w2;have g:(l.length:Int)<r.length:=aa;have e2:((l++[x]).length:Int)=(l.length:Int)+1:=mR;rw[e2]at ih;have lr:fL (szV r)=some (I r.length):=by simp[szV]
  have bs:=abG x;refine AJ ?_;simp(disch:=try exact zN)[Eg,lr,g,w1,w2,bs];exact ih
theorem WQ{r:List Q}(hN:r.length<1000000):CP Y F.Df [szV r,szV r] (B true):=by
 refine La ?_;have lr:fL (szV r)=some (I r.length):=by simp[szV]
 have:=Qu hN (exK [(Exit.exit 0,fun l4 h=>out (B true) (B true) h),(Exit.ret,fun l4 h=>out (B true) (ge l4 0) h)]) (F5 rfl) r [] rfl;simp[Df,lr];exact this
def exA:Ad where
 p:=[2,3,5]
 ch:=[[[0,0,0],[-1,1,0]],[[0,0,0],[-1,1,0]],[[0,0,0],[-1,1,0]]]
 lk:=[[(1,0)],[(1,0)]]
 cd:=[[[0,0,0]],[[0,0,0],[-4,4,-1]],[[-4,4,-1]]]
 w:=(0,1)
theorem acX:dX exA where
 hp:=⟨rfl,AF⟩
 wk:=⟨AF,AF,by unfold bdR;trivial,AF,AF,by trivial⟩
 lkn:=AF
 cne:=AF
 five:=AF
 cl:=AF
 cn:=AF
 cr:=by unfold bdR;trivial
 w0:=⟨⟨AF,AF⟩,AF,AF,AF⟩
theorem acW:Fo exA=[0,0,0]:=dQ
theorem aba:Ge exA=[-4,4,-1]:=dQ
theorem UR:CP Y F.Cr [] (.agg (adC exA)):=by refine Jw ?_;have w0:=Jr (z:=0) aa aa;simp[Cr,BS,cY,eA,toD];refine cd w0 ?_;simp[qT];exact⟨_,rfl⟩
theorem Gf:CP Y F.BZ [] (B true):=by
 refine Kf ?_;have bo:=ado acX;rw[acW,aba]at bo;have bo':CP Y F.B7 [.agg (adC exA)] (.tup [lst di [0,0,0],szV (szI 1 [-4,4,-1]),I 0]):=bo;have ro:=YD acX (c:=[0,0,0]) (by rfl);have mo:=abW acX (c:=[0,0,0]) (by rfl);have em:Ti exA 0 (nth 0 [0,0,0] 0:Int).toNat ([0,0,0]:LiQ).tail=[(1,0,[-4,4,-1])]:=dQ
 obtain⟨R,hR⟩:=nmQ (IG exA 0 [0,0,0]);have hR3:R.length=3:=by rw[hR];decide+kernel
 have hR2:nth [] R 2=[-6,6,-1]:=by rw[hR];decide+kernel
 rw[em]at mo;rw[<-hR]at ro;have es:szI 1 [-4,4,-1]=[(-4,1),(4,1),(-1,1)]:=AF;rw[es]at bo';have s1:=WQ (r:=[(-4,1),(4,1),(-1,1)]) AF
 have li3:∀H,BS 3 [D.str [],D.str []] [(0,.agg (qT (-4,1))),(1,.agg (qT (4,1))),(2,.agg (qT (-1,1)))] H=some (ub (tx (-4,1))++ub (tx (4,1))++ub (tx (-1,1)),H):=fun H=>by
  rfl
 have sn1:∀H,AT H [szV [(-4,1),(4,1),(-1,1)],.d (.sl 3 (ub (tx (-4,1))++ub (tx (4,1))++ub (tx (-1,1))))]=some ([szV [(-4,1),(4,1),(-1,1)],szV [(-4,1),(4,1),(-1,1)]],H):=fun _=>rfl
 have x1:ld1 [adB exA] (.dptr [di 0,di 0,di 0] 1)=some (I 0):=rfl;have i1:∀H:Hp,ixV H 1 (mat R) (.d (.int .i64 2))=some (.dptr (R.map row) 2):=fun H=>qw row R H rfl aa
 have i2:∀H:Hp,ld1 H (.dptr (R.map row) 2)=some (lst di [-6,6,-1]):=fun H=>by rw[jO row [] R H aa,hR2];rfl
 have lr:fL (mat R)=some (I 3):=by rw[show fL (mat R)=some (I R.length)from rfl,hR3];rfl
 have li4:∀H,BS 3 [D.int IntKind.i64 0] [(0,I (-6)),(1,I 6),(2,I (-1))] H=some ([di (-6),di 6,di (-1)],H):=fun H=>by
  rfl
 have m1:∀H:Hp,ixV H 3 (sk mvC [(1,0,[-4,4,-1])]) (.d (.int .i64 0))=some (.dptr (mvC (1,0,[-4,4,-1])) 0):=fun H=>rfl
 have m2:∀H:Hp,ld1 H (.dptr (mvC (1,0,[-4,4,-1])) 0)=some (I 1):=fun H=>rfl
 have s2:=WR (r:=[-6,6,-1]) AF;have wa:=Jr (z:=-4) aa aa;have wb:=Jr (z:=4) aa aa;have wc:=Jr (z:=-1) aa aa;have l6':=(wV _ _ _ _ _ _).symm.trans (show ldA [adB exA] 6 (.ptr 0 1 0 6)=some (.agg (adC exA))from rfl)
 have stx:∀(k:kkQ)(u:PU k),rh (stD [(1,.vars [.d nPQ,.d nPQ,.d nPQ,.d nPQ,.d (.str []),.d (.str [])])] 6 (.ptr 0 1 0 6) (.agg (adC exA))) k u=k .junk [adB exA]:=fun _ _=>rfl
 have st1:st [(1,.vars [.d nPQ,.d nPQ,.d nPQ,.d nPQ,.d (.str []),.d (.str [])])] 6 (.ptr 0 1 0 6) (.agg (adC exA))=some [adB exA]:=rfl;have l6:ldA [adB exA] 6 (.ptr 0 1 0 6)=some (.agg (adC exA)):=rfl;simp[BZ];refine cd UR ?_ (by rfl);simp[stx,l6,l6'];refine cd bo' ?_;simp[l6,l6']
 refine cd ro ?_;simp[l6,l6'];refine cd mo ?_;simp[x1];refine cd wa ?_;simp;refine cd wb ?_;simp;refine cd wc ?_;simp[li3];refine cdx (sn1 _) s1 ?_;simp(disch:=try exact zN)[lr,i1,i2,li4];refine cd s2 ?_;simp(disch:=try exact zN)[m1,m2]
end Go.Vm
