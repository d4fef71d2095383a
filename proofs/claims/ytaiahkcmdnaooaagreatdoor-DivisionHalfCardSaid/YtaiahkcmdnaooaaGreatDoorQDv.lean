/- Divisions: step, nearest, times, off, errorOf. -/
import Derived.Test.YtaiahkcmdnaooaaGreatDoorQDcY
import Derived.Test.YtaiahkcmdnaooaaGreatDoorQFa
import Derived.Test.YtaiahkcmdnaooaaGreatDoorQT
set_option linter.unusedVariables false
set_option linter.unusedSimpArgs false
namespace Go.Vm
open Go Go.Am Go.Big
theorem ZJ (a b:List UInt8):bld [(0,1),(1,1)] [.str [],.str []] [(0,S a),(1,S b)]=some (.agg [S a,S b]):=by simp [bld,mS,uf]
def bY (p:List Int) (n:Nat):List Q:=ix p.length [fW p.length] [(1,n)]
theorem BU (n:Nat):okS (fW n):=fun x hx=>by
 unfold fW at hx;simp only [Zr] at hx;rcases hx with rfl | hx
 ·exact vC 1 aa aa
 ·have:=List.eq_of_mem_replicate hx;subst this;exact vC 0 aa aa
theorem Ui {n:Nat} (h0:0<n) (h1:n<=10000):okQ ((1,n):Q)∧qL 30 ((1,n):Q):=
 ⟨⟨h0,af⟩,Z1 (bb (d:=1) af ae) ae,Z1 (bb (d:=5) (by show n<10 ^ 5;omega) ae) ae⟩
theorem jL {n:Nat} {l:List (List Q)} {f:List Q} (h:∀ s∈l,s.length=n):(ix n l f).length=n:=by
 unfold ix;rw [pq (fun s hs=>by simpa using h s hs)];simp
theorem BW {p:List Int} {n:Nat} (hp:pcB p=0) (hN:p.length<=20) (hl:0<p.length) (h0:0<n) (h1:n<=10000) (hr:okS (bY p n)):CP Y F.gY [lst di p,I n] (.tup [szV (bY p n),I 0]):=by
 refine zt ?_;have eq:=Ec hp aa hl;have of_:=mO (z:=(n:Int)) aa aa;rw [cN] at of_;have le:(fW p.length).length=p.length:=by simp [fW];omega
 have sc:=tP (p:=p) (s:=fW p.length) (k:=(1,n)) hp aa le (BU _) (Ui h0 h1) hr;have e1:itoa 1=[49]:=eY
 have sc':CP Y F.fv [lst di p,szV (fW p.length),.agg [S [49],S (ah n)]] (.tup [szV (bY p n),I 0]):=by
  have:qT ((1,n):Q)=[S [49],S (ah n)]:=by simp only [qT,e1]
  rw [<- this];exact sc
 have b:=ZJ [49] (ah n);simp (disch:=try exact ac)[gY];refine cd eq ?_;simp (disch:=try exact ac)[];refine cd of_ ?_;simp (disch:=try exact ac)[b];refine cd sc' ?_ (by simp [ai,aI,szV,cX]);simp (disch:=try exact ac)[];exact ax (pW _ _) rfl
theorem yQ {p:List Int} {n:Nat} {s:List Q} {q:Int} (hp:pcB p=0) (hN:p.length<=20) (hl:0<p.length) (h0:0<n) (h1:n<=10000) (hr:okS (bY p n)) (ls:s.length=p.length) (os:okS s) (hne:tq p (bY p n)≠[]) (hq:yM p (rN p s (bY p n)) (pV p (bY p n)) q) :
  CP Y F.fB [lst di p,I n,szV s] (.tup [S (itoa q),I 0]):=by
 refine vL ?_;have st:=BW hp hN hl h0 h1 hr;have lt:(bY p n).length=p.length:=jL fun s hs=>by simp at hs;subst hs;simp [fW];omega
 have ro:=OZ hp hN ls lt os hr hne hq;simp (disch:=try exact ac)[fB];refine cd st ?_;simp (disch:=try exact ac)[];refine cd ro ?_ (by simp [ai,szV,cX]);simp (disch:=try exact ac)[];exact ax rfl rfl
def jy (p:List Int) (n:Nat) (q:Int):List Q:=ix p.length [bY p n] [(q,1)]
theorem Nw {p:List Int} {n:Nat} {q:Int} (hp:pcB p=0) (hN:p.length<=20) (hl:0<p.length) (h0:0<n) (h1:n<=10000) (hr:okS (bY p n)) (q1 : -1000000000000000000<q) (q2:q<1000000000000000000) (hr2:okS (jy p n q)):CP Y F.jm [lst di p,I n,S (itoa q)] (.tup [szV (jy p n q),I 0]):=by
 refine yb ?_;have st:=BW hp hN hl h0 h1 hr;have lt:(bY p n).length=p.length:=jL fun s hs=>by simp at hs;subst hs;simp [fW];omega
 have sc:=tP (p:=p) (s:=bY p n) (k:=(q,1)) hp aa lt hr (vC q q1 q2) hr2
 have sc':CP Y F.fv [lst di p,szV (bY p n),.agg [S (itoa q),S [49]]] (.tup [szV (jy p n q),I 0]):=by
  have:qT ((q,1):Q)=[S (itoa q),S [49]]:=by simp only [qT,eY]
  rw [<- this];exact sc
 have b:=ZJ (itoa q) [49];simp (disch:=try exact ac)[jm];refine cd st ?_;simp (disch:=try exact ac)[b];refine cd sc' ?_ (by simp [ai,aI,szV,cX]);simp (disch:=try exact ac)[];exact ax (pW _ _) rfl
def fF (p:List Int) (n:Nat) (q:Int) (s:List Q):List Q:=ix p.length [jy p n q,s] [(1,1),(-1,1)]
theorem ni {p:List Int} {n:Nat} (hl:0<p.length):(bY p n).length=p.length:=jL fun s hs=>by simp at hs;subst hs;simp [fW];omega
theorem rE {p:List Int} {n:Nat} {q:Int} (hl:0<p.length):(jy p n q).length=p.length:=jL fun s hs=>by simp at hs;subst hs;exact ni hl
theorem LW {p:List Int} {n:Nat} {q:Int} {s:List Q} (hp:pcB p=0) (hN:p.length<=20) (hl:0<p.length) (h0:0<n) (h1:n<=10000) (hr:okS (bY p n)) (q1 : -1000000000000000000<q) (q2:q<1000000000000000000) (hr2:okS (jy p n q)) (ls:s.length=p.length) (os:okS s) (hr3:okS (fF p n q s)) :
  CP Y F.jF [lst di p,I n,S (itoa q),szV s] (.tup [szV (fF p n q s),I 0]):=by
 refine BZ ?_;have ti:=Nw hp hN hl h0 h1 hr q1 q2 hr2;have sb:=Ob (p:=p) (s:=jy p n q) (t:=s) hp aa (rE hl) hr2 ls os hr3;simp (disch:=try exact ac)[jF];refine cd ti ?_ (by simp [ai,aI]);simp (disch:=try exact ac)[];refine cd sb ?_ (by simp [ai,szV,cX]);simp (disch:=try exact ac)[]
 exact ax (pW _ _) rfl
structure yx (p:List Int) (n:Nat) (r:List Int) (q:Int):Prop where
 hp:pcB p=0
 hN:p.length<=20
 hl:0<p.length
 h0:0<n
 h1:n<=10000
 lr:r.length=p.length
 sr:smR r=true
 st:okS (bY p n)
 of:okS (ofQ r)
 ne:tq p (bY p n)≠[]
 fl:yM p (rN p (ofQ r) (bY p n)) (pV p (bY p n)) q
 q1 : -1000000000000000000<q
 q2:q<1000000000000000000
 ti:okS (jy p n q)
 er:okS (fF p n q (ofQ r))
theorem Eg {p r:List Int} {n:Nat} {q:Int} (E:yx p n r q):CP Y F.fC [lst di p,I n,lst di r] (.tup [szV (fF p n q (ofQ r)),I 0]):=by
 refine vM ?_;have of_:=E7 E.hp (by have:=E.hN;omega) E.lr E.sr;have lo:(ofQ r).length=p.length:=by simp [ofQ,E.lr]
 have ne:=yQ E.hp E.hN E.hl E.h0 E.h1 E.st lo E.of E.ne E.fl;have off:=LW E.hp E.hN E.hl E.h0 E.h1 E.st E.q1 E.q2 E.ti lo E.of E.er;simp (disch:=try exact ac)[fC];refine cd of_ ?_;simp (disch:=try exact ac)[];refine cd ne ?_ (by simp [ai,szV,cX]);simp (disch:=try exact ac)[]
 refine cd off ?_ (by simp [ai,szV,cX]);simp (disch:=try exact ac)[];exact ax (pW _ _) rfl
def pQ (p:List Int) (n:Nat) (r:List Int) (q z:Int):List Q:=KB p (fF p n q (ofQ r)) z
theorem qO {p:List Int} {n:Nat} {q:Int} {s:List Q} (hl:0<p.length) (hs:s.length=p.length):(fF p n q s).length=p.length:=jL fun t ht=>by
 simp at ht;rcases ht with rfl | rfl
 ·exact rE hl
 ·exact hs
theorem QU {p r:List Int} {n:Nat} {q z:Int} (E:yx p n r q) (hz:uQ p (fF p n q (ofQ r)) z) (z1 : -1<=z) (z2:z<=1):CP Y F.j5 [lst di p,I n,lst di r] (.tup [szV (pQ p n r q z),I 0]):=by
 refine zw ?_;have er:=Eg E;have lo:(ofQ r).length=p.length:=by simp [ofQ,E.lr]
 have ab:=RA E.hp (by have:=E.hN;omega) (qO (n:=n) (q:=q) E.hl lo) E.er hz z1 z2;simp (disch:=try exact ac)[j5];refine cd er ?_;simp (disch:=try exact ac)[];refine cd ab ?_ (by simp [ai,szV,cX]);simp (disch:=try exact ac)[];exact ax (pW _ _) rfl
theorem QO {p:List Int} {a b:List Q} {z:Int} (hp:pcB p=0) (hN:p.length<1000) (ha:a.length=p.length) (hb:b.length=p.length) (oa:okS a) (ob:okS b) (hz:uQ p (dfS p a b) z):CP Y F.j4 [lst di p,szV a,szV b] (B (decide (z<0))):=by
 refine zu ?_;have co:=Co hp hN ha hb oa ob hz;simp (disch:=try exact ac)[j4];refine cd co ?_ (by simp [ai,szV,cX]);simp (disch:=try exact ac)[] <;> exact iJ rfl
def dvC (p:List Int) (n:Int):Int:=if pcB p=0 then (if n<1∨10000<n then 3 else 0) else pcB p
theorem yn {p:List Int} {n:Int} (hN:p.length<1000000):CP Y F.fP [lst di p,I n] (I (dvC p n)):=by
 refine yc ?_;unfold dvC;simp (disch:=try exact ac)[fP];refine cd (gW aa) ?_;by_cases h:pcB p=0
 ·rw [if_pos h];by_cases c1:n<1
  ·rw [if_pos (.inl c1)];simp (disch:=try exact ac)[h,c1] <;> exact bU rfl
  ·by_cases c2:10000<n
   ·rw [if_pos (.inr c2)];simp (disch:=try exact ac)[h,c1,c2] <;> exact bU rfl
   ·rw [if_neg aa];simp (disch:=try exact ac)[h,c1,c2] <;> exact bU rfl
 ·rw [if_neg h];simp (disch:=try exact ac)[h] <;> exact bU rfl
structure TT (p r:List Int) (lim:Nat) (qf zf:Nat->Int) (ls:Nat->Nat->Bool):Prop where
 er:∀ n,1<=n->n<=lim->yx p n r (qf n)
 sg:∀ n,1<=n->n<=lim->uQ p (fF p n (qf n) (ofQ r)) (zf n)∧-1<=zf n∧zf n<=1
 ok:∀ n,1<=n->n<=lim->okS (pQ p n r (qf n) (zf n))
 cm:∀ n m,1<=m->m<n->n<=lim->∃ z,uQ p (dfS p (pQ p n r (qf n) (zf n)) (pQ p m r (qf m) (zf m))) z∧decide (z<0)=ls n m
def lO (ls:Nat->Nat->Bool):Nat->Nat->Nat->List Int
 | 0,_,_=>[]
 | f+1,n,m=>if m=0∨ls n m=true then (n:Int)::lO ls f (n+1) n else lO ls f (n+1) m
def acR:Acc:=⟨0,0,1,.none⟩
theorem Ew {p r:List Int} {n:Nat} {q z:Int} (hl:0<p.length) (hr:r.length=p.length):(pQ p n r q z).length=p.length:=jL fun t ht=>by
 simp at ht;subst ht;exact qO hl (by simp [ofQ,hr])
theorem wq {p r:List Int} {lim:Nat} {qf zf:Nat->Int} {ls:Nat->Nat->Bool} (R:TT p r lim qf zf ls) (hlim:lim<=500) (k:KL) (h0:Hp) (hh:h0.length=1):∀ (f n m:Nat) (out0:List Int) (best:V),n+f=lim+1->1<=n->out0.length<n->m<n->(m=0->n=1)->(m≠0->best=szV (pQ p m r (qf m) (zf m)))->(m=0->best=lS) ->
  (k (.exit 0) [acR.v (out0++lO ls f n m).length ((out0++lO ls f n m).map di)] [acR.b (out0++lO ls f n m).length ((out0++lO ls f n m).map di)]) ->
  lp (jb (CX Y) (lst di p) (lst di r) (I lim)) [] h0 [acR.v out0.length (out0.map di),best,I n] [acR.b out0.length (out0.map di)] k
 | 0,n,m,out0,best,hf,hn,ho,hm,hm0,hb,hb0,hk=>by
  have g:¬ (n:Int)<=(lim:Int):=aa;refine av ?_;simp (disch:=try exact ac)[jb,g];simpa [lO] using hk
 | f+1,n,m,out0,best,hf,hn,ho,hm,hm0,hb,hb0,hk=>by
  have g:(n:Int)<=(lim:Int):=aa;obtain ⟨s1,s2,s3⟩:=R.sg n hn aa;have E:=R.er n hn aa;have aw:=QU E s1 s2 s3;refine av ?_;simp (disch:=try exact ac)[jb,g];refine bJ ?_;simp (disch:=try exact ac)[];refine cd aw ?_ (by simp [ai,aI])
  have li1:∀ (z:Int) (H:Hp),dE 1 [D.int IntKind.i64 0] [(0,I z)] H=some ([di z],H):=fun z H=>by simp [dE,gG,jw,toD,di]
  have cR:(out0.map di).length=out0.length*acR.n:=by simp [acR]
  by_cases h1:n=1
  ·subst h1;have hm1:m=0:=aa;subst hm1;have ih:=wq R hlim k h0 hh f 2 1 (out0++[1]) (szV (pQ p 1 r (qf 1) (zf 1))) aa aa au aa aa (fun _=>rfl) aa (by simpa [lO] using hk);simp (disch:=try exact ac)[];refine bJ ?_;simp (disch:=try exact ac)[li1]
   refine m5 acR (k:=1) aa rfl cR (by rfl) rfl (fun t e=>by cases e) aa ae ?_;have cG:∀ x y:Nat × Bk,([x]:Hp).set acR.s y=[y]:=fun x y=>rfl
   have hre:∀ x:Hp,x.length=1->aG [] 0 h0 x=x:=fun x hx=>cW 0 h0 x aa
   have ov:=xq acR [] (out0.length+1) (out0.map di++[di 1]) rfl;have ob:=xr acR [] (out0.length+1) (out0.map di++[di 1]) rfl;simp (disch:=try exact ac)[cG,hre,clean,fE,oC,ow,eh,ov,ob,k9,szV,cX];refine ⟨rfl,?_⟩;have ev:∀ c,acR.v (out0.length+1) c=.ref acR.s (acR.e+1) 0 (out0.length+1) (out0.length+1) c.length:=fun c=>rfl
   have eb:∀ c,acR.b (out0.length+1) c=(acR.e+1,.data acR.n c false false):=fun c=>rfl
   simpa [szV,cX,ev,eb] using ih
  ·have hm1:m≠0:=fun e=>h1 (hm0 e)
   obtain ⟨z,cz,hz⟩:=R.cm n m aa hm aa;obtain rfl:=hb hm1;have lA:=Ew (n:=n) (q:=qf n) (z:=zf n) E.hl E.lr;have lB:=Ew (n:=m) (q:=qf m) (z:=zf m) E.hl E.lr;have le:=QO E.hp (by have:=E.hN;omega) lA lB (R.ok n hn aa) (R.ok m aa aa) cz;rw [hz] at le;have h1':¬ (n:Int)=1:=aa
   have sn:∀ (h:Hp) (x y:List Q),ai h [lst di p,szV x,szV y]=some ([lst di p,szV x,szV y],h):=fun h x y=>by simp [ai,szV,cX]
   have hre:∀ x:Hp,x.length=1->aG [] 0 h0 x=x:=fun x hx=>cW 0 h0 x aa
   simp (disch:=try exact ac)[h1'];refine cd le ?_ (sn _ _ _);cases hl:ls n m with
   | true=>
    have ih:=wq R hlim k h0 hh f (n+1) n (out0++[(n:Int)]) (szV (pQ p n r (qf n) (zf n))) aa aa au aa aa (fun _=>rfl) aa (by simpa [lO,hm1,hl] using hk);simp (disch:=try exact ac)[];refine bJ ?_;simp (disch:=try exact ac)[li1]
    refine m5 acR (k:=1) aa rfl cR (by rfl) rfl (fun t e=>by cases e) aa ae ?_;have cG:∀ x y:Nat × Bk,([x]:Hp).set acR.s y=[y]:=fun x y=>rfl
    simp (disch:=try exact ac)[cG,hre,clean,fE,oC,ow,eh,k9,szV,cX];refine ⟨rfl,?_⟩;have ev:∀ c,acR.v (out0.length+1) c=.ref acR.s (acR.e+1) 0 (out0.length+1) (out0.length+1) c.length:=fun c=>rfl
    have eb:∀ c,acR.b (out0.length+1) c=(acR.e+1,.data acR.n c false false):=fun c=>rfl
    simpa [szV,cX,ev,eb] using ih
   | false=>
    have ih:=wq R hlim k h0 hh f (n+1) m out0 (szV (pQ p m r (qf m) (zf m))) aa aa aa aa aa (fun _=>rfl) aa (by simpa [lO,hm1,hl] using hk);have ov:=xq acR [] out0.length (out0.map di) rfl;have ob:=xr acR [] out0.length (out0.map di) rfl;simp (disch:=try exact ac)[];refine bJ ?_
    simp (disch:=try exact ac)[hre,clean,fE,oC,ow,eh,ov,ob,k9,szV,cX];simpa [szV,cX] using ih
theorem JG {p r:List Int} {lim:Nat} {qf zf:Nat->Int} {ls:Nat->Nat->Bool} (R:TT p r lim qf zf ls) (hlim:lim<=500) (hl1:1<=lim):CP Y F.fD [lst di p,lst di r,I lim] (.tup [lst di (lO ls lim 1 0),I 0]):=by
 refine vN ?_;have E:=R.er 1 (Z7 _) hl1;have pc:=gW (p:=p) (by have:=E.hN;omega);rw [E.hp] at pc;have mc:=wE (p:=p) (r:=r) (by have:=E.hN;omega);rw [Fv E.hp E.lr E.sr] at mc;have g1:¬ (lim:Int)<1:=aa;have g2:¬ (500:Int)<(lim:Int):=aa
 have rl:=wq R hlim (exK [((.exit 0),fun l9 h=>out (.tup [lst di (lO ls lim 1 0),I 0]) (.tup [(ge l9 0),(.d (.int .i64 0))]) h),(.ret,fun l9 h=>out (.tup [lst di (lO ls lim 1 0),I 0]) (.tup [(ge l9 0),(ge l9 1)]) h)]) [(0,.none)] rfl lim 1 0 [] lS aa aa af aa aa aa (fun _=>rfl) (by
  simp only [List.nil_append];generalize lO ls lim 1 0=w;simp (disch:=try exact ac)[];obtain ⟨h',q1,_⟩:=lU acR (L:=w.length) (cells:=w.map di) (h:=[acR.b w.length (w.map di)]) rfl (by simp [acR]);exact ax q1 rfl)
 simp (disch:=try exact ac)[fD];refine cd pc ?_;simp (disch:=try exact ac)[];refine cd mc ?_;simp (disch:=try exact ac)[g1,g2];exact rl
def bw:List Int->List Int->Int
 | a::r,b::t=>a*b+bw r t
 | _,_=>0
def Hh (E:Int) (ws:Int):List Int->List Int->List Int->Bool
 | w::W,l::L,u::U=>decide (E*u=w+ws*l) && Hh E ws W L U
 | [],[],[]=>true
 | _,_,_=>false
def RQ:List Int->Nat
 | []=>0
 | w::W=>w.natAbs+RQ W
theorem LO {E ws:Int}:∀ {w L u:List Int},Hh E ws w L u=true->∀ c:List Int,E*bw c u=bw c w+ws*bw c L
 | [],[],[],_,c=>by cases c <;> simp [bw]
 | w::W,l::L,u::U,h,[]=>by simp [bw]
 | w::W,l::L,u::U,h,x::c=>by
  simp only [Hh,Z8,decide_eq_true_eq] at h;have ih:=LO h.2 c;simp only [bw,Wh];rw [ih]
  have e1:E*(x*u)=x*w+ws*(x*l):=by
   have:E*(x*u)=x*(E*u):=by rw [Wz]
   rw [this,h.1,Wh,Wz x ws l]
  rw [e1];omega
 | [],[],_::_,h,_=>by simp [Hh] at h
 | [],_::_,_,h,_=>by simp [Hh] at h
 | _::_,[],_,h,_=>by simp [Hh] at h
 | _::_,_::_,[],h,_=>by simp [Hh] at h
theorem QK {B:Nat}:∀ (c w:List Int),(∀ x∈c,x.natAbs<=B)->(bw c w).natAbs<=RQ w*B
 | [],w,_=>by simp [bw]
 | x::c,[],_=>by simp [bw]
 | x::c,w::W,h=>by
  have h1:=h x af;have ih:=QK c W fun y hy=>h y (by simp [hy])
  have h2:(x*w).natAbs<=w.natAbs*B:=by
   rw [Zn,Zy];exact Z3 _ h1
  have h3:=Wm (x*w) (bw c W);simp only [bw,RQ,Nat.add_mul];omega
structure uY where
 w:List Int
 s:Int
 u:List Int
def R9 (k E B G:Nat) (L:List Int) (r:uY):Bool:=Hh E r.s r.w L r.u && decide (RQ r.w*B+r.s.natAbs*G<E) && decide (r.u.length=k)
theorem row_zero {k E B G:Nat} {L:List Int} {r:uY} (h:R9 k E B G L r=true) {c:List Int} (hc:∀ x∈c,x.natAbs<=B) (hL:(bw c L).natAbs<=G):bw c r.u=0:=by
 simp only [R9,Z8,decide_eq_true_eq] at h;have h1:=LO h.1.1 c;have h2:=QK c r.w hc
 have h3:(r.s*bw c L).natAbs<=r.s.natAbs*G:=by
  rw [Zn];exact Z3 _ hL
 have h4:=Wm (bw c r.w) (r.s*bw c L);rw [<- h1,Zn,Int.natAbs_natCast] at h4;have h5:E*(bw c r.u).natAbs<E*1:=by rw [X7];exact Zb (Z1 h4 (Nat.add_le_add h2 h3)) h.1.2
 have h6:=W5 h5;omega
def Kw (v:Int):List Int->List Int->List Int
 | x::a,y::b=>(v*x+y)::Kw v a b
 | _,_=>[]
def Df (k:Nat):List Int->List (List Int)->List Int
 | v::V,u::U=>Kw v u (Df k V U)
 | _,_=>List.replicate k 0
theorem ID (v:Int):∀ (c a b:List Int),a.length=b.length->bw c (Kw v a b)=v*bw c a+bw c b
 | [],a,b,_=>by simp [bw]
 | x::c,[],[],_=>by simp [bw,Kw]
 | x::c,y::a,z::b,h=>by
  simp only [Kw,bw,ID v c a b (by simpa using h),Wh];rw [Wz x v y];omega
 | x::c,[],_::_,h=>by simp at h
 | x::c,_::_,[],h=>by simp at h
theorem I7 (v:Int):∀ (a b:List Int),a.length=b.length->(Kw v a b).length=a.length
 | [],[],_=>rfl
 | x::a,y::b,h=>by simp [Kw,I7 v a b (by simpa using h)]
 | [],_::_,h=>by simp at h
 | _::_,[],h=>by simp at h
theorem IP {k:Nat}:∀ (V:List Int) (U:List (List Int)),(∀ u∈U,u.length=k)->(Df k V U).length=k
 | [],_,_=>by simp [Df]
 | _::_,[],_=>by simp [Df]
 | v::V,u::U,h=>by
  have h1:=h u af;have ih:=IP V U fun y hy=>h y (by simp [hy])
  rw [Df,I7 v _ _ (by rw [h1,ih]),h1]
theorem FR:∀ (c:List Int) (k:Nat),bw c (List.replicate k 0)=0
 | [],k=>by simp [bw]
 | x::c,0=>by simp [bw]
 | x::c,k+1=>by simp [List.replicate_succ,bw,FR c k]
theorem IC {k:Nat} {c:List Int}:∀ (V:List Int) (U:List (List Int)),(∀ u∈U,u.length=k)->(∀ u∈U,bw c u=0)->bw c (Df k V U)=0
 | [],_,_,_=>by rw [Df];exact FR c k;simp
 | _::_,[],_,_=>by rw [Df];exact FR c k;simp
 | v::V,u::U,h,h0=>by
  have h1:=h u af;have hl:=IP V U fun y hy=>h y (by simp [hy])
  rw [Df,ID v _ _ _ (by rw [h1,hl]),h0 u af,IC V U (fun y hy=>h y (by simp [hy])) fun y hy=>h0 y (by simp [hy])];simp
def Do:Nat->List Int->Bool
 | 0,x::r=>decide (x=1) && r.all fun y=>decide (y=0)
 | i+1,x::r=>decide (x=0) && Do i r
 | _,[]=>false
theorem LS:∀ (c r:List Int),(r.all fun y=>decide (y=0))=true->bw c r=0
 | [],r,_=>by simp [bw]
 | x::c,[],_=>by simp [bw]
 | x::c,y::r,h=>by
  simp only [List.all_cons,Z8,decide_eq_true_eq] at h;simp [bw,h.1,LS c r h.2]
theorem Iz:∀ (i:Nat) (c r:List Int),Do i r=true->bw c r=c.getD i 0
 | _,[],r,_=>by simp [bw]
 | i,x::c,[],h=>by cases i <;> simp [Do] at h
 | 0,x::c,y::r,h=>by
  simp only [Do,Z8,decide_eq_true_eq] at h;simp [bw,h.1,LS c r h.2]
 | i+1,x::c,y::r,h=>by
  simp only [Do,Z8,decide_eq_true_eq] at h;simp [bw,h.1,Iz i c r h.2]
def IS (k E B G:Nat) (L:List Int) (rs:List uY) (V:List (List Int)):Bool:=
 rs.all (R9 k E B G L) && (List.range k).all fun i=>Do i (Df k (V.getD i []) (rs.map uY.u))
theorem NG {k E B G:Nat} {L:List Int} {rs:List uY} {V:List (List Int)} (h:IS k E B G L rs V=true) {c:List Int} (hk:c.length=k) (hc:∀ x∈c,x.natAbs<=B) (hL:(bw c L).natAbs<=G):∀ x∈c,x=0:=by
 simp only [IS,Z8,Zu,Wj] at h;intro x hx;obtain ⟨i,hi,rfl⟩:=List.getElem_of_mem hx;have h1:=h.2 i aa;have h2:=Iz i c _ h1
 have hu:∀ u∈rs.map uY.u,u.length=k:=by
  intro u hu;obtain ⟨r,hr,rfl⟩:=Zg.1 hu;have:=h.1 r hr;simp only [R9,Z8,decide_eq_true_eq] at this;exact this.2
 have hz:∀ u∈rs.map uY.u,bw c u=0:=by
  intro u hu;obtain ⟨r,hr,rfl⟩:=Zg.1 hu;exact row_zero (h.1 r hr) hc hL
 rw [IC _ _ hu hz] at h2;rw [Zv,List.getElem?_eq_getElem hi] at h2;simpa using h2.symm
def c6P:List Int:=[2,3,5,7,11,13]
def c6E:Nat:=49614784997166684354356440537718907724664518830926052597504563849643971255504954919833347734491512257382489393255698957922075077162815239663036099654758093
def abM:uY:=⟨[-429684907064430635884713548526284398136750440240151633627270991646252110934279583518109208170890072173059957252012719268146472383,-574363685902068805515767317845714914837534458777698246546030963465399421722584750825841800946067324725919455794597202907650714121,239682664751044579988541147519446983012439651196620121180688085753545084198219673524259121840454877199861278833790608213415902674,490169592611154263938780316899978278808405480672551162133006080257504427486126943347802766926253129983746371607254066620887569298,71811715775640068681224631610670057458858997080415386752011858081716943546979212804136948205462437687236329264864522740212298311,0],103059907767718463631308043909722223789355679515715379399056304135065126571877681106872492632855700838224827057148240370083530499,[27850719270598031528536908140733767726118931125030666918173045185973172667860188885707249015707142008127010150542945896815030597,44142345662009950906473217222273266831075072962080801848929529359793809334236086475333529440262778693532659123357310119570130934,64667367537222437229042629185065593031871224642464366666187027301419473248433823599822660464071711192917462786579480814321303171,78186853827157949520348926870151630073461616463326005074218518844947088887169197112356103395848829463734133009661276810514943340,96347658846497915012712300521445224793371092227122571808163482414981061334202939766687213885286882331982494676527431449364289686,103059907767718463631308043909722223789355679515715379399056304135065126571877681106872492632855700838224827057148240370083530499]⟩
def abL:uY:=⟨[-43110747200229788296365260636693326005998588987096619954869089054940869338398094725802200010641296086196605105832980957245125655,162405213819669793962280190067435374586389715176527151916613855891737269200280303764552382736400233000768360548298555683139521758,404833116842662799679601649178355400660926903004233561661612971025013587777085795229643097745145208628735147328531801055314143179,111041075422621091632158397747438726108086130430760853307822806463253294952608654713106923376779599395037338621685641491793297240,751114691308491007748668853269695973420513785378074807391897306050369179397438954528492628305404969487940080008216657151865963332,0],439335950650499223824285612195393470246325022551191878410003311583587261215293995436663577376424099141531452560034943295952926440,[118725336477362934197880093343646014501343934845599469041083727014247031851791170553859127674418803453469127786092422160298088845,188175206202121859889432882816363887782346661714572063010637704676107062674493836631592005509899148225876310193399916097614344766,275671694341744385276577596747505913130930191927564112532120860072746952504310540494146625463073726744185906700462890412841271983,333304157732670041939306775454492193056446676199211536601177646460426738001468515014602863833869554283420903035275514456363706920,410722182943141407003769412369889904314694067485291001688614574091306745899476297183642619558161403275889246772917969773153848764,439335950650499223824285612195393470246325022551191878410003311583587261215293995436663577376424099141531452560034943295952926440]⟩
def abK:uY:=⟨[423300544883357628169939524369468130442632079304979463949839628809721770303266461002846953028568361004868161540605129199396988962,-285123376751573462547670869250854560875090665683045015576398439095041582316184627785715828691702533464772489911179761267994590743,96947262066998588060986165203869233724823904920882500261188216696259165091494962847118660572430053281916990492980910825907836463,465643235004406685744544157633672071145277353553705377795796544347470844368856705226921829685962331202833753120034719663594118792,497357904516595607875998002059903885126785617447941270967021510161371546662432400040919114810727834793445778668773252721855647984,0],-180283652357060891963341734855303342895290830340246672266453871380632466435841586997398361697779374621896239371486683254178315764,[-48719521486388647994543071022983664752401953327698105429919615640854155290405068663804326691156283768130439738516717942600735574,-77218614609004651574428397304640677475996238897591260101130280444561846829769936569179371527586743861652772671057466205927854567,-113123225708714309354486620684927528170189017992668492738825882325229155057119939468164799752889146239786133172214038272490076017,-136772988445104371502629183947232462461065058051394742325590385908796487752309402397614343938812666666327695704137115209330480400,-168541853074892062875215990314750670728957636274604138008149065504506005571792549457672536946639636538865197458036840004684847236,-180283652357060891963341734855303342895290830340246672266453871380632466435841586997398361697779374621896239371486683254178315764]⟩
def abJ:uY:=⟨[159531764860778240831070386638950943452271761373434132084660956390820782904556733889389035868101853798907780845890566495180410339,-180032089505609209860233013367430784981760269288235028150272233242192422337617266459588273668717274570307548125948198250997292668,722405188777314026290228423729562622485744858435224802669416577753872228546103611468200035730938439621290214051003514987402640739,36000990527446309198347138185176770004549727162813405250184033037069968420659466845714636018818258590705256959225987168237527327,-513530963278479332513950828304824217548759301985671116846623159423663302335838371957263992970359945416442876540905495299997168979,0],255319271753262736240596140445048610660147532638867101688231609388924934549470991616555890522609786307994265712474064939372719006,[68997008788329030471651890466501605922759514891055642670684877087150164920370355947256414807736361809274411982318831819290316655,109357671591429570348446990333056286674650708604085047802155266884788489640797707697129937207705205929608965377164939790970996338,160206093168811422882351307075073345108793236944860528664460807374981125107010762526335062166141314315540499983610962933037671305,193699092229167270957497322859449866983386428115660752004044982491020316707187384266855752641467878819592456428991277772969768015,238690433793740921787683432401020148873693897194675168197188040134700797741225079582870389221277519794301971401466914493602027743,255319271753262736240596140445048610660147532638867101688231609388924934549470991616555890522609786307994265712474064939372719006]⟩
def abI:uY:=⟨[-115699792562142438908206584352388253201925118670869643467677761121403901270826956076992048101143363449386912529145981349866502063,317427049764918117651459939430012773888396636265162816931813707329297297607212420494030633298213235565148281059707087047705680636,193434686445219496297236067914981533486168164295004570116807459813592421290831775811834655808253617850393225983319103489553872396,202837281079699213149765844575736259095315944060610771048246603594817678831923528311990994562585284019313909165919139027091326019,712396033821932351616868822462490381124122861434848986507322852529824321381818847992924250352439865772839016498853430672476577578,0],-559799349675958243149023041528111243920862410527801771881216815243587809595474924713623051631744314549438039640085538859388599396,[-151279143106044767089815513101441711517432663573468295745730103529184394594309578953149631219854080461231028370958235909546346603,-239771768964310368334540681067837006910701812640817258499972247514604514083585800476914948116392521374550461284763470981445210872,-351259292548411181537919193080846329969869311789965849363701081249593626040362629485015730992591625205480064399957712684340931440,-424694247003411444855146851477514715910429813795428980139419467749957251963884059480211277433950262200983846038963016183720045833,-523339850901407777015626749765207552897634145012805488315350129174836181746914342580738630090328050384309992801104889853869345490,-559799349675958243149023041528111243920862410527801771881216815243587809595474924713623051631744314549438039640085538859388599396]⟩
def abH:uY:=⟨[5055866734460492751768211705120840041899237975357819210693409331339698965515480147528501481115754752617839044324011729516849701,486787547201009472714225339921947424312773995304900935777110745518896330428818341655420145150079917148786138178721516918708501081,-371534174410100712058891411833791071451799635399645312991342278868016149935319291647640646606371079436995270097792633094699176481,393721980329173825888087799515891191599337752448102016205280277872930140505877298858326928680171223865191903719984334491924693395,-63084654763227656672328807791060097510906557521183910417099407055995627556581145158467988204647214289892093141760285854902011444,0],190670751079263851920391443869175106364653954798408653798284743976804958109287908311498838592158724017167872232008297034176454231,[51526511874931147045440232338241213598995949992787563044839448908598157867674753125734229906134315822189450689289777891276847289,81667589114729220696364644972084636377741334870882808941607336583906478613318415308555618059845523855592319917464803454474367156,119640855553949931195359567588261908639127024902064358053829611605493236398712317439776796348104234246731657126690167143378539840,144653206728547542795275835596324454222228057800040851205468589670529400521174841730692856721557840943082114239897188601911150441,178252444378226976301420740075708316236838087700956238536026635050832749472600304434409083164366447419131491572849036279690272963,190670751079263851920391443869175106364653954798408653798284743976804958109287908311498838592158724017167872232008297034176454231]⟩
def c6R:List uY:=[abM,abL,abK,abJ,abI,abH]
def c6V:List (List Int):=[[-46477260228354403041493751,-2505632726243893919427248,58003229516542057431797140,15057295410276108388899585,-22306353907238312513566508,85438611908062355094321],[-25758522260144387158066355,6468867710079767890381561,-25120626473553828029748921,21017786884855784315416113,32137420031589499465207364,41475093799394621888898217],[-459074409943010318492609,10822464117439059568603833,-9756398330483923621702778,50098038355954498359498971,30562394815147993944910824,-11268065159585924320632353],[30420219925102840764344579,-14537544594484470209685826,25199522547478204684291748,18922988829788052015374945,13087795528133714359917485,53967158135058905287670651],[-2738906948132587203398157,33980339139849080327203319,12766138930794734537985420,-30249525070648516782987174,1661304814314177677032971,-19361663294179703925672167],[3362896834617060908787601,-29622662201364248515898145,-29845618333873557643178232,-30583155841379738043590236,-38396299710588350570382390,-33558954129317454890197270]]
def lgI (n:Nat) (p:Int):Int:=(lg p n:Int)
theorem Ak:IS 6 c6E 73786976294838206464 73786976294838206464 (c6P.map (lgI 512)) c6R c6V=true:=aJ
def gk (h:Int->Int):List (Int × Int)->Int
 | []=>0
 | t::ts=>t.2*h t.1+gk h ts
def dI:List (Int × Int)->Nat
 | []=>0
 | t::ts=>t.2.natAbs+dI ts
def cfT:List (Int × Int)->Int->Int
 | [],_=>0
 | t::ts,c=>(if t.1=c then t.2 else 0)+cfT ts c
theorem mT (n:Nat):∀ ts:List (Int × Int),(aM n ts (0,0)).1<=gk (lgI n) ts∧gk (lgI n) ts<=(aM n ts (0,0)).2∧(aM n ts (0,0)).2-(aM n ts (0,0)).1<=dI ts
 | []=>by simp [aM,gk,dI]
 | t::ts=>by
  obtain ⟨h1,h2,h3⟩:=mT n ts;obtain ⟨x,hx⟩:∃ x:Int,x=lg t.1 n:=⟨_,rfl⟩;obtain ⟨y,hy⟩:∃ y:Int,y=if t.1=2 then x else x+1:=⟨_,rfl⟩
  have hxy:y=x∨y=x+1:=by rw [hy];split <;> simp
  have e:aM n (t::ts) (0,0)=aM n ts (if t.2<0 then (0+y*t.2,0+x*t.2) else (0+x*t.2,0+y*t.2)):=by
   rw [hy,hx];rfl
  have e2:gk (lgI n) (t::ts)=t.2*x+gk (lgI n) ts:=by rw [hx];rfl
  rw [e,e2,sf ts];simp only [dI,X3]
  have m1:y*t.2=x*t.2∨y*t.2=x*t.2+t.2:=by
   rcases hxy with h | h
   ·left;rw [h]
   ·right;rw [h,Ye,Int.one_mul]
  rw [Y9 t.2 x];by_cases hn:t.2<0
  ·rw [if_pos hn];simp only;omega
  ·rw [if_neg hn];simp only;omega
theorem IB (f g:Int->Int):∀ (P L:List Int),bw (P.map fun c=>f c+g c) L=bw (P.map f) L+bw (P.map g) L
 | [],L=>by simp [bw]
 | p::P,[]=>by simp [bw]
 | p::P,l::L=>by
  simp only [Zz,bw,IB f g P L,Ye];omega
theorem IA (h:Int->Int) (a z:Int):∀ P:List Int,a ∉ P->bw (P.map fun c=>if a=c then z else 0) (P.map h)=0
 | [],_=>by simp [bw]
 | p::P,hn=>by
  simp only [Zr,not_or] at hn;simp [bw,hn.1,IA h a z P hn.2]
theorem LR (h:Int->Int) (a z:Int):∀ P:List Int,P.Nodup->a∈P->bw (P.map fun c=>if a=c then z else 0) (P.map h)=z*h a
 | [],_,hm=>by simp at hm
 | p::P,hn,hm=>by
  rw [W0] at hn;by_cases e:a=p
  ·subst e;simp [bw,IA h a z P hn.1]
  ·have:a∈P:=by simpa [e] using hm
   simp [bw,e,LR h a z P hn.2 this]
theorem GJ (h:Int->Int) {P:List Int} (hP:P.Nodup):∀ ts:List (Int × Int),(∀ t∈ts,t.1∈P)->gk h ts=bw (P.map (cfT ts)) (P.map h)
 | [],_=>by
  have:∀ P:List Int,bw (P.map (cfT [])) (P.map h)=0:=by
   intro P
   induction P with
   | nil=>rfl
   | cons p P ih=>rw [Zz,Zz,bw,ih];simp [cfT]
  rw [this];rfl
 | t::ts,hm=>by
  rw [gk,GJ h hP ts fun u hu=>hm u (by simp [hu])];have:cfT (t::ts)=fun c=>(if t.1=c then t.2 else 0)+cfT ts c:=by funext c;rfl
  rw [this,IB,LR h t.1 t.2 P hP (hm t af)]
theorem Q7 (c:Int):∀ ts:List (Int × Int),(cfT ts c).natAbs<=dI ts
 | []=>by simp [cfT]
 | t::ts=>by
  have:=Q7 c ts;simp only [cfT,dI];split <;> omega
theorem Ai {c:Int}:∀ ts:List (Int × Int),c ∉ ts.map Prod.fst->cfT ts c=0
 | [],_=>rfl
 | t::ts,h=>by
  simp only [Zz,Zr,not_or] at h;rw [cfT,if_neg (fun e=>h.1 e.symm),Ai ts h.2];rfl
theorem xP {P:List Int} {k E B G n:Nat} {rs:List uY} {V:List (List Int)} (hc:IS k E B G (P.map (lgI n)) rs V=true) (hk:P.length=k) (hP:P.Nodup) {ts:List (Int × Int)} (hm:∀ t∈ts,t.1∈P) (hB:dI ts<=B) (hG:(gk (lgI n) ts).natAbs<=G):∀ c∈P,cfT ts c=0:=by
 intro c hcP
 have h1:=NG hc (c:=P.map (cfT ts)) (by simpa using hk) (by
  intro x hx;obtain ⟨d,_,rfl⟩:=Zg.1 hx;exact Z1 (Q7 d ts) hB) (by rw [<- GJ (lgI n) hP ts hm];exact hG)
 exact h1 _ (List.mem_map_of_mem hcP)
theorem KW {P:List Int} {k E B G n:Nat} {rs:List uY} {V:List (List Int)} (hc:IS k E B G (P.map (lgI n)) rs V=true) (hk:P.length=k) (hP:P.Nodup) {ts:List (Int × Int)} (hm:∀ t∈ts,t.1∈P) (hn:(ts.map Prod.fst).Nodup) (h0:∀ t∈ts,t.2≠0) (hB:dI ts<=B) (hG:dI ts<=G) (hne:ts≠[]) :
  0<=(aM n ts (0,0)).1∨(aM n ts (0,0)).2<=0:=by
 obtain ⟨g1,g2,g3⟩:=mT n ts;by_cases hd:0<=(aM n ts (0,0)).1∨(aM n ts (0,0)).2<=0
 ·exact hd
 ·exfalso;have hz:=xP hc hk hP hm hB aa;cases ts with
  | nil=>exact hne rfl
  | cons t ts=>
   have h1:=hz t.1 (hm t af);simp only [Zz,W0] at hn;rw [cfT,if_pos rfl,Ai ts hn.1] at h1;exact h0 t af aa
theorem DC {ts:List (Int × Int)}:∀ (r n j:Nat),j<r->(0<=(aM (n*2 ^ j) ts (0,0)).1∨(aM (n*2 ^ j) ts (0,0)).2<=0)->∃ s,xG ts r n=some s∧(s=1∨s = -1)
 | 0,n,j,hj,_=>by omega
 | r+1,n,j,hj,h=>by
  unfold xG;by_cases h1:0<=(aM n ts (0,0)).1
  ·exact ⟨1,by rw [if_pos h1],Or.inl rfl⟩
  ·by_cases h2:(aM n ts (0,0)).2<=0
   ·exact ⟨-1,by rw [if_neg h1,if_pos h2],Or.inr rfl⟩
   ·rw [if_neg h1,if_neg h2];cases j with
    | zero=>simp at h;omega
    | succ j=>
     refine DC r (n*2) j aa ?_;have:n*2*2 ^ j=n*2 ^ (j+1):=by rw [Nat.pow_succ,Nat.mul_assoc,Zy 2]
     rw [this];exact h
theorem JJ (ts:List (Int × Int)) : -1<=lH ts∧lH ts<=1:=by
 unfold lH;split
 ·decide
 ·split
  ·decide
  ·split <;> decide
theorem ML {ts:List (Int × Int)} (h:ts≠[]->∃ s,xG ts 6 64=some s∧(s=1∨s = -1)):∃ z,wi ts=some z∧-1<=z∧z<=1:=by
 cases ts with
 | nil=>exact ⟨0,rfl,ae,ae⟩
 | cons t ts=>
  unfold wi;simp only;by_cases hq:lH (t::ts)≠0
  ·rw [if_pos hq];exact ⟨_,rfl,JJ _⟩
  ·rw [if_neg hq];obtain ⟨s,hs,hv⟩:=h af;refine ⟨s,hs,?_⟩;omega
def lgC (n:Nat) (p:Int):Bool:=(FC p.toNat n).isSome && decide (2 ^ n<=lg p n) && decide (lg p n+1<=4*2 ^ n)
theorem ZG:∀ p∈c6P,∀ i∈List.range 6,lgC (64*2 ^ i) p=true:=aJ
theorem U0 {x k:Nat} (hk:1<=k) (h:x<2 ^ (3*k)):ndg x<=k:=by
 refine bb (Z0 h ?_) hk;rw [Nat.pow_mul];exact Nat.pow_le_pow_left ae k
theorem PG {x m k:Nat} (hk:1<=k) (hm:m+2<=3*k) (h:x+1<=4*2 ^ m):ndg x<=k:=by
 refine U0 hk (Z0 (Z0 (Nat.lt_succ_self x) h) ?_);have e:4*2 ^ m=2 ^ (m+2):=by rw [Yx,Zy]
 rw [e];exact Z2 ae hm
theorem Rf:∀ p∈c6P,2<=p∧p<128:=ae
theorem Ma:c6P.Nodup:=ae
theorem Rh {p:Int} (hp:p∈c6P) {i:Nat} (hi:i<6):(FC p.toNat (64*2 ^ i)).isSome=true∧2 ^ (64*2 ^ i)<=lg p (64*2 ^ i)∧lg p (64*2 ^ i)+1<=4*2 ^ (64*2 ^ i):=by
 have:=ZG p hp i (Wj.2 hi);simp only [lgC,Z8,decide_eq_true_eq] at this;exact ⟨this.1.1,this.1.2,this.2⟩
theorem F8 {ts:List (Int × Int)} (h:∀ t∈ts,t.1∈c6P):yI ts:=by
 intro i hi t ht;obtain ⟨h1,h2,h3⟩:=Rh (h t ht) hi;obtain ⟨p1,p2⟩:=Rf _ (h t ht);refine ⟨p1,aa,h1,?_⟩;obtain ⟨k,hk⟩:∃ k,k=1500:=⟨_,rfl⟩;rw [<- hk];refine PG aa ?_ h3;have:2 ^ i<=2 ^ 5:=Z2 ae aa;omega
theorem vZ {C:Nat}:∀ ts:List (Int × Int),(∀ t∈ts,t.2.natAbs<=C)->dI ts<=ts.length*C
 | [],_=>by simp [dI]
 | t::ts,h=>by
  have h1:=h t af;have h2:=vZ ts fun u hu=>h u (by simp [hu])
  simp only [dI,List.length_cons,Xn];omega
theorem VI {ts:List (Int × Int)} (hm:∀ t∈ts,t.1∈c6P) (hn:(ts.map Prod.fst).Nodup) (h0:∀ t∈ts,t.2≠0) (hl:ts.length<=6) (hb:∀ t∈ts,t.2.natAbs<9223372036854775808):∃ z,wi ts=some z∧-1<=z∧z<=1:=by
 refine ML fun hne=>DC 6 64 3 ae ?_
 have h1:=vZ (C:=9223372036854775808) ts fun t ht=>V8 (hb t ht)
 have h2:ts.length*9223372036854775808<=6*9223372036854775808:=Z4 _ hl;have hb1:dI ts<=73786976294838206464:=aa;have h3:=KW (n:=512) Ak rfl Ma hm hn h0 hb1 hb1 hne;have e:64*2 ^ 3=512:=ae;rw [e];exact h3
def rp (b:Nat) (x:Q) (a:Int):Prop:=okQ x∧x.1*(b:Int)=a*(x.2:Int)
theorem FA (n:Int) {d:Nat} (hd:0<d):(jO n d).1*(d:Int)=n*((jO n d).2:Int)∧0<(jO n d).2:=by
 obtain ⟨g,hg⟩:∃ g,g=Nat.gcd n.natAbs d:=⟨_,rfl⟩;have hg0:0<g:=by rw [hg];exact Wy _ hd
 obtain ⟨d',hd'⟩:g ∣ d:=by rw [hg];exact Nat.gcd_dvd_right ..
 obtain ⟨n',hn'⟩:(g:Int) ∣ n:=Q8 (by rw [hg];exact We ..)
 have e1:(jO n d).1=n':=by
  simp only [jO,<- hg];rw [hn'];exact Int.mul_ediv_cancel_left _ aa
 have e2:(jO n d).2=d':=by
  simp only [jO,<- hg];rw [hd'];exact Y4 _ hg0
 rw [e1,e2];refine ⟨?_,?_⟩
 ·rw [hn',hd',Int.natCast_mul,<- Int.mul_assoc,Y9 n' g]
 ·rcases Zf d' with h | h
  ·rw [h] at hd';omega
  ·exact h
theorem OH {n a:Int} {d b:Nat} (hd:0<d) (h:n*(b:Int)=a*(d:Int)):rp b (jO n d) a:=by
 obtain ⟨h1,h2⟩:=FA n hd;refine ⟨wH n hd,?_⟩;have hd':(d:Int)≠0:=aa;refine Yo hd' ?_
 calc (jO n d).1*(b:Int)*(d:Int)=(jO n d).1*(d:Int)*(b:Int):=by rw [Y7]
  _=n*((jO n d).2:Int)*(b:Int):=by rw [h1]
  _=n*(b:Int)*((jO n d).2:Int):=by rw [Y7]
  _=a*((jO n d).2:Int)*(d:Int):=by rw [h,Y7]
theorem Ju {b:Nat} {x y:Q} {a c:Int} (hx:rp b x a) (hy:rp b y c):rp b (nC x y) (a+c):=by
 have p1:=hx.1.1;have p2:=hy.1.1;refine OH (Yr p1 p2) ?_;rw [Ye,Ye,Int.natCast_mul]
 have e1:x.1*(y.2:Int)*(b:Int)=a*((x.2:Int)*(y.2:Int)):=by
  rw [Y7,hx.2,Int.mul_assoc]
 have e2:y.1*(x.2:Int)*(b:Int)=c*((x.2:Int)*(y.2:Int)):=by
  rw [Y7,hy.2,Int.mul_assoc,Y9 (y.2:Int)]
 rw [e1,e2]
theorem E9 {b:Nat} {x:Q} {a:Int} (z:Int) (hx:rp b x a):rp b (kZ x (z,1)) (z*a):=by
 have p1:=hx.1.1;refine OH (by simpa using p1) ?_;simp only [X7];rw [Y7,hx.2,Int.mul_assoc,Y9 (x.2:Int),<- Int.mul_assoc,Y9 a]
theorem He {b:Nat} {x:Q} {a:Int} (m:Nat) (hx:rp b x a):rp (b*m) x (a*m):=
 ⟨hx.1,by rw [Int.natCast_mul,<- Int.mul_assoc,hx.2,Y7]⟩
theorem zN (b:Nat):rp b (0,1) 0:=⟨⟨ae,ae⟩,af⟩
theorem xI {b:Nat} {x:Q} {a:Int} (h:rp b x a):x.2 ∣ b:=by
 have h1:x.1.natAbs*b=a.natAbs*x.2:=by
  have:=congrArg Int.natAbs h.2;simpa [Zn] using this
 have h2:x.2 ∣ x.1.natAbs*b:=⟨a.natAbs,by rw [h1,Zy]⟩;exact Nat.Coprime.dvd_of_dvd_mul_left (Nat.Coprime.symm h.1.2) h2
theorem OG {b:Nat} {x:Q} {a:Int} (hb:0<b) (h:rp b x a):x.1.natAbs*(b / x.2)=a.natAbs:=by
 obtain ⟨m,hm⟩:=xI h
 have h1:x.1.natAbs*b=a.natAbs*x.2:=by
  have:=congrArg Int.natAbs h.2;simpa [Zn] using this
 have p:=h.1.1;rw [hm,Y4 _ p];refine Nat.eq_of_mul_eq_mul_right p ?_;rw [<- h1,hm,Nat.mul_assoc,Zy m]
theorem OI {b:Nat} {x:Q} {a:Int} (hb:0<b) (h:rp b x a):x.1.natAbs<=a.natAbs∧x.2<=b:=by
 have h1:=OG hb h;have h2:=X6 hb (xI h);have h3:1<=b / x.2:=(Wq h.1.1).2 aa;refine ⟨?_,h2⟩;rw [<- h1];exact Zd _ h3
def bdL (b B:Nat) (s:List Q):Prop:=∀ x∈s,∃ a:Int,rp b x a∧a.natAbs<=B
theorem Me {b B C:Nat} {s:List Q} (h:bdL b B s) (hc:B<=C):bdL b C s:=fun x hx=>by
 obtain ⟨a,h1,h2⟩:=h x hx;exact ⟨a,h1,aa⟩
theorem xp {b B:Nat} {s:List Q} (m:Nat) (h:bdL b B s):bdL (b*m) (B*m) s:=fun x hx=>by
 obtain ⟨a,h1,h2⟩:=h x hx;refine ⟨a*m,He m h1,?_⟩;rw [Zn,Int.natAbs_natCast];exact Z4 _ h2
theorem An {b A C:Nat} (z:Int):∀ {o s:List Q},bdL b A o->bdL b C s->bdL b (A+z.natAbs*C) (js (z,1) o s)
 | x::o,y::s,ho,hs=>by
  obtain ⟨a,a1,a2⟩:=ho x af;obtain ⟨c,c1,c2⟩:=hs y af;have ih:=An z (o:=o) (s:=s) (fun u hu=>ho u (by simp [hu])) fun u hu=>hs u (by simp [hu])
  intro u hu;simp only [js,Zr] at hu;rcases hu with rfl | hu
  ·refine ⟨a+z*c,Ju a1 (E9 z c1),?_⟩;have h1:=Wm a (z*c);rw [Zn] at h1;have h2:=Z3 z.natAbs c2;omega
  ·exact ih u hu
 | [],s,_,_=>by intro u hu;simp [js] at hu
 | _::_,[],_,_=>by intro u hu;simp [js] at hu
theorem I5 (b n:Nat):bdL b 0 (List.replicate n (0,1)):=fun x hx=>by
 rw [X9] at hx;rw [hx.2];exact ⟨0,zN b,af⟩
theorem qg {b B:Nat} {s:List Q} {n:Nat} {z:Int} (h:bdL b B s):bdL b (z.natAbs*B) (ix n [s] [(z,1)]):=by
 have:=An z (I5 b n) h;simpa [ix,pT] using this
theorem xo {b A B:Nat} {s t:List Q} {n:Nat} {z w:Int} (h:bdL b A s) (h':bdL b B t):bdL b (z.natAbs*A+w.natAbs*B) (ix n [s,t] [(z,1),(w,1)]):=by
 have:=An w (An z (I5 b n) h) h';simpa [ix,pT] using this
theorem Ev {r:List Int} {b B:Nat} (hr:∀ x∈r,x.natAbs<=B):bdL b (B*b) (ofQ r):=fun x hx=>by
 obtain ⟨y,hy,rfl⟩:=Zg.1 hx;refine ⟨y*b,⟨⟨V2,af⟩,af⟩,?_⟩;rw [Zn,Int.natAbs_natCast];exact Z4 _ (hr y hy)
theorem yV {b B:Nat} {s:List Q} (hb:0<b) (h:bdL b B s):∀ x∈s,okQ x:=fun x hx=>by
 obtain ⟨a,h1,h2⟩:=h x hx;exact h1.1
theorem mj {b B:Nat} {s:List Q} (hb:0<b) (h:bdL b B s) (h1:b<1000000000000000000000000000000) (h2:B<1000000000000000000000000000000):okS s:=fun x hx=>by
 obtain ⟨a,r1,r2⟩:=h x hx;obtain ⟨l1,l2⟩:=OI hb r1;exact ⟨r1.1,bb (d:=30) (by show _<10 ^ 30;omega) ae,bb (d:=30) (by show _<10 ^ 30;omega) ae⟩
theorem LY {b:Nat}:∀ {s:List Q} {d:Nat},d ∣ b->(∀ x∈s,x.2 ∣ b)->dN d s ∣ b
 | [],d,h,_=>h
 | x::s,d,h,hs=>LY (s:=s) (Nat.lcm_dvd h (hs x af)) fun y hy=>hs y (by simp [hy])
theorem vR {b B:Nat} {s:List Q} (h:bdL b B s):dN 1 s ∣ b:=LY (Nat.one_dvd b) fun x hx=>by
 obtain ⟨a,r1,r2⟩:=h x hx;exact xI r1
theorem vY {b B d:Nat} (hb:0<b) (hd:d ∣ b):∀ {p:List Int} {s:List Q},bdL b B s->∀ t∈dh d p s,t.2.natAbs<=B
 | [],s,_,t,ht=>by simp [dh] at ht
 | p::ps,[],_,t,ht=>by simp [dh] at ht
 | p::ps,x::s,h,t,ht=>by
  obtain ⟨a,r1,r2⟩:=h x af;have ih:=vY hb hd (p:=ps) (s:=s) fun y hy=>h y (by simp [hy])
  simp only [dh] at ht
  have hx:(x.1*((d / x.2:Nat):Int)).natAbs<=B:=by
   rw [Zn,Int.natAbs_natCast];have h1:=OG hb r1;have h2:d / x.2<=b / x.2:=Nat.div_le_div_right (X6 hb hd);have h3:=Z3 x.1.natAbs h2;omega
  split at ht
  ·exact ih t ht
  ·simp only [Zr] at ht;rcases ht with rfl | ht
   ·exact hx
   ·exact ih t ht
theorem um {d:Nat}:∀ {p:List Int} {s:List Q},∀ t∈dh d p s,t.1∈p
 | [],s,t,ht=>by simp [dh] at ht
 | p::ps,[],t,ht=>by simp [dh] at ht
 | p::ps,x::s,t,ht=>by
  have ih:=um (d:=d) (p:=ps) (s:=s);simp only [dh] at ht;split at ht
  ·exact List.mem_cons_of_mem _ (ih t ht)
  ·simp only [Zr] at ht;rcases ht with rfl | ht
   ·simp
   ·exact List.mem_cons_of_mem _ (ih t ht)
theorem AF {d:Nat}:∀ {p:List Int} {s:List Q},p.Nodup->((dh d p s).map Prod.fst).Nodup
 | [],s,_=>by simp [dh]
 | p::ps,[],_=>by simp [dh]
 | p::ps,x::s,h=>by
  rw [W0] at h;have ih:=AF (d:=d) (p:=ps) (s:=s) h.2;simp only [dh];split
  ·exact ih
  ·simp only [Zz,W0];refine ⟨fun hm=>?_,ih⟩;obtain ⟨t,ht,e⟩:=Zg.1 hm;exact h.1 (by rw [<- e];exact um t ht)
theorem AG {d:Nat} (hd:0<d):∀ {p:List Int} {s:List Q},(∀ x∈s,0<x.2∧x.2 ∣ d)->∀ t∈dh d p s,t.2≠0
 | [],s,_,t,ht=>by simp [dh] at ht
 | p::ps,[],_,t,ht=>by simp [dh] at ht
 | p::ps,x::s,h,t,ht=>by
  have ih:=AG hd (p:=ps) (s:=s) fun y hy=>h y (by simp [hy])
  obtain ⟨h1,h2⟩:=h x af;have h3:0<d / x.2:=V9 (X6 hd h2) h1;simp only [dh] at ht;split at ht
  ·exact ih t ht
  ·rename_i hx;simp only [Zr] at ht;rcases ht with rfl | ht
   ·exact Ws hx aa
   ·exact ih t ht
def in6 (p:List Int):Prop:=p.Nodup∧p.length<=6∧∀ x∈p,x∈c6P
theorem og {p:List Int} {s:List Q} (hp:in6 p):∀ t∈tq p s,t.1∈c6P:=fun t ht=>hp.2.2 _ (um t ht)
theorem EJ {p:List Int} {s:List Q} {b B:Nat} (hp:in6 p) (hb:0<b) (h:bdL b B s) (hB:B<9223372036854775808):JO (tq p s):=by
 refine ⟨?_,fun t ht=>?_⟩
 ·have:=oZ (d:=dN 1 s) p s;have:=hp.2.1;unfold tq;omega
 ·obtain ⟨h1,h2⟩:=Rf _ (og hp t ht);exact ⟨h1,h2,Zb (vY hb (vR h) h t ht) hB⟩
theorem sg6 {p:List Int} {s:List Q} {b B:Nat} (hp:in6 p) (hb:0<b) (h:bdL b B s) (hB:B<9223372036854775808):∃ z,uQ p s z∧-1<=z∧z<=1:=by
 have h1:=EJ hp hb h hB;have hd:∀ x∈s,0<x.2:=fun x hx=>(yV hb h x hx).1
 have hl:(tq p s).length<=6:=by
  have:=oZ (d:=dN 1 s) p s;have:=hp.2.1;unfold tq;omega
 obtain ⟨z,hz,z1⟩:=VI (og hp) (AF hp.1) (AG (kP ae hd) fun x hx=>⟨hd x hx,(nZ (s:=s) (d:=1)).2 x hx⟩) hl fun t ht=>(h1.2 t ht).2.2
 exact ⟨z,⟨Fl h1,F8 (og hp),hz⟩,z1⟩
theorem vG {most:Int}:∀ (ts:List (Int × Int)) (lo hi C:Int) (a:Int × Int),(∀ t∈ts,2<=t.1∧t.1<128)->lo<=hi->-C<=lo->hi<=C->fM most ts (lo,hi)=some a ->
  a.1<=a.2∧-(C+(dI ts:Int)*469762049)<=a.1∧a.2<=C+(dI ts:Int)*469762049
 | [],lo,hi,C,a,hl,h1,h2,h3,ha=>by
  simp only [fM,Z9] at ha;subst ha;simp [dI];omega
 | t::ts,lo,hi,C,a,hl,h1,h2,h3,ha=>by
  obtain ⟨l1,l2⟩:=hl t af;simp only [fM] at ha;split at ha
  ·cases ha
  ·rename_i hc;split at ha
   ·cases ha
   ·rename_i f hf;have hflt:=D9 (p:=t.1.toNat) aa aa hf;obtain ⟨b,hb'⟩:∃ b:Int,b=(if t.1=2 then (f:Int) else f+1):=⟨_,rfl⟩;rw [<- hb'] at ha;have hbb:(f:Int)<=b∧b<=f+1:=by subst hb';split <;> omega
    obtain ⟨m,hm⟩:∃ m:Int,m=(t.2.natAbs:Int):=⟨_,rfl⟩
    have bd:∀ z:Int,0<=z->z<=469762049->-(m*469762049)<=t.2*z∧t.2*z<=m*469762049:=by
     intro z hz0 hz;have a1:t.2*z<=m*z:=Zw aa hz0;have a2:(-m)*z<=t.2*z:=Zw aa hz0;have a3:m*z<=m*469762049:=Ze hz aa;rw [Xw] at a2;omega
    have bx:=bd f aa aa;have by_:=bd b aa aa;have:=vG ts _ _ (C+m*469762049) a (fun t ht=>hl t (by simp [ht])) aa aa aa ha
    have e:((dI (t::ts):Nat):Int)*469762049=m*469762049+(dI ts:Int)*469762049:=by
     rw [dI,Int.natCast_add,Ye,<- hm]
    rw [e];omega
theorem FT {a b:Int} {M:Nat} (hb:0<b) (h:a.natAbs<=M*b.natAbs):(a / b).natAbs<=M:=by
 have e:((M*b.natAbs:Nat):Int)=(M:Int)*b:=by rw [Int.natCast_mul];congr 1;omega
 have h1:a<=(M:Int)*b:=aa;have h2:(-(M:Int))*b<=a:=by rw [Xw];omega
 have h3 : -(M:Int)<=a / b:=(Wu hb).2 h2;have h4:a / b<=(M:Int):=Int.le_of_lt_add_one ((Int.ediv_lt_iff_lt_mul hb).2 (by rw [Ye,Int.one_mul];omega));omega
theorem Hu {x y:Int × Int} {d g:Int} (h1:0<y.1) (h2:y.1<=y.2):vu x y d g=if x.1*g / ((if x.1<0 then y.1 else y.2)*d)=x.2*g / ((if x.2<0 then y.2 else y.1)*d) then some (x.1*g / ((if x.1<0 then y.1 else y.2)*d)) else none:=by
 unfold vu;have hn:¬ y.2<=0:=aa;simp only [hn,if_false];rw [if_neg aa]
theorem Tz:∀ p∈c6P,(match t6 p.toNat with | some a=>decide (67108864<=a) | none=>true)=true:=aJ
theorem Bp {most:Int}:∀ (ts:List (Int × Int)) (a0 a:Int × Int),(∀ t∈ts,t.1∈c6P∧0<t.2)->fM most ts a0=some a->a0.1+ts.length*67108864<=a.1
 | [],a0,a,_,h=>by
  simp only [fM,Z9] at h;subst h;simp
 | t::ts,a0,a,hl,ha=>by
  obtain ⟨l1,l2⟩:=hl t af;simp only [fM] at ha;split at ha
  ·cases ha
  ·split at ha
   ·cases ha
   ·rename_i f hf;have hc:=Tz _ l1;rw [hf] at hc;have hc:67108864<=f:=of_decide_eq_true hc;obtain ⟨b,hb'⟩:∃ b:Int,b=(if t.1=2 then (f:Int) else f+1):=⟨_,rfl⟩;rw [<- hb'] at ha;have hbb:(f:Int)<=b:=by subst hb';split <;> omega
    have ih:=Bp ts _ a (fun u hu=>hl u (by simp [hu])) ha
    have m1:(67108864:Int)<=t.2*f:=by
     have:=Zw (a:=1) (b:=t.2) (c:=(f:Int)) aa aa;omega
    have m2:(67108864:Int)<=t.2*b:=by
     have:=Zw (a:=1) (b:=t.2) (c:=b) aa aa;omega
    simp only [List.length_cons,Int.natCast_add,Ye] at ih ⊢;omega
theorem MW {tx ty:List (Int × Int)} {d g:Nat} {q:Int} (hx:JO tx) (hy6:∀ t∈ty,t.1∈c6P∧0<t.2) (ne:ty≠[]) (hd:0<d) (h:Bf tx ty d g=some q):q.natAbs<=8*dI tx*g:=by
 unfold Bf at h;split at h
 ·rename_i x y hx' hy';split at h
  ·cases h
  ·obtain ⟨a1,a2,a3⟩:=vG tx 0 0 0 x (fun t ht=>⟨(hx.2 t ht).1,(hx.2 t ht).2.1⟩) aa aa aa hx';obtain ⟨b1,_,_⟩:=vG ty 0 0 0 y (fun t ht=>Rf _ (hy6 t ht).1) aa aa aa hy';have b2:=Bp ty (0,0) y hy6 hy'
   have hlen:1<=ty.length:=by cases ty with
    | nil=>exact absurd rfl ne
    | cons t ts=>simp
   have b3:(67108864:Int)<=y.1:=by
    have:=Zw (a:=1) (b:=(ty.length:Int)) (c:=67108864) aa aa;simp only at b2;omega
   rw [Hu aa b1] at h;obtain ⟨lo,hlo⟩:∃ lo,lo=if x.1<0 then y.1 else y.2:=⟨_,rfl⟩
   rw [<- hlo] at h;obtain ⟨hi,hhi⟩:∃ hi,hi=if x.2<0 then y.2 else y.1:=⟨_,rfl⟩
   rw [<- hhi] at h;by_cases hc:x.1*(g:Int) / (lo*d)=x.2*g / (hi*d)
   ·rw [if_pos hc] at h;simp only [Z9] at h;rw [<- h];have lo0:67108864<=lo:=by rw [hlo];split <;> omega
    refine FT (Yq aa aa) ?_;rw [Zn,Zn,Int.natAbs_natCast,Int.natAbs_natCast]
    have e0:x.1.natAbs<=dI tx*469762049:=by
     have e:((dI tx*469762049:Nat):Int)=(dI tx:Int)*469762049:=by rw [Int.natCast_mul];rfl
     omega
    have e1:x.1.natAbs*g<=dI tx*469762049*g:=Z4 _ e0
    have e2:dI tx*469762049*g<=8*dI tx*g*67108864:=by
     have:8*dI tx*g*67108864=dI tx*536870912*g:=by
      rw [Zy 8,Wt _ 8 g,Nat.mul_assoc (dI tx*g),Wt (dI tx) 536870912 g]
     rw [this];exact Z4 _ (Z3 _ ae)
    have e3:67108864<=lo.natAbs*d:=Z1 aa (Zd _ hd);exact Z1 e1 (Z1 e2 (Z3 _ e3))
   ·rw [if_neg hc] at h;cases h
 ·cases h
def smT (z:Int) (ts:List (Int × Int)):List (Int × Int):=ts.map fun t=>(t.1,z*t.2)
theorem EO (h:Int->Int) (z:Int):∀ ts,gk h (smT z ts)=z*gk h ts
 | []=>by simp [smT,gk]
 | t::ts=>by
  have:=EO h z ts;unfold smT at this;simp only [smT,Zz,gk,this,Wh,Int.mul_assoc]
theorem Jl (z c:Int):∀ ts,cfT (smT z ts) c=z*cfT ts c
 | []=>by simp [smT,cfT]
 | t::ts=>by
  have:=Jl z c ts;unfold smT at this;simp only [smT,Zz,cfT,this,Wh];split <;> simp
theorem Ol (z:Int):∀ ts,dI (smT z ts)=z.natAbs*dI ts
 | []=>by simp [smT,dI]
 | t::ts=>by
  have:=Ol z ts;unfold smT at this;simp only [smT,Zz,dI,this,Zp,Zn]
theorem Mi (h:Int->Int):∀ a b,gk h (a++b)=gk h a+gk h b
 | [],b=>by simp [gk]
 | t::a,b=>by simp only [List.cons_append,gk,Mi h a b];omega
theorem Ru (c:Int):∀ a b,cfT (a++b) c=cfT a c+cfT b c
 | [],b=>by simp [cfT]
 | t::a,b=>by simp only [List.cons_append,cfT,Ru c a b];omega
theorem Ux:∀ a b,dI (a++b)=dI a+dI b
 | [],b=>by simp [dI]
 | t::a,b=>by simp only [List.cons_append,dI,Ux a b];omega
theorem Pe {x y:Int × Int} {d g X Y:Int} {Sx Sy:Nat} (d0:0<d) (g0:0<g) (y0:0<y.1) (x1:x.1<=X) (x2:X<=x.2) (x3:x.2-x.1<=Sx) (y1:y.1<=Y) (y2:Y<=y.2) (y3:y.2-y.1<=Sy) :
  (∃ q,vu x y d g=some q∧q=x.2*g / ((if x.2<0 then y.2 else y.1)*d))∨vu x y d g=none∧∃ q:Int,q=x.2*g / ((if x.2<0 then y.2 else y.1)*d)∧(g*X-q*d*Y).natAbs<=g.natAbs*Sx+(q*d).natAbs*Sy:=by
 rw [Hu y0 aa];obtain ⟨lo,hlo⟩:∃ lo,lo=if x.1<0 then y.1 else y.2:=⟨_,rfl⟩
 obtain ⟨hi,hhi⟩:∃ hi,hi=if x.2<0 then y.2 else y.1:=⟨_,rfl⟩
 rw [<- hlo,<- hhi];have lo0:y.1<=lo∧lo<=y.2:=by rw [hlo];split <;> omega
 have hi0:y.1<=hi∧hi<=y.2:=by rw [hhi];split <;> omega
 have pl:0<lo*d:=Yq aa d0;have ph:0<hi*d:=Yq aa d0;by_cases he:x.1*g / (lo*d)=x.2*g / (hi*d)
 ·left;exact ⟨_,by rw [if_pos he,he],rfl⟩
 ·right;refine ⟨if_neg he,_,rfl,?_⟩;obtain ⟨q1,hq1⟩:∃ q1,q1=x.1*g / (lo*d):=⟨_,rfl⟩;obtain ⟨q,hq⟩:∃ q,q=x.2*g / (hi*d):=⟨_,rfl⟩;rw [<- hq1,<- hq] at he;rw [<- hq];have g1:q1*(lo*d)<=x.1*g:=(Wu pl).1 aa;have hxg:x.1*g<=x.2*g:=Zw aa aa
  have hle:q1<=q:=by
   rw [hq];refine (Wu ph).2 ?_;refine Int.le_trans ?_ (Int.le_trans g1 hxg);by_cases hs:0<=q1
   ·have hx0:¬ x.1<0:=by
     intro hneg;have a1:0<=q1*(lo*d):=Yi hs aa;have a2:x.1*g<0:=Int.mul_neg_of_neg_of_pos hneg g0;omega
    rw [if_neg hx0] at hlo;refine Ze (Zw aa aa) hs
   ·have hx0:x.1<0:=by
     have:x.1*g<0*(lo*d):=(Int.ediv_lt_iff_lt_mul pl).1 aa;rw [Int.zero_mul] at this;by_cases hh:x.1<0
     ·exact hh
     ·have:=Yi (a:=x.1) (b:=g) aa aa;omega
    rw [if_pos hx0] at hlo;have a3:lo*d<=hi*d:=Zw aa aa;exact Xm aa a3
  have g2:x.1*g<q*(lo*d):=(Int.ediv_lt_iff_lt_mul pl).1 aa;have g3:q*(hi*d)<=x.2*g:=(Wu ph).1 aa;obtain ⟨u,hu⟩:∃ u,u=q*d:=⟨_,rfl⟩;have e1:q*(lo*d)=u*lo:=by rw [hu,Y9 lo,Int.mul_assoc]
  have e2:q*(hi*d)=u*hi:=by rw [hu,Y9 hi,Int.mul_assoc]
  rw [e1] at g2;rw [e2] at g3;rw [<- hu]
  have m1:(u*(lo-Y)).natAbs<=u.natAbs*Sy:=by
   rw [Zn];exact Z3 _ aa
  have m2:(u*(hi-Y)).natAbs<=u.natAbs*Sy:=by
   rw [Zn];exact Z3 _ aa
  rw [Int.mul_sub] at m1 m2
  have k1:g*X<=x.1*g+g*Sx:=by
   have:g*X<=g*(x.1+Sx):=Ze aa aa;rw [Wh,Y9 g x.1] at this;exact this
  have k2:x.2*g-g*Sx<=g*X:=by
   have:g*(x.2-Sx)<=g*X:=Ze aa aa;rw [Int.mul_sub,Y9 g x.2] at this;exact this
  have e3:((g.natAbs*Sx:Nat):Int)=g*Sx:=by rw [Int.natCast_mul];congr 1;omega
  omega
theorem LK {n:Nat}:∀ ts:List (Int × Int),(∀ t∈ts,lg t.1 n+1<=4*2 ^ n)->(aM n ts (0,0)).1.natAbs<=dI ts*(4*2 ^ n)∧(aM n ts (0,0)).2.natAbs<=dI ts*(4*2 ^ n)
 | [],_=>by simp [aM,dI]
 | t::ts,h=>by
  obtain ⟨h1,h2⟩:=LK ts fun u hu=>h u (by simp [hu])
  have h3:=h t af;obtain ⟨P,hP⟩:∃ P,P=4*2 ^ n:=⟨_,rfl⟩;rw [<- hP] at h1 h2 h3 ⊢;obtain ⟨x,hx⟩:∃ x:Int,x=lg t.1 n:=⟨_,rfl⟩;obtain ⟨y,hy⟩:∃ y:Int,y=if t.1=2 then x else x+1:=⟨_,rfl⟩
  have hxy:y=x∨y=x+1:=by rw [hy];split <;> simp
  have e:aM n (t::ts) (0,0)=aM n ts (if t.2<0 then (0+y*t.2,0+x*t.2) else (0+x*t.2,0+y*t.2)):=by
   rw [hy,hx];rfl
  rw [e,sf ts];simp only [dI,X3,Nat.add_mul]
  have m1:(x*t.2).natAbs<=t.2.natAbs*P:=by
   rw [Zn,Zy];exact Z3 _ aa
  have m2:(y*t.2).natAbs<=t.2.natAbs*P:=by
   rw [Zn,Zy];exact Z3 _ aa
  split <;> simp only <;> omega
theorem Iy {n:Nat}:∀ ts:List (Int × Int),(∀ t∈ts,0<t.2∧2 ^ n<=lg t.1 n)->ts≠[]->((2 ^ n:Nat):Int)<=(aM n ts (0,0)).1
 | [],_,h=>(h rfl).elim
 | t::ts,h,_=>by
  obtain ⟨h1,h2⟩:=h t af;obtain ⟨P,hP⟩:∃ P:Nat,P=2 ^ n:=⟨_,rfl⟩
  have e:aM n (t::ts) (0,0)=aM n ts (0+(lg t.1 n:Int)*t.2,0+(if t.1=2 then (lg t.1 n:Int) else (lg t.1 n:Int)+1)*t.2):=by
   have:¬ t.2<0:=aa;simp only [aM,this,if_false]
  rw [e,sf ts];simp only [X3]
  have h3:(lg t.1 n:Int)<=lg t.1 n*t.2:=by
   have:=Ze (a:=1) (b:=t.2) (c:=(lg t.1 n:Int)) aa aa;simpa using this
  have h4:0<=(aM n ts (0,0)).1:=by
   by_cases ht:ts=[]
   ·rw [ht];simp [aM]
   ·have:=Iy ts (fun u hu=>h u (by simp [hu])) ht;omega
  rw [<- hP] at h2 ⊢;omega
theorem Qv {tx ty:List (Int × Int)} {d g:Nat} {i:Nat} (hi:i<6) (d0:0<d) (g0:0<g) (hx:∀ t∈tx,t.1∈c6P) (hy:∀ t∈ty,t.1∈c6P∧0<t.2) (ne:ty≠[]) :
  (∃ q:Int,vu (aM (64*2 ^ i) tx (0,0)) (aM (64*2 ^ i) ty (0,0)) d g=some q∧q.natAbs<=4*dI tx*g)∨(vu (aM (64*2 ^ i) tx (0,0)) (aM (64*2 ^ i) ty (0,0)) d g=none∧∃ q:Int,q.natAbs<=4*dI tx*g∧((g:Int)*gk (lgI (64*2 ^ i)) tx-q*d*gk (lgI (64*2 ^ i)) ty).natAbs<=g*dI tx+(q*d).natAbs*dI ty):=by
 obtain ⟨n,hn⟩:∃ n,n=64*2 ^ i:=⟨_,rfl⟩;have hx1:∀ t∈tx,lg t.1 n+1<=4*2 ^ n:=fun t ht=>by rw [hn];exact (Rh (hx t ht) hi).2.2
 have hy1:∀ t∈ty,0<t.2∧2 ^ n<=lg t.1 n:=fun t ht=>by rw [hn];exact ⟨(hy t ht).2,(Rh (hy t ht).1 hi).2.1⟩
 rw [<- hn];obtain ⟨x1,x2,x3⟩:=mT n tx;obtain ⟨y1,y2,y3⟩:=mT n ty;obtain ⟨b1,b2⟩:=LK tx hx1;have yp:=Iy ty hy1 ne;have p2:0<2 ^ n:=Ya ae;obtain ⟨P,hP⟩:∃ P:Nat,P=2 ^ n:=⟨_,rfl⟩;rw [<- hP] at b1 b2 yp p2;have y0:0<(aM n ty (0,0)).1:=aa;have hh:=Pe (d:=(d:Int)) (g:=(g:Int)) aa aa y0 x1 x2 x3 y1 y2 y3
 obtain ⟨x,hx'⟩:∃ x,x=aM n tx (0,0):=⟨_,rfl⟩;obtain ⟨y,hy'⟩:∃ y,y=aM n ty (0,0):=⟨_,rfl⟩;rw [<- hx'] at x1 x2 x3 b1 b2 hh ⊢;rw [<- hy'] at y1 y2 y3 yp y0 hh ⊢
 have hb:∀ q,q=x.2*(g:Int) / ((if x.2<0 then y.2 else y.1)*(d:Int))->q.natAbs<=4*dI tx*g:=by
  intro q hq;rw [hq];obtain ⟨hi',hhi⟩:∃ hi',hi'=if x.2<0 then y.2 else y.1:=⟨_,rfl⟩
  rw [<- hhi];have hi0:(P:Int)<=hi':=by rw [hhi];split <;> omega
  refine FT (Yq aa aa) ?_;rw [Zn,Zn,Int.natAbs_natCast,Int.natAbs_natCast];have e1:x.2.natAbs*g<=dI tx*(4*P)*g:=Z4 _ b2
  have e2:dI tx*(4*P)*g=4*dI tx*g*P:=by
   rw [Zy 4 P,<- Nat.mul_assoc,Zy 4 (dI tx),Wt (dI tx) P 4,Wt _ P g]
  have e3:P<=hi'.natAbs*d:=Z1 aa (Zd _ d0);rw [e2] at e1;exact Z1 e1 (Z3 _ e3)
 rcases hh with ⟨q,h1,h2⟩ | ⟨h0,q,h1,h2⟩
 ·exact Or.inl ⟨q,h1,hb q h2⟩
 ·exact Or.inr ⟨h0,q,hb q h1,by simpa using h2⟩
theorem SU {tx ty:List (Int × Int)} {d g:Nat} (d0:0<d) (g0:0<g) (hx:∀ t∈tx,t.1∈c6P) (hy:∀ t∈ty,t.1∈c6P∧0<t.2) (ne:ty≠[]) (hb:g*dI tx+4*dI tx*g*d*dI ty<=73786976294838206464) :
  (∃ q:Int,∀ c∈c6P,(g:Int)*cfT tx c=q*d*cfT ty c)∨∀ r i,i+r=6->i<=3->∃ q,FL tx ty d g r (64*2 ^ i)=some q∧q.natAbs<=4*dI tx*g∧∃ j,j<=3∧vu (aM (64*2 ^ j) tx (0,0)) (aM (64*2 ^ j) ty (0,0)) d g=some q:=by
 by_cases hp:∃ q:Int,∀ c∈c6P,(g:Int)*cfT tx c=q*d*cfT ty c
 ·exact Or.inl hp
 ·right;intro r
  induction r with
  | zero=>intro i h1 h2;omega
  | succ r ih=>
   intro i h1 h2;unfold FL;rcases Qv (d:=d) (g:=g) (i:=i) aa d0 g0 hx hy ne with ⟨q,q1,q2⟩ | ⟨q0,q,q1,h⟩
   ·exact ⟨q,by rw [q1],q2,i,h2,q1⟩
   ·rw [q0];simp only;by_cases hi:i=3
    ·exfalso;subst hi;have e:64*2 ^ 3=512:=ae;rw [e] at h
     ·refine hp ⟨q,fun c hc=>?_⟩
      have hm:∀ t∈smT g tx++smT (-(q*d)) ty,t.1∈c6P:=by
       intro t ht;rcases W4.1 ht with ht | ht
       ·obtain ⟨u,hu,rfl⟩:=Zg.1 ht;exact hx u hu
       ·obtain ⟨u,hu,rfl⟩:=Zg.1 ht;exact (hy u hu).1
      have hS:dI (smT g tx++smT (-(q*d)) ty)=g*dI tx+(q*d).natAbs*dI ty:=by
       rw [Ux,Ol,Ol,X4,Int.natAbs_natCast]
      have hle:g*dI tx+(q*d).natAbs*dI ty<=73786976294838206464:=by
       refine Z1 (Nat.add_le_add_left (Z4 _ ?_) _) hb;rw [Zn,Int.natAbs_natCast];exact Z4 _ q1
      have hs:gk (lgI 512) (smT g tx++smT (-(q*d)) ty)=(g:Int)*gk (lgI 512) tx-q*d*gk (lgI 512) ty:=by
       rw [Mi,EO,EO,Xw];omega
      have:=xP (n:=512) Ak rfl Ma hm (by rw [hS];exact hle) (by rw [hs];exact Z1 h hle) c hc;rw [Ru,Jl,Jl,Xw] at this;omega
    ·have:=ih (i+1) aa aa;have e:64*2 ^ i*2=64*2 ^ (i+1):=by rw [Nat.pow_succ,Nat.mul_assoc]
     rw [e];exact this
theorem SF (n d:Int):(tW n d).1.natAbs<=n.natAbs:=by
 unfold tW;split
 ·have:=(Ab (-n) d.natAbs).1;rwa [X4] at this
 ·exact (Ab n d.natAbs).1
theorem Hr {A m:Nat}:∀ {a b:List Q} {k:Q},(∀ x∈a,0<x.2∧x.1.natAbs<=A)->(∀ y∈b,0<y.2∧y.2<=m)->0<k.2->k.1.natAbs<=A*m->0<(gn k a b).2∧(gn k a b).1.natAbs<=A*m
 | [],b,k,_,_,h1,h2=>by simpa [gn] using ⟨h1,h2⟩
 | x::a,[],k,_,_,h1,h2=>by simpa [gn] using ⟨h1,h2⟩
 | x::a,y::b,k,ha,hb,h1,h2=>by
  obtain ⟨x1,x2⟩:=ha x af;obtain ⟨y1,y2⟩:=hb y af;simp only [gn];refine Hr (fun u hu=>ha u (by simp [hu])) (fun u hu=>hb u (by simp [hu])) ?_ ?_
  ·split
   ·exact h1
   ·rename_i h;exact (Lq (Ws aa h)).1
  ·split
   ·exact h2
   ·unfold zh;refine Z1 (SF _ _) ?_;rw [Zn,Int.natAbs_natCast];exact Zq x2 y2
def JX (q:Int):List Q->List Q->Prop
 | x::a,y::b=>x.1*(y.2:Int)=q*(y.1*(x.2:Int))∧JX q a b
 | _,_=>True
theorem jh {x:Q} (hx:okQ x) {n:Int} {d:Nat} (hd:0<d) (h:x.1*(d:Int)=n*(x.2:Int)):jO n d=x:=by
 obtain ⟨h1,h2⟩:=FA n hd;have ho:=wH n hd;obtain ⟨y,hy⟩:∃ y,y=jO n d:=⟨_,rfl⟩;rw [<- hy] at h1 h2 ho ⊢;have hd':(d:Int)≠0:=aa
 have e:x.1*(y.2:Int)=y.1*(x.2:Int):=by
  refine Yo hd' ?_;rw [Y7,h,Y7 y.1,h1,Y7]
 have e1:x.2 ∣ y.2:=xI (b:=y.2) (a:=y.1) ⟨hx,e⟩;have e2:y.2 ∣ x.2:=xI (b:=x.2) (a:=x.1) ⟨ho,e.symm⟩;have e3:x.2=y.2:=Nat.dvd_antisymm e1 e2;rw [e3] at e;have e4:=Yo aa e;exact Prod.ext e4.symm e3.symm
theorem Fe {q:Int}:∀ {a b:List Q} {k:Q},(∀ x∈a,okQ x)->(∀ y∈b,okQ y)->JX q a b->(k=(q,1)∨True)->gn k a b=(q,1)∨(gn k a b=k∧∀ i,i<a.length->∀ y,b[i]? = some y->y.1=0)
 | [],b,k,_,_,_,_=>Or.inr ⟨by simp [gn],fun i h=>by simp at h⟩
 | x::a,[],k,_,_,_,_=>Or.inr ⟨by simp [gn],fun i h y hy=>by simp at hy⟩
 | x::a,y::b,k,ha,hb,hm,_=>by
  have hx:=ha x af;have hy:=hb y af;obtain ⟨m1,m2⟩:=hm;simp only [gn];by_cases h0:y.1=0
  ·rw [if_pos h0];rcases Fe (k:=k) (fun u hu=>ha u (by simp [hu])) (fun u hu=>hb u (by simp [hu])) m2 (Or.inr trivial) with h | ⟨h,h'⟩
   ·exact Or.inl h
   ·refine Or.inr ⟨h,fun i hi z hz=>?_⟩;cases i with
    | zero=>simp at hz;rw [<- hz];exact h0
    | succ i=>exact h' i (by simpa using hi) z (by simpa using hz)
  ·rw [if_neg h0]
   have e:zh x y=(q,1):=by
    unfold zh tW;rw [m1];have p1:=hx.1;by_cases hn:(x.2:Int)*y.1<0
    ·rw [if_pos hn];refine jh ⟨V2,af⟩ aa ?_;have:(((x.2:Int)*y.1).natAbs:Int) = -((x.2:Int)*y.1):=aa;rw [this,Y9 (x.2:Int)];simp [Int.mul_neg]
    ·rw [if_neg hn];have hne:(x.2:Int)*y.1≠0:=Ws aa h0;refine jh ⟨V2,af⟩ aa ?_;have:(((x.2:Int)*y.1).natAbs:Int)=(x.2:Int)*y.1:=aa;rw [this,Y9 (x.2:Int)];simp
   rw [e];rcases Fe (k:=(q,1)) (fun u hu=>ha u (by simp [hu])) (fun u hu=>hb u (by simp [hu])) m2 (Or.inr trivial) with h | ⟨h,h'⟩
   ·exact Or.inl h
   ·exact Or.inl h
theorem Lb {q:Int}:∀ {a b:List Q},(∀ x∈a,okQ x)->(∀ y∈b,okQ y)->JX q a b->jd (q,1) a b=true
 | [],b,_,_,_=>by simp [jd]
 | x::a,[],_,_,_=>by simp [jd]
 | x::a,y::b,ha,hb,hm=>by
  have hx:=ha x af;have hy:=hb y af;obtain ⟨m1,m2⟩:=hm;simp only [jd,Z8,decide_eq_true_eq];refine ⟨?_,Lb (fun u hu=>ha u (by simp [hu])) (fun u hu=>hb u (by simp [hu])) m2⟩;unfold kZ;refine jh hx (by have:=hy.1;omega) ?_;simp only [Xz];rw [m1,Int.mul_assoc]
theorem Lc {q:Int}:∀ {a b:List Q},a.length=b.length->(∀ x∈a,okQ x)->(∀ y∈b,okQ y)->JX q a b->(∀ i,i<a.length->∀ y,b[i]? = some y->y.1=0)->jd (0,1) a b=true
 | [],b,_,_,_,_,_=>by simp [jd]
 | x::a,[],_,_,_,_,_=>by simp [jd]
 | x::a,y::b,hl,ha,hb,hm,h0=>by
  have hx:=ha x af;have hy:=hb y af;obtain ⟨m1,m2⟩:=hm;have y0:y.1=0:=h0 0 af y af;simp only [jd,Z8,decide_eq_true_eq];refine ⟨?_,Lc (by simpa using hl) (fun u hu=>ha u (by simp [hu])) (fun u hu=>hb u (by simp [hu])) m2 fun i hi z hz=>h0 (i+1) (by simpa using hi) z (by simpa using hz)⟩;unfold kZ;have p:=hy.1;refine jh hx aa ?_
  rw [y0] at m1;simp only [Int.zero_mul,Int.mul_zero,Xz] at m1 ⊢;exact m1
theorem Sf {q:Int} {a b:List Q} (hl:a.length=b.length) (ha:∀ x∈a,okQ x) (hb:∀ y∈b,okQ y) (hm:JX q a b):jd (gn (0,1) a b) a b=true:=by
 rcases Fe (k:=(0,1)) ha hb hm (Or.inr trivial) with h | ⟨h,h'⟩
 ·rw [h];exact Lb ha hb hm
 ·rw [h];exact Lc hl ha hb hm h'
theorem Q6 {d g:Nat} {q:Int} (d0:0<d) (g0:0<g):∀ {p:List Int} {a b:List Q},p.Nodup->a.length=p.length->b.length=p.length->(∀ x∈a,0<x.2∧x.2 ∣ d)->(∀ y∈b,0<y.2∧y.2 ∣ g) ->
  (∀ c∈p,(g:Int)*cfT (dh d p a) c=q*d*cfT (dh g p b) c)->JX q a b
 | [],a,b,_,la,lb,_,_,_=>by
  have:a=[]:=X8.1 la;subst this;simp [JX]
 | c::p,[],b,_,la,_,_,_,_=>by simp at la
 | c::p,x::a,[],_,_,lb,_,_,_=>by simp at lb
 | c::p,x::a,y::b,hn,la,lb,ha,hb,h=>by
  rw [W0] at hn;obtain ⟨x1,dx,hdx⟩:=ha x af;obtain ⟨y1,gy,hgy⟩:=hb y af
  have k1:∀ (D:Nat) (s:List Q),cfT (dh D p s) c=0:=fun D s=>Ai _ fun hm=>by
   obtain ⟨t,ht,e⟩:=Zg.1 hm;exact hn.1 (by rw [<- e];exact um t ht)
  have k2:∀ (D:Nat) (z:Q) (s:List Q),cfT (dh D (c::p) (z::s)) c=z.1*((D / z.2:Nat):Int):=fun D z s=>by
   simp only [dh];split
   ·rename_i h0;rw [k1,h0];simp
   ·simp [cfT,k1]
  have k3:∀ (D:Nat) (z:Q) (s:List Q) (e:Int),e≠c->cfT (dh D (c::p) (z::s)) e=cfT (dh D p s) e:=fun D z s e he=>by
   simp only [dh];split
   ·rfl
   ·simp [cfT,Ne.symm he]
  refine ⟨?_,Q6 d0 g0 hn.2 (by simpa using la) (by simpa using lb) (fun u hu=>ha u (by simp [hu])) (fun u hu=>hb u (by simp [hu])) fun e he=>?_⟩
  ·have:=h c af;rw [k2,k2,hdx,hgy,Y4 _ x1,Y4 _ y1] at this
   have dx0:0<dx:=by
    rcases Zf dx with h | h
    ·rw [h] at hdx;omega
    ·exact h
   have gy0:0<gy:=by
    rcases Zf gy with h | h
    ·rw [h] at hgy;omega
    ·exact h
   have hne:(gy:Int)*(dx:Int)≠0:=Ws aa aa;refine Yo hne ?_;rw [Int.natCast_mul,Int.natCast_mul] at this
   have l:(y.2:Int)*(gy:Int)*(x.1*(dx:Int))=x.1*(y.2:Int)*((gy:Int)*(dx:Int)):=by
    simp only [Y9,Wz,Int.mul_assoc]
   have r:q*((x.2:Int)*(dx:Int))*(y.1*(gy:Int))=q*(y.1*(x.2:Int))*((gy:Int)*(dx:Int)):=by
    simp only [Y9,Wz,Int.mul_assoc]
   rw [<- l,<- r];exact this
  ·have hec:e≠c:=fun hh=>hn.1 (hh ▸ he)
   have:=h e (by simp [he])
   rwa [k3 _ _ _ _ hec,k3 _ _ _ _ hec] at this
def Vo (p:List Int) (a b:List Q) (q:Int):Prop:=
 (jd (gn (0,1) a b) a b=true∧q=(gn (0,1) a b).1 / ((gn (0,1) a b).2:Int)∧0<(gn (0,1) a b).2)∨Bf (tq p a) (tq p b) (dN 1 a) (dN 1 b)=some q ∨
 ∃ j,j<=3∧vu (aM (64*2 ^ j) (tq p a) (0,0)) (aM (64*2 ^ j) (tq p b) (0,0)) (dN 1 a) (dN 1 b)=some q
theorem YU {p:List Int} {a b:List Q} {n A m B:Nat} (hp:in6 p) (n0:0<n) (m0:0<m) (ha:bdL n A a) (hb:bdL m B b) (la:a.length=p.length) (lb:b.length=p.length) (hpos:∀ t∈tq p b,0<t.2) (ne:tq p b≠[])
  (hA:A<9223372036854775808) (hB:B<9223372036854775808) (hn:n<9223372036854775808) (hm:m<9223372036854775808) (hQ:A*m*48<9223372036854775808) (hC:m*(6*A)+4*(6*A)*m*n*(6*B)<=73786976294838206464) :
  ∃ q:Int,yM p a b q∧q.natAbs<=A*m*48∧Vo p a b q:=by
 have oa:=yV n0 ha;have ob:=yV m0 hb;have hAm:A*m<=A*m*48:=Zd _ ae;by_cases hr:jd (gn (0,1) a b) a b=true
 ·obtain ⟨k1,k2⟩:=Hr (A:=A) (m:=m) (a:=a) (b:=b) (k:=(0,1)) (fun x hx=>by
   obtain ⟨z,z1,z2⟩:=ha x hx;exact ⟨(oa x hx).1,by have:=(OI n0 z1).1;omega⟩) (fun y hy=>by
   obtain ⟨z,z1,z2⟩:=hb y hy;exact ⟨(ob y hy).1,(OI m0 z1).2⟩) ae af
  refine ⟨_,Or.inl ⟨hr,rfl⟩,Z1 (FT (M:=(gn (0,1) a b).1.natAbs) aa ?_) (Z1 k2 hAm),Or.inl ⟨hr,rfl,k1⟩⟩;exact Zd _ aa
 ·have hr':jd (gn (0,1) a b) a b=false:=by simpa using hr
  have tx:=EJ hp n0 ha hA;have ty:=EJ hp m0 hb hB;have d1:=vR ha;have g1:=vR hb;have dle:=X6 n0 d1;have gle:=X6 m0 g1;have d0:0<dN 1 a:=kP ae fun x hx=>(oa x hx).1
  have g0:0<dN 1 b:=kP ae fun x hx=>(ob x hx).1
  have lx:(tq p a).length<=6:=by
   have:=oZ (d:=dN 1 a) p a;have:=hp.2.1;unfold tq;omega
  have ly:(tq p b).length<=6:=by
   have:=oZ (d:=dN 1 b) p b;have:=hp.2.1;unfold tq;omega
  have sx:dI (tq p a)<=6*A:=Z1 (vZ (C:=A) _ fun t ht=>vY n0 d1 ha t ht) (Z4 _ lx);have sy:dI (tq p b)<=6*B:=Z1 (vZ (C:=B) _ fun t ht=>vY m0 g1 hb t ht) (Z4 _ ly);have hx6:∀ t∈tq p a,t.1∈c6P:=og hp;have hy6:∀ t∈tq p b,t.1∈c6P∧0<t.2:=fun t ht=>⟨og hp t ht,hpos t ht⟩
  have bQ:8*dI (tq p a)*dN 1 b<=A*m*48:=by
   have e:A*m*48=8*(6*A)*m:=by
    rw [Wt A m,<- Nat.mul_assoc,Zy A]
   rw [e];exact Zq (Z3 _ sx) gle
  cases hq:Bf (tq p a) (tq p b) (dN 1 a) (dN 1 b) with
  | some q=>
   have h1:=MW tx hy6 ne d0 hq;refine ⟨q,Or.inr ⟨hr',tx,ty,aa,aa,Or.inl ⟨hq,aa,aa⟩⟩,aa,Or.inr (Or.inl hq)⟩
  | none=>
   rcases SU (tx:=tq p a) (ty:=tq p b) d0 g0 hx6 hy6 ne (by
    refine Z1 (Nat.add_le_add (Zq gle sx) ?_) hC;exact Zq (Zq (Zq (Z3 4 sx) gle) dle) sy) with ⟨q,h⟩ | h
   ·exfalso;refine hr (Sf aa oa ob (Q6 (q:=q) d0 g0 hp.1 la lb (fun x hx=>⟨(oa x hx).1,(nZ (s:=a) (d:=1)).2 x hx⟩) (fun y hy=>⟨(ob y hy).1,(nZ (s:=b) (d:=1)).2 y hy⟩) fun c hc=>h c (hp.2.2 c hc)))
   ·obtain ⟨q,q1,q2,q3⟩:=h 6 0 ae ae;refine ⟨q,Or.inr ⟨hr',tx,ty,aa,aa,Or.inr ⟨hq,F8 hx6,F8 (og hp),fun i _=>?_,by simpa using q1⟩⟩,?_,Or.inr (Or.inr q3)⟩
    ·obtain ⟨y1,y2,_⟩:=mT (64*2 ^ i) (tq p b);omega
    ·refine Z1 q2 (Z1 ?_ bQ);have e:4*dI (tq p a)*dN 1 b<=8*dI (tq p a)*dN 1 b:=Z4 _ aa;exact e
theorem uC {z:Int} {n:Nat} (h0:0<n) (h1:n<1000000000000000000) (h2 : -1000000000000000000<z) (h3:z<1000000000000000000) (hg:Nat.gcd z.natAbs n=1):CP Y F.bB [I z,I n] (.agg (qT (z,n))):=by
 refine sQ ?_;have fo:=Qp (n:=z) (d:=(n:Int)) aa aa aa aa aa;rw [HY h0,HZ hg] at fo;have fo':CP Y F.kN [I z,I n] (.tup [.agg [S (itoa z),S (ah n)],I 0]):=fo;simp (disch:=try exact ac)[bB];refine cd fo' ?_;simp (disch:=try exact ac)[];exact lR rfl rfl
theorem PO {p:List Int} {n:Nat} (hp:pcB p=0) (hN:p.length<=20) (hl:0<p.length) (h0:0<n) (h1:n<=10000) (hr:okS (bY p n)):CP Y F.fS [lst di p,I n] (szV (bY p n)):=by
 refine uR ?_;have eq:=Ec hp aa hl;have nu:=uC (z:=1) (n:=n) h0 aa aa aa af;have le:(fW p.length).length=p.length:=by simp [fW];omega
 have sc:=tP (p:=p) (s:=fW p.length) (k:=(1,n)) hp aa le (BU _) (Ui h0 h1) hr;simp (disch:=try exact ac)[fS];refine cd eq ?_;simp (disch:=try exact ac)[];refine cd nu ?_;simp (disch:=try exact ac)[];refine cd sc ?_ (by simp [ai,aI,szV,cX,qT]);simp (disch:=try exact ac)[]
 exact ⟨_,pW _ _⟩
structure ZN (p:List Int) (n:Nat) (r:List Int) (q:Int):Prop where
 hp:pcB p=0
 hN:p.length<=20
 hl:0<p.length
 h0:0<n
 h1:n<=10000
 lr:r.length=p.length
 sr:smR r=true
 st:okS (bY p n)
 of:okS (ofQ r)
 q1 : -1000000000000000000<q
 q2:q<1000000000000000000
 ti:okS (jy p n q)
 er:okS (fF p n q (ofQ r))
theorem J1 {p r:List Int} {n:Nat} {q:Int} (E:ZN p n r q):CP Y F.fw [lst di p,I n,I q,lst di r] (szV (fF p n q (ofQ r))):=by
 refine tL ?_;have st:=PO E.hp E.hN E.hl E.h0 E.h1 E.st;have nu:=uC (z:=q) (n:=1) ae ae E.q1 E.q2 af;have sc:=tP (p:=p) (s:=bY p n) (k:=(q,1)) E.hp (by have:=E.hN;omega) (ni E.hl) E.st (vC q E.q1 E.q2) E.ti;have of_:=E7 E.hp (by have:=E.hN;omega) E.lr E.sr;have lo:(ofQ r).length=p.length:=by simp [ofQ,E.lr]
 have sb:=Ob (p:=p) (s:=jy p n q) (t:=ofQ r) E.hp (by have:=E.hN;omega) (rE E.hl) E.ti lo E.of E.er;have sc':CP Y F.fv [lst di p,szV (bY p n),.agg (qT (q,1))] (.tup [szV (jy p n q),I 0]):=sc;simp (disch:=try exact ac)[fw];refine cd st ?_;simp (disch:=try exact ac)[];refine cd nu ?_
 simp (disch:=try exact ac)[];refine cd sc' ?_ (by simp [ai,aI,szV,cX,qT]);simp (disch:=try exact ac)[];refine cd of_ ?_;simp (disch:=try exact ac)[];refine cd sb ?_ (by simp [ai,szV,cX]);simp (disch:=try exact ac)[];exact ⟨_,pW _ _⟩
def acL:Acc:=⟨1,0,1,.none⟩
theorem Ix {s t:List Int} (hN:s.length<1000000) (k:KL):∀ (q r a b:List Int),a++q=s->b++r=t->a.length=b.length->q.length=r.length->(q=r->k (.exit 0) [] [])->(q≠r->k .ret [B false] []) ->
  lp (dJ (CX Y) (lst di s) (lst di t)) [] [] [I a.length] [] k
 | [],r,a,b,ha,hb,hab,hqr,h0,h1=>by
  simp at ha;subst ha
  have:r=[]:=by cases r with
   | nil=>rfl
   | cons y r=>simp at hqr
  refine av ?_;simp (disch:=try exact ac)[dJ];exact h0 this.symm
 | x::q,[],a,b,ha,hb,hab,hqr,h0,h1=>by simp at hqr
 | x::q,y::r,a,b,ha,hb,hab,hqr,h0,h1=>by
  have hal:a.length<s.length:=by subst ha;simp
  have hbl:a.length<t.length:=by subst hb;simp;omega
  have hx:nth 0 s a.length=x:=by subst ha;simp
  have hy:nth 0 t a.length=y:=by subst hb;rw [hab];simp
  have i1:=cC di s [] (k:=.i64) (i:=(a.length:Int)) aa aa;have i2:=dy di 0 s [] (j:=a.length) hal;have j1:=cC di t [] (k:=.i64) (i:=(a.length:Int)) aa aa;have j2:=dy di 0 t [] (j:=a.length) hbl;rw [hx] at i2;rw [hy] at j2;simp only [Int.toNat_natCast] at i1 j1;have g1:(a.length:Int)<(s.length:Int):=aa;refine av ?_;by_cases hxy:x=y
  ·subst hxy;have ih:=Ix hN k q r (a++[x]) (b++[x]) (by simpa using ha) (by simpa using hb) (by simp [hab]) (by simpa using hqr) (fun e=>h0 (by rw [e])) (fun e=>h1 (by simpa using e));simp (disch:=try exact ac)[dJ,i1,i2,j1,j2,g1,hx,hy];simpa using ih
  ·simp (disch:=try exact ac)[dJ,i1,i2,j1,j2,g1,hx,hy,hxy];exact h1 (by simp [hxy])
theorem FO {s t:List Int} (hN:s.length<1000000):CP Y F.cw [lst di s,lst di t] (B (decide (s=t))):=by
 refine qk ?_;have l1:bC (lst di s)=some (I s.length):=rfl;have l2:bC (lst di t)=some (I t.length):=rfl;by_cases h:s.length=t.length
 ·have g:((s.length:Int)=(t.length:Int))=True:=eq_true aa;simp (disch:=try exact ac)[cw,l1,l2,g]
  have:=Ix (s:=s) (t:=t) hN (exK [(Exit.exit 0,fun l5 h=>out (B (decide (s=t))) (V.d (D.bool true)) h),(Exit.ret,fun l5 h=>out (B (decide (s=t))) (ge l5 0) h)]) s t [] [] rfl rfl rfl h (fun g=>by
   simp (disch:=try exact ac)[];exact iJ (by simp [g])) (fun g=>by
   simp (disch:=try exact ac)[];exact iJ (by simp [g]))
  refine lo ?_;exact this
 ·have g:¬ ((s.length:Int)=(t.length:Int)):=aa;have:¬ s=t:=fun e=>h (by rw [e])
  simp (disch:=try exact ac)[cw,l1,l2,g] <;> exact iJ (by simp [this])
theorem Ha {s t:List Int} (hN:s.length<1000000):CP Y F.dR [lst di s,lst di t] (B (decide (s=t))):=by
 refine qH ?_;simp (disch:=try exact ac)[dR];refine cd (FO hN) ?_;simp (disch:=try exact ac)[] <;> exact iJ rfl
end Go.Vm
