/- Law of divisions: Records, but for what known says. -/
import Derived.Test.YtaiahkcmdnaooaaGreatDoorQCeX
namespace Go.Vm
open Go Go.Am Go.Big
theorem yc {p r:List Int} {lim:Int} (hp:pcB p=0) (hN:p.length<=20) (hl:r.length=p.length) (hr:smR r=true) (hlim:lim<1∨500<lim):CP Y F.bz [lst di p,lst di r,I lim] (.tup [lst di [],I 3]):=by
 refine nr ?_;have pc:=gW (p:=p) (by omega);rw [hp] at pc;have mc:=tW (p:=p) (r:=r) (by omega);rw [Gp hp hl hr] at mc;simp (disch:=first|omega|simp<;>omega|fail)[bz];refine cd pc ?_;simp (disch:=first|omega|simp<;>omega|fail)[];refine cd mc ?_;by_cases g1:lim<1
 ·simp (disch:=first|omega|simp<;>omega|fail)[g1];exact aj (h1:=[(0,.none)]) (by simp [aB,lst]) rfl
 ·have g2:500<lim:=by omega
  simp (disch:=first|omega|simp<;>omega|fail)[g1,g2];exact aj (h1:=[(0,.none)]) (by simp [aB,lst]) rfl
theorem EI {k m:Nat} {a b c d:Int} (kn:CP Y F.cD [] (B true)) (hk:k<256) (hm:m<256) (ha : -128<=a∧a<=127) (hb : -128<=b∧b<=127) (hc : -128<=c∧c<=127) (hd : -128<=d∧d<=127) :
  CP Y F.bw [.d (.int .u8 k),.agg [i8V a,i8V b,i8V c,i8V d],.d (.int .u8 m)] (B true):=by
 refine lz ?_;obtain ⟨p1,p2,p3,p4,p5⟩:=R8 _ (Jm k);obtain ⟨p,hp⟩:∃ p,p=AI k:=⟨_,rfl⟩;rw [<- hp] at p1 p2 p3 p4 p5;have lr:=Og (p:=p) (e:=[a,b,c,d]) rfl p4;have hr:=Qy p.length [a,b,c,d];have io:=FF (p:=p) ha hb hc hd p4;obtain ⟨r,hrr⟩:∃ r,r=itv p.length [a,b,c,d]:=⟨_,rfl⟩;rw [<- hrr] at lr hr io;obtain ⟨n,hn⟩:∃ n,n=m % 40+1:=⟨_,rfl⟩
 obtain ⟨qf,zf,ls,R⟩:=rc6 (p:=p) (r:=r) (lim:=n) p1 ⟨p2,by omega,p5⟩ p3 (by omega) lr hr;have pk:=D7 hk;rw [<- hp] at pk;have r0:=yb R (by omega) (by omega);have r1:=yc (p:=p) (r:=r) (lim:=0) p1 (by omega) lr (FS hr) (by omega);have r2:=yc (p:=p) (r:=r) (lim:=501) p1 (by omega) lr (FS hr) (by omega)
 have sn:∀ h:Hp,ae h [.agg [i8V a,i8V b,i8V c,i8V d]]=some ([.agg [i8V a,i8V b,i8V c,i8V d]],h):=fun h=>rfl
 simp (disch:=first|omega|simp<;>omega|fail)[bw];refine cd kn ?_;simp (disch:=first|omega|simp<;>omega|fail)[];refine cd pk ?_;simp (disch:=first|omega|simp<;>omega|fail)[];refine cd io ?_ (by simp [ae,aB,i8V]);have m1:0<=(m:Int) % 40∧(m:Int) % 40<40:=by omega
 have en:1+(m:Int) % 40=(n:Int):=by rw [hn];omega
 simp (disch:=first|omega|simp<;>omega|fail)[Zw,en];refine cd r0 ?_;simp (disch:=first|omega|simp<;>omega|fail)[];refine cd r1 ?_;simp (disch:=first|omega|simp<;>omega|fail)[];refine cd r2 ?_
 have so:=vQ (s:=eB ls n 1 0) (t:=eB ls n 1 0) (by
  have:∀ f i j,(eB ls f i j).length<=f:=by
   intro f
   induction f with
   | zero=>intro i j;simp [eB]
   | succ f ih=>
    intro i j;simp only [eB];split
    ·simp [ih]
    ·exact Z4 (ih _ _) (by omega)
  have:=this n 1 0;omega)
 rw [decide_eq_true rfl] at so
 have hl:=rF R (by omega) (exK [((.exit 0),fun l26 h=>cal (CX Y).p h (.fn F.bF [] []) [lst di (eB ls n 1 0),(ge l26 0)] fun v27 h=>out (B true) v27 h)]) (1,.vars [i8V a,i8V b,i8V c,i8V d]) (Gi [a,b,c,d]) [(1,.vars [i8V a,i8V b,i8V c,i8V d]),(0,.none)] rfl n 1 0 [] kE (by omega) (by omega) (by simp) (by omega) (by omega) (by omega) (fun _=>rfl) (by
  simp only [List.nil_append];generalize eB ls n 1 0=w at so ⊢;obtain ⟨h',q1,_⟩:=nD acL (L:=w.length) (cells:=w.map di) (h:=[(1,.vars [i8V a,i8V b,i8V c,i8V d]),acL.b w.length (w.map di)]) rfl (by simp [acL]);simp only [exK];exact GX (xL (tB _ _ _) (xL q1 (IX _))) so (tQ ..))
 simp (disch:=first|omega|simp<;>omega|fail)[];exact hl
def GV (p:List Int):List (List Int)->Int
 | []=>0
 | r::m=>if mzB p [r]≠0 then mzB p [r] else GV p m
def clB (p:List Int) (m:List (List Int)):Int:=if 60<m.length then 4 else GV p m
theorem Iq {p:List Int} (hp:p.length<1000000) (k:KL):∀ (q a:List (List Int)),(a++q).length<1000000000 ->
  (GV p q=0->k (.exit 0) [] [])->(GV p q≠0->k .ret [I (GV p q)] []) ->
  lp (gD (CX Y) (lst di p) (mat (a++q)) (I (a++q).length)) [] [] [I a.length] [] k
 | [],a,hN,h0,h1=>by
  refine ai ?_;simp (disch:=first|omega|simp<;>omega|fail)[gD];exact h0 rfl
 | r::q,a,hN,h0,h1=>by
  simp at hN;have mo:=tW (p:=p) (r:=r) (by omega);simp only [GV] at h0 h1;refine ai ?_;simp (disch:=first|omega|simp<;>omega|fail)[gD];refine cd mo ?_;by_cases h:mzB p [r]=0
  ·rw [if_neg (by simpa using h)] at h0 h1;have ih:=Iq hp k q (a++[r]) (by simp;omega) h0 h1;simp (disch:=first|omega|simp<;>omega|fail)[h];simp at ih ⊢;exact ih
  ·rw [if_pos h] at h1;simp (disch:=first|omega|simp<;>omega|fail)[h];exact h1 h
theorem uH {p:List Int} {m:List (List Int)} (hp:p.length<1000000) (hm:m.length<1000000000):CP Y F.cI [lst di p,mat m] (I (clB p m)):=by
 refine qP ?_;have l1:am (mat m)=some (I m.length):=rfl;unfold clB;by_cases h:60<m.length
 ·have g:(60:Int)<(m.length:Int):=by omega
  rw [if_pos h];simp (disch:=first|omega|simp<;>omega|fail)[cI,l1,g] <;> exact bG rfl
 ·have g:¬ (60:Int)<(m.length:Int):=by omega
  rw [if_neg h];simp (disch:=first|omega|simp<;>omega|fail)[cI,l1,g];refine lo (Iq hp _ m [] (by simpa using hm) (fun g=>?_) (fun g=>?_))
  ·rw [g];simp (disch:=first|omega|simp<;>omega|fail)[]
  ·simp (disch:=first|omega|simp<;>omega|fail)[]
theorem Fp {p:List Int} {m:List (List Int)} (hm:m.length<=60) (h:∀ r∈m,mzB p [r]=0):clB p m=0:=by
 unfold clB;rw [if_neg (by omega)];clear hm
 induction m with
 | nil=>rfl
 | cons r m ih=>
  rw [GV,if_neg (by simpa using h r (by simp))];exact ih fun x hx=>h x (by simp [hx])
def uU:List Int->List Int->List Int->Bool
 | x::a,y::b,z::c=>decide (x+y=z) && uU a b c
 | _,_,_=>true
theorem AX {s t u:List Int} (hN:s.length<1000000) (hs:smR s=true) (ht:smR t=true) (k:KL):∀ (q r v a b c:List Int),a++q=s->b++r=t->c++v=u->a.length=b.length->a.length=c.length->q.length=r.length->q.length=v.length->(uU q r v=true->k (.exit 0) [] [])->(uU q r v=false->k .ret [B false] []) ->
  lp (iS (CX Y) (lst di s) (lst di t) (lst di u) (I s.length)) [] [] [I a.length] [] k
 | [],r,v,a,b,c,ha,hb,hc,hab,hac,hqr,hqv,h0,h1=>by
  simp at ha;subst ha;refine ai ?_;simp (disch:=first|omega|simp<;>omega|fail)[iS];exact h0 (by simp [uU])
 | x::q,[],v,a,b,c,ha,hb,hc,hab,hac,hqr,hqv,h0,h1=>by simp at hqr
 | x::q,y::r,[],a,b,c,ha,hb,hc,hab,hac,hqr,hqv,h0,h1=>by simp at hqv
 | x::q,y::r,z::v,a,b,c,ha,hb,hc,hab,hac,hqr,hqv,h0,h1=>by
  have hal:a.length<s.length:=by subst ha;simp
  have hbl:a.length<t.length:=by subst hb;simp;omega
  have hcl:a.length<u.length:=by subst hc;simp;omega
  have hx:nth 0 s a.length=x:=by subst ha;simp
  have hy:nth 0 t a.length=y:=by subst hb;rw [hab];simp
  have hz:nth 0 u a.length=z:=by subst hc;rw [hac];simp
  have bx:=Bx hs (x:=x) (by rw [<- ha];simp);have by_:=Bx ht (x:=y) (by rw [<- hb];simp);have i1:=et di s [] (k:=.i64) (i:=(a.length:Int)) (by omega) (by omega);have i2:=gm di 0 s [] (j:=a.length) hal;have j1:=et di t [] (k:=.i64) (i:=(a.length:Int)) (by omega) (by omega);have j2:=gm di 0 t [] (j:=a.length) hbl
  have k1:=et di u [] (k:=.i64) (i:=(a.length:Int)) (by omega) (by omega);have k2:=gm di 0 u [] (j:=a.length) hcl;rw [hx] at i2;rw [hy] at j2;rw [hz] at k2;simp only [Int.toNat_natCast] at i1 j1 k1;have g1:(a.length:Int)<(s.length:Int):=by omega
  refine ai ?_;by_cases hxy:x+y=z
  ·have ih:=AX hN hs ht k q r v (a++[x]) (b++[y]) (c++[z]) (by simpa using ha) (by simpa using hb) (by simpa using hc) (by simp [hab]) (by simp [hac]) (by simpa using hqr) (by simpa using hqv) (fun e=>h0 (by simp [uU,hxy,e])) (fun e=>h1 (by simp [uU,e]));simp (disch:=first|omega|simp<;>omega|fail)[iS,i1,i2,j1,j2,k1,k2,g1,hxy];simpa using ih
  ·simp (disch:=first|omega|simp<;>omega|fail)[iS,i1,i2,j1,j2,k1,k2,g1,hxy];exact h1 (by simp [uU,hxy])
theorem OB {s t u:List Int} (hN:s.length<1000000) (hs:smR s=true) (ht:smR t=true) (l1:t.length=s.length) (l2:u.length=s.length):CP Y F.jR [lst di s,lst di t,lst di u] (B (uU s t u)):=by
 refine yR ?_;have hl:am (lst di s)=some (I s.length):=rfl;simp (disch:=first|omega|simp<;>omega|fail)[jR,hl]
 have:=AX (u:=u) hN hs ht (exK [(Exit.exit 0,fun l5 h=>out (B (uU s t u)) (V.d (D.bool true)) h),(Exit.ret,fun l5 h=>out (B (uU s t u)) (ge l5 0) h)]) s t u [] [] [] rfl rfl rfl rfl rfl l1.symm l2.symm (fun g=>by
   simp (disch:=first|omega|simp<;>omega|fail)[];exact iQ (by simp [g])) (fun g=>by
   simp (disch:=first|omega|simp<;>omega|fail)[];exact iQ (by simp [g]))
 refine lo ?_;exact this
def ztD (z:Int):D:=.str (itoa z)
theorem wh {p:List Int} {n:Nat} {l:List (List Int)} {qf:List Int->Int} (hN:l.length<1000000) (hE:∀ r∈l,tj p n r (qf r)) (k:KL) (h0:Hp) (hh:h0.length=1):∀ (q a:List (List Int)),a++q=l ->
  k (.exit 0) [acR.v l.length (l.map fun r=>ztD (qf r))] [acR.b l.length (l.map fun r=>ztD (qf r))] ->
  lp (iJ (CX Y) (lst di p) (I n) (mat l) (I l.length)) [] h0 [acR.v a.length (a.map fun r=>ztD (qf r)),I a.length] [acR.b a.length (a.map fun r=>ztD (qf r))] k
 | [],a,ha,hk=>by
  simp at ha;subst ha;refine ai ?_;simp (disch:=first|omega|simp<;>omega|fail)[iJ];exact hk
 | r::q,a,ha,hk=>by
  have hal:a.length<l.length:=by subst ha;simp
  have hr:nth [] l a.length=r:=by subst ha;simp
  have hm:r∈l:=by rw [<- ha];simp
  have E:=hE r hm;have so:=BM (p:=p) (r:=r) E.hp (by have:=E.hN;omega) E.lr E.sr;have ls:(ofQ r).length=p.length:=by simp [ofQ,E.lr]
  have ne:=wd E.hp E.hN E.hl E.h0 E.h1 E.st ls E.of E.ne E.fl;have i1:=fun h=>et row l h (k:=.i64) (i:=(a.length:Int)) (by omega) (by omega)
  have i2:=fun h=>gm row [] l h (j:=a.length) hal
  rw [hr] at i2;simp only [Int.toNat_natCast] at i1;have g1:(a.length:Int)<(l.length:Int):=by omega
  have li1:∀ (z:Int) (H:Hp),dt 1 [D.str []] [(0,S (itoa z))] H=some ([ztD z],H):=fun z H=>by simp [dt,fW,iA,toD,ztD]
  have cR:(a.map fun r=>ztD (qf r)).length=a.length*acR.n:=by simp [acR]
  have cJ:∀ x y:Nat × Bk,([x]:Hp).set acR.s y=[y]:=fun x y=>rfl
  have hre:∀ x:Hp,x.length=1->ax [] 0 h0 x=x:=fun x hx=>dK 0 h0 x (by omega)
  have ev:∀ c,acR.v (a.length+1) c=.ref acR.s (acR.e+1) 0 (a.length+1) (a.length+1) c.length:=fun c=>rfl
  have eb:∀ c,acR.b (a.length+1) c=(acR.e+1,.data acR.n c false false):=fun c=>rfl
  have ih:=wh hN hE k h0 hh q (a++[r]) (by simpa using ha) hk;refine ai ?_;simp (disch:=first|omega|simp<;>omega|fail)[iJ,i1,i2,g1];refine cd so ?_;simp (disch:=first|omega|simp<;>omega|fail)[];refine cd ne ?_ (by simp [ae,aB,szV,dp]);simp (disch:=first|omega|simp<;>omega|fail)[li1]
  refine mJ acR (k:=1) (by omega) rfl cR (by rfl) rfl (fun t e=>by cases e) (by omega) (by decide) ?_;simp (disch:=first|omega|simp<;>omega|fail)[cJ,hre,clean,dT,k8,kZ,dd,iF];refine ⟨rfl,?_⟩;simpa [ev,eb] using ih
theorem JX {p:List Int} {n:Nat} {l:List (List Int)} {qf:List Int->Int} (hN:l.length<1000000) (hE:∀ r∈l,tj p n r (qf r)):CP Y F.gH [lst di p,I n,mat l] (.tup [lst ztD (l.map qf),I 0]):=by
 refine uB ?_;have l1:am (mat l)=some (I l.length):=rfl
 have hl:=wh hN hE (exK [((.exit 0),fun l2 h=>out (.tup [lst ztD (l.map qf),I 0]) (.tup [(ge l2 0),(.d (.int .i64 0))]) h),(.ret,fun l2 h=>out (.tup [lst ztD (l.map qf),I 0]) (.tup [(ge l2 0),(ge l2 1)]) h)]) [(0,.none)] rfl l [] rfl (by
  obtain ⟨h',q1,_⟩:=nD acR (L:=l.length) (cells:=l.map fun r=>ztD (qf r)) (h:=[acR.b l.length (l.map fun r=>ztD (qf r))]) rfl (by simp [acR]);simp only [exK];have e:lst ztD (l.map qf)=.d (.sl l.length (l.map fun r=>ztD (qf r))):=by simp [lst]
  rw [e];exact aj q1 rfl)
 simp (disch:=first|omega|simp<;>omega|fail)[gH,l1];exact hl
def erD (p:List Int) (n:Nat) (qf:List Int->Int) (r:List Int):List Q:=mr p n (qf r) (ofQ r)
theorem vZ {p:List Int} {n:Nat} {l:List (List Int)} {qf:List Int->Int} (hN:l.length<1000000) (hE:∀ r∈l,tj p n r (qf r)) (k:KL) (h0:Hp) (hh:h0.length=1):∀ (q a:List (List Int)),a++q=l ->
  k (.exit 0) [acR.v l.length (l.map fun r=>szD (erD p n qf r))] [acR.b l.length (l.map fun r=>szD (erD p n qf r))] ->
  lp (iK (CX Y) (lst di p) (I n) (mat l) (I l.length)) [] h0 [acR.v a.length (a.map fun r=>szD (erD p n qf r)),I a.length] [acR.b a.length (a.map fun r=>szD (erD p n qf r))] k
 | [],a,ha,hk=>by
  simp at ha;subst ha;refine ai ?_;simp (disch:=first|omega|simp<;>omega|fail)[iK];exact hk
 | r::q,a,ha,hk=>by
  have hal:a.length<l.length:=by subst ha;simp
  have hr:nth [] l a.length=r:=by subst ha;simp
  have hm:r∈l:=by rw [<- ha];simp
  have E:=hE r hm;have de:=AZ E;have i1:=fun h=>et row l h (k:=.i64) (i:=(a.length:Int)) (by omega) (by omega)
  have i2:=fun h=>gm row [] l h (j:=a.length) hal
  rw [hr] at i2;simp only [Int.toNat_natCast] at i1;have g1:(a.length:Int)<(l.length:Int):=by omega
  have li1:∀ (s:List Q) (H:Hp),dt 1 [D.pl (Value.slice none 0 0)] [(0,szV s)] H=some ([szD s],H):=fun s H=>Jy ..
  have cR:(a.map fun r=>szD (erD p n qf r)).length=a.length*acR.n:=by simp [acR]
  have cJ:∀ x y:Nat × Bk,([x]:Hp).set acR.s y=[y]:=fun x y=>rfl
  have hre:∀ x:Hp,x.length=1->ax [] 0 h0 x=x:=fun x hx=>dK 0 h0 x (by omega)
  have ev:∀ c,acR.v (a.length+1) c=.ref acR.s (acR.e+1) 0 (a.length+1) (a.length+1) c.length:=fun c=>rfl
  have eb:∀ c,acR.b (a.length+1) c=(acR.e+1,.data acR.n c false false):=fun c=>rfl
  have ih:=vZ hN hE k h0 hh q (a++[r]) (by simpa using ha) hk;refine ai ?_;simp (disch:=first|omega|simp<;>omega|fail)[iK,i1,i2,g1];refine cd de ?_;simp (disch:=first|omega|simp<;>omega|fail)[li1];refine mJ acR (k:=1) (by omega) rfl cR (by rfl) rfl (fun t e=>by cases e) (by omega) (by decide) ?_
  simp (disch:=first|omega|simp<;>omega|fail)[cJ,hre,clean,dT,k8,kZ,dd,iF];refine ⟨rfl,?_⟩;simpa [ev,eb,erD] using ih
theorem JP {p:List Int} {n:Nat} {l:List (List Int)} {qf:List Int->Int} (hp:p.length<1000000) (hN:l.length<=60) (hc:dvC p n=0) (hm:∀ r∈l,mzB p [r]=0) (hE:∀ r∈l,tj p n r (qf r)):CP Y F.fk [lst di p,I n,mat l] (.tup [lst szD (l.map (erD p n qf)),I 0]):=by
 refine uC ?_;have l1:am (mat l)=some (I l.length):=rfl;have dc:=A3 (p:=p) (n:=(n:Int)) hp;rw [hc] at dc;have ck:=uH (p:=p) (m:=l) hp (by omega);rw [Fp hN hm] at ck
 have hl:=vZ (by omega) hE (exK [((.exit 0),fun l2 h=>out (.tup [lst szD (l.map (erD p n qf)),I 0]) (.tup [(ge l2 0),(.d (.int .i64 0))]) h),(.ret,fun l2 h=>out (.tup [lst szD (l.map (erD p n qf)),I 0]) (.tup [(ge l2 0),(ge l2 1)]) h)]) [(0,.none)] rfl l [] rfl (by
  obtain ⟨h',q1,_⟩:=nD acR (L:=l.length) (cells:=l.map fun r=>szD (erD p n qf r)) (h:=[acR.b l.length (l.map fun r=>szD (erD p n qf r))]) rfl (by simp [acR]);simp only [exK];have e:lst szD (l.map (erD p n qf))=.d (.sl l.length (l.map fun r=>szD (erD p n qf r))):=by simp [lst]
  rw [e];exact aj q1 rfl)
 simp (disch:=first|omega|simp<;>omega|fail)[fk];refine cd dc ?_;simp (disch:=first|omega|simp<;>omega|fail)[];refine cd ck ?_;simp (disch:=first|omega|simp<;>omega|fail)[];exact hl
theorem LW (a b:Int):biS .neq (S (itoa a)) (S (itoa b))=some (B (decide (a≠b))):=by
 have:(itoa a == itoa b)=decide (a=b):=by
  rw [Yw];simp only [beq_iff_eq,decide_eq_true_eq];exact ⟨fun h=>ug h,fun h=>by rw [h]⟩
 simp only [biS,xI,this];simp
theorem Lr {z:Int} (h1 : -1000000000000000000<z) (h2:z<1000000000000000000):ndg z.natAbs<999999:=by
 have:=a6 (n:=z.natAbs) (d:=18) (by show _<10 ^ 18;omega) (by decide);omega
abbrev Rw:=List Int
def ML (qf:Rw->Int) (i j:Nat) (a b:Rw):Nat->List Rw->Option (Nat × Nat × Nat)
 | _,[]=>none
 | m,c::q=>if uU a b c=true∧qf a+qf b≠qf c then some (i,j,m) else ML qf i j a b (m+1) q
def MM (qf:Rw->Int) (l:List Rw) (i:Nat) (a:Rw):Nat->List Rw->Option (Nat × Nat × Nat)
 | _,[]=>none
 | j,b::q=>match ML qf i j a b 0 l with
  | some t=>some t
  | none=>MM qf l i a (j+1) q
def Cr (qf:Rw->Int) (l:List Rw):Nat->List Rw->Option (Nat × Nat × Nat)
 | _,[]=>none
 | i,a::q=>match MM qf l i a 0 l with
  | some t=>some t
  | none=>Cr qf l (i+1) q
def cnH (t:Nat × Nat × Nat):Hp:=[(1,.vars [I t.1,I t.2.1,I t.2.2])]
def cnV:Option (Nat × Nat × Nat)->V
 | some t=>.tup [B false,.agg [I t.1,I t.2.1,I t.2.2],I 0]
 | none=>.tup [B true,.agg [I 0,I 0,I 0],I 0]
structure Ph (p:List Int) (n:Nat) (l:List Rw) (qf:Rw->Int):Prop where
 hN:l.length<=60
 hE:∀ r∈l,tj p n r (qf r)
theorem MI {p:List Int} {n:Nat} {l:List Rw} {qf:Rw->Int} (H:Ph p n l qf) {i j:Nat} {a b:Rw} (hi:i<l.length) (hj:j<l.length) (ha:nth [] l i=a) (hb:nth [] l j=b) (k:KL) (h0:Hp) (hh:h0.length=1):∀ (q c:List Rw),c++q=l ->
  (ML qf i j a b c.length q=none->k (.exit 4) [] (cnH (0,0,0)))->(∀ t,ML qf i j a b c.length q=some t->k .ret [B false,I 0] (cnH t)) ->
  lp (fB (CX Y) (.ptr 0 1 0 3) (lst ztD (l.map qf)) (I i) (lst di a) (I j) (lst di b) (mat l) (I l.length)) [] h0 [I c.length] (cnH (0,0,0)) k
 | [],c,hc,h1,h2=>by
  simp at hc;subst hc;refine ai ?_;simp (disch:=first|omega|simp<;>omega|fail)[fB];exact h1 rfl
 | r::q,c,hc,h1,h2=>by
  have hcl:c.length<l.length:=by subst hc;simp
  have hr:nth [] l c.length=r:=by subst hc;simp
  have mem:∀ x,x<l.length->nth [] l x∈l:=fun x hx=>by rw [gh [] l x hx];exact Xn hx
  have Ea:=H.hE a (ha ▸ mem i hi);have Eb:=H.hE b (hb ▸ mem j hj);have Er:=H.hE r (by rw [<- hc];simp);have ds:=OB (s:=a) (t:=b) (u:=r) (by have:=Ea.hN;have:=Ea.lr;omega) Ea.sr Eb.sr (by rw [Ea.lr,Eb.lr]) (by rw [Ea.lr,Er.lr]);have i1:=fun h=>et row l h (k:=.i64) (i:=(c.length:Int)) (by omega) (by omega)
  have i2:=fun h=>gm row [] l h (j:=c.length) hcl
  rw [hr] at i2;simp only [Int.toNat_natCast] at i1;have hlen:=H.hN
  have x1:∀ (h:Hp) (x:Nat),x<l.length->ixV h 1 (lst ztD (l.map qf)) (I (x:Int))=some (.dptr ((l.map qf).map ztD) x):=fun h x hx=>by
   have:=et ztD (l.map qf) h (k:=.i64) (i:=(x:Int)) (by omega) (by simp;omega);simpa only [Int.toNat_natCast] using this
  have x2:∀ (h:Hp) (x:Nat),x<l.length->ld1 h (.dptr ((l.map qf).map ztD) x)=some (S (itoa (qf (nth [] l x)))):=fun h x hx=>by
   have:=gm ztD 0 (l.map qf) h (j:=x) (by simpa using hx);rw [gh 0 (l.map qf) x (by simpa using hx),List.getElem_map,<- gh [] l x hx] at this;exact this
  have xi1:=fun h=>x1 h i hi
  have xi2:=fun h=>x2 h i hi
  have xj1:=fun h=>x1 h j hj
  have xj2:=fun h=>x2 h j hj
  have xc1:=fun h=>x1 h c.length hcl
  have xc2:=fun h=>x2 h c.length hcl
  rw [ha] at xi2;rw [hb] at xj2;rw [hr] at xc2;obtain ⟨ks,hks⟩:∃ ks,ks=l.map qf:=⟨_,rfl⟩;rw [<- hks] at xi1 xi2 xj1 xj2 xc1 xc2 ⊢;have wa:=ql (z:=qf a) (w:=qf b) (Lr Ea.q1 Ea.q2) (Lr Eb.q1 Eb.q2);have g1:(c.length:Int)<(l.length:Int):=by omega
  simp only [ML] at h1 h2;have ih:=MI H hi hj ha hb k h0 hh q (c++[r]) (by simpa using hc);rw [<- hks] at ih;refine ai ?_;simp (disch:=first|omega|simp<;>omega|fail)[fB,i1,i2,g1];refine cd ds ?_;have ne:=LW (qf a+qf b) (qf r);have hre:ax [] 0 h0 (cnH (0,0,0))=cnH (0,0,0):=dK 0 h0 _ (by simp [cnH];omega)
  have hst:stX (ic (cnH (0,0,0)) 0 1) (cnH (0,0,0)) 0 1 0 3 [V.d (D.int IntKind.i64 ↑i),V.d (D.int IntKind.i64 ↑j),V.d (D.int IntKind.i64 ↑c.length)]=some (cnH (i,j,c.length)):=rfl;by_cases hs:uU a b r=true
  ·rw [hs] at ds h1 h2 ⊢;simp (disch:=first|omega|simp<;>omega|fail)[xi1,xi2,xj1,xj2];refine cd wa ?_;by_cases he:qf a+qf b=qf r
   ·rw [if_neg (by simp [he])] at h1 h2;have ih':=ih (by simpa using h1) (by simpa using h2);simp (disch:=first|omega|simp<;>omega|fail)[xc1,xc2,he,hre];simpa using ih'
   ·rw [if_pos ⟨rfl,he⟩] at h2;simp (disch:=first|omega|simp<;>omega|fail)[xc1,xc2,ne,he,hst];exact h2 _ rfl
  ·have hs':uU a b r=false:=by simpa using hs
   rw [if_neg (by simp [hs'])] at h1 h2;have ih':=ih (by simpa using h1) (by simpa using h2);rw [hs'] at ds ⊢;simp (disch:=first|omega|simp<;>omega|fail)[hre];simpa using ih'
theorem MJ {p:List Int} {n:Nat} {l:List Rw} {qf:Rw->Int} (H:Ph p n l qf) {i:Nat} {a:Rw} (hi:i<l.length) (ha:nth [] l i=a) (k:KL) (h0:Hp) (hh:h0.length=1):∀ (q c:List Rw),c++q=l ->
  (MM qf l i a c.length q=none->k (.exit 2) [] (cnH (0,0,0)))->(∀ t,MM qf l i a c.length q=some t->k .ret [B false,I 0] (cnH t)) ->
  lp (fC (CX Y) (mat l) (.ptr 0 1 0 3) (lst ztD (l.map qf)) (I i) (lst di a) (mat l) (I l.length)) [] h0 [I c.length] (cnH (0,0,0)) k
 | [],c,hc,h1,h2=>by
  simp at hc;subst hc;refine ai ?_;simp (disch:=first|omega|simp<;>omega|fail)[fC];exact h1 rfl
 | r::q,c,hc,h1,h2=>by
  have hcl:c.length<l.length:=by subst hc;simp
  have hr:nth [] l c.length=r:=by subst hc;simp
  have i1:=fun h=>et row l h (k:=.i64) (i:=(c.length:Int)) (by omega) (by omega)
  have i2:=fun h=>gm row [] l h (j:=c.length) hcl
  rw [hr] at i2;simp only [Int.toNat_natCast] at i1;have hlen:=H.hN;have g1:(c.length:Int)<(l.length:Int):=by omega
  have l1:am (mat l)=some (I l.length):=rfl;have hre:ax [] 0 h0 (cnH (0,0,0))=cnH (0,0,0):=dK 0 h0 _ (by simp [cnH];omega);have hre2:∀ t,ax [] 0 h0 (cnH t)=cnH t:=fun t=>dK 0 h0 _ (by simp [cnH];omega)
  simp only [MM] at h1 h2;have ih:=MJ H hi ha k h0 hh q (c++[r]) (by simpa using hc);have lp2:=fun k h1 h2=>MI H hi hcl ha hr k (cnH (0,0,0)) rfl l [] rfl h1 h2
  obtain ⟨ks,hks⟩:∃ ks,ks=l.map qf:=⟨_,rfl⟩;rw [<- hks] at ih lp2 ⊢;refine ai ?_;simp (disch:=first|omega|simp<;>omega|fail)[fC,i1,i2,g1];refine lo (lp2 _ (fun g=>?_) (fun t g=>?_))
  ·simp only [List.length_nil] at g;rw [g] at h1 h2;have ih':=ih (by simpa using h1) (by simpa using h2);simp (disch:=first|omega|simp<;>omega|fail)[hre];simpa using ih'
  ·simp only [List.length_nil] at g;rw [g] at h2;have:=h2 t rfl;simp (disch:=first|omega|simp<;>omega|fail)[];exact this
theorem MK {p:List Int} {n:Nat} {l:List Rw} {qf:Rw->Int} (H:Ph p n l qf) (k:KL) (h0:Hp) (hh:h0.length=1):∀ (q c:List Rw),c++q=l ->
  (Cr qf l c.length q=none->k (.exit 0) [] (cnH (0,0,0)))->(∀ t,Cr qf l c.length q=some t->k .ret [B false,I 0] (cnH t)) ->
  lp (fD (CX Y) (mat l) (.ptr 0 1 0 3) (lst ztD (l.map qf)) (mat l) (I l.length)) [] h0 [I c.length] (cnH (0,0,0)) k
 | [],c,hc,h1,h2=>by
  simp at hc;subst hc;refine ai ?_;simp (disch:=first|omega|simp<;>omega|fail)[fD];exact h1 rfl
 | r::q,c,hc,h1,h2=>by
  have hcl:c.length<l.length:=by subst hc;simp
  have hr:nth [] l c.length=r:=by subst hc;simp
  have i1:=fun h=>et row l h (k:=.i64) (i:=(c.length:Int)) (by omega) (by omega)
  have i2:=fun h=>gm row [] l h (j:=c.length) hcl
  rw [hr] at i2;simp only [Int.toNat_natCast] at i1;have hlen:=H.hN;have g1:(c.length:Int)<(l.length:Int):=by omega
  have l1:am (mat l)=some (I l.length):=rfl;have hre:∀ t,ax [] 0 h0 (cnH t)=cnH t:=fun t=>dK 0 h0 _ (by simp [cnH];omega)
  simp only [Cr] at h1 h2;have ih:=MK H k h0 hh q (c++[r]) (by simpa using hc);have lp2:=fun k h1 h2=>MJ H hcl hr k (cnH (0,0,0)) rfl l [] rfl h1 h2
  obtain ⟨ks,hks⟩:∃ ks,ks=l.map qf:=⟨_,rfl⟩;rw [<- hks] at ih lp2 ⊢;refine ai ?_;simp (disch:=first|omega|simp<;>omega|fail)[fD,i1,i2,g1];refine lo (lp2 _ (fun g=>?_) (fun t g=>?_))
  ·simp only [List.length_nil] at g;rw [g] at h1 h2;have ih':=ih (by simpa using h1) (by simpa using h2);simp (disch:=first|omega|simp<;>omega|fail)[hre];simpa using ih'
  ·simp only [List.length_nil] at g;rw [g] at h2;have:=h2 t rfl;simp (disch:=first|omega|simp<;>omega|fail)[];exact this
theorem sf {p:List Int} {n:Nat} {l:List Rw} {qf:Rw->Int} (hp:p.length<1000000) (hc:dvC p n=0) (hm:∀ r∈l,mzB p [r]=0) (H:Ph p n l qf):CP Y F.bH [lst di p,I n,mat l] (cnV (Cr qf l 0 l)):=by
 refine pU ?_;have l1:am (mat l)=some (I l.length):=rfl;have hN:=H.hN;have dc:=A3 (p:=p) (n:=(n:Int)) hp;rw [hc] at dc;have ck:=uH (p:=p) (m:=l) hp (by omega);rw [Fp hN hm] at ck;have co:=JX (by omega) H.hE;simp (disch:=first|omega|simp<;>omega|fail)[bH];refine cd dc ?_;simp (disch:=first|omega|simp<;>omega|fail)[];refine cd ck ?_
 simp (disch:=first|omega|simp<;>omega|fail)[];refine cd co ?_;simp (disch:=first|omega|simp<;>omega|fail)[];refine lo (MK H _ (cnH (0,0,0)) rfl l [] rfl (fun g=>?_) (fun t g=>?_))
 ·simp only [List.length_nil] at g;rw [g];simp (disch:=first|omega|simp<;>omega|fail)[cnH,cnV];exact ⟨[(1,.vars [I 0,I 0,I 0])],by simp [aB,ae]⟩
 ·simp only [List.length_nil] at g;rw [g];simp (disch:=first|omega|simp<;>omega|fail)[cnH,cnV];exact ⟨[(1,.vars [I t.1,I t.2.1,I t.2.2])],by simp [aB,ae]⟩
def QJ (p:List Int) (a b:List Q):Int:=
 if jk (gL (0,1) a b) a b=true then (gL (0,1) a b).1 / ((gL (0,1) a b).2:Int)
 else match BP (tq p a) (tq p b) (fF 1 a) (fF 1 b) with
  | some q=>q
  | none=>(Cf (tq p a) (tq p b) (fF 1 a) (fF 1 b) 6 64).getD 0
theorem Oq {p:List Int} {a b:List Q} {q:Int} (h:yM p a b q):QJ p a b=q:=by
 unfold QJ;rcases h with ⟨h1,h2⟩ | ⟨h1,_,_,_,_,h2⟩
 ·rw [if_pos h1,h2]
 ·rw [if_neg (by simp [h1])];rcases h2 with ⟨h3,_⟩ | ⟨h3,_,_,_,h4⟩
  ·rw [h3]
  ·rw [h3,h4];rfl
def sgV (p:List Int) (s:List Q):Int:=(xT (tq p s)).getD 0
theorem KG {p:List Int} {s:List Q} {z:Int} (h:uZ p s z):sgV p s=z:=by
 unfold sgV;rw [h.2.2];rfl
def ni (p:List Int) (n:Nat) (r:List Int):Int:=QJ p (wz p (ofQ r) (dZ p n)) (sJ p (dZ p n))
theorem Ep {p r:List Int} {n:Nat} {q:Int} (E:tj p n r q):ni p n r=q:=Oq E.fl
def Iy (p:List Int) (n:Nat) (r:List Int):List Q:=kI p n r (ni p n r) (sgV p (mr p n (ni p n r) (ofQ r)))
def HW (p r:List Int) (n m:Nat):Bool:=decide (sgV p (dfS p (Iy p n r) (Iy p m r))<0)
theorem yd {f g:Nat->Nat->Bool} {lim:Nat} (h:∀ n m,1<=m->m<n->n<=lim->f n m=g n m):∀ k n m,n+k<=lim+1->m<n->eB f k n m=eB g k n m
 | 0,_,_,_,_=>rfl
 | k+1,n,m,h1,h2=>by
  simp only [eB]
  have e:(m=0∨f n m=true)=(m=0∨g n m=true):=by
   by_cases hm:m=0
   ·simp [hm]
   ·rw [h n m (by omega) h2 (by omega)]
  simp only [e];split
  ·rw [yd h k (n+1) n (by omega) (by omega)]
  ·exact yd h k (n+1) m (by omega) (by omega)
theorem DV {p r:List Int} {lim:Nat} {qf zf:Nat->Int} {ls:Nat->Nat->Bool} (R:Nl p r lim qf zf ls):eB ls lim 1 0=eB (HW p r) lim 1 0:=by
 refine yd (lim:=lim) (fun n m h1 h2 h3=>?_) lim 1 0 (by omega) (by omega)
 have a1:∀ n,1<=n->n<=lim->Iy p n r=kI p n r (qf n) (zf n):=fun n h1 h2=>by
  unfold Iy;rw [Ep (R.er n h1 h2),KG (R.sg n h1 h2).1]
 obtain ⟨z,z1,z2⟩:=R.cm n m h1 h2 h3;unfold HW;rw [a1 n (by omega) h3,a1 m h1 (by omega),KG z1,z2]
theorem QO:eB (HW [2,3,5] [-1,1,0]) 60 1 0=[1,2,3,5,7,12,29,41,53]:=by decide +kernel
theorem QP:mr [2,3,5] 12 (ni [2,3,5] 12 [-1,1,0]) (ofQ [-1,1,0])=[(19,12),(-1,1),(0,1)]:=by decide +kernel
theorem QQ:Cr (ni [2,3,5] 4) [[-1,1,0],[-2,2,0]] 0 [[-1,1,0],[-2,2,0]]=some (0,0,1):=by decide +kernel
theorem Oy:Cr (ni [2,3,5] 12) [[-1,1,0],[-2,0,1],[-3,1,1]] 0 [[-1,1,0],[-2,0,1],[-3,1,1]]=none:=by decide +kernel
theorem JQ {p r:List Int} {n:Nat} (hpc:pcB p=0) (hp:in6 p) (hl:0<p.length) (h0:0<n) (h1:n<=10000) (lr:r.length=p.length) (hr:∀ x∈r,x.natAbs<=9):tj p n r (ni p n r):=by
 obtain ⟨q,E,_⟩:=er6 hpc hp hl h0 h1 lr hr;rw [Ep E];exact E
def pEx:List Int:=[2,3,5]
theorem sS:pcB pEx=0:=by decide +kernel
theorem sT:in6 pEx:=by unfold in6;decide
theorem JO:CP Y F.fk [lst di pEx,I (12:Nat),mat [[-1,1,0]]] (.tup [lst szD [[(19,12),(-1,1),(0,1)]],I 0]):=by
 have h:=JP (p:=pEx) (n:=12) (l:=[[-1,1,0]]) (qf:=ni pEx 12) (by decide) (by decide) (by decide +kernel) (by decide +kernel) (fun r hr=>by
  simp only [Zt,Zb,or_false] at hr;subst hr;exact JQ sS sT (by decide) (by decide) (by decide) rfl (by decide))
 have e:List.map (erD pEx 12 (ni pEx 12)) [[-1,1,0]]=[[(19,12),(-1,1),(0,1)]]:=by
  show [erD pEx 12 (ni pEx 12) [-1,1,0]]=_
  rw [show erD pEx 12 (ni pEx 12) [-1,1,0]=_ from QP]
 rw [e] at h;exact h
theorem GK:CP Y F.bz [lst di pEx,lst di [-1,1,0],I (60:Nat)] (.tup [lst di [1,2,3,5,7,12,29,41,53],I 0]):=by
 obtain ⟨qf,zf,ls,R⟩:=rc6 (p:=pEx) (r:=[-1,1,0]) (lim:=60) sS sT (by decide) (by decide) rfl (by decide);have h:=yb R (by decide) (by decide);rw [DV R,show eB (HW pEx [-1,1,0]) 60 1 0=_ from QO] at h;exact h
theorem Ox:CP Y F.bH [lst di pEx,I (4:Nat),mat [[-1,1,0],[-2,2,0]]] (cnV (some (0,0,1))):=by
 have h:=sf (p:=pEx) (n:=4) (l:=[[-1,1,0],[-2,2,0]]) (qf:=ni pEx 4) (by decide) (by decide +kernel) (by decide +kernel) ⟨by decide,fun r hr=>by
  simp only [Zt,Zb,or_false] at hr;rcases hr with rfl | rfl
  ·exact JQ sS sT (by decide) (by decide) (by decide) rfl (by decide)
  ·exact JQ sS sT (by decide) (by decide) (by decide) rfl (by decide)⟩
 rw [show Cr (ni pEx 4) [[-1,1,0],[-2,2,0]] 0 [[-1,1,0],[-2,2,0]]=_ from QQ] at h;exact h
theorem Mk:CP Y F.bH [lst di pEx,I (12:Nat),mat [[-1,1,0],[-2,0,1],[-3,1,1]]] (cnV none):=by
 have h:=sf (p:=pEx) (n:=12) (l:=[[-1,1,0],[-2,0,1],[-3,1,1]]) (qf:=ni pEx 12) (by decide) (by decide +kernel) (by decide +kernel) ⟨by decide,fun r hr=>by
  simp only [Zt,Zb,or_false] at hr;rcases hr with rfl | rfl | rfl
  ·exact JQ sS sT (by decide) (by decide) (by decide) rfl (by decide)
  ·exact JQ sS sT (by decide) (by decide) (by decide) rfl (by decide)
  ·exact JQ sS sT (by decide) (by decide) (by decide) rfl (by decide)⟩
 rw [show Cr (ni pEx 12) [[-1,1,0],[-2,0,1],[-3,1,1]] 0 [[-1,1,0],[-2,0,1],[-3,1,1]]=_ from Oy] at h;exact h
theorem Gz:CP Y F.cD [] (B true):=by
 refine qA ?_;have hl3:∀ (a b c:Int) (H:Hp),dt 3 [D.int IntKind.i64 0] [(0,V.d (D.int IntKind.i64 a)),(1,V.d (D.int IntKind.i64 b)),(2,V.d (D.int IntKind.i64 c))] H=some ([di a,di b,di c],H):=fun a b c H=>by simp [dt,fW,iA,toD,di]
 have lm1:=fun n l H=>Jy n l H
 have lm2:=fun n l n' l' H=>Jw n l n' l' H
 have lm3:∀ (n:Nat) (l:List D) (n':Nat) (l':List D) (n'':Nat) (l'':List D) (H:Hp),dt 3 [D.pl (Value.slice none 0 0)] [(0,.d (.sl n l)),(1,.d (.sl n' l')),(2,.d (.sl n'' l''))] H=some ([.sl n l,.sl n' l',.sl n'' l''],H):=fun n l n' l' n'' l'' H=>by simp [dt,fW,iA,toD]
 have lq3:∀ (x y z:Q) (H:Hp),dt 3 [D.str [],D.str []] [(0,.agg (qT x)),(1,.agg (qT y)),(2,.agg (qT z))] H=some (aK (tx x)++aK (tx y)++aK (tx z),H):=fun x y z H=>by simp [dt,fW,iA,toD,qT,aK,tx]
 have ee:=JO;simp (disch:=first|omega|simp<;>omega|fail)[cD,hl3,lm1];refine cd ee ?_;simp (disch:=first|omega|simp<;>omega|fail)[hl3];refine cd GK ?_;simp (disch:=first|omega|simp<;>omega|fail)[hl3,lm2];refine cd Ox ?_;simp (disch:=first|omega|simp<;>omega|fail)[hl3,lm3,cnV];refine cd Mk ?_
 have le1:am (lst szD [[(19,12),(-1,1),(0,1)]])=some (I 1):=rfl;have ix1:∀ h,ixV h 1 (lst szD [[(19,12),(-1,1),(0,1)]]) (I 0)=some (.dptr [szD [(19,12),(-1,1),(0,1)]] 0):=fun h=>et szD [[(19,12),(-1,1),(0,1)]] h (k:=.i64) (i:=0) (by decide) (by decide)
 have n1:=t7 (z:=19) (n:=12) (by decide) (by decide) (by decide) (by decide) (by decide);have n2:=t7 (z:=-1) (n:=1) (by decide) (by decide) (by decide) (by decide) (by decide);have n3:=t7 (z:=0) (n:=1) (by decide) (by decide) (by decide) (by decide) (by decide);have eq:=JR (s:=[(19,12),(-1,1),(0,1)]) (t:=[(19,12),(-1,1),(0,1)]) (by decide);rw [decide_eq_true rfl] at eq
 simp (disch:=first|omega|simp<;>omega|fail)[cnV,ix1];refine cd n1 ?_;simp (disch:=first|omega|simp<;>omega|fail)[];refine cd n2 ?_;simp (disch:=first|omega|simp<;>omega|fail)[];refine cd n3 ?_;simp (disch:=first|omega|simp<;>omega|fail)[lq3];refine cd eq ?_ (by simp [ae,aB,szD])
 have hl9:∀ (a b c d e f g i j:Int) (H:Hp),dt 9 [D.int IntKind.i64 0] [(0,V.d (D.int IntKind.i64 a)),(1,V.d (D.int IntKind.i64 b)),(2,V.d (D.int IntKind.i64 c)),(3,V.d (D.int IntKind.i64 d)),(4,V.d (D.int IntKind.i64 e)),(5,V.d (D.int IntKind.i64 f)),(6,V.d (D.int IntKind.i64 g)),(7,V.d (D.int IntKind.i64 i)),(8,V.d (D.int IntKind.i64 j))] H=some ([di a,di b,di c,di d,di e,di f,di g,di i,di j],H):=fun a b c d e f g i j H=>by simp [dt,fW,iA,toD,di]
 have si:=vQ (s:=[1,2,3,5,7,12,29,41,53]) (t:=[1,2,3,5,7,12,29,41,53]) (by decide);rw [decide_eq_true rfl] at si;simp (disch:=first|omega|simp<;>omega|fail)[hl9];refine cd si ?_;have ba:biA [D.int IntKind.i64 0,D.int IntKind.i64 0,D.int IntKind.i64 0] BinOp.eql (V.agg [I 0,I 0,I 1]) (V.agg [V.d (D.int IntKind.i64 0),V.d (D.int IntKind.i64 0),V.d (D.int IntKind.i64 1)])=some (B true):=rfl
 simp (disch:=first|omega|simp<;>omega|fail)[ba]
theorem rR {k m:Nat} {a b c d:Int} (hk:k<256) (hm:m<256) (ha : -128<=a∧a<=127) (hb : -128<=b∧b<=127) (hc : -128<=c∧c<=127) (hd : -128<=d∧d<=127) :
  CP Y F.bw [.d (.int .u8 k),.agg [i8V a,i8V b,i8V c,i8V d],.d (.int .u8 m)] (B true):=EI Gz hk hm ha hb hc hd
end Go.Vm
