/- The law DivisionVals. -/
import Derived.Test.YtaiahkcmdnaooaaGreatDoorQNnA
import Derived.Test.YtaiahkcmdnaooaaGreatDoorQT
set_option linter.unusedVariables false
set_option linter.unusedSimpArgs false
namespace Go.Vm
open Go Go.Am Go.Big
theorem T8 {p:List Int} {l:List Rw} (G:Cn p l) {n:Nat} (n0:0<n) (n1:n<=10000) {r:Rw} (hr:r∈l) {q:Int} (hq:q.natAbs<=1000000000):ZN p n r q:=by
 obtain ⟨lr,h9⟩:=G.rw r hr;have h2:bdL n (q.natAbs*1) (jy p n q):=qg (nQ G.hl n0);exact ⟨G.pc,by have:=G.i6.2.1;omega,G.hl,n0,n1,lr,EP h9,mj n0 (nQ G.hl n0) aa aa,mj (b:=1) aa (Ev h9) aa aa,aa,aa,mj n0 h2 aa aa,mj n0 (yr G.hl n0 h9) aa aa⟩
def zI (p v:List Int):List Rw->Int
 | []=>0
 | r::q=>if vsB p v r≠0 then vsB p v r else zI p v q
def bvE (p v:List Int) (l:List Rw):Int:=if vcB p v≠0 then vcB p v else if v.headD 0<1∨10000<v.headD 0 then 3 else zI p v l
def bvC (p v:List Int) (n:Nat) (a:List Rw):List D:=(a.map fun r=>fF p n (mh r v) (ofQ r)).map szD
theorem Mc (p v:List Int) (n:Nat) (a:List Rw) (r:Rw):bvC p v n (a++[r])=bvC p v n a++[szD (fF p n (mh r v) (ofQ r))]:=by simp [bvC]
theorem NQ {p v r:List Int} (h:vsB p v r=0):(mh r v).natAbs<=1000000000:=by
 unfold vsB at h;split at h
 ·rename_i g;exact absurd h g
 ·split at h
  ·rename_i g;exact absurd h g
  ·split at h
   ·cases h
   ·omega
theorem Mb {p v:List Int} {l:List Rw} (G:Cn p l) {n:Nat} (n0:0<n) (n1:n<=10000) (hv:v.length=p.length) (h0v:v.headD 0=n) (hN:l.length<=60) (k:KL) (h0:Hp) (hh:h0.length=1):∀ (q a:List Rw),a++q=l ->
  (zI p v q=0->k (.exit 0) [acR.v l.length (bvC p v n l)] [acR.b l.length (bvC p v n l)])->(zI p v q≠0->∀ h,k .ret [lS,I (zI p v q)] h) ->
  lp (ku (CX Y) (lst di p) (lst di v) (mat l) (I l.length)) [] h0 [acR.v a.length (bvC p v n a),I a.length] [acR.b a.length (bvC p v n a)] k
 | [],a,ha,hk,hk2=>by
  simp at ha;subst ha;refine av ?_;simp (disch:=try exact ac)[ku];exact hk rfl
 | r::q,a,ha,hk,hk2=>by
  have hr:r∈l:=by rw [<- ha];simp
  have hal:a.length<l.length:=by subst ha;simp
  have er:nth [] l a.length=r:=by subst ha;simp
  have i1:=fun h=>cC row l h (k:=.i64) (i:=(a.length:Int)) aa aa
  have i2:=fun h=>dy row [] l h (j:=a.length) hal
  rw [er] at i2;simp only [Int.toNat_natCast] at i1;have g1:(a.length:Int)<(l.length:Int):=aa;have hN6:=G.i6.2.1;have hl:=G.hl;have st:=Dm (p:=p) (v:=v) (r:=r) aa aa;have v1:=fun h=>cC di v h (k:=.i64) (i:=0) aa aa
  have v2:=fun h=>dy di 0 v h (j:=0) aa
  simp only [wC,h0v] at v2;have v1:∀ h,ixV h 1 (lst di v) (I 0)=some (.dptr (v.map di) 0):=v1;simp only [zI] at hk hk2;refine av ?_;simp (disch:=try exact ac)[ku,i1,i2,g1];refine cd st ?_;by_cases hs:vsB p v r=0
  ·rw [if_neg (by simpa using hs)] at hk hk2;have E:=T8 G n0 n1 hr (NQ hs);have of_:=E7 G.pc aa E.lr E.sr;have oz:=mO (z:=mh r v) (by have:=E.q1;omega) (by have:=E.q2;omega);have df:=LW E.hp E.hN E.hl E.h0 E.h1 E.st E.q1 E.q2 E.ti (by simp [ofQ,E.lr]) E.of E.er
   have li:∀ H,dE 1 [D.pl (Value.slice none 0 0)] [(0,szV (fF p n (mh r v) (ofQ r)))] H=some ([szD (fF p n (mh r v) (ofQ r))],H):=fun H=>Bz ..
   have cL:(bvC p v n a).length=a.length*acR.n:=by simp [acR,bvC]
   have es:=Mc p v n a r;have cG:∀ x y:Nat × Bk,([x]:Hp).set acR.s y=[y]:=fun x y=>rfl
   have hre:∀ y:Hp,y.length=1->aG [] 0 h0 y=y:=fun y hy=>cW 0 h0 y aa
   have ev:∀ c,acR.v (a.length+1) c=.ref acR.s (acR.e+1) 0 (a.length+1) (a.length+1) c.length:=fun c=>rfl
   have eb:∀ c,acR.b (a.length+1) c=(acR.e+1,.data acR.n c false false):=fun c=>rfl
   have ih:=Mb G n0 n1 hv h0v hN k h0 hh q (a++[r]) (by simpa using ha) hk hk2;rw [es] at ih;rw [hs,if_pos rfl];simp (disch:=try exact ac)[];refine cd of_ ?_;simp (disch:=try exact ac)[v1,v2];refine cd oz ?_;simp (disch:=try exact ac)[];refine cd df ?_ (by simp [ai,aI,szV,cX]);simp (disch:=try exact ac)[li]
   refine m5 acR (k:=1) aa rfl cL (by rfl) rfl (fun t e=>by cases e) aa ae ?_;simp (disch:=try exact ac)[cG,hre];simpa [ev,eb] using ih
  ·rw [if_pos hs] at hk2;simp (disch:=try exact ac)[hs];exact hk2 hs _
theorem Ri {p v:List Int} {l:List Rw} (G:Cn p l) (hv:v.length<1000000) (hN:l.length<=60) (hm:∀ r∈l,mzB p [r]=0) :
  CP Y F.il [lst di p,lst di v,mat l] (.tup [if bvE p v l=0 then .d (.sl l.length (bvC p v (v.headD 0).toNat l)) else lst di [],I (bvE p v l)]):=by
 refine ye ?_;have hN6:=G.i6.2.1;have hl:=G.hl;have pc:=gW (p:=p) aa;rw [G.pc] at pc;have vc:=EF (p:=p) (v:=v) aa hv;have ck:=sE (p:=p) (m:=l) aa aa;rw [Cf hN hm] at ck;have l1:bC (mat l)=some (I l.length):=rfl;simp (disch:=try exact ac)[il];refine cd pc ?_
 simp (disch:=try exact ac)[];refine cd vc ?_;by_cases h1:vcB p v=0
 ·obtain ⟨_,h2,h3,h4⟩:=EG h1;have v1:=fun h=>cC di v h (k:=.i64) (i:=0) aa aa
  have v2:=fun h=>dy di 0 v h (j:=0) aa
  have v1:∀ h,ixV h 1 (lst di v) (I 0)=some (.dptr (v.map di) 0):=v1;simp only [wC] at v2;have hE:bvE p v l=if v.headD 0<1∨10000<v.headD 0 then 3 else zI p v l:=by unfold bvE;rw [if_neg (by simp [h1])]
  rw [hE,h1];obtain ⟨z,hz⟩:∃ z,z=v.headD 0:=⟨_,rfl⟩;rw [<- hz] at v2 ⊢;by_cases g1:z<1
  ·rw [if_pos (show z<1∨10000<z from .inl g1)];simp (disch:=try exact ac)[v1,v2,g1];exact ⟨_,by simp [aI,ai,lst];exact rfl⟩
  ·by_cases g2:10000<z
   ·rw [if_pos (show z<1∨10000<z from .inr g2)];simp (disch:=try exact ac)[v1,v2,g1,g2];exact ⟨_,by simp [aI,ai,lst];exact rfl⟩
   ·rw [if_neg (show ¬ (z<1∨10000<z) by omega)];have bl:=fun k h1' h2'=>Mb (v:=v) G (n:=z.toNat) aa aa h2 aa hN k [(0,.none)] rfl l [] rfl h1' h2'
    have lc:(bvC p v z.toNat l).length=l.length*acR.n:=by simp [bvC,acR]
    simp (disch:=try exact ac)[v1,v2,g1,g2];refine cd ck ?_;simp (disch:=try exact ac)[l1];refine lo (bl _ (fun g=>?_) (fun g h=>?_))
    ·rw [g,if_pos rfl];obtain ⟨h',q1,_⟩:=lU acR (L:=l.length) (cells:=bvC p v z.toNat l) (h:=[acR.b l.length (bvC p v z.toNat l)]) rfl lc;simp (disch:=try exact ac)[];exact ax q1 rfl
    ·rw [if_neg g];simp (disch:=try exact ac)[];exact ⟨_,by simp [aI,ai,lst];exact rfl⟩
 ·have hE:bvE p v l=vcB p v:=if_pos h1;rw [hE,if_neg h1];simp (disch:=try exact ac)[h1];exact ⟨_,by simp [aI,ai,lst];exact rfl⟩
theorem Bq {p v:List Int} {l:List Rw} (G:Cn p l) {n:Nat} (n0:0<n) (n1:n<=10000) (hv:v.length=p.length) (h0v:v.headD 0=n) (hN:l.length<=60) (k:KL) (x0:Nat × Bk) (h0:Hp) (hh:h0.length=2):∀ (q a:List Rw),a++q=l ->
  (zI p v q=0->k (.exit 0) [I 0,acL.v l.length (bvC p v n l)] [x0,acL.b l.length (bvC p v n l)])->(zI p v q≠0->∀ x h,k (.exit 0) [I (zI p v q),x] h) ->
  lp (aD (CX Y) (lst di v) (lst di p) (mat l)) [] h0 [I 0,acL.v a.length (bvC p v n a),I a.length] [x0,acL.b a.length (bvC p v n a)] k
 | [],a,ha,hk,hk2=>by
  simp at ha;subst ha;have l1:bC (mat a)=some (I a.length):=rfl;refine av ?_;simp (disch:=try exact ac)[aD,l1];exact hk rfl
 | r::q,a,ha,hk,hk2=>by
  have hr:r∈l:=by rw [<- ha];simp
  have hal:a.length<l.length:=by subst ha;simp
  have er:nth [] l a.length=r:=by subst ha;simp
  have l1:bC (mat l)=some (I l.length):=rfl;have i1:=fun h=>cC row l h (k:=.i64) (i:=(a.length:Int)) aa aa
  have i2:=fun h=>dy row [] l h (j:=a.length) hal
  rw [er] at i2;simp only [Int.toNat_natCast] at i1;have g1:(a.length:Int)<(l.length:Int):=aa;have hN6:=G.i6.2.1;have hl:=G.hl;have st:=Dm (p:=p) (v:=v) (r:=r) aa aa;have v1:=fun h=>cC di v h (k:=.i64) (i:=0) aa aa
  have v2:=fun h=>dy di 0 v h (j:=0) aa
  simp only [wC,h0v] at v2;have v1:∀ h,ixV h 1 (lst di v) (I 0)=some (.dptr (v.map di) 0):=v1;have hre:∀ y:Hp,y.length=2->aG [] 0 h0 y=y:=fun y hy=>cW 0 h0 y aa
  simp only [zI] at hk hk2;refine av ?_;simp (disch:=try exact ac)[aD,l1,g1];refine bJ ?_;simp (disch:=try exact ac)[i1,i2];refine cd st ?_;by_cases hs:vsB p v r=0
  ·rw [if_neg (by simpa using hs)] at hk hk2;have E:=T8 G n0 n1 hr (NQ hs);have wr:=J1 E;have li:∀ H,dE 1 [D.pl (Value.slice none 0 0)] [(0,szV (fF p n (mh r v) (ofQ r)))] H=some ([szD (fF p n (mh r v) (ofQ r))],H):=fun H=>Bz ..
   have cL:(bvC p v n a).length=a.length*acL.n:=by simp [acL,bvC]
   have es:=Mc p v n a r;have cG:∀ y z w:Nat × Bk,([y,z]:Hp).set acL.s w=[y,w]:=fun y z w=>rfl
   have ev:∀ c,acL.v (a.length+1) c=.ref acL.s (acL.e+1) 0 (a.length+1) (a.length+1) c.length:=fun c=>rfl
   have eb:∀ c,acL.b (a.length+1) c=(acL.e+1,.data acL.n c false false):=fun c=>rfl
   have ih:=Bq G n0 n1 hv h0v hN k x0 h0 hh q (a++[r]) (by simpa using ha) hk hk2;rw [es] at ih;rw [hs,if_pos rfl];simp (disch:=try exact ac)[];refine bJ ?_;simp (disch:=try exact ac)[v1,v2,i1,i2];refine cd wr ?_;simp (disch:=try exact ac)[li]
   refine m5 acL (k:=1) aa rfl cL (by rfl) rfl (fun t e=>by cases e) aa ae ?_;simp (disch:=try exact ac)[cG,hre];simpa [ev,eb] using ih
  ·rw [if_pos hs] at hk2;simp (disch:=try exact ac)[hs];refine bJ ?_;simp (disch:=try exact ac)[hs,hre];have:=hk2 hs
   show lp _ _ _ _ _ _
   refine av ?_;by_cases g2:(a.length:Int)+1<(l.length:Int)
   ·simp (disch:=try exact ac)[aD,l1,g2,hs];exact this _ _
   ·simp (disch:=try exact ac)[aD,l1,g2];exact this _ _
theorem P8 {k:Nat} {e:List I4} {v:List Int} (hk:k<256) (hb:∀ x∈e,ok4 x):CP Y F.bz [.agg [.d (.int .u8 k),cX i4D e],lst di v] (B true):=by
 refine oM ?_;have snD:∀ h:Hp,ai h [.agg [.d (.int .u8 k),cX i4D e]]=some ([.agg [.d (.int .u8 k),cX i4D e]],h):=fun h=>by simp [ai,aI,cX]
 have fi:=D8 (k:=k) (e:=e);have lv:bC (lst di v)=some (I v.length):=rfl;by_cases h6:e.length<=6
 ·rw [decide_eq_true h6] at fi;by_cases h7:7<v.length
  ·have g7:(7:Int)<(v.length:Int):=aa;simp (disch:=try exact ac)[bz];refine cd kJ ?_;simp (disch:=try exact ac)[];refine cd fi ?_ (snD _);simp (disch:=try exact ac)[lv,g7];refine cd kJ ?_;simp (disch:=try exact ac)[]
  ·have g7:¬ (7:Int)<(v.length:Int):=aa;obtain ⟨p1,p2,p3,p4,p5⟩:=Pq _ (xM k);have mo:=DV (e:=e) hk aa hb;obtain ⟨p,hp⟩:∃ p,p=u9 k:=⟨_,rfl⟩;rw [<- hp] at p1 p2 p3 p4 p5 mo
   have gds:Cn p (e.map (mkI p)):=⟨p1,⟨p2,aa,p5⟩,p3,fun r hr=>by
     obtain ⟨y,_,rfl⟩:=Zg.1 hr;exact ⟨LC rfl p4,Qf _ _⟩⟩
   have hmz:∀ r∈e.map (mkI p),mzB p [r]=0:=fun r hr=>Fv p1 (gds.rw r hr).1 (EP (gds.rw r hr).2)
   have lle:(e.map (mkI p)).length<=6:=by rw [List.length_map];omega
   obtain ⟨l,hl⟩:∃ l,l=e.map (mkI p):=⟨_,rfl⟩;rw [<- hl] at gds hmz lle mo;have bv:=Ri (v:=v) gds aa aa hmz;obtain ⟨R,hR⟩:∃ R,R=(if bvE p v l=0 then V.d (.sl l.length (bvC p v (v.headD 0).toNat l)) else lst di []):=⟨_,rfl⟩;obtain ⟨E,hEq⟩:∃ E,E=bvE p v l:=⟨_,rfl⟩;rw [<- hR,<- hEq] at bv;have vc:=EF (p:=p) (v:=v) aa aa
   have l1:bC (mat l)=some (I l.length):=rfl;have le0:bC (lst di [])=some (I 0):=rfl;simp (disch:=try exact ac)[bz];refine cd kJ ?_;simp (disch:=try exact ac)[];refine cd fi ?_ (snD _);simp (disch:=try exact ac)[lv,g7];refine cd mo ?_ (snD _);simp (disch:=try exact ac)[];refine cd bv ?_
   simp (disch:=try exact ac)[];refine cd vc ?_;by_cases h1:vcB p v=0
   ·obtain ⟨_,h2,h3,h4⟩:=EG h1;have hE:bvE p v l=if v.headD 0<1∨10000<v.headD 0 then 3 else zI p v l:=by unfold bvE;rw [if_neg (by simp [h1])]
    have v1:=fun h=>cC di v h (k:=.i64) (i:=0) aa aa
    have v2:=fun h=>dy di 0 v h (j:=0) aa
    have v1:∀ h,ixV h 1 (lst di v) (I 0)=some (.dptr (v.map di) 0):=v1;simp only [wC] at v2;obtain ⟨z,hz⟩:∃ z,z=v.headD 0:=⟨_,rfl⟩;rw [hE] at hR hEq;rw [<- hz] at v2 hR hEq;rw [h1]
    have hx3:∀ (h0 h:Hp) (kk:KL),kk (.exit 0) [I 3,lS] h->lp (aD (CX Y) (lst di v) (lst di p) (mat l)) [] h0 [I 3,lS,I 0] h kk:=fun h0 h kk hk=>by
     refine av ?_;by_cases g:(0:Int)<(l.length:Int)
     ·simp (disch:=try exact ac)[aD,l1,g];exact hk
     ·simp (disch:=try exact ac)[aD,l1,g];exact hk
    by_cases g1:z<1
    ·rw [if_pos (show z<1∨10000<z from .inl g1)] at hR hEq;rw [if_neg ae] at hR;subst hR hEq;simp (disch:=try exact ac)[v1,v2,g1];refine bJ ?_;simp (disch:=try exact ac)[];refine lo (hx3 _ _ _ ?_);simp (disch:=try exact ac)[le0]
    ·by_cases g2:10000<z
     ·rw [if_pos (show z<1∨10000<z from .inr g2)] at hR hEq;rw [if_neg ae] at hR;subst hR hEq;simp (disch:=try exact ac)[v1,v2,g1,g2];refine bJ ?_;simp (disch:=try exact ac)[];refine lo (hx3 _ _ _ ?_);simp (disch:=try exact ac)[le0]
     ·rw [if_neg (show ¬ (z<1∨10000<z) by omega)] at hR hEq;obtain ⟨n,hn⟩:∃ n,n=z.toNat:=⟨_,rfl⟩;rw [<- hn] at hR
      have ss:=UJ (A:=l.map fun r=>fF p n (mh r v) (ofQ r)) au (fun s hs=>by
       obtain ⟨r,hr,rfl⟩:=Zg.1 hs;have:=qO (n:=n) (q:=mh r v) (s:=ofQ r) p3 (by simp [ofQ,(gds.rw r hr).1]);omega)
      have eA:lst szD (l.map fun r=>fF p n (mh r v) (ofQ r))=.d (.sl l.length (bvC p v n l)):=by simp [lst,bvC]
      have lc:(bvC p v n l).length=l.length*acL.n:=by simp [bvC,acL]
      rw [eA] at ss;simp (disch:=try exact ac)[v1,v2,g1,g2];refine bJ ?_;simp (disch:=try exact ac)[];refine lo (Bq gds (n:=n) aa aa h2 aa aa _ _ _ rfl l [] rfl (fun g=>?_) (fun g x h=>?_))
      ·rw [if_pos g] at hR;rw [g] at hEq;subst hR hEq;simp (disch:=try exact ac)[];obtain ⟨h',q1,_⟩:=lU acL (L:=l.length) (cells:=bvC p v n l) (h:=[(1,.vars [.d (.int .u8 k),cX i4D e]),acL.b l.length (bvC p v n l)]) rfl lc;refine cdz (ds:=[.d (.sl l.length (bvC p v n l)),.d (.sl l.length (bvC p v n l))]) (h':=h') (by simp only [ai,aI,norm,q1]) ss ?_
       simp (disch:=try exact ac)[]
      ·rw [if_neg g] at hR;subst hR hEq;simp (disch:=try exact ac)[g,le0]
   ·have hE:bvE p v l=vcB p v:=if_pos h1;rw [hE] at hR hEq;rw [if_neg h1] at hR;subst hR hEq;simp (disch:=try exact ac)[h1];refine bJ ?_;simp (disch:=try exact ac)[];refine lo ?_;refine av ?_;by_cases g:(0:Int)<(l.length:Int)
    ·simp (disch:=try exact ac)[aD,l1,g,h1,le0]
    ·simp (disch:=try exact ac)[aD,l1,g,h1,le0]
 ·rw [decide_eq_false h6] at fi;simp (disch:=try exact ac)[bz];refine cd kJ ?_;simp (disch:=try exact ac)[];refine cd fi ?_ (snD _);simp (disch:=try exact ac)[];refine cd kJ ?_;simp (disch:=try exact ac)[]
end Go.Vm
