/- Law of divisions: Records, but for what known says. -/
import Derived.Test.YtaiahkcmdnaooaaGreatDoorQCeX
import Derived.Test.YtaiahkcmdnaooaaGreatDoorQT
set_option linter.unusedVariables false
set_option linter.unusedSimpArgs false
namespace Go.Vm
open Go Go.Am Go.Big
def G4 (p:List Int):List (List Int)->Int
 | []=>0
 | r::m=>if mzB p [r]≠0 then mzB p [r] else G4 p m
def clB (p:List Int) (m:List (List Int)):Int:=if 60<m.length then 4 else G4 p m
theorem IC {p:List Int} (hp:p.length<1000000) (k:KL):∀ (q a:List (List Int)),(a++q).length<1000000000 ->
  (G4 p q=0->k (.exit 0) [] [])->(G4 p q≠0->k .ret [I (G4 p q)] []) ->
  lp (gD (CX Y) (lst di p) (mat (a++q)) (I (a++q).length)) [] [] [I a.length] [] k
 | [],a,hN,h0,h1=>by
  refine aj ?_;simp (disch:=first|omega|simp<;>omega|fail)[gD];exact h0 rfl
 | r::q,a,hN,h0,h1=>by
  simp at hN;have mo:=yv (p:=p) (r:=r) (by omega);simp only [G4] at h0 h1;refine aj ?_;simp (disch:=first|omega|simp<;>omega|fail)[gD];refine cd mo ?_;by_cases h:mzB p [r]=0
  ·rw [if_neg (by simpa using h)] at h0 h1;have ih:=IC hp k q (a++[r]) (by simp;omega) h0 h1;simp (disch:=first|omega|simp<;>omega|fail)[h];simp at ih ⊢;exact ih
  ·rw [if_pos h] at h1;simp (disch:=first|omega|simp<;>omega|fail)[h];exact h1 h
theorem uF {p:List Int} {m:List (List Int)} (hp:p.length<1000000) (hm:m.length<1000000000):CP Y F.cG [lst di p,mat m] (I (clB p m)):=by
 refine qV ?_;have l1:am (mat m)=some (I m.length):=rfl;unfold clB;by_cases h:60<m.length
 ·have g:(60:Int)<(m.length:Int):=by omega
  rw [if_pos h];simp (disch:=first|omega|simp<;>omega|fail)[cG,l1,g] <;> exact bH rfl
 ·have g:¬ (60:Int)<(m.length:Int):=by omega
  rw [if_neg h];simp (disch:=first|omega|simp<;>omega|fail)[cG,l1,g];refine lo (IC hp _ m [] (by simpa using hm) (fun g=>?_) (fun g=>?_))
  ·rw [g];simp (disch:=first|omega|simp<;>omega|fail)[]
  ·simp (disch:=first|omega|simp<;>omega|fail)[]
theorem FC {p:List Int} {m:List (List Int)} (hm:m.length<=60) (h:∀ r∈m,mzB p [r]=0):clB p m=0:=by
 unfold clB;rw [if_neg (by omega)];clear hm
 induction m with
 | nil=>rfl
 | cons r m ih=>
  rw [G4,if_neg (by simpa using h r (by simp))];exact ih fun x hx=>h x (by simp [hx])
def uX:List Int->List Int->List Int->Bool
 | x::a,y::b,z::c=>decide (x+y=z) && uX a b c
 | _,_,_=>true
theorem A8 {s t u:List Int} (hN:s.length<1000000) (hs:smR s=true) (ht:smR t=true) (k:KL):∀ (q r v a b c:List Int),a++q=s->b++r=t->c++v=u->a.length=b.length->a.length=c.length->q.length=r.length->q.length=v.length->(uX q r v=true->k (.exit 0) [] [])->(uX q r v=false->k .ret [B false] []) ->
  lp (iS (CX Y) (lst di s) (lst di t) (lst di u) (I s.length)) [] [] [I a.length] [] k
 | [],r,v,a,b,c,ha,hb,hc,hab,hac,hqr,hqv,h0,h1=>by
  simp at ha;subst ha;refine aj ?_;simp (disch:=first|omega|simp<;>omega|fail)[iS];exact h0 (by simp [uX])
 | x::q,[],v,a,b,c,ha,hb,hc,hab,hac,hqr,hqv,h0,h1=>by simp at hqr
 | x::q,y::r,[],a,b,c,ha,hb,hc,hab,hac,hqr,hqv,h0,h1=>by simp at hqv
 | x::q,y::r,z::v,a,b,c,ha,hb,hc,hab,hac,hqr,hqv,h0,h1=>by
  have hal:a.length<s.length:=by subst ha;simp
  have hbl:a.length<t.length:=by subst hb;simp;omega
  have hcl:a.length<u.length:=by subst hc;simp;omega
  have hx:nth 0 s a.length=x:=by subst ha;simp
  have hy:nth 0 t a.length=y:=by subst hb;rw [hab];simp
  have hz:nth 0 u a.length=z:=by subst hc;rw [hac];simp
  have bx:=BF hs (x:=x) (by rw [<- ha];simp);have by_:=BF ht (x:=y) (by rw [<- hb];simp);have i1:=d6 di s [] (k:=.i64) (i:=(a.length:Int)) (by omega) (by omega);have i2:=fA di 0 s [] (j:=a.length) hal;have j1:=d6 di t [] (k:=.i64) (i:=(a.length:Int)) (by omega) (by omega);have j2:=fA di 0 t [] (j:=a.length) hbl
  have k1:=d6 di u [] (k:=.i64) (i:=(a.length:Int)) (by omega) (by omega);have k2:=fA di 0 u [] (j:=a.length) hcl;rw [hx] at i2;rw [hy] at j2;rw [hz] at k2;simp only [Int.toNat_natCast] at i1 j1 k1;have g1:(a.length:Int)<(s.length:Int):=by omega
  refine aj ?_;by_cases hxy:x+y=z
  ·have ih:=A8 hN hs ht k q r v (a++[x]) (b++[y]) (c++[z]) (by simpa using ha) (by simpa using hb) (by simpa using hc) (by simp [hab]) (by simp [hac]) (by simpa using hqr) (by simpa using hqv) (fun e=>h0 (by simp [uX,hxy,e])) (fun e=>h1 (by simp [uX,e]));simp (disch:=first|omega|simp<;>omega|fail)[iS,i1,i2,j1,j2,k1,k2,g1,hx,hy,hz,hxy];simpa using ih
  ·simp (disch:=first|omega|simp<;>omega|fail)[iS,i1,i2,j1,j2,k1,k2,g1,hx,hy,hz,hxy];exact h1 (by simp [uX,hxy])
theorem OK {s t u:List Int} (hN:s.length<1000000) (hs:smR s=true) (ht:smR t=true) (l1:t.length=s.length) (l2:u.length=s.length):CP Y F.jW [lst di s,lst di t,lst di u] (B (uX s t u)):=by
 refine yY ?_;have hl:am (lst di s)=some (I s.length):=rfl;simp (disch:=first|omega|simp<;>omega|fail)[jW,hl]
 have:=A8 (u:=u) hN hs ht (exK [(Exit.exit 0,fun l5 h=>out (B (uX s t u)) (V.d (D.bool true)) h),(Exit.ret,fun l5 h=>out (B (uX s t u)) (ge l5 0) h)]) s t u [] [] [] rfl rfl rfl rfl rfl l1.symm l2.symm (fun g=>by
   simp (disch:=first|omega|simp<;>omega|fail)[];exact iP (by simp [g])) (fun g=>by
   simp (disch:=first|omega|simp<;>omega|fail)[];exact iP (by simp [g]))
 refine lo ?_;exact this
def ztD (z:Int):D:=.str (itoa z)
theorem wk {p:List Int} {n:Nat} {l:List (List Int)} {qf:List Int->Int} (hN:l.length<1000000) (hE:∀ r∈l,wV p n r (qf r)) (k:KL) (h0:Hp) (hh:h0.length=1):∀ (q a:List (List Int)),a++q=l ->
  k (.exit 0) [acR.v l.length (l.map fun r=>ztD (qf r))] [acR.b l.length (l.map fun r=>ztD (qf r))] ->
  lp (iI (CX Y) (lst di p) (I n) (mat l) (I l.length)) [] h0 [acR.v a.length (a.map fun r=>ztD (qf r)),I a.length] [acR.b a.length (a.map fun r=>ztD (qf r))] k
 | [],a,ha,hk=>by
  simp at ha;subst ha;refine aj ?_;simp (disch:=first|omega|simp<;>omega|fail)[iI];exact hk
 | r::q,a,ha,hk=>by
  have hal:a.length<l.length:=by subst ha;simp
  have hr:nth [] l a.length=r:=by subst ha;simp
  have hm:r∈l:=by rw [<- ha];simp
  have E:=hE r hm;have so:=KV (p:=p) (r:=r) E.hp (by have:=E.hN;omega) E.lr E.sr;have ls:(ofQ r).length=p.length:=by simp [ofQ,E.lr]
  have ne:=qU E.hp E.hN E.hl E.h0 E.h1 E.st ls E.of E.ne E.fl;have i1:=fun h=>d6 row l h (k:=.i64) (i:=(a.length:Int)) (by omega) (by omega)
  have i2:=fun h=>fA row [] l h (j:=a.length) hal
  rw [hr] at i2;simp only [Int.toNat_natCast] at i1;have g1:(a.length:Int)<(l.length:Int):=by omega
  have li1:∀ (z:Int) (H:Hp),dk 1 [D.str []] [(0,S (itoa z))] H=some ([ztD z],H):=fun z H=>by simp [dk,fY,iz,toD,ztD]
  have cR:(a.map fun r=>ztD (qf r)).length=a.length*acR.n:=by simp [acR]
  have cU:∀ x y:Nat × Bk,([x]:Hp).set acR.s y=[y]:=fun x y=>rfl
  have hre:∀ x:Hp,x.length=1->ay [] 0 h0 x=x:=fun x hx=>et 0 h0 x (by omega)
  have ev:∀ c,acR.v (a.length+1) c=.ref acR.s (acR.e+1) 0 (a.length+1) (a.length+1) c.length:=fun c=>rfl
  have eb:∀ c,acR.b (a.length+1) c=(acR.e+1,.data acR.n c false false):=fun c=>rfl
  have ih:=wk hN hE k h0 hh q (a++[r]) (by simpa using ha) hk;refine aj ?_;simp (disch:=first|omega|simp<;>omega|fail)[iI,i1,i2,g1];refine cd so ?_;simp (disch:=first|omega|simp<;>omega|fail)[];refine cd ne ?_ (by simp [ae,aA,szV,dI]);simp (disch:=first|omega|simp<;>omega|fail)[li1]
  refine pG acR (k:=1) (by omega) rfl cR (by rfl) rfl (fun t e=>by cases e) (by omega) (by decide) ?_;simp (disch:=first|omega|simp<;>omega|fail)[cU,hre,clean,eC,mt,mr,dw,ji];refine ⟨rfl,?_⟩;simpa [ev,eb] using ih
theorem J8 {p:List Int} {n:Nat} {l:List (List Int)} {qf:List Int->Int} (hN:l.length<1000000) (hE:∀ r∈l,wV p n r (qf r)):CP Y F.gH [lst di p,I n,mat l] (.tup [lst ztD (l.map qf),I 0]):=by
 refine uy ?_;have l1:am (mat l)=some (I l.length):=rfl
 have hl:=wk hN hE (exK [((.exit 0),fun l2 h=>out (.tup [lst ztD (l.map qf),I 0]) (.tup [(ge l2 0),(.d (.int .i64 0))]) h),(.ret,fun l2 h=>out (.tup [lst ztD (l.map qf),I 0]) (.tup [(ge l2 0),(ge l2 1)]) h)]) [(0,.none)] rfl l [] rfl (by
  obtain ⟨h',q1,_⟩:=oR acR (L:=l.length) (cells:=l.map fun r=>ztD (qf r)) (h:=[acR.b l.length (l.map fun r=>ztD (qf r))]) rfl (by simp [acR]);simp only [exK];have e:lst ztD (l.map qf)=.d (.sl l.length (l.map fun r=>ztD (qf r))):=by simp [lst]
  rw [e];exact ai q1 rfl)
 simp (disch:=first|omega|simp<;>omega|fail)[gH,l1];exact hl
def erD (p:List Int) (n:Nat) (qf:List Int->Int) (r:List Int):List Q:=nI p n (qf r) (ofQ r)
theorem we {p:List Int} {n:Nat} {l:List (List Int)} {qf:List Int->Int} (hN:l.length<1000000) (hE:∀ r∈l,wV p n r (qf r)) (k:KL) (h0:Hp) (hh:h0.length=1):∀ (q a:List (List Int)),a++q=l ->
  k (.exit 0) [acR.v l.length (l.map fun r=>szD (erD p n qf r))] [acR.b l.length (l.map fun r=>szD (erD p n qf r))] ->
  lp (iJ (CX Y) (lst di p) (I n) (mat l) (I l.length)) [] h0 [acR.v a.length (a.map fun r=>szD (erD p n qf r)),I a.length] [acR.b a.length (a.map fun r=>szD (erD p n qf r))] k
 | [],a,ha,hk=>by
  simp at ha;subst ha;refine aj ?_;simp (disch:=first|omega|simp<;>omega|fail)[iJ];exact hk
 | r::q,a,ha,hk=>by
  have hal:a.length<l.length:=by subst ha;simp
  have hr:nth [] l a.length=r:=by subst ha;simp
  have hm:r∈l:=by rw [<- ha];simp
  have E:=hE r hm;have de:=Bb E;have i1:=fun h=>d6 row l h (k:=.i64) (i:=(a.length:Int)) (by omega) (by omega)
  have i2:=fun h=>fA row [] l h (j:=a.length) hal
  rw [hr] at i2;simp only [Int.toNat_natCast] at i1;have g1:(a.length:Int)<(l.length:Int):=by omega
  have li1:∀ (s:List Q) (H:Hp),dk 1 [D.pl (Value.slice none 0 0)] [(0,szV s)] H=some ([szD s],H):=fun s H=>JJ ..
  have cR:(a.map fun r=>szD (erD p n qf r)).length=a.length*acR.n:=by simp [acR]
  have cU:∀ x y:Nat × Bk,([x]:Hp).set acR.s y=[y]:=fun x y=>rfl
  have hre:∀ x:Hp,x.length=1->ay [] 0 h0 x=x:=fun x hx=>et 0 h0 x (by omega)
  have ev:∀ c,acR.v (a.length+1) c=.ref acR.s (acR.e+1) 0 (a.length+1) (a.length+1) c.length:=fun c=>rfl
  have eb:∀ c,acR.b (a.length+1) c=(acR.e+1,.data acR.n c false false):=fun c=>rfl
  have ih:=we hN hE k h0 hh q (a++[r]) (by simpa using ha) hk;refine aj ?_;simp (disch:=first|omega|simp<;>omega|fail)[iJ,i1,i2,g1];refine cd de ?_;simp (disch:=first|omega|simp<;>omega|fail)[li1];refine pG acR (k:=1) (by omega) rfl cR (by rfl) rfl (fun t e=>by cases e) (by omega) (by decide) ?_
  simp (disch:=first|omega|simp<;>omega|fail)[cU,hre,clean,eC,mt,mr,dw,ji];refine ⟨rfl,?_⟩;simpa [ev,eb,erD] using ih
theorem J1 {p:List Int} {n:Nat} {l:List (List Int)} {qf:List Int->Int} (hp:p.length<1000000) (hN:l.length<=60) (hc:dvC p n=0) (hm:∀ r∈l,mzB p [r]=0) (hE:∀ r∈l,wV p n r (qf r)):CP Y F.fp [lst di p,I n,mat l] (.tup [lst szD (l.map (erD p n qf)),I 0]):=by
 refine uz ?_;have l1:am (mat l)=some (I l.length):=rfl;have dc:=oP (p:=p) (n:=(n:Int)) hp;rw [hc] at dc;have ck:=uF (p:=p) (m:=l) hp (by omega);rw [FC hN hm] at ck
 have hl:=we (by omega) hE (exK [((.exit 0),fun l2 h=>out (.tup [lst szD (l.map (erD p n qf)),I 0]) (.tup [(ge l2 0),(.d (.int .i64 0))]) h),(.ret,fun l2 h=>out (.tup [lst szD (l.map (erD p n qf)),I 0]) (.tup [(ge l2 0),(ge l2 1)]) h)]) [(0,.none)] rfl l [] rfl (by
  obtain ⟨h',q1,_⟩:=oR acR (L:=l.length) (cells:=l.map fun r=>szD (erD p n qf r)) (h:=[acR.b l.length (l.map fun r=>szD (erD p n qf r))]) rfl (by simp [acR]);simp only [exK];have e:lst szD (l.map (erD p n qf))=.d (.sl l.length (l.map fun r=>szD (erD p n qf r))):=by simp [lst]
  rw [e];exact ai q1 rfl)
 simp (disch:=first|omega|simp<;>omega|fail)[fp];refine cd dc ?_;simp (disch:=first|omega|simp<;>omega|fail)[];refine cd ck ?_;simp (disch:=first|omega|simp<;>omega|fail)[l1];exact hl
theorem Mb (a b:Int):biS .neq (S (itoa a)) (S (itoa b))=some (B (decide (a≠b))):=by
 have:(itoa a == itoa b)=decide (a=b):=by
  rw [Yw];simp only [beq_iff_eq,decide_eq_true_eq];exact ⟨fun h=>ud h,fun h=>by rw [h]⟩
 simp only [biS,xM,bne,this];simp
theorem LE {z:Int} (h1 : -1000000000000000000<z) (h2:z<1000000000000000000):ndg z.natAbs<999999:=by
 have:=a6 (n:=z.natAbs) (d:=18) (by show _<10 ^ 18;omega) (by decide);omega
abbrev Rw:=List Int
def MW (qf:Rw->Int) (i j:Nat) (a b:Rw):Nat->List Rw->Option (Nat × Nat × Nat)
 | _,[]=>none
 | m,c::q=>if uX a b c=true∧qf a+qf b≠qf c then some (i,j,m) else MW qf i j a b (m+1) q
def MX (qf:Rw->Int) (l:List Rw) (i:Nat) (a:Rw):Nat->List Rw->Option (Nat × Nat × Nat)
 | _,[]=>none
 | j,b::q=>match MW qf i j a b 0 l with
  | some t=>some t
  | none=>MX qf l i a (j+1) q
def CB (qf:Rw->Int) (l:List Rw):Nat->List Rw->Option (Nat × Nat × Nat)
 | _,[]=>none
 | i,a::q=>match MX qf l i a 0 l with
  | some t=>some t
  | none=>CB qf l (i+1) q
def cnH (t:Nat × Nat × Nat):Hp:=[(1,.vars [I t.1,I t.2.1,I t.2.2])]
def cnV:Option (Nat × Nat × Nat)->V
 | some t=>.tup [B false,.agg [I t.1,I t.2.1,I t.2.2],I 0]
 | none=>.tup [B true,.agg [I 0,I 0,I 0],I 0]
structure Pt (p:List Int) (n:Nat) (l:List Rw) (qf:Rw->Int):Prop where
 hN:l.length<=60
 hE:∀ r∈l,wV p n r (qf r)
theorem MS {p:List Int} {n:Nat} {l:List Rw} {qf:Rw->Int} (H:Pt p n l qf) {i j:Nat} {a b:Rw} (hi:i<l.length) (hj:j<l.length) (ha:nth [] l i=a) (hb:nth [] l j=b) (k:KL) (h0:Hp) (hh:h0.length=1):∀ (q c:List Rw),c++q=l ->
  (MW qf i j a b c.length q=none->k (.exit 4) [] (cnH (0,0,0)))->(∀ t,MW qf i j a b c.length q=some t->k .ret [B false,I 0] (cnH t)) ->
  lp (fD (CX Y) (.ptr 0 1 0 3) (lst ztD (l.map qf)) (I i) (lst di a) (I j) (lst di b) (mat l) (I l.length)) [] h0 [I c.length] (cnH (0,0,0)) k
 | [],c,hc,h1,h2=>by
  simp at hc;subst hc;refine aj ?_;simp (disch:=first|omega|simp<;>omega|fail)[fD];exact h1 rfl
 | r::q,c,hc,h1,h2=>by
  have hcl:c.length<l.length:=by subst hc;simp
  have hr:nth [] l c.length=r:=by subst hc;simp
  have mem:∀ x,x<l.length->nth [] l x∈l:=fun x hx=>by rw [gk [] l x hx];exact Xn hx
  have Ea:=H.hE a (ha ▸ mem i hi);have Eb:=H.hE b (hb ▸ mem j hj);have Er:=H.hE r (by rw [<- hc];simp);have ds:=OK (s:=a) (t:=b) (u:=r) (by have:=Ea.hN;have:=Ea.lr;omega) Ea.sr Eb.sr (by rw [Ea.lr,Eb.lr]) (by rw [Ea.lr,Er.lr]);have i1:=fun h=>d6 row l h (k:=.i64) (i:=(c.length:Int)) (by omega) (by omega)
  have i2:=fun h=>fA row [] l h (j:=c.length) hcl
  rw [hr] at i2;simp only [Int.toNat_natCast] at i1;have hlen:=H.hN
  have x1:∀ (h:Hp) (x:Nat),x<l.length->ixV h 1 (lst ztD (l.map qf)) (I (x:Int))=some (.dptr ((l.map qf).map ztD) x):=fun h x hx=>by
   have:=d6 ztD (l.map qf) h (k:=.i64) (i:=(x:Int)) (by omega) (by simp;omega);simpa only [Int.toNat_natCast] using this
  have x2:∀ (h:Hp) (x:Nat),x<l.length->ld1 h (.dptr ((l.map qf).map ztD) x)=some (S (itoa (qf (nth [] l x)))):=fun h x hx=>by
   have:=fA ztD 0 (l.map qf) h (j:=x) (by simpa using hx);rw [gk 0 (l.map qf) x (by simpa using hx),List.getElem_map,<- gk [] l x hx] at this;exact this
  have xi1:=fun h=>x1 h i hi
  have xi2:=fun h=>x2 h i hi
  have xj1:=fun h=>x1 h j hj
  have xj2:=fun h=>x2 h j hj
  have xc1:=fun h=>x1 h c.length hcl
  have xc2:=fun h=>x2 h c.length hcl
  rw [ha] at xi2;rw [hb] at xj2;rw [hr] at xc2;obtain ⟨ks,hks⟩:∃ ks,ks=l.map qf:=⟨_,rfl⟩;rw [<- hks] at xi1 xi2 xj1 xj2 xc1 xc2 ⊢;have wa:=qt (z:=qf a) (w:=qf b) (LE Ea.q1 Ea.q2) (LE Eb.q1 Eb.q2);have g1:(c.length:Int)<(l.length:Int):=by omega
  simp only [MW] at h1 h2;have ih:=MS H hi hj ha hb k h0 hh q (c++[r]) (by simpa using hc);rw [<- hks] at ih;refine aj ?_;simp (disch:=first|omega|simp<;>omega|fail)[fD,i1,i2,g1];refine cd ds ?_;have ne:=Mb (qf a+qf b) (qf r);have hre:ay [] 0 h0 (cnH (0,0,0))=cnH (0,0,0):=et 0 h0 _ (by simp [cnH];omega)
  have hst:stX (ie (cnH (0,0,0)) 0 1) (cnH (0,0,0)) 0 1 0 3 [V.d (D.int IntKind.i64 ↑i),V.d (D.int IntKind.i64 ↑j),V.d (D.int IntKind.i64 ↑c.length)]=some (cnH (i,j,c.length)):=rfl;by_cases hs:uX a b r=true
  ·rw [hs] at ds h1 h2 ⊢;simp (disch:=first|omega|simp<;>omega|fail)[xi1,xi2,xj1,xj2,xc1,xc2];refine cd wa ?_;by_cases he:qf a+qf b=qf r
   ·rw [if_neg (by simp [he])] at h1 h2;have ih':=ih (by simpa using h1) (by simpa using h2);simp (disch:=first|omega|simp<;>omega|fail)[xi1,xi2,xj1,xj2,xc1,xc2,ne,he,hre];simpa using ih'
   ·rw [if_pos ⟨rfl,he⟩] at h2;simp (disch:=first|omega|simp<;>omega|fail)[xi1,xi2,xj1,xj2,xc1,xc2,ne,he,hst];exact h2 _ rfl
  ·have hs':uX a b r=false:=by simpa using hs
   rw [if_neg (by simp [hs'])] at h1 h2;have ih':=ih (by simpa using h1) (by simpa using h2);rw [hs'] at ds ⊢;simp (disch:=first|omega|simp<;>omega|fail)[hre];simpa using ih'
theorem MU {p:List Int} {n:Nat} {l:List Rw} {qf:Rw->Int} (H:Pt p n l qf) {i:Nat} {a:Rw} (hi:i<l.length) (ha:nth [] l i=a) (k:KL) (h0:Hp) (hh:h0.length=1):∀ (q c:List Rw),c++q=l ->
  (MX qf l i a c.length q=none->k (.exit 2) [] (cnH (0,0,0)))->(∀ t,MX qf l i a c.length q=some t->k .ret [B false,I 0] (cnH t)) ->
  lp (fE (CX Y) (mat l) (.ptr 0 1 0 3) (lst ztD (l.map qf)) (I i) (lst di a) (mat l) (I l.length)) [] h0 [I c.length] (cnH (0,0,0)) k
 | [],c,hc,h1,h2=>by
  simp at hc;subst hc;refine aj ?_;simp (disch:=first|omega|simp<;>omega|fail)[fE];exact h1 rfl
 | r::q,c,hc,h1,h2=>by
  have hcl:c.length<l.length:=by subst hc;simp
  have hr:nth [] l c.length=r:=by subst hc;simp
  have i1:=fun h=>d6 row l h (k:=.i64) (i:=(c.length:Int)) (by omega) (by omega)
  have i2:=fun h=>fA row [] l h (j:=c.length) hcl
  rw [hr] at i2;simp only [Int.toNat_natCast] at i1;have hlen:=H.hN;have g1:(c.length:Int)<(l.length:Int):=by omega
  have l1:am (mat l)=some (I l.length):=rfl;have hre:ay [] 0 h0 (cnH (0,0,0))=cnH (0,0,0):=et 0 h0 _ (by simp [cnH];omega);have hre2:∀ t,ay [] 0 h0 (cnH t)=cnH t:=fun t=>et 0 h0 _ (by simp [cnH];omega)
  simp only [MX] at h1 h2;have ih:=MU H hi ha k h0 hh q (c++[r]) (by simpa using hc);have lp2:=fun k h1 h2=>MS H hi hcl ha hr k (cnH (0,0,0)) rfl l [] rfl h1 h2
  obtain ⟨ks,hks⟩:∃ ks,ks=l.map qf:=⟨_,rfl⟩;rw [<- hks] at ih lp2 ⊢;refine aj ?_;simp (disch:=first|omega|simp<;>omega|fail)[fE,i1,i2,g1,l1];refine lo (lp2 _ (fun g=>?_) (fun t g=>?_))
  ·simp only [List.length_nil] at g;rw [g] at h1 h2;have ih':=ih (by simpa using h1) (by simpa using h2);simp (disch:=first|omega|simp<;>omega|fail)[hre];simpa using ih'
  ·simp only [List.length_nil] at g;rw [g] at h2;have:=h2 t rfl;simp (disch:=first|omega|simp<;>omega|fail)[hre2];exact this
theorem MV {p:List Int} {n:Nat} {l:List Rw} {qf:Rw->Int} (H:Pt p n l qf) (k:KL) (h0:Hp) (hh:h0.length=1):∀ (q c:List Rw),c++q=l ->
  (CB qf l c.length q=none->k (.exit 0) [] (cnH (0,0,0)))->(∀ t,CB qf l c.length q=some t->k .ret [B false,I 0] (cnH t)) ->
  lp (fF (CX Y) (mat l) (.ptr 0 1 0 3) (lst ztD (l.map qf)) (mat l) (I l.length)) [] h0 [I c.length] (cnH (0,0,0)) k
 | [],c,hc,h1,h2=>by
  simp at hc;subst hc;refine aj ?_;simp (disch:=first|omega|simp<;>omega|fail)[fF];exact h1 rfl
 | r::q,c,hc,h1,h2=>by
  have hcl:c.length<l.length:=by subst hc;simp
  have hr:nth [] l c.length=r:=by subst hc;simp
  have i1:=fun h=>d6 row l h (k:=.i64) (i:=(c.length:Int)) (by omega) (by omega)
  have i2:=fun h=>fA row [] l h (j:=c.length) hcl
  rw [hr] at i2;simp only [Int.toNat_natCast] at i1;have hlen:=H.hN;have g1:(c.length:Int)<(l.length:Int):=by omega
  have l1:am (mat l)=some (I l.length):=rfl;have hre:∀ t,ay [] 0 h0 (cnH t)=cnH t:=fun t=>et 0 h0 _ (by simp [cnH];omega)
  simp only [CB] at h1 h2;have ih:=MV H k h0 hh q (c++[r]) (by simpa using hc);have lp2:=fun k h1 h2=>MU H hcl hr k (cnH (0,0,0)) rfl l [] rfl h1 h2
  obtain ⟨ks,hks⟩:∃ ks,ks=l.map qf:=⟨_,rfl⟩;rw [<- hks] at ih lp2 ⊢;refine aj ?_;simp (disch:=first|omega|simp<;>omega|fail)[fF,i1,i2,g1,l1];refine lo (lp2 _ (fun g=>?_) (fun t g=>?_))
  ·simp only [List.length_nil] at g;rw [g] at h1 h2;have ih':=ih (by simpa using h1) (by simpa using h2);simp (disch:=first|omega|simp<;>omega|fail)[hre];simpa using ih'
  ·simp only [List.length_nil] at g;rw [g] at h2;have:=h2 t rfl;simp (disch:=first|omega|simp<;>omega|fail)[hre];exact this
theorem sw {p:List Int} {n:Nat} {l:List Rw} {qf:Rw->Int} (hp:p.length<1000000) (hc:dvC p n=0) (hm:∀ r∈l,mzB p [r]=0) (H:Pt p n l qf):CP Y F.bF [lst di p,I n,mat l] (cnV (CB qf l 0 l)):=by
 refine pY ?_;have l1:am (mat l)=some (I l.length):=rfl;have hN:=H.hN;have dc:=oP (p:=p) (n:=(n:Int)) hp;rw [hc] at dc;have ck:=uF (p:=p) (m:=l) hp (by omega);rw [FC hN hm] at ck;have co:=J8 (by omega) H.hE;simp (disch:=first|omega|simp<;>omega|fail)[bF];refine cd dc ?_;simp (disch:=first|omega|simp<;>omega|fail)[];refine cd ck ?_
 simp (disch:=first|omega|simp<;>omega|fail)[];refine cd co ?_;simp (disch:=first|omega|simp<;>omega|fail)[l1];refine lo (MV H _ (cnH (0,0,0)) rfl l [] rfl (fun g=>?_) (fun t g=>?_))
 ·simp only [List.length_nil] at g;rw [g];simp (disch:=first|omega|simp<;>omega|fail)[cnH,cnV];exact ⟨[(1,.vars [I 0,I 0,I 0])],by simp [aA,ae]⟩
 ·simp only [List.length_nil] at g;rw [g];simp (disch:=first|omega|simp<;>omega|fail)[cnH,cnV];exact ⟨[(1,.vars [I t.1,I t.2.1,I t.2.2])],by simp [aA,ae]⟩
def QW (p:List Int) (a b:List Q):Int:=
 if jq (gM (0,1) a b) a b=true then (gM (0,1) a b).1 / ((gM (0,1) a b).2:Int)
 else match BY (tq p a) (tq p b) (fH 1 a) (fH 1 b) with
  | some q=>q
  | none=>(Co (tq p a) (tq p b) (fH 1 a) (fH 1 b) 6 64).getD 0
theorem OB {p:List Int} {a b:List Q} {q:Int} (h:ui p a b q):QW p a b=q:=by
 unfold QW;rcases h with ⟨h1,h2⟩ | ⟨h1,_,_,_,_,h2⟩
 ·rw [if_pos h1,h2]
 ·rw [if_neg (by simp [h1])];rcases h2 with ⟨h3,_⟩ | ⟨h3,_,_,_,h4⟩
  ·rw [h3]
  ·rw [h3,h4];rfl
def sgV (p:List Int) (s:List Q):Int:=(xW (tq p s)).getD 0
theorem KR {p:List Int} {s:List Q} {z:Int} (h:wC p s z):sgV p s=z:=by
 unfold sgV;rw [h.2.2];rfl
def m9 (p:List Int) (n:Nat) (r:List Int):Int:=QW p (tI p (ofQ r) (bT p n)) (qG p (bT p n))
theorem ED {p r:List Int} {n:Nat} {q:Int} (E:wV p n r q):m9 p n r=q:=OB E.fl
def IK (p:List Int) (n:Nat) (r:List Int):List Q:=nA p n r (m9 p n r) (sgV p (nI p n (m9 p n r) (ofQ r)))
def Ia (p r:List Int) (n m:Nat):Bool:=decide (sgV p (dfS p (IK p n r) (IK p m r))<0)
theorem ye {f g:Nat->Nat->Bool} {lim:Nat} (h:∀ n m,1<=m->m<n->n<=lim->f n m=g n m):∀ k n m,n+k<=lim+1->m<n->kf f k n m=kf g k n m
 | 0,_,_,_,_=>rfl
 | k+1,n,m,h1,h2=>by
  simp only [kf]
  have e:(m=0∨f n m=true)=(m=0∨g n m=true):=by
   by_cases hm:m=0
   ·simp [hm]
   ·rw [h n m (by omega) h2 (by omega)]
  simp only [e];split
  ·rw [ye h k (n+1) n (by omega) (by omega)]
  ·exact ye h k (n+1) m (by omega) (by omega)
theorem D9 {p r:List Int} {lim:Nat} {qf zf:Nat->Int} {ls:Nat->Nat->Bool} (R:Pr p r lim qf zf ls):kf ls lim 1 0=kf (Ia p r) lim 1 0:=by
 refine ye (lim:=lim) (fun n m h1 h2 h3=>?_) lim 1 0 (by omega) (by omega)
 have a1:∀ n,1<=n->n<=lim->IK p n r=nA p n r (qf n) (zf n):=fun n h1 h2=>by
  unfold IK;rw [ED (R.er n h1 h2),KR (R.sg n h1 h2).1]
 obtain ⟨z,z1,z2⟩:=R.cm n m h1 h2 h3;unfold Ia;rw [a1 n (by omega) h3,a1 m h1 (by omega),KR z1,z2]
theorem Q1:kf (Ia [2,3,5] [-1,1,0]) 60 1 0=[1,2,3,5,7,12,29,41,53]:=by decide +kernel
theorem Q2:nI [2,3,5] 12 (m9 [2,3,5] 12 [-1,1,0]) (ofQ [-1,1,0])=[(19,12),(-1,1),(0,1)]:=by decide +kernel
theorem Q3:CB (m9 [2,3,5] 4) [[-1,1,0],[-2,2,0]] 0 [[-1,1,0],[-2,2,0]]=some (0,0,1):=by decide +kernel
theorem OH:CB (m9 [2,3,5] 12) [[-1,1,0],[-2,0,1],[-3,1,1]] 0 [[-1,1,0],[-2,0,1],[-3,1,1]]=none:=by decide +kernel
theorem J2 {p r:List Int} {n:Nat} (hpc:pcB p=0) (hp:in6 p) (hl:0<p.length) (h0:0<n) (h1:n<=10000) (lr:r.length=p.length) (hr:∀ x∈r,x.natAbs<=9):wV p n r (m9 p n r):=by
 obtain ⟨q,E,_⟩:=er6 hpc hp hl h0 h1 lr hr;rw [ED E];exact E
def pEx:List Int:=[2,3,5]
theorem sS:pcB pEx=0:=by decide +kernel
theorem sT:in6 pEx:=by unfold in6;decide
theorem J0:CP Y F.fp [lst di pEx,I (12:Nat),mat [[-1,1,0]]] (.tup [lst szD [[(19,12),(-1,1),(0,1)]],I 0]):=by
 have h:=J1 (p:=pEx) (n:=12) (l:=[[-1,1,0]]) (qf:=m9 pEx 12) (by decide) (by decide) (by decide +kernel) (by decide +kernel) (fun r hr=>by
  simp only [Zt,Zb,or_false] at hr;subst hr;exact J2 sS sT (by decide) (by decide) (by decide) rfl (by decide))
 have e:List.map (erD pEx 12 (m9 pEx 12)) [[-1,1,0]]=[[(19,12),(-1,1),(0,1)]]:=by
  show [erD pEx 12 (m9 pEx 12) [-1,1,0]]=_
  rw [show erD pEx 12 (m9 pEx 12) [-1,1,0]=_ from Q2]
 rw [e] at h;exact h
theorem GR:CP Y F.eB [lst di pEx,lst di [-1,1,0],I (60:Nat)] (.tup [lst di [1,2,3,5,7,12,29,41,53],I 0]):=by
 obtain ⟨qf,zf,ls,R⟩:=rc6 (p:=pEx) (r:=[-1,1,0]) (lim:=60) sS sT (by decide) (by decide) rfl (by decide);have h:=Gi R (by decide) (by decide);rw [D9 R,show kf (Ia pEx [-1,1,0]) 60 1 0=_ from Q1] at h;exact h
theorem OG:CP Y F.bF [lst di pEx,I (4:Nat),mat [[-1,1,0],[-2,2,0]]] (cnV (some (0,0,1))):=by
 have h:=sw (p:=pEx) (n:=4) (l:=[[-1,1,0],[-2,2,0]]) (qf:=m9 pEx 4) (by decide) (by decide +kernel) (by decide +kernel) ⟨by decide,fun r hr=>by
  simp only [Zt,Zb,or_false] at hr;rcases hr with rfl | rfl
  ·exact J2 sS sT (by decide) (by decide) (by decide) rfl (by decide)
  ·exact J2 sS sT (by decide) (by decide) (by decide) rfl (by decide)⟩
 rw [show CB (m9 pEx 4) [[-1,1,0],[-2,2,0]] 0 [[-1,1,0],[-2,2,0]]=_ from Q3] at h;exact h
theorem Mu:CP Y F.bF [lst di pEx,I (12:Nat),mat [[-1,1,0],[-2,0,1],[-3,1,1]]] (cnV none):=by
 have h:=sw (p:=pEx) (n:=12) (l:=[[-1,1,0],[-2,0,1],[-3,1,1]]) (qf:=m9 pEx 12) (by decide) (by decide +kernel) (by decide +kernel) ⟨by decide,fun r hr=>by
  simp only [Zt,Zb,or_false] at hr;rcases hr with rfl | rfl | rfl
  ·exact J2 sS sT (by decide) (by decide) (by decide) rfl (by decide)
  ·exact J2 sS sT (by decide) (by decide) (by decide) rfl (by decide)
  ·exact J2 sS sT (by decide) (by decide) (by decide) rfl (by decide)⟩
 rw [show CB (m9 pEx 12) [[-1,1,0],[-2,0,1],[-3,1,1]] 0 [[-1,1,0],[-2,0,1],[-3,1,1]]=_ from OH] at h;exact h
theorem GH:CP Y F.dp [] (B true):=by
 refine qD ?_;have hl3:∀ (a b c:Int) (H:Hp),dk 3 [D.int IntKind.i64 0] [(0,V.d (D.int IntKind.i64 a)),(1,V.d (D.int IntKind.i64 b)),(2,V.d (D.int IntKind.i64 c))] H=some ([di a,di b,di c],H):=fun a b c H=>by simp [dk,fY,iz,toD,di]
 have lm1:=fun n l H=>JJ n l H
 have lm2:=fun n l n' l' H=>JI n l n' l' H
 have lm3:∀ (n:Nat) (l:List D) (n':Nat) (l':List D) (n'':Nat) (l'':List D) (H:Hp),dk 3 [D.pl (Value.slice none 0 0)] [(0,.d (.sl n l)),(1,.d (.sl n' l')),(2,.d (.sl n'' l''))] H=some ([.sl n l,.sl n' l',.sl n'' l''],H):=fun n l n' l' n'' l'' H=>by simp [dk,fY,iz,toD]
 have lq3:∀ (x y z:Q) (H:Hp),dk 3 [D.str [],D.str []] [(0,.agg (qT x)),(1,.agg (qT y)),(2,.agg (qT z))] H=some (aJ (tx x)++aJ (tx y)++aJ (tx z),H):=fun x y z H=>by simp [dk,fY,iz,toD,qT,aJ,tx]
 have ee:=J0;simp (disch:=first|omega|simp<;>omega|fail)[dp,hl3,lm1,lm2,lm3];refine cd ee ?_;simp (disch:=first|omega|simp<;>omega|fail)[hl3,lm1,lm2,lm3];refine cd GR ?_;simp (disch:=first|omega|simp<;>omega|fail)[hl3,lm1,lm2,lm3];refine cd OG ?_;simp (disch:=first|omega|simp<;>omega|fail)[hl3,lm1,lm2,lm3,cnV];refine cd Mu ?_
 have le1:am (lst szD [[(19,12),(-1,1),(0,1)]])=some (I 1):=rfl;have ix1:∀ h,ixV h 1 (lst szD [[(19,12),(-1,1),(0,1)]]) (I 0)=some (.dptr [szD [(19,12),(-1,1),(0,1)]] 0):=fun h=>d6 szD [[(19,12),(-1,1),(0,1)]] h (k:=.i64) (i:=0) (by decide) (by decide)
 have n1:=xk (z:=19) (n:=12) (by decide) (by decide) (by decide) (by decide) (by decide);have n2:=xk (z:=-1) (n:=1) (by decide) (by decide) (by decide) (by decide) (by decide);have n3:=xk (z:=0) (n:=1) (by decide) (by decide) (by decide) (by decide) (by decide);have eq:=vw (s:=[(19,12),(-1,1),(0,1)]) (t:=[(19,12),(-1,1),(0,1)]) (by decide);rw [decide_eq_true rfl] at eq
 simp (disch:=first|omega|simp<;>omega|fail)[cnV,le1,ix1];refine cd n1 ?_;simp (disch:=first|omega|simp<;>omega|fail)[];refine cd n2 ?_;simp (disch:=first|omega|simp<;>omega|fail)[];refine cd n3 ?_;simp (disch:=first|omega|simp<;>omega|fail)[lq3];refine cd eq ?_ (by simp [ae,aA,szD,Lv])
 have hl9:∀ (a b c d e f g i j:Int) (H:Hp),dk 9 [D.int IntKind.i64 0] [(0,V.d (D.int IntKind.i64 a)),(1,V.d (D.int IntKind.i64 b)),(2,V.d (D.int IntKind.i64 c)),(3,V.d (D.int IntKind.i64 d)),(4,V.d (D.int IntKind.i64 e)),(5,V.d (D.int IntKind.i64 f)),(6,V.d (D.int IntKind.i64 g)),(7,V.d (D.int IntKind.i64 i)),(8,V.d (D.int IntKind.i64 j))] H=some ([di a,di b,di c,di d,di e,di f,di g,di i,di j],H):=fun a b c d e f g i j H=>by simp [dk,fY,iz,toD,di]
 have si:=DX (s:=[1,2,3,5,7,12,29,41,53]) (t:=[1,2,3,5,7,12,29,41,53]) (by decide);rw [decide_eq_true rfl] at si;simp (disch:=first|omega|simp<;>omega|fail)[hl9];refine cd si ?_;have ba:biA [D.int IntKind.i64 0,D.int IntKind.i64 0,D.int IntKind.i64 0] BinOp.eql (V.agg [I 0,I 0,I 1]) (V.agg [V.d (D.int IntKind.i64 0),V.d (D.int IntKind.i64 0),V.d (D.int IntKind.i64 1)])=some (B true):=rfl
 simp (disch:=first|omega|simp<;>omega|fail)[ba]
def Et:List (List Int):=[[2,3,5],[2,3],[2,3,5,7],[2,3,7],[3,5,7],[2],[2,5,7],[2,3,11],[2,3,5,13],[2,3,7,11]]
def p13 (k:Nat):List Int:=Et.getD (k % 10) []
theorem Qr:∀ l∈Et,pcB l=0∧l.Nodup∧0<l.length∧l.length<=4∧∀ x∈l,x∈c6P:=by decide +kernel
theorem N4 (k:Nat):p13 k∈Et:=by
 unfold p13;have h:k % 10<Et.length:=Y8 _ (by decide);rw [Z0,List.getElem?_eq_getElem h];exact Xn h
theorem Ek {k:Nat} (hk:k<256):CP Y F.cO [.d (.int .u8 k)] (lst di (p13 k)):=by
 refine pS ?_;have hkk:k % 10<10:=Y8 _ (by decide);have i1:=fun H:Hp=>d6 row Et H (k:=.u8) (i:=((k % 10:Nat):Int)) (by omega) (by show ((k % 10:Nat):Int)<10;omega)
 have i2:=fun H:Hp=>fA row [] Et H (j:=k % 10) hkk
 have hn:nth [] Et (k % 10)=p13 k:=rfl
 have m1:biI .rem (.d (.int .u8 (k:Int))) (.d (.int .u8 10))=some (.d (.int .u8 ((k % 10:Nat):Int))):=by
  rw [IH (by omega),Zx (by omega)];congr 3
 rw [hn] at i2;generalize k % 10=j at *;simp only [Int.toNat_natCast] at i1;simp (disch:=first|omega|simp<;>omega|fail)[cO,dk,fY,iz,toD]
 show rn (bnd (biI .rem (.d (.int .u8 k)) (.d (.int .u8 10)))) (fun v14=>bnd (ixV [] 1 (lst row Et) v14) fun v15=>bnd (ld1 [] v15) fun v16=>out (lst di (p13 k)) v16 []) .mk
 rw [m1,Qj,i1,oQ,i2,oQ];exact N6 ..
theorem N3 {z d:Int} (hd:d≠0) (h1 : -9223372036854775808<z) (h2:z<9223372036854775808) (h3 : -9223372036854775808<d) (h4:d<9223372036854775808):CP Y F.dM [I z,I d] (.agg (qT (nD z d))):=by
 refine rT ?_;have fo:CP Y F.gR [I z,I d] (.tup [.agg [S (itoa (nD z d).1),S (aa (nD z d).2)],I 0]):=E0 hd h1 h2 h3 h4;simp (disch:=first|omega|simp<;>omega|fail)[dM];refine cd fo ?_;simp (disch:=first|omega|simp<;>omega|fail)[];exact iQ rfl rfl
def GY:List Int:=[1,2,3,4,6,12]
def pN (b:Nat):Int:=GY.getD (b % 6) 1
theorem Fs (b:Nat):pN b=1∨pN b=2∨pN b=3∨pN b=4∨pN b=6∨pN b=12:=by
 unfold pN;have h:b % 6<6:=Y8 _ (by decide);generalize b % 6=j at *;have:j=0∨j=1∨j=2∨j=3∨j=4∨j=5:=by omega
 rcases this with rfl | rfl | rfl | rfl | rfl | rfl <;> simp [GY]
def frq (a:Int) (b:Nat):Q:=nD (a.tmod 41) (pN b)
theorem zW {a:Int} {b:Nat} (ha : -128<=a∧a<=127) (hb:b<256):CP Y F.ci [.agg [.d (.int .i8 a),.d (.int .u8 b)]] (.agg (qT (frq a b))):=by
 refine oz ?_;have r1 : -41<a.tmod 41:=Int.lt_tmod_of_pos a (by decide);have r2:=Int.tmod_lt_of_pos a (b:=41) (by decide);have hd:=Fs b;have pt:CP Y F.dM [I (a.tmod 41),I (pN b)] (.agg [S (itoa (frq a b).1),S (aa (frq a b).2)]):=N3 (z:=a.tmod 41) (d:=pN b) (by omega) (by omega) (by omega) (by omega) (by omega)
 have hkk:b % 6<6:=Y8 _ (by decide);have i1:=fun H:Hp=>d6 di GY H (k:=.u8) (i:=((b % 6:Nat):Int)) (by omega) (by show ((b % 6:Nat):Int)<6;omega)
 have i2:=fun H:Hp=>fA di 1 GY H (j:=b % 6) hkk
 have hn:nth 1 GY (b % 6)=pN b:=rfl
 have m1:biI .rem (.d (.int .u8 (b:Int))) (.d (.int .u8 6))=some (.d (.int .u8 ((b % 6:Nat):Int))):=by
  rw [IH (by omega),Zx (by omega)];congr 3
 rw [hn] at i2;simp only [Int.toNat_natCast] at i1;obtain ⟨c,hc⟩:∃ c,c=GY.map di:=⟨_,rfl⟩
 have i1':∀ H:Hp,ixV H 1 (.d (.sl 6 c)) (.d (.int .u8 ((b % 6:Nat):Int)))=some (.dptr c (b % 6)):=fun H=>by
  have:=i1 H;rw [<- hc] at this;rw [<- this,hc];rfl
 have i2':∀ H:Hp,ld1 H (.dptr c (b % 6))=some (I (pN b)):=fun H=>by rw [hc];exact i2 H
 have hl6:∀ H:Hp,dk 6 [D.int IntKind.i64 0] [(0,V.d (D.int IntKind.i64 1)),(1,V.d (D.int IntKind.i64 2)),(2,V.d (D.int IntKind.i64 3)),(3,V.d (D.int IntKind.i64 4)),(4,V.d (D.int IntKind.i64 6)),(5,V.d (D.int IntKind.i64 12))] H=some (c,H):=fun H=>by
  rw [hc];simp [dk,fY,iz,toD,di,GY]
 have hm:((b:Int).tmod 6)=(b:Int) % 6:=Zx (by omega);have i1'':∀ H:Hp,ixV H 1 (.d (.sl 6 c)) (.d (.int .u8 ((b:Int) % 6)))=some (.dptr c (b % 6)):=i1';simp (disch:=first|omega|simp<;>omega|fail)[ci,hl6,hm,i1'',i2'];refine cd pt ?_;simp (disch:=first|omega|simp<;>omega|fail)[];exact iQ rfl rfl
def yk (e:List (Int × Nat)):List V:=e.flatMap fun x=>[.d (.int .i8 x.1),.d (.int .u8 x.2)]
def acM:Acc:=⟨2,0,2,.none⟩
def uW (k:Nat) (e:List (Int × Nat)):List Q:=(e.take k).map fun x=>frq x.1 x.2
def pD (k:Nat) (e:List (Int × Nat)):List D:=((uW k e).map tx).flatMap aJ
def mkH (e:List (Int × Nat)) (i:Nat):Hp:=[(1,.vars (yk e)),(1,.data 2 [] true false),acM.b i (pD i e)]
def mkV (e:List (Int × Nat)) (i:Nat):V:=if i=0 then .ref 1 1 0 0 0 0 else acM.v i (pD i e)
theorem Lt:∀ e:List (Int × Nat),offB [] (.vars (yk e))=true
 | []=>rfl
 | x::e=>by
  have:=Lt e;rw [r8] at this ⊢;simp only [yk,Yn,List.cons_append,List.nil_append,eC,ji] at this ⊢;simpa [yk] using this
theorem app0 {y:V} {cs:List D} {x0:Nat × Bk} {q:V->Hp->Prop} {u:PU q} (hcs:cs.length=2) (hy:∀ h,cellsOf h y=some (1,cs)) (hyn:∀ t,y≠.d (.str t)) (hq:q (acM.v 1 cs) [x0,(1,.data 2 [] true false),acM.b 1 cs]) :
  rh (apV false 2 2 32 (.ref 1 1 0 0 0 0) y [x0,(1,.data 2 [] true false),(0,.none)]) q u:=by
 show apV false 2 2 32 (.ref 1 1 0 0 0 0) y [x0,(1,.data 2 [] true false),(0,.none)] q
 have e1:apV false 2 2 32 (.ref 1 1 0 0 0 0) y [x0,(1,.data 2 [] true false),(0,.none)] q=apC false 2 2 32 (.ref 1 1 0 0 0 0) 1 cs [x0,(1,.data 2 [] true false),(0,.none)] q:=by
  unfold apV;split
  ·rename_i t;exact absurd rfl (hyn t)
  ·rw [hy];simp only [hcs,if_true]
 rw [e1];unfold apC;rw [if_neg (by decide)];simp only [hget];simp [hcs,new];simpa [acM,Acc.v,Acc.b,hcs] using hq
theorem Sv {e:List (Int × Nat)} (he:e.length=4) {j:Nat} {x:Int × Nat} (hx:e[j]? = some x) (x1 x2:Nat × Bk) :
  ixP 4 2 (.ptr 0 1 0 8) (I (j:Int))=some (.ptr 0 1 (j*2) 8)∧ldA [(1,.vars (yk e)),x1,x2] 2 (.ptr 0 1 (j*2) 8)=some (.agg [.d (.int .i8 x.1),.d (.int .u8 x.2)]):=by
 match e,he with
 | [a,b,c,d],_=>
  have hj:j<4:=by
   rcases Zo j 4 with h | h
   ·exact h
   ·rw [List.getElem?_eq_none (by simpa using h)] at hx;cases hx
  have:j=0∨j=1∨j=2∨j=3:=by omega
  rcases this with rfl | rfl | rfl | rfl <;> simp at hx <;> subst hx <;> exact ⟨rfl,rfl⟩
theorem AQ {p:List Int} {e:List (Int × Nat)} (he:e.length=4) (hb:∀ x∈e,(-128<=x.1∧x.1<=127)∧x.2<256) (hp:p.length<=4) (k:KL) (h0:Hp) (hh:h0.length=3):∀ (f i:Nat),i+f=p.length ->
  k (.exit 0) [mkV e p.length] (mkH e p.length) ->
  lp (gL (CX Y) (lst di p) (.ptr 0 1 0 8)) [] h0 [mkV e i,I i] (mkH e i) k
 | 0,i,hi,hk=>by
  have g:¬ (i:Int)<(p.length:Int):=by omega
  have:i=p.length:=by omega
  subst this;have l1:am (lst di p)=some (I p.length):=rfl;refine aj ?_;simp (disch:=first|omega|simp<;>omega|fail)[gL,l1];exact hk
 | f+1,i,hi,hk=>by
  have g:(i:Int)<(p.length:Int):=by omega
  have l1:am (lst di p)=some (I p.length):=rfl;have ex:∃ x,e[i]? = some x:=⟨_,List.getElem?_eq_getElem (by omega)⟩;obtain ⟨x,hx⟩:=ex;obtain ⟨⟨b1,b2⟩,b3⟩:=hb x (Y6 hx);obtain ⟨pa,pb⟩:=Sv he hx (1,.data 2 [] true false) (acM.b i (pD i e));have fr:CP Y F.ci [.agg [.d (.int .i8 x.1),.d (.int .u8 x.2)]] (.agg (qT (frq x.1 x.2))):=zW ⟨b1,b2⟩ b3
  have ih:=AQ he hb hp k h0 hh f (i+1) (by omega) hk;have r4:(i:Int).tmod 4=(i:Int):=Int.tmod_eq_of_lt (by omega) (by omega)
  have es:pD (i+1) e=pD i e++aJ (tx (frq x.1 x.2)):=by
   unfold pD uW;rw [List.take_add_one,hx];simp
  have lq:∀ H,dk 1 [D.str [],D.str []] [(0,.agg (qT (frq x.1 x.2)))] H=some (aJ (tx (frq x.1 x.2)),H):=fun H=>H9 _ H
  have hre:∀ y:Hp,y.length=3->ay [] 0 h0 y=y:=fun y hy=>et 0 h0 y (by omega)
  have lce:(pD i e).length=i*2:=by
   unfold pD;rw [gS aJ aG,List.length_map];simp [uW];omega
  have lt2:(aJ (tx (frq x.1 x.2))).length=2:=aG _;refine aj ?_;simp (disch:=first|omega|simp<;>omega|fail)[gL,l1,g,r4,mkH,pa,pb];refine cd fr ?_ (by simp [ae,aA]);simp (disch:=first|omega|simp<;>omega|fail)[lq];have off1:offB [] (.data 2 [] true false)=true:=rfl;have off2:∀ cs,offB [] (.data 2 cs false false)=true:=fun cs=>rfl
  have hpt:=Lt e;by_cases h0i:i=0
  ·subst h0i;have ce0:pD 0 e=[]:=by simp [pD,uW]
   have e1:pD 1 e=aJ (tx (frq x.1 x.2)):=by rw [es,ce0];rfl
   rw [ce0]
   show rh (apV false 2 2 32 (.ref 1 1 0 0 0 0) _ [_,_,(0,.none)]) _ _
   refine app0 lt2 (fun h=>rfl) (fun t e=>by cases e) ?_;rw [<- e1];simp (disch:=first|omega|simp<;>omega|fail)[hre,clean,eC,mt,mr,dw,ji,off1,off2,hpt,acM,Acc.v,Acc.b];simpa [mkV,mkH,acM,Acc.v,Acc.b] using ih
  ·have ei:mkV e i=acM.v i (pD i e):=by unfold mkV;rw [if_neg h0i]
   have ei1:mkV e (i+1)=acM.v (i+1) (pD (i+1) e):=by unfold mkV;rw [if_neg (by omega)]
   have cU:∀ x y z w:Nat × Bk,([x,y,z]:Hp).set acM.s w=[x,y,w]:=fun x y z w=>rfl
   have ev:∀ c,acM.v (i+1) c=.ref acM.s (acM.e+1) 0 (i+1) (i+1) c.length:=fun c=>rfl
   have eb:∀ c,acM.b (i+1) c=(acM.e+1,.data acM.n c false false):=fun c=>rfl
   rw [ei];refine pG acM (k:=1) (by omega) rfl lce lt2 rfl (fun t e=>by cases e) (by omega) (by decide) ?_;rw [ei1,es] at ih;unfold mkH at ih;rw [es] at ih;simp (disch:=first|omega|simp<;>omega|fail)[cU,hre,clean,eC,mt,mr,dw,ji,off1,off2,hpt,ev,eb];refine ⟨rfl,?_⟩;simpa [ev,eb] using ih
theorem JG {p:List Int} {e:List (Int × Nat)} (he:e.length=4) (hb:∀ x∈e,(-128<=x.1∧x.1<=127)∧x.2<256) (hp:p.length<=4) (hl:0<p.length):CP Y F.dN [lst di p,.agg (yk e)] (szV (uW p.length e)):=by
 refine rU ?_
 have lce:(pD p.length e).length=p.length*2:=by
  unfold pD;rw [gS aJ aG,List.length_map];simp [uW];omega
 have hv:mkV e p.length=acM.v p.length (pD p.length e):=by unfold mkV;rw [if_neg (by omega)]
 have ls:((uW p.length e).map tx).length=p.length:=by simp [uW];omega
 have hl:=AQ (p:=p) he hb hp (exK [((.exit 0),fun l3 h=>out (szV (uW p.length e)) (ge l3 0) h)]) (mkH e 0) rfl p.length 0 (by omega) (by
  obtain ⟨h',q1,_⟩:=oR acM (L:=p.length) (cells:=pD p.length e) (h:=mkH e p.length) rfl lce;simp only [exK];have es:szV (uW p.length e)=.d (.sl p.length (pD p.length e)):=by unfold szV dI pD;rw [ls]
  rw [es];refine ⟨h',?_⟩
  show aA _ (mkV e p.length)=_
  rw [hv];exact q1)
 have hm:∃ a b c d:Int × Nat,e=[a,b,c,d]:=by
  match e,he with
  | [a,b,c,d],_=>exact ⟨a,b,c,d,rfl⟩
 obtain ⟨a,b,c,d,rfl⟩:=hm;have hl0:∀ H:Hp,dk 0 [D.str [],D.str []] [] H=some ([],H):=fun H=>by simp [dk,fY,iz]
 simp (disch:=first|omega|simp<;>omega|fail)[dN,yk,hl0];exact hl
theorem GU {p:List Int} {n:Nat} (hp:pcB p=0) (h0:0<n) (h1:n<=10000):dvC p n=0:=by
 unfold dvC;rw [if_pos hp,if_neg (by omega)]
theorem MN {p:List Int} {n:Nat} (hp:pcB p=0) (hN:p.length<=20) (hl:0<p.length) (h0:0<n) (h1:n<=10000) (hr:okS (bT p n)):CP Y F.je [lst di p,I n] (.tup [szV (bT p n),I 0]):=by
 refine wN ?_;have dc:=oP (p:=p) (n:=(n:Int)) (by omega);rw [GU hp h0 h1] at dc;have st:=yW hp hN hl h0 h1 hr;simp (disch:=first|omega|simp<;>omega|fail)[je];refine cd dc ?_;simp (disch:=first|omega|simp<;>omega|fail)[];refine cd st ?_;simp (disch:=first|omega|simp<;>omega|fail)[];exact ai (nE _ _) rfl
theorem Ni {p:List Int} {n:Nat} {s:List Q} (hp:pcB p=0) (hN:p.length<=20) (h0:0<n) (h1:n<=10000) (ls:s.length=p.length) (os:okS s):CP Y F.eO [lst di p,I n,szV s] (I 0):=by
 refine oI ?_;have dc:=oP (p:=p) (n:=(n:Int)) (by omega);rw [GU hp h0 h1] at dc;have ck:=Bi hp (by omega) ls os;simp (disch:=first|omega|simp<;>omega|fail)[eO];refine cd dc ?_;simp (disch:=first|omega|simp<;>omega|fail)[];refine cd ck ?_ (by simp [ae,aA,szV,dI]);simp (disch:=first|omega|simp<;>omega|fail)[]
theorem Nj {p:List Int} {n:Nat} (hp:pcB p=0) (hN:p.length<=20) (hl:0<p.length) (h0:0<n) (h1:n<=10000):CP Y F.eO [lst di p,I n,szV []] (I 5):=by
 refine oI ?_;have dc:=oP (p:=p) (n:=(n:Int)) (by omega);rw [GU hp h0 h1] at dc;have ck:=DO (p:=p) (s:=[]) (by omega) (by simp) (by simp)
 have e:siB p []=5:=by
  unfold siB scB;rw [if_pos hp,if_neg (by simp;omega)]
 rw [e] at ck;have ck:CP Y F.iD [lst di p,szV []] (I 5):=ck;simp (disch:=first|omega|simp<;>omega|fail)[eO];refine cd dc ?_;simp (disch:=first|omega|simp<;>omega|fail)[];refine cd ck ?_ (by simp [ae,aA,szV,dI]);simp (disch:=first|omega|simp<;>omega|fail)[]
theorem wj {p:List Int} {n:Nat} {s:List Q} {q:Int} (hp:pcB p=0) (hN:p.length<=20) (hl:0<p.length) (h0:0<n) (h1:n<=10000) (hr:okS (bT p n)) (ls:s.length=p.length) (os:okS s) (hne:tq p (bT p n)≠[]) (hq:ui p (tI p s (bT p n)) (qG p (bT p n)) q) :
  CP Y F.bY [lst di p,I n,szV s] (.tup [S (itoa q),I 0]):=by
 refine nj ?_;have bg:=Ni (n:=n) hp hN h0 h1 ls os;have ne:=qU hp hN hl h0 h1 hr ls os hne hq;simp (disch:=first|omega|simp<;>omega|fail)[bY];refine cd bg ?_ (by simp [ae,aA,szV,dI]);simp (disch:=first|omega|simp<;>omega|fail)[];refine cd ne ?_ (by simp [ae,aA,szV,dI]);simp (disch:=first|omega|simp<;>omega|fail)[];exact ai rfl rfl
theorem Ft {p:List Int} {n:Nat} (hp:pcB p=0) (hN:p.length<=20) (hl:0<p.length) (h0:0<n) (h1:n<=10000):CP Y F.bY [lst di p,I n,szV []] (.tup [S [],I 5]):=by
 refine nj ?_;have bg:=Nj (n:=n) hp hN hl h0 h1;simp (disch:=first|omega|simp<;>omega|fail)[bY];refine cd bg ?_ (by simp [ae,aA,szV,dI]);simp (disch:=first|omega|simp<;>omega|fail)[];exact ai rfl rfl
theorem J7 {p:List Int} {n:Nat} {s:List Q} {q:Int} (hp:pcB p=0) (hN:p.length<=20) (hl:0<p.length) (h0:0<n) (h1:n<=10000) (hr:okS (bT p n)) (ls:s.length=p.length) (os:okS s) (hne:tq p (bT p n)≠[]) (hq:ui p (tI p s (bT p n)) (qG p (bT p n)) q)
  (q1 : -1000000000000000000<q) (q2:q<1000000000000000000) (hr2:okS (jf p n q)):CP Y F.iq [lst di p,I n,szV s] (.tup [szV (jf p n q),I 0]):=by
 refine vC ?_;have ne:=wj hp hN hl h0 h1 hr ls os hne hq;have ti:=A7 hp hN hl h0 h1 hr q1 q2 hr2;simp (disch:=first|omega|simp<;>omega|fail)[iq];refine cd ne ?_ (by simp [ae,aA,szV,dI]);simp (disch:=first|omega|simp<;>omega|fail)[];refine cd ti ?_;simp (disch:=first|omega|simp<;>omega|fail)[];exact ai (nE _ _) rfl
theorem Qi (a:Int) (b:Nat):∃ z:Int,rp 12 (frq a b) z∧z.natAbs<=480:=by
 have r1 : -41<a.tmod 41:=Int.lt_tmod_of_pos a (by decide);have r2:=Int.tmod_lt_of_pos a (b:=41) (by decide);unfold frq;generalize a.tmod 41=z at *
 have key:∀ d:Nat,0<d->d ∣ 12->rp 12 (nD z (d:Int)) (z*(12 / d:Nat))∧(z*(12 / d:Nat)).natAbs<=480:=by
  intro d hd hdv;rw [yw hd];obtain ⟨c,hc⟩:=hdv;have e:12 / d=c:=by rw [hc];exact Yb _ hd
  rw [e];have hc12:c<=12:=by rw [hc];exact Nat.le_mul_of_pos_left _ hd
  refine ⟨Gc hd ?_,?_⟩
  ·have:((12:Nat):Int)=(c:Int)*(d:Int):=by rw [<- Int.natCast_mul,Zy,<- hc]
   rw [this,Int.mul_assoc]
  ·rw [Zi,Int.natAbs_natCast];exact Zs (by omega:z.natAbs<=40) hc12
 rcases Fs b with h | h | h | h | h | h <;> rw [h]
 ·exact ⟨_,key 1 (by decide) (by decide)⟩
 ·exact ⟨_,key 2 (by decide) (by decide)⟩
 ·exact ⟨_,key 3 (by decide) (by decide)⟩
 ·exact ⟨_,key 4 (by decide) (by decide)⟩
 ·exact ⟨_,key 6 (by decide) (by decide)⟩
 ·exact ⟨_,key 12 (by decide) (by decide)⟩
theorem Tt (k:Nat) (e:List (Int × Nat)):bdL 12 480 (uW k e):=by
 intro x hx;obtain ⟨y,_,rfl⟩:=Zd.1 hx;exact Qi y.1 y.2
theorem ER {k m:Nat} {e:List (Int × Nat)} (hk:k<256) (hm:m<65536) (he:e.length=4) (hb:∀ x∈e,(-128<=x.1∧x.1<=127)∧x.2<256) :
  CP Y F.bv [.d (.int .u8 k),.agg (yk e),.d (.int .u16 m)] (B true):=by
 refine lz ?_
 have hm:∃ a b c d:Int × Nat,e=[a,b,c,d]:=by
  match e,he with
  | [a,b,c,d],_=>exact ⟨a,b,c,d,rfl⟩
 obtain ⟨a,b,c,d,rfl⟩:=hm;obtain ⟨p1,p2,p3,p4,p5⟩:=Qr _ (N4 k);obtain ⟨p,hp⟩:∃ p,p=p13 k:=⟨_,rfl⟩;rw [<- hp] at p1 p2 p3 p4 p5;have hi:in6 p:=⟨p2,by omega,p5⟩;have pk:=Ek hk;rw [<- hp] at pk;have mo:=JG (p:=p) he hb p4 p3;have bs:=Tt p.length [a,b,c,d];obtain ⟨s,hs⟩:∃ s,s=uW p.length [a,b,c,d]:=⟨_,rfl⟩;have ls:s.length=p.length:=by rw [hs];simp [uW];omega
 rw [<- hs] at mo bs;obtain ⟨n,hn⟩:∃ n,n=m % 10000+1:=⟨_,rfl⟩;have n0:0<n:=by omega
 have n1:n<=10000:=by omega
 have os:okS s:=rb (by decide) bs (by omega) (by omega);have st:okS (bT p n):=rb n0 (uJ p3 n0) (by omega) (by omega);have ne:tq p (bT p n)≠[]:=by rw [tB p3 n0];exact Ku p3 (by simp)
 obtain ⟨q,hq,hqa⟩:=nr6 hi p3 n0 n1 (b:=12) (A:=480) (by decide) (by decide) (by decide) ls bs;have c1:(2*480*n+12)*n<=9600012*10000:=Zs (by omega) n1;have hq1:q.natAbs<=4608005760000:=by omega
 have ti:okS (jf p n q):=by
  have h2:bdL n (q.natAbs*1) (jf p n q):=uI (uJ p3 n0);exact rb n0 h2 (by omega) (by omega)
 have lSt:(bT p n).length=p.length:=uY p3;have c1:=MN p1 (by omega) p3 n0 n1 st;have c2:=wj p1 (by omega) p3 n0 n1 st ls os ne hq;have c3:=J7 p1 (by omega) p3 n0 n1 st ls os ne hq (by omega) (by omega) ti;have c4:=Ft (n:=n) p1 (by omega) p3 n0 n1;have c5:=LK p1 (by omega) p3 n0 n1 st;have c6:=D5 p1 (by omega) ls lSt os st ne hq
 have c7:CP Y F.fe [lst di p,szV (bT p n),.agg [S (itoa q),S [49]]] (.tup [szV (jf p n q),I 0]):=by
  have h7:=tG (k:=(q,1)) p1 (by omega) lSt st (vi q (by omega) (by omega)) ti;have e49:(aa 1:List UInt8)=[49]:=dy;unfold qT at h7;rw [e49] at h7;exact h7
 have c8:=vw (s:=bT p n) (t:=bT p n) (by omega);rw [decide_eq_true rfl] at c8;have lt:(jf p n q).length=p.length:=sG p3;have c9:=vw (s:=jf p n q) (t:=jf p n q) (by omega);rw [decide_eq_true rfl] at c9;have eqS:=ET q q;rw [decide_eq_true rfl] at eqS;have hu:IntKind.wrap .i64 (m:Int)=(m:Int):=wrap_i64 ⟨by omega,by omega⟩
 have en:1+(m:Int) % 10000=(n:Int):=by rw [hn];omega
 have m1:0<=(m:Int) % 10000∧(m:Int) % 10000<10000:=by omega
 have ld8:∀ x,ldA [x] 8 (.ptr 0 1 0 8)=ldA [x] 8 (.ptr 0 1 0 8):=fun x=>rfl
 have snS:∀ (h:Hp) (x:List Q),aA h (szV x)=some (szV x,h):=fun h x=>nE x h
 have qq:CP Y F.dN [lst di p,.agg [.d (.int .i8 a.1),.d (.int .u8 a.2),.d (.int .i8 b.1),.d (.int .u8 b.2),.d (.int .i8 c.1),.d (.int .u8 c.2),.d (.int .i8 d.1),.d (.int .u8 d.2)]] (szV s):=mo;simp (disch:=first|omega|simp<;>omega|fail)[bv,yk];refine cd GH ?_;simp (disch:=first|omega|simp<;>omega|fail)[];refine cd pk ?_
 simp (disch:=first|omega|simp<;>omega|fail)[];refine cd qq ?_ (by simp [ae,aA]);simp (disch:=first|omega|simp<;>omega|fail)[Zx,m1,en,hu];refine cd c1 ?_;simp (disch:=first|omega|simp<;>omega|fail)[];refine cd c2 ?_ (by simp [ae,snS]);simp (disch:=first|omega|simp<;>omega|fail)[];refine cd c3 ?_ (by simp [ae,snS]);simp (disch:=first|omega|simp<;>omega|fail)[]
 refine cdx (ds:=[lst di p,I n,szV []]) (by simp [ae,aA,szV,dI]) c4 ?_;simp (disch:=first|omega|simp<;>omega|fail)[];refine cd c5 ?_;simp (disch:=first|omega|simp<;>omega|fail)[];refine cd c6 ?_ (by simp [ae,snS]);simp (disch:=first|omega|simp<;>omega|fail)[];refine cd c5 ?_;simp (disch:=first|omega|simp<;>omega|fail)[Rm];refine cd c7 ?_ (by simp [ae,snS,aA])
 simp (disch:=first|omega|simp<;>omega|fail)[];refine cd c5 ?_;simp (disch:=first|omega|simp<;>omega|fail)[];refine cd c8 ?_ (by simp [ae,snS]);simp (disch:=first|omega|simp<;>omega|fail)[eqS];refine cd c9 ?_ (by simp [ae,snS]);simp (disch:=first|omega|simp<;>omega|fail)[]
end Go.Vm
