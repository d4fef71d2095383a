/- Law of divisions: Records, but for what known says. -/
import Derived.Test.YtaiahkcmdnaooaaGreatDoorQCeY
import Derived.Test.YtaiahkcmdnaooaaGreatDoorQRefRow
import Derived.Test.YtaiahkcmdnaooaaGreatDoorQT
set_option linter.unusedVariables false
set_option linter.unusedSimpArgs false
namespace Go.Vm
open Go Go.Am Go.Big
def wR (p:List Int):List (List Int)->Int
 | []=>0
 | r::m=>if mzB p [r]≠0 then mzB p [r] else wR p m
def clB (p:List Int) (m:List (List Int)):Int:=if 60<m.length then 4 else wR p m
theorem Ki {p:List Int} (hp:p.length<1000000) (k:KL):∀ (q a:List (List Int)),(a++q).length<1000000000 ->
  (wR p q=0->k (.exit 0) [] [])->(wR p q≠0->k .ret [I (wR p q)] []) ->
  lp (gK (CX Y) (lst di p) (mat (a++q)) (I (a++q).length)) [] [] [I a.length] [] k
 | [],a,hN,h0,h1=>by
  refine ax ?_;simp (disch:=try exact ac)[gK];exact h0 rfl
 | r::q,a,hN,h0,h1=>by
  simp at hN;have mo:=uQ (p:=p) (r:=r) aa;simp only [wR] at h0 h1;refine ax ?_;simp (disch:=try exact ac)[gK];refine cd mo ?_;by_cases h:mzB p [r]=0
  ·rw [if_neg (by simpa using h)] at h0 h1;have ih:=Ki hp k q (a++[r]) aR h0 h1;simp (disch:=try exact ac)[h];simp at ih ⊢;exact ih
  ·rw [if_pos h] at h1;simp (disch:=try exact ac)[h];exact h1 h
theorem ie {p:List Int} {m:List (List Int)} (hp:p.length<1000000) (hm:m.length<1000000000):CP Y F.bE [lst di p,mat m] (I (clB p m)):=by
 refine rX ?_;have l1:bq (mat m)=some (I m.length):=rfl;unfold clB;by_cases h:60<m.length
 ·have g:(60:Int)<(m.length:Int):=aa;rw [if_pos h];simp (disch:=try exact ac)[bE,l1,g] <;> exact ci rfl
 ·have g:¬ (60:Int)<(m.length:Int):=aa;rw [if_neg h];simp (disch:=try exact ac)[bE,l1,g];refine lo (Ki hp _ m [] (by simpa using hm) (fun g=>?_) (fun g=>?_))
  ·rw [g];simp (disch:=try exact ac)[]
  ·simp (disch:=try exact ac)[]
theorem AL {p:List Int} {m:List (List Int)} (hm:m.length<=60) (h:∀ r∈m,mzB p [r]=0):clB p m=0:=by
 unfold clB;rw [if_neg aa];clear hm
 induction m with
 | nil=>rfl
 | cons r m ih=>
  rw [wR,if_neg (by simpa using h r af)];exact ih fun x hx=>h x (by simp [hx])
def vX:List Int->List Int->List Int->Bool
 | x::a,y::b,z::c=>decide (x+y=z) && vX a b c
 | _,_,_=>true
theorem CN {s t u:List Int} (hN:s.length<1000000) (hs:smR s=true) (ht:smR t=true) (k:KL):∀ (q r v a b c:List Int),a++q=s->b++r=t->c++v=u->a.length=b.length->a.length=c.length->q.length=r.length->q.length=v.length->(vX q r v=true->k (.exit 0) [] [])->(vX q r v=false->k .ret [B false] []) ->
  lp (jj (CX Y) (lst di s) (lst di t) (lst di u) (I s.length)) [] [] [I a.length] [] k
 | [],r,v,a,b,c,ha,hb,hc,hab,hac,hqr,hqv,h0,h1=>by
  simp at ha;subst ha;refine ax ?_;simp (disch:=try exact ac)[jj];exact h0 (by simp [vX])
 | x::q,[],v,a,b,c,ha,hb,hc,hab,hac,hqr,hqv,h0,h1=>by simp at hqr
 | x::q,y::r,[],a,b,c,ha,hb,hc,hab,hac,hqr,hqv,h0,h1=>by simp at hqv
 | x::q,y::r,z::v,a,b,c,ha,hb,hc,hab,hac,hqr,hqv,h0,h1=>by
  have hal:a.length<s.length:=by subst ha;simp
  have hbl:a.length<t.length:=by subst hb;simp;omega
  have hcl:a.length<u.length:=by subst hc;simp;omega
  have hx:nth 0 s a.length=x:=by subst ha;simp
  have hy:nth 0 t a.length=y:=by subst hb;rw [hab];simp
  have hz:nth 0 u a.length=z:=by subst hc;rw [hac];simp
  have bx:=uv hs (x:=x) (by rw [<- ha];simp);have by_:=uv ht (x:=y) (by rw [<- hb];simp);have i1:=dP di s [] (k:=.i64) (i:=(a.length:Int)) aa aa;have i2:=eZ di 0 s [] (j:=a.length) hal;have j1:=dP di t [] (k:=.i64) (i:=(a.length:Int)) aa aa;have j2:=eZ di 0 t [] (j:=a.length) hbl
  have k1:=dP di u [] (k:=.i64) (i:=(a.length:Int)) aa aa;have k2:=eZ di 0 u [] (j:=a.length) hcl;rw [hx] at i2;rw [hy] at j2;rw [hz] at k2;simp only [Int.toNat_natCast] at i1 j1 k1;have g1:(a.length:Int)<(s.length:Int):=aa;refine ax ?_;by_cases hxy:x+y=z
  ·have ih:=CN hN hs ht k q r v (a++[x]) (b++[y]) (c++[z]) (by simpa using ha) (by simpa using hb) (by simpa using hc) (by simp [hab]) (by simp [hac]) (by simpa using hqr) (by simpa using hqv) (fun e=>h0 (by simp [vX,hxy,e])) (fun e=>h1 (by simp [vX,e]));simp (disch:=try exact ac)[jj,i1,i2,j1,j2,k1,k2,g1,hx,hy,hz,hxy];simpa using ih
  ·simp (disch:=try exact ac)[jj,i1,i2,j1,j2,k1,k2,g1,hx,hy,hz,hxy];exact h1 (by simp [vX,hxy])
theorem QU {s t u:List Int} (hN:s.length<1000000) (hs:smR s=true) (ht:smR t=true) (l1:t.length=s.length) (l2:u.length=s.length):CP Y F.j6 [lst di s,lst di t,lst di u] (B (vX s t u)):=by
 refine Av ?_;have hl:bq (lst di s)=some (I s.length):=rfl;simp (disch:=try exact ac)[j6,hl]
 have:=CN (u:=u) hN hs ht (exK [(Exit.exit 0,fun l5 h=>out (B (vX s t u)) (V.d (D.bool true)) h),(Exit.ret,fun l5 h=>out (B (vX s t u)) (ge l5 0) h)]) s t u [] [] [] rfl rfl rfl rfl rfl l1.symm l2.symm (fun g=>by
   simp (disch:=try exact ac)[];exact jg (by simp [g])) (fun g=>by
   simp (disch:=try exact ac)[];exact jg (by simp [g]))
 refine lo ?_;exact this
def ztD (z:Int):D:=.str (itoa z)
theorem xt {p:List Int} {n:Nat} {l:List (List Int)} {qf:List Int->Int} (hN:l.length<1000000) (hE:∀ r∈l,uh p n r (qf r)) (k:KL) (h0:Hp) (hh:h0.length=1):∀ (q a:List (List Int)),a++q=l ->
  k (.exit 0) [acR.v l.length (l.map fun r=>ztD (qf r))] [acR.b l.length (l.map fun r=>ztD (qf r))] ->
  lp (iX (CX Y) (lst di p) (I n) (mat l) (I l.length)) [] h0 [acR.v a.length (a.map fun r=>ztD (qf r)),I a.length] [acR.b a.length (a.map fun r=>ztD (qf r))] k
 | [],a,ha,hk=>by
  simp at ha;subst ha;refine ax ?_;simp (disch:=try exact ac)[iX];exact hk
 | r::q,a,ha,hk=>by
  have hal:a.length<l.length:=by subst ha;simp
  have hr:nth [] l a.length=r:=by subst ha;simp
  have hm:r∈l:=by rw [<- ha];simp
  have E:=hE r hm;have so:=MI (p:=p) (r:=r) E.hp (by have:=E.hN;omega) E.lr E.sr;have ls:(ofQ r).length=p.length:=by simp [ofQ,E.lr]
  have ne:=xp E.hp E.hN E.hl E.h0 E.h1 E.st ls E.of E.ne E.fl;have i1:=fun h=>dP row l h (k:=.i64) (i:=(a.length:Int)) aa aa
  have i2:=fun h=>eZ row [] l h (j:=a.length) hal
  rw [hr] at i2;simp only [Int.toNat_natCast] at i1;have g1:(a.length:Int)<(l.length:Int):=aa;have li1:∀ (z:Int) (H:Hp),eY 1 [D.str []] [(0,S (itoa z))] H=some ([ztD z],H):=fun z H=>by simp [eY,iS,kI,toD,ztD]
  have cR:(a.map fun r=>ztD (qf r)).length=a.length*acR.n:=by simp [acR]
  have du:∀ x y:Nat × Bk,([x]:Hp).set acR.s y=[y]:=fun x y=>rfl
  have hre:∀ x:Hp,x.length=1->aK [] 0 h0 x=x:=fun x hx=>eE 0 h0 x aa
  have ev:∀ c,acR.v (a.length+1) c=.ref acR.s (acR.e+1) 0 (a.length+1) (a.length+1) c.length:=fun c=>rfl
  have eb:∀ c,acR.b (a.length+1) c=(acR.e+1,.data acR.n c false false):=fun c=>rfl
  have ih:=xt hN hE k h0 hh q (a++[r]) (by simpa using ha) hk;refine ax ?_;simp (disch:=try exact ac)[iX,i1,i2,g1];refine cd so ?_;simp (disch:=try exact ac)[];refine cd ne ?_ (by simp [aH,bY,szV,iU]);simp (disch:=try exact ac)[li1]
  refine qz acR (k:=1) aa rfl cR (by rfl) rfl (fun t e=>by cases e) aa ae ?_;simp (disch:=try exact ac)[du,hre,clean,fY,pE,pD,ek,lm];refine ⟨rfl,?_⟩;simpa [ev,eb] using ih
theorem CU {p:List Int} {n:Nat} {l:List (List Int)} {qf:List Int->Int} (hN:l.length<1000000) (hE:∀ r∈l,uh p n r (qf r)):CP Y F.fC [lst di p,I n,mat l] (.tup [lst ztD (l.map qf),I 0]):=by
 refine vv ?_;have l1:bq (mat l)=some (I l.length):=rfl
 have hl:=xt hN hE (exK [((.exit 0),fun l2 h=>out (.tup [lst ztD (l.map qf),I 0]) (.tup [(ge l2 0),(.d (.int .i64 0))]) h),(.ret,fun l2 h=>out (.tup [lst ztD (l.map qf),I 0]) (.tup [(ge l2 0),(ge l2 1)]) h)]) [(0,.none)] rfl l [] rfl (by
  obtain ⟨h',q1,_⟩:=pS acR (L:=l.length) (cells:=l.map fun r=>ztD (qf r)) (h:=[acR.b l.length (l.map fun r=>ztD (qf r))]) rfl (by simp [acR]);simp only [exK];have e:lst ztD (l.map qf)=.d (.sl l.length (l.map fun r=>ztD (qf r))):=by simp [lst]
  rw [e];exact av q1 rfl)
 simp (disch:=try exact ac)[fC,l1];exact hl
def erD (p:List Int) (n:Nat) (qf:List Int->Int) (r:List Int):List Q:=mU p n (qf r) (ofQ r)
theorem xn {p:List Int} {n:Nat} {l:List (List Int)} {qf:List Int->Int} (hN:l.length<1000000) (hE:∀ r∈l,uh p n r (qf r)) (k:KL) (h0:Hp) (hh:h0.length=1):∀ (q a:List (List Int)),a++q=l ->
  k (.exit 0) [acR.v l.length (l.map fun r=>szD (erD p n qf r))] [acR.b l.length (l.map fun r=>szD (erD p n qf r))] ->
  lp (iY (CX Y) (lst di p) (I n) (mat l) (I l.length)) [] h0 [acR.v a.length (a.map fun r=>szD (erD p n qf r)),I a.length] [acR.b a.length (a.map fun r=>szD (erD p n qf r))] k
 | [],a,ha,hk=>by
  simp at ha;subst ha;refine ax ?_;simp (disch:=try exact ac)[iY];exact hk
 | r::q,a,ha,hk=>by
  have hal:a.length<l.length:=by subst ha;simp
  have hr:nth [] l a.length=r:=by subst ha;simp
  have hm:r∈l:=by rw [<- ha];simp
  have E:=hE r hm;have de:=CQ E;have i1:=fun h=>dP row l h (k:=.i64) (i:=(a.length:Int)) aa aa
  have i2:=fun h=>eZ row [] l h (j:=a.length) hal
  rw [hr] at i2;simp only [Int.toNat_natCast] at i1;have g1:(a.length:Int)<(l.length:Int):=aa;have li1:∀ (s:List Q) (H:Hp),eY 1 [D.pl (Value.slice none 0 0)] [(0,szV s)] H=some ([szD s],H):=fun s H=>Lp ..
  have cR:(a.map fun r=>szD (erD p n qf r)).length=a.length*acR.n:=by simp [acR]
  have du:∀ x y:Nat × Bk,([x]:Hp).set acR.s y=[y]:=fun x y=>rfl
  have hre:∀ x:Hp,x.length=1->aK [] 0 h0 x=x:=fun x hx=>eE 0 h0 x aa
  have ev:∀ c,acR.v (a.length+1) c=.ref acR.s (acR.e+1) 0 (a.length+1) (a.length+1) c.length:=fun c=>rfl
  have eb:∀ c,acR.b (a.length+1) c=(acR.e+1,.data acR.n c false false):=fun c=>rfl
  have ih:=xn hN hE k h0 hh q (a++[r]) (by simpa using ha) hk;refine ax ?_;simp (disch:=try exact ac)[iY,i1,i2,g1];refine cd de ?_;simp (disch:=try exact ac)[li1];refine qz acR (k:=1) aa rfl cR (by rfl) rfl (fun t e=>by cases e) aa ae ?_
  simp (disch:=try exact ac)[du,hre,clean,fY,pE,pD,ek,lm];refine ⟨rfl,?_⟩;simpa [ev,eb,erD] using ih
theorem CL {p:List Int} {n:Nat} {l:List (List Int)} {qf:List Int->Int} (hp:p.length<1000000) (hN:l.length<=60) (hc:dvC p n=0) (hm:∀ r∈l,mzB p [r]=0) (hE:∀ r∈l,uh p n r (qf r)):CP Y F.cu [lst di p,I n,mat l] (.tup [lst szD (l.map (erD p n qf)),I 0]):=by
 refine oQ ?_;have l1:bq (mat l)=some (I l.length):=rfl;have dc:=lh (p:=p) (n:=(n:Int)) hp;rw [hc] at dc;have ck:=ie (p:=p) (m:=l) hp aa;rw [AL hN hm] at ck
 have hl:=xn aa hE (exK [((.exit 0),fun l2 h=>out (.tup [lst szD (l.map (erD p n qf)),I 0]) (.tup [(ge l2 0),(.d (.int .i64 0))]) h),(.ret,fun l2 h=>out (.tup [lst szD (l.map (erD p n qf)),I 0]) (.tup [(ge l2 0),(ge l2 1)]) h)]) [(0,.none)] rfl l [] rfl (by
  obtain ⟨h',q1,_⟩:=pS acR (L:=l.length) (cells:=l.map fun r=>szD (erD p n qf r)) (h:=[acR.b l.length (l.map fun r=>szD (erD p n qf r))]) rfl (by simp [acR]);simp only [exK];have e:lst szD (l.map (erD p n qf))=.d (.sl l.length (l.map fun r=>szD (erD p n qf r))):=by simp [lst]
  rw [e];exact av q1 rfl)
 simp (disch:=try exact ac)[cu];refine cd dc ?_;simp (disch:=try exact ac)[];refine cd ck ?_;simp (disch:=try exact ac)[l1];exact hl
theorem Gx (a b:Int):biS .neq (S (itoa a)) (S (itoa b))=some (B (decide (a≠b))):=by
 have:(itoa a == itoa b)=decide (a=b):=by
  rw [Yr];simp only [beq_iff_eq,decide_eq_true_eq];exact ⟨fun h=>u7 h,fun h=>by rw [h]⟩
 simp only [biS,Dm,bne,this];simp
theorem D8 {z:Int} (h1 : -1000000000000000000<z) (h2:z<1000000000000000000):ndg z.natAbs<999999:=by
 have:=bi (n:=z.natAbs) (d:=18) (by show _<10 ^ 18;omega) ae;omega
abbrev Rw:=List Int
def O9 (qf:Rw->Int) (i j:Nat) (a b:Rw):Nat->List Rw->Option (Nat × Nat × Nat)
 | _,[]=>none
 | m,c::q=>if vX a b c=true∧qf a+qf b≠qf c then some (i,j,m) else O9 qf i j a b (m+1) q
def Pb (qf:Rw->Int) (l:List Rw) (i:Nat) (a:Rw):Nat->List Rw->Option (Nat × Nat × Nat)
 | _,[]=>none
 | j,b::q=>match O9 qf i j a b 0 l with
  | some t=>some t
  | none=>Pb qf l i a (j+1) q
def BU (qf:Rw->Int) (l:List Rw):Nat->List Rw->Option (Nat × Nat × Nat)
 | _,[]=>none
 | i,a::q=>match Pb qf l i a 0 l with
  | some t=>some t
  | none=>BU qf l (i+1) q
def cnH (t:Nat × Nat × Nat):Hp:=[(1,.vars [I t.1,I t.2.1,I t.2.2])]
def cnV:Option (Nat × Nat × Nat)->V
 | some t=>.tup [B false,.agg [I t.1,I t.2.1,I t.2.2],I 0]
 | none=>.tup [B true,.agg [I 0,I 0,I 0],I 0]
structure IX (p:List Int) (n:Nat) (l:List Rw) (qf:Rw->Int):Prop where
 hN:l.length<=60
 hE:∀ r∈l,uh p n r (qf r)
theorem O6 {p:List Int} {n:Nat} {l:List Rw} {qf:Rw->Int} (H:IX p n l qf) {i j:Nat} {a b:Rw} (hi:i<l.length) (hj:j<l.length) (ha:nth [] l i=a) (hb:nth [] l j=b) (k:KL) (h0:Hp) (hh:h0.length=1):∀ (q c:List Rw),c++q=l ->
  (O9 qf i j a b c.length q=none->k (.exit 4) [] (cnH (0,0,0)))->(∀ t,O9 qf i j a b c.length q=some t->k .ret [B false,I 0] (cnH t)) ->
  lp (fK (CX Y) (.ptr 0 1 0 3) (lst ztD (l.map qf)) (I i) (lst di a) (I j) (lst di b) (mat l) (I l.length)) [] h0 [I c.length] (cnH (0,0,0)) k
 | [],c,hc,h1,h2=>by
  simp at hc;subst hc;refine ax ?_;simp (disch:=try exact ac)[fK];exact h1 rfl
 | r::q,c,hc,h1,h2=>by
  have hcl:c.length<l.length:=by subst hc;simp
  have hr:nth [] l c.length=r:=by subst hc;simp
  have mem:∀ x,x<l.length->nth [] l x∈l:=fun x hx=>by rw [gD [] l x hx];exact W6 hx
  have Ea:=H.hE a (ha ▸ mem i hi);have Eb:=H.hE b (hb ▸ mem j hj);have Er:=H.hE r (by rw [<- hc];simp);have ds:=QU (s:=a) (t:=b) (u:=r) (by have:=Ea.hN;have:=Ea.lr;omega) Ea.sr Eb.sr (by rw [Ea.lr,Eb.lr]) (by rw [Ea.lr,Er.lr]);have i1:=fun h=>dP row l h (k:=.i64) (i:=(c.length:Int)) aa aa
  have i2:=fun h=>eZ row [] l h (j:=c.length) hcl
  rw [hr] at i2;simp only [Int.toNat_natCast] at i1;have hlen:=H.hN
  have x1:∀ (h:Hp) (x:Nat),x<l.length->ixV h 1 (lst ztD (l.map qf)) (I (x:Int))=some (.dptr ((l.map qf).map ztD) x):=fun h x hx=>by
   have:=dP ztD (l.map qf) h (k:=.i64) (i:=(x:Int)) aa aR;simpa only [Int.toNat_natCast] using this
  have x2:∀ (h:Hp) (x:Nat),x<l.length->ld1 h (.dptr ((l.map qf).map ztD) x)=some (S (itoa (qf (nth [] l x)))):=fun h x hx=>by
   have:=eZ ztD 0 (l.map qf) h (j:=x) (by simpa using hx);rw [gD 0 (l.map qf) x (by simpa using hx),List.getElem_map,<- gD [] l x hx] at this;exact this
  have xi1:=fun h=>x1 h i hi
  have xi2:=fun h=>x2 h i hi
  have xj1:=fun h=>x1 h j hj
  have xj2:=fun h=>x2 h j hj
  have xc1:=fun h=>x1 h c.length hcl
  have xc2:=fun h=>x2 h c.length hcl
  rw [ha] at xi2;rw [hb] at xj2;rw [hr] at xc2;obtain ⟨ks,hks⟩:∃ ks,ks=l.map qf:=⟨_,rfl⟩;rw [<- hks] at xi1 xi2 xj1 xj2 xc1 xc2 ⊢;have wa:=pq (z:=qf a) (w:=qf b) (D8 Ea.q1 Ea.q2) (D8 Eb.q1 Eb.q2);have g1:(c.length:Int)<(l.length:Int):=aa;simp only [O9] at h1 h2;have ih:=O6 H hi hj ha hb k h0 hh q (c++[r]) (by simpa using hc);rw [<- hks] at ih;refine ax ?_
  simp (disch:=try exact ac)[fK,i1,i2,g1];refine cd ds ?_;have ne:=Gx (qf a+qf b) (qf r);have hre:aK [] 0 h0 (cnH (0,0,0))=cnH (0,0,0):=eE 0 h0 _ (by simp [cnH];omega)
  have hst:stX (iq (cnH (0,0,0)) 0 1) (cnH (0,0,0)) 0 1 0 3 [V.d (D.int IntKind.i64 ↑i),V.d (D.int IntKind.i64 ↑j),V.d (D.int IntKind.i64 ↑c.length)]=some (cnH (i,j,c.length)):=rfl;by_cases hs:vX a b r=true
  ·rw [hs] at ds h1 h2 ⊢;simp (disch:=try exact ac)[xi1,xi2,xj1,xj2,xc1,xc2];refine cd wa ?_;by_cases he:qf a+qf b=qf r
   ·rw [if_neg (by simp [he])] at h1 h2;have ih':=ih (by simpa using h1) (by simpa using h2);simp (disch:=try exact ac)[xi1,xi2,xj1,xj2,xc1,xc2,ne,he,hre];simpa using ih'
   ·rw [if_pos ⟨rfl,he⟩] at h2;simp (disch:=try exact ac)[xi1,xi2,xj1,xj2,xc1,xc2,ne,he,hst];exact h2 _ rfl
  ·have hs':vX a b r=false:=by simpa using hs
   rw [if_neg (by simp [hs'])] at h1 h2;have ih':=ih (by simpa using h1) (by simpa using h2);rw [hs'] at ds ⊢;simp (disch:=try exact ac)[hre];simpa using ih'
theorem O7 {p:List Int} {n:Nat} {l:List Rw} {qf:Rw->Int} (H:IX p n l qf) {i:Nat} {a:Rw} (hi:i<l.length) (ha:nth [] l i=a) (k:KL) (h0:Hp) (hh:h0.length=1):∀ (q c:List Rw),c++q=l ->
  (Pb qf l i a c.length q=none->k (.exit 2) [] (cnH (0,0,0)))->(∀ t,Pb qf l i a c.length q=some t->k .ret [B false,I 0] (cnH t)) ->
  lp (fL (CX Y) (mat l) (.ptr 0 1 0 3) (lst ztD (l.map qf)) (I i) (lst di a) (mat l) (I l.length)) [] h0 [I c.length] (cnH (0,0,0)) k
 | [],c,hc,h1,h2=>by
  simp at hc;subst hc;refine ax ?_;simp (disch:=try exact ac)[fL];exact h1 rfl
 | r::q,c,hc,h1,h2=>by
  have hcl:c.length<l.length:=by subst hc;simp
  have hr:nth [] l c.length=r:=by subst hc;simp
  have i1:=fun h=>dP row l h (k:=.i64) (i:=(c.length:Int)) aa aa
  have i2:=fun h=>eZ row [] l h (j:=c.length) hcl
  rw [hr] at i2;simp only [Int.toNat_natCast] at i1;have hlen:=H.hN;have g1:(c.length:Int)<(l.length:Int):=aa;have l1:bq (mat l)=some (I l.length):=rfl;have hre:aK [] 0 h0 (cnH (0,0,0))=cnH (0,0,0):=eE 0 h0 _ (by simp [cnH];omega);have hre2:∀ t,aK [] 0 h0 (cnH t)=cnH t:=fun t=>eE 0 h0 _ (by simp [cnH];omega)
  simp only [Pb] at h1 h2;have ih:=O7 H hi ha k h0 hh q (c++[r]) (by simpa using hc);have lp2:=fun k h1 h2=>O6 H hi hcl ha hr k (cnH (0,0,0)) rfl l [] rfl h1 h2
  obtain ⟨ks,hks⟩:∃ ks,ks=l.map qf:=⟨_,rfl⟩;rw [<- hks] at ih lp2 ⊢;refine ax ?_;simp (disch:=try exact ac)[fL,i1,i2,g1,l1];refine lo (lp2 _ (fun g=>?_) (fun t g=>?_))
  ·simp only [List.length_nil] at g;rw [g] at h1 h2;have ih':=ih (by simpa using h1) (by simpa using h2);simp (disch:=try exact ac)[hre];simpa using ih'
  ·simp only [List.length_nil] at g;rw [g] at h2;have:=h2 t rfl;simp (disch:=try exact ac)[hre2];exact this
theorem O8 {p:List Int} {n:Nat} {l:List Rw} {qf:Rw->Int} (H:IX p n l qf) (k:KL) (h0:Hp) (hh:h0.length=1):∀ (q c:List Rw),c++q=l ->
  (BU qf l c.length q=none->k (.exit 0) [] (cnH (0,0,0)))->(∀ t,BU qf l c.length q=some t->k .ret [B false,I 0] (cnH t)) ->
  lp (fM (CX Y) (mat l) (.ptr 0 1 0 3) (lst ztD (l.map qf)) (mat l) (I l.length)) [] h0 [I c.length] (cnH (0,0,0)) k
 | [],c,hc,h1,h2=>by
  simp at hc;subst hc;refine ax ?_;simp (disch:=try exact ac)[fM];exact h1 rfl
 | r::q,c,hc,h1,h2=>by
  have hcl:c.length<l.length:=by subst hc;simp
  have hr:nth [] l c.length=r:=by subst hc;simp
  have i1:=fun h=>dP row l h (k:=.i64) (i:=(c.length:Int)) aa aa
  have i2:=fun h=>eZ row [] l h (j:=c.length) hcl
  rw [hr] at i2;simp only [Int.toNat_natCast] at i1;have hlen:=H.hN;have g1:(c.length:Int)<(l.length:Int):=aa;have l1:bq (mat l)=some (I l.length):=rfl;have hre:∀ t,aK [] 0 h0 (cnH t)=cnH t:=fun t=>eE 0 h0 _ (by simp [cnH];omega)
  simp only [BU] at h1 h2;have ih:=O8 H k h0 hh q (c++[r]) (by simpa using hc);have lp2:=fun k h1 h2=>O7 H hcl hr k (cnH (0,0,0)) rfl l [] rfl h1 h2
  obtain ⟨ks,hks⟩:∃ ks,ks=l.map qf:=⟨_,rfl⟩;rw [<- hks] at ih lp2 ⊢;refine ax ?_;simp (disch:=try exact ac)[fM,i1,i2,g1,l1];refine lo (lp2 _ (fun g=>?_) (fun t g=>?_))
  ·simp only [List.length_nil] at g;rw [g] at h1 h2;have ih':=ih (by simpa using h1) (by simpa using h2);simp (disch:=try exact ac)[hre];simpa using ih'
  ·simp only [List.length_nil] at g;rw [g] at h2;have:=h2 t rfl;simp (disch:=try exact ac)[hre];exact this
theorem pf {p:List Int} {n:Nat} {l:List Rw} {qf:Rw->Int} (hp:p.length<1000000) (hc:dvC p n=0) (hm:∀ r∈l,mzB p [r]=0) (H:IX p n l qf):CP Y F.aM [lst di p,I n,mat l] (cnV (BU qf l 0 l)):=by
 refine lZ ?_;have l1:bq (mat l)=some (I l.length):=rfl;have hN:=H.hN;have dc:=lh (p:=p) (n:=(n:Int)) hp;rw [hc] at dc;have ck:=ie (p:=p) (m:=l) hp aa;rw [AL hN hm] at ck;have co:=CU aa H.hE;simp (disch:=try exact ac)[aM];refine cd dc ?_;simp (disch:=try exact ac)[];refine cd ck ?_
 simp (disch:=try exact ac)[];refine cd co ?_;simp (disch:=try exact ac)[l1];refine lo (O8 H _ (cnH (0,0,0)) rfl l [] rfl (fun g=>?_) (fun t g=>?_))
 ·simp only [List.length_nil] at g;rw [g];simp (disch:=try exact ac)[cnH,cnV];exact ⟨[(1,.vars [I 0,I 0,I 0])],by simp [bY,aH]⟩
 ·simp only [List.length_nil] at g;rw [g];simp (disch:=try exact ac)[cnH,cnV];exact ⟨[(1,.vars [I t.1,I t.2.1,I t.2.2])],by simp [bY,aH]⟩
def QK (p:List Int) (a b:List Q):Int:=
 if ky (gX (0,1) a b) a b=true then (gX (0,1) a b).1 / ((gX (0,1) a b).2:Int)
 else match Bs (tq p a) (tq p b) (fi 1 a) (fi 1 b) with
  | some q=>q
  | none=>(GH (tq p a) (tq p b) (fi 1 a) (fi 1 b) 6 64).getD 0
theorem J1 {p:List Int} {a b:List Q} {q:Int} (h:rT p a b q):QK p a b=q:=by
 unfold QK;rcases h with ⟨h1,h2⟩ | ⟨h1,_,_,_,_,h2⟩
 ·rw [if_pos h1,h2]
 ·rw [if_neg (by simp [h1])];rcases h2 with ⟨h3,_⟩ | ⟨h3,_,_,_,h4⟩
  ·rw [h3]
  ·rw [h3,h4];rfl
def sgV (p:List Int) (s:List Q):Int:=(zp (tq p s)).getD 0
theorem ME {p:List Int} {s:List Q} {z:Int} (h:xG p s z):sgV p s=z:=by
 unfold sgV;rw [h.2.2];rfl
def oi (p:List Int) (n:Nat) (r:List Int):Int:=QK p (uD p (ofQ r) (dQ p n)) (rK p (dQ p n))
theorem Gg {p r:List Int} {n:Nat} {q:Int} (E:uh p n r q):oi p n r=q:=J1 E.fl
def Kq (p:List Int) (n:Nat) (r:List Int):List Q:=oF p n r (oi p n r) (sgV p (mU p n (oi p n r) (ofQ r)))
def JS (p r:List Int) (n m:Nat):Bool:=decide (sgV p (dfS p (Kq p n r) (Kq p m r))<0)
theorem zB {f g:Nat->Nat->Bool} {lim:Nat} (h:∀ n m,1<=m->m<n->n<=lim->f n m=g n m):∀ k n m,n+k<=lim+1->m<n->kw f k n m=kw g k n m
 | 0,_,_,_,_=>rfl
 | k+1,n,m,h1,h2=>by
  simp only [kw]
  have e:(m=0∨f n m=true)=(m=0∨g n m=true):=by
   by_cases hm:m=0
   ·simp [hm]
   ·rw [h n m aa h2 aa]
  simp only [e];split
  ·rw [zB h k (n+1) n aa aa]
  ·exact zB h k (n+1) m aa aa
theorem FQ {p r:List Int} {lim:Nat} {qf zf:Nat->Int} {ls:Nat->Nat->Bool} (R:RG p r lim qf zf ls):kw ls lim 1 0=kw (JS p r) lim 1 0:=by
 refine zB (lim:=lim) (fun n m h1 h2 h3=>?_) lim 1 0 aa aa
 have a1:∀ n,1<=n->n<=lim->Kq p n r=oF p n r (qf n) (zf n):=fun n h1 h2=>by
  unfold Kq;rw [Gg (R.er n h1 h2),ME (R.sg n h1 h2).1]
 obtain ⟨z,z1,z2⟩:=R.cm n m h1 h2 h3;unfold JS;rw [a1 n aa h3,a1 m h1 aa,ME z1,z2]
theorem Tp:kw (JS [2,3,5] [-1,1,0]) 60 1 0=[1,2,3,5,7,12,29,41,53]:=aG
theorem Tq:mU [2,3,5] 12 (oi [2,3,5] 12 [-1,1,0]) (ofQ [-1,1,0])=[(19,12),(-1,1),(0,1)]:=aG
theorem Tr:BU (oi [2,3,5] 4) [[-1,1,0],[-2,2,0]] 0 [[-1,1,0],[-2,2,0]]=some (0,0,1):=aG
theorem QQ:BU (oi [2,3,5] 12) [[-1,1,0],[-2,0,1],[-3,1,1]] 0 [[-1,1,0],[-2,0,1],[-3,1,1]]=none:=aG
def lgQ (n:Nat) (a:Int) (i:Nat) (b:Int) (k:Nat):List Q:=
 if i=k then (List.replicate n (0,1)).set i (a+b,1) else if b=0 then (List.replicate n (0,1)).set i (a,1) else ((List.replicate n (0,1)).set i (a,1)).set k (b,1)
theorem sO (n:Nat) (a:Int) (i:Nat) (b:Int) (k:Nat):(lgQ n a i b k).length=n:=by unfold lgQ;split <;> (try split) <;> simp
theorem Qy {n:Nat} {a:Int} {i:Nat} {b:Int} {k:Nat} {x:Q} (h:x∈lgQ n a i b k):x=(0,1)∨x=(a+b,1)∧i=k∨x=(a,1)∨x=(b,1):=by
 grind [lgQ]
theorem S9:itoa 0=[48]:=aG
def hq1 (l:List Tx):Hp:=[(1,.data 2 (l.flatMap aS) true false)]
theorem vd (l:List Tx):(hq1 l)[0]? = some (1,.data 2 (l.flatMap aS) true false):=rfl
theorem Cu {n:Nat} (hn:n<1000000) (k:KL) (h0:Hp) (hh:h0.length=1):∀ (r i:Nat),i+r=n->k (.exit 0) [] (hq1 (List.replicate n zT)) ->
  lp (oI (CX Y) (.ref 0 1 0 n n (n*2)) (I n)) [] h0 [I i] (hq1 (List.replicate i zT++List.replicate r jc)) k
 | 0,i,hi,hk=>by
  have h1:¬ (i:Int)<(n:Int):=aa;have h2:i=n:=aa;subst h2;refine ax ?_;simp (disch:=try exact ac)[oI,h1];exact hk
 | r+1,i,hi,hk=>by
  have h1:(i:Int)<(n:Int):=aa;have hl:(List.replicate i zT++List.replicate (r+1) jc).length=n:=by simp;omega
  have e1:=ixR (vd (List.replicate i zT++List.replicate (r+1) jc)) hl (c:=i) aa .i64;have e2:=stR (vd (List.replicate i zT++List.replicate (r+1) jc)) hl (c:=i) aa zT;have e4:∀ l l':List Tx,(hq1 l).set 0 (1,.data 2 (l'.flatMap aS) true false)=hq1 l':=fun _ _=>rfl
  rw [e4,DK] at e2;have b:=L3 [48] [49];have e5:zT=([48],[49]):=aG;rw [e5] at e2;have hlen:(hq1 (List.replicate (i+1) zT++List.replicate r jc)).length=h0.length:=by simp [hq1,hh]
  rw [e5] at hlen e1 ⊢;have:=Cu hn k h0 hh r (i+1) aa hk;rw [e5] at this;refine ax ?_;simp (disch:=try exact ac)[oI,h1,b,e1,e2,hlen];trivial
def hqQ (l:List Q):Hp:=[(1,.data 2 ((l.map tx).flatMap aS) true false)]
theorem JO {p:List Int} {a b:Int} {i k:Nat} (hn:p.length<1000000) (hi:i<p.length) (hk:k<p.length) (a1 : -1000000000000<a) (a2:a<1000000000000) (b1 : -1000000000000<b) (b2:b<1000000000000):CP Y F.nU [lst di p,I a,I i,I b,I k] (szV (lgQ p.length a i b k)):=by
 refine Hr ?_;obtain ⟨n,hnn⟩:∃ n,n=p.length:=⟨_,rfl⟩;rw [<- hnn] at hn hi hk ⊢;have ll:bq (lst di p)=some (I n):=by rw [hnn];rfl
 have lr:bq (.ref 0 1 0 n n (n*2))=some (I n):=rfl;have e0:([(0,Bk.none)]:Hp).set 0 (0+1,.data 2 ((List.replicate n jc).flatMap aS) true false)=hq1 (List.replicate 0 zT++List.replicate n jc):=rfl;have hz:hq1 (List.replicate n zT)=hqQ (List.replicate n (0,1)):=by simp [hq1,hqQ,zT]
 have st2:∀ (l:List Q),l.length=n->∀ (c:Nat),c<n->∀ z:Int,st (hqQ l) 2 (.ptr 0 1 (c*2) (n*2)) (.agg [S (itoa z),S [49]])=some (hqQ (l.set c (z,1))):=fun l hl c hc z=>by
  have:=stR (vd (l.map tx)) (by rw [List.length_map,hl]) hc (tx (z,1));have e4:∀ l l':List Tx,(hq1 l).set 0 (1,.data 2 (l'.flatMap aS) true false)=hq1 l':=fun _ _=>rfl
  rw [e4,<- List.map_set] at this;rw [<- dJ];exact this
 have ix:∀ (l:List Q),l.length=n->∀ (c:Nat),c<n->ixV (hqQ l) 2 (.ref 0 1 0 n n (n*2)) (I c)=some (.ptr 0 1 (c*2) (n*2)):=fun (l:List Q) (hl:l.length=n) (c:Nat) (hc:c<n)=>ixR (vd (l.map tx)) (by rw [List.length_map,hl]) hc .i64
 have of_:=fun (z:Int) h1 h2=>km (z:=z) h1 h2
 have hl0:(List.replicate n ((0,1):Q)).length=n:=af;have hl1:((List.replicate n ((0,1):Q)).set i (a,1)).length=n:=af;have ou:∀ l:List Q,l.length=n->out (szV l) (.ref 0 1 0 n n (n*2)) (hqQ l):=fun l hl=>⟨_,Jf (vd (l.map tx)) (by rw [List.length_map,hl])⟩
 simp (disch:=try exact ac)[nU,ll];refine NQ (e:=0) (b:=.none) rfl aa ?_;rw [e0];simp (disch:=try exact ac)[lr];refine lo (Cu hn _ _ rfl n 0 aa ?_);rw [hz];simp (disch:=try exact ac)[];refine cd (of_ a aa aa) ?_;have b1':=L3 (itoa a) [49];have b2':=L3 (itoa (a+b)) [49]
 have b3':=L3 (itoa b) [49];by_cases hik:i=k
 ·subst hik;simp (disch:=try exact ac)[b1',ix _ hl0 _ hi,st2 _ hl0 _ hi a];refine aC ?_;simp (disch:=try exact ac)[];refine cd (of_ (a+b) aa aa) ?_;simp (disch:=try exact ac)[b2',ix _ hl1 _ hi,st2 _ hl1 _ hi (a+b)];have:=ou (((List.replicate n ((0,1):Q)).set i (a,1)).set i (a+b,1)) af
  grind [lgQ]
 ·have g:¬ (i:Int)=(k:Int):=aa;by_cases hb:b=0
  ·subst hb;simp (disch:=try exact ac)[b1',ix _ hl0 _ hi,st2 _ hl0 _ hi a,g];refine aC ?_;simp (disch:=try exact ac)[];refine aC ?_;simp (disch:=try exact ac)[];have:=ou ((List.replicate n ((0,1):Q)).set i (a,1)) af
   grind [lgQ]
  ·simp (disch:=try exact ac)[b1',ix _ hl0 _ hi,st2 _ hl0 _ hi a,g];refine aC ?_;simp (disch:=try exact ac)[hb];refine aC ?_;simp (disch:=try exact ac)[];refine cd (of_ b aa aa) ?_;simp (disch:=try exact ac)[b3',ix _ hl1 _ hk,st2 _ hl1 _ hk b]
   have:=ou (((List.replicate n ((0,1):Q)).set i (a,1)).set k (b,1)) af
   grind [lgQ]
def DT (p:List Int) (n i:Nat):Int:=if i=0 then n else QK p (lgQ p.length (2*n:Nat) i 1 0) (lgQ p.length 2 0 0 0)
def nF (p:List Int) (n:Nat):List Int:=(List.range p.length).map (DT p n)
theorem UL (z:Int):okQ ((z,1):Q):=⟨af,af⟩
theorem RX {n:Nat} {a:Int} {i:Nat} {b:Int} {k:Nat} {M:Nat} (ha:a.natAbs<=M) (hb:b.natAbs<=M) (hab:i=k->(a+b).natAbs<=M):bdL 1 M (lgQ n a i b k):=fun x hx=>by
 have hz:∀ z:Int,z.natAbs<=M->∃ a:Int,rp 1 ((z,1):Q) a∧a.natAbs<=M:=fun z hz=>⟨z,⟨UL z,af⟩,hz⟩
 rcases Qy hx with rfl | ⟨rfl,e⟩ | rfl | rfl
 ·exact hz 0 af
 ·grind
 ·grind
 grind
theorem M9 {p:List Int} {n i:Nat} (hp:in6 p) (hi:0<i) (hil:i<p.length) (n1:n<=10000) :
  ∃ q:Int,rT p (lgQ p.length (2*n:Nat) i 1 0) (lgQ p.length 2 0 0 0) q∧q.natAbs<=960000∧tq p (lgQ p.length 2 0 0 0)≠[]∧okS (lgQ p.length (2*n:Nat) i 1 0)∧okS (lgQ p.length 2 0 0 0):=by
 have hA:bdL 1 20000 (lgQ p.length (2*n:Nat) i 1 0):=RX aa aa aa;have hB:bdL 1 2 (lgQ p.length 2 0 0 0):=RX aa aa aa;obtain ⟨m,hm⟩:∃ m,p.length=m+1:=⟨p.length-1,aa⟩;have eB:lgQ p.length 2 0 0 0=((2,1):Q)::List.replicate m (0,1):=by simp [lgQ,hm,List.replicate_succ]
 have ne:tq p (lgQ p.length 2 0 0 0)≠[]:=by rw [eB];exact I8 aa ae
 have oB:=mH aa hB aa aa
 obtain ⟨q,h1,h2⟩:=YA hp aa aa hA hB (sO ..) (sO ..) (vU (lR ae fun y hy=>(oB y hy).1.1) fun y hy=>⟨by
   grind,(oB y hy).1.1,(oC (s:=lgQ p.length 2 0 0 0) (d:=1)).2 y hy⟩) ne aa aa aa aa aa aa
 exact ⟨q,h1,aa,ne,mH aa hA aa aa,oB⟩
theorem JE {p:List Int} {n i:Nat} {q:Int} (hi:0<i) (h:rT p (lgQ p.length (2*n:Nat) i 1 0) (lgQ p.length 2 0 0 0) q):DT p n i=q:=by
 unfold DT;rw [if_neg aa];exact J1 h
theorem Qj {p:List Int} {n i:Nat} (hp:in6 p) (hil:i<p.length) (n1:n<=10000):(DT p n i).natAbs<=960000:=by
 by_cases hi:i=0
 ·grind [DT]
 ·obtain ⟨q,h1,h2,_⟩:=M9 hp (n:=n) aa hil n1;rw [JE aa h1];exact h2
theorem RR {s:List Q} (h:okS s):okK 30 s:=h
theorem SD {p:List Int} {n i:Nat} (hpc:pcB p=0) (hp:in6 p) (hil:i<p.length) (n0:0<n) (n1:n<=10000):CP Y F.jE [lst di p,I (2*n:Nat),I i] (I (DT p n i)):=by
 refine Bh ?_;have hN:=hp.2.1;by_cases hi:i=0
 ·subst hi;have e:((2*n:Nat):Int)+1=2*(n:Int)+1:=aa;have e2:(2*(n:Int)+1) / 2=(n:Int):=aa;simp (disch:=try exact ac)[jE,e]
  grind [ci,DT]
 ·obtain ⟨q,h1,h2,ne,oA,oB⟩:=M9 hp (n:=n) aa hil n1;have l1:=JO (p:=p) (a:=(2*n:Nat)) (b:=1) (i:=i) (k:=0) aa hil aa aa aa aa aa;have l2:=JO (p:=p) (a:=2) (b:=0) (i:=0) (k:=0) aa aa aa aa aa aa aa;have cq:=xu hpc aa (sO ..) (sO ..) oA oB ne
  have fl:=CJ (K:=30) aa aa (sO ..) (sO ..) (RR oA) (RR oB) h1;have sm:=sF (z:=q) aa;rw [JE aa h1];have g:¬ (i:Int)=0:=aa;have sn:∀ (h:Hp) (x y:List Q),aH h [lst di p,szV x,szV y]=some ([lst di p,szV x,szV y],h):=fun h x y=>by rfl
  obtain ⟨A,hA⟩:∃ A,A=lgQ p.length (2*n:Nat) i 1 0:=⟨_,rfl⟩;obtain ⟨B',hB⟩:∃ B',B'=lgQ p.length 2 0 0 0:=⟨_,rfl⟩;rw [<- hA] at l1 cq fl;rw [<- hB] at l2 cq fl
  have fo:CP Y F.mn [lst di p,szV A,szV B'] (.tup [S (itoa q),I 0]):=by
   refine DF ?_;simp (disch:=try exact ac)[mn];refine cd cq ?_ (sn _ _ _);simp (disch:=try exact ac)[];refine cd fl ?_ (sn _ _ _);exact av rfl rfl
  simp (disch:=try exact ac)[jE,g];refine cd l1 ?_;simp (disch:=try exact ac)[];refine cd l2 ?_;simp (disch:=try exact ac)[];refine cd fo ?_ (sn _ _ _);simp (disch:=try exact ac)[];refine cd sm ?_;simp (disch:=try exact ac)[]
theorem Me {p:List Int} {n i:Nat} (hpc:pcB p=0) (hp:in6 p) (hil:i<p.length) (n0:0<n) (n1:n<=10000):CP Y F.kV [lst di p,I n,I i] (.tup [I (DT p n i),I 0]):=by
 refine Bi ?_;have hN:=hp.2.1;have pc:=dT (p:=p) aa;rw [hpc] at pc;have ro:=SD hpc hp hil n0 n1;have e:2*(n:Int)=((2*n:Nat):Int):=aa;have ll:bq (lst di p)=some (I p.length):=rfl;have g1:¬ (n:Int)<1:=aa;have g2:¬ (100000:Int)<(n:Int):=aa;have g3:¬ (i:Int)<0:=aa;have g4:¬ (p.length:Int)<=(i:Int):=aa;obtain ⟨m,hm⟩:∃ m,m=2*n:=⟨_,rfl⟩
 rw [<- hm] at ro e;simp (disch:=try exact ac)[kV];refine cd pc ?_;simp (disch:=try exact ac)[g1,g2,g3,ll,g4,e];refine cd ro ?_;simp [av]
def paC (p:List Int) (n i:Nat):List D:=((nF p n).take i).map di
theorem F5 {p:List Int} {n:Nat} (hpc:pcB p=0) (hp:in6 p) (n0:0<n) (n1:n<=10000) (k:KL) (h0:Hp) (hh:h0.length=1):∀ (f i:Nat),i+f=p.length ->
  k (.exit 0) [acR.v p.length ((nF p n).map di)] [acR.b p.length ((nF p n).map di)] ->
  lp (mI (CX Y) (lst di p) (I n) (I p.length)) [] h0 [acR.v i (paC p n i),I i] [acR.b i (paC p n i)] k
 | 0,i,hi,hk=>by
  have g:¬ (i:Int)<(p.length:Int):=aa;have:i=p.length:=aa;subst this;have lt:(nF p n).length=p.length:=by simp [nF]
  refine ax ?_;simp (disch:=try exact ac)[mI,g];have e:paC p n p.length=(nF p n).map di:=by unfold paC;rw [Zw aa]
  grind
 | f+1,i,hi,hk=>by
  have g:(i:Int)<(p.length:Int):=aa;have hN:=hp.2.1;have hlt:i<p.length:=aa;have ne:=Me hpc hp hlt n0 n1;have li1:∀ (z:Int) (H:Hp),eY 1 [D.int IntKind.i64 0] [(0,I z)] H=some ([di z],H):=fun z H=>by rfl
  have lt:(nF p n).length=p.length:=by simp [nF]
  have cR:(paC p n i).length=i*acR.n:=by simp [acR,paC,lt];omega
  have es:paC p n (i+1)=paC p n i++[di (DT p n i)]:=by
   unfold paC;rw [List.take_add_one,List.map_append];simp [nF,hlt]
  have cl1:(paC p n i).length=i:=by simp [cR,acR]
  have ev:∀ c,acR.v (i+1) c=.ref acR.s (acR.e+1) 0 (i+1) (i+1) c.length:=fun c=>rfl
  have eb:∀ c,acR.b (i+1) c=(acR.e+1,.data acR.n c false false):=fun c=>rfl
  have ih:=F5 hpc hp n0 n1 k h0 hh f (i+1) aa hk;rw [es] at ih;have du:∀ x y:Nat × Bk,([x]:Hp).set acR.s y=[y]:=fun x y=>rfl
  have hre:∀ x:Hp,x.length=1->aK [] 0 h0 x=x:=fun x hx=>eE 0 h0 x aa
  refine ax ?_;simp (disch:=try exact ac)[mI,g];refine cd ne ?_;simp (disch:=try exact ac)[li1];refine qz acR (k:=1) aa rfl cR (by rfl) rfl (fun t e=>by cases e) aa ae ?_;simp (disch:=try exact ac)[du,hre];simpa [ev,eb,cl1] using ih
theorem La {p:List Int} {n:Nat} (hpc:pcB p=0) (hp:in6 p) (hl:0<p.length) (n0:0<n) (n1:n<=10000):CP Y F.md [lst di p,I n] (.tup [lst di (nF p n),I 0]):=by
 refine Dh ?_;have hN:=hp.2.1;have ll:bq (lst di p)=some (I p.length):=rfl
 have mx:mxI true [I 1,I p.length]=some (I p.length):=by
  have:mx2 true 1 (p.length:Int)=p.length:=by simp only [mx2,if_true];split <;> omega
  simp only [mxI,this]
 have lt:(nF p n).length=p.length:=by simp [nF]
 have pl:=F5 hpc hp n0 n1 (exK [((.exit 0),fun l3 h=>out (.tup [lst di (nF p n),I 0]) (.tup [(ge l3 0),(.d (.int .i64 0))]) h),(.ret,fun l3 h=>out (.tup [lst di (nF p n),I 0]) (.tup [(ge l3 0),(ge l3 1)]) h)]) [(0,.none)] rfl p.length 0 aa (by
  obtain ⟨h',q1,_⟩:=pS acR (L:=p.length) (cells:=(nF p n).map di) (h:=[acR.b p.length ((nF p n).map di)]) rfl (by simp [acR,lt]);have e:lst di (nF p n)=.d (.sl p.length ((nF p n).map di)):=by simp [lst,lt]
  rw [e];simp only [exK];exact av q1 rfl)
 simp (disch:=try exact ac)[md,ll,mx];exact pl
def HJ (v:List Int) (qf:Rw->Int) (l:List Rw):Bool:=l.all fun r=>decide (pL r v=qf r)
theorem NK {z:Int} (h:z.natAbs<1000000000000):ndg z.natAbs<400000:=Zf (bi (n:=z.natAbs) (d:=12) h ae) ae
theorem Ji {v r:List Int} (hN:r.length<=64) (hv:∀ x∈v,x.natAbs<=1000000000) (hr:smR r=true) (k:KL) (h0:Hp):∀ (q w a b:List Int),a++q=r->b++w=v->a.length=b.length->q.length=w.length->k (.exit 2) [S (itoa (pL r v))] h0 ->
  lp (j8 (CX Y) (lst di v) (lst di r) (I r.length)) [] h0 [S (itoa (pL a b)),I a.length] h0 k
 | [],w,a,b,ha,hb,hab,hqw,hk=>by
  have:w=[]:=by cases w with
   | nil=>rfl
   | cons=>simp at hqw
  subst this;simp at ha hb;subst ha;subst hb;refine ax ?_;simp (disch:=try exact ac)[j8];exact hk
 | x::q,[],a,b,ha,hb,hab,hqw,hk=>by simp at hqw
 | x::q,y::w,a,b,ha,hb,hab,hqw,hk=>by
  have hal:a.length<r.length:=by subst ha;simp
  have hbl:a.length<v.length:=by subst hb;simp;omega
  have hx:nth 0 r a.length=x:=by subst ha;simp
  have hy:nth 0 v a.length=y:=by subst hb;rw [hab];simp
  have bx:=uv hr (x:=x) (by rw [<- ha];simp);have by_:=hv y (by rw [<- hb];simp);have i1:=fun h=>dP di r h (k:=.i64) (i:=(a.length:Int)) aa aa
  have i2:=fun h=>eZ di 0 r h (j:=a.length) hal
  have j1:=fun h=>dP di v h (k:=.i64) (i:=(a.length:Int)) aa aa
  have j2:=fun h=>eZ di 0 v h (j:=a.length) hbl
  rw [hx] at i2;rw [hy] at j2;simp only [Int.toNat_natCast] at i1 j1;have g1:(a.length:Int)<(r.length:Int):=aa;have ih:=Ji hN hv hr k h0 q w (a++[x]) (b++[y]) (by simpa using ha) (by simpa using hb) (by simp [hab]) (by simpa using hqw) hk;rw [OQ _ _ _ _ hab] at ih;simp only [pL,Int.add_zero] at ih
  have hd:=Kb (A:=1000) (B:=1000000000) aa aa (a:=a) (b:=b) (fun z hz=>by have:=uv hr (x:=z) (by rw [<- ha];simp [hz]);omega) (fun z hz=>by have:=hv z (by rw [<- hb];simp [hz]);omega);have hm:(x*y).natAbs<=1000*1000000000:=by rw [Zm];exact Zs aa aa
  have hm2 : -1000000000000<=x*y∧x*y<=1000000000000:=aa;have o1:=km (z:=x) aa aa;have o2:=km (z:=y) aa aa;have mu:=nT (z:=x) (w:=y) (NK aa) (NK aa);have ad:=pq (z:=pL a b) (w:=x*y) (D8 aa aa) (D8 aa aa);refine ax ?_
  simp (disch:=try exact ac)[j8,i1,i2,g1];refine cd o1 ?_;simp (disch:=try exact ac)[j1,j2];refine cd o2 ?_;simp (disch:=try exact ac)[];refine cd mu ?_;simp (disch:=try exact ac)[];refine cd ad ?_;simp (disch:=try exact ac)[];simpa using ih
theorem Jj {p:List Int} {n:Nat} {l:List Rw} {v:List Int} {qf:Rw->Int} (H:IX p n l qf) (lv:v.length=p.length) (hp64:p.length<=64) (hv:∀ x∈v,x.natAbs<=1000000000) (k:KL):∀ (q c:List Rw),c++q=l ->
  (HJ v qf q=true->k (.exit 0) [] [])->(HJ v qf q=false->k .ret [B false,I 0] []) ->
  lp (j9 (CX Y) (lst di v) (lst ztD (l.map qf)) (mat l) (I l.length)) [] [] [I c.length] [] k
 | [],c,hc,h1,h2=>by
  simp at hc;subst hc;refine ax ?_;simp (disch:=try exact ac)[j9];exact h1 rfl
 | r::q,c,hc,h1,h2=>by
  have hcl:c.length<l.length:=by subst hc;simp
  have hr:nth [] l c.length=r:=by subst hc;simp
  have Er:=H.hE r (by rw [<- hc];simp);have i1:=dP row l [] (k:=.i64) (i:=(c.length:Int)) aa aa;have i2:=eZ row [] l [] (j:=c.length) hcl;rw [hr] at i2;simp only [Int.toNat_natCast] at i1;have hlen:=H.hN;have lr:=Er.lr
  have x1:ixV [] 1 (lst ztD (l.map qf)) (I (c.length:Int))=some (.dptr ((l.map qf).map ztD) c.length):=by
   have:=dP ztD (l.map qf) [] (k:=.i64) (i:=(c.length:Int)) aa aR;simpa only [Int.toNat_natCast] using this
  have x2:ld1 [] (.dptr ((l.map qf).map ztD) c.length)=some (S (itoa (qf r))):=by
   have:=eZ ztD 0 (l.map qf) [] (j:=c.length) (by simpa using hcl);rw [gD 0 (l.map qf) c.length (by simpa using hcl),List.getElem_map,<- gD [] l c.length hcl,hr] at this;exact this
  obtain ⟨ks,hks⟩:∃ ks,ks=l.map qf:=⟨_,rfl⟩;have ih:=Jj H lv hp64 hv k q (c++[r]) (by simpa using hc);rw [<- hks] at x1 x2 ih ⊢;have ne:=Gx (pL r v) (qf r);have g1:(c.length:Int)<(l.length:Int):=aa;have lr1:bq (.d (row r))=some (I r.length):=rfl;have sl:=fun k hk=>Ji (v:=v) (r:=r) aa hv Er.sr k [] r v [] [] rfl rfl rfl aa hk
  have e0:S (itoa (pL [] []))=.d (.str [48]):=by rw [show pL [] []=0 from rfl,S9]
  rw [e0] at sl;simp only [HJ,List.all_cons] at h1 h2;refine ax ?_;simp (disch:=try exact ac)[j9,i1,i2,g1,lr1];refine lo (sl _ ?_);by_cases he:pL r v=qf r
  ·have ih':=ih (by simpa [he,HJ] using h1) (by simpa [he,HJ] using h2);simp (disch:=try exact ac)[x1,x2,ne,he];simpa using ih'
  ·simp (disch:=try exact ac)[x1,x2,ne,he];exact h2 (by simp [he])
theorem P5 {p:List Int} {n:Nat} {l:List Rw} {qf:Rw->Int} (hpc:pcB p=0) (hp:in6 p) (hl:0<p.length) (n0:0<n) (n1:n<=10000) (hm:∀ r∈l,mzB p [r]=0) (H:IX p n l qf) :
  CP Y F.dU [lst di p,I n,mat l] (.tup [B (HJ (nF p n) qf l),I 0]):=by
 refine qH ?_;have l1:bq (mat l)=some (I l.length):=rfl;have hN:=H.hN;have hN6:=hp.2.1;have dc:=lh (p:=p) (n:=(n:Int)) aa;have hdc:dvC p n=0:=by unfold dvC;rw [if_pos hpc,if_neg aa]
 rw [hdc] at dc;have ck:=ie (p:=p) (m:=l) aa aa;rw [AL hN hm] at ck;have co:=CU aa H.hE;have pa:=La hpc hp hl n0 n1;have lt:(nF p n).length=p.length:=by simp [nF]
 have hv:∀ x∈nF p n,x.natAbs<=1000000000:=fun x hx=>by
  simp only [nF,Y5,Xb] at hx;obtain ⟨i,hi,rfl⟩:=hx;have:=Qj hp (n:=n) hi n1;omega
 simp (disch:=try exact ac)[dU];refine cd dc ?_;simp (disch:=try exact ac)[];refine cd ck ?_;simp (disch:=try exact ac)[];refine cd pa ?_;simp (disch:=try exact ac)[];refine cd co ?_;simp (disch:=try exact ac)[l1];refine lo (Jj H lt aa hv _ l [] rfl (fun g=>?_) (fun g=>?_))
 ·rw [g];simp (disch:=try exact ac)[];exact av rfl rfl
 ·rw [g];simp (disch:=try exact ac)[];exact av rfl rfl
theorem LJ {p r:List Int} {n:Nat} (hpc:pcB p=0) (hp:in6 p) (hl:0<p.length) (h0:0<n) (h1:n<=10000) (lr:r.length=p.length) (hr:∀ x∈r,x.natAbs<=9):uh p n r (oi p n r):=by
 obtain ⟨q,E,_⟩:=er6 hpc hp hl h0 h1 lr hr;rw [Gg E];exact E
def pEx:List Int:=[2,3,5]
theorem tK:pcB pEx=0:=aG
theorem tL:in6 pEx:=by unfold in6;decide
theorem LH:CP Y F.cu [lst di pEx,I (12:Nat),mat [[-1,1,0]]] (.tup [lst szD [[(19,12),(-1,1),(0,1)]],I 0]):=by
 have h:=CL (p:=pEx) (n:=12) (l:=[[-1,1,0]]) (qf:=oi pEx 12) ae ae aG aG (fun r hr=>by
  simp only [Zr,Y6,or_false] at hr;subst hr;exact LJ tK tL ae ae ae rfl ae)
 have e:List.map (erD pEx 12 (oi pEx 12)) [[-1,1,0]]=[[(19,12),(-1,1),(0,1)]]:=by
  show [erD pEx 12 (oi pEx 12) [-1,1,0]]=_
  rw [show erD pEx 12 (oi pEx 12) [-1,1,0]=_ from Tq]
 rw [e] at h;exact h
theorem Iy:CP Y F.eO [lst di pEx,lst di [-1,1,0],I (60:Nat)] (.tup [lst di [1,2,3,5,7,12,29,41,53],I 0]):=by
 obtain ⟨qf,zf,ls,R⟩:=rc6 (p:=pEx) (r:=[-1,1,0]) (lim:=60) tK tL ae ae rfl ae;have h:=HR R ae ae;rw [FQ R,show kw (JS pEx [-1,1,0]) 60 1 0=_ from Tp] at h;exact h
theorem QP:CP Y F.aM [lst di pEx,I (4:Nat),mat [[-1,1,0],[-2,2,0]]] (cnV (some (0,0,1))):=by
 have h:=pf (p:=pEx) (n:=4) (l:=[[-1,1,0],[-2,2,0]]) (qf:=oi pEx 4) ae aG aG ⟨ae,fun r hr=>by
  simp only [Zr,Y6,or_false] at hr;rcases hr with rfl | rfl
  ·exact LJ tK tL ae ae ae rfl ae
  ·exact LJ tK tL ae ae ae rfl ae⟩
 rw [show BU (oi pEx 4) [[-1,1,0],[-2,2,0]] 0 [[-1,1,0],[-2,2,0]]=_ from Tr] at h;exact h
theorem OG:CP Y F.aM [lst di pEx,I (12:Nat),mat [[-1,1,0],[-2,0,1],[-3,1,1]]] (cnV none):=by
 have h:=pf (p:=pEx) (n:=12) (l:=[[-1,1,0],[-2,0,1],[-3,1,1]]) (qf:=oi pEx 12) ae aG aG ⟨ae,fun r hr=>by
  simp only [Zr,Y6,or_false] at hr;rcases hr with rfl | rfl | rfl
  ·exact LJ tK tL ae ae ae rfl ae
  ·exact LJ tK tL ae ae ae rfl ae
  ·exact LJ tK tL ae ae ae rfl ae⟩
 rw [show BU (oi pEx 12) [[-1,1,0],[-2,0,1],[-3,1,1]] 0 [[-1,1,0],[-2,0,1],[-3,1,1]]=_ from QQ] at h;exact h
theorem c8:CP Y F.cQ [] (B true):=by
 refine rI ?_;have hl3:∀ (a b c:Int) (H:Hp),eY 3 [D.int IntKind.i64 0] [(0,V.d (D.int IntKind.i64 a)),(1,V.d (D.int IntKind.i64 b)),(2,V.d (D.int IntKind.i64 c))] H=some ([di a,di b,di c],H):=fun a b c H=>by simp [eY,iS,kI,toD,di]
 have lm1:=fun n l H=>Lp n l H
 have lm2:=fun n l n' l' H=>Lo n l n' l' H
 have lm3:∀ (n:Nat) (l:List D) (n':Nat) (l':List D) (n'':Nat) (l'':List D) (H:Hp),eY 3 [D.pl (Value.slice none 0 0)] [(0,.d (.sl n l)),(1,.d (.sl n' l')),(2,.d (.sl n'' l''))] H=some ([.sl n l,.sl n' l',.sl n'' l''],H):=fun n l n' l' n'' l'' H=>by simp [eY,iS,kI,toD]
 have lq3:∀ (x y z:Q) (H:Hp),eY 3 [D.str [],D.str []] [(0,.agg (qT x)),(1,.agg (qT y)),(2,.agg (qT z))] H=some (aS (tx x)++aS (tx y)++aS (tx z),H):=fun x y z H=>by simp [eY,iS,kI,toD,qT,aS,tx]
 have ee:=LH;simp (disch:=try exact ac)[cQ,hl3,lm1,lm2,lm3];refine cd ee ?_;simp (disch:=try exact ac)[hl3,lm1,lm2,lm3];refine cd Iy ?_;simp (disch:=try exact ac)[hl3,lm1,lm2,lm3];refine cd QP ?_;simp (disch:=try exact ac)[hl3,lm1,lm2,lm3,cnV];refine cd OG ?_
 have le1:bq (lst szD [[(19,12),(-1,1),(0,1)]])=some (I 1):=rfl;have ix1:∀ h,ixV h 1 (lst szD [[(19,12),(-1,1),(0,1)]]) (I 0)=some (.dptr [szD [(19,12),(-1,1),(0,1)]] 0):=fun h=>dP szD [[(19,12),(-1,1),(0,1)]] h (k:=.i64) (i:=0) ae ae
 have n1:=Eh (z:=19) (n:=12) ae ae ae ae ae;have n2:=Eh (z:=-1) (n:=1) ae ae ae ae ae;have n3:=Eh (z:=0) (n:=1) ae ae ae ae ae;have eq:=LL (s:=[(19,12),(-1,1),(0,1)]) (t:=[(19,12),(-1,1),(0,1)]) ae;rw [decide_eq_true rfl] at eq
 simp (disch:=try exact ac)[cnV,le1,ix1];refine cd n1 ?_;simp (disch:=try exact ac)[];refine cd n2 ?_;simp (disch:=try exact ac)[];refine cd n3 ?_;simp (disch:=try exact ac)[lq3];refine cd eq ?_ (by simp [aH,bY,szD,NF])
 have hl9:∀ (a b c d e f g i j:Int) (H:Hp),eY 9 [D.int IntKind.i64 0] [(0,V.d (D.int IntKind.i64 a)),(1,V.d (D.int IntKind.i64 b)),(2,V.d (D.int IntKind.i64 c)),(3,V.d (D.int IntKind.i64 d)),(4,V.d (D.int IntKind.i64 e)),(5,V.d (D.int IntKind.i64 f)),(6,V.d (D.int IntKind.i64 g)),(7,V.d (D.int IntKind.i64 i)),(8,V.d (D.int IntKind.i64 j))] H=some ([di a,di b,di c,di d,di e,di f,di g,di i,di j],H):=fun a b c d e f g i j H=>by simp [eY,iS,kI,toD,di]
 have si:=FJ (s:=[1,2,3,5,7,12,29,41,53]) (t:=[1,2,3,5,7,12,29,41,53]) ae;rw [decide_eq_true rfl] at si;simp (disch:=try exact ac)[hl9];refine cd si ?_;have ba:biA [D.int IntKind.i64 0,D.int IntKind.i64 0,D.int IntKind.i64 0] BinOp.eql (V.agg [I 0,I 0,I 1]) (V.agg [V.d (D.int IntKind.i64 0),V.d (D.int IntKind.i64 0),V.d (D.int IntKind.i64 1)])=some (B true):=rfl
 simp (disch:=try exact ac)[ba]
def XO:List (List Int):=[[2,3,5],[2,3],[2,3,5,7],[2,3,7],[3,5,7],[2],[2,5,7],[2,3,11],[2,3,5,13],[2,3,7,11]]
def p13 (k:Nat):List Int:=XO.getD (k % 10) []
theorem Tz {p:List Int} {n:Nat} (hp:pcB p=0) (h0:0<n) (h1:n<=10000):dvC p n=0:=by
 unfold dvC;rw [if_pos hp,if_neg aa]
theorem O1 {p:List Int} {n:Nat} (hp:pcB p=0) (hN:p.length<=20) (hl:0<p.length) (h0:0<n) (h1:n<=10000) (hr:okS (dQ p n)):CP Y F.gk [lst di p,I n] (.tup [szV (dQ p n),I 0]):=by
 refine qG ?_;have dc:=lh (p:=p) (n:=(n:Int)) aa;rw [Tz hp h0 h1] at dc;have st:=Aq hp hN hl h0 h1 hr;simp (disch:=try exact ac)[gk];refine cd dc ?_;simp (disch:=try exact ac)[];refine cd st ?_;simp (disch:=try exact ac)[];exact av (rj _ _) rfl
end Go.Vm
