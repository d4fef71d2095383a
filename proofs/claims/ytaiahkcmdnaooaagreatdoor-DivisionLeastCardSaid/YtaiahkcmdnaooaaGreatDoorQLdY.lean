/- Law of divisions: Records, but for what known says. -/
import Derived.Test.YtaiahkcmdnaooaaGreatDoorQCeX
import Derived.Test.YtaiahkcmdnaooaaGreatDoorQT
set_option linter.unusedVariables false
set_option linter.unusedSimpArgs false
namespace Go.Vm
open Go Go.Am Go.Big
def Jk (p:List Int):List (List Int)->Int
 | []=>0
 | r::m=>if mzB p [r]≠0 then mzB p [r] else Jk p m
def clB (p:List Int) (m:List (List Int)):Int:=if 60<m.length then 4 else Jk p m
theorem KO {p:List Int} (hp:p.length<1000000) (k:KL):∀ (q a:List (List Int)),(a++q).length<1000000000 ->
  (Jk p q=0->k (.exit 0) [] [])->(Jk p q≠0->k .ret [I (Jk p q)] []) ->
  lp (ie (CX Y) (lst di p) (mat (a++q)) (I (a++q).length)) [] [] [I a.length] [] k
 | [],a,hN,h0,h1=>by
  refine ax ?_;simp (disch:=try exact ac)[ie];exact h0 rfl
 | r::q,a,hN,h0,h1=>by
  simp at hN;have mo:=Aq (p:=p) (r:=r) aa;simp only [Jk] at h0 h1;refine ax ?_;simp (disch:=try exact ac)[ie];refine cd mo ?_;by_cases h:mzB p [r]=0
  ·rw [if_neg (by simpa using h)] at h0 h1;have ih:=KO hp k q (a++[r]) am h0 h1;simp (disch:=try exact ac)[h];simp at ih ⊢;exact ih
  ·rw [if_pos h] at h1;simp (disch:=try exact ac)[h];exact h1 h
theorem nP {p:List Int} {m:List (List Int)} (hp:p.length<1000000) (hm:m.length<1000000000):CP Y F.cw [lst di p,mat m] (I (clB p m)):=by
 refine sN ?_;have l1:aA (mat m)=some (I m.length):=rfl;unfold clB;by_cases h:60<m.length
 ·have g:(60:Int)<(m.length:Int):=aa;rw [if_pos h];simp (disch:=try exact ac)[cw,l1,g] <;> exact bU rfl
 ·have g:¬ (60:Int)<(m.length:Int):=aa;rw [if_neg h];simp (disch:=try exact ac)[cw,l1,g];refine lo (KO hp _ m [] (by simpa using hm) (fun g=>?_) (fun g=>?_))
  ·rw [g];simp (disch:=try exact ac)[]
  ·simp (disch:=try exact ac)[]
theorem vZ {p:List Int} {m:List (List Int)} (hm:m.length<=60) (h:∀ r∈m,mzB p [r]=0):clB p m=0:=by
 unfold clB;rw [if_neg aa];clear hm
 induction m with
 | nil=>rfl
 | cons r m ih=>
  rw [Jk,if_neg (by simpa using h r af)];exact ih fun x hx=>h x (by simp [hx])
def wE:List Int->List Int->List Int->Bool
 | x::a,y::b,z::c=>decide (x+y=z) && wE a b c
 | _,_,_=>true
theorem C5 {s t u:List Int} (hN:s.length<1000000) (hs:smR s=true) (ht:smR t=true) (k:KL):∀ (q r v a b c:List Int),a++q=s->b++r=t->c++v=u->a.length=b.length->a.length=c.length->q.length=r.length->q.length=v.length->(wE q r v=true->k (.exit 0) [] [])->(wE q r v=false->k .ret [B false] []) ->
  lp (jB (CX Y) (lst di s) (lst di t) (lst di u) (I s.length)) [] [] [I a.length] [] k
 | [],r,v,a,b,c,ha,hb,hc,hab,hac,hqr,hqv,h0,h1=>by
  simp at ha;subst ha;refine ax ?_;simp (disch:=try exact ac)[jB];exact h0 (by simp [wE])
 | x::q,[],v,a,b,c,ha,hb,hc,hab,hac,hqr,hqv,h0,h1=>by simp at hqr
 | x::q,y::r,[],a,b,c,ha,hb,hc,hab,hac,hqr,hqv,h0,h1=>by simp at hqv
 | x::q,y::r,z::v,a,b,c,ha,hb,hc,hab,hac,hqr,hqv,h0,h1=>by
  have hal:a.length<s.length:=by subst ha;simp
  have hbl:a.length<t.length:=by subst hb;simp;omega
  have hcl:a.length<u.length:=by subst hc;simp;omega
  have hx:nth 0 s a.length=x:=by subst ha;simp
  have hy:nth 0 t a.length=y:=by subst hb;rw [hab];simp
  have hz:nth 0 u a.length=z:=by subst hc;rw [hac];simp
  have bx:=DC hs (x:=x) (by rw [<- ha];simp);have by_:=DC ht (x:=y) (by rw [<- hb];simp);have i1:=dO di s [] (k:=.i64) (i:=(a.length:Int)) aa aa;have i2:=eU di 0 s [] (j:=a.length) hal;have j1:=dO di t [] (k:=.i64) (i:=(a.length:Int)) aa aa;have j2:=eU di 0 t [] (j:=a.length) hbl
  have k1:=dO di u [] (k:=.i64) (i:=(a.length:Int)) aa aa;have k2:=eU di 0 u [] (j:=a.length) hcl;rw [hx] at i2;rw [hy] at j2;rw [hz] at k2;simp only [Int.toNat_natCast] at i1 j1 k1;have g1:(a.length:Int)<(s.length:Int):=aa;refine ax ?_;by_cases hxy:x+y=z
  ·have ih:=C5 hN hs ht k q r v (a++[x]) (b++[y]) (c++[z]) (by simpa using ha) (by simpa using hb) (by simpa using hc) (by simp [hab]) (by simp [hac]) (by simpa using hqr) (by simpa using hqv) (fun e=>h0 (by simp [wE,hxy,e])) (fun e=>h1 (by simp [wE,e]));simp (disch:=try exact ac)[jB,i1,i2,j1,j2,k1,k2,g1,hx,hy,hz,hxy];simpa using ih
  ·simp (disch:=try exact ac)[jB,i1,i2,j1,j2,k1,k2,g1,hx,hy,hz,hxy];exact h1 (by simp [wE,hxy])
theorem Q9 {s t u:List Int} (hN:s.length<1000000) (hs:smR s=true) (ht:smR t=true) (l1:t.length=s.length) (l2:u.length=s.length):CP Y F.kH [lst di s,lst di t,lst di u] (B (wE s t u)):=by
 refine A1 ?_;have hl:aA (lst di s)=some (I s.length):=rfl;simp (disch:=try exact ac)[kH,hl]
 have:=C5 (u:=u) hN hs ht (exK [(Exit.exit 0,fun l5 h=>out (B (wE s t u)) (V.d (D.bool true)) h),(Exit.ret,fun l5 h=>out (B (wE s t u)) (ge l5 0) h)]) s t u [] [] [] rfl rfl rfl rfl rfl l1.symm l2.symm (fun g=>by
   simp (disch:=try exact ac)[];exact jA (by simp [g])) (fun g=>by
   simp (disch:=try exact ac)[];exact jA (by simp [g]))
 refine lo ?_;exact this
def ztD (z:Int):D:=.str (itoa z)
theorem xT {p:List Int} {n:Nat} {l:List (List Int)} {qf:List Int->Int} (hN:l.length<1000000) (hE:∀ r∈l,tM p n r (qf r)) (k:KL) (h0:Hp) (hh:h0.length=1):∀ (q a:List (List Int)),a++q=l ->
  k (.exit 0) [acR.v l.length (l.map fun r=>ztD (qf r))] [acR.b l.length (l.map fun r=>ztD (qf r))] ->
  lp (jp (CX Y) (lst di p) (I n) (mat l) (I l.length)) [] h0 [acR.v a.length (a.map fun r=>ztD (qf r)),I a.length] [acR.b a.length (a.map fun r=>ztD (qf r))] k
 | [],a,ha,hk=>by
  simp at ha;subst ha;refine ax ?_;simp (disch:=try exact ac)[jp];exact hk
 | r::q,a,ha,hk=>by
  have hal:a.length<l.length:=by subst ha;simp
  have hr:nth [] l a.length=r:=by subst ha;simp
  have hm:r∈l:=by rw [<- ha];simp
  have E:=hE r hm;have so:=DY (p:=p) (r:=r) E.hp (by have:=E.hN;omega) E.lr E.sr;have ls:(ofQ r).length=p.length:=by simp [ofQ,E.lr]
  have ne:=xQ E.hp E.hN E.hl E.h0 E.h1 E.st ls E.of E.ne E.fl;have i1:=fun h=>dO row l h (k:=.i64) (i:=(a.length:Int)) aa aa
  have i2:=fun h=>eU row [] l h (j:=a.length) hal
  rw [hr] at i2;simp only [Int.toNat_natCast] at i1;have g1:(a.length:Int)<(l.length:Int):=aa;have li1:∀ (z:Int) (H:Hp),dY 1 [D.str []] [(0,S (itoa z))] H=some ([ztD z],H):=fun z H=>by simp [dY,gT,jw,toD,ztD]
  have cR:(a.map fun r=>ztD (qf r)).length=a.length*acR.n:=by simp [acR]
  have dp:∀ x y:Nat × Bk,([x]:Hp).set acR.s y=[y]:=fun x y=>rfl
  have hre:∀ x:Hp,x.length=1->aE [] 0 h0 x=x:=fun x hx=>cQ 0 h0 x aa
  have ev:∀ c,acR.v (a.length+1) c=.ref acR.s (acR.e+1) 0 (a.length+1) (a.length+1) c.length:=fun c=>rfl
  have eb:∀ c,acR.b (a.length+1) c=(acR.e+1,.data acR.n c false false):=fun c=>rfl
  have ih:=xT hN hE k h0 hh q (a++[r]) (by simpa using ha) hk;refine ax ?_;simp (disch:=try exact ac)[jp,i1,i2,g1];refine cd so ?_;simp (disch:=try exact ac)[];refine cd ne ?_ (by simp [aj,aI,szV,bN]);simp (disch:=try exact ac)[li1]
  refine oV acR (k:=1) aa rfl cR (by rfl) rfl (fun t e=>by cases e) aa ae ?_;simp (disch:=try exact ac)[dp,hre,clean,eM,mz,mt,dM,jj];refine ⟨rfl,?_⟩;simpa [ev,eb] using ih
theorem Mi {p:List Int} {n:Nat} {l:List (List Int)} {qf:List Int->Int} (hN:l.length<1000000) (hE:∀ r∈l,tM p n r (qf r)):CP Y F.il [lst di p,I n,mat l] (.tup [lst ztD (l.map qf),I 0]):=by
 refine vT ?_;have l1:aA (mat l)=some (I l.length):=rfl
 have hl:=xT hN hE (exK [((.exit 0),fun l2 h=>out (.tup [lst ztD (l.map qf),I 0]) (.tup [(ge l2 0),(.d (.int .i64 0))]) h),(.ret,fun l2 h=>out (.tup [lst ztD (l.map qf),I 0]) (.tup [(ge l2 0),(ge l2 1)]) h)]) [(0,.none)] rfl l [] rfl (by
  obtain ⟨h',q1,_⟩:=oM acR (L:=l.length) (cells:=l.map fun r=>ztD (qf r)) (h:=[acR.b l.length (l.map fun r=>ztD (qf r))]) rfl (by simp [acR]);simp only [exK];have e:lst ztD (l.map qf)=.d (.sl l.length (l.map fun r=>ztD (qf r))):=by simp [lst]
  rw [e];exact aB q1 rfl)
 simp (disch:=try exact ac)[il,l1];exact hl
def erD (p:List Int) (n:Nat) (qf:List Int->Int) (r:List Int):List Q:=lN p n (qf r) (ofQ r)
theorem xO {p:List Int} {n:Nat} {l:List (List Int)} {qf:List Int->Int} (hN:l.length<1000000) (hE:∀ r∈l,tM p n r (qf r)) (k:KL) (h0:Hp) (hh:h0.length=1):∀ (q a:List (List Int)),a++q=l ->
  k (.exit 0) [acR.v l.length (l.map fun r=>szD (erD p n qf r))] [acR.b l.length (l.map fun r=>szD (erD p n qf r))] ->
  lp (jq (CX Y) (lst di p) (I n) (mat l) (I l.length)) [] h0 [acR.v a.length (a.map fun r=>szD (erD p n qf r)),I a.length] [acR.b a.length (a.map fun r=>szD (erD p n qf r))] k
 | [],a,ha,hk=>by
  simp at ha;subst ha;refine ax ?_;simp (disch:=try exact ac)[jq];exact hk
 | r::q,a,ha,hk=>by
  have hal:a.length<l.length:=by subst ha;simp
  have hr:nth [] l a.length=r:=by subst ha;simp
  have hm:r∈l:=by rw [<- ha];simp
  have E:=hE r hm;have de:=C7 E;have i1:=fun h=>dO row l h (k:=.i64) (i:=(a.length:Int)) aa aa
  have i2:=fun h=>eU row [] l h (j:=a.length) hal
  rw [hr] at i2;simp only [Int.toNat_natCast] at i1;have g1:(a.length:Int)<(l.length:Int):=aa;have li1:∀ (s:List Q) (H:Hp),dY 1 [D.pl (Value.slice none 0 0)] [(0,szV s)] H=some ([szD s],H):=fun s H=>IT ..
  have cR:(a.map fun r=>szD (erD p n qf r)).length=a.length*acR.n:=by simp [acR]
  have dp:∀ x y:Nat × Bk,([x]:Hp).set acR.s y=[y]:=fun x y=>rfl
  have hre:∀ x:Hp,x.length=1->aE [] 0 h0 x=x:=fun x hx=>cQ 0 h0 x aa
  have ev:∀ c,acR.v (a.length+1) c=.ref acR.s (acR.e+1) 0 (a.length+1) (a.length+1) c.length:=fun c=>rfl
  have eb:∀ c,acR.b (a.length+1) c=(acR.e+1,.data acR.n c false false):=fun c=>rfl
  have ih:=xO hN hE k h0 hh q (a++[r]) (by simpa using ha) hk;refine ax ?_;simp (disch:=try exact ac)[jq,i1,i2,g1];refine cd de ?_;simp (disch:=try exact ac)[li1];refine oV acR (k:=1) aa rfl cR (by rfl) rfl (fun t e=>by cases e) aa ae ?_
  simp (disch:=try exact ac)[dp,hre,clean,eM,mz,mt,dM,jj];refine ⟨rfl,?_⟩;simpa [ev,eb,erD] using ih
theorem Mc {p:List Int} {n:Nat} {l:List (List Int)} {qf:List Int->Int} (hp:p.length<1000000) (hN:l.length<=60) (hc:dvC p n=0) (hm:∀ r∈l,mzB p [r]=0) (hE:∀ r∈l,tM p n r (qf r)):CP Y F.fS [lst di p,I n,mat l] (.tup [lst szD (l.map (erD p n qf)),I 0]):=by
 refine vU ?_;have l1:aA (mat l)=some (I l.length):=rfl;have dc:=Da (p:=p) (n:=(n:Int)) hp;rw [hc] at dc;have ck:=nP (p:=p) (m:=l) hp aa;rw [vZ hN hm] at ck
 have hl:=xO aa hE (exK [((.exit 0),fun l2 h=>out (.tup [lst szD (l.map (erD p n qf)),I 0]) (.tup [(ge l2 0),(.d (.int .i64 0))]) h),(.ret,fun l2 h=>out (.tup [lst szD (l.map (erD p n qf)),I 0]) (.tup [(ge l2 0),(ge l2 1)]) h)]) [(0,.none)] rfl l [] rfl (by
  obtain ⟨h',q1,_⟩:=oM acR (L:=l.length) (cells:=l.map fun r=>szD (erD p n qf r)) (h:=[acR.b l.length (l.map fun r=>szD (erD p n qf r))]) rfl (by simp [acR]);simp only [exK];have e:lst szD (l.map (erD p n qf))=.d (.sl l.length (l.map fun r=>szD (erD p n qf r))):=by simp [lst]
  rw [e];exact aB q1 rfl)
 simp (disch:=try exact ac)[fS];refine cd dc ?_;simp (disch:=try exact ac)[];refine cd ck ?_;simp (disch:=try exact ac)[l1];exact hl
theorem OG (a b:Int):biS .neq (S (itoa a)) (S (itoa b))=some (B (decide (a≠b))):=by
 have:(itoa a == itoa b)=decide (a=b):=by
  rw [Yn];simp only [beq_iff_eq,decide_eq_true_eq];exact ⟨fun h=>vA h,fun h=>by rw [h]⟩
 simp only [biS,zE,bne,this];simp
theorem Ob {z:Int} (h1 : -1000000000000000000<z) (h2:z<1000000000000000000):ndg z.natAbs<999999:=by
 have:=bv (n:=z.natAbs) (d:=18) (by show _<10 ^ 18;omega) ae;omega
abbrev Rw:=List Int
def Ps (qf:Rw->Int) (i j:Nat) (a b:Rw):Nat->List Rw->Option (Nat × Nat × Nat)
 | _,[]=>none
 | m,c::q=>if wE a b c=true∧qf a+qf b≠qf c then some (i,j,m) else Ps qf i j a b (m+1) q
def Pt (qf:Rw->Int) (l:List Rw) (i:Nat) (a:Rw):Nat->List Rw->Option (Nat × Nat × Nat)
 | _,[]=>none
 | j,b::q=>match Ps qf i j a b 0 l with
  | some t=>some t
  | none=>Pt qf l i a (j+1) q
def EL (qf:Rw->Int) (l:List Rw):Nat->List Rw->Option (Nat × Nat × Nat)
 | _,[]=>none
 | i,a::q=>match Pt qf l i a 0 l with
  | some t=>some t
  | none=>EL qf l (i+1) q
def cnH (t:Nat × Nat × Nat):Hp:=[(1,.vars [I t.1,I t.2.1,I t.2.2])]
def cnV:Option (Nat × Nat × Nat)->V
 | some t=>.tup [B false,.agg [I t.1,I t.2.1,I t.2.2],I 0]
 | none=>.tup [B true,.agg [I 0,I 0,I 0],I 0]
structure R2 (p:List Int) (n:Nat) (l:List Rw) (qf:Rw->Int):Prop where
 hN:l.length<=60
 hE:∀ r∈l,tM p n r (qf r)
theorem Pp {p:List Int} {n:Nat} {l:List Rw} {qf:Rw->Int} (H:R2 p n l qf) {i j:Nat} {a b:Rw} (hi:i<l.length) (hj:j<l.length) (ha:nth [] l i=a) (hb:nth [] l j=b) (k:KL) (h0:Hp) (hh:h0.length=1):∀ (q c:List Rw),c++q=l ->
  (Ps qf i j a b c.length q=none->k (.exit 4) [] (cnH (0,0,0)))->(∀ t,Ps qf i j a b c.length q=some t->k .ret [B false,I 0] (cnH t)) ->
  lp (gm (CX Y) (.ptr 0 1 0 3) (lst ztD (l.map qf)) (I i) (lst di a) (I j) (lst di b) (mat l) (I l.length)) [] h0 [I c.length] (cnH (0,0,0)) k
 | [],c,hc,h1,h2=>by
  simp at hc;subst hc;refine ax ?_;simp (disch:=try exact ac)[gm];exact h1 rfl
 | r::q,c,hc,h1,h2=>by
  have hcl:c.length<l.length:=by subst hc;simp
  have hr:nth [] l c.length=r:=by subst hc;simp
  have mem:∀ x,x<l.length->nth [] l x∈l:=fun x hx=>by rw [f9 [] l x hx];exact Xg hx
  have Ea:=H.hE a (ha ▸ mem i hi);have Eb:=H.hE b (hb ▸ mem j hj);have Er:=H.hE r (by rw [<- hc];simp);have ds:=Q9 (s:=a) (t:=b) (u:=r) (by have:=Ea.hN;have:=Ea.lr;omega) Ea.sr Eb.sr (by rw [Ea.lr,Eb.lr]) (by rw [Ea.lr,Er.lr]);have i1:=fun h=>dO row l h (k:=.i64) (i:=(c.length:Int)) aa aa
  have i2:=fun h=>eU row [] l h (j:=c.length) hcl
  rw [hr] at i2;simp only [Int.toNat_natCast] at i1;have hlen:=H.hN
  have x1:∀ (h:Hp) (x:Nat),x<l.length->ixV h 1 (lst ztD (l.map qf)) (I (x:Int))=some (.dptr ((l.map qf).map ztD) x):=fun h x hx=>by
   have:=dO ztD (l.map qf) h (k:=.i64) (i:=(x:Int)) aa am;simpa only [Int.toNat_natCast] using this
  have x2:∀ (h:Hp) (x:Nat),x<l.length->ld1 h (.dptr ((l.map qf).map ztD) x)=some (S (itoa (qf (nth [] l x)))):=fun h x hx=>by
   have:=eU ztD 0 (l.map qf) h (j:=x) (by simpa using hx);rw [f9 0 (l.map qf) x (by simpa using hx),List.getElem_map,<- f9 [] l x hx] at this;exact this
  have xi1:=fun h=>x1 h i hi
  have xi2:=fun h=>x2 h i hi
  have xj1:=fun h=>x1 h j hj
  have xj2:=fun h=>x2 h j hj
  have xc1:=fun h=>x1 h c.length hcl
  have xc2:=fun h=>x2 h c.length hcl
  rw [ha] at xi2;rw [hb] at xj2;rw [hr] at xc2;obtain ⟨ks,hks⟩:∃ ks,ks=l.map qf:=⟨_,rfl⟩;rw [<- hks] at xi1 xi2 xj1 xj2 xc1 xc2 ⊢;have wa:=rH (z:=qf a) (w:=qf b) (Ob Ea.q1 Ea.q2) (Ob Eb.q1 Eb.q2);have g1:(c.length:Int)<(l.length:Int):=aa;simp only [Ps] at h1 h2;have ih:=Pp H hi hj ha hb k h0 hh q (c++[r]) (by simpa using hc);rw [<- hks] at ih;refine ax ?_
  simp (disch:=try exact ac)[gm,i1,i2,g1];refine cd ds ?_;have ne:=OG (qf a+qf b) (qf r);have hre:aE [] 0 h0 (cnH (0,0,0))=cnH (0,0,0):=cQ 0 h0 _ (by simp [cnH];omega)
  have hst:stX (iM (cnH (0,0,0)) 0 1) (cnH (0,0,0)) 0 1 0 3 [V.d (D.int IntKind.i64 ↑i),V.d (D.int IntKind.i64 ↑j),V.d (D.int IntKind.i64 ↑c.length)]=some (cnH (i,j,c.length)):=rfl;by_cases hs:wE a b r=true
  ·rw [hs] at ds h1 h2 ⊢;simp (disch:=try exact ac)[xi1,xi2,xj1,xj2,xc1,xc2];refine cd wa ?_;by_cases he:qf a+qf b=qf r
   ·rw [if_neg (by simp [he])] at h1 h2;have ih':=ih (by simpa using h1) (by simpa using h2);simp (disch:=try exact ac)[xi1,xi2,xj1,xj2,xc1,xc2,ne,he,hre];simpa using ih'
   ·rw [if_pos ⟨rfl,he⟩] at h2;simp (disch:=try exact ac)[xi1,xi2,xj1,xj2,xc1,xc2,ne,he,hst];exact h2 _ rfl
  ·have hs':wE a b r=false:=by simpa using hs
   rw [if_neg (by simp [hs'])] at h1 h2;have ih':=ih (by simpa using h1) (by simpa using h2);rw [hs'] at ds ⊢;simp (disch:=try exact ac)[hre];simpa using ih'
theorem Pq {p:List Int} {n:Nat} {l:List Rw} {qf:Rw->Int} (H:R2 p n l qf) {i:Nat} {a:Rw} (hi:i<l.length) (ha:nth [] l i=a) (k:KL) (h0:Hp) (hh:h0.length=1):∀ (q c:List Rw),c++q=l ->
  (Pt qf l i a c.length q=none->k (.exit 2) [] (cnH (0,0,0)))->(∀ t,Pt qf l i a c.length q=some t->k .ret [B false,I 0] (cnH t)) ->
  lp (gn (CX Y) (mat l) (.ptr 0 1 0 3) (lst ztD (l.map qf)) (I i) (lst di a) (mat l) (I l.length)) [] h0 [I c.length] (cnH (0,0,0)) k
 | [],c,hc,h1,h2=>by
  simp at hc;subst hc;refine ax ?_;simp (disch:=try exact ac)[gn];exact h1 rfl
 | r::q,c,hc,h1,h2=>by
  have hcl:c.length<l.length:=by subst hc;simp
  have hr:nth [] l c.length=r:=by subst hc;simp
  have i1:=fun h=>dO row l h (k:=.i64) (i:=(c.length:Int)) aa aa
  have i2:=fun h=>eU row [] l h (j:=c.length) hcl
  rw [hr] at i2;simp only [Int.toNat_natCast] at i1;have hlen:=H.hN;have g1:(c.length:Int)<(l.length:Int):=aa;have l1:aA (mat l)=some (I l.length):=rfl;have hre:aE [] 0 h0 (cnH (0,0,0))=cnH (0,0,0):=cQ 0 h0 _ (by simp [cnH];omega);have hre2:∀ t,aE [] 0 h0 (cnH t)=cnH t:=fun t=>cQ 0 h0 _ (by simp [cnH];omega)
  simp only [Pt] at h1 h2;have ih:=Pq H hi ha k h0 hh q (c++[r]) (by simpa using hc);have lp2:=fun k h1 h2=>Pp H hi hcl ha hr k (cnH (0,0,0)) rfl l [] rfl h1 h2
  obtain ⟨ks,hks⟩:∃ ks,ks=l.map qf:=⟨_,rfl⟩;rw [<- hks] at ih lp2 ⊢;refine ax ?_;simp (disch:=try exact ac)[gn,i1,i2,g1,l1];refine lo (lp2 _ (fun g=>?_) (fun t g=>?_))
  ·simp only [List.length_nil] at g;rw [g] at h1 h2;have ih':=ih (by simpa using h1) (by simpa using h2);simp (disch:=try exact ac)[hre];simpa using ih'
  ·simp only [List.length_nil] at g;rw [g] at h2;have:=h2 t rfl;simp (disch:=try exact ac)[hre2];exact this
theorem Pr {p:List Int} {n:Nat} {l:List Rw} {qf:Rw->Int} (H:R2 p n l qf) (k:KL) (h0:Hp) (hh:h0.length=1):∀ (q c:List Rw),c++q=l ->
  (EL qf l c.length q=none->k (.exit 0) [] (cnH (0,0,0)))->(∀ t,EL qf l c.length q=some t->k .ret [B false,I 0] (cnH t)) ->
  lp (gr (CX Y) (mat l) (.ptr 0 1 0 3) (lst ztD (l.map qf)) (mat l) (I l.length)) [] h0 [I c.length] (cnH (0,0,0)) k
 | [],c,hc,h1,h2=>by
  simp at hc;subst hc;refine ax ?_;simp (disch:=try exact ac)[gr];exact h1 rfl
 | r::q,c,hc,h1,h2=>by
  have hcl:c.length<l.length:=by subst hc;simp
  have hr:nth [] l c.length=r:=by subst hc;simp
  have i1:=fun h=>dO row l h (k:=.i64) (i:=(c.length:Int)) aa aa
  have i2:=fun h=>eU row [] l h (j:=c.length) hcl
  rw [hr] at i2;simp only [Int.toNat_natCast] at i1;have hlen:=H.hN;have g1:(c.length:Int)<(l.length:Int):=aa;have l1:aA (mat l)=some (I l.length):=rfl;have hre:∀ t,aE [] 0 h0 (cnH t)=cnH t:=fun t=>cQ 0 h0 _ (by simp [cnH];omega)
  simp only [EL] at h1 h2;have ih:=Pr H k h0 hh q (c++[r]) (by simpa using hc);have lp2:=fun k h1 h2=>Pq H hcl hr k (cnH (0,0,0)) rfl l [] rfl h1 h2
  obtain ⟨ks,hks⟩:∃ ks,ks=l.map qf:=⟨_,rfl⟩;rw [<- hks] at ih lp2 ⊢;refine ax ?_;simp (disch:=try exact ac)[gr,i1,i2,g1,l1];refine lo (lp2 _ (fun g=>?_) (fun t g=>?_))
  ·simp only [List.length_nil] at g;rw [g] at h1 h2;have ih':=ih (by simpa using h1) (by simpa using h2);simp (disch:=try exact ac)[hre];simpa using ih'
  ·simp only [List.length_nil] at g;rw [g] at h2;have:=h2 t rfl;simp (disch:=try exact ac)[hre];exact this
theorem tV {p:List Int} {n:Nat} {l:List Rw} {qf:Rw->Int} (hp:p.length<1000000) (hc:dvC p n=0) (hm:∀ r∈l,mzB p [r]=0) (H:R2 p n l qf):CP Y F.bW [lst di p,I n,mat l] (cnV (EL qf l 0 l)):=by
 refine qY ?_;have l1:aA (mat l)=some (I l.length):=rfl;have hN:=H.hN;have dc:=Da (p:=p) (n:=(n:Int)) hp;rw [hc] at dc;have ck:=nP (p:=p) (m:=l) hp aa;rw [vZ hN hm] at ck;have co:=Mi aa H.hE;simp (disch:=try exact ac)[bW];refine cd dc ?_;simp (disch:=try exact ac)[];refine cd ck ?_
 simp (disch:=try exact ac)[];refine cd co ?_;simp (disch:=try exact ac)[l1];refine lo (Pr H _ (cnH (0,0,0)) rfl l [] rfl (fun g=>?_) (fun t g=>?_))
 ·simp only [List.length_nil] at g;rw [g];simp (disch:=try exact ac)[cnH,cnV];exact ⟨[(1,.vars [I 0,I 0,I 0])],by simp [aI,aj]⟩
 ·simp only [List.length_nil] at g;rw [g];simp (disch:=try exact ac)[cnH,cnV];exact ⟨[(1,.vars [I t.1,I t.2.1,I t.2.2])],by simp [aI,aj]⟩
def TC (p:List Int) (a b:List Q):Int:=
 if jQ (iu (0,1) a b) a b=true then (iu (0,1) a b).1 / ((iu (0,1) a b).2:Int)
 else match D4 (tq p a) (tq p b) (fC 1 a) (fC 1 b) with
  | some q=>q
  | none=>(Ex (tq p a) (tq p b) (fC 1 a) (fC 1 b) 6 64).getD 0
theorem Q0 {p:List Int} {a b:List Q} {q:Int} (h:AT p a b q):TC p a b=q:=by
 unfold TC;rcases h with ⟨h1,h2⟩ | ⟨h1,_,_,_,_,h2⟩
 ·rw [if_pos h1,h2]
 ·rw [if_neg (by simp [h1])];rcases h2 with ⟨h3,_⟩ | ⟨h3,_,_,_,h4⟩
  ·rw [h3]
  ·rw [h3,h4];rfl
def sgV (p:List Int) (s:List Q):Int:=(uT (tq p s)).getD 0
theorem DX {p:List Int} {s:List Q} {z:Int} (h:rT p s z):sgV p s=z:=by
 unfold sgV;rw [h.2.2];rfl
def kV (p:List Int) (n:Nat) (r:List Int):Int:=TC p (yd p (ofQ r) (eW p n)) (uh p (eW p n))
theorem An {p r:List Int} {n:Nat} {q:Int} (E:tM p n r q):kV p n r=q:=Q0 E.fl
def dk (p:List Int) (n:Nat) (r:List Int):List Q:=lU p n r (kV p n r) (sgV p (lN p n (kV p n r) (ofQ r)))
def sF (p r:List Int) (n m:Nat):Bool:=decide (sgV p (dfS p (dk p n r) (dk p m r))<0)
theorem Ac {f g:Nat->Nat->Bool} {lim:Nat} (h:∀ n m,1<=m->m<n->n<=lim->f n m=g n m):∀ k n m,n+k<=lim+1->m<n->gU f k n m=gU g k n m
 | 0,_,_,_,_=>rfl
 | k+1,n,m,h1,h2=>by
  simp only [gU]
  have e:(m=0∨f n m=true)=(m=0∨g n m=true):=by
   by_cases hm:m=0
   ·simp [hm]
   ·rw [h n m aa h2 aa]
  simp only [e];split
  ·rw [Ac h k (n+1) n aa aa]
  ·exact Ac h k (n+1) m aa aa
theorem xI {p r:List Int} {lim:Nat} {qf zf:Nat->Int} {ls:Nat->Nat->Bool} (R:RY p r lim qf zf ls):gU ls lim 1 0=gU (sF p r) lim 1 0:=by
 refine Ac (lim:=lim) (fun n m h1 h2 h3=>?_) lim 1 0 aa aa
 have a1:∀ n,1<=n->n<=lim->dk p n r=lU p n r (qf n) (zf n):=fun n h1 h2=>by
  unfold dk;rw [An (R.er n h1 h2),DX (R.sg n h1 h2).1]
 obtain ⟨z,z1,z2⟩:=R.cm n m h1 h2 h3;unfold sF;rw [a1 n aa h3,a1 m h1 aa,DX z1,z2]
theorem TH:gU (sF [2,3,5] [-1,1,0]) 60 1 0=[1,2,3,5,7,12,29,41,53]:=aM
theorem TI:lN [2,3,5] 12 (kV [2,3,5] 12 [-1,1,0]) (ofQ [-1,1,0])=[(19,12),(-1,1),(0,1)]:=aM
theorem TJ:EL (kV [2,3,5] 4) [[-1,1,0],[-2,2,0]] 0 [[-1,1,0],[-2,2,0]]=some (0,0,1):=aM
theorem Q6:EL (kV [2,3,5] 12) [[-1,1,0],[-2,0,1],[-3,1,1]] 0 [[-1,1,0],[-2,0,1],[-3,1,1]]=none:=aM
theorem Md {p r:List Int} {n:Nat} (hpc:pcB p=0) (hp:in6 p) (hl:0<p.length) (h0:0<n) (h1:n<=10000) (lr:r.length=p.length) (hr:∀ x∈r,x.natAbs<=9):tM p n r (kV p n r):=by
 obtain ⟨q,E,_⟩:=er6 hpc hp hl h0 h1 lr hr;rw [An E];exact E
def pEx:List Int:=[2,3,5]
theorem uo:pcB pEx=0:=aM
theorem uq:in6 pEx:=by unfold in6;decide
theorem Mb:CP Y F.fS [lst di pEx,I (12:Nat),mat [[-1,1,0]]] (.tup [lst szD [[(19,12),(-1,1),(0,1)]],I 0]):=by
 have h:=Mc (p:=pEx) (n:=12) (l:=[[-1,1,0]]) (qf:=kV pEx 12) ae ae aM aM (fun r hr=>by
  simp only [Zt,Zd,or_false] at hr;subst hr;exact Md uo uq ae ae ae rfl ae)
 have e:List.map (erD pEx 12 (kV pEx 12)) [[-1,1,0]]=[[(19,12),(-1,1),(0,1)]]:=by
  show [erD pEx 12 (kV pEx 12) [-1,1,0]]=_
  rw [show erD pEx 12 (kV pEx 12) [-1,1,0]=_ from TI]
 rw [e] at h;exact h
theorem I9:CP Y F.dZ [lst di pEx,lst di [-1,1,0],I (60:Nat)] (.tup [lst di [1,2,3,5,7,12,29,41,53],I 0]):=by
 obtain ⟨qf,zf,ls,R⟩:=rc6 (p:=pEx) (r:=[-1,1,0]) (lim:=60) uo uq ae ae rfl ae;have h:=z8 R ae ae;rw [xI R,show gU (sF pEx [-1,1,0]) 60 1 0=_ from TH] at h;exact h
theorem Q5:CP Y F.bW [lst di pEx,I (4:Nat),mat [[-1,1,0],[-2,2,0]]] (cnV (some (0,0,1))):=by
 have h:=tV (p:=pEx) (n:=4) (l:=[[-1,1,0],[-2,2,0]]) (qf:=kV pEx 4) ae aM aM ⟨ae,fun r hr=>by
  simp only [Zt,Zd,or_false] at hr;rcases hr with rfl | rfl
  ·exact Md uo uq ae ae ae rfl ae
  ·exact Md uo uq ae ae ae rfl ae⟩
 rw [show EL (kV pEx 4) [[-1,1,0],[-2,2,0]] 0 [[-1,1,0],[-2,2,0]]=_ from TJ] at h;exact h
theorem O0:CP Y F.bW [lst di pEx,I (12:Nat),mat [[-1,1,0],[-2,0,1],[-3,1,1]]] (cnV none):=by
 have h:=tV (p:=pEx) (n:=12) (l:=[[-1,1,0],[-2,0,1],[-3,1,1]]) (qf:=kV pEx 12) ae aM aM ⟨ae,fun r hr=>by
  simp only [Zt,Zd,or_false] at hr;rcases hr with rfl | rfl | rfl
  ·exact Md uo uq ae ae ae rfl ae
  ·exact Md uo uq ae ae ae rfl ae
  ·exact Md uo uq ae ae ae rfl ae⟩
 rw [show EL (kV pEx 12) [[-1,1,0],[-2,0,1],[-3,1,1]] 0 [[-1,1,0],[-2,0,1],[-3,1,1]]=_ from Q6] at h;exact h
theorem ko:CP Y F.bR [] (B true):=by
 refine rY ?_;have hl3:∀ (a b c:Int) (H:Hp),dY 3 [D.int IntKind.i64 0] [(0,V.d (D.int IntKind.i64 a)),(1,V.d (D.int IntKind.i64 b)),(2,V.d (D.int IntKind.i64 c))] H=some ([di a,di b,di c],H):=fun a b c H=>by simp [dY,gT,jw,toD,di]
 have lm1:=fun n l H=>IT n l H
 have lm2:=fun n l n' l' H=>LN n l n' l' H
 have lm3:∀ (n:Nat) (l:List D) (n':Nat) (l':List D) (n'':Nat) (l'':List D) (H:Hp),dY 3 [D.pl (Value.slice none 0 0)] [(0,.d (.sl n l)),(1,.d (.sl n' l')),(2,.d (.sl n'' l''))] H=some ([.sl n l,.sl n' l',.sl n'' l''],H):=fun n l n' l' n'' l'' H=>by simp [dY,gT,jw,toD]
 have lq3:∀ (x y z:Q) (H:Hp),dY 3 [D.str [],D.str []] [(0,.agg (qT x)),(1,.agg (qT y)),(2,.agg (qT z))] H=some (aU (tx x)++aU (tx y)++aU (tx z),H):=fun x y z H=>by simp [dY,gT,jw,toD,qT,aU,tx]
 have ee:=Mb;simp (disch:=try exact ac)[bR,hl3,lm1,lm2,lm3];refine cd ee ?_;simp (disch:=try exact ac)[hl3,lm1,lm2,lm3];refine cd I9 ?_;simp (disch:=try exact ac)[hl3,lm1,lm2,lm3];refine cd Q5 ?_;simp (disch:=try exact ac)[hl3,lm1,lm2,lm3,cnV];refine cd O0 ?_
 have le1:aA (lst szD [[(19,12),(-1,1),(0,1)]])=some (I 1):=rfl;have ix1:∀ h,ixV h 1 (lst szD [[(19,12),(-1,1),(0,1)]]) (I 0)=some (.dptr [szD [(19,12),(-1,1),(0,1)]] 0):=fun h=>dO szD [[(19,12),(-1,1),(0,1)]] h (k:=.i64) (i:=0) ae ae
 have n1:=vq (z:=19) (n:=12) ae ae ae ae ae;have n2:=vq (z:=-1) (n:=1) ae ae ae ae ae;have n3:=vq (z:=0) (n:=1) ae ae ae ae ae;have eq:=C3 (s:=[(19,12),(-1,1),(0,1)]) (t:=[(19,12),(-1,1),(0,1)]) ae;rw [decide_eq_true rfl] at eq
 simp (disch:=try exact ac)[cnV,le1,ix1];refine cd n1 ?_;simp (disch:=try exact ac)[];refine cd n2 ?_;simp (disch:=try exact ac)[];refine cd n3 ?_;simp (disch:=try exact ac)[lq3];refine cd eq ?_ (by simp [aj,aI,szD,N5])
 have hl9:∀ (a b c d e f g i j:Int) (H:Hp),dY 9 [D.int IntKind.i64 0] [(0,V.d (D.int IntKind.i64 a)),(1,V.d (D.int IntKind.i64 b)),(2,V.d (D.int IntKind.i64 c)),(3,V.d (D.int IntKind.i64 d)),(4,V.d (D.int IntKind.i64 e)),(5,V.d (D.int IntKind.i64 f)),(6,V.d (D.int IntKind.i64 g)),(7,V.d (D.int IntKind.i64 i)),(8,V.d (D.int IntKind.i64 j))] H=some ([di a,di b,di c,di d,di e,di f,di g,di i,di j],H):=fun a b c d e f g i j H=>by simp [dY,gT,jw,toD,di]
 have si:=F6 (s:=[1,2,3,5,7,12,29,41,53]) (t:=[1,2,3,5,7,12,29,41,53]) ae;rw [decide_eq_true rfl] at si;simp (disch:=try exact ac)[hl9];refine cd si ?_;have ba:biA [D.int IntKind.i64 0,D.int IntKind.i64 0,D.int IntKind.i64 0] BinOp.eql (V.agg [I 0,I 0,I 1]) (V.agg [V.d (D.int IntKind.i64 0),V.d (D.int IntKind.i64 0),V.d (D.int IntKind.i64 1)])=some (B true):=rfl
 simp (disch:=try exact ac)[ba]
def YQ:List (List Int):=[[2,3,5],[2,3],[2,3,5,7],[2,3,7],[3,5,7],[2],[2,5,7],[2,3,11],[2,3,5,13],[2,3,7,11]]
def p13 (k:Nat):List Int:=YQ.getD (k % 10) []
def upI (x:Int->Int) (p:Int):Int:=if p=2 then x p else x p+1
def ku (x:Int->Int):List (Int × Int)->Int × Int->Int × Int
 | [],a=>a
 | t::ts,a=>ku x ts (if t.2<0 then (a.1+upI x t.1*t.2,a.2+x t.1*t.2) else (a.1+x t.1*t.2,a.2+upI x t.1*t.2))
theorem EC (n:Nat):∀ (ts:List (Int × Int)) (a:Int × Int),aQ n ts a=ku (lgI n) ts a
 | [],a=>rfl
 | t::ts,a=>by
  simp only [aQ,ku,upI,lgI];exact EC n ts _
def fxI (p:Int):Int:=((sI p.toNat).getD 0:Nat)
theorem AY {most:Int}:∀ (ts:List (Int × Int)) (a r:Int × Int),fx most ts a=some r->r=ku fxI ts a
 | [],a,r,h=>by
  simp only [fx,Z9] at h;exact h.symm
 | t::ts,a,r,h=>by
  simp only [fx] at h;split at h
  ·cases h
  ·split at h
   ·cases h
   ·rename_i f hf;have hx:fxI t.1=(f:Int):=by unfold fxI;rw [hf];rfl
    have ih:=AY ts _ r h;rw [ih,ku];congr 1;unfold upI;rw [hx];obtain ⟨b,hb⟩:∃ b:Int,b=if t.1=2 then (f:Int) else f+1:=⟨_,rfl⟩
    rw [<- hb];have hfb:(f:Int)<=b:=by rw [hb];split <;> omega
    by_cases hn:t.2<0
    ·rw [if_pos hn];have:t.2*b<=t.2*f:=Int.mul_le_mul_of_nonpos_left aa hfb;rw [Int.min_eq_right this,Int.max_eq_left this,Yz b,Yz (f:Int)]
    ·rw [if_neg hn];have:t.2*f<=t.2*b:=Yu hfb aa;rw [Int.min_eq_left this,Int.max_eq_right this,Yz b,Yz (f:Int)]
theorem tB {x:Int->Int}:∀ (ts:List (Int × Int)) (a:Int × Int),ku x ts a=(a.1+(ku x ts (0,0)).1,a.2+(ku x ts (0,0)).2)
 | [],a=>by simp [ku]
 | t::ts,a=>by
  simp only [ku];split
  ·rw [tB ts,tB ts (0+_,0+_)];simp only [Xh,V9]
  ·rw [tB ts,tB ts (0+_,0+_)];simp only [Xh,V9]
theorem AX {x x':Int->Int} {K:Int} (hK:0<=K):∀ ts:List (Int × Int),(∀ t∈ts,x t.1*K<=x' t.1∧upI x' t.1<=upI x t.1*K)->(ku x ts (0,0)).1*K<=(ku x' ts (0,0)).1∧(ku x' ts (0,0)).2<=(ku x ts (0,0)).2*K
 | [],_=>by simp [ku]
 | t::ts,h=>by
  obtain ⟨h1,h2⟩:=h t af;obtain ⟨i1,i2⟩:=AX hK ts fun u hu=>h u (by simp [hu])
  simp only [ku];rw [tB ts,tB (x:=x') ts];by_cases hn:t.2<0
  ·rw [if_pos hn,if_pos hn];simp only [Xh,Xv];have m1:=Int.mul_le_mul_of_nonpos_right h2 (by omega:t.2<=0);have m2:=Int.mul_le_mul_of_nonpos_right h1 (by omega:t.2<=0);rw [Za] at m1 m2;constructor <;> omega
  ·rw [if_neg hn,if_neg hn];simp only [Xh,Xv];have m1:=Zs h1 (by omega:0<=t.2);have m2:=Zs h2 (by omega:0<=t.2);rw [Za] at m1 m2;constructor <;> omega
def IG (x:Int->Int) (K:Nat) (p:Int):Bool:=decide (x p*K<=lgI 512 p) && decide (upI (lgI 512) p<=upI x p*K)
theorem EP:∀ p∈c6P,IG fxI (2 ^ 486) p=true∧IG (lgI 64) (2 ^ 448) p=true∧IG (lgI 128) (2 ^ 384) p=true∧IG (lgI 256) (2 ^ 256) p=true:=aM
theorem N4 {x:Int->Int} {K:Nat} {ts:List (Int × Int)} (h:∀ t∈ts,IG x K t.1=true):(ku x ts (0,0)).1*K<=(ku (lgI 512) ts (0,0)).1∧(ku (lgI 512) ts (0,0)).2<=(ku x ts (0,0)).2*K:=by
 refine AX aa ts fun t ht=>?_
 have:=h t ht;simp only [IG,Z7,decide_eq_true_eq] at this;exact this
theorem EI {x:Int->Int} {K:Nat} {ts:List (Int × Int)} (h:∀ t∈ts,IG x K t.1=true) (hT:jv (lgI 512) ts≠0) :
  (0<=(ku x ts (0,0)).1->(jv (lgI 512) ts).sign=1)∧((ku x ts (0,0)).2<=0->(jv (lgI 512) ts).sign = -1):=by
 obtain ⟨n1,n2⟩:=N4 h;obtain ⟨g1,g2,_⟩:=oF 512 ts;rw [EC] at g1 g2;refine ⟨fun h0=>?_,fun h0=>?_⟩
 ·have:=V0 h0 (by omega:(0:Int)<=K);exact Yr aa
 ·have:=V0 (a:=-(ku x ts (0,0)).2) (b:=(K:Int)) aa aa;rw [Wx] at this;exact Y5 aa
theorem Rf {ts:List (Int × Int)} (hT:jv (lgI 512) ts≠0) :
  (0<=(aQ 512 ts (0,0)).1->(jv (lgI 512) ts).sign=1)∧((aQ 512 ts (0,0)).2<=0->(jv (lgI 512) ts).sign = -1):=by
 obtain ⟨g1,g2,_⟩:=oF 512 ts;exact ⟨fun h0=>Yr aa,fun h0=>Y5 aa⟩
theorem Qh {ts:List (Int × Int)} (hm:∀ t∈ts,t.1∈c6P) (hn:(ts.map Prod.fst).Nodup) (h0:∀ t∈ts,t.2≠0) (hl:ts.length<=6) (hb:∀ t∈ts,t.2.natAbs<9223372036854775808):uT ts=some (jv (lgI 512) ts).sign:=by
 cases ts with
 | nil=>rfl
 | cons t l=>
  obtain ⟨ts,hts⟩:∃ ts,ts=t::l:=⟨_,rfl⟩;have hne:ts≠[]:=by rw [hts];simp
  rw [<- hts] at hm hn h0 hl hb ⊢;have h1:=uO (C:=9223372036854775808) ts fun t ht=>V4 (hb t ht)
  have h2:ts.length*9223372036854775808<=6*9223372036854775808:=Z3 _ hl;have hb1:du ts<=73786976294838206464:=aa
  have hT:jv (lgI 512) ts≠0:=by
   intro e;have hz:=wY (n:=512) zb rfl KQ hm hb1 (by rw [e];simp);rw [hts] at hz hm hn h0;have:=hz t.1 (hm t af);simp only [Zz,W8] at hn;rw [cfT,if_pos rfl,y9 l hn.1] at this;exact h0 t af aa
  have dec:=JL (n:=512) zb rfl KQ hm hn h0 hb1 hb1 hne;obtain ⟨f1,f2⟩:=EI (x:=fxI) (K:=2 ^ 486) (fun t ht=>(EP _ (hm t ht)).1) hT;have e:uT ts=if kQ ts≠0 then some (kQ ts) else wK ts 6 64:=by rw [hts];rfl
  rw [e];by_cases hq:kQ ts≠0
  ·rw [if_pos hq];unfold kQ at hq ⊢;split at hq
   ·exact absurd rfl hq
   ·rename_i a ha;have ea:=AY _ _ _ ha;rw [<- ea] at f1 f2;by_cases c1:0<=a.1
    ·rw [if_pos c1,f1 c1]
    ·rw [if_neg c1];rw [if_neg c1] at hq;by_cases c2:a.2<=0
     ·rw [if_pos c2,f2 c2]
     ·rw [if_neg c2] at hq;exact absurd rfl hq
  ·rw [if_neg hq]
   have step:∀ (r n:Nat) (nx:Option Int),(0<=(aQ n ts (0,0)).1->(jv (lgI 512) ts).sign=1)->((aQ n ts (0,0)).2<=0->(jv (lgI 512) ts).sign = -1)->(wK ts r (n*2)=some (jv (lgI 512) ts).sign∨(0<=(aQ n ts (0,0)).1∨(aQ n ts (0,0)).2<=0))->wK ts (r+1) n=some (jv (lgI 512) ts).sign:=by
    intro r n nx a1 a2 a3;unfold wK;by_cases c1:0<=(aQ n ts (0,0)).1
    ·rw [if_pos c1,a1 c1]
    ·rw [if_neg c1];by_cases c2:(aQ n ts (0,0)).2<=0
     ·rw [if_pos c2,a2 c2]
     ·rw [if_neg c2];rcases a3 with h | h | h
      ·exact h
      ·exact absurd h c1
      ·exact absurd h c2
   have l64:=EI (x:=lgI 64) (K:=2 ^ 448) (fun t ht=>(EP _ (hm t ht)).2.1) hT;have l128:=EI (x:=lgI 128) (K:=2 ^ 384) (fun t ht=>(EP _ (hm t ht)).2.2.1) hT;have l256:=EI (x:=lgI 256) (K:=2 ^ 256) (fun t ht=>(EP _ (hm t ht)).2.2.2) hT;rw [<- EC] at l64 l128 l256;have l512:=Rf hT
   exact step 5 64 none l64.1 l64.2 (.inl (step 4 128 none l128.1 l128.2 (.inl (step 3 256 none l256.1 l256.2 (.inl (step 2 512 none l512.1 l512.2 (.inr dec)))))))
def rpl (b:Nat):List Q->List Int->Prop
 | x::s,a::r=>rp b x a∧rpl b s r
 | [],[]=>True
 | _,_=>False
def rI (z:Int):List Int->List Int->List Int
 | a::r,c::t=>(a+z*c)::rI z r t
 | _,_=>[]
theorem yF {b:Nat}:∀ {s:List Q} {r:List Int},rpl b s r->r.length=s.length
 | [],[],_=>rfl
 | x::s,a::r,h=>by simp [yF h.2]
 | [],_::_,h=>h.elim
 | _::_,[],h=>h.elim
theorem uW {b:Nat} (z:Int):∀ {o s:List Q} {r t:List Int},o.length=s.length->rpl b o r->rpl b s t->rpl b (kL (z,1) o s) (rI z r t)
 | [],[],[],[],_,_,_=>trivial
 | x::o,y::s,a::r,c::t,hl,h1,h2=>by
  simp only [kL,rI];exact ⟨Ip h1.1 (D2 z h2.1),uW z (by simpa using hl) h1.2 h2.2⟩
 | [],_::_,_,_,hl,_,_=>by simp at hl
 | _::_,[],_,_,hl,_,_=>by simp at hl
 | [],[],_::_,_,_,h,_=>h.elim
 | [],[],[],_::_,_,_,h=>h.elim
 | _::_,_::_,[],_,_,h,_=>h.elim
 | _::_,_::_,_::_,[],_,_,h=>h.elim
theorem wL (b:Nat):∀ n:Nat,rpl b (List.replicate n (0,1)) (List.replicate n 0)
 | 0=>trivial
 | n+1=>by
  rw [List.replicate_succ,List.replicate_succ];exact ⟨yG b,wL b n⟩
theorem wM {b:Nat} (m:Nat):∀ {s:List Q} {r:List Int},rpl b s r->rpl (b*m) s (r.map fun a=>a*m)
 | [],[],_=>trivial
 | x::s,a::r,h=>⟨F9 m h.1,wM m h.2⟩
 | [],_::_,h=>h.elim
 | _::_,[],h=>h.elim
theorem vR (z:Int):∀ {r t L:List Int},r.length=t.length->bZ (rI z r t) L=bZ r L+z*bZ t L
 | [],[],L,_=>by simp [rI,bZ]
 | a::r,c::t,[],_=>by simp [rI,bZ]
 | a::r,c::t,l::L,h=>by
  simp only [rI,bZ,vR z (r:=r) (t:=t) (L:=L) (by simpa using h),Xv,We,Int.mul_assoc];omega
 | [],_::_,_,h=>by simp at h
 | _::_,[],_,h=>by simp at h
theorem tD:∀ (n:Nat) (L:List Int),bZ (List.replicate n 0) L=0
 | 0,L=>by simp [bZ]
 | n+1,[]=>by simp [List.replicate_succ,bZ]
 | n+1,l::L=>by simp [List.replicate_succ,bZ,tD n L]
theorem xg (m:Int):∀ (r L:List Int),bZ (r.map fun a=>a*m) L=bZ r L*m
 | [],L=>by simp [bZ]
 | a::r,[]=>by simp [bZ]
 | a::r,l::L=>by
  simp only [Zz,bZ,xg m r L,Xv];rw [Za]
theorem Fy (z:Int):∀ {r t:List Int},r.length=t.length->(rI z r t).length=r.length
 | [],[],_=>rfl
 | a::r,c::t,h=>by simp [rI,Fy z (r:=r) (t:=t) (by simpa using h)]
 | [],_::_,h=>by simp at h
 | _::_,[],h=>by simp at h
theorem Nc {b B:Nat}:∀ {s:List Q} {r:List Int},rpl b s r->(∀ a∈r,a.natAbs<=B)->bdL b B s
 | [],[],_,_=>fun x hx=>by simp at hx
 | x::s,a::r,h,hb=>by
  have ih:=Nc h.2 fun c hc=>hb c (by simp [hc])
  intro y hy;simp only [Zt] at hy;rcases hy with rfl | hy
  ·exact ⟨a,h.1,hb a af⟩
  ·exact ih y hy
 | [],_::_,h,_=>h.elim
 | _::_,[],h,_=>h.elim
theorem PO {b B:Nat}:∀ {s:List Q},bdL b B s->∃ r,rpl b s r∧∀ a∈r,a.natAbs<=B
 | [],_=>⟨[],trivial,fun a h=>by simp at h⟩
 | x::s,h=>by
  obtain ⟨a,h1,h2⟩:=h x af;obtain ⟨r,h3,h4⟩:=PO (s:=s) fun y hy=>h y (by simp [hy])
  refine ⟨a::r,⟨h1,h3⟩,fun c hc=>?_⟩;simp only [Zt] at hc;rcases hc with rfl | hc
  ·exact h2
  ·exact h4 c hc
theorem FA {b d:Nat} (h:Int->Int) (hb:0<b) (hd:d ∣ b):∀ {p:List Int} {s:List Q} {r:List Int},s.length=p.length->rpl b s r->(∀ x∈s,x.2 ∣ d)->jv h (cV d p s)*((b / d:Nat):Int)=bZ r (p.map h)
 | [],[],[],_,_,_=>by simp [cV,jv,bZ]
 | c::p,x::s,a::r,hl,hr,hv=>by
  have ih:=FA h hb hd (p:=p) (s:=s) (r:=r) (by simpa using hl) hr.2 fun y hy=>hv y (by simp [hy])
  have hx:=hv x af;have p1:=hr.1.1.1;have d0:0<d:=Nat.pos_of_dvd_of_pos hd hb
  have key:x.1*((d / x.2:Nat):Int)*((b / d:Nat):Int)=a:=by
   obtain ⟨u,hu⟩:=hx;obtain ⟨v,hv'⟩:=hd;have e1:d / x.2=u:=by rw [hu];exact Yl _ p1
   have e2:b / d=v:=by rw [hv'];exact Yl _ d0
   rw [e1,e2];have h2:=hr.1.2;rw [hv',hu,Int.natCast_mul,Int.natCast_mul] at h2;refine Yd (a:=(x.2:Int)) aa ?_;rw [<- h2];simp only [Yz,W5,Int.mul_assoc]
  simp only [cV];split
  ·rename_i h0;rw [h0] at key;simp only [Int.zero_mul] at key;rw [ih,Zz,bZ,<- key];simp
  ·rw [jv,Xv,ih,Zz,bZ];simp only;rw [Za,key]
 | [],_::_,_,hl,_,_=>by simp at hl
 | _::_,[],_,hl,_,_=>by simp at hl
 | [],[],_::_,_,h,_=>h.elim
 | _::_,_::_,[],_,h,_=>h.elim
theorem qg {z k:Int} (hk:0<k):(z*k).sign=z.sign:=by
 rw [Int.sign_mul,Yr hk,Int.mul_one]
def L5 (p:List Int):List Int:=p.map (lgI 512)
theorem M6 {p:List Int} {s:List Q} {r:List Int} {b B:Nat} (hp:in6 p) (hl:s.length=p.length) (hb:0<b) (hr:rpl b s r) (hB:∀ a∈r,a.natAbs<=B) (hB2:B<9223372036854775808):rT p s ((bZ r (L5 p)).sign):=by
 have bd:=Nc hr hB;have h1:=Du hp hb bd hB2;have hd:∀ x∈s,0<x.2:=fun x hx=>(Br hb bd x hx).1
 have hll:(tq p s).length<=6:=by
  have:=nT (d:=fC 1 s) p s;have:=hp.2.1;unfold tq;omega
 have dv:∀ x∈s,x.2 ∣ fC 1 s:=fun x hx=>(oG (s:=s) (d:=1)).2 x hx
 have d0:0<fC 1 s:=mh ae hd;have dd:=EZ bd;have hs:=Qh (rK hp) (zx hp.1) (zy d0 fun x hx=>⟨hd x hx,dv x hx⟩) hll fun t ht=>(h1.2 t ht).2.2
 refine ⟨Ec h1,EQ (rK hp),?_⟩;rw [hs];have:=FA (lgI 512) hb dd hl hr dv;unfold L5;rw [<- this,qg]
 ·rfl
 ·have:=V5 (X4 hb dd) d0;omega
theorem Vj {p:List Int} {a b:List Q} {r t:List Int} {n m A B:Nat} (hp:in6 p) (la:a.length=p.length) (lb:b.length=p.length) (n0:0<n) (m0:0<m) (ha:rpl n a r) (hb:rpl m b t) (hA:∀ x∈r,x.natAbs<=A) (hB:∀ x∈t,x.natAbs<=B) (hC:A*m+B*n<9223372036854775808) :
  rT p (dfS p a b) ((bZ r (L5 p)*m-bZ t (L5 p)*n).sign):=by
 have lr:=yF ha;have lt:=yF hb;have r1:=wM m ha;have r2:=wM n hb;rw [Zw m n] at r2;have z:=wL (n*m) p.length;have s1:=uW 1 (by simp [la]) z r1;have s2:=uW (-1) (by rw [pS _ _ _ (by simp [la]),la,lb]) s1 r2;have e:kL (-1,1) (kL (1,1) (List.replicate p.length (0,1)) a) b=dfS p a b:=by simp [dfS,j4,oY]
 rw [e] at s2;have h1:(rI 1 (List.replicate p.length 0) (r.map fun a=>a*(m:Int))).length=p.length:=by rw [Fy _ (by simp [lr,la])];simp
 have hd:bZ (rI (-1) (rI 1 (List.replicate p.length 0) (r.map fun a=>a*(m:Int))) (t.map fun a=>a*(n:Int))) (L5 p)=bZ r (L5 p)*m-bZ t (L5 p)*n:=by
  rw [vR _ (by rw [h1];simp [lt,lb]),vR _ (by simp [lr,la]),tD,xg,xg];omega
 have ld:(dfS p a b).length=p.length:=by rw [<- e,pS _ _ _ (by rw [pS _ _ _ (by simp [la]),la,lb]),lb]
 rw [<- hd];refine M6 hp ld (Yp n0 m0) s2 (B:=A*m+B*n) ?_ hC
 have vb:∀ (z:Int) (X Y:Nat) (u v:List Int),(∀ x∈u,x.natAbs<=X)->(∀ x∈v,x.natAbs<=Y)->∀ x∈rI z u v,x.natAbs<=X+z.natAbs*Y:=by
  intro z X Y u
  induction u with
  | nil=>intro v _ _ x hx;simp [rI] at hx
  | cons a u ih=>
   intro v h1 h2 x hx;cases v with
   | nil=>simp [rI] at hx
   | cons c v=>
    simp only [rI,Zt] at hx;rcases hx with rfl | hx
    ·have q1:=h1 a af;have q2:=h2 c af;have q3:=Wl a (z*c);rw [Zi] at q3;have q4:=Z5 z.natAbs q2;omega
    ·exact ih v (fun y hy=>h1 y (by simp [hy])) (fun y hy=>h2 y (by simp [hy])) x hx
 have q1:∀ x∈r.map (fun a=>a*(m:Int)),x.natAbs<=A*m:=fun x hx=>by
  obtain ⟨y,hy,rfl⟩:=Zc.1 hx;rw [Zi,Int.natAbs_natCast];exact Z3 _ (hA y hy)
 have q2:∀ x∈t.map (fun a=>a*(n:Int)),x.natAbs<=B*n:=fun x hx=>by
  obtain ⟨y,hy,rfl⟩:=Zc.1 hx;rw [Zi,Int.natAbs_natCast];exact Z3 _ (hB y hy)
 have q3:=vb 1 0 (A*m) (List.replicate p.length 0) _ (fun x hx=>by rw [X6] at hx;rw [hx.2];simp) q1;have q4:=vb (-1) _ (B*n) _ _ q3 q2;intro x hx;have:=q4 x hx;simpa using this
structure pU (p:List Int) (l:List Rw):Prop where
 pc:pcB p=0
 i6:in6 p
 hl:0<p.length
 rw:∀ r∈l,r.length=p.length∧∀ x∈r,x.natAbs<=9
def Eg (b:Nat) (s:List Q):List Int:=s.map fun x=>x.1*((b / x.2:Nat):Int)
theorem DZ {b:Nat}:∀ {s:List Q} {r:List Int},rpl b s r->r=Eg b s
 | [],[],_=>rfl
 | x::s,a::r,h=>by
  have ih:=DZ h.2;obtain ⟨⟨hx,e⟩,_⟩:=h;obtain ⟨u,hu⟩:=wN ⟨hx,e⟩;have p1:=hx.1;have e1:b / x.2=u:=by rw [hu];exact Yl _ p1
  have:a=x.1*(u:Int):=by
   refine Yd (a:=(x.2:Int)) aa ?_;rw [<- e,hu,Int.natCast_mul,Int.mul_assoc,Yz (x.2:Int)]
  simp only [Eg,Zz];rw [e1,this,ih];rfl
 | [],_::_,h=>h.elim
 | _::_,[],h=>h.elim
theorem Ef {b B:Nat} {s:List Q} (h:bdL b B s):rpl b s (Eg b s)∧∀ a∈Eg b s,a.natAbs<=B:=by
 obtain ⟨r,h1,h2⟩:=PO h;have e:=DZ h1;subst e;exact ⟨h1,h2⟩
def vlS (p:List Int) (n:Nat) (s:List Q):Int:=bZ (Eg n s) (L5 p)
theorem Pw {p:List Int} {a b:List Q} {n m A B:Nat} (hp:in6 p) (la:a.length=p.length) (lb:b.length=p.length) (n0:0<n) (m0:0<m) (ha:bdL n A a) (hb:bdL m B b) (hC:A*m+B*n<9223372036854775808) :
  rT p (dfS p a b) ((vlS p n a*m-vlS p m b*n).sign):=by
 obtain ⟨h1,h2⟩:=Ef ha;obtain ⟨h3,h4⟩:=Ef hb;exact Vj hp la lb n0 m0 h1 h3 h2 h4 hC
def zQ (p:List Int):List Q:=List.replicate p.length (0,1)
theorem Jz (p:List Int) (n:Nat):vlS p n (zQ p)=0:=by
 have:Eg n (zQ p)=List.replicate p.length 0:=by simp [Eg,zQ]
 unfold vlS;rw [this,tD]
theorem S4 {p:List Int} {l:List Rw} (G:pU p l) {r:Rw} (hr:r∈l) {n:Nat} (n0:0<n) (n1:n<=100):tM p n r (kV p n r)∧bdL n 8645700 (lN p n (kV p n r) (ofQ r)):=by
 obtain ⟨lr,h9⟩:=G.rw r hr;obtain ⟨q,E,hq⟩:=er6 G.pc G.i6 G.hl n0 aa lr h9;have e:=An E;rw [e];refine ⟨E,wn (EY G.hl n0 h9) ?_⟩;have m1:(18*n+1)*n<=1801*100:=Zo aa n1;omega
theorem XH {k:Nat}:∀ {s:List Q},s.length=k->(∀ x∈s,okQ x)->kL (0,1) (List.replicate k (0,1)) s=List.replicate k (0,1):=by
 induction k with
 | zero=>intro s h _;simp [kL]
 | succ k ih=>
  intro s h hs;cases s with
  | nil=>simp at h
  | cons x s=>
   rw [List.replicate_succ,kL,ih (by simpa using h) fun y hy=>hs y (by simp [hy])];have hx:=hs x af;have e1:lW x (0,1)=(0,1):=lR ⟨Vz,af⟩ (by simpa using hx.1) af;have e2:oz ((0,1):Q) (0,1)=(0,1):=ae;rw [e1,e2]
theorem ju {p:List Int} {l:List Rw} (G:pU p l) {r:Rw} (hr:r∈l) {n:Nat} (n0:0<n) (n1:n<=100) :
  (dk p n r).length=p.length∧bdL n 8645700 (dk p n r)∧0<=vlS p n (dk p n r)∧(vlS p n (dk p n r)<=0->dk p n r=zQ p) ∧
  CP Y F.gJ [lst di p,I n,lst di r] (.tup [szV (dk p n r),I 0])∧CP Y F.dW [lst di p,I n,lst di r] (szV (dk p n r)):=by
 obtain ⟨E,bo⟩:=S4 G hr n0 n1;have lo:(lN p n (kV p n r) (ofQ r)).length=p.length:=tj G.hl (by simp [ofQ,E.lr]);obtain ⟨h1,h2⟩:=Ef bo;have hs:=M6 G.i6 lo n0 h1 h2 ae;obtain ⟨v,hv⟩:∃ v,v=bZ (Eg n (lN p n (kV p n r) (ofQ r))) (L5 p):=⟨_,rfl⟩;rw [<- hv] at hs;obtain ⟨z,hz⟩:∃ z,z=v.sign:=⟨_,rfl⟩;rw [<- hz] at hs;have zv:=DX hs
 have hz3:z = -1∨z=0∨z=1:=by
  rw [hz];rcases Ya v 0 with h | h | h
  ·left;exact Y5 h
  ·right;left;rw [h];rfl
  ·right;right;exact Yr h
 have z1 : -1<=z:=aa;have z2:z<=1:=aa;have ea:dk p n r=lU p n r (kV p n r) z:=by unfold dk;rw [zv]
 have la:(dk p n r).length=p.length:=by rw [ea];exact xv G.hl E.lr
 have ba:bdL n 8645700 (dk p n r):=by
  have:=wj (n:=p.length) (z:=po z) bo;rw [ea];unfold lU HS;refine wn this ?_;exact Z2 (Z3 _ (KY z1 z2)) aa
 have ra:rpl n (dk p n r) (rI (po z) (List.replicate p.length 0) (Eg n (lN p n (kV p n r) (ofQ r)))):=by
  have:=uW (po z) (by simp [lo]) (wL n p.length) h1;rw [ea];simpa [lU,HS,j4,oY] using this
 have va:vlS p n (dk p n r)=po z*v:=by
  unfold vlS;rw [<- DZ ra,vR _ (by rw [yF h1,lo];simp),tD,<- hv];omega
 refine ⟨la,ba,?_,?_,?_,?_⟩
 ·rw [va];rcases hz3 with h | h | h
  ·have:v<0:=by
    rcases Ya v 0 with h' | h' | h'
    ·exact h'
    ·rw [h'] at hz;simp at hz;omega
    ·rw [Yr h'] at hz;omega
   rw [h]
   show 0<=(-1:Int)*v
   omega
  ·rw [h];show 0<=(0:Int)*v;omega
  ·have:0<v:=by
    rcases Ya v 0 with h' | h' | h'
    ·rw [Y5 h'] at hz;omega
    ·rw [h'] at hz;simp at hz;omega
    ·exact h'
   rw [h]
   show 0<=(1:Int)*v
   omega
 ·intro hle
  have hz0:z=0:=by
   rcases hz3 with h | h | h
   ·exfalso
    have:v<0:=by
     rcases Ya v 0 with h' | h' | h'
     ·exact h'
     ·rw [h'] at hz;simp at hz;omega
     ·rw [Yr h'] at hz;omega
    rw [va,h] at hle;have:po (-1)*v = -v:=by show (-1:Int)*v = -v;omega
    omega
   ·exact h
   ·exfalso
    have:0<v:=by
     rcases Ya v 0 with h' | h' | h'
     ·rw [Y5 h'] at hz;omega
     ·rw [h'] at hz;simp at hz;omega
     ·exact h'
    rw [va,h] at hle;have:po 1*v=v:=by show (1:Int)*v=v;omega
    omega
  rw [ea,hz0];have:=XH lo (Br n0 bo);simpa [lU,HS,j4,oY,zQ,po] using this
 ·have:=Ht E hs z1 z2;rw [ea];exact this
 ·have:=QN E hs z1 z2;rw [ea];exact this
def wO (p:List Int) (n:Nat):Option Rw->List Q
 | none=>zQ p
 | some r=>dk p n r
def wGo (p:List Int) (n:Nat):Option Rw->List Rw->Option Rw
 | o,[]=>o
 | o,r::l=>if vlS p n (wO p n o)<vlS p n (wO p n (some r)) then wGo p n (some r) l else wGo p n o l
def wIn (l:List Rw) (o:Option Rw):Prop:=∀ r,o=some r->r∈l
theorem zp {p:List Int} {l:List Rw} (G:pU p l) {n:Nat} (n0:0<n) (n1:n<=100) {o:Option Rw} (ho:wIn l o):(wO p n o).length=p.length∧bdL n 8645700 (wO p n o):=by
 cases o with
 | none=>exact ⟨by simp [wO,zQ],wn (Bq n p.length) aa⟩
 | some r=>
  obtain ⟨h1,h2,_⟩:=ju G (ho r rfl) n0 n1;exact ⟨h1,h2⟩
theorem Mz {p:List Int} {l:List Rw} (G:pU p l) {n:Nat} (n0:0<n) (n1:n<=100) {o:Option Rw} (ho:wIn l o):okS (wO p n o):=sT n0 (zp G n0 n1 ho).2 aa aa
theorem Qf {a b:Int} {n:Nat} (hn:0<n):(decide ((a*n-b*n).sign<0))=decide (a<b):=by
 have e:a*n-b*n=(a-b)*n:=by rw [Int.sub_mul]
 rw [e,qg aa];rcases Ya (a-b) 0 with h | h | h
 ·rw [Y5 h];simp;omega
 ·rw [h];simp;omega
 ·rw [Yr h];simp;omega
def wH (p:List Int):Hp:=[(1,.data 2 (((zQ p).map tx).flatMap aU) true false)]
def wV (p:List Int) (n:Nat):Option Rw->V
 | none=>.ref 0 1 0 p.length p.length (p.length*2)
 | some r=>szV (dk p n r)
theorem Mx (p:List Int) (n:Nat) (o:Option Rw):∃ h',aI (wH p) (wV p n o)=some (szV (wO p n o),h'):=by
 cases o with
 | none=>exact ⟨_,JK (h:=wH p) (s:=0) (e:=1) (l:=(zQ p).map tx) rfl (by simp [zQ])⟩
 | some r=>exact ⟨_,nz _ _⟩
theorem tX {p:List Int} {l:List Rw} (G:pU p l) {n:Nat} (n0:0<n) (n1:n<=100) (hN:l.length<1000000) (k:KL) (h0:Hp) (hh:h0.length=1):∀ (q a:List Rw) (o:Option Rw),a++q=l->wIn l o->k (.exit 0) [wV p n (wGo p n o q)] (wH p) ->
  lp (jW (CX Y) (lst di p) (I n) (mat l) (I l.length)) [] h0 [wV p n o,I a.length] (wH p) k
 | [],a,o,ha,ho,hk=>by
  simp at ha;subst ha;refine ax ?_;simp (disch:=try exact ac)[jW];simpa [wGo] using hk
 | r::q,a,o,ha,ho,hk=>by
  have hal:a.length<l.length:=by subst ha;simp
  have hr:nth [] l a.length=r:=by subst ha;simp
  have hm:r∈l:=by rw [<- ha];simp
  obtain ⟨a1,a2,_,_,a5,_⟩:=ju G hm n0 n1;obtain ⟨o1,o2⟩:=zp G n0 n1 ho;have hsr:wIn l (some r):=fun x e=>by cases e;exact hm
  have hz:=Pw G.i6 o1 a1 n0 n0 o2 a2 aa;have hN20:p.length<=6:=G.i6.2.1;have dl:=AZ G.pc aa o1 a1 (Mz G n0 n1 ho) (Mz G n0 n1 hsr) hz;rw [Qf n0] at dl;have i1:=fun h=>dO row l h (k:=.i64) (i:=(a.length:Int)) aa aa
  have i2:=fun h=>eU row [] l h (j:=a.length) hal
  rw [hr] at i2;simp only [Int.toNat_natCast] at i1;have g1:(a.length:Int)<(l.length:Int):=aa;have hre:aE [] 0 h0 (wH p)=wH p:=cQ 0 h0 _ (by simp [wH];omega);obtain ⟨h',sn⟩:=Mx p n o
  have sns:aj (wH p) [lst di p,wV p n o,szV (dk p n r)]=some ([lst di p,szV (wO p n o),szV (dk p n r)],h'):=t8 (rO _ _ _) (t8 sn (t8 (nz _ _) (Lh _)));refine ax ?_;simp (disch:=try exact ac)[jW,i1,i2,g1];refine bj ?_;simp (disch:=try exact ac)[i1,i2,hr];refine cd a5 ?_
  simp (disch:=try exact ac)[];refine Jm sns dl ?_;simp only [wGo] at hk;by_cases hlt:vlS p n (wO p n o)<vlS p n (wO p n (some r))
  ·rw [if_pos hlt] at hk;have ih:=tX G n0 n1 hN k h0 hh q (a++[r]) (some r) (by simpa using ha) hsr hk;have hlt':vlS p n (wO p n o)<vlS p n (dk p n r):=hlt;simp (disch:=try exact ac)[hlt',fw];refine bj ?_;simp (disch:=try exact ac)[hlt',hre];simpa [wV] using ih
  ·rw [if_neg hlt] at hk;have ih:=tX G n0 n1 hN k h0 hh q (a++[r]) o (by simpa using ha) ho hk;have hlt':¬ vlS p n (wO p n o)<vlS p n (dk p n r):=hlt
   have hcl:∀ z:Int,clean [] [wV p n o,V.d (D.int IntKind.i64 z)] (wH p)=true:=fun z=>by
    cases o with
    | none=>rfl
    | some r=>rfl
   simp (disch:=try exact ac)[hlt',fw];refine bj ?_;simp (disch:=try exact ac)[hlt',hre,hcl];simpa using ih
theorem Ur:zT=tx ((0,1):Q):=rfl
theorem Mv {p:List Int} {l:List Rw} (G:pU p l) {n:Nat} (n0:0<n) (n1:n<=100) (hN:l.length<1000000):CP Y F.hH [lst di p,I n,mat l] (.tup [szV (wO p n (wGo p n none l)),I 0]):=by
 refine xj ?_;have hN20:p.length<=6:=G.i6.2.1;have zi:=Fa (h:=[(0,.none)]) rfl G.pc aa;have hfl:=iW aU aT (List.replicate p.length zT);rw [Y4] at hfl;have l1:aA (mat l)=some (I l.length):=rfl;have ez:(List.replicate p.length zT)=(zQ p).map tx:=by simp [zQ,Ur]
 have wl:=tX G n0 n1 hN (exK [((.exit 0),fun l6 h=>out (.tup [szV (wO p n (wGo p n none l)),I 0]) (.tup [(ge l6 0),(.d (.int .i64 0))]) h),(.ret,fun l6 h=>out (.tup [szV (wO p n (wGo p n none l)),I 0]) (.tup [(ge l6 0),(ge l6 1)]) h)]) (wH p) rfl l [] none rfl (fun r e=>by cases e) (by
  obtain ⟨h',sn⟩:=Mx p n (wGo p n none l);simp only [exK];exact aB sn rfl)
 simp (disch:=try exact ac)[hH];refine j9 (HJ (e:=0) (b:=.none) zi rfl ?_);rw [hfl,ez];simp (disch:=try exact ac)[l1];exact wl
theorem Qg {a b:Int} {n:Nat} (hn:0<n):(0<(a*n-b*n).sign)=(b<a):=by
 have e:a*n-b*n=(a-b)*n:=by rw [Int.sub_mul]
 rw [e,qg aa];rcases Ya (a-b) 0 with h | h | h
 ·rw [Y5 h];simp;omega
 ·rw [h];simp;omega
 ·rw [Yr h];simp;omega
theorem sC {p:List Int} {l:List Rw} (G:pU p l) {n:Nat} (n0:0<n) (n1:n<=100) (hN:l.length<1000000) (k:KL) (h0:Hp) (hh:h0.length=0):∀ (q a:List Rw) (o:Rw),a++q=l->o∈l->(∀ o',wGo p n (some o) q=some o'->k (.exit 0) [szV (dk p n o')] []) ->
  lp (ic (CX Y) (lst di p) (I n) (mat l)) [] h0 [szV (dk p n o),I a.length] [] k
 | [],a,o,ha,ho,hk=>by
  simp at ha;subst ha;have l1:aA (mat a)=some (I a.length):=rfl;refine ax ?_;simp (disch:=try exact ac)[ic,l1];exact hk o rfl
 | r::q,a,o,ha,ho,hk=>by
  have hal:a.length<l.length:=by subst ha;simp
  have hr:nth [] l a.length=r:=by subst ha;simp
  have hm:r∈l:=by rw [<- ha];simp
  have l1:aA (mat l)=some (I l.length):=rfl;obtain ⟨a1,a2,_,_,_,a6⟩:=ju G hm n0 n1;obtain ⟨o1,o2,_⟩:=ju G ho n0 n1;have hz:=Pw G.i6 a1 o1 n0 n0 a2 o2 aa;have hN20:p.length<=6:=G.i6.2.1;have okr:okS (dk p n r):=sT n0 a2 aa aa;have oko:okS (dk p n o):=sT n0 o2 aa aa;have co:=qH G.pc aa a1 o1 okr oko hz
  obtain ⟨z,hzz⟩:∃ z,z=(vlS p n (dk p n r)*n-vlS p n (dk p n o)*n).sign:=⟨_,rfl⟩;rw [<- hzz] at co;have i1:=fun h=>dO row l h (k:=.i64) (i:=(a.length:Int)) aa aa
  have i2:=fun h=>eU row [] l h (j:=a.length) hal
  rw [hr] at i2;simp only [Int.toNat_natCast] at i1;have g1:(a.length:Int)<(l.length:Int):=aa;have hre:aE [] 0 h0 []=[]:=cQ 0 h0 _ (by simp [hh]);have sn:∀ (h:Hp) (x y:List Q),aj h [lst di p,szV x,szV y]=some ([lst di p,szV x,szV y],h):=fun h x y=>by simp [aj,szV,bN]
  have gt:(0<z)=(vlS p n (dk p n o)<vlS p n (dk p n r)):=by rw [hzz];exact Qg n0
  simp only [wGo] at hk;refine ax ?_;simp (disch:=try exact ac)[ic,l1,i1,i2,hr,g1];refine bj ?_;simp (disch:=try exact ac)[i1,i2,hr];refine cd a6 ?_;simp (disch:=try exact ac)[];refine cd co ?_ (sn _ _ _);by_cases hlt:vlS p n (dk p n o)<vlS p n (dk p n r)
  ·have hk':∀ o',wGo p n (some r) q=some o'->k (.exit 0) [szV (dk p n o')] []:=fun o' h=>hk o' (by rw [if_pos (show vlS p n (wO p n (some o))<vlS p n (wO p n (some r)) from hlt)];exact h)
   have ih:=sC G n0 n1 hN k h0 hh q (a++[r]) r (by simpa using ha) hm hk';have hz0:0<z:=by rw [gt];exact hlt
   simp (disch:=try exact ac)[hz0];refine bj ?_;simp (disch:=try exact ac)[hre,szV,bN];simpa [szV,bN] using ih
  ·have hk':∀ o',wGo p n (some o) q=some o'->k (.exit 0) [szV (dk p n o')] []:=fun o' h=>hk o' (by rw [if_neg (show ¬ vlS p n (wO p n (some o))<vlS p n (wO p n (some r)) from hlt)];exact h)
   have ih:=sC G n0 n1 hN k h0 hh q (a++[r]) o (by simpa using ha) ho hk';have hz0:¬ 0<z:=by rw [gt];exact hlt
   simp (disch:=try exact ac)[hz0];refine bj ?_;simp (disch:=try exact ac)[hre,szV,bN];simpa [szV,bN] using ih
theorem MA (p:List Int) (n:Nat):∀ (l:List Rw) (o o':Option Rw),wO p n o=wO p n o'->wO p n (wGo p n o l)=wO p n (wGo p n o' l)
 | [],o,o',h=>h
 | r::l,o,o',h=>by
  simp only [wGo];rw [h];split
  ·rfl
  ·exact MA p n l o o' h
theorem My {p:List Int} {r:Rw} {l:List Rw} (G:pU p (r::l)) {n:Nat} (n0:0<n) (n1:n<=100):wO p n (wGo p n none (r::l))=wO p n (wGo p n (some r) l):=by
 obtain ⟨_,_,a3,a4,_⟩:=ju G (r:=r) af n0 n1;simp only [wGo];split
 ·rfl
 ·rename_i h
  have:vlS p n (dk p n r)<=0:=by
   have e:vlS p n (wO p n none)=0:=Jz p n;have h':¬ vlS p n (wO p n none)<vlS p n (dk p n r):=h;omega
  exact MA p n l none (some r) (show zQ p=dk p n r from (a4 this).symm)
theorem CK {p:List Int} {r:Rw} {l:List Rw} (G:pU p (r::l)) {n:Nat} (n0:0<n) (n1:n<=100) (hN:(r::l).length<1000000):CP Y F.cr [lst di p,I n,mat (r::l)] (szV (wO p n (wGo p n none (r::l)))):=by
 refine rW ?_;obtain ⟨_,_,_,_,_,a6⟩:=ju G (r:=r) af n0 n1;rw [My G n0 n1]
 have ll:=sC G n0 n1 hN (exK [((.exit 0),fun l4 h=>out (szV (wO p n (wGo p n (some r) l))) (ge l4 0) h)]) [] rfl l [r] r rfl af (fun o' h=>by
  simp only [exK];rw [h];exact ⟨_,nz _ _⟩)
 have i1:=fun h=>dO row (r::l) h (k:=.i64) (i:=(0:Int)) aa af
 have i2:=fun h=>eU row [] (r::l) h (j:=0) af
 have hr:nth [] (r::l) 0=r:=rfl;simp (disch:=try exact ac)[cr,i1,i2,hr];refine cd a6 ?_;simp (disch:=try exact ac)[];exact ll
end Go.Vm
