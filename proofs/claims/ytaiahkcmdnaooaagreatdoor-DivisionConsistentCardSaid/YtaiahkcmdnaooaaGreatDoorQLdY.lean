/- Law of divisions: Records, but for what known says. -/
import Derived.Test.YtaiahkcmdnaooaaGreatDoorQCeX
import Derived.Test.YtaiahkcmdnaooaaGreatDoorQT
set_option linter.unusedVariables false
set_option linter.unusedSimpArgs false
namespace Go.Vm
open Go Go.Am Go.Big
def LZ (p:List Int):List (List Int)->Int
 | []=>0
 | r::m=>if mzB p [r]≠0 then mzB p [r] else LZ p m
def clB (p:List Int) (m:List (List Int)):Int:=if 60<m.length then 4 else LZ p m
theorem NB {p:List Int} (hp:p.length<1000000) (k:KL):∀ (q a:List (List Int)),(a++q).length<1000000000 ->
  (LZ p q=0->k (.exit 0) [] [])->(LZ p q≠0->k .ret [I (LZ p q)] []) ->
  lp (iO (CX Y) (lst di p) (mat (a++q)) (I (a++q).length)) [] [] [I a.length] [] k
 | [],a,hN,h0,h1=>by
  refine am ?_;simp (disch:=try exact ac)[iO];exact h0 rfl
 | r::q,a,hN,h0,h1=>by
  simp at hN;have mo:=xI (p:=p) (r:=r) aa;simp only [LZ] at h0 h1;refine am ?_;simp (disch:=try exact ac)[iO];refine cd mo ?_;by_cases h:mzB p [r]=0
  ·rw [if_neg (by simpa using h)] at h0 h1;have ih:=NB hp k q (a++[r]) ak h0 h1;simp (disch:=try exact ac)[h];simp at ih ⊢;exact ih
  ·rw [if_pos h] at h1;simp (disch:=try exact ac)[h];exact h1 h
theorem kg {p:List Int} {m:List (List Int)} (hp:p.length<1000000) (hm:m.length<1000000000):CP Y F.bR [lst di p,mat m] (I (clB p m)):=by
 refine ve ?_;have l1:bm (mat m)=some (I m.length):=rfl;unfold clB;by_cases h:60<m.length
 ·have g:(60:Int)<(m.length:Int):=aa;rw [if_pos h];simp (disch:=try exact ac)[bR,l1,g] <;> exact bX rfl
 ·have g:¬ (60:Int)<(m.length:Int):=aa;rw [if_neg h];simp (disch:=try exact ac)[bR,l1,g];refine lo (NB hp _ m [] (by simpa using hm) (fun g=>?_) (fun g=>?_))
  ·rw [g];simp (disch:=try exact ac)[]
  ·simp (disch:=try exact ac)[]
theorem qQ {p:List Int} {m:List (List Int)} (hm:m.length<=60) (h:∀ r∈m,mzB p [r]=0):clB p m=0:=by
 unfold clB;rw [if_neg aa];clear hm
 induction m with
 | nil=>rfl
 | cons r m ih=>
  rw [LZ,if_neg (by simpa using h r ag)];exact ih fun x hx=>h x (by simp [hx])
def rH:List Int->List Int->List Int->Bool
 | x::a,y::b,z::c=>decide (x+y=z) && rH a b c
 | _,_,_=>true
theorem Fz {s t u:List Int} (hN:s.length<1000000) (hs:smR s=true) (ht:smR t=true) (k:KL):∀ (q r v a b c:List Int),a++q=s->b++r=t->c++v=u->a.length=b.length->a.length=c.length->q.length=r.length->q.length=v.length->(rH q r v=true->k (.exit 0) [] [])->(rH q r v=false->k .ret [B false] []) ->
  lp (kv (CX Y) (lst di s) (lst di t) (lst di u) (I s.length)) [] [] [I a.length] [] k
 | [],r,v,a,b,c,ha,hb,hc,hab,hac,hqr,hqv,h0,h1=>by
  simp at ha;subst ha;refine am ?_;simp (disch:=try exact ac)[kv];exact h0 (by simp [rH])
 | x::q,[],v,a,b,c,ha,hb,hc,hab,hac,hqr,hqv,h0,h1=>by simp at hqr
 | x::q,y::r,[],a,b,c,ha,hb,hc,hab,hac,hqr,hqv,h0,h1=>by simp at hqv
 | x::q,y::r,z::v,a,b,c,ha,hb,hc,hab,hac,hqr,hqv,h0,h1=>by
  have hal:a.length<s.length:=by subst ha;simp
  have hbl:a.length<t.length:=by subst hb;simp;omega
  have hcl:a.length<u.length:=by subst hc;simp;omega
  have hx:nth 0 s a.length=x:=by subst ha;simp
  have hy:nth 0 t a.length=y:=by subst hb;rw [hab];simp
  have hz:nth 0 u a.length=z:=by subst hc;rw [hac];simp
  have bx:=tj hs (x:=x) (by rw [<- ha];simp);have by_:=tj ht (x:=y) (by rw [<- hb];simp);have i1:=ci di s [] (k:=.i64) (i:=(a.length:Int)) aa aa;have i2:=cU di 0 s [] (j:=a.length) hal;have j1:=ci di t [] (k:=.i64) (i:=(a.length:Int)) aa aa;have j2:=cU di 0 t [] (j:=a.length) hbl
  have k1:=ci di u [] (k:=.i64) (i:=(a.length:Int)) aa aa;have k2:=cU di 0 u [] (j:=a.length) hcl;rw [hx] at i2;rw [hy] at j2;rw [hz] at k2;simp only [Int.toNat_natCast] at i1 j1 k1;have g1:(a.length:Int)<(s.length:Int):=aa;refine am ?_;by_cases hxy:x+y=z
  ·have ih:=Fz hN hs ht k q r v (a++[x]) (b++[y]) (c++[z]) (by simpa using ha) (by simpa using hb) (by simpa using hc) (by simp [hab]) (by simp [hac]) (by simpa using hqr) (by simpa using hqv) (fun e=>h0 (by simp [rH,hxy,e])) (fun e=>h1 (by simp [rH,e]));simp (disch:=try exact ac)[kv,i1,i2,j1,j2,k1,k2,g1,hx,hy,hz,hxy];simpa using ih
  ·simp (disch:=try exact ac)[kv,i1,i2,j1,j2,k1,k2,g1,hx,hy,hz,hxy];exact h1 (by simp [rH,hxy])
theorem Uu {s t u:List Int} (hN:s.length<1000000) (hs:smR s=true) (ht:smR t=true) (l1:t.length=s.length) (l2:u.length=s.length):CP Y F.mn [lst di s,lst di t,lst di u] (B (rH s t u)):=by
 refine Dh ?_;have hl:bm (lst di s)=some (I s.length):=rfl;simp (disch:=try exact ac)[mn,hl]
 have:=Fz (u:=u) hN hs ht (exK [(Exit.exit 0,fun l5 h=>out (B (rH s t u)) (V.d (D.bool true)) h),(Exit.ret,fun l5 h=>out (B (rH s t u)) (ge l5 0) h)]) s t u [] [] [] rfl rfl rfl rfl rfl l1.symm l2.symm (fun g=>by
   simp (disch:=try exact ac)[];exact ip (by simp [g])) (fun g=>by
   simp (disch:=try exact ac)[];exact ip (by simp [g]))
 refine lo ?_;exact this
def ztD (z:Int):D:=.str (itoa z)
theorem Al {p:List Int} {n:Nat} {l:List (List Int)} {qf:List Int->Int} (hN:l.length<1000000) (hE:∀ r∈l,wd p n r (qf r)) (k:KL) (h0:Hp) (hh:h0.length=1):∀ (q a:List (List Int)),a++q=l ->
  k (.exit 0) [acR.v l.length (l.map fun r=>ztD (qf r))] [acR.b l.length (l.map fun r=>ztD (qf r))] ->
  lp (j8 (CX Y) (lst di p) (I n) (mat l) (I l.length)) [] h0 [acR.v a.length (a.map fun r=>ztD (qf r)),I a.length] [acR.b a.length (a.map fun r=>ztD (qf r))] k
 | [],a,ha,hk=>by
  simp at ha;subst ha;refine am ?_;simp (disch:=try exact ac)[j8];exact hk
 | r::q,a,ha,hk=>by
  have hal:a.length<l.length:=by subst ha;simp
  have hr:nth [] l a.length=r:=by subst ha;simp
  have hm:r∈l:=by rw [<- ha];simp
  have E:=hE r hm;have so:=Ci (p:=p) (r:=r) E.hp (by have:=E.hN;omega) E.lr E.sr;have ls:(ofQ r).length=p.length:=by simp [ofQ,E.lr]
  have ne:=Ai E.hp E.hN E.hl E.h0 E.h1 E.st ls E.of E.ne E.fl;have i1:=fun h=>ci row l h (k:=.i64) (i:=(a.length:Int)) aa aa
  have i2:=fun h=>cU row [] l h (j:=a.length) hal
  rw [hr] at i2;simp only [Int.toNat_natCast] at i1;have g1:(a.length:Int)<(l.length:Int):=aa;have li1:∀ (z:Int) (H:Hp),dF 1 [D.str []] [(0,S (itoa z))] H=some ([ztD z],H):=fun z H=>by simp [dF,gC,jy,toD,ztD]
  have cR:(a.map fun r=>ztD (qf r)).length=a.length*acR.n:=by simp [acR]
  have cw:∀ x y:Nat × Bk,([x]:Hp).set acR.s y=[y]:=fun x y=>rfl
  have hre:∀ x:Hp,x.length=1->aC [] 0 h0 x=x:=fun x hx=>bO 0 h0 x aa
  have ev:∀ c,acR.v (a.length+1) c=.ref acR.s (acR.e+1) 0 (a.length+1) (a.length+1) c.length:=fun c=>rfl
  have eb:∀ c,acR.b (a.length+1) c=(acR.e+1,.data acR.n c false false):=fun c=>rfl
  have ih:=Al hN hE k h0 hh q (a++[r]) (by simpa using ha) hk;refine am ?_;simp (disch:=try exact ac)[j8,i1,i2,g1];refine cd so ?_;simp (disch:=try exact ac)[];refine cd ne ?_ (by simp [ai,aF,szV,bU]);simp (disch:=try exact ac)[li1]
  refine kY acR (k:=1) aa rfl cR (by rfl) rfl (fun t e=>by cases e) aa ae ?_;simp (disch:=try exact ac)[cw,hre,clean,fF,oe,od,eC,kZ];refine ⟨rfl,?_⟩;simpa [ev,eb] using ih
theorem FE {p:List Int} {n:Nat} {l:List (List Int)} {qf:List Int->Int} (hN:l.length<1000000) (hE:∀ r∈l,wd p n r (qf r)):CP Y F.gP [lst di p,I n,mat l] (.tup [lst ztD (l.map qf),I 0]):=by
 refine yo ?_;have l1:bm (mat l)=some (I l.length):=rfl
 have hl:=Al hN hE (exK [((.exit 0),fun l2 h=>out (.tup [lst ztD (l.map qf),I 0]) (.tup [(ge l2 0),(.d (.int .i64 0))]) h),(.ret,fun l2 h=>out (.tup [lst ztD (l.map qf),I 0]) (.tup [(ge l2 0),(ge l2 1)]) h)]) [(0,.none)] rfl l [] rfl (by
  obtain ⟨h',q1,_⟩:=jP acR (L:=l.length) (cells:=l.map fun r=>ztD (qf r)) (h:=[acR.b l.length (l.map fun r=>ztD (qf r))]) rfl (by simp [acR]);simp only [exK];have e:lst ztD (l.map qf)=.d (.sl l.length (l.map fun r=>ztD (qf r))):=by simp [lst]
  rw [e];exact ax q1 rfl)
 simp (disch:=try exact ac)[gP,l1];exact hl
def erD (p:List Int) (n:Nat) (qf:List Int->Int) (r:List Int):List Q:=iG p n (qf r) (ofQ r)
theorem Ag {p:List Int} {n:Nat} {l:List (List Int)} {qf:List Int->Int} (hN:l.length<1000000) (hE:∀ r∈l,wd p n r (qf r)) (k:KL) (h0:Hp) (hh:h0.length=1):∀ (q a:List (List Int)),a++q=l ->
  k (.exit 0) [acR.v l.length (l.map fun r=>szD (erD p n qf r))] [acR.b l.length (l.map fun r=>szD (erD p n qf r))] ->
  lp (j9 (CX Y) (lst di p) (I n) (mat l) (I l.length)) [] h0 [acR.v a.length (a.map fun r=>szD (erD p n qf r)),I a.length] [acR.b a.length (a.map fun r=>szD (erD p n qf r))] k
 | [],a,ha,hk=>by
  simp at ha;subst ha;refine am ?_;simp (disch:=try exact ac)[j9];exact hk
 | r::q,a,ha,hk=>by
  have hal:a.length<l.length:=by subst ha;simp
  have hr:nth [] l a.length=r:=by subst ha;simp
  have hm:r∈l:=by rw [<- ha];simp
  have E:=hE r hm;have de:=FB E;have i1:=fun h=>ci row l h (k:=.i64) (i:=(a.length:Int)) aa aa
  have i2:=fun h=>cU row [] l h (j:=a.length) hal
  rw [hr] at i2;simp only [Int.toNat_natCast] at i1;have g1:(a.length:Int)<(l.length:Int):=aa;have li1:∀ (s:List Q) (H:Hp),dF 1 [D.pl (Value.slice none 0 0)] [(0,szV s)] H=some ([szD s],H):=fun s H=>Eo ..
  have cR:(a.map fun r=>szD (erD p n qf r)).length=a.length*acR.n:=by simp [acR]
  have cw:∀ x y:Nat × Bk,([x]:Hp).set acR.s y=[y]:=fun x y=>rfl
  have hre:∀ x:Hp,x.length=1->aC [] 0 h0 x=x:=fun x hx=>bO 0 h0 x aa
  have ev:∀ c,acR.v (a.length+1) c=.ref acR.s (acR.e+1) 0 (a.length+1) (a.length+1) c.length:=fun c=>rfl
  have eb:∀ c,acR.b (a.length+1) c=(acR.e+1,.data acR.n c false false):=fun c=>rfl
  have ih:=Ag hN hE k h0 hh q (a++[r]) (by simpa using ha) hk;refine am ?_;simp (disch:=try exact ac)[j9,i1,i2,g1];refine cd de ?_;simp (disch:=try exact ac)[li1];refine kY acR (k:=1) aa rfl cR (by rfl) rfl (fun t e=>by cases e) aa ae ?_
  simp (disch:=try exact ac)[cw,hre,clean,fF,oe,od,eC,kZ];refine ⟨rfl,?_⟩;simpa [ev,eb,erD] using ih
theorem Fv {p:List Int} {n:Nat} {l:List (List Int)} {qf:List Int->Int} (hp:p.length<1000000) (hN:l.length<=60) (hc:dvC p n=0) (hm:∀ r∈l,mzB p [r]=0) (hE:∀ r∈l,wd p n r (qf r)):CP Y F.fJ [lst di p,I n,mat l] (.tup [lst szD (l.map (erD p n qf)),I 0]):=by
 refine yu ?_;have l1:bm (mat l)=some (I l.length):=rfl;have dc:=zH (p:=p) (n:=(n:Int)) hp;rw [hc] at dc;have ck:=kg (p:=p) (m:=l) hp aa;rw [qQ hN hm] at ck
 have hl:=Ag aa hE (exK [((.exit 0),fun l2 h=>out (.tup [lst szD (l.map (erD p n qf)),I 0]) (.tup [(ge l2 0),(.d (.int .i64 0))]) h),(.ret,fun l2 h=>out (.tup [lst szD (l.map (erD p n qf)),I 0]) (.tup [(ge l2 0),(ge l2 1)]) h)]) [(0,.none)] rfl l [] rfl (by
  obtain ⟨h',q1,_⟩:=jP acR (L:=l.length) (cells:=l.map fun r=>szD (erD p n qf r)) (h:=[acR.b l.length (l.map fun r=>szD (erD p n qf r))]) rfl (by simp [acR]);simp only [exK];have e:lst szD (l.map (erD p n qf))=.d (.sl l.length (l.map fun r=>szD (erD p n qf r))):=by simp [lst]
  rw [e];exact ax q1 rfl)
 simp (disch:=try exact ac)[fJ];refine cd dc ?_;simp (disch:=try exact ac)[];refine cd ck ?_;simp (disch:=try exact ac)[l1];exact hl
theorem JF (a b:Int):biS .neq (S (itoa a)) (S (itoa b))=some (B (decide (a≠b))):=by
 have:(itoa a == itoa b)=decide (a=b):=by
  rw [Y0];simp only [beq_iff_eq,decide_eq_true_eq];exact ⟨fun h=>xT h,fun h=>by rw [h]⟩
 simp only [biS,B6,bne,this];simp
theorem GU {z:Int} (h1 : -1000000000000000000<z) (h2:z<1000000000000000000):ndg z.natAbs<999999:=by
 have:=bf (n:=z.natAbs) (d:=18) (by show _<10 ^ 18;omega) ae;omega
abbrev Rw:=List Int
def Dt (qf:Rw->Int) (i j:Nat) (a b:Rw):Nat->List Rw->Option (Nat × Nat × Nat)
 | _,[]=>none
 | m,c::q=>if rH a b c=true∧qf a+qf b≠qf c then some (i,j,m) else Dt qf i j a b (m+1) q
def Du (qf:Rw->Int) (l:List Rw) (i:Nat) (a:Rw):Nat->List Rw->Option (Nat × Nat × Nat)
 | _,[]=>none
 | j,b::q=>match Dt qf i j a b 0 l with
  | some t=>some t
  | none=>Du qf l i a (j+1) q
def tP (qf:Rw->Int) (l:List Rw):Nat->List Rw->Option (Nat × Nat × Nat)
 | _,[]=>none
 | i,a::q=>match Du qf l i a 0 l with
  | some t=>some t
  | none=>tP qf l (i+1) q
def cnH (t:Nat × Nat × Nat):Hp:=[(1,.vars [I t.1,I t.2.1,I t.2.2])]
def cnV:Option (Nat × Nat × Nat)->V
 | some t=>.tup [B false,.agg [I t.1,I t.2.1,I t.2.2],I 0]
 | none=>.tup [B true,.agg [I 0,I 0,I 0],I 0]
structure Md (p:List Int) (n:Nat) (l:List Rw) (qf:Rw->Int):Prop where
 hN:l.length<=60
 hE:∀ r∈l,wd p n r (qf r)
theorem Sq {p:List Int} {n:Nat} {l:List Rw} {qf:Rw->Int} (H:Md p n l qf) {i j:Nat} {a b:Rw} (hi:i<l.length) (hj:j<l.length) (ha:nth [] l i=a) (hb:nth [] l j=b) (k:KL) (h0:Hp) (hh:h0.length=1):∀ (q c:List Rw),c++q=l ->
  (Dt qf i j a b c.length q=none->k (.exit 4) [] (cnH (0,0,0)))->(∀ t,Dt qf i j a b c.length q=some t->k .ret [B false,I 0] (cnH t)) ->
  lp (hH (CX Y) (.ptr 0 1 0 3) (lst ztD (l.map qf)) (I i) (lst di a) (I j) (lst di b) (mat l) (I l.length)) [] h0 [I c.length] (cnH (0,0,0)) k
 | [],c,hc,h1,h2=>by
  simp at hc;subst hc;refine am ?_;simp (disch:=try exact ac)[hH];exact h1 rfl
 | r::q,c,hc,h1,h2=>by
  have hcl:c.length<l.length:=by subst hc;simp
  have hr:nth [] l c.length=r:=by subst hc;simp
  have mem:∀ x,x<l.length->nth [] l x∈l:=fun x hx=>by rw [fK [] l x hx];exact Xx hx
  have Ea:=H.hE a (ha ▸ mem i hi);have Eb:=H.hE b (hb ▸ mem j hj);have Er:=H.hE r (by rw [<- hc];simp);have ds:=Uu (s:=a) (t:=b) (u:=r) (by have:=Ea.hN;have:=Ea.lr;omega) Ea.sr Eb.sr (by rw [Ea.lr,Eb.lr]) (by rw [Ea.lr,Er.lr]);have i1:=fun h=>ci row l h (k:=.i64) (i:=(c.length:Int)) aa aa
  have i2:=fun h=>cU row [] l h (j:=c.length) hcl
  rw [hr] at i2;simp only [Int.toNat_natCast] at i1;have hlen:=H.hN
  have x1:∀ (h:Hp) (x:Nat),x<l.length->ixV h 1 (lst ztD (l.map qf)) (I (x:Int))=some (.dptr ((l.map qf).map ztD) x):=fun h x hx=>by
   have:=ci ztD (l.map qf) h (k:=.i64) (i:=(x:Int)) aa ak;simpa only [Int.toNat_natCast] using this
  have x2:∀ (h:Hp) (x:Nat),x<l.length->ld1 h (.dptr ((l.map qf).map ztD) x)=some (S (itoa (qf (nth [] l x)))):=fun h x hx=>by
   have:=cU ztD 0 (l.map qf) h (j:=x) (by simpa using hx);rw [fK 0 (l.map qf) x (by simpa using hx),List.getElem_map,<- fK [] l x hx] at this;exact this
  have xi1:=fun h=>x1 h i hi
  have xi2:=fun h=>x2 h i hi
  have xj1:=fun h=>x1 h j hj
  have xj2:=fun h=>x2 h j hj
  have xc1:=fun h=>x1 h c.length hcl
  have xc2:=fun h=>x2 h c.length hcl
  rw [ha] at xi2;rw [hb] at xj2;rw [hr] at xc2;obtain ⟨ks,hks⟩:∃ ks,ks=l.map qf:=⟨_,rfl⟩;rw [<- hks] at xi1 xi2 xj1 xj2 xc1 xc2 ⊢;have wa:=sj (z:=qf a) (w:=qf b) (GU Ea.q1 Ea.q2) (GU Eb.q1 Eb.q2);have g1:(c.length:Int)<(l.length:Int):=aa;simp only [Dt] at h1 h2;have ih:=Sq H hi hj ha hb k h0 hh q (c++[r]) (by simpa using hc);rw [<- hks] at ih;refine am ?_
  simp (disch:=try exact ac)[hH,i1,i2,g1];refine cd ds ?_;have ne:=JF (qf a+qf b) (qf r);have hre:aC [] 0 h0 (cnH (0,0,0))=cnH (0,0,0):=bO 0 h0 _ (by simp [cnH];omega)
  have hst:stX (jh (cnH (0,0,0)) 0 1) (cnH (0,0,0)) 0 1 0 3 [V.d (D.int IntKind.i64 ↑i),V.d (D.int IntKind.i64 ↑j),V.d (D.int IntKind.i64 ↑c.length)]=some (cnH (i,j,c.length)):=rfl;by_cases hs:rH a b r=true
  ·rw [hs] at ds h1 h2 ⊢;simp (disch:=try exact ac)[xi1,xi2,xj1,xj2,xc1,xc2];refine cd wa ?_;by_cases he:qf a+qf b=qf r
   ·rw [if_neg (by simp [he])] at h1 h2;have ih':=ih (by simpa using h1) (by simpa using h2);simp (disch:=try exact ac)[xi1,xi2,xj1,xj2,xc1,xc2,ne,he,hre];simpa using ih'
   ·rw [if_pos ⟨rfl,he⟩] at h2;simp (disch:=try exact ac)[xi1,xi2,xj1,xj2,xc1,xc2,ne,he,hst];exact h2 _ rfl
  ·have hs':rH a b r=false:=by simpa using hs
   rw [if_neg (by simp [hs'])] at h1 h2;have ih':=ih (by simpa using h1) (by simpa using h2);rw [hs'] at ds ⊢;simp (disch:=try exact ac)[hre];simpa using ih'
theorem Sr {p:List Int} {n:Nat} {l:List Rw} {qf:Rw->Int} (H:Md p n l qf) {i:Nat} {a:Rw} (hi:i<l.length) (ha:nth [] l i=a) (k:KL) (h0:Hp) (hh:h0.length=1):∀ (q c:List Rw),c++q=l ->
  (Du qf l i a c.length q=none->k (.exit 2) [] (cnH (0,0,0)))->(∀ t,Du qf l i a c.length q=some t->k .ret [B false,I 0] (cnH t)) ->
  lp (hO (CX Y) (mat l) (.ptr 0 1 0 3) (lst ztD (l.map qf)) (I i) (lst di a) (mat l) (I l.length)) [] h0 [I c.length] (cnH (0,0,0)) k
 | [],c,hc,h1,h2=>by
  simp at hc;subst hc;refine am ?_;simp (disch:=try exact ac)[hO];exact h1 rfl
 | r::q,c,hc,h1,h2=>by
  have hcl:c.length<l.length:=by subst hc;simp
  have hr:nth [] l c.length=r:=by subst hc;simp
  have i1:=fun h=>ci row l h (k:=.i64) (i:=(c.length:Int)) aa aa
  have i2:=fun h=>cU row [] l h (j:=c.length) hcl
  rw [hr] at i2;simp only [Int.toNat_natCast] at i1;have hlen:=H.hN;have g1:(c.length:Int)<(l.length:Int):=aa;have l1:bm (mat l)=some (I l.length):=rfl;have hre:aC [] 0 h0 (cnH (0,0,0))=cnH (0,0,0):=bO 0 h0 _ (by simp [cnH];omega);have hre2:∀ t,aC [] 0 h0 (cnH t)=cnH t:=fun t=>bO 0 h0 _ (by simp [cnH];omega)
  simp only [Du] at h1 h2;have ih:=Sr H hi ha k h0 hh q (c++[r]) (by simpa using hc);have lp2:=fun k h1 h2=>Sq H hi hcl ha hr k (cnH (0,0,0)) rfl l [] rfl h1 h2
  obtain ⟨ks,hks⟩:∃ ks,ks=l.map qf:=⟨_,rfl⟩;rw [<- hks] at ih lp2 ⊢;refine am ?_;simp (disch:=try exact ac)[hO,i1,i2,g1,l1];refine lo (lp2 _ (fun g=>?_) (fun t g=>?_))
  ·simp only [List.length_nil] at g;rw [g] at h1 h2;have ih':=ih (by simpa using h1) (by simpa using h2);simp (disch:=try exact ac)[hre];simpa using ih'
  ·simp only [List.length_nil] at g;rw [g] at h2;have:=h2 t rfl;simp (disch:=try exact ac)[hre2];exact this
theorem Ss {p:List Int} {n:Nat} {l:List Rw} {qf:Rw->Int} (H:Md p n l qf) (k:KL) (h0:Hp) (hh:h0.length=1):∀ (q c:List Rw),c++q=l ->
  (tP qf l c.length q=none->k (.exit 0) [] (cnH (0,0,0)))->(∀ t,tP qf l c.length q=some t->k .ret [B false,I 0] (cnH t)) ->
  lp (ia (CX Y) (mat l) (.ptr 0 1 0 3) (lst ztD (l.map qf)) (mat l) (I l.length)) [] h0 [I c.length] (cnH (0,0,0)) k
 | [],c,hc,h1,h2=>by
  simp at hc;subst hc;refine am ?_;simp (disch:=try exact ac)[ia];exact h1 rfl
 | r::q,c,hc,h1,h2=>by
  have hcl:c.length<l.length:=by subst hc;simp
  have hr:nth [] l c.length=r:=by subst hc;simp
  have i1:=fun h=>ci row l h (k:=.i64) (i:=(c.length:Int)) aa aa
  have i2:=fun h=>cU row [] l h (j:=c.length) hcl
  rw [hr] at i2;simp only [Int.toNat_natCast] at i1;have hlen:=H.hN;have g1:(c.length:Int)<(l.length:Int):=aa;have l1:bm (mat l)=some (I l.length):=rfl;have hre:∀ t,aC [] 0 h0 (cnH t)=cnH t:=fun t=>bO 0 h0 _ (by simp [cnH];omega)
  simp only [tP] at h1 h2;have ih:=Ss H k h0 hh q (c++[r]) (by simpa using hc);have lp2:=fun k h1 h2=>Sr H hcl hr k (cnH (0,0,0)) rfl l [] rfl h1 h2
  obtain ⟨ks,hks⟩:∃ ks,ks=l.map qf:=⟨_,rfl⟩;rw [<- hks] at ih lp2 ⊢;refine am ?_;simp (disch:=try exact ac)[ia,i1,i2,g1,l1];refine lo (lp2 _ (fun g=>?_) (fun t g=>?_))
  ·simp only [List.length_nil] at g;rw [g] at h1 h2;have ih':=ih (by simpa using h1) (by simpa using h2);simp (disch:=try exact ac)[hre];simpa using ih'
  ·simp only [List.length_nil] at g;rw [g] at h2;have:=h2 t rfl;simp (disch:=try exact ac)[hre];exact this
theorem rV {p:List Int} {n:Nat} {l:List Rw} {qf:Rw->Int} (hp:p.length<1000000) (hc:dvC p n=0) (hm:∀ r∈l,mzB p [r]=0) (H:Md p n l qf):CP Y F.bV [lst di p,I n,mat l] (cnV (tP qf l 0 l)):=by
 refine ug ?_;have l1:bm (mat l)=some (I l.length):=rfl;have hN:=H.hN;have dc:=zH (p:=p) (n:=(n:Int)) hp;rw [hc] at dc;have ck:=kg (p:=p) (m:=l) hp aa;rw [qQ hN hm] at ck;have co:=FE aa H.hE;simp (disch:=try exact ac)[bV];refine cd dc ?_;simp (disch:=try exact ac)[];refine cd ck ?_
 simp (disch:=try exact ac)[];refine cd co ?_;simp (disch:=try exact ac)[l1];refine lo (Ss H _ (cnH (0,0,0)) rfl l [] rfl (fun g=>?_) (fun t g=>?_))
 ·simp only [List.length_nil] at g;rw [g];simp (disch:=try exact ac)[cnH,cnV];exact ⟨[(1,.vars [I 0,I 0,I 0])],by simp [aF,ai]⟩
 ·simp only [List.length_nil] at g;rw [g];simp (disch:=try exact ac)[cnH,cnV];exact ⟨[(1,.vars [I t.1,I t.2.1,I t.2.2])],by simp [aF,ai]⟩
def Uk (p:List Int) (a b:List Q):Int:=
 if kt (iB (0,1) a b) a b=true then (iB (0,1) a b).1 / ((iB (0,1) a b).2:Int)
 else match Ei (tq p a) (tq p b) (fN 1 a) (fN 1 b) with
  | some q=>q
  | none=>(G6 (tq p a) (tq p b) (fN 1 a) (fN 1 b) 6 64).getD 0
theorem Nh {p:List Int} {a b:List Q} {q:Int} (h:uZ p a b q):Uk p a b=q:=by
 unfold Uk;rcases h with ⟨h1,h2⟩ | ⟨h1,_,_,_,_,h2⟩
 ·rw [if_pos h1,h2]
 ·rw [if_neg (by simp [h1])];rcases h2 with ⟨h3,_⟩ | ⟨h3,_,_,_,h4⟩
  ·rw [h3]
  ·rw [h3,h4];rfl
def sgV (p:List Int) (s:List Q):Int:=(xk (tq p s)).getD 0
theorem K2 {p:List Int} {s:List Q} {z:Int} (h:vU p s z):sgV p s=z:=by
 unfold sgV;rw [h.2.2];rfl
def fv (p:List Int) (n:Nat) (r:List Int):Int:=Uk p (xp p (ofQ r) (eM p n)) (uR p (eM p n))
theorem xG {p r:List Int} {n:Nat} {q:Int} (E:wd p n r q):fv p n r=q:=Nh E.fl
def kX (p:List Int) (n:Nat) (r:List Int):List Q:=nB p n r (fv p n r) (sgV p (iG p n (fv p n r) (ofQ r)))
def M3 (p r:List Int) (n m:Nat):Bool:=decide (sgV p (dfS p (kX p n r) (kX p m r))<0)
theorem Cq {f g:Nat->Nat->Bool} {lim:Nat} (h:∀ n m,1<=m->m<n->n<=lim->f n m=g n m):∀ k n m,n+k<=lim+1->m<n->mH f k n m=mH g k n m
 | 0,_,_,_,_=>rfl
 | k+1,n,m,h1,h2=>by
  simp only [mH]
  have e:(m=0∨f n m=true)=(m=0∨g n m=true):=by
   by_cases hm:m=0
   ·simp [hm]
   ·rw [h n m aa h2 aa]
  simp only [e];split
  ·rw [Cq h k (n+1) n aa aa]
  ·exact Cq h k (n+1) m aa aa
theorem IT {p r:List Int} {lim:Nat} {qf zf:Nat->Int} {ls:Nat->Nat->Bool} (R:Vd p r lim qf zf ls):mH ls lim 1 0=mH (M3 p r) lim 1 0:=by
 refine Cq (lim:=lim) (fun n m h1 h2 h3=>?_) lim 1 0 aa aa
 have a1:∀ n,1<=n->n<=lim->kX p n r=nB p n r (qf n) (zf n):=fun n h1 h2=>by
  unfold kX;rw [xG (R.er n h1 h2),K2 (R.sg n h1 h2).1]
 obtain ⟨z,z1,z2⟩:=R.cm n m h1 h2 h3;unfold M3;rw [a1 n aa h3,a1 m h1 aa,K2 z1,z2]
theorem XI:mH (M3 [2,3,5] [-1,1,0]) 60 1 0=[1,2,3,5,7,12,29,41,53]:=aE
theorem XJ:iG [2,3,5] 12 (fv [2,3,5] 12 [-1,1,0]) (ofQ [-1,1,0])=[(19,12),(-1,1),(0,1)]:=aE
theorem XK:tP (fv [2,3,5] 4) [[-1,1,0],[-2,2,0]] 0 [[-1,1,0],[-2,2,0]]=some (0,0,1):=aE
theorem Uq:tP (fv [2,3,5] 12) [[-1,1,0],[-2,0,1],[-3,1,1]] 0 [[-1,1,0],[-2,0,1],[-3,1,1]]=none:=aE
theorem O1 {p r:List Int} {n:Nat} (hpc:pcB p=0) (hp:in6 p) (hl:0<p.length) (h0:0<n) (h1:n<=10000) (lr:r.length=p.length) (hr:∀ x∈r,x.natAbs<=9):wd p n r (fv p n r):=by
 obtain ⟨q,E,_⟩:=er6 hpc hp hl h0 h1 lr hr;rw [xG E];exact E
def pEx:List Int:=[2,3,5]
theorem wK:pcB pEx=0:=aE
theorem wL:in6 pEx:=by unfold in6;decide
theorem OZ:CP Y F.fJ [lst di pEx,I (12:Nat),mat [[-1,1,0]]] (.tup [lst szD [[(19,12),(-1,1),(0,1)]],I 0]):=by
 have h:=Fv (p:=pEx) (n:=12) (l:=[[-1,1,0]]) (qf:=fv pEx 12) ae ae aE aE (fun r hr=>by
  simp only [Zt,Zf,or_false] at hr;subst hr;exact O1 wK wL ae ae ae rfl ae)
 have e:List.map (erD pEx 12 (fv pEx 12)) [[-1,1,0]]=[[(19,12),(-1,1),(0,1)]]:=by
  show [erD pEx 12 (fv pEx 12) [-1,1,0]]=_
  rw [show erD pEx 12 (fv pEx 12) [-1,1,0]=_ from XJ]
 rw [e] at h;exact h
theorem LM:CP Y F.fX [lst di pEx,lst di [-1,1,0],I (60:Nat)] (.tup [lst di [1,2,3,5,7,12,29,41,53],I 0]):=by
 obtain ⟨qf,zf,ls,R⟩:=rc6 (p:=pEx) (r:=[-1,1,0]) (lim:=60) wK wL ae ae rfl ae;have h:=Lb R ae ae;rw [IT R,show mH (M3 pEx [-1,1,0]) 60 1 0=_ from XI] at h;exact h
theorem Up:CP Y F.bV [lst di pEx,I (4:Nat),mat [[-1,1,0],[-2,2,0]]] (cnV (some (0,0,1))):=by
 have h:=rV (p:=pEx) (n:=4) (l:=[[-1,1,0],[-2,2,0]]) (qf:=fv pEx 4) ae aE aE ⟨ae,fun r hr=>by
  simp only [Zt,Zf,or_false] at hr;rcases hr with rfl | rfl
  ·exact O1 wK wL ae ae ae rfl ae
  ·exact O1 wK wL ae ae ae rfl ae⟩
 rw [show tP (fv pEx 4) [[-1,1,0],[-2,2,0]] 0 [[-1,1,0],[-2,2,0]]=_ from XK] at h;exact h
theorem R4:CP Y F.bV [lst di pEx,I (12:Nat),mat [[-1,1,0],[-2,0,1],[-3,1,1]]] (cnV none):=by
 have h:=rV (p:=pEx) (n:=12) (l:=[[-1,1,0],[-2,0,1],[-3,1,1]]) (qf:=fv pEx 12) ae aE aE ⟨ae,fun r hr=>by
  simp only [Zt,Zf,or_false] at hr;rcases hr with rfl | rfl | rfl
  ·exact O1 wK wL ae ae ae rfl ae
  ·exact O1 wK wL ae ae ae rfl ae
  ·exact O1 wK wL ae ae ae rfl ae⟩
 rw [show tP (fv pEx 12) [[-1,1,0],[-2,0,1],[-3,1,1]] 0 [[-1,1,0],[-2,0,1],[-3,1,1]]=_ from Uq] at h;exact h
theorem fw:CP Y F.aT [] (B true):=by
 refine uN ?_;have hl3:∀ (a b c:Int) (H:Hp),dF 3 [D.int IntKind.i64 0] [(0,V.d (D.int IntKind.i64 a)),(1,V.d (D.int IntKind.i64 b)),(2,V.d (D.int IntKind.i64 c))] H=some ([di a,di b,di c],H):=fun a b c H=>by simp [dF,gC,jy,toD,di]
 have lm1:=fun n l H=>Eo n l H
 have lm2:=fun n l n' l' H=>OJ n l n' l' H
 have lm3:∀ (n:Nat) (l:List D) (n':Nat) (l':List D) (n'':Nat) (l'':List D) (H:Hp),dF 3 [D.pl (Value.slice none 0 0)] [(0,.d (.sl n l)),(1,.d (.sl n' l')),(2,.d (.sl n'' l''))] H=some ([.sl n l,.sl n' l',.sl n'' l''],H):=fun n l n' l' n'' l'' H=>by simp [dF,gC,jy,toD]
 have lq3:∀ (x y z:Q) (H:Hp),dF 3 [D.str [],D.str []] [(0,.agg (qT x)),(1,.agg (qT y)),(2,.agg (qT z))] H=some (aV (tx x)++aV (tx y)++aV (tx z),H):=fun x y z H=>by simp [dF,gC,jy,toD,qT,aV,tx]
 have ee:=OZ;simp (disch:=try exact ac)[aT,hl3,lm1,lm2,lm3];refine cd ee ?_;simp (disch:=try exact ac)[hl3,lm1,lm2,lm3];refine cd LM ?_;simp (disch:=try exact ac)[hl3,lm1,lm2,lm3];refine cd Up ?_;simp (disch:=try exact ac)[hl3,lm1,lm2,lm3,cnV];refine cd R4 ?_
 have le1:bm (lst szD [[(19,12),(-1,1),(0,1)]])=some (I 1):=rfl;have ix1:∀ h,ixV h 1 (lst szD [[(19,12),(-1,1),(0,1)]]) (I 0)=some (.dptr [szD [(19,12),(-1,1),(0,1)]] 0):=fun h=>ci szD [[(19,12),(-1,1),(0,1)]] h (k:=.i64) (i:=0) ae ae
 have n1:=xL (z:=19) (n:=12) ae ae ae ae ae;have n2:=xL (z:=-1) (n:=1) ae ae ae ae ae;have n3:=xL (z:=0) (n:=1) ae ae ae ae ae;have eq:=Fx (s:=[(19,12),(-1,1),(0,1)]) (t:=[(19,12),(-1,1),(0,1)]) ae;rw [decide_eq_true rfl] at eq
 simp (disch:=try exact ac)[cnV,le1,ix1];refine cd n1 ?_;simp (disch:=try exact ac)[];refine cd n2 ?_;simp (disch:=try exact ac)[];refine cd n3 ?_;simp (disch:=try exact ac)[lq3];refine cd eq ?_ (by simp [ai,aF,szD,Jk])
 have hl9:∀ (a b c d e f g i j:Int) (H:Hp),dF 9 [D.int IntKind.i64 0] [(0,V.d (D.int IntKind.i64 a)),(1,V.d (D.int IntKind.i64 b)),(2,V.d (D.int IntKind.i64 c)),(3,V.d (D.int IntKind.i64 d)),(4,V.d (D.int IntKind.i64 e)),(5,V.d (D.int IntKind.i64 f)),(6,V.d (D.int IntKind.i64 g)),(7,V.d (D.int IntKind.i64 i)),(8,V.d (D.int IntKind.i64 j))] H=some ([di a,di b,di c,di d,di e,di f,di g,di i,di j],H):=fun a b c d e f g i j H=>by simp [dF,gC,jy,toD,di]
 have si:=zV (s:=[1,2,3,5,7,12,29,41,53]) (t:=[1,2,3,5,7,12,29,41,53]) ae;rw [decide_eq_true rfl] at si;simp (disch:=try exact ac)[hl9];refine cd si ?_;have ba:biA [D.int IntKind.i64 0,D.int IntKind.i64 0,D.int IntKind.i64 0] BinOp.eql (V.agg [I 0,I 0,I 1]) (V.agg [V.d (D.int IntKind.i64 0),V.d (D.int IntKind.i64 0),V.d (D.int IntKind.i64 1)])=some (B true):=rfl
 simp (disch:=try exact ac)[ba]
def acA:List (List Int):=[[2,3,5],[2,3],[2,3,5,7],[2,3,7],[3,5,7],[2],[2,5,7],[2,3,11],[2,3,5,13],[2,3,7,11]]
def p13 (k:Nat):List Int:=acA.getD (k % 10) []
def upI (x:Int->Int) (p:Int):Int:=if p=2 then x p else x p+1
def lT (x:Int->Int):List (Int × Int)->Int × Int->Int × Int
 | [],a=>a
 | t::ts,a=>lT x ts (if t.2<0 then (a.1+upI x t.1*t.2,a.2+x t.1*t.2) else (a.1+x t.1*t.2,a.2+upI x t.1*t.2))
theorem Hb (n:Nat):∀ (ts:List (Int × Int)) (a:Int × Int),aM n ts a=lT (lgI n) ts a
 | [],a=>rfl
 | t::ts,a=>by
  simp only [aM,lT,upI,lgI];exact Hb n ts _
def fxI (p:Int):Int:=((u7 p.toNat).getD 0:Nat)
theorem Df {most:Int}:∀ (ts:List (Int × Int)) (a r:Int × Int),gv most ts a=some r->r=lT fxI ts a
 | [],a,r,h=>by
  simp only [gv,Z9] at h;exact h.symm
 | t::ts,a,r,h=>by
  simp only [gv] at h;split at h
  ·cases h
  ·split at h
   ·cases h
   ·rename_i f hf;have hx:fxI t.1=(f:Int):=by unfold fxI;rw [hf];rfl
    have ih:=Df ts _ r h;rw [ih,lT];congr 1;unfold upI;rw [hx];obtain ⟨b,hb⟩:∃ b:Int,b=if t.1=2 then (f:Int) else f+1:=⟨_,rfl⟩
    rw [<- hb];have hfb:(f:Int)<=b:=by rw [hb];split <;> omega
    by_cases hn:t.2<0
    ·rw [if_pos hn];have:t.2*b<=t.2*f:=Int.mul_le_mul_of_nonpos_left aa hfb;rw [Int.min_eq_right this,Int.max_eq_left this,Y4 b,Y4 (f:Int)]
    ·rw [if_neg hn];have:t.2*f<=t.2*b:=Yx hfb aa;rw [Int.min_eq_left this,Int.max_eq_right this,Y4 b,Y4 (f:Int)]
theorem vN {x:Int->Int}:∀ (ts:List (Int × Int)) (a:Int × Int),lT x ts a=(a.1+(lT x ts (0,0)).1,a.2+(lT x ts (0,0)).2)
 | [],a=>by simp [lT]
 | t::ts,a=>by
  simp only [lT];split
  ·rw [vN ts,vN ts (0+_,0+_)];simp only [Xm,Ws]
  ·rw [vN ts,vN ts (0+_,0+_)];simp only [Xm,Ws]
theorem De {x x':Int->Int} {K:Int} (hK:0<=K):∀ ts:List (Int × Int),(∀ t∈ts,x t.1*K<=x' t.1∧upI x' t.1<=upI x t.1*K)->(lT x ts (0,0)).1*K<=(lT x' ts (0,0)).1∧(lT x' ts (0,0)).2<=(lT x ts (0,0)).2*K
 | [],_=>by simp [lT]
 | t::ts,h=>by
  obtain ⟨h1,h2⟩:=h t ag;obtain ⟨i1,i2⟩:=De hK ts fun u hu=>h u (by simp [hu])
  simp only [lT];rw [vN ts,vN (x:=x') ts];by_cases hn:t.2<0
  ·rw [if_pos hn,if_pos hn];simp only [Xm,Yd];have m1:=Int.mul_le_mul_of_nonpos_right h2 (by omega:t.2<=0);have m2:=Int.mul_le_mul_of_nonpos_right h1 (by omega:t.2<=0);rw [Y9] at m1 m2;constructor <;> omega
  ·rw [if_neg hn,if_neg hn];simp only [Xm,Yd];have m1:=Zr h1 (by omega:0<=t.2);have m2:=Zr h2 (by omega:0<=t.2);rw [Y9] at m1 m2;constructor <;> omega
def Lm (x:Int->Int) (K:Nat) (p:Int):Bool:=decide (x p*K<=lgI 512 p) && decide (upI (lgI 512) p<=upI x p*K)
theorem Hq:∀ p∈c6P,Lm fxI (2 ^ 486) p=true∧Lm (lgI 64) (2 ^ 448) p=true∧Lm (lgI 128) (2 ^ 384) p=true∧Lm (lgI 256) (2 ^ 256) p=true:=aE
theorem QW {x:Int->Int} {K:Nat} {ts:List (Int × Int)} (h:∀ t∈ts,Lm x K t.1=true):(lT x ts (0,0)).1*K<=(lT (lgI 512) ts (0,0)).1∧(lT (lgI 512) ts (0,0)).2<=(lT x ts (0,0)).2*K:=by
 refine De aa ts fun t ht=>?_
 have:=h t ht;simp only [Lm,Z8,decide_eq_true_eq] at this;exact this
theorem Hj {x:Int->Int} {K:Nat} {ts:List (Int × Int)} (h:∀ t∈ts,Lm x K t.1=true) (hT:ko (lgI 512) ts≠0) :
  (0<=(lT x ts (0,0)).1->(ko (lgI 512) ts).sign=1)∧((lT x ts (0,0)).2<=0->(ko (lgI 512) ts).sign = -1):=by
 obtain ⟨n1,n2⟩:=QW h;obtain ⟨g1,g2,_⟩:=qK 512 ts;rw [Hb] at g1 g2;refine ⟨fun h0=>?_,fun h0=>?_⟩
 ·have:=Xg h0 (by omega:(0:Int)<=K);exact Ye aa
 ·have:=Xg (a:=-(lT x ts (0,0)).2) (b:=(K:Int)) aa aa;rw [Wy] at this;exact Yh aa
theorem Uy {ts:List (Int × Int)} (hT:ko (lgI 512) ts≠0) :
  (0<=(aM 512 ts (0,0)).1->(ko (lgI 512) ts).sign=1)∧((aM 512 ts (0,0)).2<=0->(ko (lgI 512) ts).sign = -1):=by
 obtain ⟨g1,g2,_⟩:=qK 512 ts;exact ⟨fun h0=>Ye aa,fun h0=>Yh aa⟩
theorem Tq {ts:List (Int × Int)} (hm:∀ t∈ts,t.1∈c6P) (hn:(ts.map Prod.fst).Nodup) (h0:∀ t∈ts,t.2≠0) (hl:ts.length<=6) (hb:∀ t∈ts,t.2.natAbs<9223372036854775808):xk ts=some (ko (lgI 512) ts).sign:=by
 cases ts with
 | nil=>rfl
 | cons t l=>
  obtain ⟨ts,hts⟩:∃ ts,ts=t::l:=⟨_,rfl⟩;have hne:ts≠[]:=by rw [hts];simp
  rw [<- hts] at hm hn h0 hl hb ⊢;have h1:=xe (C:=9223372036854775808) ts fun t ht=>Wb (hb t ht)
  have h2:ts.length*9223372036854775808<=6*9223372036854775808:=Z3 _ hl;have hb1:dU ts<=73786976294838206464:=aa
  have hT:ko (lgI 512) ts≠0:=by
   intro e;have hz:=zc (n:=512) BE rfl ND hm hb1 (by rw [e];simp);rw [hts] at hz hm hn h0;have:=hz t.1 (hm t ag);simp only [Zz,W8] at hn;rw [cfT,if_pos rfl,BC l hn.1] at this;exact h0 t ag aa
  have dec:=Mr (n:=512) BE rfl ND hm hn h0 hb1 hb1 hne;obtain ⟨f1,f2⟩:=Hj (x:=fxI) (K:=2 ^ 486) (fun t ht=>(Hq _ (hm t ht)).1) hT;have e:xk ts=if mC ts≠0 then some (mC ts) else yR ts 6 64:=by rw [hts];rfl
  rw [e];by_cases hq:mC ts≠0
  ·rw [if_pos hq];unfold mC at hq ⊢;split at hq
   ·exact absurd rfl hq
   ·rename_i a ha;have ea:=Df _ _ _ ha;rw [<- ea] at f1 f2;by_cases c1:0<=a.1
    ·rw [if_pos c1,f1 c1]
    ·rw [if_neg c1];rw [if_neg c1] at hq;by_cases c2:a.2<=0
     ·rw [if_pos c2,f2 c2]
     ·rw [if_neg c2] at hq;exact absurd rfl hq
  ·rw [if_neg hq]
   have step:∀ (r n:Nat) (nx:Option Int),(0<=(aM n ts (0,0)).1->(ko (lgI 512) ts).sign=1)->((aM n ts (0,0)).2<=0->(ko (lgI 512) ts).sign = -1)->(yR ts r (n*2)=some (ko (lgI 512) ts).sign∨(0<=(aM n ts (0,0)).1∨(aM n ts (0,0)).2<=0))->yR ts (r+1) n=some (ko (lgI 512) ts).sign:=by
    intro r n nx a1 a2 a3;unfold yR;by_cases c1:0<=(aM n ts (0,0)).1
    ·rw [if_pos c1,a1 c1]
    ·rw [if_neg c1];by_cases c2:(aM n ts (0,0)).2<=0
     ·rw [if_pos c2,a2 c2]
     ·rw [if_neg c2];rcases a3 with h | h | h
      ·exact h
      ·exact absurd h c1
      ·exact absurd h c2
   have l64:=Hj (x:=lgI 64) (K:=2 ^ 448) (fun t ht=>(Hq _ (hm t ht)).2.1) hT;have l128:=Hj (x:=lgI 128) (K:=2 ^ 384) (fun t ht=>(Hq _ (hm t ht)).2.2.1) hT;have l256:=Hj (x:=lgI 256) (K:=2 ^ 256) (fun t ht=>(Hq _ (hm t ht)).2.2.2) hT;rw [<- Hb] at l64 l128 l256;have l512:=Uy hT
   exact step 5 64 none l64.1 l64.2 (.inl (step 4 128 none l128.1 l128.2 (.inl (step 3 256 none l256.1 l256.2 (.inl (step 2 512 none l512.1 l512.2 (.inr dec)))))))
def rpl (b:Nat):List Q->List Int->Prop
 | x::s,a::r=>rp b x a∧rpl b s r
 | [],[]=>True
 | _,_=>False
def uA (z:Int):List Int->List Int->List Int
 | a::r,c::t=>(a+z*c)::uA z r t
 | _,_=>[]
theorem Ba {b:Nat}:∀ {s:List Q} {r:List Int},rpl b s r->r.length=s.length
 | [],[],_=>rfl
 | x::s,a::r,h=>by simp [Ba h.2]
 | [],_::_,h=>h.elim
 | _::_,[],h=>h.elim
theorem xn {b:Nat} (z:Int):∀ {o s:List Q} {r t:List Int},o.length=s.length->rpl b o r->rpl b s t->rpl b (kw (z,1) o s) (uA z r t)
 | [],[],[],[],_,_,_=>trivial
 | x::o,y::s,a::r,c::t,hl,h1,h2=>by
  simp only [kw,uA];exact ⟨K3 h1.1 (GA z h2.1),xn z (by simpa using hl) h1.2 h2.2⟩
 | [],_::_,_,_,hl,_,_=>by simp at hl
 | _::_,[],_,_,hl,_,_=>by simp at hl
 | [],[],_::_,_,_,h,_=>h.elim
 | [],[],[],_::_,_,_,h=>h.elim
 | _::_,_::_,[],_,_,h,_=>h.elim
 | _::_,_::_,_::_,[],_,_,h=>h.elim
theorem yT (b:Nat):∀ n:Nat,rpl b (List.replicate n (0,1)) (List.replicate n 0)
 | 0=>trivial
 | n+1=>by
  rw [List.replicate_succ,List.replicate_succ];exact ⟨xo b,yT b n⟩
theorem yU {b:Nat} (m:Nat):∀ {s:List Q} {r:List Int},rpl b s r->rpl (b*m) s (r.map fun a=>a*m)
 | [],[],_=>trivial
 | x::s,a::r,h=>⟨IJ m h.1,yU m h.2⟩
 | [],_::_,h=>h.elim
 | _::_,[],h=>h.elim
theorem ym (z:Int):∀ {r t L:List Int},r.length=t.length->cF (uA z r t) L=cF r L+z*cF t L
 | [],[],L,_=>by simp [uA,cF]
 | a::r,c::t,[],_=>by simp [uA,cF]
 | a::r,c::t,l::L,h=>by
  simp only [uA,cF,ym z (r:=r) (t:=t) (L:=L) (by simpa using h),Yd,Wl,Int.mul_assoc];omega
 | [],_::_,_,h=>by simp at h
 | _::_,[],_,h=>by simp at h
theorem zu:∀ (n:Nat) (L:List Int),cF (List.replicate n 0) L=0
 | 0,L=>by simp [cF]
 | n+1,[]=>by simp [List.replicate_succ,cF]
 | n+1,l::L=>by simp [List.replicate_succ,cF,zu n L]
theorem zw (m:Int):∀ (r L:List Int),cF (r.map fun a=>a*m) L=cF r L*m
 | [],L=>by simp [cF]
 | a::r,[]=>by simp [cF]
 | a::r,l::L=>by
  simp only [Zz,cF,zw m r L,Yd];rw [Y9]
theorem H8 (z:Int):∀ {r t:List Int},r.length=t.length->(uA z r t).length=r.length
 | [],[],_=>rfl
 | a::r,c::t,h=>by simp [uA,H8 z (r:=r) (t:=t) (by simpa using h)]
 | [],_::_,h=>by simp at h
 | _::_,[],h=>by simp at h
theorem P6 {b B:Nat}:∀ {s:List Q} {r:List Int},rpl b s r->(∀ a∈r,a.natAbs<=B)->bdL b B s
 | [],[],_,_=>fun x hx=>by simp at hx
 | x::s,a::r,h,hb=>by
  have ih:=P6 h.2 fun c hc=>hb c (by simp [hc])
  intro y hy;simp only [Zt] at hy;rcases hy with rfl | hy
  ·exact ⟨a,h.1,hb a ag⟩
  ·exact ih y hy
 | [],_::_,h,_=>h.elim
 | _::_,[],h,_=>h.elim
theorem SP {b B:Nat}:∀ {s:List Q},bdL b B s->∃ r,rpl b s r∧∀ a∈r,a.natAbs<=B
 | [],_=>⟨[],trivial,fun a h=>by simp at h⟩
 | x::s,h=>by
  obtain ⟨a,h1,h2⟩:=h x ag;obtain ⟨r,h3,h4⟩:=SP (s:=s) fun y hy=>h y (by simp [hy])
  refine ⟨a::r,⟨h1,h3⟩,fun c hc=>?_⟩;simp only [Zt] at hc;rcases hc with rfl | hc
  ·exact h2
  ·exact h4 c hc
theorem Ia {b d:Nat} (h:Int->Int) (hb:0<b) (hd:d ∣ b):∀ {p:List Int} {s:List Q} {r:List Int},s.length=p.length->rpl b s r->(∀ x∈s,x.2 ∣ d)->ko h (dI d p s)*((b / d:Nat):Int)=cF r (p.map h)
 | [],[],[],_,_,_=>by simp [dI,ko,cF]
 | c::p,x::s,a::r,hl,hr,hv=>by
  have ih:=Ia h hb hd (p:=p) (s:=s) (r:=r) (by simpa using hl) hr.2 fun y hy=>hv y (by simp [hy])
  have hx:=hv x ag;have p1:=hr.1.1.1;have d0:0<d:=Nat.pos_of_dvd_of_pos hd hb
  have key:x.1*((d / x.2:Nat):Int)*((b / d:Nat):Int)=a:=by
   obtain ⟨u,hu⟩:=hx;obtain ⟨v,hv'⟩:=hd;have e1:d / x.2=u:=by rw [hu];exact Yq _ p1
   have e2:b / d=v:=by rw [hv'];exact Yq _ d0
   rw [e1,e2];have h2:=hr.1.2;rw [hv',hu,Int.natCast_mul,Int.natCast_mul] at h2;refine Yi (a:=(x.2:Int)) aa ?_;rw [<- h2];simp only [Y4,W5,Int.mul_assoc]
  simp only [dI];split
  ·rename_i h0;rw [h0] at key;simp only [Int.zero_mul] at key;rw [ih,Zz,cF,<- key];simp
  ·rw [ko,Yd,ih,Zz,cF];simp only;rw [Y9,key]
 | [],_::_,_,hl,_,_=>by simp at hl
 | _::_,[],_,hl,_,_=>by simp at hl
 | [],[],_::_,_,h,_=>h.elim
 | _::_,_::_,[],_,h,_=>h.elim
theorem Gw {z k:Int} (hk:0<k):(z*k).sign=z.sign:=by
 rw [Int.sign_mul,Ye hk,Int.mul_one]
def L5 (p:List Int):List Int:=p.map (lgI 512)
theorem PZ {p:List Int} {s:List Q} {r:List Int} {b B:Nat} (hp:in6 p) (hl:s.length=p.length) (hb:0<b) (hr:rpl b s r) (hB:∀ a∈r,a.natAbs<=B) (hB2:B<9223372036854775808):vU p s ((cF r (L5 p)).sign):=by
 have bd:=P6 hr hB;have h1:=Ga hp hb bd hB2;have hd:∀ x∈s,0<x.2:=fun x hx=>(DC hb bd x hx).1
 have hll:(tq p s).length<=6:=by
  have:=pZ (d:=fN 1 s) p s;have:=hp.2.1;unfold tq;omega
 have dv:∀ x∈s,x.2 ∣ fN 1 s:=fun x hx=>(pi (s:=s) (d:=1)).2 x hx
 have d0:0<fN 1 s:=mK ae hd;have dd:=Hy bd;have hs:=Tq (uC hp) (BW hp.1) (BX d0 fun x hx=>⟨hd x hx,dv x hx⟩) hll fun t ht=>(h1.2 t ht).2.2
 refine ⟨GL h1,Hr (uC hp),?_⟩;rw [hs];have:=Ia (lgI 512) hb dd hl hr dv;unfold L5;rw [<- this,Gw]
 ·rfl
 ·have:=Wc (Ya hb dd) d0;omega
theorem aaM {p:List Int} {a b:List Q} {r t:List Int} {n m A B:Nat} (hp:in6 p) (la:a.length=p.length) (lb:b.length=p.length) (n0:0<n) (m0:0<m) (ha:rpl n a r) (hb:rpl m b t) (hA:∀ x∈r,x.natAbs<=A) (hB:∀ x∈t,x.natAbs<=B) (hC:A*m+B*n<9223372036854775808) :
  vU p (dfS p a b) ((cF r (L5 p)*m-cF t (L5 p)*n).sign):=by
 have lr:=Ba ha;have lt:=Ba hb;have r1:=yU m ha;have r2:=yU n hb;rw [Zy m n] at r2;have z:=yT (n*m) p.length;have s1:=xn 1 (by simp [la]) z r1;have s2:=xn (-1) (by rw [sZ _ _ _ (by simp [la]),la,lb]) s1 r2;have e:kw (-1,1) (kw (1,1) (List.replicate p.length (0,1)) a) b=dfS p a b:=by simp [dfS,kI,qU]
 rw [e] at s2;have h1:(uA 1 (List.replicate p.length 0) (r.map fun a=>a*(m:Int))).length=p.length:=by rw [H8 _ (by simp [lr,la])];simp
 have hd:cF (uA (-1) (uA 1 (List.replicate p.length 0) (r.map fun a=>a*(m:Int))) (t.map fun a=>a*(n:Int))) (L5 p)=cF r (L5 p)*m-cF t (L5 p)*n:=by
  rw [ym _ (by rw [h1];simp [lt,lb]),ym _ (by simp [lr,la]),zu,zw,zw];omega
 have ld:(dfS p a b).length=p.length:=by rw [<- e,sZ _ _ _ (by rw [sZ _ _ _ (by simp [la]),la,lb]),lb]
 rw [<- hd];refine PZ hp ld (Ys n0 m0) s2 (B:=A*m+B*n) ?_ hC
 have vb:∀ (z:Int) (X Y:Nat) (u v:List Int),(∀ x∈u,x.natAbs<=X)->(∀ x∈v,x.natAbs<=Y)->∀ x∈uA z u v,x.natAbs<=X+z.natAbs*Y:=by
  intro z X Y u
  induction u with
  | nil=>intro v _ _ x hx;simp [uA] at hx
  | cons a u ih=>
   intro v h1 h2 x hx;cases v with
   | nil=>simp [uA] at hx
   | cons c v=>
    simp only [uA,Zt] at hx;rcases hx with rfl | hx
    ·have q1:=h1 a ag;have q2:=h2 c ag;have q3:=Wo a (z*c);rw [Zo] at q3;have q4:=Z5 z.natAbs q2;omega
    ·exact ih v (fun y hy=>h1 y (by simp [hy])) (fun y hy=>h2 y (by simp [hy])) x hx
 have q1:∀ x∈r.map (fun a=>a*(m:Int)),x.natAbs<=A*m:=fun x hx=>by
  obtain ⟨y,hy,rfl⟩:=Zi.1 hx;rw [Zo,Int.natAbs_natCast];exact Z3 _ (hA y hy)
 have q2:∀ x∈t.map (fun a=>a*(n:Int)),x.natAbs<=B*n:=fun x hx=>by
  obtain ⟨y,hy,rfl⟩:=Zi.1 hx;rw [Zo,Int.natAbs_natCast];exact Z3 _ (hB y hy)
 have q3:=vb 1 0 (A*m) (List.replicate p.length 0) _ (fun x hx=>by rw [Y5] at hx;rw [hx.2];simp) q1;have q4:=vb (-1) _ (B*n) _ _ q3 q2;intro x hx;have:=q4 x hx;simpa using this
structure uu (p:List Int) (l:List Rw):Prop where
 pc:pcB p=0
 i6:in6 p
 hl:0<p.length
 rw:∀ r∈l,r.length=p.length∧∀ x∈r,x.natAbs<=9
def Ll (b:Nat) (s:List Q):List Int:=s.map fun x=>x.1*((b / x.2:Nat):Int)
theorem Gz {b:Nat}:∀ {s:List Q} {r:List Int},rpl b s r->r=Ll b s
 | [],[],_=>rfl
 | x::s,a::r,h=>by
  have ih:=Gz h.2;obtain ⟨⟨hx,e⟩,_⟩:=h;obtain ⟨u,hu⟩:=yV ⟨hx,e⟩;have p1:=hx.1;have e1:b / x.2=u:=by rw [hu];exact Yq _ p1
  have:a=x.1*(u:Int):=by
   refine Yi (a:=(x.2:Int)) aa ?_;rw [<- e,hu,Int.natCast_mul,Int.mul_assoc,Y4 (x.2:Int)]
  simp only [Ll,Zz];rw [e1,this,ih];rfl
 | [],_::_,h=>h.elim
 | _::_,[],h=>h.elim
theorem GO {b B:Nat} {s:List Q} (h:bdL b B s):rpl b s (Ll b s)∧∀ a∈Ll b s,a.natAbs<=B:=by
 obtain ⟨r,h1,h2⟩:=SP h;have e:=Gz h1;subst e;exact ⟨h1,h2⟩
def vlS (p:List Int) (n:Nat) (s:List Q):Int:=cF (Ll n s) (L5 p)
theorem aaU {p:List Int} {a b:List Q} {n m A B:Nat} (hp:in6 p) (la:a.length=p.length) (lb:b.length=p.length) (n0:0<n) (m0:0<m) (ha:bdL n A a) (hb:bdL m B b) (hC:A*m+B*n<9223372036854775808) :
  vU p (dfS p a b) ((vlS p n a*m-vlS p m b*n).sign):=by
 obtain ⟨h1,h2⟩:=GO ha;obtain ⟨h3,h4⟩:=GO hb;exact aaM hp la lb n0 m0 h1 h3 h2 h4 hC
def zQ (p:List Int):List Q:=List.replicate p.length (0,1)
theorem WC {p:List Int} {l:List Rw} (G:uu p l) {r:Rw} (hr:r∈l) {n:Nat} (n0:0<n) (n1:n<=100):wd p n r (fv p n r)∧bdL n 8645700 (iG p n (fv p n r) (ofQ r)):=by
 obtain ⟨lr,h9⟩:=G.rw r hr;obtain ⟨q,E,hq⟩:=er6 G.pc G.i6 G.hl n0 aa lr h9;have e:=xG E;rw [e];refine ⟨E,BG (DF G.hl n0 h9) ?_⟩;have m1:(18*n+1)*n<=1801*100:=Zq aa n1;omega
theorem abX {k:Nat}:∀ {s:List Q},s.length=k->(∀ x∈s,okQ x)->kw (0,1) (List.replicate k (0,1)) s=List.replicate k (0,1):=by
 induction k with
 | zero=>intro s h _;simp [kw]
 | succ k ih=>
  intro s h hs;cases s with
  | nil=>simp at h
  | cons x s=>
   rw [List.replicate_succ,kw,ih (by simpa using h) fun y hy=>hs y (by simp [hy])];have hx:=hs x ag;have e1:mI x (0,1)=(0,1):=jH ⟨Wd,ag⟩ (by simpa using hx.1) ag;have e2:pz ((0,1):Q) (0,1)=(0,1):=ae;rw [e1,e2]
theorem DI {p:List Int} {l:List Rw} (G:uu p l) {r:Rw} (hr:r∈l) {n:Nat} (n0:0<n) (n1:n<=100) :
  (kX p n r).length=p.length∧bdL n 8645700 (kX p n r)∧0<=vlS p n (kX p n r)∧(vlS p n (kX p n r)<=0->kX p n r=zQ p) ∧
  CP Y F.ir [lst di p,I n,lst di r] (.tup [szV (kX p n r),I 0])∧CP Y F.fS [lst di p,I n,lst di r] (szV (kX p n r)):=by
 obtain ⟨E,bo⟩:=WC G hr n0 n1;have lo:(iG p n (fv p n r) (ofQ r)).length=p.length:=qk G.hl (by simp [ofQ,E.lr]);obtain ⟨h1,h2⟩:=GO bo;have hs:=PZ G.i6 lo n0 h1 h2 ae;obtain ⟨v,hv⟩:∃ v,v=cF (Ll n (iG p n (fv p n r) (ofQ r))) (L5 p):=⟨_,rfl⟩;rw [<- hv] at hs;obtain ⟨z,hz⟩:∃ z,z=v.sign:=⟨_,rfl⟩;rw [<- hz] at hs;have zv:=K2 hs
 have hz3:z = -1∨z=0∨z=1:=by
  rw [hz];rcases W4 v 0 with h | h | h
  ·left;exact Yh h
  ·right;left;rw [h];rfl
  ·right;right;exact Ye h
 have z1 : -1<=z:=aa;have z2:z<=1:=aa;have ea:kX p n r=nB p n r (fv p n r) z:=by unfold kX;rw [zv]
 have la:(kX p n r).length=p.length:=by rw [ea];exact zK G.hl E.lr
 have ba:bdL n 8645700 (kX p n r):=by
  have:=vS (n:=p.length) (z:=rW z) bo;rw [ea];unfold nB KC;refine BG this ?_;exact Z1 (Z3 _ (NN z1 z2)) aa
 have ra:rpl n (kX p n r) (uA (rW z) (List.replicate p.length 0) (Ll n (iG p n (fv p n r) (ofQ r)))):=by
  have:=xn (rW z) (by simp [lo]) (yT n p.length) h1;rw [ea];simpa [nB,KC,kI,qU] using this
 have va:vlS p n (kX p n r)=rW z*v:=by
  unfold vlS;rw [<- Gz ra,ym _ (by rw [Ba h1,lo];simp),zu,<- hv];omega
 refine ⟨la,ba,?_,?_,?_,?_⟩
 ·rw [va];rcases hz3 with h | h | h
  ·have:v<0:=by
    rcases W4 v 0 with h' | h' | h'
    ·exact h'
    ·rw [h'] at hz;simp at hz;omega
    ·rw [Ye h'] at hz;omega
   rw [h]
   show 0<=(-1:Int)*v
   omega
  ·rw [h];show 0<=(0:Int)*v;omega
  ·have:0<v:=by
    rcases W4 v 0 with h' | h' | h'
    ·rw [Yh h'] at hz;omega
    ·rw [h'] at hz;simp at hz;omega
    ·exact h'
   rw [h]
   show 0<=(1:Int)*v
   omega
 ·intro hle
  have hz0:z=0:=by
   rcases hz3 with h | h | h
   ·exfalso
    have:v<0:=by
     rcases W4 v 0 with h' | h' | h'
     ·exact h'
     ·rw [h'] at hz;simp at hz;omega
     ·rw [Ye h'] at hz;omega
    rw [va,h] at hle;have:rW (-1)*v = -v:=by show (-1:Int)*v = -v;omega
    omega
   ·exact h
   ·exfalso
    have:0<v:=by
     rcases W4 v 0 with h' | h' | h'
     ·rw [Yh h'] at hz;omega
     ·rw [h'] at hz;simp at hz;omega
     ·exact h'
    rw [va,h] at hle;have:rW 1*v=v:=by show (1:Int)*v=v;omega
    omega
  rw [ea,hz0];have:=abX lo (DC n0 bo);simpa [nB,KC,kI,qU,zQ,rW] using this
 ·have:=Ke E hs z1 z2;rw [ea];exact this
 ·have:=T2 E hs z1 z2;rw [ea];exact this
end Go.Vm
