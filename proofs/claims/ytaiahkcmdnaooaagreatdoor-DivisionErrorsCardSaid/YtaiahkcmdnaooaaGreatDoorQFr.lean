/- Fractions: of, lowest, both, Add, Mul, Div, Floor, Of. -/
import Derived.Test.YtaiahkcmdnaooaaGreatDoorQCkShift
import Derived.Test.YtaiahkcmdnaooaaGreatDoorQDcY
import Derived.Test.YtaiahkcmdnaooaaGreatDoorQLibSl
import Derived.Test.YtaiahkcmdnaooaaGreatDoorQT
import Derived.Test.YtaiahkcmdnaooaaGreatDoorQWsX
set_option linter.unusedVariables false
set_option linter.unusedSimpArgs false
namespace Go.Vm
open Go Go.Am Go.Big
abbrev Q:=Int × Nat
def okQ (x:Q):Prop:=0<x.2∧Nat.gcd x.1.natAbs x.2=1
def qT (x:Q):List V:=[S (itoa x.1),S (ah x.2)]
def ju (n:Int) (d:Nat):Q:=(n / (Nat.gcd n.natAbs d:Nat),d / Nat.gcd n.natAbs d)
def oH (a b:Q):Q:=ju (a.1*b.2+b.1*a.2) (a.2*b.2)
def lF (a b:Q):Q:=ju (a.1*b.1) (a.2*b.2)
def te (n d:Int):Q:=if d<0 then ju (-n) d.natAbs else ju n d.natAbs
def xH (a b:Q):Q:=te (a.1*b.2) (a.2*b.1)
theorem Pk {g:Nat} {n:Int} (h:g ∣ n.natAbs):(g:Int) ∣ n:=Int.natAbs_dvd_natAbs.1 (by simpa using h)
theorem uT (n:Int) {d:Nat} (hd:0<d):okQ (ju n d):=by
 have hg:0<Nat.gcd n.natAbs d:=Xn _ hd;obtain ⟨g,hgg⟩:∃ g,g=Nat.gcd n.natAbs d:=⟨_,rfl⟩;have h1:g ∣ n.natAbs:=by rw [hgg];exact W4 ..
 have h2:g ∣ d:=by rw [hgg];exact Nat.gcd_dvd_right ..
 unfold ju;rw [<- hgg] at hg ⊢;refine ⟨Wm (X9 hd h2) hg,?_⟩
 have e:(n / (g:Int)).natAbs=n.natAbs / g:=by
  rw [Int.natAbs_ediv_of_dvd (Pk h1),Int.natAbs_natCast]
 simp only [e];rw [Nat.gcd_div h1 h2,<- hgg,Nat.div_self hg]
theorem Gl {n:Int} {d:Nat} (h:Nat.gcd n.natAbs d=1):ju n d=(n,d):=by
 unfold ju;rw [h];simp
theorem Ee (n:Int) (d:Nat):(ju n d).1.natAbs<=n.natAbs∧(ju n d).2<=d:=by
 obtain ⟨g,hgg⟩:∃ g,g=Nat.gcd n.natAbs d:=⟨_,rfl⟩;have h1:g ∣ n.natAbs:=by rw [hgg];exact W4 ..
 unfold ju;rw [<- hgg];constructor
 ·simp only;rw [Int.natAbs_ediv_of_dvd (Pk h1),Int.natAbs_natCast];exact Yq ..
 ·exact Yq ..
theorem Qq (k:KL) (h:Hp) (h0:Hp) (hl:h.length=h0.length):∀ (m:Nat) (a b:Int),b.natAbs<=m->a.natAbs<9223372036854775807->b.natAbs<9223372036854775807 ->
  (∀ c:Int,c.natAbs=Nat.gcd a.natAbs b.natAbs->k (.exit 0) [I c] h)->lp (jQ (CX Y)) [] h0 [I a,I b] h k:=by
 intro m
 induction m with
 | zero=>
  intro a b hb ha hb2 hk;have hb0:b=0:=aa;subst hb0;refine ax ?_;simp (disch:=try exact ac)[jQ];exact hk a af
 | succ m ih=>
  intro a b hb ha hb2 hk;refine ax ?_;by_cases hb0:b=0
  ·subst hb0;simp (disch:=try exact ac)[jQ];exact hk a af
  ·have hr:(a.tmod b).natAbs<b.natAbs:=by
    rw [Int.natAbs_tmod];exact Y3 _ aa
   have e:Nat.gcd b.natAbs (a.tmod b).natAbs=Nat.gcd a.natAbs b.natAbs:=by
    rw [Int.natAbs_tmod,Wp,<- Nat.gcd_rec,Wp]
   simp (disch:=try exact ac)[jQ,hb0,hl];exact ih b (a.tmod b) aa aa aa (fun c hc=>hk c (hc.trans e))
theorem kA {a b a' b':List UInt8} {h:Hp} (e1:a'=a) (e2:b'=b):out (.agg [S a,S b]) (.agg [S a',S b']) h:=by
 subst e1;subst e2;exact ⟨h,by simp [bY,aH,norm]⟩
theorem J0 {n:Int} {d:Nat} (hd:0<d) (hn:n.natAbs<9223372036854775807) (hd2:d<9223372036854775807):CP Y F.f9 [I n,I d] (.agg (qT (ju n d))):=by
 refine BA ?_;obtain ⟨g,hgg⟩:∃ g,g=Nat.gcd n.natAbs d:=⟨_,rfl⟩;have hg:0<g:=by rw [hgg];exact Xn _ hd
 have h1:g ∣ n.natAbs:=by rw [hgg];exact W4 ..
 have h2:g ∣ d:=by rw [hgg];exact Nat.gcd_dvd_right ..
 have hgd:g<=d:=X9 hd h2;have e1:n.tdiv (g:Int)=n / (g:Int):=Int.tdiv_eq_ediv_of_dvd (Pk h1);have e2:(d:Int).tdiv (g:Int)=((d / g:Nat):Int):=by rw [Zy aa,<- Int.natCast_ediv]
 have e3:(n / (g:Int)).natAbs<=n.natAbs:=by
  rw [Int.natAbs_ediv_of_dvd (Pk h1),Int.natAbs_natCast];exact Yq ..
 have e4:d / g<=d:=Yq ..;have eq:qT (ju n d)=[S (itoa (n / (g:Int))),S (ah (d / g))]:=by unfold qT ju;rw [<- hgg]
 rw [eq];generalize n / (g:Int)=nq at *;generalize d / g=dq at *;have i1:=yz (z:=nq) aa aa;have i2:=yz (z:=(dq:Int)) aa aa;rw [fE] at i2;have hg0:¬ (g:Int)=0:=aa;simp (disch:=try exact ac)[f9];refine lo (Qq _ _ _ rfl (d:Int).natAbs n d (Z7 _) hn aa (fun c hc=>?_));rw [Int.natAbs_natCast,<- hgg] at hc
 simp (disch:=try exact ac)[]
 have tail:∀ u:Unit,bnd (biI .quo (I n) (I g)) fun v6=>
   cal (CX Y).p [(1,.vars [.d (.str []),.d (.str [])])] (.fn F.strconv_Itoa [] []) [v6] fun v7 h=>
   bnd (biI .quo (I d) (I g)) fun v8=>
   cal (CX Y).p h (.fn F.strconv_Itoa [] []) [v8] fun v9 h=>
   bnd (bld [(0,1),(1,1)] [.str [],.str []] [(0,v7),(1,v9)]) fun v10=>
   stD h 2 (.ptr 0 1 0 2) v10 fun _ h=>
   bnd (ldA h 2 (.ptr 0 1 0 2)) fun v12=>
   out (.agg [S (itoa nq),S (ah dq)]) v12 h:=by
  intro _;simp (disch:=try exact ac)[e1,e2,hg0];refine cd i1 ?_;simp (disch:=try exact ac)[e2,hg0];refine cd i2 ?_;simp (disch:=try exact ac)[];exact kA rfl rfl
 by_cases hc0:c<0
 ·have hcg : -c=(g:Int):=aa;refine fk (l:=[I g]) (h:=[(1,.vars [.d (.str []),.d (.str [])])]) (fun q=>by simp (disch:=try exact ac)[hc0,hcg]) ?_;exact tail ()
 ·have hcg:c=(g:Int):=aa;subst hcg;refine fk (l:=[I g]) (h:=[(1,.vars [.d (.str []),.d (.str [])])]) (fun q=>by simp (disch:=try exact ac)[hc0]) ?_;exact tail ()
def qL (K:Nat) (x:Q):Prop:=ndg x.1.natAbs<=K∧ndg x.2<=K
theorem Ef {n:Int} {d K:Nat} (h1:ndg n.natAbs<=K) (h2:ndg d<=K):qL K (ju n d):=
 ⟨Z2 (cS (Ee n d).1) h1,Z2 (cS (Ee n d).2) h2⟩
theorem qL.mono {K L:Nat} {x:Q} (h:qL K x) (hl:K<=L):qL L x:=⟨Z2 h.1 hl,Z2 h.2 hl⟩
theorem jN {z w:Int} {k:Nat} (hz:ndg z.natAbs<=k) (hw:ndg w.natAbs<=k):ndg (z+w).natAbs<=k+1:=
 Z2 (cS (Int.natAbs_add_le z w)) (oN hz hw)
theorem cT {z w:Int}:ndg (z*w).natAbs<=ndg z.natAbs+ndg w.natAbs:=by
 rw [Zm];exact oM
theorem SG {a b:Q} {K L:Nat} (ha:qL K a) (hb:qL L b):qL (K+L+1) (oH a b):=by
 refine Ef (jN ?_ ?_) ?_
 ·have:=cT (z:=a.1) (w:=(b.2:Int));rw [Int.natAbs_natCast] at this;have:=ha.1;have:=hb.2;omega
 ·have:=cT (z:=b.1) (w:=(a.2:Int));rw [Int.natAbs_natCast] at this;have:=hb.1;have:=ha.2;omega
 ·have:=oM (a:=a.2) (b:=b.2);have:=ha.2;have:=hb.2;omega
theorem Nq {a b:Q} {K L:Nat} (ha:qL K a) (hb:qL L b):qL (K+L) (lF a b):=by
 refine Ef ?_ ?_
 ·have:=cT (z:=a.1) (w:=b.1);have:=ha.1;have:=hb.1;omega
 ·have:=oM (a:=a.2) (b:=b.2);have:=ha.2;have:=hb.2;omega
theorem Qd {a b:Q} (ha:okQ a) (hb:okQ b):okQ (oH a b):=uT _ (Yz ha.1 hb.1)
theorem Jy {a b:Q} (ha:okQ a) (hb:okQ b):okQ (lF a b):=uT _ (Yz ha.1 hb.1)
theorem E4 {z w:Int} (hw0:0<w) (hz:ndg z.natAbs<900000) (hw:ndg w.natAbs<900000):CP Y F.aP [S (itoa z),S (itoa w)] (.tup [S (itoa (z / w)),S (itoa (z % w)),I 0]):=by
 obtain ⟨m,rfl⟩:∃ m:Nat,w=m:=⟨w.toNat,aa⟩;rw [fE];exact pV aa hz (by simpa using hw)
theorem wz {n d:Int} (hd:d≠0) (hn:ndg n.natAbs<800000) (hd2:ndg d.natAbs<800000):CP Y F.aW [S (itoa n),S (itoa d)] (.agg (qT (te n d))):=by
 refine vf ?_;have sg0:=jf d
 have tail:∀ (n:Int) (d:Nat),0<d->ndg n.natAbs<800000->ndg d<800000 ->
   cal (CX Y).p [(1,.vars [.d (.str []),.d (.str [])])] (.fn F.kT [] []) [S (itoa n),S (ah d)] fun v6 h=>
  bnd (biS .neq v6 (.d (.str [49]))) fun v7=>
  jn (fun l8 h=>
   bnd (bld [(0,1),(1,1)] [.str [],.str []] [(0,(ge l8 0)),(1,(ge l8 1))]) fun v10=>
   stD h 2 (.ptr 0 1 0 2) v10 fun _ h=>
   bnd (ldA h 2 (.ptr 0 1 0 2)) fun v12=>
   out (.agg (qT (ju n d))) v12 h) fun q9=>
   cnd v7 (
    cal (CX Y).p h (.fn F.aP [] []) [S (itoa n),v6] fun v13 h=>
    ext v13 0 fun v14=>
    ext v13 1 fun v15=>
    ext v13 2 fun v16=>
    cal (CX Y).p h (.fn F.aP [] []) [S (ah d),v6] fun v17 h=>
    ext v17 0 fun v18=>
    ext v17 1 fun v19=>
    ext v17 2 fun v20=>
    q9 [v14,v18] h) (
    q9 [S (itoa n),S (ah d)] h):=by
  intro n d hd hn hd2;have gc:=JY (z:=n) (w:=(d:Int)) aa (by simpa using Nat.lt_trans hd2 ae);rw [fE,Int.natAbs_natCast] at gc;obtain ⟨g,hgg⟩:∃ g,g=Nat.gcd n.natAbs d:=⟨_,rfl⟩;have hg:0<g:=by rw [hgg];exact Xn _ hd
  have hgd:g<=d:=X9 hd (by rw [hgg];exact Nat.gcd_dvd_right ..);have eq:ju n d=(n / (g:Int),d / g):=by unfold ju;rw [<- hgg]
  rw [<- hgg] at gc;rw [eq];have ng:ndg g<900000:=Zf (cS hgd) aa;have d1:=pV (z:=n) hg aa ng;have d2:=po (a:=d) hg aa ng;simp (disch:=try exact ac)[];refine cd gc ?_;by_cases h1:g=1
  ·subst h1;rw [dJ];simp (disch:=try exact ac)[];refine fk (l:=[S (itoa n),S (ah d)]) (h:=[(1,.vars [.d (.str []),.d (.str [])])]) (fun q=>by simp (disch:=try exact ac)[]) ?_;simp (disch:=try exact ac)[];refine kA af af
  ·have h49:¬ ah g=[49]:=fun h=>h1 (mA (h.trans dJ.symm))
   simp (disch:=try exact ac)[h49];refine aC ?_;simp (disch:=try exact ac)[h49];refine cd d1 ?_;simp (disch:=try exact ac)[];refine cd d2 ?_;simp (disch:=try exact ac)[];exact kA rfl rfl
 simp (disch:=try exact ac)[aW];refine cd sg0 ?_;by_cases hneg:d<0
 ·have s1:sgn d = -1:=by unfold sgn;rw [if_neg hd,if_pos hneg]
  rw [s1];have hd3:ndg (-d).natAbs<800000:=by rw [Wr];exact hd2
  have n1:=sN (z:=n) aa;have n2:=sN (z:=d) aa;have e:te n d=ju (-n) d.natAbs:=if_pos hneg;have ed:itoa (-d)=ah d.natAbs:=by rw [show -d=((d.natAbs:Nat):Int) by omega,fE]
  rw [e];rw [ed] at n2;simp (disch:=try exact ac)[];refine aC ?_;simp (disch:=try exact ac)[];refine cd n1 ?_;simp (disch:=try exact ac)[];refine cd n2 ?_;have:=tail (-n) d.natAbs aa (by rw [Wr];exact hn) hd2;simpa using this
 ·have s1:sgn d=1:=by unfold sgn;rw [if_neg hd,if_neg hneg]
  rw [s1];have e:te n d=ju n d.natAbs:=if_neg hneg;have ed:itoa d=ah d.natAbs:=by conv=>lhs;rw [show d=((d.natAbs:Nat):Int) by omega,fE]
  rw [e,ed];simp (disch:=try exact ac)[];refine aC ?_;simp (disch:=try exact ac)[];have:=tail n d.natAbs aa hn hd2;simpa using this
theorem vF (a:Q):CP Y F.dw [.agg (qT a)] (.tup [I (if sdg a.1<=9 then a.1 else 0),I (if ndg a.2<=9 then a.2 else 0),B (decide (sdg a.1<=9) && decide (ndg a.2<=9))]):=by
 refine xM ?_;have l1:=zP a.1;have l2:=zP (a.2:Int);have e:sdg (a.2:Int)=ndg a.2:=by unfold sdg;rw [if_neg aa,Int.natAbs_natCast];rfl
 rw [fE,e] at l2;simp (disch:=try exact ac)[dw,qT];refine cd l1 ?_;by_cases h1:sdg a.1<=9
 ·rw [if_pos h1,if_pos h1,decide_eq_true h1];simp (disch:=try exact ac)[];refine cd l2 ?_;by_cases h2:ndg a.2<=9
  ·rw [if_pos h2,if_pos h2,decide_eq_true h2];simp (disch:=try exact ac)[];exact gY rfl rfl rfl
  ·rw [if_neg h2,if_neg h2,decide_eq_false h2];simp (disch:=try exact ac)[];exact gY rfl rfl rfl
 ·rw [if_neg h1,if_neg h1,decide_eq_false h1];simp (disch:=try exact ac)[];refine cd l2 ?_;by_cases h2:ndg a.2<=9
  ·rw [if_pos h2,if_pos h2,decide_eq_true h2];simp (disch:=try exact ac)[];exact gY rfl rfl rfl
  ·rw [if_neg h2,if_neg h2,decide_eq_false h2];simp (disch:=try exact ac)[];exact gY rfl rfl rfl
theorem NR {n:Int} {d:Nat} (h:0<d):te n (d:Int)=ju n d:=by
 rfl
theorem JN {n:Int} {d:Nat} (hd:0<d) (hn:ndg n.natAbs<800000) (hd2:ndg d<800000):CP Y F.aW [S (itoa n),S (ah d)] (.agg (qT (ju n d))):=by
 have:=wz (n:=n) (d:=(d:Int)) aa hn (by trivial);trivial
theorem RO (h:Hp) (a:Q):bY h (.agg (qT a))=some (.agg (qT a),h):=by rfl
theorem sf {z:Int} {b:Nat} (hz:ndg z.natAbs<400000) (hb:ndg b<400000):CP Y F.aE [S (itoa z),S (ah b)] (S (itoa (z*b))):=by
 grind [nT,fE]
theorem zc (h:Hp) (s t:List UInt8):aH h [.agg [S s,S t]]=some ([.agg [S s,S t]],h):=by rfl
theorem Do {a:Q} (h1:sdg a.1<=9) (h2:ndg a.2<=9):a.1.natAbs<1000000000∧a.2<1000000000:=
 ⟨sG h1,Z1 (b6 _) (Z4 ae h2)⟩
theorem GD {a b:Q} (ha:okQ a) (hb:okQ b) (la:qL 100000 a) (lb:qL 100000 b):CP Y F.fJ [.agg (qT a),.agg (qT b)] (.agg (qT (lF a b))):=by
 refine Af ?_;obtain ⟨la1,la2⟩:=la;obtain ⟨lb1,lb2⟩:=lb;have b1:=vF a;have b2:=vF b;have m1:=nT (z:=a.1) (w:=b.1) aa aa;have m2:=re (a:=a.2) (b:=b.2) aa aa;have n1:=cT (z:=a.1) (w:=b.1);have n2:=oM (a:=a.2) (b:=b.2);have hd:0<a.2*b.2:=Yz ha.1 hb.1
 have lw:CP Y F.aW [S (itoa (a.1*b.1)),S (ah (a.2*b.2))] (.agg (qT (lF a b))):=JN (n:=a.1*b.1) hd aa aa;have ff:(a.1*b.1).natAbs<9223372036854775807->a.2*b.2<9223372036854775807->CP Y F.f9 [I (a.1*b.1),I (a.2*b.2:Nat)] (.agg (qT (lF a b))):=fun h1 h2=>J0 hd h1 h2
 obtain ⟨x,y,hxy⟩:∃ x y,qT (lF a b)=[S x,S y]:=⟨_,_,rfl⟩;rw [hxy] at lw ff ⊢;simp only [qT] at b1 b2 ⊢
 have tail:∀ u:Unit,cal (CX Y).p [(1,.vars [S (itoa a.1),S (ah a.2)]),(1,.vars [S (itoa b.1),S (ah b.2)]),(1,.vars [.d (.str []),.d (.str [])])] (.fn F.aE [] []) [S (itoa a.1),S (itoa b.1)] fun v15 h=>
  bnd (faV 1 (.ptr 0 1 0 2)) fun v16=>
  bnd (ld1 h v16) fun v17=>
  bnd (faV 1 (.ptr 1 1 0 2)) fun v18=>
  bnd (ld1 h v18) fun v19=>
  cal (CX Y).p h (.fn F.aE [] []) [v17,v19] fun v20 h=>
  cal (CX Y).p h (.fn F.aW [] []) [v15,v20] fun v21 h=>
  stD h 2 (.ptr 2 1 0 2) v21 fun _ h=>
  bnd (ldA h 2 (.ptr 2 1 0 2)) fun v23=>
  out (.agg [S x,S y]) v23 h:=by
  intro _;simp (disch:=try exact ac)[];refine cd m1 ?_;simp (disch:=try exact ac)[];refine cd m2 ?_;simp (disch:=try exact ac)[];refine cd lw ?_;simp (disch:=try exact ac)[];exact kA rfl rfl
 simp (disch:=try exact ac)[fJ];refine cd b1 ?_ (zc ..);cases g1:decide (sdg a.1<=9) && decide (ndg a.2<=9) with
 | false=>
  simp (disch:=try exact ac)[];refine aC ?_;simp (disch:=try exact ac)[]
  simp_all
 | true=>
  simp only [Z8,decide_eq_true_eq] at g1;obtain ⟨s1,s2⟩:=Do g1.1 g1.2;rw [if_pos g1.1,if_pos g1.2];simp (disch:=try exact ac)[];refine aC ?_;simp (disch:=try exact ac)[];refine cd b2 ?_ (zc ..);cases g2:decide (sdg b.1<=9) && decide (ndg b.2<=9) with
  | false=>
   simp (disch:=try exact ac)[]
   simp_all
  | true=>
   simp only [Z8,decide_eq_true_eq] at g2;obtain ⟨s3,s4⟩:=Do g2.1 g2.2;rw [if_pos g2.1,if_pos g2.2];have p1:(a.1*b.1).natAbs<1000000000*1000000000:=by rw [Zm];exact Yt s1 s3
   have p2:a.2*b.2<1000000000*1000000000:=Yt s2 s4;have e2:(a.2:Int)*(b.2:Int)=((a.2*b.2:Nat):Int):=af;have ff:=ff aa aa;obtain ⟨N,hN⟩:∃ N,a.1*b.1=N:=⟨_,rfl⟩;rw [hN] at p1 ff;generalize a.2*b.2=D at *;simp (disch:=try exact ac)[e2,hN];refine cd ff ?_;simp (disch:=try exact ac)[];simp [kA]
theorem Ox {a b:Q} (ha:okQ a) (hb:okQ b) (la:qL 100000 a) (lb:qL 100000 b):CP Y F.eU [.agg (qT a),.agg (qT b)] (.agg (qT (oH a b))):=by
 refine Ai ?_;obtain ⟨la1,la2⟩:=la;obtain ⟨lb1,lb2⟩:=lb;have b1:=vF a;have b2:=vF b;have m1:=sf (z:=a.1) (b:=b.2) aa aa;have m2:=sf (z:=b.1) (b:=a.2) aa aa;have m3:=re (a:=a.2) (b:=b.2) aa aa;have n1:=cT (z:=a.1) (w:=(b.2:Int));have n2:=cT (z:=b.1) (w:=(a.2:Int))
 have n3:=oM (a:=a.2) (b:=b.2);rw [Int.natAbs_natCast] at n1 n2;have n4:ndg (a.1*b.2+b.1*a.2).natAbs<=200000+1:=jN aa aa;have ad:=pq (z:=a.1*b.2) (w:=b.1*a.2) aa aa;have hd:0<a.2*b.2:=Yz ha.1 hb.1
 have lw:CP Y F.aW [S (itoa (a.1*b.2+b.1*a.2)),S (ah (a.2*b.2))] (.agg (qT (oH a b))):=JN hd aa aa;have ff:(a.1*b.2+b.1*a.2).natAbs<9223372036854775807->a.2*b.2<9223372036854775807->CP Y F.f9 [I (a.1*b.2+b.1*a.2),I (a.2*b.2:Nat)] (.agg (qT (oH a b))):=fun h1 h2=>J0 hd h1 h2
 by_cases one:a.2=1∧b.2=1
 ·have ad1:=pq (z:=a.1) (w:=b.1) aa aa
  have eq:oH a b=(a.1+b.1,1):=by
   unfold oH;rw [one.1,one.2];rw [Gl af];simp
  rw [eq];have t1:qT a=[S (itoa a.1),S [49]]:=by unfold qT;rw [one.1,dJ]
  have t2:qT b=[S (itoa b.1),S [49]]:=by unfold qT;rw [one.2,dJ]
  have t3:qT (a.1+b.1,1)=[S (itoa (a.1+b.1)),S [49]]:=by unfold qT;rw [dJ]
  rw [t1,t2,t3];simp (disch:=try exact ac)[eU];refine cd ad1 ?_;simp (disch:=try exact ac)[];simp [kA]
 obtain ⟨x,y,hxy⟩:∃ x y,qT (oH a b)=[S x,S y]:=⟨_,_,rfl⟩;rw [hxy] at lw ff ⊢;simp only [qT] at b1 b2 ⊢
 have tail:∀ u:Unit,cal (CX Y).p [(1,.vars [S (itoa a.1),S (ah a.2)]),(1,.vars [S (itoa b.1),S (ah b.2)]),(1,.vars [.d (.str []),.d (.str [])])] (.fn F.aE [] []) [S (itoa a.1),S (ah b.2)] fun v30 h=>
   bnd (faV 0 (.ptr 1 1 0 2)) fun v31=>
   bnd (ld1 h v31) fun v32=>
   bnd (faV 1 (.ptr 0 1 0 2)) fun v33=>
   bnd (ld1 h v33) fun v34=>
   cal (CX Y).p h (.fn F.aE [] []) [v32,v34] fun v35 h=>
   cal (CX Y).p h (.fn F.bR [] []) [v30,v35] fun v36 h=>
   bnd (faV 1 (.ptr 0 1 0 2)) fun v37=>
   bnd (ld1 h v37) fun v38=>
   bnd (faV 1 (.ptr 1 1 0 2)) fun v39=>
   bnd (ld1 h v39) fun v40=>
   cal (CX Y).p h (.fn F.aE [] []) [v38,v40] fun v41 h=>
   cal (CX Y).p h (.fn F.aW [] []) [v36,v41] fun v42 h=>
   stD h 2 (.ptr 2 1 0 2) v42 fun _ h=>
   bnd (ldA h 2 (.ptr 2 1 0 2)) fun v44=>
   out (.agg [S x,S y]) v44 h:=by
  intro _;simp (disch:=try exact ac)[];refine cd m1 ?_;simp (disch:=try exact ac)[];refine cd m2 ?_;simp (disch:=try exact ac)[];refine cd ad ?_;simp (disch:=try exact ac)[];refine cd m3 ?_;simp (disch:=try exact ac)[];refine cd lw ?_;simp (disch:=try exact ac)[];exact kA rfl rfl
 have hne:¬ (ah a.2=[49]∧ah b.2=[49]):=fun h=>one ⟨mA (h.1.trans dJ.symm),mA (h.2.trans dJ.symm)⟩
 have walk:∀ u:Unit,bnd (ldA [(1,.vars [S (itoa a.1),S (ah a.2)]),(1,.vars [S (itoa b.1),S (ah b.2)]),(1,.vars [.d (.str []),.d (.str [])])] 2 (.ptr 0 1 0 2)) fun v19=>
  cal (CX Y).p [(1,.vars [S (itoa a.1),S (ah a.2)]),(1,.vars [S (itoa b.1),S (ah b.2)]),(1,.vars [.d (.str []),.d (.str [])])] (.fn F.dw [] []) [v19] fun v20 h=>
  ext v20 0 fun v21=>
  ext v20 1 fun v22=>
  ext v20 2 fun v23=>
  jn (fun l24 h=>
   bnd (faV 0 (.ptr 0 1 0 2)) fun v26=>
   bnd (ld1 h v26) fun v27=>
   bnd (faV 1 (.ptr 1 1 0 2)) fun v28=>
   bnd (ld1 h v28) fun v29=>
   cal (CX Y).p h (.fn F.aE [] []) [v27,v29] fun v30 h=>
   bnd (faV 0 (.ptr 1 1 0 2)) fun v31=>
   bnd (ld1 h v31) fun v32=>
   bnd (faV 1 (.ptr 0 1 0 2)) fun v33=>
   bnd (ld1 h v33) fun v34=>
   cal (CX Y).p h (.fn F.aE [] []) [v32,v34] fun v35 h=>
   cal (CX Y).p h (.fn F.bR [] []) [v30,v35] fun v36 h=>
   bnd (faV 1 (.ptr 0 1 0 2)) fun v37=>
   bnd (ld1 h v37) fun v38=>
   bnd (faV 1 (.ptr 1 1 0 2)) fun v39=>
   bnd (ld1 h v39) fun v40=>
   cal (CX Y).p h (.fn F.aE [] []) [v38,v40] fun v41 h=>
   cal (CX Y).p h (.fn F.aW [] []) [v36,v41] fun v42 h=>
   stD h 2 (.ptr 2 1 0 2) v42 fun _ h=>
   bnd (ldA h 2 (.ptr 2 1 0 2)) fun v44=>
   out (.agg [S x,S y]) v44 h) fun q25=>
   cnd v23 (
    bnd (ldA h 2 (.ptr 1 1 0 2)) fun v45=>
    cal (CX Y).p h (.fn F.dw [] []) [v45] fun v46 h=>
    ext v46 0 fun v47=>
    ext v46 1 fun v48=>
    ext v46 2 fun v49=>
    cnd v49 (
     bnd (biI .mul v21 v48) fun v50=>
     bnd (biI .mul v47 v22) fun v51=>
     bnd (biI .add v50 v51) fun v52=>
     bnd (biI .mul v22 v48) fun v53=>
     cal (CX Y).p h (.fn F.f9 [] []) [v52,v53] fun v54 h=>
     stD h 2 (.ptr 2 1 0 2) v54 fun _ h=>
     bnd (ldA h 2 (.ptr 2 1 0 2)) fun v56=>
     out (.agg [S x,S y]) v56 h) (
     q25 [] h)) (
    q25 [] h):=by
  intro _;simp (disch:=try exact ac)[];refine cd b1 ?_ (zc ..);cases g1:decide (sdg a.1<=9) && decide (ndg a.2<=9) with
  | false=>
   simp (disch:=try exact ac)[];refine aC ?_;simp (disch:=try exact ac)[]
   simp_all
  | true=>
   simp only [Z8,decide_eq_true_eq] at g1;obtain ⟨s1,s2⟩:=Do g1.1 g1.2;rw [if_pos g1.1,if_pos g1.2];simp (disch:=try exact ac)[];refine aC ?_;simp (disch:=try exact ac)[];refine cd b2 ?_ (zc ..);cases g2:decide (sdg b.1<=9) && decide (ndg b.2<=9) with
   | false=>
    simp (disch:=try exact ac)[]
    simp_all
   | true=>
    simp only [Z8,decide_eq_true_eq] at g2;obtain ⟨s3,s4⟩:=Do g2.1 g2.2;rw [if_pos g2.1,if_pos g2.2];have p1:(a.1*b.2).natAbs<1000000000*1000000000:=by rw [Zm,Int.natAbs_natCast];exact Yt s1 s4
    have p3:(b.1*a.2).natAbs<1000000000*1000000000:=by rw [Zm,Int.natAbs_natCast];exact Yt s3 s2
    have p2:a.2*b.2<1000000000*1000000000:=Yt s2 s4;have e2:(a.2:Int)*(b.2:Int)=((a.2*b.2:Nat):Int):=af;have ff:=ff aa aa;obtain ⟨N,hN⟩:∃ N,a.1*(b.2:Int)=N:=⟨_,rfl⟩;obtain ⟨M,hM⟩:∃ M,b.1*(a.2:Int)=M:=⟨_,rfl⟩;rw [hN] at p1 ff;rw [hM] at p3 ff;generalize a.2*b.2=D at *;simp (disch:=try exact ac)[e2,hN,hM];refine cd ff ?_
    simp (disch:=try exact ac)[];simp [kA]
 by_cases c1:ah a.2=[49]
 ·have c2:¬ ah b.2=[49]:=fun h=>hne ⟨c1,h⟩
  simp (disch:=try exact ac)[eU,c1,c2]
  simp_all
 ·simp (disch:=try exact ac)[eU,c1]
  simp_all
theorem LC (a:Q):CP Y F.js [.agg (qT a)] (I (sgn a.1)):=by
 refine xN ?_;simp (disch:=try exact ac)[js,qT];refine cd (jf a.1) ?_;exact ci rfl
theorem Iv {a:Q} (ha:okQ a) (la:qL 800000 a):CP Y F.gH [.agg (qT a)] (S (itoa (a.1 / a.2))):=by
 refine wD ?_;obtain ⟨la1,la2⟩:=la;simp (disch:=try exact ac)[gH,qT];refine cd (pV (z:=a.1) ha.1 aa aa) ?_;simp (disch:=try exact ac)[];exact dh rfl
theorem FF (z:Int):sgn z=0↔z=0:=by
 unfold sgn;constructor
 ·intro h;split at h
  ·assumption
  ·split at h <;> omega
 ·intro h;rw [if_pos h]
theorem zG {a b:List UInt8} {c:Int} {h:Hp}:out (.tup [.agg [S a,S b],I c]) (.tup [.agg [S a,S b],I c]) h:=⟨h,by simp [bY,aH,norm]⟩
theorem Ow {a b:Q} (ha:okQ a) (hb:okQ b) (h0:b.1≠0) (la:qL 100000 a) (lb:qL 100000 b):CP Y F.iW [.agg (qT a),.agg (qT b)] (.tup [.agg (qT (xH a b)),I 0]):=by
 refine Ag ?_;obtain ⟨la1,la2⟩:=la;obtain ⟨lb1,lb2⟩:=lb;have sg0:=LC b;have hs:¬ sgn b.1=0:=fun h=>h0 ((FF _).1 h)
 have m1:=sf (z:=a.1) (b:=b.2) aa aa;have m2:=nT (z:=(a.2:Int)) (w:=b.1) (by rw [Int.natAbs_natCast];omega) aa;rw [fE] at m2;have n1:=cT (z:=a.1) (w:=(b.2:Int));have n2:=cT (z:=(a.2:Int)) (w:=b.1);rw [Int.natAbs_natCast] at n1 n2;have hne:(a.2:Int)*b.1≠0:=Xf (by have:=ha.1;omega) h0
 have lw:CP Y F.aW [S (itoa (a.1*b.2)),S (itoa (a.2*b.1))] (.agg (qT (xH a b))):=wz hne aa aa;obtain ⟨x,y,hxy⟩:∃ x y,qT (xH a b)=[S x,S y]:=⟨_,_,rfl⟩;rw [hxy] at lw ⊢;generalize sgn b.1=sb at *;simp only [qT] at sg0 ⊢;simp (disch:=try exact ac)[iW];refine cd sg0 ?_ (zc ..);simp (disch:=try exact ac)[hs]
 refine cd m1 ?_;simp (disch:=try exact ac)[];refine cd m2 ?_;simp (disch:=try exact ac)[];refine cd lw ?_;simp (disch:=try exact ac)[];exact zG
theorem Ov {n d:Int} (hd:d≠0) (hn:ndg n.natAbs<800000) (hd2:ndg d.natAbs<800000):CP Y F.j4 [S (itoa n),S (itoa d)] (.tup [.agg (qT (te n d)),I 0]):=by
 refine Ae ?_;have sg0:=jf d;have hs:¬ sgn d=0:=fun h=>hd ((FF _).1 h)
 have lw:=wz hd hn hd2;obtain ⟨x,y,hxy⟩:∃ x y,qT (te n d)=[S x,S y]:=⟨_,_,rfl⟩;rw [hxy] at lw ⊢;generalize sgn d=sb at *;simp (disch:=try exact ac)[j4];refine cd sg0 ?_;simp (disch:=try exact ac)[hs];refine cd lw ?_;simp (disch:=try exact ac)[];exact zG
theorem D7 {z:Int} (h1 : -9223372036854775808<z) (h2:z<9223372036854775808):ndg z.natAbs<=19:=bi aa ae
theorem Ou {n d:Int} (hd:d≠0) (h1 : -9223372036854775808<n) (h2:n<9223372036854775808) (h3 : -9223372036854775808<d) (h4:d<9223372036854775808):CP Y F.jR [I n,I d] (.tup [.agg (qT (te n d)),I 0]):=by
 refine BB ?_;have nw:=Ov (n:=n) hd (Zf (D7 h1 h2) ae) (Zf (D7 h3 h4) ae);obtain ⟨x,y,hxy⟩:∃ x y,qT (te n d)=[S x,S y]:=⟨_,_,rfl⟩;rw [hxy] at nw ⊢;simp (disch:=try exact ac)[jR];refine cd (km h1 h2) ?_;simp (disch:=try exact ac)[];refine cd (km h3 h4) ?_
 simp (disch:=try exact ac)[];refine cd nw ?_;simp (disch:=try exact ac)[];exact zG
@[simp] theorem Ud {α:Type} (f:α->D) (l:List α) (place:Nat->Option (Nat × Nat)) (cs:List V) (r:List (Nat × V)) (off sz:Nat) :
  GJ (some (off,sz)) place cs (lst f l) r=if 1=sz∧off+1<=cs.length then oP place (cs.take off++[lst f l]++cs.drop (off+1)) r else none:=id rfl
theorem Rz (s:List UInt8):CP Y F.gz [S s] (S (rdT s)):=by
 refine wY ?_;simp (disch:=try exact ac)[gz];refine cd (rz s) ?_;simp (disch:=try exact ac)[] <;> exact dh rfl
theorem Cf (a b:List UInt8) (ha:a.length<1000000000) (hb:b.length<1000000000):CP Y F.jF [.agg [S a,S b]] (B (rG a && decide (b.length<=30))):=by
 refine Dt ?_;simp (disch:=try exact ac)[jF];refine cd (Rz a) ?_;have hl:(rdT a).length<=a.length:=by unfold rdT;split <;> simp
 by_cases h1:(rdT a).length<=30
 ·have h1':((rdT a).length:Int)<=30:=aa;by_cases h2:b.length<=30
  ·have h2':(b.length:Int)<=30:=aa;simp (disch:=try exact ac)[h1',h2'] <;> exact jg (by grind [rG])
  ·have h2':¬ (b.length:Int)<=30:=aa;simp (disch:=try exact ac)[h1',h2'] <;> exact jg (by grind)
 ·have h1':¬ ((rdT a).length:Int)<=30:=aa;simp (disch:=try exact ac)[h1'] <;> exact jg (by simp [rG,h1])
def sz4 (x:Tx):Bool:=rG x.1 && decide (x.2.length<=30)
def yY:List Tx->Int
 | []=>0
 | x::q=>cond (rdF x.1 x.2).isSome (cond (sz4 x) (yY q) 4) 2
theorem zg {s:List Tx} (hN:s.length<1000000000) (hl:∀ x∈s,x.1.length<1000000000∧x.2.length<1000000000) (k:KL):∀ (q a:List Tx),a++q=s->(yY q=0->k (.exit 0) [] [(0,.none)])->(yY q≠0->∀ h,k .ret [I (yY q)] h) ->
  lp (mJ (CX Y) (iU aS s) (I s.length)) [0] [(0,.none)] [I a.length] [(0,.none)] k
 | []=>by
  intro a ha h0 h1;simp at ha;subst ha;refine ax ?_;simp (disch:=try exact ac)[mJ];exact h0 rfl
 | x::q=>by
  intro a ha h0 h1;have hal:a.length<s.length:=by subst ha;simp
  have hx:nth ([],[]) s a.length=x:=by subst ha;simp
  have hxl:=hl x (by grind);have e1:=fun h:Hp=>j3 aS aT s h (k:=.i64) (i:=(a.length:Int)) aa aa
  have e2:=fun h:Hp=>jZ aS aT ([],[]) s h hal
  simp only [hx,Int.toNat_natCast] at e1 e2;have ih:=zg hN hl k q (a++[x]) (by grind);refine ax ?_;simp (disch:=try exact ac)[mJ,e1,e2,aS];refine cd (CY x.1 x.2 hxl.1 hxl.2) ?_;cases g3:(rdF x.1 x.2).isSome with
  | false=>
   simp only [yY,g3,cond_false] at h1;simp (disch:=try exact ac)[g3]
   grind
  | true=>
   simp (disch:=try exact ac)[g3];refine cd (Cf x.1 x.2 hxl.1 hxl.2) ?_;cases g1:sz4 x with
   | false=>
    simp only [yY,g3,g1,cond_true,cond_false] at h1;rw [show (rG x.1 && decide (x.2.length<=30))=false from g1];simp (disch:=try exact ac)[]
    grind
   | true=>
    simp only [yY,g3,g1,cond_true] at h0 h1;have:=ih h0 h1;rw [show (rG x.1 && decide (x.2.length<=30))=true from g1];simp (disch:=try exact ac)[clean,fY,lm,oh,ek,aK]
    simp_all
def scB (n:Nat) (s:List Tx):Int:=if s.length=n then yY s else 5
theorem Fs {p:List Int} {s:List Tx} (hl:∀ x∈s,x.1.length<1000000000∧x.2.length<1000000000) (hs:s.length<1000000000):CP Y F.iP [lst di p,iU aS s] (I (scB p.length s)):=by
 have lp':bq (lst di p)=some (I p.length):=rfl;have ls':bq (iU aS s)=some (I s.length):=rfl;refine Dy ?_;by_cases h1:s.length=p.length
 ·have h1':((s.length:Int)=(p.length:Int))=True:=eq_true aa;have e:scB p.length s=yY s:=if_pos h1;rw [e];simp (disch:=try exact ac)[iP,lp',ls',h1'];refine lo (zg hs hl _ s [] rfl (fun g=>?_) (fun g h=>?_))
  ·simp_all
  simp
 ·have h1':¬ ((s.length:Int)=(p.length:Int)):=aa;have e:scB p.length s=5:=if_neg h1;rw [e];simp (disch:=try exact ac)[iP,lp',ls',h1'] <;> exact ci rfl
def siB (p:List Int) (s:List Tx):Int:=if pcB p=0 then scB p.length s else pcB p
theorem MD {p:List Int} {s:List Tx} (hp:p.length<1000000000) (hl:∀ x∈s,x.1.length<1000000000∧x.2.length<1000000000) (hs:s.length<1000000000):CP Y F.jH [lst di p,iU aS s] (I (siB p s)):=by
 refine DI ?_;simp (disch:=try exact ac)[jH];refine cd (dT hp) ?_;by_cases h:pcB p=0
 ·have e:siB p s=scB p.length s:=if_pos h;rw [e];simp (disch:=try exact ac)[h];refine cd (Fs hl hs) ?_;simp (disch:=try exact ac)[] <;> exact ci rfl
 ·have e:siB p s=pcB p:=if_neg h;rw [e];simp (disch:=try exact ac)[h] <;> exact ci rfl
end Go.Vm
