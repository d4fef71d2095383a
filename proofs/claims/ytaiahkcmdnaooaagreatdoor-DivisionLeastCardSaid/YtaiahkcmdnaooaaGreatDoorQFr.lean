/- Fractions: of, lowest, both, Add, Mul, Div, Floor, Of. -/
import Derived.Test.YtaiahkcmdnaooaaGreatDoorQCkShift
import Derived.Test.YtaiahkcmdnaooaaGreatDoorQDcY
import Derived.Test.YtaiahkcmdnaooaaGreatDoorQLibSl
import Derived.Test.YtaiahkcmdnaooaaGreatDoorQT
import Derived.Test.YtaiahkcmdnaooaaGreatDoorQWsX
set_option linter.unusedVariables false
set_option linter.unusedSimpArgs false
namespace Go.Vm
open Go Go.Am Go.Big
abbrev Q:=Int × Nat
def okQ (x:Q):Prop:=0<x.2∧Nat.gcd x.1.natAbs x.2=1
def qT (x:Q):List V:=[S (itoa x.1),S (ah x.2)]
def jL (n:Int) (d:Nat):Q:=(n / (Nat.gcd n.natAbs d:Nat),d / Nat.gcd n.natAbs d)
def oz (a b:Q):Q:=jL (a.1*b.2+b.1*a.2) (a.2*b.2)
def lW (a b:Q):Q:=jL (a.1*b.1) (a.2*b.2)
def sE (n d:Int):Q:=if d<0 then jL (-n) d.natAbs else jL n d.natAbs
def ye (a b:Q):Q:=sE (a.1*b.2) (a.2*b.1)
theorem PC {g:Nat} {n:Int} (h:g ∣ n.natAbs):(g:Int) ∣ n:=Int.natAbs_dvd_natAbs.1 (by simpa using h)
theorem vp (n:Int) {d:Nat} (hd:0<d):okQ (jL n d):=by
 have hg:0<Nat.gcd n.natAbs d:=W0 _ hd;obtain ⟨g,hgg⟩:∃ g,g=Nat.gcd n.natAbs d:=⟨_,rfl⟩;have h1:g ∣ n.natAbs:=by rw [hgg];exact Wb ..
 have h2:g ∣ d:=by rw [hgg];exact Nat.gcd_dvd_right ..
 unfold jL;rw [<- hgg] at hg ⊢;refine ⟨V5 (X4 hd h2) hg,?_⟩
 have e:(n / (g:Int)).natAbs=n.natAbs / g:=by
  rw [Int.natAbs_ediv_of_dvd (PC h1),Int.natAbs_natCast]
 simp only [e];rw [Nat.gcd_div h1 h2,<- hgg,Nat.div_self hg]
theorem GN {n:Int} {d:Nat} (h:Nat.gcd n.natAbs d=1):jL n d=(n,d):=by
 unfold jL;rw [h];simp
theorem yT (n:Int) (d:Nat):(jL n d).1.natAbs<=n.natAbs∧(jL n d).2<=d:=by
 obtain ⟨g,hgg⟩:∃ g,g=Nat.gcd n.natAbs d:=⟨_,rfl⟩;have h1:g ∣ n.natAbs:=by rw [hgg];exact Wb ..
 unfold jL;rw [<- hgg];constructor
 ·simp only;rw [Int.natAbs_ediv_of_dvd (PC h1),Int.natAbs_natCast];exact Yc ..
 ·exact Yc ..
theorem QF (k:KL) (h:Hp) (h0:Hp) (hl:h.length=h0.length):∀ (m:Nat) (a b:Int),b.natAbs<=m->a.natAbs<9223372036854775807->b.natAbs<9223372036854775807 ->
  (∀ c:Int,c.natAbs=Nat.gcd a.natAbs b.natAbs->k (.exit 0) [I c] h)->lp (kr (CX Y)) [] h0 [I a,I b] h k:=by
 intro m
 induction m with
 | zero=>
  intro a b hb ha hb2 hk;have hb0:b=0:=aa;subst hb0;refine ax ?_;simp (disch:=try exact ac)[kr];exact hk a af
 | succ m ih=>
  intro a b hb ha hb2 hk;refine ax ?_;by_cases hb0:b=0
  ·subst hb0;simp (disch:=try exact ac)[kr];exact hk a af
  ·have hr:(a.tmod b).natAbs<b.natAbs:=by
    rw [Int.natAbs_tmod];exact Yt _ aa
   have e:Nat.gcd b.natAbs (a.tmod b).natAbs=Nat.gcd a.natAbs b.natAbs:=by
    rw [Int.natAbs_tmod,V1,<- Nat.gcd_rec,V1]
   simp (disch:=try exact ac)[kr,hb0,hl];exact ih b (a.tmod b) aa aa aa (fun c hc=>hk c (hc.trans e))
theorem kU {a b a' b':List UInt8} {h:Hp} (e1:a'=a) (e2:b'=b):out (.agg [S a,S b]) (.agg [S a',S b']) h:=by
 subst e1;subst e2;exact ⟨h,by simp [aI,aj,norm]⟩
theorem Kv {n:Int} {d:Nat} (hd:0<d) (hn:n.natAbs<9223372036854775807) (hd2:d<9223372036854775807):CP Y F.gH [I n,I d] (.agg (qT (jL n d))):=by
 refine BX ?_;obtain ⟨g,hgg⟩:∃ g,g=Nat.gcd n.natAbs d:=⟨_,rfl⟩;have hg:0<g:=by rw [hgg];exact W0 _ hd
 have h1:g ∣ n.natAbs:=by rw [hgg];exact Wb ..
 have h2:g ∣ d:=by rw [hgg];exact Nat.gcd_dvd_right ..
 have hgd:g<=d:=X4 hd h2;have e1:n.tdiv (g:Int)=n / (g:Int):=Int.tdiv_eq_ediv_of_dvd (PC h1);have e2:(d:Int).tdiv (g:Int)=((d / g:Nat):Int):=by rw [Zr aa,<- Int.natCast_ediv]
 have e3:(n / (g:Int)).natAbs<=n.natAbs:=by
  rw [Int.natAbs_ediv_of_dvd (PC h1),Int.natAbs_natCast];exact Yc ..
 have e4:d / g<=d:=Yc ..;have eq:qT (jL n d)=[S (itoa (n / (g:Int))),S (ah (d / g))]:=by unfold qT jL;rw [<- hgg]
 rw [eq];generalize n / (g:Int)=nq at *;generalize d / g=dq at *;have i1:=yU (z:=nq) aa aa;have i2:=yU (z:=(dq:Int)) aa aa;rw [cF] at i2;have hg0:¬ (g:Int)=0:=aa;simp (disch:=try exact ac)[gH];refine lo (QF _ _ _ rfl (d:Int).natAbs n d (Z6 _) hn aa (fun c hc=>?_));rw [Int.natAbs_natCast,<- hgg] at hc
 simp (disch:=try exact ac)[]
 have tail:∀ u:Unit,bnd (biI .quo (I n) (I g)) fun v6=>
   cal (CX Y).p [(1,.vars [.d (.str []),.d (.str [])])] (.fn F.strconv_Itoa [] []) [v6] fun v7 h=>
   bnd (biI .quo (I d) (I g)) fun v8=>
   cal (CX Y).p h (.fn F.strconv_Itoa [] []) [v8] fun v9 h=>
   bnd (bld [(0,1),(1,1)] [.str [],.str []] [(0,v7),(1,v9)]) fun v10=>
   stD h 2 (.ptr 0 1 0 2) v10 fun _ h=>
   bnd (ldA h 2 (.ptr 0 1 0 2)) fun v12=>
   out (.agg [S (itoa nq),S (ah dq)]) v12 h:=by
  intro _;simp (disch:=try exact ac)[e1,e2,hg0];refine cd i1 ?_;simp (disch:=try exact ac)[e2,hg0];refine cd i2 ?_;simp (disch:=try exact ac)[];exact kU rfl rfl
 by_cases hc0:c<0
 ·have hcg : -c=(g:Int):=aa;refine fp (l:=[I g]) (h:=[(1,.vars [.d (.str []),.d (.str [])])]) (fun q=>by simp (disch:=try exact ac)[hc0,hcg]) ?_;exact tail ()
 ·have hcg:c=(g:Int):=aa;subst hcg;refine fp (l:=[I g]) (h:=[(1,.vars [.d (.str []),.d (.str [])])]) (fun q=>by simp (disch:=try exact ac)[hc0]) ?_;exact tail ()
def qL (K:Nat) (x:Q):Prop:=ndg x.1.natAbs<=K∧ndg x.2<=K
theorem Ep {n:Int} {d K:Nat} (h1:ndg n.natAbs<=K) (h2:ndg d<=K):qL K (jL n d):=
 ⟨Z2 (df (yT n d).1) h1,Z2 (df (yT n d).2) h2⟩
theorem qL.mono {K L:Nat} {x:Q} (h:qL K x) (hl:K<=L):qL L x:=⟨Z2 h.1 hl,Z2 h.2 hl⟩
theorem km {z w:Int} {k:Nat} (hz:ndg z.natAbs<=k) (hw:ndg w.natAbs<=k):ndg (z+w).natAbs<=k+1:=
 Z2 (df (Wl z w)) (oS hz hw)
theorem dh {z w:Int}:ndg (z*w).natAbs<=ndg z.natAbs+ndg w.natAbs:=by
 rw [Zi];exact oR
theorem SR {a b:Q} {K L:Nat} (ha:qL K a) (hb:qL L b):qL (K+L+1) (oz a b):=by
 refine Ep (km ?_ ?_) ?_
 ·have:=dh (z:=a.1) (w:=(b.2:Int));rw [Int.natAbs_natCast] at this;have:=ha.1;have:=hb.2;omega
 ·have:=dh (z:=b.1) (w:=(a.2:Int));rw [Int.natAbs_natCast] at this;have:=hb.1;have:=ha.2;omega
 ·have:=oR (a:=a.2) (b:=b.2);have:=ha.2;have:=hb.2;omega
theorem NM {a b:Q} {K L:Nat} (ha:qL K a) (hb:qL L b):qL (K+L) (lW a b):=by
 refine Ep ?_ ?_
 ·have:=dh (z:=a.1) (w:=b.1);have:=ha.1;have:=hb.1;omega
 ·have:=oR (a:=a.2) (b:=b.2);have:=ha.2;have:=hb.2;omega
theorem Qr {a b:Q} (ha:okQ a) (hb:okQ b):okQ (oz a b):=vp _ (Yp ha.1 hb.1)
theorem J1 {a b:Q} (ha:okQ a) (hb:okQ b):okQ (lW a b):=vp _ (Yp ha.1 hb.1)
theorem Fu {z w:Int} (hw0:0<w) (hz:ndg z.natAbs<900000) (hw:ndg w.natAbs<900000):CP Y F.aR [S (itoa z),S (itoa w)] (.tup [S (itoa (z / w)),S (itoa (z % w)),I 0]):=by
 obtain ⟨m,rfl⟩:∃ m:Nat,w=m:=⟨w.toNat,aa⟩;rw [cF];exact pW aa hz (by simpa using hw)
theorem w7 {n d:Int} (hd:d≠0) (hn:ndg n.natAbs<800000) (hd2:ndg d.natAbs<800000):CP Y F.aW [S (itoa n),S (itoa d)] (.agg (qT (sE n d))):=by
 refine vF ?_;have sg0:=jz d
 have tail:∀ (n:Int) (d:Nat),0<d->ndg n.natAbs<800000->ndg d<800000 ->
   cal (CX Y).p [(1,.vars [.d (.str []),.d (.str [])])] (.fn F.lG [] []) [S (itoa n),S (ah d)] fun v6 h=>
  bnd (biS .neq v6 (.d (.str [49]))) fun v7=>
  jn (fun l8 h=>
   bnd (bld [(0,1),(1,1)] [.str [],.str []] [(0,(ge l8 0)),(1,(ge l8 1))]) fun v10=>
   stD h 2 (.ptr 0 1 0 2) v10 fun _ h=>
   bnd (ldA h 2 (.ptr 0 1 0 2)) fun v12=>
   out (.agg (qT (jL n d))) v12 h) fun q9=>
   cnd v7 (
    cal (CX Y).p h (.fn F.aR [] []) [S (itoa n),v6] fun v13 h=>
    ext v13 0 fun v14=>
    ext v13 1 fun v15=>
    ext v13 2 fun v16=>
    cal (CX Y).p h (.fn F.aR [] []) [S (ah d),v6] fun v17 h=>
    ext v17 0 fun v18=>
    ext v17 1 fun v19=>
    ext v17 2 fun v20=>
    q9 [v14,v18] h) (
    q9 [S (itoa n),S (ah d)] h):=by
  intro n d hd hn hd2;have gc:=Kt (z:=n) (w:=(d:Int)) aa (by simpa using Nat.lt_trans hd2 ae);rw [cF,Int.natAbs_natCast] at gc;obtain ⟨g,hgg⟩:∃ g,g=Nat.gcd n.natAbs d:=⟨_,rfl⟩;have hg:0<g:=by rw [hgg];exact W0 _ hd
  have hgd:g<=d:=X4 hd (by rw [hgg];exact Nat.gcd_dvd_right ..);have eq:jL n d=(n / (g:Int),d / g):=by unfold jL;rw [<- hgg]
  rw [<- hgg] at gc;rw [eq];have ng:ndg g<900000:=Zb (df hgd) aa;have d1:=pW (z:=n) hg aa ng;have d2:=pz (a:=d) hg aa ng;simp (disch:=try exact ac)[];refine cd gc ?_;by_cases h1:g=1
  ·subst h1;rw [eG];simp (disch:=try exact ac)[];refine fp (l:=[S (itoa n),S (ah d)]) (h:=[(1,.vars [.d (.str []),.d (.str [])])]) (fun q=>by simp (disch:=try exact ac)[]) ?_;simp (disch:=try exact ac)[];refine kU af af
  ·have h49:¬ ah g=[49]:=fun h=>h1 (mK (h.trans eG.symm))
   simp (disch:=try exact ac)[h49];refine bj ?_;simp (disch:=try exact ac)[h49];refine cd d1 ?_;simp (disch:=try exact ac)[];refine cd d2 ?_;simp (disch:=try exact ac)[];exact kU rfl rfl
 simp (disch:=try exact ac)[aW];refine cd sg0 ?_;by_cases hneg:d<0
 ·have s1:sgn d = -1:=by unfold sgn;rw [if_neg hd,if_pos hneg]
  rw [s1];have hd3:ndg (-d).natAbs<800000:=by rw [Xz];exact hd2
  have n1:=tn (z:=n) aa;have n2:=tn (z:=d) aa;have e:sE n d=jL (-n) d.natAbs:=if_pos hneg;have ed:itoa (-d)=ah d.natAbs:=by rw [show -d=((d.natAbs:Nat):Int) by omega,cF]
  rw [e];rw [ed] at n2;simp (disch:=try exact ac)[];refine bj ?_;simp (disch:=try exact ac)[];refine cd n1 ?_;simp (disch:=try exact ac)[];refine cd n2 ?_;have:=tail (-n) d.natAbs aa (by rw [Xz];exact hn) hd2;simpa using this
 ·have s1:sgn d=1:=by unfold sgn;rw [if_neg hd,if_neg hneg]
  rw [s1];have e:sE n d=jL n d.natAbs:=if_neg hneg;have ed:itoa d=ah d.natAbs:=by conv=>lhs;rw [show d=((d.natAbs:Nat):Int) by omega,cF]
  rw [e,ed];simp (disch:=try exact ac)[];refine bj ?_;simp (disch:=try exact ac)[];have:=tail n d.natAbs aa hn hd2;simpa using this
theorem wh (a:Q):CP Y F.dP [.agg (qT a)] (.tup [I (if sdg a.1<=9 then a.1 else 0),I (if ndg a.2<=9 then a.2 else 0),B (decide (sdg a.1<=9) && decide (ndg a.2<=9))]):=by
 refine yk ?_;have l1:=Ax a.1;have l2:=Ax (a.2:Int);have e:sdg (a.2:Int)=ndg a.2:=by unfold sdg;rw [if_neg aa,Int.natAbs_natCast];rfl
 rw [cF,e] at l2;simp (disch:=try exact ac)[dP,qT];refine cd l1 ?_;by_cases h1:sdg a.1<=9
 ·rw [if_pos h1,if_pos h1,decide_eq_true h1];simp (disch:=try exact ac)[];refine cd l2 ?_;by_cases h2:ndg a.2<=9
  ·rw [if_pos h2,if_pos h2,decide_eq_true h2];simp (disch:=try exact ac)[];exact iv rfl rfl rfl
  ·rw [if_neg h2,if_neg h2,decide_eq_false h2];simp (disch:=try exact ac)[];exact iv rfl rfl rfl
 ·rw [if_neg h1,if_neg h1,decide_eq_false h1];simp (disch:=try exact ac)[];refine cd l2 ?_;by_cases h2:ndg a.2<=9
  ·rw [if_pos h2,if_pos h2,decide_eq_true h2];simp (disch:=try exact ac)[];exact iv rfl rfl rfl
  ·rw [if_neg h2,if_neg h2,decide_eq_false h2];simp (disch:=try exact ac)[];exact iv rfl rfl rfl
theorem GM {n:Int} {d:Nat} (h:0<d):sE n (d:Int)=jL n d:=by
 unfold sE;rw [if_neg aa,Int.natAbs_natCast]
theorem Kg {n:Int} {d:Nat} (hd:0<d) (hn:ndg n.natAbs<800000) (hd2:ndg d<800000):CP Y F.aW [S (itoa n),S (ah d)] (.agg (qT (jL n d))):=by
 have:=w7 (n:=n) (d:=(d:Int)) aa hn (by simpa using hd2)
 rwa [GM hd,cF] at this
theorem Sa (h:Hp) (a:Q):aI h (.agg (qT a))=some (.agg (qT a),h):=by simp [qT,aI,aj,norm]
theorem sU {z:Int} {b:Nat} (hz:ndg z.natAbs<400000) (hb:ndg b<400000):CP Y F.aH [S (itoa z),S (ah b)] (S (itoa (z*b))):=by
 have:=px (z:=z) (w:=(b:Int)) hz (by simpa using hb)
 rwa [cF] at this
theorem zH (h:Hp) (s t:List UInt8):aj h [.agg [S s,S t]]=some ([.agg [S s,S t]],h):=by simp [aj,aI,norm]
theorem Dy {a:Q} (h1:sdg a.1<=9) (h2:ndg a.2<=9):a.1.natAbs<1000000000∧a.2<1000000000:=
 ⟨s7 h1,Z0 (cu _) (Z1 ae h2)⟩
theorem G5 {a b:Q} (ha:okQ a) (hb:okQ b) (la:qL 100000 a) (lb:qL 100000 b):CP Y F.gj [.agg (qT a),.agg (qT b)] (.agg (qT (lW a b))):=by
 refine AQ ?_;obtain ⟨la1,la2⟩:=la;obtain ⟨lb1,lb2⟩:=lb;have b1:=wh a;have b2:=wh b;have m1:=px (z:=a.1) (w:=b.1) aa aa;have m2:=rG (a:=a.2) (b:=b.2) aa aa;have n1:=dh (z:=a.1) (w:=b.1);have n2:=oR (a:=a.2) (b:=b.2);have hd:0<a.2*b.2:=Yp ha.1 hb.1
 have lw:CP Y F.aW [S (itoa (a.1*b.1)),S (ah (a.2*b.2))] (.agg (qT (lW a b))):=Kg (n:=a.1*b.1) hd aa aa;have ff:(a.1*b.1).natAbs<9223372036854775807->a.2*b.2<9223372036854775807->CP Y F.gH [I (a.1*b.1),I (a.2*b.2:Nat)] (.agg (qT (lW a b))):=fun h1 h2=>Kv hd h1 h2
 obtain ⟨x,y,hxy⟩:∃ x y,qT (lW a b)=[S x,S y]:=⟨_,_,rfl⟩;rw [hxy] at lw ff ⊢;simp only [qT] at b1 b2 ⊢
 have tail:∀ u:Unit,cal (CX Y).p [(1,.vars [S (itoa a.1),S (ah a.2)]),(1,.vars [S (itoa b.1),S (ah b.2)]),(1,.vars [.d (.str []),.d (.str [])])] (.fn F.aH [] []) [S (itoa a.1),S (itoa b.1)] fun v15 h=>
  bnd (faV 1 (.ptr 0 1 0 2)) fun v16=>
  bnd (ld1 h v16) fun v17=>
  bnd (faV 1 (.ptr 1 1 0 2)) fun v18=>
  bnd (ld1 h v18) fun v19=>
  cal (CX Y).p h (.fn F.aH [] []) [v17,v19] fun v20 h=>
  cal (CX Y).p h (.fn F.aW [] []) [v15,v20] fun v21 h=>
  stD h 2 (.ptr 2 1 0 2) v21 fun _ h=>
  bnd (ldA h 2 (.ptr 2 1 0 2)) fun v23=>
  out (.agg [S x,S y]) v23 h:=by
  intro _;simp (disch:=try exact ac)[];refine cd m1 ?_;simp (disch:=try exact ac)[];refine cd m2 ?_;simp (disch:=try exact ac)[];refine cd lw ?_;simp (disch:=try exact ac)[];exact kU rfl rfl
 simp (disch:=try exact ac)[gj];refine cd b1 ?_ (zH ..);cases g1:decide (sdg a.1<=9) && decide (ndg a.2<=9) with
 | false=>
  simp (disch:=try exact ac)[];refine bj ?_;simp (disch:=try exact ac)[];simpa using tail ()
 | true=>
  simp only [Z7,decide_eq_true_eq] at g1;obtain ⟨s1,s2⟩:=Dy g1.1 g1.2;rw [if_pos g1.1,if_pos g1.2];simp (disch:=try exact ac)[];refine bj ?_;simp (disch:=try exact ac)[];refine cd b2 ?_ (zH ..);cases g2:decide (sdg b.1<=9) && decide (ndg b.2<=9) with
  | false=>
   simp (disch:=try exact ac)[];simpa using tail ()
  | true=>
   simp only [Z7,decide_eq_true_eq] at g2;obtain ⟨s3,s4⟩:=Dy g2.1 g2.2;rw [if_pos g2.1,if_pos g2.2];have p1:(a.1*b.1).natAbs<1000000000*1000000000:=by rw [Zi];exact Yh s1 s3
   have p2:a.2*b.2<1000000000*1000000000:=Yh s2 s4;have e2:(a.2:Int)*(b.2:Int)=((a.2*b.2:Nat):Int):=af;have ff:=ff aa aa;obtain ⟨N,hN⟩:∃ N,a.1*b.1=N:=⟨_,rfl⟩;rw [hN] at p1 ff;generalize a.2*b.2=D at *;simp (disch:=try exact ac)[e2,hN];refine cd ff ?_;simp (disch:=try exact ac)[];exact kU rfl rfl
theorem OR {a b:Q} (ha:okQ a) (hb:okQ b) (la:qL 100000 a) (lb:qL 100000 b):CP Y F.gk [.agg (qT a),.agg (qT b)] (.agg (qT (oz a b))):=by
 refine AS ?_;obtain ⟨la1,la2⟩:=la;obtain ⟨lb1,lb2⟩:=lb;have b1:=wh a;have b2:=wh b;have m1:=sU (z:=a.1) (b:=b.2) aa aa;have m2:=sU (z:=b.1) (b:=a.2) aa aa;have m3:=rG (a:=a.2) (b:=b.2) aa aa;have n1:=dh (z:=a.1) (w:=(b.2:Int));have n2:=dh (z:=b.1) (w:=(a.2:Int))
 have n3:=oR (a:=a.2) (b:=b.2);rw [Int.natAbs_natCast] at n1 n2;have n4:ndg (a.1*b.2+b.1*a.2).natAbs<=200000+1:=km aa aa;have ad:=rH (z:=a.1*b.2) (w:=b.1*a.2) aa aa;have hd:0<a.2*b.2:=Yp ha.1 hb.1
 have lw:CP Y F.aW [S (itoa (a.1*b.2+b.1*a.2)),S (ah (a.2*b.2))] (.agg (qT (oz a b))):=Kg hd aa aa;have ff:(a.1*b.2+b.1*a.2).natAbs<9223372036854775807->a.2*b.2<9223372036854775807->CP Y F.gH [I (a.1*b.2+b.1*a.2),I (a.2*b.2:Nat)] (.agg (qT (oz a b))):=fun h1 h2=>Kv hd h1 h2
 by_cases one:a.2=1∧b.2=1
 ·have ad1:=rH (z:=a.1) (w:=b.1) aa aa
  have eq:oz a b=(a.1+b.1,1):=by
   unfold oz;rw [one.1,one.2];rw [GN af];simp
  rw [eq];have t1:qT a=[S (itoa a.1),S [49]]:=by unfold qT;rw [one.1,eG]
  have t2:qT b=[S (itoa b.1),S [49]]:=by unfold qT;rw [one.2,eG]
  have t3:qT (a.1+b.1,1)=[S (itoa (a.1+b.1)),S [49]]:=by unfold qT;rw [eG]
  rw [t1,t2,t3];simp (disch:=try exact ac)[gk];refine cd ad1 ?_;simp (disch:=try exact ac)[];exact kU rfl rfl
 obtain ⟨x,y,hxy⟩:∃ x y,qT (oz a b)=[S x,S y]:=⟨_,_,rfl⟩;rw [hxy] at lw ff ⊢;simp only [qT] at b1 b2 ⊢
 have tail:∀ u:Unit,cal (CX Y).p [(1,.vars [S (itoa a.1),S (ah a.2)]),(1,.vars [S (itoa b.1),S (ah b.2)]),(1,.vars [.d (.str []),.d (.str [])])] (.fn F.aH [] []) [S (itoa a.1),S (ah b.2)] fun v30 h=>
   bnd (faV 0 (.ptr 1 1 0 2)) fun v31=>
   bnd (ld1 h v31) fun v32=>
   bnd (faV 1 (.ptr 0 1 0 2)) fun v33=>
   bnd (ld1 h v33) fun v34=>
   cal (CX Y).p h (.fn F.aH [] []) [v32,v34] fun v35 h=>
   cal (CX Y).p h (.fn F.ci [] []) [v30,v35] fun v36 h=>
   bnd (faV 1 (.ptr 0 1 0 2)) fun v37=>
   bnd (ld1 h v37) fun v38=>
   bnd (faV 1 (.ptr 1 1 0 2)) fun v39=>
   bnd (ld1 h v39) fun v40=>
   cal (CX Y).p h (.fn F.aH [] []) [v38,v40] fun v41 h=>
   cal (CX Y).p h (.fn F.aW [] []) [v36,v41] fun v42 h=>
   stD h 2 (.ptr 2 1 0 2) v42 fun _ h=>
   bnd (ldA h 2 (.ptr 2 1 0 2)) fun v44=>
   out (.agg [S x,S y]) v44 h:=by
  intro _;simp (disch:=try exact ac)[];refine cd m1 ?_;simp (disch:=try exact ac)[];refine cd m2 ?_;simp (disch:=try exact ac)[];refine cd ad ?_;simp (disch:=try exact ac)[];refine cd m3 ?_;simp (disch:=try exact ac)[];refine cd lw ?_;simp (disch:=try exact ac)[];exact kU rfl rfl
 have hne:¬ (ah a.2=[49]∧ah b.2=[49]):=fun h=>one ⟨mK (h.1.trans eG.symm),mK (h.2.trans eG.symm)⟩
 have walk:∀ u:Unit,bnd (ldA [(1,.vars [S (itoa a.1),S (ah a.2)]),(1,.vars [S (itoa b.1),S (ah b.2)]),(1,.vars [.d (.str []),.d (.str [])])] 2 (.ptr 0 1 0 2)) fun v19=>
  cal (CX Y).p [(1,.vars [S (itoa a.1),S (ah a.2)]),(1,.vars [S (itoa b.1),S (ah b.2)]),(1,.vars [.d (.str []),.d (.str [])])] (.fn F.dP [] []) [v19] fun v20 h=>
  ext v20 0 fun v21=>
  ext v20 1 fun v22=>
  ext v20 2 fun v23=>
  jn (fun l24 h=>
   bnd (faV 0 (.ptr 0 1 0 2)) fun v26=>
   bnd (ld1 h v26) fun v27=>
   bnd (faV 1 (.ptr 1 1 0 2)) fun v28=>
   bnd (ld1 h v28) fun v29=>
   cal (CX Y).p h (.fn F.aH [] []) [v27,v29] fun v30 h=>
   bnd (faV 0 (.ptr 1 1 0 2)) fun v31=>
   bnd (ld1 h v31) fun v32=>
   bnd (faV 1 (.ptr 0 1 0 2)) fun v33=>
   bnd (ld1 h v33) fun v34=>
   cal (CX Y).p h (.fn F.aH [] []) [v32,v34] fun v35 h=>
   cal (CX Y).p h (.fn F.ci [] []) [v30,v35] fun v36 h=>
   bnd (faV 1 (.ptr 0 1 0 2)) fun v37=>
   bnd (ld1 h v37) fun v38=>
   bnd (faV 1 (.ptr 1 1 0 2)) fun v39=>
   bnd (ld1 h v39) fun v40=>
   cal (CX Y).p h (.fn F.aH [] []) [v38,v40] fun v41 h=>
   cal (CX Y).p h (.fn F.aW [] []) [v36,v41] fun v42 h=>
   stD h 2 (.ptr 2 1 0 2) v42 fun _ h=>
   bnd (ldA h 2 (.ptr 2 1 0 2)) fun v44=>
   out (.agg [S x,S y]) v44 h) fun q25=>
   cnd v23 (
    bnd (ldA h 2 (.ptr 1 1 0 2)) fun v45=>
    cal (CX Y).p h (.fn F.dP [] []) [v45] fun v46 h=>
    ext v46 0 fun v47=>
    ext v46 1 fun v48=>
    ext v46 2 fun v49=>
    cnd v49 (
     bnd (biI .mul v21 v48) fun v50=>
     bnd (biI .mul v47 v22) fun v51=>
     bnd (biI .add v50 v51) fun v52=>
     bnd (biI .mul v22 v48) fun v53=>
     cal (CX Y).p h (.fn F.gH [] []) [v52,v53] fun v54 h=>
     stD h 2 (.ptr 2 1 0 2) v54 fun _ h=>
     bnd (ldA h 2 (.ptr 2 1 0 2)) fun v56=>
     out (.agg [S x,S y]) v56 h) (
     q25 [] h)) (
    q25 [] h):=by
  intro _;simp (disch:=try exact ac)[];refine cd b1 ?_ (zH ..);cases g1:decide (sdg a.1<=9) && decide (ndg a.2<=9) with
  | false=>
   simp (disch:=try exact ac)[];refine bj ?_;simp (disch:=try exact ac)[];simpa using tail ()
  | true=>
   simp only [Z7,decide_eq_true_eq] at g1;obtain ⟨s1,s2⟩:=Dy g1.1 g1.2;rw [if_pos g1.1,if_pos g1.2];simp (disch:=try exact ac)[];refine bj ?_;simp (disch:=try exact ac)[];refine cd b2 ?_ (zH ..);cases g2:decide (sdg b.1<=9) && decide (ndg b.2<=9) with
   | false=>
    simp (disch:=try exact ac)[];simpa using tail ()
   | true=>
    simp only [Z7,decide_eq_true_eq] at g2;obtain ⟨s3,s4⟩:=Dy g2.1 g2.2;rw [if_pos g2.1,if_pos g2.2];have p1:(a.1*b.2).natAbs<1000000000*1000000000:=by rw [Zi,Int.natAbs_natCast];exact Yh s1 s4
    have p3:(b.1*a.2).natAbs<1000000000*1000000000:=by rw [Zi,Int.natAbs_natCast];exact Yh s3 s2
    have p2:a.2*b.2<1000000000*1000000000:=Yh s2 s4;have e2:(a.2:Int)*(b.2:Int)=((a.2*b.2:Nat):Int):=af;have ff:=ff aa aa;obtain ⟨N,hN⟩:∃ N,a.1*(b.2:Int)=N:=⟨_,rfl⟩;obtain ⟨M,hM⟩:∃ M,b.1*(a.2:Int)=M:=⟨_,rfl⟩;rw [hN] at p1 ff;rw [hM] at p3 ff;generalize a.2*b.2=D at *;simp (disch:=try exact ac)[e2,hN,hM];refine cd ff ?_
    simp (disch:=try exact ac)[];exact kU rfl rfl
 by_cases c1:ah a.2=[49]
 ·have c2:¬ ah b.2=[49]:=fun h=>hne ⟨c1,h⟩
  simp (disch:=try exact ac)[gk,c1,c2];simpa [c1] using walk ()
 ·simp (disch:=try exact ac)[gk,c1];simpa using walk ()
theorem L3 (a:Q):CP Y F.jI [.agg (qT a)] (I (sgn a.1)):=by
 refine ym ?_;simp (disch:=try exact ac)[jI,qT];refine cd (jz a.1) ?_;exact bU rfl
theorem I6 {a:Q} (ha:okQ a) (la:qL 800000 a):CP Y F.gY [.agg (qT a)] (S (itoa (a.1 / a.2))):=by
 refine xa ?_;obtain ⟨la1,la2⟩:=la;simp (disch:=try exact ac)[gY,qT];refine cd (pW (z:=a.1) ha.1 aa aa) ?_;simp (disch:=try exact ac)[];exact dE rfl
theorem FZ (z:Int):sgn z=0↔z=0:=by
 unfold sgn;constructor
 ·intro h;split at h
  ·assumption
  ·split at h <;> omega
 ·intro h;rw [if_pos h]
theorem Aj {a b:List UInt8} {c:Int} {h:Hp}:out (.tup [.agg [S a,S b],I c]) (.tup [.agg [S a,S b],I c]) h:=⟨h,by simp [aI,aj,norm]⟩
theorem OQ {a b:Q} (ha:okQ a) (hb:okQ b) (h0:b.1≠0) (la:qL 100000 a) (lb:qL 100000 b):CP Y F.jm [.agg (qT a),.agg (qT b)] (.tup [.agg (qT (ye a b)),I 0]):=by
 refine AR ?_;obtain ⟨la1,la2⟩:=la;obtain ⟨lb1,lb2⟩:=lb;have sg0:=L3 b;have hs:¬ sgn b.1=0:=fun h=>h0 ((FZ _).1 h)
 have m1:=sU (z:=a.1) (b:=b.2) aa aa;have m2:=px (z:=(a.2:Int)) (w:=b.1) (by rw [Int.natAbs_natCast];omega) aa;rw [cF] at m2;have n1:=dh (z:=a.1) (w:=(b.2:Int));have n2:=dh (z:=(a.2:Int)) (w:=b.1);rw [Int.natAbs_natCast] at n1 n2;have hne:(a.2:Int)*b.1≠0:=Wt (by have:=ha.1;omega) h0
 have lw:CP Y F.aW [S (itoa (a.1*b.2)),S (itoa (a.2*b.1))] (.agg (qT (ye a b))):=w7 hne aa aa;obtain ⟨x,y,hxy⟩:∃ x y,qT (ye a b)=[S x,S y]:=⟨_,_,rfl⟩;rw [hxy] at lw ⊢;generalize sgn b.1=sb at *;simp only [qT] at sg0 ⊢;simp (disch:=try exact ac)[jm];refine cd sg0 ?_ (zH ..);simp (disch:=try exact ac)[hs]
 refine cd m1 ?_;simp (disch:=try exact ac)[];refine cd m2 ?_;simp (disch:=try exact ac)[];refine cd lw ?_;simp (disch:=try exact ac)[];exact Aj
theorem OP {n d:Int} (hd:d≠0) (hn:ndg n.natAbs<800000) (hd2:ndg d.natAbs<800000):CP Y F.kE [S (itoa n),S (itoa d)] (.tup [.agg (qT (sE n d)),I 0]):=by
 refine AP ?_;have sg0:=jz d;have hs:¬ sgn d=0:=fun h=>hd ((FZ _).1 h)
 have lw:=w7 hd hn hd2;obtain ⟨x,y,hxy⟩:∃ x y,qT (sE n d)=[S x,S y]:=⟨_,_,rfl⟩;rw [hxy] at lw ⊢;generalize sgn d=sb at *;simp (disch:=try exact ac)[kE];refine cd sg0 ?_;simp (disch:=try exact ac)[hs];refine cd lw ?_;simp (disch:=try exact ac)[];exact Aj
theorem yQ {z:Int} (h1 : -9223372036854775808<z) (h2:z<9223372036854775808):ndg z.natAbs<=19:=bv aa ae
theorem OO {n d:Int} (hd:d≠0) (h1 : -9223372036854775808<n) (h2:n<9223372036854775808) (h3 : -9223372036854775808<d) (h4:d<9223372036854775808):CP Y F.kt [I n,I d] (.tup [.agg (qT (sE n d)),I 0]):=by
 refine BY ?_;have nw:=OP (n:=n) hd (Zb (yQ h1 h2) ae) (Zb (yQ h3 h4) ae);obtain ⟨x,y,hxy⟩:∃ x y,qT (sE n d)=[S x,S y]:=⟨_,_,rfl⟩;rw [hxy] at nw ⊢;simp (disch:=try exact ac)[kt];refine cd (mH h1 h2) ?_;simp (disch:=try exact ac)[];refine cd (mH h3 h4) ?_
 simp (disch:=try exact ac)[];refine cd nw ?_;simp (disch:=try exact ac)[];exact Aj
@[simp] theorem Un {α:Type} (f:α->D) (l:List α) (place:Nat->Option (Nat × Nat)) (cs:List V) (r:List (Nat × V)) (off sz:Nat) :
  Ha (some (off,sz)) place cs (lst f l) r=if 1=sz∧off+1<=cs.length then oU place (cs.take off++[lst f l]++cs.drop (off+1)) r else none:=id rfl
theorem RS (s:List UInt8):CP Y F.gO [S s] (S (rdT s)):=by
 refine xz ?_;simp (disch:=try exact ac)[gO];refine cd (rN s) ?_;simp (disch:=try exact ac)[] <;> exact dE rfl
theorem Ct (a b:List UInt8) (ha:a.length<1000000000) (hb:b.length<1000000000):CP Y F.j6 [.agg [S a,S b]] (B (qh a && decide (b.length<=30))):=by
 refine DI ?_;simp (disch:=try exact ac)[j6];refine cd (RS a) ?_;have hl:(rdT a).length<=a.length:=by unfold rdT;split <;> simp
 by_cases h1:(rdT a).length<=30
 ·have h1':((rdT a).length:Int)<=30:=aa;by_cases h2:b.length<=30
  ·have h2':(b.length:Int)<=30:=aa;simp (disch:=try exact ac)[h1',h2'] <;> exact jA (by simp [qh,h1,h2])
  ·have h2':¬ (b.length:Int)<=30:=aa;simp (disch:=try exact ac)[h1',h2'] <;> exact jA (by simp [qh,h1,h2])
 ·have h1':¬ ((rdT a).length:Int)<=30:=aa;simp (disch:=try exact ac)[h1'] <;> exact jA (by simp [qh,h1])
def sz4 (x:Tx):Bool:=qh x.1 && decide (x.2.length<=30)
def zA:List Tx->Int
 | []=>0
 | x::q=>cond (rdF x.1 x.2).isSome (cond (sz4 x) (zA q) 4) 2
theorem zJ {s:List Tx} (hN:s.length<1000000000) (hl:∀ x∈s,x.1.length<1000000000∧x.2.length<1000000000) (k:KL):∀ (q a:List Tx),a++q=s->(zA q=0->k (.exit 0) [] [(0,.none)])->(zA q≠0->∀ h,k .ret [I (zA q)] h) ->
  lp (mO (CX Y) (bN aU s) (I s.length)) [0] [(0,.none)] [I a.length] [(0,.none)] k
 | []=>by
  intro a ha h0 h1;simp at ha;subst ha;refine ax ?_;simp (disch:=try exact ac)[mO];exact h0 rfl
 | x::q=>by
  intro a ha h0 h1;have hal:a.length<s.length:=by subst ha;simp
  have hx:nth ([],[]) s a.length=x:=by subst ha;simp
  have hxl:=hl x (by subst ha;simp);have e1:=fun h:Hp=>jT aU aT s h (k:=.i64) (i:=(a.length:Int)) aa aa
  have e2:=fun h:Hp=>jS aU aT ([],[]) s h hal
  simp only [hx,Int.toNat_natCast] at e1 e2;have ih:=zJ hN hl k q (a++[x]) (by simpa using ha);refine ax ?_;simp (disch:=try exact ac)[mO,e1,e2,aU];refine cd (De x.1 x.2 hxl.1 hxl.2) ?_;cases g3:(rdF x.1 x.2).isSome with
  | false=>
   simp only [zA,g3,cond_false] at h1;simp (disch:=try exact ac)[g3];exact h1 ae _
  | true=>
   simp (disch:=try exact ac)[g3];refine cd (Ct x.1 x.2 hxl.1 hxl.2) ?_;cases g1:sz4 x with
   | false=>
    simp only [zA,g3,g1,cond_true,cond_false] at h1;rw [show (qh x.1 && decide (x.2.length<=30))=false from g1];simp (disch:=try exact ac)[];exact h1 ae _
   | true=>
    simp only [zA,g3,g1,cond_true] at h0 h1;have:=ih h0 h1;rw [show (qh x.1 && decide (x.2.length<=30))=true from g1];simp (disch:=try exact ac)[clean,eM,jj,oC,dM,aE];simpa using this
def scB (n:Nat) (s:List Tx):Int:=if s.length=n then zA s else 5
theorem FM {p:List Int} {s:List Tx} (hl:∀ x∈s,x.1.length<1000000000∧x.2.length<1000000000) (hs:s.length<1000000000):CP Y F.jh [lst di p,bN aU s] (I (scB p.length s)):=by
 have lp':aA (lst di p)=some (I p.length):=rfl;have ls':aA (bN aU s)=some (I s.length):=rfl;refine DO ?_;by_cases h1:s.length=p.length
 ·have h1':((s.length:Int)=(p.length:Int))=True:=eq_true aa;have e:scB p.length s=zA s:=if_pos h1;rw [e];simp (disch:=try exact ac)[jh,lp',ls',h1'];refine lo (zJ hs hl _ s [] rfl (fun g=>?_) (fun g h=>?_))
  ·simp only [iA];exact bU g.symm
  ·simp only [sJ,vP];exact bU rfl
 ·have h1':¬ ((s.length:Int)=(p.length:Int)):=aa;have e:scB p.length s=5:=if_neg h1;rw [e];simp (disch:=try exact ac)[jh,lp',ls',h1'] <;> exact bU rfl
def siB (p:List Int) (s:List Tx):Int:=if pcB p=0 then scB p.length s else pcB p
theorem M5 {p:List Int} {s:List Tx} (hp:p.length<1000000000) (hl:∀ x∈s,x.1.length<1000000000∧x.2.length<1000000000) (hs:s.length<1000000000):CP Y F.ln [lst di p,bN aU s] (I (siB p s)):=by
 refine DV ?_;simp (disch:=try exact ac)[ln];refine cd (gG hp) ?_;by_cases h:pcB p=0
 ·have e:siB p s=scB p.length s:=if_pos h;rw [e];simp (disch:=try exact ac)[h];refine cd (FM hl hs) ?_;simp (disch:=try exact ac)[] <;> exact bU rfl
 ·have e:siB p s=pcB p:=if_neg h;rw [e];simp (disch:=try exact ac)[h] <;> exact bU rfl
end Go.Vm
