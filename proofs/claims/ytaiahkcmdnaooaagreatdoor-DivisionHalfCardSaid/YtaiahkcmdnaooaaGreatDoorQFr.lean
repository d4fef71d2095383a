/- Fractions: of, lowest, both, Add, Mul, Div, Floor, Of. -/
import Derived.Test.YtaiahkcmdnaooaaGreatDoorQCkShift
import Derived.Test.YtaiahkcmdnaooaaGreatDoorQDcY
import Derived.Test.YtaiahkcmdnaooaaGreatDoorQLibSl
import Derived.Test.YtaiahkcmdnaooaaGreatDoorQT
import Derived.Test.YtaiahkcmdnaooaaGreatDoorQWsX
set_option linter.unusedVariables false
set_option linter.unusedSimpArgs false
namespace Go.Vm
open Go Go.Am Go.Big
abbrev Q:=Int × Nat
def okQ (x:Q):Prop:=0<x.2∧Nat.gcd x.1.natAbs x.2=1
def qT (x:Q):List V:=[S (itoa x.1),S (ah x.2)]
def jO (n:Int) (d:Nat):Q:=(n / (Nat.gcd n.natAbs d:Nat),d / Nat.gcd n.natAbs d)
def nC (a b:Q):Q:=jO (a.1*b.2+b.1*a.2) (a.2*b.2)
def kZ (a b:Q):Q:=jO (a.1*b.1) (a.2*b.2)
def tW (n d:Int):Q:=if d<0 then jO (-n) d.natAbs else jO n d.natAbs
def zh (a b:Q):Q:=tW (a.1*b.2) (a.2*b.1)
theorem Q8 {g:Nat} {n:Int} (h:g ∣ n.natAbs):(g:Int) ∣ n:=Int.natAbs_dvd_natAbs.1 (by simpa using h)
theorem wH (n:Int) {d:Nat} (hd:0<d):okQ (jO n d):=by
 have hg:0<Nat.gcd n.natAbs d:=Wy _ hd;obtain ⟨g,hgg⟩:∃ g,g=Nat.gcd n.natAbs d:=⟨_,rfl⟩;have h1:g ∣ n.natAbs:=by rw [hgg];exact We ..
 have h2:g ∣ d:=by rw [hgg];exact Nat.gcd_dvd_right ..
 unfold jO;rw [<- hgg] at hg ⊢;refine ⟨V9 (X6 hd h2) hg,?_⟩
 have e:(n / (g:Int)).natAbs=n.natAbs / g:=by
  rw [Int.natAbs_ediv_of_dvd (Q8 h1),Int.natAbs_natCast]
 simp only [e];rw [Nat.gcd_div h1 h2,<- hgg,Nat.div_self hg]
theorem HZ {n:Int} {d:Nat} (h:Nat.gcd n.natAbs d=1):jO n d=(n,d):=by
 unfold jO;rw [h];simp
theorem Ab (n:Int) (d:Nat):(jO n d).1.natAbs<=n.natAbs∧(jO n d).2<=d:=by
 obtain ⟨g,hgg⟩:∃ g,g=Nat.gcd n.natAbs d:=⟨_,rfl⟩;have h1:g ∣ n.natAbs:=by rw [hgg];exact We ..
 unfold jO;rw [<- hgg];constructor
 ·simp only;rw [Int.natAbs_ediv_of_dvd (Q8 h1),Int.natAbs_natCast];exact Yc ..
 ·exact Yc ..
theorem Sz (k:KL) (h:Hp) (h0:Hp) (hl:h.length=h0.length):∀ (m:Nat) (a b:Int),b.natAbs<=m->a.natAbs<9223372036854775807->b.natAbs<9223372036854775807 ->
  (∀ c:Int,c.natAbs=Nat.gcd a.natAbs b.natAbs->k (.exit 0) [I c] h)->lp (kM (CX Y)) [] h0 [I a,I b] h k:=by
 intro m
 induction m with
 | zero=>
  intro a b hb ha hb2 hk;have hb0:b=0:=aa;subst hb0;refine av ?_;simp (disch:=try exact ac)[kM];exact hk a af
 | succ m ih=>
  intro a b hb ha hb2 hk;refine av ?_;by_cases hb0:b=0
  ·subst hb0;simp (disch:=try exact ac)[kM];exact hk a af
  ·have hr:(a.tmod b).natAbs<b.natAbs:=by
    rw [Int.natAbs_tmod];exact Yw _ aa
   have e:Nat.gcd b.natAbs (a.tmod b).natAbs=Nat.gcd a.natAbs b.natAbs:=by
    rw [Int.natAbs_tmod,V4,<- Nat.gcd_rec,V4]
   simp (disch:=try exact ac)[kM,hb0,hl];exact ih b (a.tmod b) aa aa aa (fun c hc=>hk c (hc.trans e))
theorem lR {a b a' b':List UInt8} {h:Hp} (e1:a'=a) (e2:b'=b):out (.agg [S a,S b]) (.agg [S a',S b']) h:=by
 subst e1;subst e2;exact ⟨h,by simp [aI,ai,norm]⟩
theorem LH {n:Int} {d:Nat} (hd:0<d) (hn:n.natAbs<9223372036854775807) (hd2:d<9223372036854775807):CP Y F.gX [I n,I d] (.agg (qT (jO n d))):=by
 refine CW ?_;obtain ⟨g,hgg⟩:∃ g,g=Nat.gcd n.natAbs d:=⟨_,rfl⟩;have hg:0<g:=by rw [hgg];exact Wy _ hd
 have h1:g ∣ n.natAbs:=by rw [hgg];exact We ..
 have h2:g ∣ d:=by rw [hgg];exact Nat.gcd_dvd_right ..
 have hgd:g<=d:=X6 hd h2;have e1:n.tdiv (g:Int)=n / (g:Int):=Int.tdiv_eq_ediv_of_dvd (Q8 h1);have e2:(d:Int).tdiv (g:Int)=((d / g:Nat):Int):=by rw [Zs aa,<- Int.natCast_ediv]
 have e3:(n / (g:Int)).natAbs<=n.natAbs:=by
  rw [Int.natAbs_ediv_of_dvd (Q8 h1),Int.natAbs_natCast];exact Yc ..
 have e4:d / g<=d:=Yc ..;have eq:qT (jO n d)=[S (itoa (n / (g:Int))),S (ah (d / g))]:=by unfold qT jO;rw [<- hgg]
 rw [eq];generalize n / (g:Int)=nq at *;generalize d / g=dq at *;have i1:=Ac (z:=nq) aa aa;have i2:=Ac (z:=(dq:Int)) aa aa;rw [cN] at i2;have hg0:¬ (g:Int)=0:=aa;simp (disch:=try exact ac)[gX];refine lo (Sz _ _ _ rfl (d:Int).natAbs n d (Z7 _) hn aa (fun c hc=>?_));rw [Int.natAbs_natCast,<- hgg] at hc
 simp (disch:=try exact ac)[]
 have tail:∀ u:Unit,bnd (biI .quo (I n) (I g)) fun v6=>
   cal (CX Y).p [(1,.vars [.d (.str []),.d (.str [])])] (.fn F.strconv_Itoa [] []) [v6] fun v7 h=>
   bnd (biI .quo (I d) (I g)) fun v8=>
   cal (CX Y).p h (.fn F.strconv_Itoa [] []) [v8] fun v9 h=>
   bnd (bld [(0,1),(1,1)] [.str [],.str []] [(0,v7),(1,v9)]) fun v10=>
   stD h 2 (.ptr 0 1 0 2) v10 fun _ h=>
   bnd (ldA h 2 (.ptr 0 1 0 2)) fun v12=>
   out (.agg [S (itoa nq),S (ah dq)]) v12 h:=by
  intro _;simp (disch:=try exact ac)[e1,e2,hg0];refine cd i1 ?_;simp (disch:=try exact ac)[e2,hg0];refine cd i2 ?_;simp (disch:=try exact ac)[];exact lR rfl rfl
 by_cases hc0:c<0
 ·have hcg : -c=(g:Int):=aa;refine fU (l:=[I g]) (h:=[(1,.vars [.d (.str []),.d (.str [])])]) (fun q=>by simp (disch:=try exact ac)[hc0,hcg]) ?_;exact tail ()
 ·have hcg:c=(g:Int):=aa;subst hcg;refine fU (l:=[I g]) (h:=[(1,.vars [.d (.str []),.d (.str [])])]) (fun q=>by simp (disch:=try exact ac)[hc0]) ?_;exact tail ()
def qL (K:Nat) (x:Q):Prop:=ndg x.1.natAbs<=K∧ndg x.2<=K
theorem FB {n:Int} {d K:Nat} (h1:ndg n.natAbs<=K) (h2:ndg d<=K):qL K (jO n d):=
 ⟨Z1 (dt (Ab n d).1) h1,Z1 (dt (Ab n d).2) h2⟩
theorem qL.mono {K L:Nat} {x:Q} (h:qL K x) (hl:K<=L):qL L x:=⟨Z1 h.1 hl,Z1 h.2 hl⟩
theorem kI {z w:Int} {k:Nat} (hz:ndg z.natAbs<=k) (hw:ndg w.natAbs<=k):ndg (z+w).natAbs<=k+1:=
 Z1 (dt (Wm z w)) (qc hz hw)
theorem du {z w:Int}:ndg (z*w).natAbs<=ndg z.natAbs+ndg w.natAbs:=by
 rw [Zn];exact pZ
theorem US {a b:Q} {K L:Nat} (ha:qL K a) (hb:qL L b):qL (K+L+1) (nC a b):=by
 refine FB (kI ?_ ?_) ?_
 ·have:=du (z:=a.1) (w:=(b.2:Int));rw [Int.natAbs_natCast] at this;have:=ha.1;have:=hb.2;omega
 ·have:=du (z:=b.1) (w:=(a.2:Int));rw [Int.natAbs_natCast] at this;have:=hb.1;have:=ha.2;omega
 ·have:=pZ (a:=a.2) (b:=b.2);have:=ha.2;have:=hb.2;omega
theorem Pi {a b:Q} {K L:Nat} (ha:qL K a) (hb:qL L b):qL (K+L) (kZ a b):=by
 refine FB ?_ ?_
 ·have:=du (z:=a.1) (w:=b.1);have:=ha.1;have:=hb.1;omega
 ·have:=pZ (a:=a.2) (b:=b.2);have:=ha.2;have:=hb.2;omega
theorem Si {a b:Q} (ha:okQ a) (hb:okQ b):okQ (nC a b):=wH _ (Yr ha.1 hb.1)
theorem Ld {a b:Q} (ha:okQ a) (hb:okQ b):okQ (kZ a b):=wH _ (Yr ha.1 hb.1)
theorem GC {z w:Int} (hw0:0<w) (hz:ndg z.natAbs<900000) (hw:ndg w.natAbs<900000):CP Y F.aQ [S (itoa z),S (itoa w)] (.tup [S (itoa (z / w)),S (itoa (z % w)),I 0]):=by
 obtain ⟨m,rfl⟩:∃ m:Nat,w=m:=⟨w.toNat,aa⟩;rw [cN];exact rz aa hz (by simpa using hw)
theorem xT {n d:Int} (hd:d≠0) (hn:ndg n.natAbs<800000) (hd2:ndg d.natAbs<800000):CP Y F.aW [S (itoa n),S (itoa d)] (.agg (qT (tW n d))):=by
 refine wS ?_;have sg0:=jN d
 have tail:∀ (n:Int) (d:Nat),0<d->ndg n.natAbs<800000->ndg d<800000 ->
   cal (CX Y).p [(1,.vars [.d (.str []),.d (.str [])])] (.fn F.mr [] []) [S (itoa n),S (ah d)] fun v6 h=>
  bnd (biS .neq v6 (.d (.str [49]))) fun v7=>
  jn (fun l8 h=>
   bnd (bld [(0,1),(1,1)] [.str [],.str []] [(0,(ge l8 0)),(1,(ge l8 1))]) fun v10=>
   stD h 2 (.ptr 0 1 0 2) v10 fun _ h=>
   bnd (ldA h 2 (.ptr 0 1 0 2)) fun v12=>
   out (.agg (qT (jO n d))) v12 h) fun q9=>
   cnd v7 (
    cal (CX Y).p h (.fn F.aQ [] []) [S (itoa n),v6] fun v13 h=>
    ext v13 0 fun v14=>
    ext v13 1 fun v15=>
    ext v13 2 fun v16=>
    cal (CX Y).p h (.fn F.aQ [] []) [S (ah d),v6] fun v17 h=>
    ext v17 0 fun v18=>
    ext v17 1 fun v19=>
    ext v17 2 fun v20=>
    q9 [v14,v18] h) (
    q9 [S (itoa n),S (ah d)] h):=by
  intro n d hd hn hd2;have gc:=LF (z:=n) (w:=(d:Int)) aa (by simpa using Nat.lt_trans hd2 ae);rw [cN,Int.natAbs_natCast] at gc;obtain ⟨g,hgg⟩:∃ g,g=Nat.gcd n.natAbs d:=⟨_,rfl⟩;have hg:0<g:=by rw [hgg];exact Wy _ hd
  have hgd:g<=d:=X6 hd (by rw [hgg];exact Nat.gcd_dvd_right ..);have eq:jO n d=(n / (g:Int),d / g):=by unfold jO;rw [<- hgg]
  rw [<- hgg] at gc;rw [eq];have ng:ndg g<900000:=Zb (dt hgd) aa;have d1:=rz (z:=n) hg aa ng;have d2:=qD (a:=d) hg aa ng;simp (disch:=try exact ac)[];refine cd gc ?_;by_cases h1:g=1
  ·subst h1;rw [eY];simp (disch:=try exact ac)[];refine fU (l:=[S (itoa n),S (ah d)]) (h:=[(1,.vars [.d (.str []),.d (.str [])])]) (fun q=>by simp (disch:=try exact ac)[]) ?_;simp (disch:=try exact ac)[];refine lR af af
  ·have h49:¬ ah g=[49]:=fun h=>h1 (nF (h.trans eY.symm))
   simp (disch:=try exact ac)[h49];refine bJ ?_;simp (disch:=try exact ac)[h49];refine cd d1 ?_;simp (disch:=try exact ac)[];refine cd d2 ?_;simp (disch:=try exact ac)[];exact lR rfl rfl
 simp (disch:=try exact ac)[aW];refine cd sg0 ?_;by_cases hneg:d<0
 ·have s1:sgn d = -1:=by unfold sgn;rw [if_neg hd,if_pos hneg]
  rw [s1];have hd3:ndg (-d).natAbs<800000:=by rw [X4];exact hd2
  have n1:=uB (z:=n) aa;have n2:=uB (z:=d) aa;have e:tW n d=jO (-n) d.natAbs:=if_pos hneg;have ed:itoa (-d)=ah d.natAbs:=by rw [show -d=((d.natAbs:Nat):Int) by omega,cN]
  rw [e];rw [ed] at n2;simp (disch:=try exact ac)[];refine bJ ?_;simp (disch:=try exact ac)[];refine cd n1 ?_;simp (disch:=try exact ac)[];refine cd n2 ?_;have:=tail (-n) d.natAbs aa (by rw [X4];exact hn) hd2;simpa using this
 ·have s1:sgn d=1:=by unfold sgn;rw [if_neg hd,if_neg hneg]
  rw [s1];have e:tW n d=jO n d.natAbs:=if_neg hneg;have ed:itoa d=ah d.natAbs:=by conv=>lhs;rw [show d=((d.natAbs:Nat):Int) by omega,cN]
  rw [e,ed];simp (disch:=try exact ac)[];refine bJ ?_;simp (disch:=try exact ac)[];have:=tail n d.natAbs aa hn hd2;simpa using this
theorem xm (a:Q):CP Y F.dX [.agg (qT a)] (.tup [I (if sdg a.1<=9 then a.1 else 0),I (if ndg a.2<=9 then a.2 else 0),B (decide (sdg a.1<=9) && decide (ndg a.2<=9))]):=by
 refine zp ?_;have l1:=Bu a.1;have l2:=Bu (a.2:Int);have e:sdg (a.2:Int)=ndg a.2:=by unfold sdg;rw [if_neg aa,Int.natAbs_natCast];rfl
 rw [cN,e] at l2;simp (disch:=try exact ac)[dX,qT];refine cd l1 ?_;by_cases h1:sdg a.1<=9
 ·rw [if_pos h1,if_pos h1,decide_eq_true h1];simp (disch:=try exact ac)[];refine cd l2 ?_;by_cases h2:ndg a.2<=9
  ·rw [if_pos h2,if_pos h2,decide_eq_true h2];simp (disch:=try exact ac)[];exact iI rfl rfl rfl
  ·rw [if_neg h2,if_neg h2,decide_eq_false h2];simp (disch:=try exact ac)[];exact iI rfl rfl rfl
 ·rw [if_neg h1,if_neg h1,decide_eq_false h1];simp (disch:=try exact ac)[];refine cd l2 ?_;by_cases h2:ndg a.2<=9
  ·rw [if_pos h2,if_pos h2,decide_eq_true h2];simp (disch:=try exact ac)[];exact iI rfl rfl rfl
  ·rw [if_neg h2,if_neg h2,decide_eq_false h2];simp (disch:=try exact ac)[];exact iI rfl rfl rfl
theorem HY {n:Int} {d:Nat} (h:0<d):tW n (d:Int)=jO n d:=by
 unfold tW;rw [if_neg aa,Int.natAbs_natCast]
theorem Lr {n:Int} {d:Nat} (hd:0<d) (hn:ndg n.natAbs<800000) (hd2:ndg d<800000):CP Y F.aW [S (itoa n),S (ah d)] (.agg (qT (jO n d))):=by
 have:=xT (n:=n) (d:=(d:Int)) aa hn (by simpa using hd2)
 rwa [HY hd,cN] at this
theorem T2 (h:Hp) (a:Q):aI h (.agg (qT a))=some (.agg (qT a),h):=by simp [qT,aI,ai,norm]
theorem uh {z:Int} {b:Nat} (hz:ndg z.natAbs<400000) (hb:ndg b<400000):CP Y F.aH [S (itoa z),S (ah b)] (S (itoa (z*b))):=by
 have:=qC (z:=z) (w:=(b:Int)) hz (by simpa using hb)
 rwa [cN] at this
theorem AP (h:Hp) (s t:List UInt8):ai h [.agg [S s,S t]]=some ([.agg [S s,S t]],h):=by simp [ai,aI,norm]
theorem EN {a:Q} (h1:sdg a.1<=9) (h2:ndg a.2<=9):a.1.natAbs<1000000000∧a.2<1000000000:=
 ⟨uq h1,Z0 (cx _) (Z2 ae h2)⟩
theorem Im {a b:Q} (ha:okQ a) (hb:okQ b) (la:qL 100000 a) (lb:qL 100000 b):CP Y F.gJ [.agg (qT a),.agg (qT b)] (.agg (qT (kZ a b))):=by
 refine BO ?_;obtain ⟨la1,la2⟩:=la;obtain ⟨lb1,lb2⟩:=lb;have b1:=xm a;have b2:=xm b;have m1:=qC (z:=a.1) (w:=b.1) aa aa;have m2:=tA (a:=a.2) (b:=b.2) aa aa;have n1:=du (z:=a.1) (w:=b.1);have n2:=pZ (a:=a.2) (b:=b.2);have hd:0<a.2*b.2:=Yr ha.1 hb.1
 have lw:CP Y F.aW [S (itoa (a.1*b.1)),S (ah (a.2*b.2))] (.agg (qT (kZ a b))):=Lr (n:=a.1*b.1) hd aa aa;have ff:(a.1*b.1).natAbs<9223372036854775807->a.2*b.2<9223372036854775807->CP Y F.gX [I (a.1*b.1),I (a.2*b.2:Nat)] (.agg (qT (kZ a b))):=fun h1 h2=>LH hd h1 h2
 obtain ⟨x,y,hxy⟩:∃ x y,qT (kZ a b)=[S x,S y]:=⟨_,_,rfl⟩;rw [hxy] at lw ff ⊢;simp only [qT] at b1 b2 ⊢
 have tail:∀ u:Unit,cal (CX Y).p [(1,.vars [S (itoa a.1),S (ah a.2)]),(1,.vars [S (itoa b.1),S (ah b.2)]),(1,.vars [.d (.str []),.d (.str [])])] (.fn F.aH [] []) [S (itoa a.1),S (itoa b.1)] fun v15 h=>
  bnd (faV 1 (.ptr 0 1 0 2)) fun v16=>
  bnd (ld1 h v16) fun v17=>
  bnd (faV 1 (.ptr 1 1 0 2)) fun v18=>
  bnd (ld1 h v18) fun v19=>
  cal (CX Y).p h (.fn F.aH [] []) [v17,v19] fun v20 h=>
  cal (CX Y).p h (.fn F.aW [] []) [v15,v20] fun v21 h=>
  stD h 2 (.ptr 2 1 0 2) v21 fun _ h=>
  bnd (ldA h 2 (.ptr 2 1 0 2)) fun v23=>
  out (.agg [S x,S y]) v23 h:=by
  intro _;simp (disch:=try exact ac)[];refine cd m1 ?_;simp (disch:=try exact ac)[];refine cd m2 ?_;simp (disch:=try exact ac)[];refine cd lw ?_;simp (disch:=try exact ac)[];exact lR rfl rfl
 simp (disch:=try exact ac)[gJ];refine cd b1 ?_ (AP ..);cases g1:decide (sdg a.1<=9) && decide (ndg a.2<=9) with
 | false=>
  simp (disch:=try exact ac)[];refine bJ ?_;simp (disch:=try exact ac)[];simpa using tail ()
 | true=>
  simp only [Z8,decide_eq_true_eq] at g1;obtain ⟨s1,s2⟩:=EN g1.1 g1.2;rw [if_pos g1.1,if_pos g1.2];simp (disch:=try exact ac)[];refine bJ ?_;simp (disch:=try exact ac)[];refine cd b2 ?_ (AP ..);cases g2:decide (sdg b.1<=9) && decide (ndg b.2<=9) with
  | false=>
   simp (disch:=try exact ac)[];simpa using tail ()
  | true=>
   simp only [Z8,decide_eq_true_eq] at g2;obtain ⟨s3,s4⟩:=EN g2.1 g2.2;rw [if_pos g2.1,if_pos g2.2];have p1:(a.1*b.1).natAbs<1000000000*1000000000:=by rw [Zn];exact Yh s1 s3
   have p2:a.2*b.2<1000000000*1000000000:=Yh s2 s4;have e2:(a.2:Int)*(b.2:Int)=((a.2*b.2:Nat):Int):=af;have ff:=ff aa aa;obtain ⟨N,hN⟩:∃ N,a.1*b.1=N:=⟨_,rfl⟩;rw [hN] at p1 ff;generalize a.2*b.2=D at *;simp (disch:=try exact ac)[e2,hN];refine cd ff ?_;simp (disch:=try exact ac)[];exact lR rfl rfl
theorem Qs {a b:Q} (ha:okQ a) (hb:okQ b) (la:qL 100000 a) (lb:qL 100000 b):CP Y F.gK [.agg (qT a),.agg (qT b)] (.agg (qT (nC a b))):=by
 refine BQ ?_;obtain ⟨la1,la2⟩:=la;obtain ⟨lb1,lb2⟩:=lb;have b1:=xm a;have b2:=xm b;have m1:=uh (z:=a.1) (b:=b.2) aa aa;have m2:=uh (z:=b.1) (b:=a.2) aa aa;have m3:=tA (a:=a.2) (b:=b.2) aa aa;have n1:=du (z:=a.1) (w:=(b.2:Int));have n2:=du (z:=b.1) (w:=(a.2:Int))
 have n3:=pZ (a:=a.2) (b:=b.2);rw [Int.natAbs_natCast] at n1 n2;have n4:ndg (a.1*b.2+b.1*a.2).natAbs<=200000+1:=kI aa aa;have ad:=tB (z:=a.1*b.2) (w:=b.1*a.2) aa aa;have hd:0<a.2*b.2:=Yr ha.1 hb.1
 have lw:CP Y F.aW [S (itoa (a.1*b.2+b.1*a.2)),S (ah (a.2*b.2))] (.agg (qT (nC a b))):=Lr hd aa aa;have ff:(a.1*b.2+b.1*a.2).natAbs<9223372036854775807->a.2*b.2<9223372036854775807->CP Y F.gX [I (a.1*b.2+b.1*a.2),I (a.2*b.2:Nat)] (.agg (qT (nC a b))):=fun h1 h2=>LH hd h1 h2
 by_cases one:a.2=1∧b.2=1
 ·have ad1:=tB (z:=a.1) (w:=b.1) aa aa
  have eq:nC a b=(a.1+b.1,1):=by
   unfold nC;rw [one.1,one.2];rw [HZ af];simp
  rw [eq];have t1:qT a=[S (itoa a.1),S [49]]:=by unfold qT;rw [one.1,eY]
  have t2:qT b=[S (itoa b.1),S [49]]:=by unfold qT;rw [one.2,eY]
  have t3:qT (a.1+b.1,1)=[S (itoa (a.1+b.1)),S [49]]:=by unfold qT;rw [eY]
  rw [t1,t2,t3];simp (disch:=try exact ac)[gK];refine cd ad1 ?_;simp (disch:=try exact ac)[];exact lR rfl rfl
 obtain ⟨x,y,hxy⟩:∃ x y,qT (nC a b)=[S x,S y]:=⟨_,_,rfl⟩;rw [hxy] at lw ff ⊢;simp only [qT] at b1 b2 ⊢
 have tail:∀ u:Unit,cal (CX Y).p [(1,.vars [S (itoa a.1),S (ah a.2)]),(1,.vars [S (itoa b.1),S (ah b.2)]),(1,.vars [.d (.str []),.d (.str [])])] (.fn F.aH [] []) [S (itoa a.1),S (ah b.2)] fun v30 h=>
   bnd (faV 0 (.ptr 1 1 0 2)) fun v31=>
   bnd (ld1 h v31) fun v32=>
   bnd (faV 1 (.ptr 0 1 0 2)) fun v33=>
   bnd (ld1 h v33) fun v34=>
   cal (CX Y).p h (.fn F.aH [] []) [v32,v34] fun v35 h=>
   cal (CX Y).p h (.fn F.cr [] []) [v30,v35] fun v36 h=>
   bnd (faV 1 (.ptr 0 1 0 2)) fun v37=>
   bnd (ld1 h v37) fun v38=>
   bnd (faV 1 (.ptr 1 1 0 2)) fun v39=>
   bnd (ld1 h v39) fun v40=>
   cal (CX Y).p h (.fn F.aH [] []) [v38,v40] fun v41 h=>
   cal (CX Y).p h (.fn F.aW [] []) [v36,v41] fun v42 h=>
   stD h 2 (.ptr 2 1 0 2) v42 fun _ h=>
   bnd (ldA h 2 (.ptr 2 1 0 2)) fun v44=>
   out (.agg [S x,S y]) v44 h:=by
  intro _;simp (disch:=try exact ac)[];refine cd m1 ?_;simp (disch:=try exact ac)[];refine cd m2 ?_;simp (disch:=try exact ac)[];refine cd ad ?_;simp (disch:=try exact ac)[];refine cd m3 ?_;simp (disch:=try exact ac)[];refine cd lw ?_;simp (disch:=try exact ac)[];exact lR rfl rfl
 have hne:¬ (ah a.2=[49]∧ah b.2=[49]):=fun h=>one ⟨nF (h.1.trans eY.symm),nF (h.2.trans eY.symm)⟩
 have walk:∀ u:Unit,bnd (ldA [(1,.vars [S (itoa a.1),S (ah a.2)]),(1,.vars [S (itoa b.1),S (ah b.2)]),(1,.vars [.d (.str []),.d (.str [])])] 2 (.ptr 0 1 0 2)) fun v19=>
  cal (CX Y).p [(1,.vars [S (itoa a.1),S (ah a.2)]),(1,.vars [S (itoa b.1),S (ah b.2)]),(1,.vars [.d (.str []),.d (.str [])])] (.fn F.dX [] []) [v19] fun v20 h=>
  ext v20 0 fun v21=>
  ext v20 1 fun v22=>
  ext v20 2 fun v23=>
  jn (fun l24 h=>
   bnd (faV 0 (.ptr 0 1 0 2)) fun v26=>
   bnd (ld1 h v26) fun v27=>
   bnd (faV 1 (.ptr 1 1 0 2)) fun v28=>
   bnd (ld1 h v28) fun v29=>
   cal (CX Y).p h (.fn F.aH [] []) [v27,v29] fun v30 h=>
   bnd (faV 0 (.ptr 1 1 0 2)) fun v31=>
   bnd (ld1 h v31) fun v32=>
   bnd (faV 1 (.ptr 0 1 0 2)) fun v33=>
   bnd (ld1 h v33) fun v34=>
   cal (CX Y).p h (.fn F.aH [] []) [v32,v34] fun v35 h=>
   cal (CX Y).p h (.fn F.cr [] []) [v30,v35] fun v36 h=>
   bnd (faV 1 (.ptr 0 1 0 2)) fun v37=>
   bnd (ld1 h v37) fun v38=>
   bnd (faV 1 (.ptr 1 1 0 2)) fun v39=>
   bnd (ld1 h v39) fun v40=>
   cal (CX Y).p h (.fn F.aH [] []) [v38,v40] fun v41 h=>
   cal (CX Y).p h (.fn F.aW [] []) [v36,v41] fun v42 h=>
   stD h 2 (.ptr 2 1 0 2) v42 fun _ h=>
   bnd (ldA h 2 (.ptr 2 1 0 2)) fun v44=>
   out (.agg [S x,S y]) v44 h) fun q25=>
   cnd v23 (
    bnd (ldA h 2 (.ptr 1 1 0 2)) fun v45=>
    cal (CX Y).p h (.fn F.dX [] []) [v45] fun v46 h=>
    ext v46 0 fun v47=>
    ext v46 1 fun v48=>
    ext v46 2 fun v49=>
    cnd v49 (
     bnd (biI .mul v21 v48) fun v50=>
     bnd (biI .mul v47 v22) fun v51=>
     bnd (biI .add v50 v51) fun v52=>
     bnd (biI .mul v22 v48) fun v53=>
     cal (CX Y).p h (.fn F.gX [] []) [v52,v53] fun v54 h=>
     stD h 2 (.ptr 2 1 0 2) v54 fun _ h=>
     bnd (ldA h 2 (.ptr 2 1 0 2)) fun v56=>
     out (.agg [S x,S y]) v56 h) (
     q25 [] h)) (
    q25 [] h):=by
  intro _;simp (disch:=try exact ac)[];refine cd b1 ?_ (AP ..);cases g1:decide (sdg a.1<=9) && decide (ndg a.2<=9) with
  | false=>
   simp (disch:=try exact ac)[];refine bJ ?_;simp (disch:=try exact ac)[];simpa using tail ()
  | true=>
   simp only [Z8,decide_eq_true_eq] at g1;obtain ⟨s1,s2⟩:=EN g1.1 g1.2;rw [if_pos g1.1,if_pos g1.2];simp (disch:=try exact ac)[];refine bJ ?_;simp (disch:=try exact ac)[];refine cd b2 ?_ (AP ..);cases g2:decide (sdg b.1<=9) && decide (ndg b.2<=9) with
   | false=>
    simp (disch:=try exact ac)[];simpa using tail ()
   | true=>
    simp only [Z8,decide_eq_true_eq] at g2;obtain ⟨s3,s4⟩:=EN g2.1 g2.2;rw [if_pos g2.1,if_pos g2.2];have p1:(a.1*b.2).natAbs<1000000000*1000000000:=by rw [Zn,Int.natAbs_natCast];exact Yh s1 s4
    have p3:(b.1*a.2).natAbs<1000000000*1000000000:=by rw [Zn,Int.natAbs_natCast];exact Yh s3 s2
    have p2:a.2*b.2<1000000000*1000000000:=Yh s2 s4;have e2:(a.2:Int)*(b.2:Int)=((a.2*b.2:Nat):Int):=af;have ff:=ff aa aa;obtain ⟨N,hN⟩:∃ N,a.1*(b.2:Int)=N:=⟨_,rfl⟩;obtain ⟨M,hM⟩:∃ M,b.1*(a.2:Int)=M:=⟨_,rfl⟩;rw [hN] at p1 ff;rw [hM] at p3 ff;generalize a.2*b.2=D at *;simp (disch:=try exact ac)[e2,hN,hM];refine cd ff ?_
    simp (disch:=try exact ac)[];exact lR rfl rfl
 by_cases c1:ah a.2=[49]
 ·have c2:¬ ah b.2=[49]:=fun h=>hne ⟨c1,h⟩
  simp (disch:=try exact ac)[gK,c1,c2];simpa [c1] using walk ()
 ·simp (disch:=try exact ac)[gK,c1];simpa using walk ()
theorem Nm (a:Q):CP Y F.j3 [.agg (qT a)] (I (sgn a.1)):=by
 refine zq ?_;simp (disch:=try exact ac)[j3,qT];refine cd (jN a.1) ?_;exact bU rfl
theorem Kc {a:Q} (ha:okQ a) (la:qL 800000 a):CP Y F.ik [.agg (qT a)] (S (itoa (a.1 / a.2))):=by
 refine xW ?_;obtain ⟨la1,la2⟩:=la;simp (disch:=try exact ac)[ik,qT];refine cd (rz (z:=a.1) ha.1 aa aa) ?_;simp (disch:=try exact ac)[];exact dP rfl
theorem G8 (z:Int):sgn z=0↔z=0:=by
 unfold sgn;constructor
 ·intro h;split at h
  ·assumption
  ·split at h <;> omega
 ·intro h;rw [if_pos h]
theorem Bm {a b:List UInt8} {c:Int} {h:Hp}:out (.tup [.agg [S a,S b],I c]) (.tup [.agg [S a,S b],I c]) h:=⟨h,by simp [aI,ai,norm]⟩
theorem Qr {a b:Q} (ha:okQ a) (hb:okQ b) (h0:b.1≠0) (la:qL 100000 a) (lb:qL 100000 b):CP Y F.jE [.agg (qT a),.agg (qT b)] (.tup [.agg (qT (zh a b)),I 0]):=by
 refine BP ?_;obtain ⟨la1,la2⟩:=la;obtain ⟨lb1,lb2⟩:=lb;have sg0:=Nm b;have hs:¬ sgn b.1=0:=fun h=>h0 ((G8 _).1 h)
 have m1:=uh (z:=a.1) (b:=b.2) aa aa;have m2:=qC (z:=(a.2:Int)) (w:=b.1) (by rw [Int.natAbs_natCast];omega) aa;rw [cN] at m2;have n1:=du (z:=a.1) (w:=(b.2:Int));have n2:=du (z:=(a.2:Int)) (w:=b.1);rw [Int.natAbs_natCast] at n1 n2;have hne:(a.2:Int)*b.1≠0:=Ws (by have:=ha.1;omega) h0
 have lw:CP Y F.aW [S (itoa (a.1*b.2)),S (itoa (a.2*b.1))] (.agg (qT (zh a b))):=xT hne aa aa;obtain ⟨x,y,hxy⟩:∃ x y,qT (zh a b)=[S x,S y]:=⟨_,_,rfl⟩;rw [hxy] at lw ⊢;generalize sgn b.1=sb at *;simp only [qT] at sg0 ⊢;simp (disch:=try exact ac)[jE];refine cd sg0 ?_ (AP ..);simp (disch:=try exact ac)[hs]
 refine cd m1 ?_;simp (disch:=try exact ac)[];refine cd m2 ?_;simp (disch:=try exact ac)[];refine cd lw ?_;simp (disch:=try exact ac)[];exact Bm
theorem Qq {n d:Int} (hd:d≠0) (hn:ndg n.natAbs<800000) (hd2:ndg d.natAbs<800000):CP Y F.lf [S (itoa n),S (itoa d)] (.tup [.agg (qT (tW n d)),I 0]):=by
 refine BN ?_;have sg0:=jN d;have hs:¬ sgn d=0:=fun h=>hd ((G8 _).1 h)
 have lw:=xT hd hn hd2;obtain ⟨x,y,hxy⟩:∃ x y,qT (tW n d)=[S x,S y]:=⟨_,_,rfl⟩;rw [hxy] at lw ⊢;generalize sgn d=sb at *;simp (disch:=try exact ac)[lf];refine cd sg0 ?_;simp (disch:=try exact ac)[hs];refine cd lw ?_;simp (disch:=try exact ac)[];exact Bm
theorem Fu {z:Int} (h1 : -9223372036854775808<z) (h2:z<9223372036854775808):ndg z.natAbs<=19:=bb aa ae
theorem Qp {n d:Int} (hd:d≠0) (h1 : -9223372036854775808<n) (h2:n<9223372036854775808) (h3 : -9223372036854775808<d) (h4:d<9223372036854775808):CP Y F.kN [I n,I d] (.tup [.agg (qT (tW n d)),I 0]):=by
 refine CY ?_;have nw:=Qq (n:=n) hd (Zb (Fu h1 h2) ae) (Zb (Fu h3 h4) ae);obtain ⟨x,y,hxy⟩:∃ x y,qT (tW n d)=[S x,S y]:=⟨_,_,rfl⟩;rw [hxy] at nw ⊢;simp (disch:=try exact ac)[kN];refine cd (mO h1 h2) ?_;simp (disch:=try exact ac)[];refine cd (mO h3 h4) ?_
 simp (disch:=try exact ac)[];refine cd nw ?_;simp (disch:=try exact ac)[];exact Bm
@[simp] theorem WM {α:Type} (f:α->D) (l:List α) (place:Nat->Option (Nat × Nat)) (cs:List V) (r:List (Nat × V)) (off sz:Nat) :
  Iu (some (off,sz)) place cs (lst f l) r=if 1=sz∧off+1<=cs.length then qe place (cs.take off++[lst f l]++cs.drop (off+1)) r else none:=id rfl
theorem TR (s:List UInt8):CP Y F.ib [S s] (S (rdT s)):=by
 refine yy ?_;simp (disch:=try exact ac)[ib];refine cd (tF s) ?_;simp (disch:=try exact ac)[] <;> exact dP rfl
theorem Dz (a b:List UInt8) (ha:a.length<1000000000) (hb:b.length<1000000000):CP Y F.kx [.agg [S a,S b]] (B (rK a && decide (b.length<=30))):=by
 refine ES ?_;simp (disch:=try exact ac)[kx];refine cd (TR a) ?_;have hl:(rdT a).length<=a.length:=by unfold rdT;split <;> simp
 by_cases h1:(rdT a).length<=30
 ·have h1':((rdT a).length:Int)<=30:=aa;by_cases h2:b.length<=30
  ·have h2':(b.length:Int)<=30:=aa;simp (disch:=try exact ac)[h1',h2'] <;> exact iJ (by simp [rK,h1,h2])
  ·have h2':¬ (b.length:Int)<=30:=aa;simp (disch:=try exact ac)[h1',h2'] <;> exact iJ (by simp [rK,h1,h2])
 ·have h1':¬ ((rdT a).length:Int)<=30:=aa;simp (disch:=try exact ac)[h1'] <;> exact iJ (by simp [rK,h1])
def sz4 (x:Tx):Bool:=rK x.1 && decide (x.2.length<=30)
def AJ:List Tx->Int
 | []=>0
 | x::q=>cond (rdF x.1 x.2).isSome (cond (sz4 x) (AJ q) 4) 2
theorem AR {s:List Tx} (hN:s.length<1000000000) (hl:∀ x∈s,x.1.length<1000000000∧x.2.length<1000000000) (k:KL):∀ (q a:List Tx),a++q=s->(AJ q=0->k (.exit 0) [] [(0,.none)])->(AJ q≠0->∀ h,k .ret [I (AJ q)] h) ->
  lp (nM (CX Y) (cX aT s) (I s.length)) [0] [(0,.none)] [I a.length] [(0,.none)] k
 | []=>by
  intro a ha h0 h1;simp at ha;subst ha;refine av ?_;simp (disch:=try exact ac)[nM];exact h0 rfl
 | x::q=>by
  intro a ha h0 h1;have hal:a.length<s.length:=by subst ha;simp
  have hx:nth ([],[]) s a.length=x:=by subst ha;simp
  have hxl:=hl x (by subst ha;simp);have e1:=fun h:Hp=>kq aT aS s h (k:=.i64) (i:=(a.length:Int)) aa aa
  have e2:=fun h:Hp=>ko aT aS ([],[]) s h hal
  simp only [hx,Int.toNat_natCast] at e1 e2;have ih:=AR hN hl k q (a++[x]) (by simpa using ha);refine av ?_;simp (disch:=try exact ac)[nM,e1,e2,aT];refine cd (Em x.1 x.2 hxl.1 hxl.2) ?_;cases g3:(rdF x.1 x.2).isSome with
  | false=>
   simp only [AJ,g3,cond_false] at h1;simp (disch:=try exact ac)[g3];exact h1 ae _
  | true=>
   simp (disch:=try exact ac)[g3];refine cd (Dz x.1 x.2 hxl.1 hxl.2) ?_;cases g1:sz4 x with
   | false=>
    simp only [AJ,g3,g1,cond_true,cond_false] at h1;rw [show (rK x.1 && decide (x.2.length<=30))=false from g1];simp (disch:=try exact ac)[];exact h1 ae _
   | true=>
    simp only [AJ,g3,g1,cond_true] at h0 h1;have:=ih h0 h1;rw [show (rK x.1 && decide (x.2.length<=30))=true from g1];simp (disch:=try exact ac)[clean,fE,k9,pG,eh,aG];simpa using this
def scB (n:Nat) (s:List Tx):Int:=if s.length=n then AJ s else 5
theorem GW {p:List Int} {s:List Tx} (hl:∀ x∈s,x.1.length<1000000000∧x.2.length<1000000000) (hs:s.length<1000000000):CP Y F.jB [lst di p,cX aT s] (I (scB p.length s)):=by
 have lp':bC (lst di p)=some (I p.length):=rfl;have ls':bC (cX aT s)=some (I s.length):=rfl;refine EX ?_;by_cases h1:s.length=p.length
 ·have h1':((s.length:Int)=(p.length:Int))=True:=eq_true aa;have e:scB p.length s=AJ s:=if_pos h1;rw [e];simp (disch:=try exact ac)[jB,lp',ls',h1'];refine lo (AR hs hl _ s [] rfl (fun g=>?_) (fun g h=>?_))
  ·simp only [iN];exact bU g.symm
  ·simp only [t7,w7];exact bU rfl
 ·have h1':¬ ((s.length:Int)=(p.length:Int)):=aa;have e:scB p.length s=5:=if_neg h1;rw [e];simp (disch:=try exact ac)[jB,lp',ls',h1'] <;> exact bU rfl
def siB (p:List Int) (s:List Tx):Int:=if pcB p=0 then scB p.length s else pcB p
theorem Ot {p:List Int} {s:List Tx} (hp:p.length<1000000000) (hl:∀ x∈s,x.1.length<1000000000∧x.2.length<1000000000) (hs:s.length<1000000000):CP Y F.me [lst di p,cX aT s] (I (siB p s)):=by
 refine E3 ?_;simp (disch:=try exact ac)[me];refine cd (gW hp) ?_;by_cases h:pcB p=0
 ·have e:siB p s=scB p.length s:=if_pos h;rw [e];simp (disch:=try exact ac)[h];refine cd (GW hl hs) ?_;simp (disch:=try exact ac)[] <;> exact bU rfl
 ·have e:siB p s=pcB p:=if_neg h;rw [e];simp (disch:=try exact ac)[h] <;> exact bU rfl
end Go.Vm
