/- Fractions: of, lowest, both, Add, Mul, Div, Floor, Of. -/
import Derived.Test.YtaiahkcmdnaooaaGreatDoorQCkShift
import Derived.Test.YtaiahkcmdnaooaaGreatDoorQDcY
import Derived.Test.YtaiahkcmdnaooaaGreatDoorQLibSl
import Derived.Test.YtaiahkcmdnaooaaGreatDoorQT
import Derived.Test.YtaiahkcmdnaooaaGreatDoorQWsX
set_option linter.unusedVariables false
set_option linter.unusedSimpArgs false
namespace Go.Vm
open Go Go.Am Go.Big
abbrev Q:=Int × Nat
def okQ (x:Q):Prop:=0<x.2∧Nat.gcd x.1.natAbs x.2=1
def qT (x:Q):List V:=[S (itoa x.1),S (ah x.2)]
def gQ (n:Int) (d:Nat):Q:=(n / (Nat.gcd n.natAbs d:Nat),d / Nat.gcd n.natAbs d)
def pz (a b:Q):Q:=gQ (a.1*b.2+b.1*a.2) (a.2*b.2)
def mI (a b:Q):Q:=gQ (a.1*b.1) (a.2*b.2)
def uX (n d:Int):Q:=if d<0 then gQ (-n) d.natAbs else gQ n d.natAbs
def AF (a b:Q):Q:=uX (a.1*b.2) (a.2*b.1)
theorem SA {g:Nat} {n:Int} (h:g ∣ n.natAbs):(g:Int) ∣ n:=Int.natAbs_dvd_natAbs.1 (by simpa using h)
theorem rC (n:Int) {d:Nat} (hd:0<d):okQ (gQ n d):=by
 have hg:0<Nat.gcd n.natAbs d:=W0 _ hd;obtain ⟨g,hgg⟩:∃ g,g=Nat.gcd n.natAbs d:=⟨_,rfl⟩;have h1:g ∣ n.natAbs:=by rw [hgg];exact Wi ..
 have h2:g ∣ d:=by rw [hgg];exact Nat.gcd_dvd_right ..
 unfold gQ;rw [<- hgg] at hg ⊢;refine ⟨Wc (Ya hd h2) hg,?_⟩
 have e:(n / (g:Int)).natAbs=n.natAbs / g:=by
  rw [Int.natAbs_ediv_of_dvd (SA h1),Int.natAbs_natCast]
 simp only [e];rw [Nat.gcd_div h1 h2,<- hgg,Nat.div_self hg]
theorem Ju {n:Int} {d:Nat} (h:Nat.gcd n.natAbs d=1):gQ n d=(n,d):=by
 unfold gQ;rw [h];simp
theorem Bq (n:Int) (d:Nat):(gQ n d).1.natAbs<=n.natAbs∧(gQ n d).2<=d:=by
 obtain ⟨g,hgg⟩:∃ g,g=Nat.gcd n.natAbs d:=⟨_,rfl⟩;have h1:g ∣ n.natAbs:=by rw [hgg];exact Wi ..
 unfold gQ;rw [<- hgg];constructor
 ·simp only;rw [Int.natAbs_ediv_of_dvd (SA h1),Int.natAbs_natCast];exact Yg ..
 ·exact Yg ..
theorem TT (k:KL) (h:Hp) (h0:Hp) (hl:h.length=h0.length):∀ (m:Nat) (a b:Int),b.natAbs<=m->a.natAbs<9223372036854775807->b.natAbs<9223372036854775807 ->
  (∀ c:Int,c.natAbs=Nat.gcd a.natAbs b.natAbs->k (.exit 0) [I c] h)->lp (lR (CX Y)) [] h0 [I a,I b] h k:=by
 intro m
 induction m with
 | zero=>
  intro a b hb ha hb2 hk;have hb0:b=0:=aa;subst hb0;refine am ?_;simp (disch:=try exact ac)[lR];exact hk a ag
 | succ m ih=>
  intro a b hb ha hb2 hk;refine am ?_;by_cases hb0:b=0
  ·subst hb0;simp (disch:=try exact ac)[lR];exact hk a ag
  ·have hr:(a.tmod b).natAbs<b.natAbs:=by
    rw [Int.natAbs_tmod];exact Yw _ aa
   have e:Nat.gcd b.natAbs (a.tmod b).natAbs=Nat.gcd a.natAbs b.natAbs:=by
    rw [Int.natAbs_tmod,V7,<- Nat.gcd_rec,V7]
   simp (disch:=try exact ac)[lR,hb0,hl];exact ih b (a.tmod b) aa aa aa (fun c hc=>hk c (hc.trans e))
theorem lF {a b a' b':List UInt8} {h:Hp} (e1:a'=a) (e2:b'=b):out (.agg [S a,S b]) (.agg [S a',S b']) h:=by
 subst e1;subst e2;exact ⟨h,by simp [aF,ai,norm]⟩
theorem Ng {n:Int} {d:Nat} (hd:0<d) (hn:n.natAbs<9223372036854775807) (hd2:d<9223372036854775807):CP Y F.iq [I n,I d] (.agg (qT (gQ n d))):=by
 refine Es ?_;obtain ⟨g,hgg⟩:∃ g,g=Nat.gcd n.natAbs d:=⟨_,rfl⟩;have hg:0<g:=by rw [hgg];exact W0 _ hd
 have h1:g ∣ n.natAbs:=by rw [hgg];exact Wi ..
 have h2:g ∣ d:=by rw [hgg];exact Nat.gcd_dvd_right ..
 have hgd:g<=d:=Ya hd h2;have e1:n.tdiv (g:Int)=n / (g:Int):=Int.tdiv_eq_ediv_of_dvd (SA h1);have e2:(d:Int).tdiv (g:Int)=((d / g:Nat):Int):=by rw [Zs aa,<- Int.natCast_ediv]
 have e3:(n / (g:Int)).natAbs<=n.natAbs:=by
  rw [Int.natAbs_ediv_of_dvd (SA h1),Int.natAbs_natCast];exact Yg ..
 have e4:d / g<=d:=Yg ..;have eq:qT (gQ n d)=[S (itoa (n / (g:Int))),S (ah (d / g))]:=by unfold qT gQ;rw [<- hgg]
 rw [eq];generalize n / (g:Int)=nq at *;generalize d / g=dq at *;have i1:=Bs (z:=nq) aa aa;have i2:=Bs (z:=(dq:Int)) aa aa;rw [c8] at i2;have hg0:¬ (g:Int)=0:=aa;simp (disch:=try exact ac)[iq];refine lo (TT _ _ _ rfl (d:Int).natAbs n d (Z7 _) hn aa (fun c hc=>?_));rw [Int.natAbs_natCast,<- hgg] at hc
 simp (disch:=try exact ac)[]
 have tail:∀ u:Unit,bnd (biI .quo (I n) (I g)) fun v6=>
   cal (CX Y).p [(1,.vars [.d (.str []),.d (.str [])])] (.fn F.strconv_Itoa [] []) [v6] fun v7 h=>
   bnd (biI .quo (I d) (I g)) fun v8=>
   cal (CX Y).p h (.fn F.strconv_Itoa [] []) [v8] fun v9 h=>
   bnd (bld [(0,1),(1,1)] [.str [],.str []] [(0,v7),(1,v9)]) fun v10=>
   stD h 2 (.ptr 0 1 0 2) v10 fun _ h=>
   bnd (ldA h 2 (.ptr 0 1 0 2)) fun v12=>
   out (.agg [S (itoa nq),S (ah dq)]) v12 h:=by
  intro _;simp (disch:=try exact ac)[e1,e2,hg0];refine cd i1 ?_;simp (disch:=try exact ac)[e2,hg0];refine cd i2 ?_;simp (disch:=try exact ac)[];exact lF rfl rfl
 by_cases hc0:c<0
 ·have hcg : -c=(g:Int):=aa;refine fY (l:=[I g]) (h:=[(1,.vars [.d (.str []),.d (.str [])])]) (fun q=>by simp (disch:=try exact ac)[hc0,hcg]) ?_;exact tail ()
 ·have hcg:c=(g:Int):=aa;subst hcg;refine fY (l:=[I g]) (h:=[(1,.vars [.d (.str []),.d (.str [])])]) (fun q=>by simp (disch:=try exact ac)[hc0]) ?_;exact tail ()
def qL (K:Nat) (x:Q):Prop:=ndg x.1.natAbs<=K∧ndg x.2<=K
theorem CH {n:Int} {d K:Nat} (h1:ndg n.natAbs<=K) (h2:ndg d<=K):qL K (gQ n d):=
 ⟨Z1 (dN (Bq n d).1) h1,Z1 (dN (Bq n d).2) h2⟩
theorem qL.mono {K L:Nat} {x:Q} (h:qL K x) (hl:K<=L):qL L x:=⟨Z1 h.1 hl,Z1 h.2 hl⟩
theorem lK {z w:Int} {k:Nat} (hz:ndg z.natAbs<=k) (hw:ndg w.natAbs<=k):ndg (z+w).natAbs<=k+1:=
 Z1 (dN (Wo z w)) (rz hz hw)
theorem dO {z w:Int}:ndg (z*w).natAbs<=ndg z.natAbs+ndg w.natAbs:=by
 rw [Zo];exact rq
theorem VZ {a b:Q} {K L:Nat} (ha:qL K a) (hb:qL L b):qL (K+L+1) (pz a b):=by
 refine CH (lK ?_ ?_) ?_
 ·have:=dO (z:=a.1) (w:=(b.2:Int));rw [Int.natAbs_natCast] at this;have:=ha.1;have:=hb.2;omega
 ·have:=dO (z:=b.1) (w:=(a.2:Int));rw [Int.natAbs_natCast] at this;have:=hb.1;have:=ha.2;omega
 ·have:=rq (a:=a.2) (b:=b.2);have:=ha.2;have:=hb.2;omega
theorem QH {a b:Q} {K L:Nat} (ha:qL K a) (hb:qL L b):qL (K+L) (mI a b):=by
 refine CH ?_ ?_
 ·have:=dO (z:=a.1) (w:=b.1);have:=ha.1;have:=hb.1;omega
 ·have:=rq (a:=a.2) (b:=b.2);have:=ha.2;have:=hb.2;omega
theorem TF {a b:Q} (ha:okQ a) (hb:okQ b):okQ (pz a b):=rC _ (Ys ha.1 hb.1)
theorem MH {a b:Q} (ha:okQ a) (hb:okQ b):okQ (mI a b):=rC _ (Ys ha.1 hb.1)
theorem H3 {z w:Int} (hw0:0<w) (hz:ndg z.natAbs<900000) (hw:ndg w.natAbs<900000):CP Y F.aR [S (itoa z),S (itoa w)] (.tup [S (itoa (z / w)),S (itoa (z % w)),I 0]):=by
 obtain ⟨m,rfl⟩:∃ m:Nat,w=m:=⟨w.toNat,aa⟩;rw [c8];exact s9 aa hz (by simpa using hw)
theorem zh {n d:Int} (hd:d≠0) (hn:ndg n.natAbs<800000) (hd2:ndg d.natAbs<800000):CP Y F.bc [S (itoa n),S (itoa d)] (.agg (qT (uX n d))):=by
 refine xZ ?_;have sg0:=kr d
 have tail:∀ (n:Int) (d:Nat),0<d->ndg n.natAbs<800000->ndg d<800000 ->
   cal (CX Y).p [(1,.vars [.d (.str []),.d (.str [])])] (.fn F.m8 [] []) [S (itoa n),S (ah d)] fun v6 h=>
  bnd (biS .neq v6 (.d (.str [49]))) fun v7=>
  jn (fun l8 h=>
   bnd (bld [(0,1),(1,1)] [.str [],.str []] [(0,(ge l8 0)),(1,(ge l8 1))]) fun v10=>
   stD h 2 (.ptr 0 1 0 2) v10 fun _ h=>
   bnd (ldA h 2 (.ptr 0 1 0 2)) fun v12=>
   out (.agg (qT (gQ n d))) v12 h) fun q9=>
   cnd v7 (
    cal (CX Y).p h (.fn F.aR [] []) [S (itoa n),v6] fun v13 h=>
    ext v13 0 fun v14=>
    ext v13 1 fun v15=>
    ext v13 2 fun v16=>
    cal (CX Y).p h (.fn F.aR [] []) [S (ah d),v6] fun v17 h=>
    ext v17 0 fun v18=>
    ext v17 1 fun v19=>
    ext v17 2 fun v20=>
    q9 [v14,v18] h) (
    q9 [S (itoa n),S (ah d)] h):=by
  intro n d hd hn hd2;have gc:=Nc (z:=n) (w:=(d:Int)) aa (by simpa using Nat.lt_trans hd2 ae);rw [c8,Int.natAbs_natCast] at gc;obtain ⟨g,hgg⟩:∃ g,g=Nat.gcd n.natAbs d:=⟨_,rfl⟩;have hg:0<g:=by rw [hgg];exact W0 _ hd
  have hgd:g<=d:=Ya hd (by rw [hgg];exact Nat.gcd_dvd_right ..);have eq:gQ n d=(n / (g:Int),d / g):=by unfold gQ;rw [<- hgg]
  rw [<- hgg] at gc;rw [eq];have ng:ndg g<900000:=Zc (dN hgd) aa;have d1:=s9 (z:=n) hg aa ng;have d2:=sf (a:=d) hg aa ng;simp (disch:=try exact ac)[];refine cd gc ?_;by_cases h1:g=1
  ·subst h1;rw [eQ];simp (disch:=try exact ac)[];refine fY (l:=[S (itoa n),S (ah d)]) (h:=[(1,.vars [.d (.str []),.d (.str [])])]) (fun q=>by simp (disch:=try exact ac)[]) ?_;simp (disch:=try exact ac)[];refine lF ag ag
  ·have h49:¬ ah g=[49]:=fun h=>h1 (oF (h.trans eQ.symm))
   simp (disch:=try exact ac)[h49];refine aZ ?_;simp (disch:=try exact ac)[h49];refine cd d1 ?_;simp (disch:=try exact ac)[];refine cd d2 ?_;simp (disch:=try exact ac)[];exact lF rfl rfl
 simp (disch:=try exact ac)[bc];refine cd sg0 ?_;by_cases hneg:d<0
 ·have s1:sgn d = -1:=by unfold sgn;rw [if_neg hd,if_pos hneg]
  rw [s1];have hd3:ndg (-d).natAbs<800000:=by rw [X8];exact hd2
  have n1:=vF (z:=n) aa;have n2:=vF (z:=d) aa;have e:uX n d=gQ (-n) d.natAbs:=if_pos hneg;have ed:itoa (-d)=ah d.natAbs:=by rw [show -d=((d.natAbs:Nat):Int) by omega,c8]
  rw [e];rw [ed] at n2;simp (disch:=try exact ac)[];refine aZ ?_;simp (disch:=try exact ac)[];refine cd n1 ?_;simp (disch:=try exact ac)[];refine cd n2 ?_;have:=tail (-n) d.natAbs aa (by rw [X8];exact hn) hd2;simpa using this
 ·have s1:sgn d=1:=by unfold sgn;rw [if_neg hd,if_neg hneg]
  rw [s1];have e:uX n d=gQ n d.natAbs:=if_neg hneg;have ed:itoa d=ah d.natAbs:=by conv=>lhs;rw [show d=((d.natAbs:Nat):Int) by omega,c8]
  rw [e,ed];simp (disch:=try exact ac)[];refine aZ ?_;simp (disch:=try exact ac)[];have:=tail n d.natAbs aa hn hd2;simpa using this
theorem yB (a:Q):CP Y F.eD [.agg (qT a)] (.tup [I (if sdg a.1<=9 then a.1 else 0),I (if ndg a.2<=9 then a.2 else 0),B (decide (sdg a.1<=9) && decide (ndg a.2<=9))]):=by
 refine AL ?_;have l1:=CM a.1;have l2:=CM (a.2:Int);have e:sdg (a.2:Int)=ndg a.2:=by unfold sdg;rw [if_neg aa,Int.natAbs_natCast];rfl
 rw [c8,e] at l2;simp (disch:=try exact ac)[eD,qT];refine cd l1 ?_;by_cases h1:sdg a.1<=9
 ·rw [if_pos h1,if_pos h1,decide_eq_true h1];simp (disch:=try exact ac)[];refine cd l2 ?_;by_cases h2:ndg a.2<=9
  ·rw [if_pos h2,if_pos h2,decide_eq_true h2];simp (disch:=try exact ac)[];exact jc rfl rfl rfl
  ·rw [if_neg h2,if_neg h2,decide_eq_false h2];simp (disch:=try exact ac)[];exact jc rfl rfl rfl
 ·rw [if_neg h1,if_neg h1,decide_eq_false h1];simp (disch:=try exact ac)[];refine cd l2 ?_;by_cases h2:ndg a.2<=9
  ·rw [if_pos h2,if_pos h2,decide_eq_true h2];simp (disch:=try exact ac)[];exact jc rfl rfl rfl
  ·rw [if_neg h2,if_neg h2,decide_eq_false h2];simp (disch:=try exact ac)[];exact jc rfl rfl rfl
theorem CG {n:Int} {d:Nat} (h:0<d):uX n (d:Int)=gQ n d:=by
 unfold uX;rw [if_neg aa,Int.natAbs_natCast]
theorem MY {n:Int} {d:Nat} (hd:0<d) (hn:ndg n.natAbs<800000) (hd2:ndg d<800000):CP Y F.bc [S (itoa n),S (ah d)] (.agg (qT (gQ n d))):=by
 have:=zh (n:=n) (d:=(d:Int)) aa hn (by simpa using hd2)
 rwa [CG hd,c8] at this
theorem Vj (h:Hp) (a:Q):aF h (.agg (qT a))=some (.agg (qT a),h):=by simp [qT,aF,ai,norm]
theorem vl {z:Int} {b:Nat} (hz:ndg z.natAbs<400000) (hb:ndg b<400000):CP Y F.aI [S (itoa z),S (ah b)] (S (itoa (z*b))):=by
 have:=qp (z:=z) (w:=(b:Int)) hz (by simpa using hb)
 rwa [c8] at this
theorem B9 (h:Hp) (s t:List UInt8):ai h [.agg [S s,S t]]=some ([.agg [S s,S t]],h):=by simp [ai,aF,norm]
theorem Ge {a:Q} (h1:sdg a.1<=9) (h2:ndg a.2<=9):a.1.natAbs<1000000000∧a.2<1000000000:=
 ⟨vw h1,Z0 (cT _) (Z2 ae h2)⟩
theorem JP {a b:Q} (ha:okQ a) (hb:okQ b) (la:qL 100000 a) (lb:qL 100000 b):CP Y F.gY [.agg (qT a),.agg (qT b)] (.agg (qT (mI a b))):=by
 refine C8 ?_;obtain ⟨la1,la2⟩:=la;obtain ⟨lb1,lb2⟩:=lb;have b1:=yB a;have b2:=yB b;have m1:=qp (z:=a.1) (w:=b.1) aa aa;have m2:=uz (a:=a.2) (b:=b.2) aa aa;have n1:=dO (z:=a.1) (w:=b.1);have n2:=rq (a:=a.2) (b:=b.2);have hd:0<a.2*b.2:=Ys ha.1 hb.1
 have lw:CP Y F.bc [S (itoa (a.1*b.1)),S (ah (a.2*b.2))] (.agg (qT (mI a b))):=MY (n:=a.1*b.1) hd aa aa;have ff:(a.1*b.1).natAbs<9223372036854775807->a.2*b.2<9223372036854775807->CP Y F.iq [I (a.1*b.1),I (a.2*b.2:Nat)] (.agg (qT (mI a b))):=fun h1 h2=>Ng hd h1 h2
 obtain ⟨x,y,hxy⟩:∃ x y,qT (mI a b)=[S x,S y]:=⟨_,_,rfl⟩;rw [hxy] at lw ff ⊢;simp only [qT] at b1 b2 ⊢
 have tail:∀ u:Unit,cal (CX Y).p [(1,.vars [S (itoa a.1),S (ah a.2)]),(1,.vars [S (itoa b.1),S (ah b.2)]),(1,.vars [.d (.str []),.d (.str [])])] (.fn F.aI [] []) [S (itoa a.1),S (itoa b.1)] fun v15 h=>
  bnd (faV 1 (.ptr 0 1 0 2)) fun v16=>
  bnd (ld1 h v16) fun v17=>
  bnd (faV 1 (.ptr 1 1 0 2)) fun v18=>
  bnd (ld1 h v18) fun v19=>
  cal (CX Y).p h (.fn F.aI [] []) [v17,v19] fun v20 h=>
  cal (CX Y).p h (.fn F.bc [] []) [v15,v20] fun v21 h=>
  stD h 2 (.ptr 2 1 0 2) v21 fun _ h=>
  bnd (ldA h 2 (.ptr 2 1 0 2)) fun v23=>
  out (.agg [S x,S y]) v23 h:=by
  intro _;simp (disch:=try exact ac)[];refine cd m1 ?_;simp (disch:=try exact ac)[];refine cd m2 ?_;simp (disch:=try exact ac)[];refine cd lw ?_;simp (disch:=try exact ac)[];exact lF rfl rfl
 simp (disch:=try exact ac)[gY];refine cd b1 ?_ (B9 ..);cases g1:decide (sdg a.1<=9) && decide (ndg a.2<=9) with
 | false=>
  simp (disch:=try exact ac)[];refine aZ ?_;simp (disch:=try exact ac)[];simpa using tail ()
 | true=>
  simp only [Z8,decide_eq_true_eq] at g1;obtain ⟨s1,s2⟩:=Ge g1.1 g1.2;rw [if_pos g1.1,if_pos g1.2];simp (disch:=try exact ac)[];refine aZ ?_;simp (disch:=try exact ac)[];refine cd b2 ?_ (B9 ..);cases g2:decide (sdg b.1<=9) && decide (ndg b.2<=9) with
  | false=>
   simp (disch:=try exact ac)[];simpa using tail ()
  | true=>
   simp only [Z8,decide_eq_true_eq] at g2;obtain ⟨s3,s4⟩:=Ge g2.1 g2.2;rw [if_pos g2.1,if_pos g2.2];have p1:(a.1*b.1).natAbs<1000000000*1000000000:=by rw [Zo];exact Ym s1 s3
   have p2:a.2*b.2<1000000000*1000000000:=Ym s2 s4;have e2:(a.2:Int)*(b.2:Int)=((a.2*b.2:Nat):Int):=ag;have ff:=ff aa aa;obtain ⟨N,hN⟩:∃ N,a.1*b.1=N:=⟨_,rfl⟩;rw [hN] at p1 ff;generalize a.2*b.2=D at *;simp (disch:=try exact ac)[e2,hN];refine cd ff ?_;simp (disch:=try exact ac)[];exact lF rfl rfl
theorem RQ {a b:Q} (ha:okQ a) (hb:okQ b) (la:qL 100000 a) (lb:qL 100000 b):CP Y F.gZ [.agg (qT a),.agg (qT b)] (.agg (qT (pz a b))):=by
 refine Da ?_;obtain ⟨la1,la2⟩:=la;obtain ⟨lb1,lb2⟩:=lb;have b1:=yB a;have b2:=yB b;have m1:=vl (z:=a.1) (b:=b.2) aa aa;have m2:=vl (z:=b.1) (b:=a.2) aa aa;have m3:=uz (a:=a.2) (b:=b.2) aa aa;have n1:=dO (z:=a.1) (w:=(b.2:Int));have n2:=dO (z:=b.1) (w:=(a.2:Int))
 have n3:=rq (a:=a.2) (b:=b.2);rw [Int.natAbs_natCast] at n1 n2;have n4:ndg (a.1*b.2+b.1*a.2).natAbs<=200000+1:=lK aa aa;have ad:=sj (z:=a.1*b.2) (w:=b.1*a.2) aa aa;have hd:0<a.2*b.2:=Ys ha.1 hb.1
 have lw:CP Y F.bc [S (itoa (a.1*b.2+b.1*a.2)),S (ah (a.2*b.2))] (.agg (qT (pz a b))):=MY hd aa aa;have ff:(a.1*b.2+b.1*a.2).natAbs<9223372036854775807->a.2*b.2<9223372036854775807->CP Y F.iq [I (a.1*b.2+b.1*a.2),I (a.2*b.2:Nat)] (.agg (qT (pz a b))):=fun h1 h2=>Ng hd h1 h2
 by_cases one:a.2=1∧b.2=1
 ·have ad1:=sj (z:=a.1) (w:=b.1) aa aa
  have eq:pz a b=(a.1+b.1,1):=by
   unfold pz;rw [one.1,one.2];rw [Ju ag];simp
  rw [eq];have t1:qT a=[S (itoa a.1),S [49]]:=by unfold qT;rw [one.1,eQ]
  have t2:qT b=[S (itoa b.1),S [49]]:=by unfold qT;rw [one.2,eQ]
  have t3:qT (a.1+b.1,1)=[S (itoa (a.1+b.1)),S [49]]:=by unfold qT;rw [eQ]
  rw [t1,t2,t3];simp (disch:=try exact ac)[gZ];refine cd ad1 ?_;simp (disch:=try exact ac)[];exact lF rfl rfl
 obtain ⟨x,y,hxy⟩:∃ x y,qT (pz a b)=[S x,S y]:=⟨_,_,rfl⟩;rw [hxy] at lw ff ⊢;simp only [qT] at b1 b2 ⊢
 have tail:∀ u:Unit,cal (CX Y).p [(1,.vars [S (itoa a.1),S (ah a.2)]),(1,.vars [S (itoa b.1),S (ah b.2)]),(1,.vars [.d (.str []),.d (.str [])])] (.fn F.aI [] []) [S (itoa a.1),S (ah b.2)] fun v30 h=>
   bnd (faV 0 (.ptr 1 1 0 2)) fun v31=>
   bnd (ld1 h v31) fun v32=>
   bnd (faV 1 (.ptr 0 1 0 2)) fun v33=>
   bnd (ld1 h v33) fun v34=>
   cal (CX Y).p h (.fn F.aI [] []) [v32,v34] fun v35 h=>
   cal (CX Y).p h (.fn F.cD [] []) [v30,v35] fun v36 h=>
   bnd (faV 1 (.ptr 0 1 0 2)) fun v37=>
   bnd (ld1 h v37) fun v38=>
   bnd (faV 1 (.ptr 1 1 0 2)) fun v39=>
   bnd (ld1 h v39) fun v40=>
   cal (CX Y).p h (.fn F.aI [] []) [v38,v40] fun v41 h=>
   cal (CX Y).p h (.fn F.bc [] []) [v36,v41] fun v42 h=>
   stD h 2 (.ptr 2 1 0 2) v42 fun _ h=>
   bnd (ldA h 2 (.ptr 2 1 0 2)) fun v44=>
   out (.agg [S x,S y]) v44 h:=by
  intro _;simp (disch:=try exact ac)[];refine cd m1 ?_;simp (disch:=try exact ac)[];refine cd m2 ?_;simp (disch:=try exact ac)[];refine cd ad ?_;simp (disch:=try exact ac)[];refine cd m3 ?_;simp (disch:=try exact ac)[];refine cd lw ?_;simp (disch:=try exact ac)[];exact lF rfl rfl
 have hne:¬ (ah a.2=[49]∧ah b.2=[49]):=fun h=>one ⟨oF (h.1.trans eQ.symm),oF (h.2.trans eQ.symm)⟩
 have walk:∀ u:Unit,bnd (ldA [(1,.vars [S (itoa a.1),S (ah a.2)]),(1,.vars [S (itoa b.1),S (ah b.2)]),(1,.vars [.d (.str []),.d (.str [])])] 2 (.ptr 0 1 0 2)) fun v19=>
  cal (CX Y).p [(1,.vars [S (itoa a.1),S (ah a.2)]),(1,.vars [S (itoa b.1),S (ah b.2)]),(1,.vars [.d (.str []),.d (.str [])])] (.fn F.eD [] []) [v19] fun v20 h=>
  ext v20 0 fun v21=>
  ext v20 1 fun v22=>
  ext v20 2 fun v23=>
  jn (fun l24 h=>
   bnd (faV 0 (.ptr 0 1 0 2)) fun v26=>
   bnd (ld1 h v26) fun v27=>
   bnd (faV 1 (.ptr 1 1 0 2)) fun v28=>
   bnd (ld1 h v28) fun v29=>
   cal (CX Y).p h (.fn F.aI [] []) [v27,v29] fun v30 h=>
   bnd (faV 0 (.ptr 1 1 0 2)) fun v31=>
   bnd (ld1 h v31) fun v32=>
   bnd (faV 1 (.ptr 0 1 0 2)) fun v33=>
   bnd (ld1 h v33) fun v34=>
   cal (CX Y).p h (.fn F.aI [] []) [v32,v34] fun v35 h=>
   cal (CX Y).p h (.fn F.cD [] []) [v30,v35] fun v36 h=>
   bnd (faV 1 (.ptr 0 1 0 2)) fun v37=>
   bnd (ld1 h v37) fun v38=>
   bnd (faV 1 (.ptr 1 1 0 2)) fun v39=>
   bnd (ld1 h v39) fun v40=>
   cal (CX Y).p h (.fn F.aI [] []) [v38,v40] fun v41 h=>
   cal (CX Y).p h (.fn F.bc [] []) [v36,v41] fun v42 h=>
   stD h 2 (.ptr 2 1 0 2) v42 fun _ h=>
   bnd (ldA h 2 (.ptr 2 1 0 2)) fun v44=>
   out (.agg [S x,S y]) v44 h) fun q25=>
   cnd v23 (
    bnd (ldA h 2 (.ptr 1 1 0 2)) fun v45=>
    cal (CX Y).p h (.fn F.eD [] []) [v45] fun v46 h=>
    ext v46 0 fun v47=>
    ext v46 1 fun v48=>
    ext v46 2 fun v49=>
    cnd v49 (
     bnd (biI .mul v21 v48) fun v50=>
     bnd (biI .mul v47 v22) fun v51=>
     bnd (biI .add v50 v51) fun v52=>
     bnd (biI .mul v22 v48) fun v53=>
     cal (CX Y).p h (.fn F.iq [] []) [v52,v53] fun v54 h=>
     stD h 2 (.ptr 2 1 0 2) v54 fun _ h=>
     bnd (ldA h 2 (.ptr 2 1 0 2)) fun v56=>
     out (.agg [S x,S y]) v56 h) (
     q25 [] h)) (
    q25 [] h):=by
  intro _;simp (disch:=try exact ac)[];refine cd b1 ?_ (B9 ..);cases g1:decide (sdg a.1<=9) && decide (ndg a.2<=9) with
  | false=>
   simp (disch:=try exact ac)[];refine aZ ?_;simp (disch:=try exact ac)[];simpa using tail ()
  | true=>
   simp only [Z8,decide_eq_true_eq] at g1;obtain ⟨s1,s2⟩:=Ge g1.1 g1.2;rw [if_pos g1.1,if_pos g1.2];simp (disch:=try exact ac)[];refine aZ ?_;simp (disch:=try exact ac)[];refine cd b2 ?_ (B9 ..);cases g2:decide (sdg b.1<=9) && decide (ndg b.2<=9) with
   | false=>
    simp (disch:=try exact ac)[];simpa using tail ()
   | true=>
    simp only [Z8,decide_eq_true_eq] at g2;obtain ⟨s3,s4⟩:=Ge g2.1 g2.2;rw [if_pos g2.1,if_pos g2.2];have p1:(a.1*b.2).natAbs<1000000000*1000000000:=by rw [Zo,Int.natAbs_natCast];exact Ym s1 s4
    have p3:(b.1*a.2).natAbs<1000000000*1000000000:=by rw [Zo,Int.natAbs_natCast];exact Ym s3 s2
    have p2:a.2*b.2<1000000000*1000000000:=Ym s2 s4;have e2:(a.2:Int)*(b.2:Int)=((a.2*b.2:Nat):Int):=ag;have ff:=ff aa aa;obtain ⟨N,hN⟩:∃ N,a.1*(b.2:Int)=N:=⟨_,rfl⟩;obtain ⟨M,hM⟩:∃ M,b.1*(a.2:Int)=M:=⟨_,rfl⟩;rw [hN] at p1 ff;rw [hM] at p3 ff;generalize a.2*b.2=D at *;simp (disch:=try exact ac)[e2,hN,hM];refine cd ff ?_
    simp (disch:=try exact ac)[];exact lF rfl rfl
 by_cases c1:ah a.2=[49]
 ·have c2:¬ ah b.2=[49]:=fun h=>hne ⟨c1,h⟩
  simp (disch:=try exact ac)[gZ,c1,c2];simpa [c1] using walk ()
 ·simp (disch:=try exact ac)[gZ,c1];simpa using walk ()
theorem OU (a:Q):CP Y F.kH [.agg (qT a)] (I (sgn a.1)):=by
 refine AM ?_;simp (disch:=try exact ac)[kH,qT];refine cd (kr a.1) ?_;exact bX rfl
theorem LJ {a:Q} (ha:okQ a) (la:qL 800000 a):CP Y F.iJ [.agg (qT a)] (S (itoa (a.1 / a.2))):=by
 refine zm ?_;obtain ⟨la1,la2⟩:=la;simp (disch:=try exact ac)[iJ,qT];refine cd (s9 (z:=a.1) ha.1 aa aa) ?_;simp (disch:=try exact ac)[];exact d8 rfl
theorem IF (z:Int):sgn z=0↔z=0:=by
 unfold sgn;constructor
 ·intro h;split at h
  ·assumption
  ·split at h <;> omega
 ·intro h;rw [if_pos h]
theorem Cw {a b:List UInt8} {c:Int} {h:Hp}:out (.tup [.agg [S a,S b],I c]) (.tup [.agg [S a,S b],I c]) h:=⟨h,by simp [aF,ai,norm]⟩
theorem RP {a b:Q} (ha:okQ a) (hb:okQ b) (h0:b.1≠0) (la:qL 100000 a) (lb:qL 100000 b):CP Y F.j6 [.agg (qT a),.agg (qT b)] (.tup [.agg (qT (AF a b)),I 0]):=by
 refine C9 ?_;obtain ⟨la1,la2⟩:=la;obtain ⟨lb1,lb2⟩:=lb;have sg0:=OU b;have hs:¬ sgn b.1=0:=fun h=>h0 ((IF _).1 h)
 have m1:=vl (z:=a.1) (b:=b.2) aa aa;have m2:=qp (z:=(a.2:Int)) (w:=b.1) (by rw [Int.natAbs_natCast];omega) aa;rw [c8] at m2;have n1:=dO (z:=a.1) (w:=(b.2:Int));have n2:=dO (z:=(a.2:Int)) (w:=b.1);rw [Int.natAbs_natCast] at n1 n2;have hne:(a.2:Int)*b.1≠0:=Wt (by have:=ha.1;omega) h0
 have lw:CP Y F.bc [S (itoa (a.1*b.2)),S (itoa (a.2*b.1))] (.agg (qT (AF a b))):=zh hne aa aa;obtain ⟨x,y,hxy⟩:∃ x y,qT (AF a b)=[S x,S y]:=⟨_,_,rfl⟩;rw [hxy] at lw ⊢;generalize sgn b.1=sb at *;simp only [qT] at sg0 ⊢;simp (disch:=try exact ac)[j6];refine cd sg0 ?_ (B9 ..);simp (disch:=try exact ac)[hs]
 refine cd m1 ?_;simp (disch:=try exact ac)[];refine cd m2 ?_;simp (disch:=try exact ac)[];refine cd lw ?_;simp (disch:=try exact ac)[];exact Cw
theorem RO {n d:Int} (hd:d≠0) (hn:ndg n.natAbs<800000) (hd2:ndg d.natAbs<800000):CP Y F.mi [S (itoa n),S (itoa d)] (.tup [.agg (qT (uX n d)),I 0]):=by
 refine C7 ?_;have sg0:=kr d;have hs:¬ sgn d=0:=fun h=>hd ((IF _).1 h)
 have lw:=zh hd hn hd2;obtain ⟨x,y,hxy⟩:∃ x y,qT (uX n d)=[S x,S y]:=⟨_,_,rfl⟩;rw [hxy] at lw ⊢;generalize sgn d=sb at *;simp (disch:=try exact ac)[mi];refine cd sg0 ?_;simp (disch:=try exact ac)[hs];refine cd lw ?_;simp (disch:=try exact ac)[];exact Cw
theorem Bn {z:Int} (h1 : -9223372036854775808<z) (h2:z<9223372036854775808):ndg z.natAbs<=19:=bf aa ae
theorem JO {n d:Int} (hd:d≠0) (h1 : -9223372036854775808<n) (h2:n<9223372036854775808) (h3 : -9223372036854775808<d) (h4:d<9223372036854775808):CP Y F.jU [I n,I d] (.tup [.agg (qT (uX n d)),I 0]):=by
 refine Et ?_;have nw:=RO (n:=n) hd (Zc (Bn h1 h2) ae) (Zc (Bn h3 h4) ae);obtain ⟨x,y,hxy⟩:∃ x y,qT (uX n d)=[S x,S y]:=⟨_,_,rfl⟩;rw [hxy] at nw ⊢;simp (disch:=try exact ac)[jU];refine cd (lH h1 h2) ?_;simp (disch:=try exact ac)[];refine cd (lH h3 h4) ?_
 simp (disch:=try exact ac)[];refine cd nw ?_;simp (disch:=try exact ac)[];exact Cw
@[simp] theorem YZ {α:Type} (f:α->D) (l:List α) (place:Nat->Option (Nat × Nat)) (cs:List V) (r:List (Nat × V)) (off sz:Nat) :
  JV (some (off,sz)) place cs (lst f l) r=if 1=sz∧off+1<=cs.length then rE place (cs.take off++[lst f l]++cs.drop (off+1)) r else none:=id rfl
theorem U9 (s:List UInt8):CP Y F.iA [S s] (S (rdT s)):=by
 refine zO ?_;simp (disch:=try exact ac)[iA];refine cd (uF s) ?_;simp (disch:=try exact ac)[] <;> exact d8 rfl
theorem EX (a b:List UInt8) (ha:a.length<1000000000) (hb:b.length<1000000000):CP Y F.lj [.agg [S a,S b]] (B (tv a && decide (b.length<=30))):=by
 refine Gi ?_;simp (disch:=try exact ac)[lj];refine cd (U9 a) ?_;have hl:(rdT a).length<=a.length:=by unfold rdT;split <;> simp
 by_cases h1:(rdT a).length<=30
 ·have h1':((rdT a).length:Int)<=30:=aa;by_cases h2:b.length<=30
  ·have h2':(b.length:Int)<=30:=aa;simp (disch:=try exact ac)[h1',h2'] <;> exact ip (by simp [tv,h1,h2])
  ·have h2':¬ (b.length:Int)<=30:=aa;simp (disch:=try exact ac)[h1',h2'] <;> exact ip (by simp [tv,h1,h2])
 ·have h1':¬ ((rdT a).length:Int)<=30:=aa;simp (disch:=try exact ac)[h1'] <;> exact ip (by simp [tv,h1])
def sz4 (x:Tx):Bool:=tv x.1 && decide (x.2.length<=30)
def BZ:List Tx->Int
 | []=>0
 | x::q=>cond (rdF x.1 x.2).isSome (cond (sz4 x) (BZ q) 4) 2
theorem Cb {s:List Tx} (hN:s.length<1000000000) (hl:∀ x∈s,x.1.length<1000000000∧x.2.length<1000000000) (k:KL):∀ (q a:List Tx),a++q=s->(BZ q=0->k (.exit 0) [] [(0,.none)])->(BZ q≠0->∀ h,k .ret [I (BZ q)] h) ->
  lp (oO (CX Y) (bU aV s) (I s.length)) [0] [(0,.none)] [I a.length] [(0,.none)] k
 | []=>by
  intro a ha h0 h1;simp at ha;subst ha;refine am ?_;simp (disch:=try exact ac)[oO];exact h0 rfl
 | x::q=>by
  intro a ha h0 h1;have hal:a.length<s.length:=by subst ha;simp
  have hx:nth ([],[]) s a.length=x:=by subst ha;simp
  have hxl:=hl x (by subst ha;simp);have e1:=fun h:Hp=>kT aV aW s h (k:=.i64) (i:=(a.length:Int)) aa aa
  have e2:=fun h:Hp=>kS aV aW ([],[]) s h hal
  simp only [hx,Int.toNat_natCast] at e1 e2;have ih:=Cb hN hl k q (a++[x]) (by simpa using ha);refine am ?_;simp (disch:=try exact ac)[oO,e1,e2,aV];refine cd (FK x.1 x.2 hxl.1 hxl.2) ?_;cases g3:(rdF x.1 x.2).isSome with
  | false=>
   simp only [BZ,g3,cond_false] at h1;simp (disch:=try exact ac)[g3];exact h1 ae _
  | true=>
   simp (disch:=try exact ac)[g3];refine cd (EX x.1 x.2 hxl.1 hxl.2) ?_;cases g1:sz4 x with
   | false=>
    simp only [BZ,g3,g1,cond_true,cond_false] at h1;rw [show (tv x.1 && decide (x.2.length<=30))=false from g1];simp (disch:=try exact ac)[];exact h1 ae _
   | true=>
    simp only [BZ,g3,g1,cond_true] at h0 h1;have:=ih h0 h1;rw [show (tv x.1 && decide (x.2.length<=30))=true from g1];simp (disch:=try exact ac)[clean,fF,kZ,qG,eC,aC];simpa using this
def scB (n:Nat) (s:List Tx):Int:=if s.length=n then BZ s else 5
theorem Iq {p:List Int} {s:List Tx} (hl:∀ x∈s,x.1.length<1000000000∧x.2.length<1000000000) (hs:s.length<1000000000):CP Y F.jX [lst di p,bU aV s] (I (scB p.length s)):=by
 have lp':bm (lst di p)=some (I p.length):=rfl;have ls':bm (bU aV s)=some (I s.length):=rfl;refine Gn ?_;by_cases h1:s.length=p.length
 ·have h1':((s.length:Int)=(p.length:Int))=True:=eq_true aa;have e:scB p.length s=BZ s:=if_pos h1;rw [e];simp (disch:=try exact ac)[jX,lp',ls',h1'];refine lo (Cb hs hl _ s [] rfl (fun g=>?_) (fun g h=>?_))
  ·simp only [ji];exact bX g.symm
  ·simp only [u9,yi];exact bX rfl
 ·have h1':¬ ((s.length:Int)=(p.length:Int)):=aa;have e:scB p.length s=5:=if_neg h1;rw [e];simp (disch:=try exact ac)[jX,lp',ls',h1'] <;> exact bX rfl
def siB (p:List Int) (s:List Tx):Int:=if pcB p=0 then scB p.length s else pcB p
theorem IB {p:List Int} {s:List Tx} (hp:p.length<1000000000) (hl:∀ x∈s,x.1.length<1000000000∧x.2.length<1000000000) (hs:s.length<1000000000):CP Y F.j3 [lst di p,bU aV s] (I (siB p s)):=by
 refine Gv ?_;simp (disch:=try exact ac)[j3];refine cd (dR hp) ?_;by_cases h:pcB p=0
 ·have e:siB p s=scB p.length s:=if_pos h;rw [e];simp (disch:=try exact ac)[h];refine cd (Iq hl hs) ?_;simp (disch:=try exact ac)[] <;> exact bX rfl
 ·have e:siB p s=pcB p:=if_neg h;rw [e];simp (disch:=try exact ac)[h] <;> exact bX rfl
end Go.Vm
