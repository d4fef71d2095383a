/- Fractions: of, lowest, both, Add, Mul, Div, Floor, Of. -/
import Derived.Test.YtaiahkcmdnaooaaGreatDoorQCkShift
import Derived.Test.YtaiahkcmdnaooaaGreatDoorQDcY
import Derived.Test.YtaiahkcmdnaooaaGreatDoorQLibSl
import Derived.Test.YtaiahkcmdnaooaaGreatDoorQT
import Derived.Test.YtaiahkcmdnaooaaGreatDoorQWsX
set_option linter.unusedVariables false
set_option linter.unusedSimpArgs false
namespace Go.Vm
open Go Go.Am Go.Big
abbrev Q:=Int × Nat
def okQ (x:Q):Prop:=0<x.2∧Nat.gcd x.1.natAbs x.2=1
def qT (x:Q):List V:=[S (itoa x.1),S (aa x.2)]
def jj (n:Int) (d:Nat):Q:=(n / (Nat.gcd n.natAbs d:Nat),d / Nat.gcd n.natAbs d)
def nC (a b:Q):Q:=jj (a.1*b.2+b.1*a.2) (a.2*b.2)
def kN (a b:Q):Q:=jj (a.1*b.1) (a.2*b.2)
def nD (n d:Int):Q:=if d<0 then jj (-n) d.natAbs else jj n d.natAbs
def wD (a b:Q):Q:=nD (a.1*b.2) (a.2*b.1)
theorem M4 {g:Nat} {n:Int} (h:g ∣ n.natAbs):(g:Int) ∣ n:=Int.natAbs_dvd_natAbs.1 (by simpa using h)
theorem tY (n:Int) {d:Nat} (hd:0<d):okQ (jj n d):=by
 have hg:0<Nat.gcd n.natAbs d:=Xd _ hd;obtain ⟨g,hgg⟩:∃ g,g=Nat.gcd n.natAbs d:=⟨_,rfl⟩;have h1:g ∣ n.natAbs:=by rw [hgg];exact Wm ..
 have h2:g ∣ d:=by rw [hgg];exact Nat.gcd_dvd_right ..
 unfold jj;rw [<- hgg] at hg ⊢;refine ⟨Wb (Xt hd h2) hg,?_⟩
 have e:(n / (g:Int)).natAbs=n.natAbs / g:=by
  rw [Int.natAbs_ediv_of_dvd (M4 h1),Int.natAbs_natCast]
 simp only [e];rw [Nat.gcd_div h1 h2,<- hgg,Nat.div_self hg]
theorem EJ {n:Int} {d:Nat} (h:Nat.gcd n.natAbs d=1):jj n d=(n,d):=by
 unfold jj;rw [h];simp
theorem xj (n:Int) (d:Nat):(jj n d).1.natAbs<=n.natAbs∧(jj n d).2<=d:=by
 obtain ⟨g,hgg⟩:∃ g,g=Nat.gcd n.natAbs d:=⟨_,rfl⟩;have h1:g ∣ n.natAbs:=by rw [hgg];exact Wm ..
 unfold jj;rw [<- hgg];constructor
 ·simp only;rw [Int.natAbs_ediv_of_dvd (M4 h1),Int.natAbs_natCast];exact Yi ..
 ·exact Yi ..
theorem Od (k:KL) (h:Hp) (h0:Hp) (hl:h.length=h0.length):∀ (m:Nat) (a b:Int),b.natAbs<=m->a.natAbs<9223372036854775807->b.natAbs<9223372036854775807 ->
  (∀ c:Int,c.natAbs=Nat.gcd a.natAbs b.natAbs->k (.exit 0) [I c] h)->lp (jG (CX Y)) [] h0 [I a,I b] h k:=by
 intro m
 induction m with
 | zero=>
  intro a b hb ha hb2 hk;have hb0:b=0:=by omega
  subst hb0;refine aj ?_;simp (disch:=first|omega|simp<;>omega|fail)[jG];exact hk a (by simp)
 | succ m ih=>
  intro a b hb ha hb2 hk;refine aj ?_;by_cases hb0:b=0
  ·subst hb0;simp (disch:=first|omega|simp<;>omega|fail)[jG];exact hk a (by simp)
  ·have hr:(a.tmod b).natAbs<b.natAbs:=by
    rw [Int.natAbs_tmod];exact Y8 _ (by omega)
   have e:Nat.gcd b.natAbs (a.tmod b).natAbs=Nat.gcd a.natAbs b.natAbs:=by
    rw [Int.natAbs_tmod,Wd,<- Nat.gcd_rec,Wd]
   simp (disch:=first|omega|simp<;>omega|fail)[jG,hb0,hl];exact ih b (a.tmod b) (by omega) (by omega) (by omega) (fun c hc=>hk c (hc.trans e))
theorem iQ {a b a' b':List UInt8} {h:Hp} (e1:a'=a) (e2:b'=b):out (.agg [S a,S b]) (.agg [S a',S b']) h:=by
 subst e1;subst e2;exact ⟨h,by simp [aA,ae,norm]⟩
theorem Ij {n:Int} {d:Nat} (hd:0<d) (hn:n.natAbs<9223372036854775807) (hd2:d<9223372036854775807):CP Y F.fP [I n,I d] (.agg (qT (jj n d))):=by
 refine zU ?_;obtain ⟨g,hgg⟩:∃ g,g=Nat.gcd n.natAbs d:=⟨_,rfl⟩;have hg:0<g:=by rw [hgg];exact Xd _ hd
 have h1:g ∣ n.natAbs:=by rw [hgg];exact Wm ..
 have h2:g ∣ d:=by rw [hgg];exact Nat.gcd_dvd_right ..
 have hgd:g<=d:=Xt hd h2;have e1:n.tdiv (g:Int)=n / (g:Int):=Int.tdiv_eq_ediv_of_dvd (M4 h1);have e2:(d:Int).tdiv (g:Int)=((d / g:Nat):Int):=by rw [Zv (by omega),<- Int.natCast_ediv]
 have e3:(n / (g:Int)).natAbs<=n.natAbs:=by
  rw [Int.natAbs_ediv_of_dvd (M4 h1),Int.natAbs_natCast];exact Yi ..
 have e4:d / g<=d:=Yi ..;have eq:qT (jj n d)=[S (itoa (n / (g:Int))),S (aa (d / g))]:=by unfold qT jj;rw [<- hgg]
 rw [eq];generalize n / (g:Int)=nq at *;generalize d / g=dq at *;have i1:=xm (z:=nq) (by omega) (by omega);have i2:=xm (z:=(dq:Int)) (by omega) (by omega);rw [bW] at i2;have hg0:¬ (g:Int)=0:=by omega
 simp (disch:=first|omega|simp<;>omega|fail)[fP];refine lo (Od _ _ _ rfl (d:Int).natAbs n d (Z7 _) hn (by omega) (fun c hc=>?_));rw [Int.natAbs_natCast,<- hgg] at hc;simp (disch:=first|omega|simp<;>omega|fail)[]
 have tail:∀ u:Unit,bnd (biI .quo (I n) (I g)) fun v6=>
   cal (CX Y).p [(1,.vars [.d (.str []),.d (.str [])])] (.fn F.eD [] []) [v6] fun v7 h=>
   bnd (biI .quo (I d) (I g)) fun v8=>
   cal (CX Y).p h (.fn F.eD [] []) [v8] fun v9 h=>
   bnd (bld [(0,1),(1,1)] [.str [],.str []] [(0,v7),(1,v9)]) fun v10=>
   stD h 2 (.ptr 0 1 0 2) v10 fun _ h=>
   bnd (ldA h 2 (.ptr 0 1 0 2)) fun v12=>
   out (.agg [S (itoa nq),S (aa dq)]) v12 h:=by
  intro _;simp (disch:=first|omega|simp<;>omega|fail)[e1,e2,hg0];refine cd i1 ?_;simp (disch:=first|omega|simp<;>omega|fail)[e2,hg0];refine cd i2 ?_;simp (disch:=first|omega|simp<;>omega|fail)[];exact iQ rfl rfl
 by_cases hc0:c<0
 ·have hcg : -c=(g:Int):=by omega
  refine eU (l:=[I g]) (h:=[(1,.vars [.d (.str []),.d (.str [])])]) (fun q=>by simp (disch:=first|omega|simp<;>omega|fail)[hc0,hcg]) ?_;exact tail ()
 ·have hcg:c=(g:Int):=by omega
  subst hcg;refine eU (l:=[I g]) (h:=[(1,.vars [.d (.str []),.d (.str [])])]) (fun q=>by simp (disch:=first|omega|simp<;>omega|fail)[hc0]) ?_;exact tail ()
def qL (K:Nat) (x:Q):Prop:=ndg x.1.natAbs<=K∧ndg x.2<=K
theorem Ci {n:Int} {d K:Nat} (h1:ndg n.natAbs<=K) (h2:ndg d<=K):qL K (jj n d):=
 ⟨Z3 (cC (xj n d).1) h1,Z3 (cC (xj n d).2) h2⟩
theorem qL.mono {K L:Nat} {x:Q} (h:qL K x) (hl:K<=L):qL L x:=⟨Z3 h.1 hl,Z3 h.2 hl⟩
theorem jE {z w:Int} {k:Nat} (hz:ndg z.natAbs<=k) (hw:ndg w.natAbs<=k):ndg (z+w).natAbs<=k+1:=
 Z3 (cC (Int.natAbs_add_le z w)) (nK hz hw)
theorem cD {z w:Int}:ndg (z*w).natAbs<=ndg z.natAbs+ndg w.natAbs:=by
 rw [Zi];exact nJ
theorem Qm {a b:Q} {K L:Nat} (ha:qL K a) (hb:qL L b):qL (K+L+1) (nC a b):=by
 refine Ci (jE ?_ ?_) ?_
 ·have:=cD (z:=a.1) (w:=(b.2:Int));rw [Int.natAbs_natCast] at this;have:=ha.1;have:=hb.2;omega
 ·have:=cD (z:=b.1) (w:=(a.2:Int));rw [Int.natAbs_natCast] at this;have:=hb.1;have:=ha.2;omega
 ·have:=nJ (a:=a.2) (b:=b.2);have:=ha.2;have:=hb.2;omega
theorem Lh {a b:Q} {K L:Nat} (ha:qL K a) (hb:qL L b):qL (K+L) (kN a b):=by
 refine Ci ?_ ?_
 ·have:=cD (z:=a.1) (w:=b.1);have:=ha.1;have:=hb.1;omega
 ·have:=nJ (a:=a.2) (b:=b.2);have:=ha.2;have:=hb.2;omega
theorem NW {a b:Q} (ha:okQ a) (hb:okQ b):okQ (nC a b):=tY _ (Yu ha.1 hb.1)
theorem HO {a b:Q} (ha:okQ a) (hb:okQ b):okQ (kN a b):=tY _ (Yu ha.1 hb.1)
theorem Dh {z w:Int} (hw0:0<w) (hz:ndg z.natAbs<900000) (hw:ndg w.natAbs<900000):CP Y F.aH [S (itoa z),S (itoa w)] (.tup [S (itoa (z / w)),S (itoa (z % w)),I 0]):=by
 obtain ⟨m,rfl⟩:∃ m:Nat,w=m:=⟨w.toNat,by omega⟩;rw [bW];exact oU (by omega) hz (by simpa using hw)
theorem vm {n d:Int} (hd:d≠0) (hn:ndg n.natAbs<800000) (hd2:ndg d.natAbs<800000):CP Y F.aL [S (itoa n),S (itoa d)] (.agg (qT (nD n d))):=by
 refine ug ?_;have sg0:=iO d
 have tail:∀ (n:Int) (d:Nat),0<d->ndg n.natAbs<800000->ndg d<800000 ->
   cal (CX Y).p [(1,.vars [.d (.str []),.d (.str [])])] (.fn F.kD [] []) [S (itoa n),S (aa d)] fun v6 h=>
  bnd (biS .neq v6 (.d (.str [49]))) fun v7=>
  jn (fun l8 h=>
   bnd (bld [(0,1),(1,1)] [.str [],.str []] [(0,(ge l8 0)),(1,(ge l8 1))]) fun v10=>
   stD h 2 (.ptr 0 1 0 2) v10 fun _ h=>
   bnd (ldA h 2 (.ptr 0 1 0 2)) fun v12=>
   out (.agg (qT (jj n d))) v12 h) fun q9=>
   cnd v7 (
    cal (CX Y).p h (.fn F.aH [] []) [S (itoa n),v6] fun v13 h=>
    ext v13 0 fun v14=>
    ext v13 1 fun v15=>
    ext v13 2 fun v16=>
    cal (CX Y).p h (.fn F.aH [] []) [S (aa d),v6] fun v17 h=>
    ext v17 0 fun v18=>
    ext v17 1 fun v19=>
    ext v17 2 fun v20=>
    q9 [v14,v18] h) (
    q9 [S (itoa n),S (aa d)] h):=by
  intro n d hd hn hd2;have gc:=Ih (z:=n) (w:=(d:Int)) (by omega) (by simpa using Nat.lt_trans hd2 (by decide));rw [bW,Int.natAbs_natCast] at gc;obtain ⟨g,hgg⟩:∃ g,g=Nat.gcd n.natAbs d:=⟨_,rfl⟩;have hg:0<g:=by rw [hgg];exact Xd _ hd
  have hgd:g<=d:=Xt hd (by rw [hgg];exact Nat.gcd_dvd_right ..);have eq:jj n d=(n / (g:Int),d / g):=by unfold jj;rw [<- hgg]
  rw [<- hgg] at gc;rw [eq];have ng:ndg g<900000:=Ze (cC hgd) (by omega);have d1:=oU (z:=n) hg (by omega) ng;have d2:=oh (a:=d) hg (by omega) ng;simp (disch:=first|omega|simp<;>omega|fail)[];refine cd gc ?_;by_cases h1:g=1
  ·subst h1;rw [dy];simp (disch:=first|omega|simp<;>omega|fail)[];refine eU (l:=[S (itoa n),S (aa d)]) (h:=[(1,.vars [.d (.str []),.d (.str [])])]) (fun q=>by simp (disch:=first|omega|simp<;>omega|fail)[]) ?_;simp (disch:=first|omega|simp<;>omega|fail)[];refine iQ (by simp) (by simp)
  ·have h49:¬ aa g=[49]:=fun h=>h1 (lI (h.trans dy.symm))
   simp (disch:=first|omega|simp<;>omega|fail)[h49];refine bC ?_;simp (disch:=first|omega|simp<;>omega|fail)[h49];refine cd d1 ?_;simp (disch:=first|omega|simp<;>omega|fail)[];refine cd d2 ?_;simp (disch:=first|omega|simp<;>omega|fail)[];exact iQ rfl rfl
 simp (disch:=first|omega|simp<;>omega|fail)[aL];refine cd sg0 ?_;by_cases hneg:d<0
 ·have s1:sgn d = -1:=by unfold sgn;rw [if_neg hd,if_pos hneg]
  rw [s1];have hd3:ndg (-d).natAbs<800000:=by rw [X8];exact hd2
  have n1:=rI (z:=n) (by omega);have n2:=rI (z:=d) (by omega);have e:nD n d=jj (-n) d.natAbs:=if_pos hneg;have ed:itoa (-d)=aa d.natAbs:=by rw [show -d=((d.natAbs:Nat):Int) by omega,bW]
  rw [e];rw [ed] at n2;simp (disch:=first|omega|simp<;>omega|fail)[];refine bC ?_;simp (disch:=first|omega|simp<;>omega|fail)[];refine cd n1 ?_;simp (disch:=first|omega|simp<;>omega|fail)[];refine cd n2 ?_;have:=tail (-n) d.natAbs (by omega) (by rw [X8];exact hn) hd2;simpa using this
 ·have s1:sgn d=1:=by unfold sgn;rw [if_neg hd,if_neg hneg]
  rw [s1];have e:nD n d=jj n d.natAbs:=if_neg hneg;have ed:itoa d=aa d.natAbs:=by conv=>lhs;rw [show d=((d.natAbs:Nat):Int) by omega,bW]
  rw [e,ed];simp (disch:=first|omega|simp<;>omega|fail)[];refine bC ?_;simp (disch:=first|omega|simp<;>omega|fail)[];have:=tail n d.natAbs (by omega) hn hd2;simpa using this
theorem uG (a:Q):CP Y F.df [.agg (qT a)] (.tup [I (if sdg a.1<=9 then a.1 else 0),I (if ndg a.2<=9 then a.2 else 0),B (decide (sdg a.1<=9) && decide (ndg a.2<=9))]):=by
 refine wI ?_;have l1:=yA a.1;have l2:=yA (a.2:Int);have e:sdg (a.2:Int)=ndg a.2:=by unfold sdg;rw [if_neg (by omega),Int.natAbs_natCast];rfl
 rw [bW,e] at l2;simp (disch:=first|omega|simp<;>omega|fail)[df,qT];refine cd l1 ?_;by_cases h1:sdg a.1<=9
 ·rw [if_pos h1,if_pos h1,decide_eq_true h1];simp (disch:=first|omega|simp<;>omega|fail)[];refine cd l2 ?_;by_cases h2:ndg a.2<=9
  ·rw [if_pos h2,if_pos h2,decide_eq_true h2];simp (disch:=first|omega|simp<;>omega|fail)[];exact gN rfl rfl rfl
  ·rw [if_neg h2,if_neg h2,decide_eq_false h2];simp (disch:=first|omega|simp<;>omega|fail)[];exact gN rfl rfl rfl
 ·rw [if_neg h1,if_neg h1,decide_eq_false h1];simp (disch:=first|omega|simp<;>omega|fail)[];refine cd l2 ?_;by_cases h2:ndg a.2<=9
  ·rw [if_pos h2,if_pos h2,decide_eq_true h2];simp (disch:=first|omega|simp<;>omega|fail)[];exact gN rfl rfl rfl
  ·rw [if_neg h2,if_neg h2,decide_eq_false h2];simp (disch:=first|omega|simp<;>omega|fail)[];exact gN rfl rfl rfl
theorem yw {n:Int} {d:Nat} (h:0<d):nD n (d:Int)=jj n d:=by
 unfold nD;rw [if_neg (by omega),Int.natAbs_natCast]
theorem H5 {n:Int} {d:Nat} (hd:0<d) (hn:ndg n.natAbs<800000) (hd2:ndg d<800000):CP Y F.aL [S (itoa n),S (aa d)] (.agg (qT (jj n d))):=by
 have:=vm (n:=n) (d:=(d:Int)) (by omega) hn (by simpa using hd2)
 rwa [yw hd,bW] at this
theorem PC (h:Hp) (a:Q):aA h (.agg (qT a))=some (.agg (qT a),h):=by simp [qT,aA,ae,norm]
theorem rc {z:Int} {b:Nat} (hz:ndg z.natAbs<400000) (hb:ndg b<400000):CP Y F.ax [S (itoa z),S (aa b)] (S (itoa (z*b))):=by
 have:=og (z:=z) (w:=(b:Int)) hz (by simpa using hb)
 rwa [bW] at this
theorem xO (h:Hp) (s t:List UInt8):ae h [.agg [S s,S t]]=some ([.agg [S s,S t]],h):=by simp [ae,aA,norm]
theorem BD {a:Q} (h1:sdg a.1<=9) (h2:ndg a.2<=9):a.1.natAbs<1000000000∧a.2<1000000000:=
 ⟨rC h1,Z2 (bP _) (Z5 (by decide) h2)⟩
theorem E3 {a b:Q} (ha:okQ a) (hb:okQ b) (la:qL 100000 a) (lb:qL 100000 b):CP Y F.fB [.agg (qT a),.agg (qT b)] (.agg (qT (kN a b))):=by
 refine yQ ?_;obtain ⟨la1,la2⟩:=la;obtain ⟨lb1,lb2⟩:=lb;have b1:=uG a;have b2:=uG b;have m1:=og (z:=a.1) (w:=b.1) (by omega) (by omega);have m2:=qp (a:=a.2) (b:=b.2) (by omega) (by omega);have n1:=cD (z:=a.1) (w:=b.1);have n2:=nJ (a:=a.2) (b:=b.2);have hd:0<a.2*b.2:=Yu ha.1 hb.1
 have lw:CP Y F.aL [S (itoa (a.1*b.1)),S (aa (a.2*b.2))] (.agg (qT (kN a b))):=H5 (n:=a.1*b.1) hd (by omega) (by omega);have ff:(a.1*b.1).natAbs<9223372036854775807->a.2*b.2<9223372036854775807->CP Y F.fP [I (a.1*b.1),I (a.2*b.2:Nat)] (.agg (qT (kN a b))):=fun h1 h2=>Ij hd h1 h2
 obtain ⟨x,y,hxy⟩:∃ x y,qT (kN a b)=[S x,S y]:=⟨_,_,rfl⟩;rw [hxy] at lw ff ⊢;simp only [qT] at b1 b2 ⊢
 have tail:∀ u:Unit,cal (CX Y).p [(1,.vars [S (itoa a.1),S (aa a.2)]),(1,.vars [S (itoa b.1),S (aa b.2)]),(1,.vars [.d (.str []),.d (.str [])])] (.fn F.ax [] []) [S (itoa a.1),S (itoa b.1)] fun v15 h=>
  bnd (faV 1 (.ptr 0 1 0 2)) fun v16=>
  bnd (ld1 h v16) fun v17=>
  bnd (faV 1 (.ptr 1 1 0 2)) fun v18=>
  bnd (ld1 h v18) fun v19=>
  cal (CX Y).p h (.fn F.ax [] []) [v17,v19] fun v20 h=>
  cal (CX Y).p h (.fn F.aL [] []) [v15,v20] fun v21 h=>
  stD h 2 (.ptr 2 1 0 2) v21 fun _ h=>
  bnd (ldA h 2 (.ptr 2 1 0 2)) fun v23=>
  out (.agg [S x,S y]) v23 h:=by
  intro _;simp (disch:=first|omega|simp<;>omega|fail)[];refine cd m1 ?_;simp (disch:=first|omega|simp<;>omega|fail)[];refine cd m2 ?_;simp (disch:=first|omega|simp<;>omega|fail)[];refine cd lw ?_;simp (disch:=first|omega|simp<;>omega|fail)[];exact iQ rfl rfl
 simp (disch:=first|omega|simp<;>omega|fail)[fB];refine cd b1 ?_ (xO ..);cases g1:decide (sdg a.1<=9) && decide (ndg a.2<=9) with
 | false=>
  simp (disch:=first|omega|simp<;>omega|fail)[];refine bC ?_;simp (disch:=first|omega|simp<;>omega|fail)[];simpa using tail ()
 | true=>
  simp only [Z8,decide_eq_true_eq] at g1;obtain ⟨s1,s2⟩:=BD g1.1 g1.2;rw [if_pos g1.1,if_pos g1.2];simp (disch:=first|omega|simp<;>omega|fail)[];refine bC ?_;simp (disch:=first|omega|simp<;>omega|fail)[];refine cd b2 ?_ (xO ..);cases g2:decide (sdg b.1<=9) && decide (ndg b.2<=9) with
  | false=>
   simp (disch:=first|omega|simp<;>omega|fail)[];simpa using tail ()
  | true=>
   simp only [Z8,decide_eq_true_eq] at g2;obtain ⟨s3,s4⟩:=BD g2.1 g2.2;rw [if_pos g2.1,if_pos g2.2];have p1:(a.1*b.1).natAbs<1000000000*1000000000:=by rw [Zi];exact Yo s1 s3
   have p2:a.2*b.2<1000000000*1000000000:=Yo s2 s4;have e2:(a.2:Int)*(b.2:Int)=((a.2*b.2:Nat):Int):=by simp
   have ff:=ff (by omega) (by omega);obtain ⟨N,hN⟩:∃ N,a.1*b.1=N:=⟨_,rfl⟩;rw [hN] at p1 ff;generalize a.2*b.2=D at *;simp (disch:=first|omega|simp<;>omega|fail)[e2,hN];refine cd ff ?_;simp (disch:=first|omega|simp<;>omega|fail)[];exact iQ rfl rfl
theorem Ml {a b:Q} (ha:okQ a) (hb:okQ b) (la:qL 100000 a) (lb:qL 100000 b):CP Y F.fC [.agg (qT a),.agg (qT b)] (.agg (qT (nC a b))):=by
 refine yS ?_;obtain ⟨la1,la2⟩:=la;obtain ⟨lb1,lb2⟩:=lb;have b1:=uG a;have b2:=uG b;have m1:=rc (z:=a.1) (b:=b.2) (by omega) (by omega);have m2:=rc (z:=b.1) (b:=a.2) (by omega) (by omega);have m3:=qp (a:=a.2) (b:=b.2) (by omega) (by omega);have n1:=cD (z:=a.1) (w:=(b.2:Int));have n2:=cD (z:=b.1) (w:=(a.2:Int))
 have n3:=nJ (a:=a.2) (b:=b.2);rw [Int.natAbs_natCast] at n1 n2;have n4:ndg (a.1*b.2+b.1*a.2).natAbs<=200000+1:=jE (by omega) (by omega);have ad:=qt (z:=a.1*b.2) (w:=b.1*a.2) (by omega) (by omega);have hd:0<a.2*b.2:=Yu ha.1 hb.1
 have lw:CP Y F.aL [S (itoa (a.1*b.2+b.1*a.2)),S (aa (a.2*b.2))] (.agg (qT (nC a b))):=H5 hd (by omega) (by omega);have ff:(a.1*b.2+b.1*a.2).natAbs<9223372036854775807->a.2*b.2<9223372036854775807->CP Y F.fP [I (a.1*b.2+b.1*a.2),I (a.2*b.2:Nat)] (.agg (qT (nC a b))):=fun h1 h2=>Ij hd h1 h2
 by_cases one:a.2=1∧b.2=1
 ·have ad1:=qt (z:=a.1) (w:=b.1) (by omega) (by omega)
  have eq:nC a b=(a.1+b.1,1):=by
   unfold nC;rw [one.1,one.2];rw [EJ (by simp)];simp
  rw [eq];have t1:qT a=[S (itoa a.1),S [49]]:=by unfold qT;rw [one.1,dy]
  have t2:qT b=[S (itoa b.1),S [49]]:=by unfold qT;rw [one.2,dy]
  have t3:qT (a.1+b.1,1)=[S (itoa (a.1+b.1)),S [49]]:=by unfold qT;rw [dy]
  rw [t1,t2,t3];simp (disch:=first|omega|simp<;>omega|fail)[fC];refine cd ad1 ?_;simp (disch:=first|omega|simp<;>omega|fail)[];exact iQ rfl rfl
 obtain ⟨x,y,hxy⟩:∃ x y,qT (nC a b)=[S x,S y]:=⟨_,_,rfl⟩;rw [hxy] at lw ff ⊢;simp only [qT] at b1 b2 ⊢
 have tail:∀ u:Unit,cal (CX Y).p [(1,.vars [S (itoa a.1),S (aa a.2)]),(1,.vars [S (itoa b.1),S (aa b.2)]),(1,.vars [.d (.str []),.d (.str [])])] (.fn F.ax [] []) [S (itoa a.1),S (aa b.2)] fun v30 h=>
   bnd (faV 0 (.ptr 1 1 0 2)) fun v31=>
   bnd (ld1 h v31) fun v32=>
   bnd (faV 1 (.ptr 0 1 0 2)) fun v33=>
   bnd (ld1 h v33) fun v34=>
   cal (CX Y).p h (.fn F.ax [] []) [v32,v34] fun v35 h=>
   cal (CX Y).p h (.fn F.bM [] []) [v30,v35] fun v36 h=>
   bnd (faV 1 (.ptr 0 1 0 2)) fun v37=>
   bnd (ld1 h v37) fun v38=>
   bnd (faV 1 (.ptr 1 1 0 2)) fun v39=>
   bnd (ld1 h v39) fun v40=>
   cal (CX Y).p h (.fn F.ax [] []) [v38,v40] fun v41 h=>
   cal (CX Y).p h (.fn F.aL [] []) [v36,v41] fun v42 h=>
   stD h 2 (.ptr 2 1 0 2) v42 fun _ h=>
   bnd (ldA h 2 (.ptr 2 1 0 2)) fun v44=>
   out (.agg [S x,S y]) v44 h:=by
  intro _;simp (disch:=first|omega|simp<;>omega|fail)[];refine cd m1 ?_;simp (disch:=first|omega|simp<;>omega|fail)[];refine cd m2 ?_;simp (disch:=first|omega|simp<;>omega|fail)[];refine cd ad ?_;simp (disch:=first|omega|simp<;>omega|fail)[];refine cd m3 ?_;simp (disch:=first|omega|simp<;>omega|fail)[];refine cd lw ?_;simp (disch:=first|omega|simp<;>omega|fail)[];exact iQ rfl rfl
 have hne:¬ (aa a.2=[49]∧aa b.2=[49]):=fun h=>one ⟨lI (h.1.trans dy.symm),lI (h.2.trans dy.symm)⟩
 have walk:∀ u:Unit,bnd (ldA [(1,.vars [S (itoa a.1),S (aa a.2)]),(1,.vars [S (itoa b.1),S (aa b.2)]),(1,.vars [.d (.str []),.d (.str [])])] 2 (.ptr 0 1 0 2)) fun v19=>
  cal (CX Y).p [(1,.vars [S (itoa a.1),S (aa a.2)]),(1,.vars [S (itoa b.1),S (aa b.2)]),(1,.vars [.d (.str []),.d (.str [])])] (.fn F.df [] []) [v19] fun v20 h=>
  ext v20 0 fun v21=>
  ext v20 1 fun v22=>
  ext v20 2 fun v23=>
  jn (fun l24 h=>
   bnd (faV 0 (.ptr 0 1 0 2)) fun v26=>
   bnd (ld1 h v26) fun v27=>
   bnd (faV 1 (.ptr 1 1 0 2)) fun v28=>
   bnd (ld1 h v28) fun v29=>
   cal (CX Y).p h (.fn F.ax [] []) [v27,v29] fun v30 h=>
   bnd (faV 0 (.ptr 1 1 0 2)) fun v31=>
   bnd (ld1 h v31) fun v32=>
   bnd (faV 1 (.ptr 0 1 0 2)) fun v33=>
   bnd (ld1 h v33) fun v34=>
   cal (CX Y).p h (.fn F.ax [] []) [v32,v34] fun v35 h=>
   cal (CX Y).p h (.fn F.bM [] []) [v30,v35] fun v36 h=>
   bnd (faV 1 (.ptr 0 1 0 2)) fun v37=>
   bnd (ld1 h v37) fun v38=>
   bnd (faV 1 (.ptr 1 1 0 2)) fun v39=>
   bnd (ld1 h v39) fun v40=>
   cal (CX Y).p h (.fn F.ax [] []) [v38,v40] fun v41 h=>
   cal (CX Y).p h (.fn F.aL [] []) [v36,v41] fun v42 h=>
   stD h 2 (.ptr 2 1 0 2) v42 fun _ h=>
   bnd (ldA h 2 (.ptr 2 1 0 2)) fun v44=>
   out (.agg [S x,S y]) v44 h) fun q25=>
   cnd v23 (
    bnd (ldA h 2 (.ptr 1 1 0 2)) fun v45=>
    cal (CX Y).p h (.fn F.df [] []) [v45] fun v46 h=>
    ext v46 0 fun v47=>
    ext v46 1 fun v48=>
    ext v46 2 fun v49=>
    cnd v49 (
     bnd (biI .mul v21 v48) fun v50=>
     bnd (biI .mul v47 v22) fun v51=>
     bnd (biI .add v50 v51) fun v52=>
     bnd (biI .mul v22 v48) fun v53=>
     cal (CX Y).p h (.fn F.fP [] []) [v52,v53] fun v54 h=>
     stD h 2 (.ptr 2 1 0 2) v54 fun _ h=>
     bnd (ldA h 2 (.ptr 2 1 0 2)) fun v56=>
     out (.agg [S x,S y]) v56 h) (
     q25 [] h)) (
    q25 [] h):=by
  intro _;simp (disch:=first|omega|simp<;>omega|fail)[];refine cd b1 ?_ (xO ..);cases g1:decide (sdg a.1<=9) && decide (ndg a.2<=9) with
  | false=>
   simp (disch:=first|omega|simp<;>omega|fail)[];refine bC ?_;simp (disch:=first|omega|simp<;>omega|fail)[];simpa using tail ()
  | true=>
   simp only [Z8,decide_eq_true_eq] at g1;obtain ⟨s1,s2⟩:=BD g1.1 g1.2;rw [if_pos g1.1,if_pos g1.2];simp (disch:=first|omega|simp<;>omega|fail)[];refine bC ?_;simp (disch:=first|omega|simp<;>omega|fail)[];refine cd b2 ?_ (xO ..);cases g2:decide (sdg b.1<=9) && decide (ndg b.2<=9) with
   | false=>
    simp (disch:=first|omega|simp<;>omega|fail)[];simpa using tail ()
   | true=>
    simp only [Z8,decide_eq_true_eq] at g2;obtain ⟨s3,s4⟩:=BD g2.1 g2.2;rw [if_pos g2.1,if_pos g2.2];have p1:(a.1*b.2).natAbs<1000000000*1000000000:=by rw [Zi,Int.natAbs_natCast];exact Yo s1 s4
    have p3:(b.1*a.2).natAbs<1000000000*1000000000:=by rw [Zi,Int.natAbs_natCast];exact Yo s3 s2
    have p2:a.2*b.2<1000000000*1000000000:=Yo s2 s4;have e2:(a.2:Int)*(b.2:Int)=((a.2*b.2:Nat):Int):=by simp
    have ff:=ff (by omega) (by omega);obtain ⟨N,hN⟩:∃ N,a.1*(b.2:Int)=N:=⟨_,rfl⟩;obtain ⟨M,hM⟩:∃ M,b.1*(a.2:Int)=M:=⟨_,rfl⟩;rw [hN] at p1 ff;rw [hM] at p3 ff;generalize a.2*b.2=D at *;simp (disch:=first|omega|simp<;>omega|fail)[e2,hN,hM];refine cd ff ?_;simp (disch:=first|omega|simp<;>omega|fail)[];exact iQ rfl rfl
 by_cases c1:aa a.2=[49]
 ·have c2:¬ aa b.2=[49]:=fun h=>hne ⟨c1,h⟩
  simp (disch:=first|omega|simp<;>omega|fail)[fC,c1,c2];simpa [c1] using walk ()
 ·simp (disch:=first|omega|simp<;>omega|fail)[fC,c1];simpa using walk ()
theorem JU (a:Q):CP Y F.jb [.agg (qT a)] (I (sgn a.1)):=by
 refine wJ ?_;simp (disch:=first|omega|simp<;>omega|fail)[jb,qT];refine cd (iO a.1) ?_;exact bH rfl
theorem GO {a:Q} (ha:okQ a) (la:qL 800000 a):CP Y F.gv [.agg (qT a)] (S (itoa (a.1 / a.2))):=by
 refine vr ?_;obtain ⟨la1,la2⟩:=la;simp (disch:=first|omega|simp<;>omega|fail)[gv,qT];refine cd (oU (z:=a.1) ha.1 (by omega) (by omega)) ?_;simp (disch:=first|omega|simp<;>omega|fail)[];exact cT rfl
theorem DV (z:Int):sgn z=0↔z=0:=by
 unfold sgn;constructor
 ·intro h;split at h
  ·assumption
  ·split at h <;> omega
 ·intro h;rw [if_pos h]
theorem yo {a b:List UInt8} {c:Int} {h:Hp}:out (.tup [.agg [S a,S b],I c]) (.tup [.agg [S a,S b],I c]) h:=⟨h,by simp [aA,ae,norm]⟩
theorem Mk {a b:Q} (ha:okQ a) (hb:okQ b) (h0:b.1≠0) (la:qL 100000 a) (lb:qL 100000 b):CP Y F.iH [.agg (qT a),.agg (qT b)] (.tup [.agg (qT (wD a b)),I 0]):=by
 refine yR ?_;obtain ⟨la1,la2⟩:=la;obtain ⟨lb1,lb2⟩:=lb;have sg0:=JU b;have hs:¬ sgn b.1=0:=fun h=>h0 ((DV _).1 h)
 have m1:=rc (z:=a.1) (b:=b.2) (by omega) (by omega);have m2:=og (z:=(a.2:Int)) (w:=b.1) (by rw [Int.natAbs_natCast];omega) (by omega);rw [bW] at m2;have n1:=cD (z:=a.1) (w:=(b.2:Int));have n2:=cD (z:=(a.2:Int)) (w:=b.1);rw [Int.natAbs_natCast] at n1 n2;have hne:(a.2:Int)*b.1≠0:=W4 (by have:=ha.1;omega) h0
 have lw:CP Y F.aL [S (itoa (a.1*b.2)),S (itoa (a.2*b.1))] (.agg (qT (wD a b))):=vm hne (by omega) (by omega);obtain ⟨x,y,hxy⟩:∃ x y,qT (wD a b)=[S x,S y]:=⟨_,_,rfl⟩;rw [hxy] at lw ⊢;generalize sgn b.1=sb at *;simp only [qT] at sg0 ⊢;simp (disch:=first|omega|simp<;>omega|fail)[iH];refine cd sg0 ?_ (xO ..);simp (disch:=first|omega|simp<;>omega|fail)[hs]
 refine cd m1 ?_;simp (disch:=first|omega|simp<;>omega|fail)[];refine cd m2 ?_;simp (disch:=first|omega|simp<;>omega|fail)[];refine cd lw ?_;simp (disch:=first|omega|simp<;>omega|fail)[];exact yo
theorem Mj {n d:Int} (hd:d≠0) (hn:ndg n.natAbs<800000) (hd2:ndg d.natAbs<800000):CP Y F.jU [S (itoa n),S (itoa d)] (.tup [.agg (qT (nD n d)),I 0]):=by
 refine yP ?_;have sg0:=iO d;have hs:¬ sgn d=0:=fun h=>hd ((DV _).1 h)
 have lw:=vm hd hn hd2;obtain ⟨x,y,hxy⟩:∃ x y,qT (nD n d)=[S x,S y]:=⟨_,_,rfl⟩;rw [hxy] at lw ⊢;generalize sgn d=sb at *;simp (disch:=first|omega|simp<;>omega|fail)[jU];refine cd sg0 ?_;simp (disch:=first|omega|simp<;>omega|fail)[hs];refine cd lw ?_;simp (disch:=first|omega|simp<;>omega|fail)[];exact yo
theorem Cf {z:Int} (h1 : -9223372036854775808<z) (h2:z<9223372036854775808):ndg z.natAbs<=19:=a6 (by omega) (by decide)
theorem E0 {n d:Int} (hd:d≠0) (h1 : -9223372036854775808<n) (h2:n<9223372036854775808) (h3 : -9223372036854775808<d) (h4:d<9223372036854775808):CP Y F.gR [I n,I d] (.tup [.agg (qT (nD n d)),I 0]):=by
 refine zV ?_;have nw:=Mj (n:=n) hd (Ze (Cf h1 h2) (by decide)) (Ze (Cf h3 h4) (by decide));obtain ⟨x,y,hxy⟩:∃ x y,qT (nD n d)=[S x,S y]:=⟨_,_,rfl⟩;rw [hxy] at nw ⊢;simp (disch:=first|omega|simp<;>omega|fail)[gR];refine cd (lF h1 h2) ?_;simp (disch:=first|omega|simp<;>omega|fail)[];refine cd (lF h3 h4) ?_
 simp (disch:=first|omega|simp<;>omega|fail)[];refine cd nw ?_;simp (disch:=first|omega|simp<;>omega|fail)[];exact yo
@[simp] theorem RS {α:Type} (f:α->D) (l:List α) (place:Nat->Option (Nat × Nat)) (cs:List V) (r:List (Nat × V)) (off sz:Nat) :
  E8 (some (off,sz)) place cs (lst f l) r=if 1=sz∧off+1<=cs.length then nM place (cs.take off++[lst f l]++cs.drop (off+1)) r else none:=id rfl
theorem Pn (s:List UInt8):CP Y F.fW [S s] (S (rdT s)):=by
 refine vN ?_;simp (disch:=first|omega|simp<;>omega|fail)[fW];refine cd (qx s) ?_;simp (disch:=first|omega|simp<;>omega|fail)[] <;> exact cT rfl
theorem AD (a b:List UInt8) (ha:a.length<1000000000) (hb:b.length<1000000000):CP Y F.jw [.agg [S a,S b]] (B (o6 a && decide (b.length<=30))):=by
 refine BI ?_;simp (disch:=first|omega|simp<;>omega|fail)[jw];refine cd (Pn a) ?_;have hl:(rdT a).length<=a.length:=by unfold rdT;split <;> simp
 by_cases h1:(rdT a).length<=30
 ·have h1':((rdT a).length:Int)<=30:=by omega
  by_cases h2:b.length<=30
  ·have h2':(b.length:Int)<=30:=by omega
   simp (disch:=first|omega|simp<;>omega|fail)[h1',h2'] <;> exact iP (by simp [o6,h1,h2])
  ·have h2':¬ (b.length:Int)<=30:=by omega
   simp (disch:=first|omega|simp<;>omega|fail)[h1',h2'] <;> exact iP (by simp [o6,h1,h2])
 ·have h1':¬ ((rdT a).length:Int)<=30:=by omega
  simp (disch:=first|omega|simp<;>omega|fail)[h1'] <;> exact iP (by simp [o6,h1])
def sz4 (x:Tx):Bool:=o6 x.1 && decide (x.2.length<=30)
def xJ:List Tx->Int
 | []=>0
 | x::q=>cond (rdF x.1 x.2).isSome (cond (sz4 x) (xJ q) 4) 2
theorem xR {s:List Tx} (hN:s.length<1000000000) (hl:∀ x∈s,x.1.length<1000000000∧x.2.length<1000000000) (k:KL):∀ (q a:List Tx),a++q=s->(xJ q=0->k (.exit 0) [] [(0,.none)])->(xJ q≠0->∀ h,k .ret [I (xJ q)] h) ->
  lp (lR (CX Y) (dI aJ s) (I s.length)) [0] [(0,.none)] [I a.length] [(0,.none)] k
 | []=>by
  intro a ha h0 h1;simp at ha;subst ha;refine aj ?_;simp (disch:=first|omega|simp<;>omega|fail)[lR];exact h0 rfl
 | x::q=>by
  intro a ha h0 h1;have hal:a.length<s.length:=by subst ha;simp
  have hx:nth ([],[]) s a.length=x:=by subst ha;simp
  have hxl:=hl x (by subst ha;simp);have e1:=fun h:Hp=>jS aJ aG s h (k:=.i64) (i:=(a.length:Int)) (by omega) (by omega)
  have e2:=fun h:Hp=>jR aJ aG ([],[]) s h hal
  simp only [hx,Int.toNat_natCast] at e1 e2;have ih:=xR hN hl k q (a++[x]) (by simpa using ha);refine aj ?_;simp (disch:=first|omega|simp<;>omega|fail)[lR,e1,e2,aJ];refine cd (Bh x.1 x.2 hxl.1 hxl.2) ?_;cases g3:(rdF x.1 x.2).isSome with
  | false=>
   simp only [xJ,g3,cond_false] at h1;simp (disch:=first|omega|simp<;>omega|fail)[g3];exact h1 (by decide) _
  | true=>
   simp (disch:=first|omega|simp<;>omega|fail)[g3];refine cd (AD x.1 x.2 hxl.1 hxl.2) ?_;cases g1:sz4 x with
   | false=>
    simp only [xJ,g3,g1,cond_true,cond_false] at h1;rw [show (o6 x.1 && decide (x.2.length<=30))=false from g1];simp (disch:=first|omega|simp<;>omega|fail)[];exact h1 (by decide) _
   | true=>
    simp only [xJ,g3,g1,cond_true] at h0 h1;have:=ih h0 h1;rw [show (o6 x.1 && decide (x.2.length<=30))=true from g1];simp (disch:=first|omega|simp<;>omega|fail)[clean,eC,ji,m8,dw,ay];simpa using this
def scB (n:Nat) (s:List Tx):Int:=if s.length=n then xJ s else 5
theorem Dz {p:List Int} {s:List Tx} (hl:∀ x∈s,x.1.length<1000000000∧x.2.length<1000000000) (hs:s.length<1000000000):CP Y F.iB [lst di p,dI aJ s] (I (scB p.length s)):=by
 have lp':am (lst di p)=some (I p.length):=rfl;have ls':am (dI aJ s)=some (I s.length):=rfl;refine BN ?_;by_cases h1:s.length=p.length
 ·have h1':((s.length:Int)=(p.length:Int))=True:=eq_true (by omega);have e:scB p.length s=xJ s:=if_pos h1;rw [e];simp (disch:=first|omega|simp<;>omega|fail)[iB,lp',ls',h1'];refine lo (xR hs hl _ s [] rfl (fun g=>?_) (fun g h=>?_))
  ·simp only [gT];exact bH g.symm
  ·simp only [qQ,uv];exact bH rfl
 ·have h1':¬ ((s.length:Int)=(p.length:Int)):=by omega
  have e:scB p.length s=5:=if_neg h1;rw [e];simp (disch:=first|omega|simp<;>omega|fail)[iB,lp',ls',h1'] <;> exact bH rfl
def siB (p:List Int) (s:List Tx):Int:=if pcB p=0 then scB p.length s else pcB p
theorem DO {p:List Int} {s:List Tx} (hp:p.length<1000000000) (hl:∀ x∈s,x.1.length<1000000000∧x.2.length<1000000000) (hs:s.length<1000000000):CP Y F.iD [lst di p,dI aJ s] (I (siB p s)):=by
 refine BR ?_;simp (disch:=first|omega|simp<;>omega|fail)[iD];refine cd (iX hp) ?_;by_cases h:pcB p=0
 ·have e:siB p s=scB p.length s:=if_pos h;rw [e];simp (disch:=first|omega|simp<;>omega|fail)[h];refine cd (Dz hl hs) ?_;simp (disch:=first|omega|simp<;>omega|fail)[] <;> exact bH rfl
 ·have e:siB p s=pcB p:=if_neg h;rw [e];simp (disch:=first|omega|simp<;>omega|fail)[h] <;> exact bH rfl
end Go.Vm
