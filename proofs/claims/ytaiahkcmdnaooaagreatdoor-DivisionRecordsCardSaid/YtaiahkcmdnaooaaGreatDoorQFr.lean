/- Fractions: of, lowest, both, Add, Mul, Div, Floor, Of. -/
import Derived.Test.YtaiahkcmdnaooaaGreatDoorQCkShift
import Derived.Test.YtaiahkcmdnaooaaGreatDoorQDcY
import Derived.Test.YtaiahkcmdnaooaaGreatDoorQLibSl
import Derived.Test.YtaiahkcmdnaooaaGreatDoorQT
import Derived.Test.YtaiahkcmdnaooaaGreatDoorQWsX
set_option linter.unusedVariables false
namespace Go.Vm
open Go Go.Am Go.Big
abbrev Q:=Int × Nat
def okQ (x:Q):Prop:=0 < x.2∧Nat.gcd x.1.natAbs x.2=1
def qT (x:Q):List V:=[S (itoa x.1),S (aa x.2)]
def jf (n:Int) (d:Nat):Q:=(n / (Nat.gcd n.natAbs d:Nat),d / Nat.gcd n.natAbs d)
def nH (a b:Q):Q:=jf (a.1 * b.2+b.1 * a.2) (a.2 * b.2)
def kM (a b:Q):Q:=jf (a.1 * b.1) (a.2 * b.2)
def qI (n d:Int):Q:=if d < 0 then jf (-n) d.natAbs else jf n d.natAbs
def wA (a b:Q):Q:=qI (a.1 * b.2) (a.2 * b.1)
theorem MU {g:Nat} {n:Int} (h:g ∣ n.natAbs):(g:Int) ∣ n:=Int.natAbs_dvd_natAbs.1 (by simpa using h)
theorem t6 (n:Int) {d:Nat} (hd:0 < d):okQ (jf n d):=by
 have hg:0 < Nat.gcd n.natAbs d:=Xd _ hd;obtain ⟨g,hgg⟩:∃ g,g=Nat.gcd n.natAbs d:=⟨_,rfl⟩;have h1:g ∣ n.natAbs:=by rw [hgg];exact Wn ..
 have h2:g ∣ d:=by rw [hgg];exact Nat.gcd_dvd_right ..
 unfold jf;rw [<- hgg] at hg ⊢;refine ⟨Wc (Xu hd h2) hg,?_⟩
 have e:(n / (g:Int)).natAbs=n.natAbs / g:=by
  rw [Int.natAbs_ediv_of_dvd (MU h1),Int.natAbs_natCast]
 simp only [e];rw [Nat.gcd_div h1 h2,<- hgg,Nat.div_self hg]
theorem Ez {n:Int} {d:Nat} (h:Nat.gcd n.natAbs d=1):jf n d=(n,d):=by
 unfold jf;rw [h];simp
theorem xe (n:Int) (d:Nat):(jf n d).1.natAbs<=n.natAbs∧(jf n d).2<=d:=by
 obtain ⟨g,hgg⟩:∃ g,g=Nat.gcd n.natAbs d:=⟨_,rfl⟩;have h1:g ∣ n.natAbs:=by rw [hgg];exact Wn ..
 unfold jf;rw [<- hgg];constructor
 ·simp only;rw [Int.natAbs_ediv_of_dvd (MU h1),Int.natAbs_natCast];exact Yi ..
 ·exact Yi ..
theorem N0 (k:KL) (h:Hp) (h0:Hp) (hl:h.length=h0.length):∀ (m:Nat) (a b:Int),b.natAbs<=m->a.natAbs < 9223372036854775807->b.natAbs < 9223372036854775807 ->
  (∀ c:Int,c.natAbs=Nat.gcd a.natAbs b.natAbs->k (.exit 0) [I c] h)->lp (jC (CX Y)) [] h0 [I a,I b] h k:=by
 intro m
 induction m with
 | zero=>
  intro a b hb ha hb2 hk;have hb0:b=0:=by omega
  subst hb0;refine ai ?_;simp (disch:=first|omega|simp<;>omega|fail)[jC];exact hk a (by simp)
 | succ m ih=>
  intro a b hb ha hb2 hk;refine ai ?_;by_cases hb0:b=0
  ·subst hb0;simp (disch:=first|omega|simp<;>omega|fail)[jC];exact hk a (by simp)
  ·have hr:(a.tmod b).natAbs < b.natAbs:=by
    rw [Int.natAbs_tmod];exact Yz _ (by omega)
   have e:Nat.gcd b.natAbs (a.tmod b).natAbs=Nat.gcd a.natAbs b.natAbs:=by
    rw [Int.natAbs_tmod,We,<- Nat.gcd_rec,We]
   simp (disch:=first|omega|simp<;>omega|fail)[jC,hb0];exact ih b (a.tmod b) (by omega) (by omega) (by omega) (fun c hc=>hk c (hc.trans e))
theorem j7 {a b a' b':List UInt8} {h:Hp} (e1:a'=a) (e2:b'=b):out (.agg [S a,S b]) (.agg [S a',S b']) h:=by
 subst e1;subst e2;exact ⟨h,by simp [aB,ae,norm]⟩
theorem H6 {n:Int} {d:Nat} (hd:0 < d) (hn:n.natAbs < 9223372036854775807) (hd2:d < 9223372036854775807):CP Y F.fN [I n,I d] (.agg (qT (jf n d))):=by
 refine zP ?_;obtain ⟨g,hgg⟩:∃ g,g=Nat.gcd n.natAbs d:=⟨_,rfl⟩;have hg:0 < g:=by rw [hgg];exact Xd _ hd
 have h1:g ∣ n.natAbs:=by rw [hgg];exact Wn ..
 have h2:g ∣ d:=by rw [hgg];exact Nat.gcd_dvd_right ..
 have hgd:g<=d:=Xu hd h2;have e1:n.tdiv (g:Int)=n / (g:Int):=Int.tdiv_eq_ediv_of_dvd (MU h1);have e2:(d:Int).tdiv (g:Int)=((d / g:Nat):Int):=by rw [Zv (by omega),<- Int.natCast_ediv]
 have e3:(n / (g:Int)).natAbs<=n.natAbs:=by
  rw [Int.natAbs_ediv_of_dvd (MU h1),Int.natAbs_natCast];exact Yi ..
 have e4:d / g<=d:=Yi ..;have eq:qT (jf n d)=[S (itoa (n / (g:Int))),S (aa (d / g))]:=by unfold qT jf;rw [<- hgg]
 rw [eq];generalize n / (g:Int)=nq at *;generalize d / g=dq at *;have i1:=xf (z:=nq) (by omega) (by omega);have i2:=xf (z:=(dq:Int)) (by omega) (by omega);rw [bW] at i2;have hg0:¬ (g:Int)=0:=by omega
 simp (disch:=first|omega|simp<;>omega|fail)[fN];refine lo (N0 _ _ _ rfl (d:Int).natAbs n d (Z7 _) hn (by omega) (fun c hc=>?_));rw [Int.natAbs_natCast,<- hgg] at hc;simp (disch:=first|omega|simp<;>omega|fail)[]
 have tail:∀ u:Unit,bnd (biI .quo (I n) (I g)) fun v6=>
   cal (CX Y).p [(1,.vars [.d (.str []),.d (.str [])])] (.fn F.eD [] []) [v6] fun v7 h=>
   bnd (biI .quo (I d) (I g)) fun v8=>
   cal (CX Y).p h (.fn F.eD [] []) [v8] fun v9 h=>
   bnd (bld [(0,1),(1,1)] [.str [],.str []] [(0,v7),(1,v9)]) fun v10=>
   stD h 2 (.ptr 0 1 0 2) v10 fun _ h=>
   bnd (ldA h 2 (.ptr 0 1 0 2)) fun v12=>
   out (.agg [S (itoa nq),S (aa dq)]) v12 h:=by
  intro _;simp (disch:=first|omega|simp<;>omega|fail)[e1];refine cd i1 ?_;simp (disch:=first|omega|simp<;>omega|fail)[e2];refine cd i2 ?_;simp (disch:=first|omega|simp<;>omega|fail)[];exact j7 rfl rfl
 by_cases hc0:c < 0
 ·have hcg : -c=(g:Int):=by omega
  refine eC (l:=[I g]) (h:=[(1,.vars [.d (.str []),.d (.str [])])]) (fun q=>by simp (disch:=first|omega|simp<;>omega|fail)[hc0,hcg]) ?_;exact tail ()
 ·have hcg:c=(g:Int):=by omega
  subst hcg;refine eC (l:=[I g]) (h:=[(1,.vars [.d (.str []),.d (.str [])])]) (fun q=>by simp (disch:=first|omega|simp<;>omega|fail)[hc0]) ?_;exact tail ()
def qL (K:Nat) (x:Q):Prop:=ndg x.1.natAbs<=K∧ndg x.2<=K
theorem B9 {n:Int} {d K:Nat} (h1:ndg n.natAbs<=K) (h2:ndg d<=K):qL K (jf n d):=
 ⟨Z4 (cE (xe n d).1) h1,Z4 (cE (xe n d).2) h2⟩
theorem qL.mono {K L:Nat} {x:Q} (h:qL K x) (hl:K<=L):qL L x:=⟨Z4 h.1 hl,Z4 h.2 hl⟩
theorem jA {z w:Int} {k:Nat} (hz:ndg z.natAbs<=k) (hw:ndg w.natAbs<=k):ndg (z+w).natAbs<=k+1:=
 Z4 (cE (Int.natAbs_add_le z w)) (nL hz hw)
theorem cF {z w:Int}:ndg (z * w).natAbs<=ndg z.natAbs+ndg w.natAbs:=by
 rw [Zg];exact nK
theorem P9 {a b:Q} {K L:Nat} (ha:qL K a) (hb:qL L b):qL (K+L+1) (nH a b):=by
 refine B9 (jA ?_ ?_) ?_
 ·have:=cF (z:=a.1) (w:=(b.2:Int));rw [Int.natAbs_natCast] at this;have:=ha.1;have:=hb.2;omega
 ·have:=cF (z:=b.1) (w:=(a.2:Int));rw [Int.natAbs_natCast] at this;have:=hb.1;have:=ha.2;omega
 ·have:=nK (a:=a.2) (b:=b.2);have:=ha.2;have:=hb.2;omega
theorem K8 {a b:Q} {K L:Nat} (ha:qL K a) (hb:qL L b):qL (K+L) (kM a b):=by
 refine B9 ?_ ?_
 ·have:=cF (z:=a.1) (w:=b.1);have:=ha.1;have:=hb.1;omega
 ·have:=nK (a:=a.2) (b:=b.2);have:=ha.2;have:=hb.2;omega
theorem NL {a b:Q} (ha:okQ a) (hb:okQ b):okQ (nH a b):=t6 _ (Yu ha.1 hb.1)
theorem HB {a b:Q} (ha:okQ a) (hb:okQ b):okQ (kM a b):=t6 _ (Yu ha.1 hb.1)
theorem C7 {z w:Int} (hw0:0 < w) (hz:ndg z.natAbs < 900000) (hw:ndg w.natAbs < 900000):CP Y F.aG [S (itoa z),S (itoa w)] (.tup [S (itoa (z / w)),S (itoa (z % w)),I 0]):=by
 obtain ⟨m,rfl⟩:∃ m:Nat,w=m:=⟨w.toNat,by omega⟩;rw [bW];exact oT (by omega) hz (by simpa using hw)
theorem vk {n d:Int} (hd:d≠0) (hn:ndg n.natAbs < 800000) (hd2:ndg d.natAbs < 800000):CP Y F.aL [S (itoa n),S (itoa d)] (.agg (qT (qI n d))):=by
 refine uk ?_;have sg0:=iP d
 have tail:∀ (n:Int) (d:Nat),0 < d->ndg n.natAbs < 800000->ndg d < 800000 ->
   cal (CX Y).p [(1,.vars [.d (.str []),.d (.str [])])] (.fn F.kz [] []) [S (itoa n),S (aa d)] fun v6 h=>
  bnd (biS .neq v6 (.d (.str [49]))) fun v7=>
  jn (fun l8 h=>
   bnd (bld [(0,1),(1,1)] [.str [],.str []] [(0,(ge l8 0)),(1,(ge l8 1))]) fun v10=>
   stD h 2 (.ptr 0 1 0 2) v10 fun _ h=>
   bnd (ldA h 2 (.ptr 0 1 0 2)) fun v12=>
   out (.agg (qT (jf n d))) v12 h) fun q9=>
   cnd v7 (
    cal (CX Y).p h (.fn F.aG [] []) [S (itoa n),v6] fun v13 h=>
    ext v13 0 fun v14=>
    ext v13 1 fun v15=>
    ext v13 2 fun v16=>
    cal (CX Y).p h (.fn F.aG [] []) [S (aa d),v6] fun v17 h=>
    ext v17 0 fun v18=>
    ext v17 1 fun v19=>
    ext v17 2 fun v20=>
    q9 [v14,v18] h) (
    q9 [S (itoa n),S (aa d)] h):=by
  intro n d hd hn hd2;have gc:=H4 (z:=n) (w:=(d:Int)) (by omega) (by simpa using Nat.lt_trans hd2 (by decide));rw [bW,Int.natAbs_natCast] at gc;obtain ⟨g,hgg⟩:∃ g,g=Nat.gcd n.natAbs d:=⟨_,rfl⟩;have hg:0 < g:=by rw [hgg];exact Xd _ hd
  have hgd:g<=d:=Xu hd (by rw [hgg];exact Nat.gcd_dvd_right ..);have eq:jf n d=(n / (g:Int),d / g):=by unfold jf;rw [<- hgg]
  rw [<- hgg] at gc;rw [eq];have ng:ndg g < 900000:=Ze (cE hgd) (by omega);have d1:=oT (z:=n) hg (by omega) ng;have d2:=oj (a:=d) hg (by omega) ng;simp (disch:=first|omega|simp<;>omega|fail)[];refine cd gc ?_;by_cases h1:g=1
  ·subst h1;rw [dQ];simp (disch:=first|omega|simp<;>omega|fail)[];refine eC (l:=[S (itoa n),S (aa d)]) (h:=[(1,.vars [.d (.str []),.d (.str [])])]) (fun q=>by simp (disch:=first|omega|simp<;>omega|fail)[]) ?_;simp (disch:=first|omega|simp<;>omega|fail)[];refine j7 (by simp) (by simp)
  ·have h49:¬ aa g=[49]:=fun h=>h1 (lH (h.trans dQ.symm))
   simp (disch:=first|omega|simp<;>omega|fail)[];refine bm ?_;simp (disch:=first|omega|simp<;>omega|fail)[h49];refine cd d1 ?_;simp (disch:=first|omega|simp<;>omega|fail)[];refine cd d2 ?_;simp (disch:=first|omega|simp<;>omega|fail)[];exact j7 rfl rfl
 simp (disch:=first|omega|simp<;>omega|fail)[aL];refine cd sg0 ?_;by_cases hneg:d < 0
 ·have s1:sgn d = -1:=by unfold sgn;rw [if_neg hd,if_pos hneg]
  rw [s1];have hd3:ndg (-d).natAbs < 800000:=by rw [X9];exact hd2
  have n1:=rE (z:=n) (by omega);have n2:=rE (z:=d) (by omega);have e:qI n d=jf (-n) d.natAbs:=if_pos hneg;have ed:itoa (-d)=aa d.natAbs:=by rw [show -d=((d.natAbs:Nat):Int) by omega,bW]
  rw [e];rw [ed] at n2;simp (disch:=first|omega|simp<;>omega|fail)[];refine bm ?_;simp (disch:=first|omega|simp<;>omega|fail)[];refine cd n1 ?_;simp (disch:=first|omega|simp<;>omega|fail)[];refine cd n2 ?_;have:=tail (-n) d.natAbs (by omega) (by rw [X9];exact hn) hd2;simpa using this
 ·have s1:sgn d=1:=by unfold sgn;rw [if_neg hd,if_neg hneg]
  rw [s1];have e:qI n d=jf n d.natAbs:=if_neg hneg;have ed:itoa d=aa d.natAbs:=by conv=>lhs;rw [show d=((d.natAbs:Nat):Int) by omega,bW]
  rw [e,ed];simp (disch:=first|omega|simp<;>omega|fail)[];refine bm ?_;simp (disch:=first|omega|simp<;>omega|fail)[];have:=tail n d.natAbs (by omega) hn hd2;simpa using this
theorem uI (a:Q):CP Y F.dh [.agg (qT a)] (.tup [I (if sdg a.1<=9 then a.1 else 0),I (if ndg a.2<=9 then a.2 else 0),B (decide (sdg a.1<=9) && decide (ndg a.2<=9))]):=by
 refine wF ?_;have l1:=yv a.1;have l2:=yv (a.2:Int);have e:sdg (a.2:Int)=ndg a.2:=by unfold sdg;rw [if_neg (by omega),Int.natAbs_natCast];rfl
 rw [bW,e] at l2;simp (disch:=first|omega|simp<;>omega|fail)[dh,qT];refine cd l1 ?_;by_cases h1:sdg a.1<=9
 ·rw [if_pos h1,if_pos h1,decide_eq_true h1];simp (disch:=first|omega|simp<;>omega|fail)[];refine cd l2 ?_;by_cases h2:ndg a.2<=9
  ·rw [if_pos h2,if_pos h2,decide_eq_true h2];simp (disch:=first|omega|simp<;>omega|fail)[];exact gM rfl rfl rfl
  ·rw [if_neg h2,if_neg h2,decide_eq_false h2];simp (disch:=first|omega|simp<;>omega|fail)[];exact gM rfl rfl rfl
 ·rw [if_neg h1,if_neg h1,decide_eq_false h1];simp (disch:=first|omega|simp<;>omega|fail)[];refine cd l2 ?_;by_cases h2:ndg a.2<=9
  ·rw [if_pos h2,if_pos h2,decide_eq_true h2];simp (disch:=first|omega|simp<;>omega|fail)[];exact gM rfl rfl rfl
  ·rw [if_neg h2,if_neg h2,decide_eq_false h2];simp (disch:=first|omega|simp<;>omega|fail)[];exact gM rfl rfl rfl
theorem Ey {n:Int} {d:Nat} (h:0 < d):qI n (d:Int)=jf n d:=by
 unfold qI;rw [if_neg (by omega),Int.natAbs_natCast]
theorem HS {n:Int} {d:Nat} (hd:0 < d) (hn:ndg n.natAbs < 800000) (hd2:ndg d < 800000):CP Y F.aL [S (itoa n),S (aa d)] (.agg (qT (jf n d))):=by
 have:=vk (n:=n) (d:=(d:Int)) (by omega) hn (by simpa using hd2)
 rwa [Ey hd,bW] at this
theorem Pp (h:Hp) (a:Q):aB h (.agg (qT a))=some (.agg (qT a),h):=by simp [qT,aB,ae,norm]
theorem qW {z:Int} {b:Nat} (hz:ndg z.natAbs < 400000) (hb:ndg b < 400000):CP Y F.ay [S (itoa z),S (aa b)] (S (itoa (z * b))):=by
 have:=oi (z:=z) (w:=(b:Int)) hz (by simpa using hb)
 rwa [bW] at this
theorem xM (h:Hp) (s t:List UInt8):ae h [.agg [S s,S t]]=some ([.agg [S s,S t]],h):=by simp [ae,aB,norm]
theorem Bu {a:Q} (h1:sdg a.1<=9) (h2:ndg a.2<=9):a.1.natAbs < 1000000000∧a.2 < 1000000000:=
 ⟨rj h1,Z2 (bR _) (Z3 (by decide) h2)⟩
theorem ER {a b:Q} (ha:okQ a) (hb:okQ b) (la:qL 100000 a) (lb:qL 100000 b):CP Y F.fx [.agg (qT a),.agg (qT b)] (.agg (qT (kM a b))):=by
 refine yJ ?_;obtain ⟨la1,la2⟩:=la;obtain ⟨lb1,lb2⟩:=lb;have b1:=uI a;have b2:=uI b;have m1:=oi (z:=a.1) (w:=b.1) (by omega) (by omega);have m2:=qk (a:=a.2) (b:=b.2) (by omega) (by omega);have n1:=cF (z:=a.1) (w:=b.1);have n2:=nK (a:=a.2) (b:=b.2);have hd:0 < a.2 * b.2:=Yu ha.1 hb.1
 have lw:CP Y F.aL [S (itoa (a.1 * b.1)),S (aa (a.2 * b.2))] (.agg (qT (kM a b))):=HS (n:=a.1 * b.1) hd (by omega) (by omega);have ff:(a.1 * b.1).natAbs < 9223372036854775807->a.2 * b.2 < 9223372036854775807->CP Y F.fN [I (a.1 * b.1),I (a.2 * b.2:Nat)] (.agg (qT (kM a b))):=fun h1 h2=>H6 hd h1 h2
 obtain ⟨x,y,hxy⟩:∃ x y,qT (kM a b)=[S x,S y]:=⟨_,_,rfl⟩;rw [hxy] at lw ff ⊢;simp only [qT] at b1 b2 ⊢
 have tail:∀ u:Unit,cal (CX Y).p [(1,.vars [S (itoa a.1),S (aa a.2)]),(1,.vars [S (itoa b.1),S (aa b.2)]),(1,.vars [.d (.str []),.d (.str [])])] (.fn F.ay [] []) [S (itoa a.1),S (itoa b.1)] fun v15 h=>
  bnd (faV 1 (.ptr 0 1 0 2)) fun v16=>
  bnd (ld1 h v16) fun v17=>
  bnd (faV 1 (.ptr 1 1 0 2)) fun v18=>
  bnd (ld1 h v18) fun v19=>
  cal (CX Y).p h (.fn F.ay [] []) [v17,v19] fun v20 h=>
  cal (CX Y).p h (.fn F.aL [] []) [v15,v20] fun v21 h=>
  stD h 2 (.ptr 2 1 0 2) v21 fun _ h=>
  bnd (ldA h 2 (.ptr 2 1 0 2)) fun v23=>
  out (.agg [S x,S y]) v23 h:=by
  intro _;simp (disch:=first|omega|simp<;>omega|fail)[];refine cd m1 ?_;simp (disch:=first|omega|simp<;>omega|fail)[];refine cd m2 ?_;simp (disch:=first|omega|simp<;>omega|fail)[];refine cd lw ?_;simp (disch:=first|omega|simp<;>omega|fail)[];exact j7 rfl rfl
 simp (disch:=first|omega|simp<;>omega|fail)[fx];refine cd b1 ?_ (xM ..);cases g1:decide (sdg a.1<=9) && decide (ndg a.2<=9) with
 | false=>
  simp (disch:=first|omega|simp<;>omega|fail)[];refine bm ?_;simp (disch:=first|omega|simp<;>omega|fail)[];simpa using tail ()
 | true=>
  simp only [Z8,decide_eq_true_eq] at g1;obtain ⟨s1,s2⟩:=Bu g1.1 g1.2;rw [if_pos g1.1,if_pos g1.2];simp (disch:=first|omega|simp<;>omega|fail)[];refine bm ?_;simp (disch:=first|omega|simp<;>omega|fail)[];refine cd b2 ?_ (xM ..);cases g2:decide (sdg b.1<=9) && decide (ndg b.2<=9) with
  | false=>
   simp (disch:=first|omega|simp<;>omega|fail)[];simpa using tail ()
  | true=>
   simp only [Z8,decide_eq_true_eq] at g2;obtain ⟨s3,s4⟩:=Bu g2.1 g2.2;rw [if_pos g2.1,if_pos g2.2];have p1:(a.1 * b.1).natAbs < 1000000000 * 1000000000:=by rw [Zg];exact Yo s1 s3
   have p2:a.2 * b.2 < 1000000000 * 1000000000:=Yo s2 s4;have e2:(a.2:Int) * (b.2:Int)=((a.2 * b.2:Nat):Int):=by simp
   have ff:=ff (by omega) (by omega);obtain ⟨N,hN⟩:∃ N,a.1 * b.1=N:=⟨_,rfl⟩;rw [hN] at p1 ff;generalize a.2 * b.2=D at *;simp (disch:=first|omega|simp<;>omega|fail)[e2,hN];refine cd ff ?_;simp (disch:=first|omega|simp<;>omega|fail)[];exact j7 rfl rfl
theorem Mb {a b:Q} (ha:okQ a) (hb:okQ b) (la:qL 100000 a) (lb:qL 100000 b):CP Y F.fA [.agg (qT a),.agg (qT b)] (.agg (qT (nH a b))):=by
 refine yL ?_;obtain ⟨la1,la2⟩:=la;obtain ⟨lb1,lb2⟩:=lb;have b1:=uI a;have b2:=uI b;have m1:=qW (z:=a.1) (b:=b.2) (by omega) (by omega);have m2:=qW (z:=b.1) (b:=a.2) (by omega) (by omega);have m3:=qk (a:=a.2) (b:=b.2) (by omega) (by omega);have n1:=cF (z:=a.1) (w:=(b.2:Int));have n2:=cF (z:=b.1) (w:=(a.2:Int))
 have n3:=nK (a:=a.2) (b:=b.2);rw [Int.natAbs_natCast] at n1 n2;have n4:ndg (a.1 * b.2+b.1 * a.2).natAbs<=200000+1:=jA (by omega) (by omega);have ad:=ql (z:=a.1 * b.2) (w:=b.1 * a.2) (by omega) (by omega);have hd:0 < a.2 * b.2:=Yu ha.1 hb.1
 have lw:CP Y F.aL [S (itoa (a.1 * b.2+b.1 * a.2)),S (aa (a.2 * b.2))] (.agg (qT (nH a b))):=HS hd (by omega) (by omega);have ff:(a.1 * b.2+b.1 * a.2).natAbs < 9223372036854775807->a.2 * b.2 < 9223372036854775807->CP Y F.fN [I (a.1 * b.2+b.1 * a.2),I (a.2 * b.2:Nat)] (.agg (qT (nH a b))):=fun h1 h2=>H6 hd h1 h2
 by_cases one:a.2=1∧b.2=1
 ·have ad1:=ql (z:=a.1) (w:=b.1) (by omega) (by omega)
  have eq:nH a b=(a.1+b.1,1):=by
   unfold nH;rw [one.1,one.2];rw [Ez (by simp)];simp
  rw [eq];have t1:qT a=[S (itoa a.1),S [49]]:=by unfold qT;rw [one.1,dQ]
  have t2:qT b=[S (itoa b.1),S [49]]:=by unfold qT;rw [one.2,dQ]
  have t3:qT (a.1+b.1,1)=[S (itoa (a.1+b.1)),S [49]]:=by unfold qT;rw [dQ]
  rw [t1,t2,t3];simp (disch:=first|omega|simp<;>omega|fail)[fA];refine cd ad1 ?_;simp (disch:=first|omega|simp<;>omega|fail)[];exact j7 rfl rfl
 obtain ⟨x,y,hxy⟩:∃ x y,qT (nH a b)=[S x,S y]:=⟨_,_,rfl⟩;rw [hxy] at lw ff ⊢;simp only [qT] at b1 b2 ⊢
 have tail:∀ u:Unit,cal (CX Y).p [(1,.vars [S (itoa a.1),S (aa a.2)]),(1,.vars [S (itoa b.1),S (aa b.2)]),(1,.vars [.d (.str []),.d (.str [])])] (.fn F.ay [] []) [S (itoa a.1),S (aa b.2)] fun v30 h=>
   bnd (faV 0 (.ptr 1 1 0 2)) fun v31=>
   bnd (ld1 h v31) fun v32=>
   bnd (faV 1 (.ptr 0 1 0 2)) fun v33=>
   bnd (ld1 h v33) fun v34=>
   cal (CX Y).p h (.fn F.ay [] []) [v32,v34] fun v35 h=>
   cal (CX Y).p h (.fn F.bN [] []) [v30,v35] fun v36 h=>
   bnd (faV 1 (.ptr 0 1 0 2)) fun v37=>
   bnd (ld1 h v37) fun v38=>
   bnd (faV 1 (.ptr 1 1 0 2)) fun v39=>
   bnd (ld1 h v39) fun v40=>
   cal (CX Y).p h (.fn F.ay [] []) [v38,v40] fun v41 h=>
   cal (CX Y).p h (.fn F.aL [] []) [v36,v41] fun v42 h=>
   stD h 2 (.ptr 2 1 0 2) v42 fun _ h=>
   bnd (ldA h 2 (.ptr 2 1 0 2)) fun v44=>
   out (.agg [S x,S y]) v44 h:=by
  intro _;simp (disch:=first|omega|simp<;>omega|fail)[];refine cd m1 ?_;simp (disch:=first|omega|simp<;>omega|fail)[];refine cd m2 ?_;simp (disch:=first|omega|simp<;>omega|fail)[];refine cd ad ?_;simp (disch:=first|omega|simp<;>omega|fail)[];refine cd m3 ?_;simp (disch:=first|omega|simp<;>omega|fail)[];refine cd lw ?_;simp (disch:=first|omega|simp<;>omega|fail)[];exact j7 rfl rfl
 have hne:¬ (aa a.2=[49]∧aa b.2=[49]):=fun h=>one ⟨lH (h.1.trans dQ.symm),lH (h.2.trans dQ.symm)⟩
 have walk:∀ u:Unit,bnd (ldA [(1,.vars [S (itoa a.1),S (aa a.2)]),(1,.vars [S (itoa b.1),S (aa b.2)]),(1,.vars [.d (.str []),.d (.str [])])] 2 (.ptr 0 1 0 2)) fun v19=>
  cal (CX Y).p [(1,.vars [S (itoa a.1),S (aa a.2)]),(1,.vars [S (itoa b.1),S (aa b.2)]),(1,.vars [.d (.str []),.d (.str [])])] (.fn F.dh [] []) [v19] fun v20 h=>
  ext v20 0 fun v21=>
  ext v20 1 fun v22=>
  ext v20 2 fun v23=>
  jn (fun l24 h=>
   bnd (faV 0 (.ptr 0 1 0 2)) fun v26=>
   bnd (ld1 h v26) fun v27=>
   bnd (faV 1 (.ptr 1 1 0 2)) fun v28=>
   bnd (ld1 h v28) fun v29=>
   cal (CX Y).p h (.fn F.ay [] []) [v27,v29] fun v30 h=>
   bnd (faV 0 (.ptr 1 1 0 2)) fun v31=>
   bnd (ld1 h v31) fun v32=>
   bnd (faV 1 (.ptr 0 1 0 2)) fun v33=>
   bnd (ld1 h v33) fun v34=>
   cal (CX Y).p h (.fn F.ay [] []) [v32,v34] fun v35 h=>
   cal (CX Y).p h (.fn F.bN [] []) [v30,v35] fun v36 h=>
   bnd (faV 1 (.ptr 0 1 0 2)) fun v37=>
   bnd (ld1 h v37) fun v38=>
   bnd (faV 1 (.ptr 1 1 0 2)) fun v39=>
   bnd (ld1 h v39) fun v40=>
   cal (CX Y).p h (.fn F.ay [] []) [v38,v40] fun v41 h=>
   cal (CX Y).p h (.fn F.aL [] []) [v36,v41] fun v42 h=>
   stD h 2 (.ptr 2 1 0 2) v42 fun _ h=>
   bnd (ldA h 2 (.ptr 2 1 0 2)) fun v44=>
   out (.agg [S x,S y]) v44 h) fun q25=>
   cnd v23 (
    bnd (ldA h 2 (.ptr 1 1 0 2)) fun v45=>
    cal (CX Y).p h (.fn F.dh [] []) [v45] fun v46 h=>
    ext v46 0 fun v47=>
    ext v46 1 fun v48=>
    ext v46 2 fun v49=>
    cnd v49 (
     bnd (biI .mul v21 v48) fun v50=>
     bnd (biI .mul v47 v22) fun v51=>
     bnd (biI .add v50 v51) fun v52=>
     bnd (biI .mul v22 v48) fun v53=>
     cal (CX Y).p h (.fn F.fN [] []) [v52,v53] fun v54 h=>
     stD h 2 (.ptr 2 1 0 2) v54 fun _ h=>
     bnd (ldA h 2 (.ptr 2 1 0 2)) fun v56=>
     out (.agg [S x,S y]) v56 h) (
     q25 [] h)) (
    q25 [] h):=by
  intro _;simp (disch:=first|omega|simp<;>omega|fail)[];refine cd b1 ?_ (xM ..);cases g1:decide (sdg a.1<=9) && decide (ndg a.2<=9) with
  | false=>
   simp (disch:=first|omega|simp<;>omega|fail)[];refine bm ?_;simp (disch:=first|omega|simp<;>omega|fail)[];simpa using tail ()
  | true=>
   simp only [Z8,decide_eq_true_eq] at g1;obtain ⟨s1,s2⟩:=Bu g1.1 g1.2;rw [if_pos g1.1,if_pos g1.2];simp (disch:=first|omega|simp<;>omega|fail)[];refine bm ?_;simp (disch:=first|omega|simp<;>omega|fail)[];refine cd b2 ?_ (xM ..);cases g2:decide (sdg b.1<=9) && decide (ndg b.2<=9) with
   | false=>
    simp (disch:=first|omega|simp<;>omega|fail)[];simpa using tail ()
   | true=>
    simp only [Z8,decide_eq_true_eq] at g2;obtain ⟨s3,s4⟩:=Bu g2.1 g2.2;rw [if_pos g2.1,if_pos g2.2];have p1:(a.1 * b.2).natAbs < 1000000000 * 1000000000:=by rw [Zg,Int.natAbs_natCast];exact Yo s1 s4
    have p3:(b.1 * a.2).natAbs < 1000000000 * 1000000000:=by rw [Zg,Int.natAbs_natCast];exact Yo s3 s2
    have p2:a.2 * b.2 < 1000000000 * 1000000000:=Yo s2 s4;have e2:(a.2:Int) * (b.2:Int)=((a.2 * b.2:Nat):Int):=by simp
    have ff:=ff (by omega) (by omega);obtain ⟨N,hN⟩:∃ N,a.1 * (b.2:Int)=N:=⟨_,rfl⟩;obtain ⟨M,hM⟩:∃ M,b.1 * (a.2:Int)=M:=⟨_,rfl⟩;rw [hN] at p1 ff;rw [hM] at p3 ff;generalize a.2 * b.2=D at *;simp (disch:=first|omega|simp<;>omega|fail)[e2,hN,hM];refine cd ff ?_;simp (disch:=first|omega|simp<;>omega|fail)[];exact j7 rfl rfl
 by_cases c1:aa a.2=[49]
 ·have c2:¬ aa b.2=[49]:=fun h=>hne ⟨c1,h⟩
  simp (disch:=first|omega|simp<;>omega|fail)[fA,c1,c2];simpa [c1] using walk ()
 ·simp (disch:=first|omega|simp<;>omega|fail)[fA,c1];simpa using walk ()
theorem JI (a:Q):CP Y F.ja [.agg (qT a)] (I (sgn a.1)):=by
 refine wG ?_;simp (disch:=first|omega|simp<;>omega|fail)[ja,qT];refine cd (iP a.1) ?_;exact bG rfl
theorem GH {a:Q} (ha:okQ a) (la:qL 800000 a):CP Y F.gv [.agg (qT a)] (S (itoa (a.1 / a.2))):=by
 refine vp ?_;obtain ⟨la1,la2⟩:=la;simp (disch:=first|omega|simp<;>omega|fail)[gv,qT];refine cd (oT (z:=a.1) ha.1 (by omega) (by omega)) ?_;simp (disch:=first|omega|simp<;>omega|fail)[];exact cU rfl
theorem DG (z:Int):sgn z=0↔z=0:=by
 unfold sgn;constructor
 ·intro h;split at h
  ·assumption
  ·split at h <;> omega
 ·intro h;rw [if_pos h]
theorem yk {a b:List UInt8} {c:Int} {h:Hp}:out (.tup [.agg [S a,S b],I c]) (.tup [.agg [S a,S b],I c]) h:=⟨h,by simp [aB,ae,norm]⟩
theorem Ma {a b:Q} (ha:okQ a) (hb:okQ b) (h0:b.1≠0) (la:qL 100000 a) (lb:qL 100000 b):CP Y F.iI [.agg (qT a),.agg (qT b)] (.tup [.agg (qT (wA a b)),I 0]):=by
 refine yK ?_;obtain ⟨la1,la2⟩:=la;obtain ⟨lb1,lb2⟩:=lb;have sg0:=JI b;have hs:¬ sgn b.1=0:=fun h=>h0 ((DG _).1 h)
 have m1:=qW (z:=a.1) (b:=b.2) (by omega) (by omega);have m2:=oi (z:=(a.2:Int)) (w:=b.1) (by rw [Int.natAbs_natCast];omega) (by omega);rw [bW] at m2;have n1:=cF (z:=a.1) (w:=(b.2:Int));have n2:=cF (z:=(a.2:Int)) (w:=b.1);rw [Int.natAbs_natCast] at n1 n2;have hne:(a.2:Int) * b.1≠0:=W5 (by have:=ha.1;omega) h0
 have lw:CP Y F.aL [S (itoa (a.1 * b.2)),S (itoa (a.2 * b.1))] (.agg (qT (wA a b))):=vk hne (by omega) (by omega);obtain ⟨x,y,hxy⟩:∃ x y,qT (wA a b)=[S x,S y]:=⟨_,_,rfl⟩;rw [hxy] at lw ⊢;generalize sgn b.1=sb at *;simp only [qT] at sg0 ⊢;simp (disch:=first|omega|simp<;>omega|fail)[iI];refine cd sg0 ?_ (xM ..);simp (disch:=first|omega|simp<;>omega|fail)[hs]
 refine cd m1 ?_;simp (disch:=first|omega|simp<;>omega|fail)[];refine cd m2 ?_;simp (disch:=first|omega|simp<;>omega|fail)[];refine cd lw ?_;simp (disch:=first|omega|simp<;>omega|fail)[];exact yk
theorem L9 {n d:Int} (hd:d≠0) (hn:ndg n.natAbs < 800000) (hd2:ndg d.natAbs < 800000):CP Y F.jP [S (itoa n),S (itoa d)] (.tup [.agg (qT (qI n d)),I 0]):=by
 refine yI ?_;have sg0:=iP d;have hs:¬ sgn d=0:=fun h=>hd ((DG _).1 h)
 have lw:=vk hd hn hd2;obtain ⟨x,y,hxy⟩:∃ x y,qT (qI n d)=[S x,S y]:=⟨_,_,rfl⟩;rw [hxy] at lw ⊢;generalize sgn d=sb at *;simp (disch:=first|omega|simp<;>omega|fail)[jP];refine cd sg0 ?_;simp (disch:=first|omega|simp<;>omega|fail)[hs];refine cd lw ?_;simp (disch:=first|omega|simp<;>omega|fail)[];exact yk
theorem xa {z:Int} (h1 : -9223372036854775808 < z) (h2:z < 9223372036854775808):ndg z.natAbs<=19:=a6 (by omega) (by decide)
theorem L8 {n d:Int} (hd:d≠0) (h1 : -9223372036854775808 < n) (h2:n < 9223372036854775808) (h3 : -9223372036854775808 < d) (h4:d < 9223372036854775808):CP Y F.jD [I n,I d] (.tup [.agg (qT (qI n d)),I 0]):=by
 refine zQ ?_;have nw:=L9 (n:=n) hd (Ze (xa h1 h2) (by decide)) (Ze (xa h3 h4) (by decide));obtain ⟨x,y,hxy⟩:∃ x y,qT (qI n d)=[S x,S y]:=⟨_,_,rfl⟩;rw [hxy] at nw ⊢;simp (disch:=first|omega|simp<;>omega|fail)[jD];refine cd (lE h1 h2) ?_;simp (disch:=first|omega|simp<;>omega|fail)[];refine cd (lE h3 h4) ?_
 simp (disch:=first|omega|simp<;>omega|fail)[];refine cd nw ?_;simp (disch:=first|omega|simp<;>omega|fail)[];exact yk
@[simp] theorem Rv {α:Type} (f:α->D) (l:List α) (place:Nat->Option (Nat × Nat)) (cs:List V) (r:List (Nat × V)) (off sz:Nat) :
  EW (some (off,sz)) place cs (lst f l) r=if 1=sz∧off+1<=cs.length then nN place (cs.take off++[lst f l]++cs.drop (off+1)) r else none:=id rfl
theorem Pb (s:List UInt8):CP Y F.fT [S s] (S (rdT s)):=by
 refine vJ ?_;simp (disch:=first|omega|simp<;>omega|fail)[fT];refine cd (qq s) ?_;simp (disch:=first|omega|simp<;>omega|fail)[] <;> exact cU rfl
theorem Ay (a b:List UInt8) (ha:a.length < 1000000000) (hb:b.length < 1000000000):CP Y F.jt [.agg [S a,S b]] (B (oZ a && decide (b.length<=30))):=by
 refine BA ?_;simp (disch:=first|omega|simp<;>omega|fail)[jt];refine cd (Pb a) ?_;have hl:(rdT a).length<=a.length:=by unfold rdT;split <;> simp
 by_cases h1:(rdT a).length<=30
 ·have h1':((rdT a).length:Int)<=30:=by omega
  by_cases h2:b.length<=30
  ·have h2':(b.length:Int)<=30:=by omega
   simp (disch:=first|omega|simp<;>omega|fail)[h1',h2'] <;> exact iQ (by simp [oZ,h1,h2])
  ·have h2':¬ (b.length:Int)<=30:=by omega
   simp (disch:=first|omega|simp<;>omega|fail)[h1',h2'] <;> exact iQ (by simp [oZ,h1,h2])
 ·have h1':¬ ((rdT a).length:Int)<=30:=by omega
  simp (disch:=first|omega|simp<;>omega|fail)[h1'] <;> exact iQ (by simp [oZ,h1])
def sz4 (x:Tx):Bool:=oZ x.1 && decide (x.2.length<=30)
def xF:List Tx->Int
 | []=>0
 | x :: q=>cond (rdF x.1 x.2).isSome (cond (sz4 x) (xF q) 4) 2
theorem xO {s:List Tx} (hN:s.length < 1000000000) (hl:∀ x ∈ s,x.1.length < 1000000000∧x.2.length < 1000000000) (k:KL):∀ (q a:List Tx),a++q=s->(xF q=0->k (.exit 0) [] [(0,.none)])->(xF q≠0->∀ h,k .ret [I (xF q)] h) ->
  lp (lO (CX Y) (dp aK s) (I s.length)) [0] [(0,.none)] [I a.length] [(0,.none)] k
 | []=>by
  intro a ha h0 h1;simp at ha;subst ha;refine ai ?_;simp (disch:=first|omega|simp<;>omega|fail)[lO];exact h0 rfl
 | x :: q=>by
  intro a ha h0 h1;have hal:a.length < s.length:=by subst ha;simp
  have hx:nth ([],[]) s a.length=x:=by subst ha;simp
  have hxl:=hl x (by subst ha;simp);have e1:=fun h:Hp=>jN aK aI s h (k:=.i64) (i:=(a.length:Int)) (by omega) (by omega)
  have e2:=fun h:Hp=>jM aK aI ([],[]) s h hal
  simp only [hx,Int.toNat_natCast] at e1 e2;have ih:=xO hN hl k q (a++[x]) (by simpa using ha);refine ai ?_;simp (disch:=first|omega|simp<;>omega|fail)[lO,e1,e2,aK];refine cd (Ba x.1 x.2 hxl.1 hxl.2) ?_;cases g3:(rdF x.1 x.2).isSome with
  | false=>
   simp only [xF,g3,cond_false] at h1;simp (disch:=first|omega|simp<;>omega|fail)[];exact h1 (by decide) _
  | true=>
   simp (disch:=first|omega|simp<;>omega|fail)[];refine cd (Ay x.1 x.2 hxl.1 hxl.2) ?_;cases g1:sz4 x with
   | false=>
    simp only [xF,g3,g1,cond_true,cond_false] at h1;rw [show (oZ x.1 && decide (x.2.length<=30))=false from g1];simp (disch:=first|omega|simp<;>omega|fail)[];exact h1 (by decide) _
   | true=>
    simp only [xF,g3,g1,cond_true] at h0 h1;have:=ih h0 h1;rw [show (oZ x.1 && decide (x.2.length<=30))=true from g1];simp (disch:=first|omega|simp<;>omega|fail)[clean,dT,iF,nh,dd,ax];simpa using this
def scB (n:Nat) (s:List Tx):Int:=if s.length=n then xF s else 5
theorem Dp {p:List Int} {s:List Tx} (hl:∀ x ∈ s,x.1.length < 1000000000∧x.2.length < 1000000000) (hs:s.length < 1000000000):CP Y F.iC [lst di p,dp aK s] (I (scB p.length s)):=by
 have lp':am (lst di p)=some (I p.length):=rfl;have ls':am (dp aK s)=some (I s.length):=rfl;refine BF ?_;by_cases h1:s.length=p.length
 ·have h1':((s.length:Int)=(p.length:Int))=True:=eq_true (by omega);have e:scB p.length s=xF s:=if_pos h1;rw [e];simp (disch:=first|omega|simp<;>omega|fail)[iC,ls',h1'];refine lo (xO hs hl _ s [] rfl (fun g=>?_) (fun g h=>?_))
  ·simp only [gR];exact bG g.symm
  ·simp only [qM,uy];exact bG rfl
 ·have h1':¬ ((s.length:Int)=(p.length:Int)):=by omega
  have e:scB p.length s=5:=if_neg h1;rw [e];simp (disch:=first|omega|simp<;>omega|fail)[iC,ls',h1'] <;> exact bG rfl
def siB (p:List Int) (s:List Tx):Int:=if pcB p=0 then scB p.length s else pcB p
theorem KF {p:List Int} {s:List Tx} (hp:p.length < 1000000000) (hl:∀ x ∈ s,x.1.length < 1000000000∧x.2.length < 1000000000) (hs:s.length < 1000000000):CP Y F.kr [lst di p,dp aK s] (I (siB p s)):=by
 refine BJ ?_;simp (disch:=first|omega|simp<;>omega|fail)[kr];refine cd (gW hp) ?_;by_cases h:pcB p=0
 ·have e:siB p s=scB p.length s:=if_pos h;rw [e];simp (disch:=first|omega|simp<;>omega|fail)[h];refine cd (Dp hl hs) ?_;simp (disch:=first|omega|simp<;>omega|fail)[] <;> exact bG rfl
 ·have e:siB p s=pcB p:=if_neg h;rw [e];simp (disch:=first|omega|simp<;>omega|fail)[h] <;> exact bG rfl
end Go.Vm
