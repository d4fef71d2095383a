/- Lemmas. -/
import Derived.Test.YtmjcaiaiibdadabGreatDoorQDcY
set_option linter.unusedVariables false
set_option linter.unusedSimpArgs false
namespace Go.Vm
open Go Go.Am Go.Big
variable{a g d j s i:Nat}{n:Int}{x:Nat×Bk}{α β:Type}{l r:LiQ}{clr:LnQ}{cs:LwQ}
theorem rN{z:Int}{w:Nat}(h:sdg z<=w):z.natAbs<10^w:=by
 have:ndg z.natAbs<=w:=by unfold sdg at h;omega
 exact Z3 (cF _) (Z0 af this)
theorem kY{z:Int}(h1 : -9223372036854775808<z)(h2:z<9223372036854775808):CP Y F.eu [I z] (S (itoa z)):=by refine Eb ?_;simp[eu];refine cd (DN h1 h2) ?_;exact gk rfl
theorem Dz{b k:Nat}(ha:ndg a<=k)(hb:ndg b<=k):ndg (a+b)<=k+1:=by have h1:a<10^k:=Z3 (cF a) (Z0 af ha);have h2:b<10^k:=Z3 (cF b) (Z0 af hb);exact gG (by rw[Nat.pow_succ];omega) aa
theorem ZQ{z w:Int}(hz:ndg z.natAbs<999999)(hw:ndg w.natAbs<999999): 
  cal (CX Y).p [] (.fn F.aO [] []) [S (itoa z)] λv6 h=>
  ext v6 0 λv7=>
  ext v6 1 λv8=>
  cal (CX Y).p h (.fn F.aO [] []) [S (itoa w)] λv9 h=>
  ext v9 0 λv10=>
  ext v9 1 λv11=>
  bnd (biB .eql v7 v10) λv12=>
  cnd v12 (
   cal (CX Y).p h (.fn F.gn [] []) [v8,v11] λv13 h=>
   cal (CX Y).p h (.fn F.cx [] []) [v7,v13] λv14 h=>
   out (S (itoa (z+w))) v14 h) (
   cal (CX Y).p h (.fn F.cg [] []) [v8,v11] λv15 h=>
   bnd (biI .lss v15 (.d (.int .i64 0))) λv16=>
   jn (λl17 h=>
    cal (CX Y).p h (.fn F.gZ [] []) [(ge l17 1),(ge l17 2)] λv19 h=>
    ext v19 0 λv20=>
    ext v19 1 λv21=>
    cal (CX Y).p h (.fn F.cx [] []) [(ge l17 0),v20] λv22 h=>
    out (S (itoa (z+w))) v22 h) λq18=>
    cnd v16 (
     q18 [v10,v11,v8] h) (
     q18 [v7,v8,v11] h)):=by
 simp;refine cd (pj z) ?_;simp;refine cd (pj w) ?_;have eb:biB .eql (B (decide (z<0))) (B (decide (w<0)))=some (B (decide (z<0) == decide (w<0))):=rfl;simp[eb];by_cases hs:(z<0↔w<0)
 .simp[hs];refine cd (yY (a:=z.natAbs) (b:=w.natAbs) aa aa) ?_;simp;have hk:ndg (z.natAbs+w.natAbs)<=999999:=Dz aa aa;refine cd (gW (decide (z<0)) (n:=z.natAbs+w.natAbs) aa) ?_;refine gk ?_;congr 1;unfold sg;by_cases h:z<0
  .simp[h];omega
  .simp[h];omega
 .simp[hs];refine cd (sf (a:=z.natAbs) (b:=w.natAbs) aa aa) ?_;simp;by_cases hlt:z.natAbs<w.natAbs
  .have hc:Big.cmp z.natAbs w.natAbs<0:=by rw[J6 hlt];decide
   refine gL (l:=[B (decide (w<0)),S (ah w.natAbs),S (ah z.natAbs)]) (h:=[]) (λq=>by simp[hc]) ?_;simp;refine cd (xG (a:=w.natAbs) (b:=z.natAbs) aa aa) ?_;simp;refine cd (gW (decide (w<0)) (n:=w.natAbs-z.natAbs) (Y6 (eV (Nat.sub_le ..)) aa)) ?_;refine gk ?_;congr 1;unfold sg;by_cases h:w<0
   .simp[h];omega
   .simp[h];omega
  ·have hc:¬Big.cmp z.natAbs w.natAbs<0:=by
    rcases Nat.eq_or_lt_of_not_lt hlt with h|h
    .rw[h,cmp_eq];decide
    .rw[J8 h];decide
   refine gL (l:=[B (decide (z<0)),S (ah z.natAbs),S (ah w.natAbs)]) (h:=[]) (λq=>by simp[hc]) ?_;simp;refine cd (xG (a:=z.natAbs) (b:=w.natAbs) aa aa) ?_;simp;refine cd (gW (decide (z<0)) (n:=z.natAbs-w.natAbs) (Y6 (eV (Nat.sub_le ..)) aa)) ?_;refine gk ?_;congr 1;unfold sg;by_cases h:z<0
   .simp[h];omega
   .simp[h];omega
theorem zf{z w:Int}(hz:ndg z.natAbs<999999)(hw:ndg w.natAbs<999999):CP Y F.kR [S (itoa z),S (itoa w)] (S (itoa (z+w))):=by
 refine KE ?_;have l1:=o6 z 18 af;have l2:=o6 w 18 af;have tl:=ZQ hz hw;simp[kR];refine cd l1 ?_;by_cases h1:sdg z<=18
 .rw[if_pos h1];simp;by_cases h2:sdg w<=18
  .rw[if_pos h2]at l2;refine aH ?_;simp;refine cd l2 ?_;have b1:=rN h1;have b2:=rN h2;simp only[Nat.reducePow]at b1 b2;obtain⟨m,hm⟩:=mnQ (z+w);rw[hm];simp(disch:=try exact ae)[hm];refine cd (kY (z:=m) aa aa) ?_;exact gk rfl
  .rw[if_neg h2]at l2;refine aH ?_;simp;refine cd l2 ?_;simp;simpa using tl
 .rw[if_neg h1];simp;refine aH ?_;simp;simpa using tl
theorem pF{z w:Int}(hz:ndg z.natAbs<400000)(hw:ndg w.natAbs<400000):CP Y F.bL [S (itoa z),S (itoa w)] (S (itoa (z*w))):=by
 refine KB ?_;have l1:=o6 z 9 af;have l2:=o6 w 9 af;have dm:=Ii (a:=z.natAbs) (b:=w.natAbs) aa aa
 have hk:ndg (z.natAbs*w.natAbs)<1000000:=by
  have h1:=cF z.natAbs;have h2:=cF w.natAbs;have h3:z.natAbs*w.natAbs<10^(ndg z.natAbs+ndg w.natAbs):=by rw[X9];exact Ym h1 h2
  have:=gG h3 (by have:=lW z.natAbs;omega);omega
 have e:sg (decide (z<0) !=decide (w<0)) (z.natAbs*w.natAbs)=z*w:=by
  unfold sg;by_cases h1:z<0<;>by_cases h2:w<0
  .simp[h1,h2];rw[Xl aa,Xl aa,Int.neg_mul_neg]
  .simp[h1,h2];rw[Xl aa,Xf aa,Int.neg_mul,Wd]
  .simp[h1,h2];rw[Xf aa,Xl aa,Int.mul_neg,Wd]
  .simp[h1,h2];rw[Xf aa,Xf aa]
 have eb:biB .neq (B (decide (z<0))) (B (decide (w<0)))=some (B (decide (z<0) !=decide (w<0))):=rfl;have jo:=gW (decide (z<0) !=decide (w<0)) hk;rw[e]at jo
 have tail:∀u:Unit,cal (CX Y).p [] (.fn F.aO [] []) [S (itoa z)] λv6 h=>
  ext v6 0 λv7=>
  ext v6 1 λv8=>
  cal (CX Y).p h (.fn F.aO [] []) [S (itoa w)] λv9 h=>
  ext v9 0 λv10=>
  ext v9 1 λv11=>
  bnd (biB .neq v7 v10) λv12=>
  cal (CX Y).p h (.fn F.j8 [] []) [v8,v11] λv13 h=>
  cal (CX Y).p h (.fn F.cx [] []) [v12,v13] λv14 h=>
  out (S (itoa (z*w))) v14 h:=by
  intro _;simp;refine cd (pj z) ?_;simp;refine cd (pj w) ?_;simp[eb];refine cd dm ?_;simp;refine cd jo ?_;exact gk rfl
 simp[bL];refine cd l1 ?_;by_cases h1:sdg z<=9
 .rw[if_pos h1];simp;by_cases h2:sdg w<=9
  .rw[if_pos h2]at l2;refine aH ?_;simp;refine cd l2 ?_;have b1:=rN h1;have b2:=rN h2
   have hmb:(z*w).natAbs<1000000000000000000:=by
    rw[Zf];exact Ym b1 b2
   obtain⟨m,hm⟩:=mnQ (z*w);rw[hm]at hmb ⊢;simp(disch:=try exact ae)[hm];refine cd (kY (z:=m) aa aa) ?_;exact gk rfl
  .rw[if_neg h2]at l2;refine aH ?_;simp;refine cd l2 ?_;simp;simpa using tail ()
 .rw[if_neg h1];simp;refine aH ?_;simp;simpa using tail ()
theorem j5(n:Nat):itoa (n:Int)=ah n:=by rfl
theorem aas(n:Nat):sgn (n:Int)=if n=0 then 0 else 1:=by
 unfold sgn;by_cases h:n=0
 .simp[h]
 .rw[if_neg aa,if_neg aa,if_neg h]
theorem Lj(n:Nat):CP Y F.dN [S (ah n)] (I (if n=0 then 0 else 1)):=by
 have:=qJ (n:Int)
 grind[j5,aas]
theorem Tt{b:Nat}(ha:ndg a<1000000)(hb:ndg b<1000000):CP Y F.fJ [S (ah a),S (ah b)] (I (Big.cmp a b)):=by
 refine vC ?_;have s1:=Lj a;have s2:=Lj b;simp[fJ];by_cases h1:a=0
 .rw[if_pos h1]at s1;by_cases h2:b=0
  .rw[if_pos h2]at s2;refine cd s1 ?_;simp;refine cd s2 ?_;simp;refine cd (uf a) ?_;simp;refine cd (uf b) ?_;simp;refine gL (l:=[S (ah a),S (ah b)]) (h:=[]) (λq=>by simp) ?_;simp;refine cd (sf ha hb) ?_;simp
  .rw[if_neg h2]at s2;refine cd s1 ?_;simp;refine cd s2 ?_;simp;exact aY (J6 aa).symm
 .rw[if_neg h1]at s1;by_cases h2:b=0
  .rw[if_pos h2]at s2;refine cd s1 ?_;simp;refine cd s2 ?_;simp;exact aY (J8 aa).symm
  .rw[if_neg h2]at s2;refine cd s1 ?_;simp;refine cd s2 ?_;simp;refine cd (uf a) ?_;simp;refine cd (uf b) ?_;simp;refine gL (l:=[S (ah a),S (ah b)]) (h:=[]) (λq=>by simp) ?_;simp;refine cd (sf ha hb) ?_;simp
theorem vr{b:Nat}(hb:0<b):(-(a:Int))/(b:Int)=(if a%b=0 then -((a/b:Nat):Int)else -((a/b+1:Nat):Int))∧(-(a:Int))%(b:Int)=(if a%b=0 then 0 else((b-a%b:Nat):Int)):=by
 have h1:=W6 a b;have h2:=Yz a hb;have hbz:(b:Int)>0:=aa;generalize a%b=r at *;generalize a/b=q at *;by_cases h:r=0
 .subst h;simp only[if_true]
  have e:(-(a:Int))=(b:Int)*(-(q:Int)):=by
   rw[Int.mul_neg,<-Int.natCast_mul];congr 1;omega
  rw[e];exact⟨Int.mul_ediv_cancel_left _ aa,Int.mul_emod_right _ _⟩
 .simp only[if_neg h]
  have e:(-(a:Int))=((b-r:Nat):Int)+(b:Int)*(-((q+1:Nat):Int)):=by
   have:(a:Int)=(b:Int)*q+r:=by rw[<-Int.natCast_mul];omega
   rw[this,Int.mul_neg,Int.natCast_add,Int.mul_add];have:((b-r:Nat):Int)=(b:Int)-r:=aa;omega
  have l1:(0:Int)<=((b-r:Nat):Int):=aa;have l2:((b-r:Nat):Int)<(b:Int):=aa;rw[e];constructor
  .rw[Int.add_mul_ediv_left _ _ aa,Int.ediv_eq_zero_of_lt l1 l2,Int.zero_add]
  .rw[Int.add_mul_emod_self_left,Int.emod_eq_of_lt l1 l2]
theorem Dy:ndg 1=1:=aJ
theorem oQ{a b a' b':LuQ}{c:Int}{h:Hp}(e1:a'=a)(e2:b'=b):out (.tup [S a,S b,I c]) (.tup [S a',S b',I c]) h:=by simp_all[jt]
theorem abz{z:Int}{b:Nat}(hb:0<b)(hz:ndg z.natAbs<900000)(hbd:ndg b<900000):
   cal (CX Y).p [] (.fn F.aO [] []) [S (itoa z)] λv7 h=>
   ext v7 0 λv8=>
   ext v7 1 λv9=>
   cal (CX Y).p h (.fn F.aO [] []) [S (ah b)] λv10 h=>
   ext v10 0 λv11=>
   ext v10 1 λv12=>
   cal (CX Y).p h (.fn F.dW [] []) [v9,v12] λv13 h=>
   ext v13 0 λv14=>
   ext v13 1 λv15=>
   ext v13 2 λv16=>
   bnd (biI .neq v16 (.d (.int .i64 0))) λv17=>
   cnd v17 (
    out (.tup [S (itoa (z/b)),S (itoa (z%b)),I 0]) (.tup [(.d (.str [])),(.d (.str [])),v16]) h) (
    bnd (biB .neq v8 v11) λv18=>
    gd v18 true h (λq=>q v15 h) λv19 h=>
    gd v18 true h (λq=>bnd (biS .neq v19 (.d (.str [48]))) λv=>q v h) λv20 h=>
    bnd (nF v18 v20 (.d (.bool false))) λv21=>
    jn (λl22 h=>
     bnd (biB .neq v8 v11) λv24=>
     cal (CX Y).p h (.fn F.cx [] []) [v24,(ge l22 0)] λv25 h=>
     cal (CX Y).p h (.fn F.cx [] []) [v11,(ge l22 1)] λv26 h=>
     out (.tup [S (itoa (z/b)),S (itoa (z%b)),I 0]) (.tup [v25,v26,(.d (.int .i64 0))]) h) λq23=>
     cnd v21 (
      cal (CX Y).p h (.fn F.gn [] []) [v14,(.d (.str [49]))] λv27 h=>
      cal (CX Y).p h (.fn F.gZ [] []) [v12,v15] λv28 h=>
      ext v28 0 λv29=>
      ext v28 1 λv30=>
      q23 [v27,v29] h) (
      q23 [v14,v15] h)):=by
 have hq:ndg (z.natAbs/b)<=ndg z.natAbs:=eV (Yw ..);have hr:z.natAbs%b<b:=Yz _ hb;have hr2:ndg (z.natAbs%b)<=ndg b:=eV aa
 have eb:biB .neq (B (decide (z<0))) (B false)=some (B (decide (z<0))):=by
  show some (B (decide (z<0) !=false))=_
  rw[Bool.bne_false]
 simp;refine cd (pj z) ?_;simp;refine cd (uf b) ?_;simp;refine cd (xF (a:=z.natAbs) hb aa aa) ?_;by_cases hneg:z<0
 .have ez:z = -(z.natAbs:Int):=aa;obtain⟨d1,d2⟩:=vr (a:=z.natAbs) hb;rw[<-ez]at d1 d2;rw[decide_eq_true hneg]at eb ⊢;by_cases h0:z.natAbs%b=0
  .rw[if_pos h0]at d1 d2;rw[h0,eO];simp[eb];refine gL (l:=[S (ah (z.natAbs/b)),S [48]]) (h:=[]) (λq=>by simp) ?_;simp[eb];refine cd (gW true (n:=z.natAbs/b) aa) ?_;simp;have j0:=gW false (n:=0) (by grind);rw[eO]at j0;refine cd j0 ?_;refine oQ ?_ ?_
   .rw[d1];rfl
   .rw[d2];rfl
  .rw[if_neg h0]at d1 d2;have h48:¬ah (z.natAbs%b)=[48]:=λh=>h0 (kt.1 h)
   have ad:=yY (a:=z.natAbs/b) (b:=1) aa (by simp[Dy]);rw[show ah 1=[49] by decide+kernel]at ad;simp[eb,h48];refine aH ?_;simp[h48];refine cd ad ?_;simp;refine cd (xG (a:=b) (b:=z.natAbs%b) aa aa) ?_;simp[eb];have hq1:ndg (z.natAbs/b+1)<=900000+1:=Dz aa (by simp[Dy])
   refine cd (gW true (n:=z.natAbs/b+1) aa) ?_;simp;refine cd (gW false (n:=b-z.natAbs%b) (Y6 (eV (Nat.sub_le ..)) aa)) ?_;refine oQ ?_ ?_
   .rw[d1];rfl
   .rw[d2];rfl
 .rw[decide_eq_false hneg]at eb ⊢;simp[eb];refine gL (l:=[S (ah (z.natAbs/b)),S (ah (z.natAbs%b))]) (h:=[]) (λq=>by simp) ?_;simp[eb];refine cd (gW false (n:=z.natAbs/b) aa) ?_;simp;refine cd (gW false (n:=z.natAbs%b) aa) ?_;have ez:z=(z.natAbs:Int):=aa;refine oQ ?_ ?_
  .rw[ez,<-Int.natCast_ediv];rfl
  .rw[ez,<-Int.natCast_emod];rfl
theorem yh{z:Int}{b:Nat}(hb:0<b)(hz:ndg z.natAbs<900000)(hbd:ndg b<900000):CP Y F.bM [S (itoa z),S (ah b)] (.tup [S (itoa (z/b)),S (itoa (z%b)),I 0]):=by
 refine wt ?_;have l1:=o6 z 18 af;have l2:=Oi b 18 af;have tl:=abz hb hz hbd;have h48:¬ah b=[48]:=λh=>by grind[kt]
 simp[bM,h48];refine cd l1 ?_;by_cases h1:sdg z<=18
 .rw[if_pos h1];by_cases h2:ndg b<=18
  .rw[if_pos h2]at l2;simp;refine aH ?_;simp;refine cd l2 ?_;have b1:=rN h1;have b2:b<10^18:=Z3 (cF b) (Z0 af h2);simp only[Nat.reducePow]at b1 b2;have hbz:¬(b:Int)=0:=aa;obtain⟨n,hn⟩:=nmQ (z.natAbs);rw[<-hn]at b1;have hq:n/b<=n:=Yw ..;have hr:n%b<b:=Yz _ hb;by_cases hneg:z<0
   .have ez:z = -(n:Int):=aa;obtain⟨d1,d2⟩:=vr (a:=n) hb;rw[<-ez]at d1 d2;have q1:z.tdiv (b:Int) = -((n/b:Nat):Int):=by rw[ez,Int.neg_tdiv,Zt aa,<-Int.natCast_ediv]
    have q2:z.tmod (b:Int) = -((n%b:Nat):Int):=by rw[ez,Int.neg_tmod,Zv aa,<-Int.natCast_emod]
    obtain⟨q,hqq⟩:=nmQ (n/b);obtain⟨r,hrr⟩:=nmQ (n%b);rw[<-hqq]at q1 d1 hq;rw[<-hrr]at q2 d1 d2 hr;by_cases h0:r=0
    .rw[if_pos h0]at d1 d2;rw[h0]at q2;simp(disch:=try exact ae)[q1,q2];refine gL (l:=[I (-(q:Int)),I 0]) (h:=[]) (λq=>by simp) ?_;simp;refine cd (kY (z:=-(q:Int)) aa aa) ?_;simp;refine cd (kY (z:=0) aa aa) ?_;refine oQ ?_ ?_
     .rw[d1]
     .rw[d2]
    .rw[if_neg h0]at d1 d2;have r0:¬(-(r:Int))=0:=aa;have r1:(-(r:Int))<0:=aa;have r2:¬(b:Int)<0:=aa;have eb:∀x y:Bool,biB .neq (B x) (B y)=some (B (x !=y)):=λ_ _=>rfl
     simp(disch:=try exact ae)[q1,q2,r0,r1,r2,eb];refine gL (l:=[I (-(q:Int)-1),I (-(r:Int)+b)]) (h:=[]) (λq=>by simp(disch:=try exact ae)[r0,r1,r2]) ?_;simp;refine cd (kY (z:=-(q:Int)-1) aa aa) ?_;simp;refine cd (kY (z:=-(r:Int)+b) aa aa) ?_
     grind[oQ]
   .have ez:z=(n:Int):=aa;have q1:z.tdiv (b:Int)=((n/b:Nat):Int):=by rw[ez,Zt aa,<-Int.natCast_ediv]
    have q2:z.tmod (b:Int)=((n%b:Nat):Int):=by rw[ez,Zv aa,<-Int.natCast_emod]
    have d1:z/(b:Int)=((n/b:Nat):Int):=by rw[ez,<-Int.natCast_ediv]
    have d2:z%(b:Int)=((n%b:Nat):Int):=by rw[ez,<-Int.natCast_emod]
    obtain⟨q,hqq⟩:=nmQ (n/b);obtain⟨r,hrr⟩:=nmQ (n%b);rw[<-hqq]at q1 d1 hq;rw[<-hrr]at q2 d2 hr;have r1:¬((r:Int))<0:=aa;have r2:¬(b:Int)<0:=aa;have eb:∀x y:Bool,biB .neq (B x) (B y)=some (B (x !=y)):=λ_ _=>rfl
    have fin:∀h:Hp,cal (CX Y).p h (V.fn F.eu [] []) [I q] λv45 h=>
      cal (CX Y).p h (V.fn F.eu [] []) [I r] λv46 h=>out (V.tup [S (itoa (z/(b:Int))),S (itoa (z%(b:Int))),I 0]) (V.tup [v45,v46,V.d (D.int IntKind.i64 0)]) h:=by
     intro h;simp;refine cd (kY (z:=q) aa aa) ?_;simp;refine cd (kY (z:=r) aa aa) ?_;refine oQ ?_ ?_
     .rw[d1]
     .rw[d2]
    by_cases h0:r=0
    .rw[h0]at q2 fin;simp(disch:=try exact ae)[q1,q2];refine gL (l:=[I q,I 0]) (h:=[]) (λq=>by simp) ?_;exact fin []
    .have r0:¬(r:Int)=0:=aa;simp(disch:=try exact ae)[q1,q2,r0,r1,r2,eb];refine gL (l:=[I q,I r]) (h:=[]) (λq=>by simp[r0,r1,r2]) ?_;exact fin []
  .rw[if_neg h2]at l2;simp;refine aH ?_;simp;refine cd l2 ?_;simp;trivial
 .rw[if_neg h1];simp;refine aH ?_;simp;trivial
theorem SY{b:Nat}(ha0:0<a)(hb0:0<b)(ha:ndg a<400000)(hb:ndg b<400000):CP Y F.pB [S (ah a),S (ah b)] (S (ah (Nat.lcm a b))):=by
 refine G1 ?_;have h1:¬ah a=[48]:=λh=>by have:=kt.1 h;omega
 have h2:¬ah b=[48]:=λh=>by have:=kt.1 h;omega
 have hg:0<Nat.gcd a b:=Nat.gcd_pos_of_pos_left _ ha0;have hgl:Nat.gcd a b<=a:=Nat.gcd_le_left _ ha0;have hq:ndg (a/Nat.gcd a b)<=ndg a:=eV (Yw ..);simp[pB,h1,h2];refine cd (QG aa aa) ?_;simp;refine cd (xF (a:=a) (b:=Nat.gcd a b) hg aa (by have:=eV hgl;omega)) ?_;simp
 refine cd (Ii (a:=a/Nat.gcd a b) (b:=b) aa aa) ?_;refine gk ?_;congr 1;rw[Nat.lcm,Zo,<-Nat.mul_div_assoc _ (Wr a b),Zo]
theorem Rh(n:Nat):CP Y F.gA [S (ah n)] (S (ah n)):=by
 have:=AN (n:Int)
 rwa [j5,Int.natAbs_natCast]at this
theorem aab{b:Nat}(ha0:0<a)(hb0:0<b)(ha:ndg a<400000)(hb:ndg b<400000):CP Y F.qc [S (ah a),S (ah b)] (S (ah (Nat.lcm a b))):=by refine KC ?_;simp[qc];refine cd (Rh a) ?_;simp;refine cd (Rh b) ?_;simp;refine cd (SY ha0 hb0 ha hb) ?_;exact gk rfl
theorem Se{z:Int}(h:z.natAbs<9223372036854775808):CP Y F.fv [S (itoa z),I 10,I 64] (.tup [I z,.d (.pl .nilIface)]):=by
 have key:∀n:Nat,n<9223372036854775808->(ah n)≠[]∧(ah n).all o8=true∧(ah n).length<=1000∧qa 0 (ah n)=n:=by
  intro n hn;have hd:=dS n;have hc:=sW n
  have hl:(ah n).length<=1000:=by
   have:=gG (n:=n) (d:=19) aa af;rw[ah,bj];omega
  simp only[qW,Z7]at hc
  have hall:(ah n).all o8=true:=by
   rw[<-hc.1.2];congr 1;funext c;exact digit_eq c
  exact⟨w8 n,hall,hl,by rw[xC,hd]⟩
 have ho:Y.X.orc F.fv [.string ⟨⟨itoa z⟩⟩,.int .i64 10,.int .i64 64]=some (.tuple #[.int .i64 z,.nilIface]):=by
  have e:∀a,Y.X.orc F.fv a=PV a:=λa=>rfl
  rw[e];obtain⟨k1,k2,k3,k4⟩:=key _ h;unfold PV;simp only;rw[if_pos ⟨trivial,trivial⟩];by_cases hz:z<0
  .have e1:itoa z=45::ah z.natAbs:=by unfold itoa;rw[if_pos hz]
   rw[e1];simp only;rw[if_pos ⟨k1,k2,k3,by rw[k4];exact h⟩,k4,show(-((z.natAbs:Nat):Int))=z by omega]
  .have e1:itoa z=ah z.natAbs:=by unfold itoa;rw[if_neg hz]
   rw[e1];have hh:=sT z.natAbs;have ez:((z.natAbs:Nat):Int)=z:=aa;generalize ah z.natAbs=L at *
   have fin:(if L≠[]∧L.all o8=true∧L.length<=1000∧qa 0 L<9223372036854775808 then some (Value.tuple #[.int .i64 (qa 0 L),.nilIface])else none)=some (Value.tuple #[.int .i64 z,.nilIface]):=by
    rw[if_pos ⟨k1,k2,k3,by rw[k4];exact h⟩,k4,ez]
   split
   .rename_i l hl;exact absurd rfl hh
   .exact fin
 exact CP.orc ho (by intro x hx;simp only[Zw,Yo,or_false]at hx;rcases hx with rfl|rfl|rfl<;>rfl) rfl
theorem Ba{z:Int}(h:z.natAbs<9223372036854775808):CP Y F.lJ [S (itoa z)] (.tup [I z,B true]):=by refine Gt ?_;simp[lJ];refine cd (Se h) ?_;simp[Jn];exact cE rfl rfl
theorem aa0{n:Nat}(h:n<18446744073709551616):CP Y F.mF [.d (.int .u64 n)] (I (cG n)):=by refine CU ?_;simp[mF];refine cd (Mn h) ?_;simp<;>exact aY rfl
theorem og:ah 1=[49]:=aJ
theorem KF{b:Nat}(ha:ndg a<400000)(hb:ndg b<400000):CP Y F.bL [S (ah a),S (ah b)] (S (ah (a*b))):=by have:=pF (z:=(a:Int)) (w:=(b:Int)) (by trivial) (by trivial);trivial
theorem KG{b:Nat}(h0:0<b)(ha:ndg a<900000)(hb:ndg b<900000):CP Y F.bM [S (ah a),S (ah b)] (.tup [S (ah (a/b)),S (ah (a%b)),I 0]):=by grind[yh,j5]
theorem xv{b:Nat}:ndg (a*b)<=ndg a+ndg b:=by
 have h3:a*b<10^(ndg a+ndg b):=by rw[X9];exact Ym (cF a) (cF b)
 exact gG h3 (by grind[lW])
abbrev Q:=Int×Nat
def okQ(x:Q):Prop:=0<x.2∧Nat.gcd x.1.natAbs x.2=1
def qT(x:Q):LwQ:=[S (itoa x.1),S (ah x.2)]
def kG(n:Int)(d:Nat):Q:=(n/(Nat.gcd n.natAbs d:Nat),d/Nat.gcd n.natAbs d)
def fw(a b:Q):Q:=kG (a.1*b.2+b.1*a.2) (a.2*b.2)
def oB(a b:Q):Q:=kG (a.1*b.1) (a.2*b.2)
def mM(a:Q):Q:=(-a.1,a.2)
def de(n d:Int):Q:=if d<0 then kG (-n) d.natAbs else kG n d.natAbs
def rP(a b:Q):Q:=de (a.1*b.2) (a.2*b.1)
theorem YP(h:g∣n.natAbs):(g:Int)∣n:=Int.natAbs_dvd_natAbs.1 (by simpa using h)
theorem zN(n:Int)(hd:0<d):okQ (kG n d):=by
 have hg:0<Nat.gcd n.natAbs d:=Xd _ hd;obtain⟨g,hgg⟩:=nmQ (Nat.gcd n.natAbs d);have h1:g∣n.natAbs:=by rw[hgg];exact Wr ..
 have h2:g∣d:=by rw[hgg];exact Nat.gcd_dvd_right ..
 unfold kG;rw[<-hgg]at hg ⊢;refine⟨Nat.div_pos (We hd h2) hg,?_⟩
 have e:(n/(g:Int)).natAbs=n.natAbs/g:=by
  rw[Int.natAbs_ediv_of_dvd (YP h1),Int.natAbs_natCast]
 simp only[e];rw[Nat.gcd_div h1 h2,<-hgg,Nat.div_self hg]
theorem VL(h:Nat.gcd n.natAbs d=1):kG n d=(n,d):=by unfold kG;rw[h];simp
theorem zO(n:Int)(d:Nat):(kG n d).1.natAbs<=n.natAbs∧(kG n d).2<=d:=by
 obtain⟨g,hgg⟩:=nmQ (Nat.gcd n.natAbs d);have h1:g∣n.natAbs:=by rw[hgg];exact Wr ..
 unfold kG;rw[<-hgg];constructor
 .simp only;rw[Int.natAbs_ediv_of_dvd (YP h1),Int.natAbs_natCast];exact Yw ..
 .exact Yw ..
theorem aaP(k:KL)(h:Hp)(h0:Hp)(hl:h.length=h0.length):∀(m:Nat)(a b:Int),b.natAbs<=m->a.natAbs<9223372036854775807->b.natAbs<9223372036854775807 ->
  (∀c:Int,c.natAbs=Nat.gcd a.natAbs b.natAbs->k (.exit 0) [I c] h)->lp (nK (CX Y)) [] h0 [I a,I b] h k:=by
 intro m
 induction m with
 | zero=>
  intro a b hb ha hb2 hk;have hb0:b=0:=aa;subst hb0;refine aj ?_;simp[nK];exact hk a ac
 | succ m ih=>
  intro a b hb ha hb2 hk;refine aj ?_;by_cases hb0:b=0
  .subst hb0;simp[nK];exact hk a ac
  ·have hr:(a.tmod b).natAbs<b.natAbs:=by
    rw[Int.natAbs_tmod];exact Yz _ aa
   have e:Nat.gcd b.natAbs (a.tmod b).natAbs=Nat.gcd a.natAbs b.natAbs:=by
    rw[Int.natAbs_tmod,Wh,<-Nat.gcd_rec,Wh]
   simp[nK,hb0,hl];exact ih b (a.tmod b) aa aa aa (λc hc=>hk c (hc.trans e))
theorem mf{a b a' b':LuQ}{h:Hp}(e1:a'=a)(e2:b'=b):out (.agg [S a,S b]) (.agg [S a',S b']) h:=by subst e1;subst e2;exact⟨h,by simp[cO,aT,norm]⟩
theorem QH(hd:0<d)(hn:n.natAbs<9223372036854775807)(hd2:d<9223372036854775807):CP Y F.jb [I n,I d] (.agg (qT (kG n d))):=by
 refine GQ ?_;obtain⟨g,hgg⟩:=nmQ (Nat.gcd n.natAbs d);have hg:0<g:=by rw[hgg];exact Xd _ hd
 have h1:g∣n.natAbs:=by rw[hgg];exact Wr ..
 have h2:g∣d:=by rw[hgg];exact Nat.gcd_dvd_right ..
 have hgd:g<=d:=We hd h2;have e1:n.tdiv (g:Int)=n/(g:Int):=Int.tdiv_eq_ediv_of_dvd (YP h1);have e2:(d:Int).tdiv (g:Int)=((d/g:Nat):Int):=by rw[Zt aa,<-Int.natCast_ediv]
 have e3:(n/(g:Int)).natAbs<=n.natAbs:=by
  rw[Int.natAbs_ediv_of_dvd (YP h1),Int.natAbs_natCast];exact Yw ..
 have e4:d/g<=d:=Yw ..;have eq:qT (kG n d)=[S (itoa (n/(g:Int))),S (ah (d/g))]:=by unfold qT kG;rw[<-hgg]
 rw[eq];generalize n/(g:Int)=nq at *;generalize d/g=dq at *;have i1:=DN (z:=nq) aa aa;have i2:=DN (z:=(dq:Int)) aa aa;rw[j5]at i2;have hg0:¬(g:Int)=0:=aa;simp[jb];refine lo (aaP _ _ _ rfl (d:Int).natAbs n d (Z8 _) hn aa (λc hc=>?_));rw[Int.natAbs_natCast,<-hgg]at hc;simp
 have tail:∀u:Unit,bnd (biI .quo (I n) (I g)) λv6=>
   cal (CX Y).p [(1,.vars [.d (.str []),.d (.str [])])] (.fn F.strconv_Itoa [] []) [v6] λv7 h=>
   bnd (biI .quo (I d) (I g)) λv8=>
   cal (CX Y).p h (.fn F.strconv_Itoa [] []) [v8] λv9 h=>
   bnd (bld [(0,1),(1,1)] [.str [],.str []] [(0,v7),(1,v9)]) λv10=>
   stD h 2 (.ptr 0 1 0 2) v10 λ_ h=>
   bnd (ldA h 2 (.ptr 0 1 0 2)) λv12=>
   out (.agg [S (itoa nq),S (ah dq)]) v12 h:=by
  intro _;simp(disch:=try exact ae)[e1,e2,hg0];refine cd i1 ?_;simp(disch:=try exact ae)[e2,hg0];refine cd i2 ?_;simp;exact mf rfl rfl
 by_cases hc0:c<0
 .have hcg : -c=(g:Int):=aa;refine gL (l:=[I g]) (h:=[(1,.vars [.d (.str []),.d (.str [])])]) (λq=>by simp(disch:=try exact ae)[hc0,hcg]) ?_;exact tail ()
 .have hcg:c=(g:Int):=aa;subst hcg;refine gL (l:=[I g]) (h:=[(1,.vars [.d (.str []),.d (.str [])])]) (λq=>by simp[hc0]) ?_;exact tail ()
def qL(K:Nat)(x:Q):Prop:=ndg x.1.natAbs<=K∧ndg x.2<=K
theorem JA{K:Nat}(h1:ndg n.natAbs<=K)(h2:ndg d<=K):qL K (kG n d):=
 ⟨Zy (eV (zO n d).1) h1,Zy (eV (zO n d).2) h2⟩
theorem qL.mono{K L:Nat}{x:Q}(h:qL K x)(hl:K<=L):qL L x:=⟨Zy h.1 hl,Zy h.2 hl⟩
theorem Cs{z w:Int}{k:Nat}(hz:ndg z.natAbs<=k)(hw:ndg w.natAbs<=k):ndg (z+w).natAbs<=k+1:=
 Zy (eV (Xe z w)) (Dz hz hw)
theorem gV{z w:Int}:ndg (z*w).natAbs<=ndg z.natAbs+ndg w.natAbs:=by rw[Zf];exact xv
theorem N0{a b:Q}{K L:Nat}(ha:qL K a)(hb:qL L b):qL (K+L+1) (fw a b):=by
 refine JA (Cs ?_ ?_) ?_
 .have:=gV (z:=a.1) (w:=(b.2:Int));rw[Int.natAbs_natCast]at this;have:=ha.1;have:=hb.2;omega
 .have:=gV (z:=b.1) (w:=(a.2:Int));rw[Int.natAbs_natCast]at this;have:=hb.1;have:=ha.2;omega
 .have:=xv (a:=a.2) (b:=b.2);have:=ha.2;have:=hb.2;omega
theorem NZ{a b:Q}{K L:Nat}(ha:qL K a)(hb:qL L b):qL (K+L) (oB a b):=by
 refine JA ?_ ?_
 .have:=gV (z:=a.1) (w:=b.1);have:=ha.1;have:=hb.1;omega
 .have:=xv (a:=a.2) (b:=b.2);have:=ha.2;have:=hb.2;omega
theorem Je{a b:Q}(ha:okQ a)(hb:okQ b):okQ (fw a b):=zN _ (Xy ha.1 hb.1)
theorem Jd{a b:Q}(ha:okQ a)(hb:okQ b):okQ (oB a b):=zN _ (Xy ha.1 hb.1)
theorem Tq{z w:Int}(hw0:0<w)(hz:ndg z.natAbs<900000)(hw:ndg w.natAbs<900000):CP Y F.bM [S (itoa z),S (itoa w)] (.tup [S (itoa (z/w)),S (itoa (z%w)),I 0]):=by obtain⟨m,rfl⟩:∃m:Nat,w=m:=⟨w.toNat,aa⟩;rw[j5];exact yh aa hz (by simpa using hw)
theorem BA{d:Int}(hd:d≠0)(hn:ndg n.natAbs<800000)(hd2:ndg d.natAbs<800000):CP Y F.bv [S (itoa n),S (itoa d)] (.agg (qT (de n d))):=by
 refine Ai ?_;have sg0:=qJ d
 have tail:∀(n:Int)(d:Nat),0<d->ndg n.natAbs<800000->ndg d<800000 ->
   cal (CX Y).p [(1,.vars [.d (.str []),.d (.str [])])] (.fn F.pd [] []) [S (itoa n),S (ah d)] λv6 h=>
  bnd (biS .neq v6 (.d (.str [49]))) λv7=>
  jn (λl8 h=>
   bnd (bld [(0,1),(1,1)] [.str [],.str []] [(0,(ge l8 0)),(1,(ge l8 1))]) λv10=>
   stD h 2 (.ptr 0 1 0 2) v10 λ_ h=>
   bnd (ldA h 2 (.ptr 0 1 0 2)) λv12=>
   out (.agg (qT (kG n d))) v12 h) λq9=>
   cnd v7 (
    cal (CX Y).p h (.fn F.bM [] []) [S (itoa n),v6] λv13 h=>
    ext v13 0 λv14=>
    ext v13 1 λv15=>
    ext v13 2 λv16=>
    cal (CX Y).p h (.fn F.bM [] []) [S (ah d),v6] λv17 h=>
    ext v17 0 λv18=>
    ext v17 1 λv19=>
    ext v17 2 λv20=>
    q9 [v14,v18] h) (
    q9 [S (itoa n),S (ah d)] h):=by
  intro n d hd hn hd2;have gc:=QF (z:=n) (w:=(d:Int)) aa (by simpa using Nat.lt_trans hd2 af);rw[j5,Int.natAbs_natCast]at gc;obtain⟨g,hgg⟩:=nmQ (Nat.gcd n.natAbs d);have hg:0<g:=by rw[hgg];exact Xd _ hd
  have hgd:g<=d:=We hd (by rw[hgg];exact Nat.gcd_dvd_right ..);have eq:kG n d=(n/(g:Int),d/g):=by unfold kG;rw[<-hgg]
  rw[<-hgg]at gc;rw[eq];have ng:ndg g<900000:=Y6 (eV hgd) aa;have d1:=yh (z:=n) hg aa ng;have d2:=KG (a:=d) hg aa ng;simp;refine cd gc ?_;by_cases h1:g=1
  .subst h1;rw[og];simp;refine gL (l:=[S (itoa n),S (ah d)]) (h:=[(1,.vars [.d (.str []),.d (.str [])])]) (λq=>by simp) ?_;simp;refine mf ac ac
  .have h49:¬ah g=[49]:=λh=>h1 (py (h.trans og.symm))
   simp[h49];refine aH ?_;simp[h49];refine cd d1 ?_;simp;refine cd d2 ?_;simp;exact mf rfl rfl
 simp[bv];refine cd sg0 ?_;by_cases hneg:d<0
 .have s1:sgn d = -1:=by unfold sgn;rw[if_neg hd,if_pos hneg]
  rw[s1];have hd3:ndg (-d).natAbs<800000:=by rw[X0];exact hd2
  have n1:=zJ (z:=n) aa;have n2:=zJ (z:=d) aa;have e:de n d=kG (-n) d.natAbs:=if_pos hneg;have ed:itoa (-d)=ah d.natAbs:=by rw[show -d=((d.natAbs:Nat):Int) by omega,j5]
  rw[e];rw[ed]at n2;simp;refine aH ?_;simp;refine cd n1 ?_;simp;refine cd n2 ?_;have:=tail (-n) d.natAbs aa (by rw[X0];exact hn) hd2;simpa using this
 .have s1:sgn d=1:=by unfold sgn;rw[if_neg hd,if_neg hneg]
  rw[s1];have e:de n d=kG n d.natAbs:=if_neg hneg;have ed:itoa d=ah d.natAbs:=by conv=>lhs;rw[show d=((d.natAbs:Nat):Int) by omega,j5]
  rw[e,ed];simp;refine aH ?_;simp;have:=tail n d.natAbs aa hn hd2;simpa using this
theorem uG(a:Q):CP Y F.dj [.agg (qT a)] (.tup [I (if sdg a.1<=9 then a.1 else 0),I (if ndg a.2<=9 then a.2 else 0),B (decide (sdg a.1<=9)&&decide (ndg a.2<=9))]):=by
 refine Da ?_;have l1:=Fv a.1;have l2:=Fv (a.2:Int);have e:sdg (a.2:Int)=ndg a.2:=by unfold sdg;rw[if_neg aa,Int.natAbs_natCast];rfl
 rw[j5,e]at l2;simp[dj,qT];refine cd l1 ?_;by_cases h1:sdg a.1<=9
 .rw[if_pos h1,if_pos h1,decide_eq_true h1];simp;refine cd l2 ?_;by_cases h2:ndg a.2<=9
  .rw[if_pos h2,if_pos h2,decide_eq_true h2];simp;exact jt rfl rfl rfl
  .rw[if_neg h2,if_neg h2,decide_eq_false h2];simp;exact jt rfl rfl rfl
 .rw[if_neg h1,if_neg h1,decide_eq_false h1];simp;refine cd l2 ?_;by_cases h2:ndg a.2<=9
  .rw[if_pos h2,if_pos h2,decide_eq_true h2];simp;exact jt rfl rfl rfl
  .rw[if_neg h2,if_neg h2,decide_eq_false h2];simp;exact jt rfl rfl rfl
theorem Jz(n:Int)(hd:0<d):(kG n d).1*(d:Int)=n*((kG n d).2:Int)∧0<(kG n d).2:=by
 obtain⟨g,hg⟩:=nmQ (Nat.gcd n.natAbs d);have hg0:0<g:=by rw[hg];exact Xd _ hd
 obtain⟨d',hd'⟩:g∣d:=by rw[hg];exact Nat.gcd_dvd_right ..
 obtain⟨n',hn'⟩:(g:Int)∣n:=YP (by rw[hg];exact Wr ..)
 have e1:(kG n d).1=n':=by
  simp only[kG,<-hg];rw[hn'];exact Int.mul_ediv_cancel_left _ aa
 have e2:(kG n d).2=d':=by
  simp only[kG,<-hg];rw[hd'];exact Nat.mul_div_cancel_left _ hg0
 rw[e1,e2];refine⟨?_,?_⟩
 .rw[hn',hd',Int.natCast_mul,<-Int.mul_assoc,W7 n' g]
 .rcases Zc d' with h|h
  .rw[h]at hd';omega
  .exact h
theorem Qm(hd:0<d)(hn:ndg n.natAbs<800000)(hd2:ndg d<800000):CP Y F.bv [S (itoa n),S (ah d)] (.agg (qT (kG n d))):=by have:=BA (n:=n) (d:=(d:Int)) aa hn (by trivial);trivial
theorem AT{z:Int}{b:Nat}(hz:ndg z.natAbs<400000)(hb:ndg b<400000):CP Y F.bL [S (itoa z),S (ah b)] (S (itoa (z*b))):=by grind[pF,j5]
theorem Ev(h:Hp)(s t:LuQ):aT h [.agg [S s,S t]]=some ([.agg [S s,S t]],h):=by rfl
theorem IT{a:Q}(h1:sdg a.1<=9)(h2:ndg a.2<=9):a.1.natAbs<1000000000∧a.2<1000000000:=
 ⟨rN h1,Z3 (cF _) (Z0 af h2)⟩
theorem MF{a b:Q}(ha:okQ a)(hb:okQ b)(la:qL 100000 a)(lb:qL 100000 b):CP Y F.j7 [.agg (qT a),.agg (qT b)] (.agg (qT (oB a b))):=by
 refine FU ?_;obtain⟨la1,la2⟩:=la;obtain⟨lb1,lb2⟩:=lb;have b1:=uG a;have b2:=uG b;have m1:=pF (z:=a.1) (w:=b.1) aa aa;have m2:=KF (a:=a.2) (b:=b.2) aa aa;have n1:=gV (z:=a.1) (w:=b.1);have n2:=xv (a:=a.2) (b:=b.2);have hd:0<a.2*b.2:=Xy ha.1 hb.1
 have lw:CP Y F.bv [S (itoa (a.1*b.1)),S (ah (a.2*b.2))] (.agg (qT (oB a b))):=Qm (n:=a.1*b.1) hd aa aa;have ff:(a.1*b.1).natAbs<9223372036854775807->a.2*b.2<9223372036854775807->CP Y F.jb [I (a.1*b.1),I (a.2*b.2:Nat)] (.agg (qT (oB a b))):=λh1 h2=>QH hd h1 h2
 obtain⟨x,y,hxy⟩:∃x y,qT (oB a b)=[S x,S y]:=⟨_,_,rfl⟩;rw[hxy]at lw ff ⊢;simp only[qT]at b1 b2 ⊢
 have tail:∀u:Unit,cal (CX Y).p [(1,.vars [S (itoa a.1),S (ah a.2)]),(1,.vars [S (itoa b.1),S (ah b.2)]),(1,.vars [.d (.str []),.d (.str [])])] (.fn F.bL [] []) [S (itoa a.1),S (itoa b.1)] λv15 h=>
  bnd (faV 1 (.ptr 0 1 0 2)) λv16=>
  bnd (ld1 h v16) λv17=>
  bnd (faV 1 (.ptr 1 1 0 2)) λv18=>
  bnd (ld1 h v18) λv19=>
  cal (CX Y).p h (.fn F.bL [] []) [v17,v19] λv20 h=>
  cal (CX Y).p h (.fn F.bv [] []) [v15,v20] λv21 h=>
  stD h 2 (.ptr 2 1 0 2) v21 λ_ h=>
  bnd (ldA h 2 (.ptr 2 1 0 2)) λv23=>
  out (.agg [S x,S y]) v23 h:=by
  intro _;simp;refine cd m1 ?_;simp;refine cd m2 ?_;simp;refine cd lw ?_;simp;exact mf rfl rfl
 simp[j7];refine cd b1 ?_ (Ev ..);cases g1:decide (sdg a.1<=9)&&decide (ndg a.2<=9)with
 | false=>
  simp;refine aH ?_;simp
  simp_all
 | true=>
  simp only[Z7,decide_eq_true_eq]at g1;obtain⟨s1,s2⟩:=IT g1.1 g1.2;rw[if_pos g1.1,if_pos g1.2];simp;refine aH ?_;simp;refine cd b2 ?_ (Ev ..);cases g2:decide (sdg b.1<=9)&&decide (ndg b.2<=9)with
  | false=>
   simp
   simp_all
  | true=>
   simp only[Z7,decide_eq_true_eq]at g2;obtain⟨s3,s4⟩:=IT g2.1 g2.2;rw[if_pos g2.1,if_pos g2.2];have p1:(a.1*b.1).natAbs<1000000000*1000000000:=by rw[Zf];exact Ym s1 s3
   have p2:a.2*b.2<1000000000*1000000000:=Ym s2 s4;have e2:(a.2:Int)*(b.2:Int)=((a.2*b.2:Nat):Int):=ac;have ff:=ff aa aa;obtain⟨N,hN⟩:=mnQ (a.1*b.1);rw[hN]at p1 ff;generalize a.2*b.2=D at *;simp(disch:=try exact ae)[e2,hN];refine cd ff ?_;simp;simp[mf]
theorem F6{a b:Q}(ha:okQ a)(hb:okQ b)(la:qL 100000 a)(lb:qL 100000 b):CP Y F.fh [.agg (qT a),.agg (qT b)] (.agg (qT (fw a b))):=by
 refine FX ?_;obtain⟨la1,la2⟩:=la;obtain⟨lb1,lb2⟩:=lb;have b1:=uG a;have b2:=uG b;have m1:=AT (z:=a.1) (b:=b.2) aa aa;have m2:=AT (z:=b.1) (b:=a.2) aa aa;have m3:=KF (a:=a.2) (b:=b.2) aa aa;have n1:=gV (z:=a.1) (w:=(b.2:Int));have n2:=gV (z:=b.1) (w:=(a.2:Int))
 have n3:=xv (a:=a.2) (b:=b.2);rw[Int.natAbs_natCast]at n1 n2;have n4:ndg (a.1*b.2+b.1*a.2).natAbs<=200000+1:=Cs aa aa;have ad:=zf (z:=a.1*b.2) (w:=b.1*a.2) aa aa;have hd:0<a.2*b.2:=Xy ha.1 hb.1
 have lw:CP Y F.bv [S (itoa (a.1*b.2+b.1*a.2)),S (ah (a.2*b.2))] (.agg (qT (fw a b))):=Qm hd aa aa;have ff:(a.1*b.2+b.1*a.2).natAbs<9223372036854775807->a.2*b.2<9223372036854775807->CP Y F.jb [I (a.1*b.2+b.1*a.2),I (a.2*b.2:Nat)] (.agg (qT (fw a b))):=λh1 h2=>QH hd h1 h2
 by_cases one:a.2=1∧b.2=1
 .have ad1:=zf (z:=a.1) (w:=b.1) aa aa
  have eq:fw a b=(a.1+b.1,1):=by
   unfold fw;rw[one.1,one.2];rw[VL ac];simp
  rw[eq];have t1:qT a=[S (itoa a.1),S [49]]:=by unfold qT;rw[one.1,og]
  have t2:qT b=[S (itoa b.1),S [49]]:=by unfold qT;rw[one.2,og]
  have t3:qT (a.1+b.1,1)=[S (itoa (a.1+b.1)),S [49]]:=by unfold qT;rw[og]
  rw[t1,t2,t3];simp[fh];refine cd ad1 ?_;simp;simp[mf]
 obtain⟨x,y,hxy⟩:∃x y,qT (fw a b)=[S x,S y]:=⟨_,_,rfl⟩;rw[hxy]at lw ff ⊢;simp only[qT]at b1 b2 ⊢
 have tail:∀u:Unit,cal (CX Y).p [(1,.vars [S (itoa a.1),S (ah a.2)]),(1,.vars [S (itoa b.1),S (ah b.2)]),(1,.vars [.d (.str []),.d (.str [])])] (.fn F.bL [] []) [S (itoa a.1),S (ah b.2)] λv30 h=>
   bnd (faV 0 (.ptr 1 1 0 2)) λv31=>
   bnd (ld1 h v31) λv32=>
   bnd (faV 1 (.ptr 0 1 0 2)) λv33=>
   bnd (ld1 h v33) λv34=>
   cal (CX Y).p h (.fn F.bL [] []) [v32,v34] λv35 h=>
   cal (CX Y).p h (.fn F.kR [] []) [v30,v35] λv36 h=>
   bnd (faV 1 (.ptr 0 1 0 2)) λv37=>
   bnd (ld1 h v37) λv38=>
   bnd (faV 1 (.ptr 1 1 0 2)) λv39=>
   bnd (ld1 h v39) λv40=>
   cal (CX Y).p h (.fn F.bL [] []) [v38,v40] λv41 h=>
   cal (CX Y).p h (.fn F.bv [] []) [v36,v41] λv42 h=>
   stD h 2 (.ptr 2 1 0 2) v42 λ_ h=>
   bnd (ldA h 2 (.ptr 2 1 0 2)) λv44=>
   out (.agg [S x,S y]) v44 h:=by
  intro _;simp;refine cd m1 ?_;simp;refine cd m2 ?_;simp;refine cd ad ?_;simp;refine cd m3 ?_;simp;refine cd lw ?_;simp;exact mf rfl rfl
 have hne:¬(ah a.2=[49]∧ah b.2=[49]):=λh=>one ⟨py (h.1.trans og.symm),py (h.2.trans og.symm)⟩
 have walk:∀u:Unit,bnd (ldA [(1,.vars [S (itoa a.1),S (ah a.2)]),(1,.vars [S (itoa b.1),S (ah b.2)]),(1,.vars [.d (.str []),.d (.str [])])] 2 (.ptr 0 1 0 2)) λv19=>
  cal (CX Y).p [(1,.vars [S (itoa a.1),S (ah a.2)]),(1,.vars [S (itoa b.1),S (ah b.2)]),(1,.vars [.d (.str []),.d (.str [])])] (.fn F.dj [] []) [v19] λv20 h=>
  ext v20 0 λv21=>
  ext v20 1 λv22=>
  ext v20 2 λv23=>
  jn (λl24 h=>
   bnd (faV 0 (.ptr 0 1 0 2)) λv26=>
   bnd (ld1 h v26) λv27=>
   bnd (faV 1 (.ptr 1 1 0 2)) λv28=>
   bnd (ld1 h v28) λv29=>
   cal (CX Y).p h (.fn F.bL [] []) [v27,v29] λv30 h=>
   bnd (faV 0 (.ptr 1 1 0 2)) λv31=>
   bnd (ld1 h v31) λv32=>
   bnd (faV 1 (.ptr 0 1 0 2)) λv33=>
   bnd (ld1 h v33) λv34=>
   cal (CX Y).p h (.fn F.bL [] []) [v32,v34] λv35 h=>
   cal (CX Y).p h (.fn F.kR [] []) [v30,v35] λv36 h=>
   bnd (faV 1 (.ptr 0 1 0 2)) λv37=>
   bnd (ld1 h v37) λv38=>
   bnd (faV 1 (.ptr 1 1 0 2)) λv39=>
   bnd (ld1 h v39) λv40=>
   cal (CX Y).p h (.fn F.bL [] []) [v38,v40] λv41 h=>
   cal (CX Y).p h (.fn F.bv [] []) [v36,v41] λv42 h=>
   stD h 2 (.ptr 2 1 0 2) v42 λ_ h=>
   bnd (ldA h 2 (.ptr 2 1 0 2)) λv44=>
   out (.agg [S x,S y]) v44 h) λq25=>
   cnd v23 (
    bnd (ldA h 2 (.ptr 1 1 0 2)) λv45=>
    cal (CX Y).p h (.fn F.dj [] []) [v45] λv46 h=>
    ext v46 0 λv47=>
    ext v46 1 λv48=>
    ext v46 2 λv49=>
    cnd v49 (
     bnd (biI .mul v21 v48) λv50=>
     bnd (biI .mul v47 v22) λv51=>
     bnd (biI .add v50 v51) λv52=>
     bnd (biI .mul v22 v48) λv53=>
     cal (CX Y).p h (.fn F.jb [] []) [v52,v53] λv54 h=>
     stD h 2 (.ptr 2 1 0 2) v54 λ_ h=>
     bnd (ldA h 2 (.ptr 2 1 0 2)) λv56=>
     out (.agg [S x,S y]) v56 h) (
     q25 [] h)) (
    q25 [] h):=by
  intro _;simp;refine cd b1 ?_ (Ev ..);cases g1:decide (sdg a.1<=9)&&decide (ndg a.2<=9)with
  | false=>
   simp;refine aH ?_;simp
   simp_all
  | true=>
   simp only[Z7,decide_eq_true_eq]at g1;obtain⟨s1,s2⟩:=IT g1.1 g1.2;rw[if_pos g1.1,if_pos g1.2];simp;refine aH ?_;simp;refine cd b2 ?_ (Ev ..);cases g2:decide (sdg b.1<=9)&&decide (ndg b.2<=9)with
   | false=>
    simp
    simp_all
   | true=>
    simp only[Z7,decide_eq_true_eq]at g2;obtain⟨s3,s4⟩:=IT g2.1 g2.2;rw[if_pos g2.1,if_pos g2.2];have p1:(a.1*b.2).natAbs<1000000000*1000000000:=by rw[Zf,Int.natAbs_natCast];exact Ym s1 s4
    have p3:(b.1*a.2).natAbs<1000000000*1000000000:=by rw[Zf,Int.natAbs_natCast];exact Ym s3 s2
    have p2:a.2*b.2<1000000000*1000000000:=Ym s2 s4;have e2:(a.2:Int)*(b.2:Int)=((a.2*b.2:Nat):Int):=ac;have ff:=ff aa aa;obtain⟨N,hN⟩:∃N,a.1*(b.2:Int)=N:=⟨_,rfl⟩;obtain⟨M,hM⟩:∃M,b.1*(a.2:Int)=M:=⟨_,rfl⟩;rw[hN]at p1 ff;rw[hM]at p3 ff;generalize a.2*b.2=D at *;simp(disch:=try exact ae)[e2,hN,hM];refine cd ff ?_;simp
    simp[mf]
 by_cases c1:ah a.2=[49]
 .have c2:¬ah b.2=[49]:=λh=>hne ⟨c1,h⟩
  simp[fh,c1,c2]
  simp_all
 .simp[fh,c1]
  simp_all
theorem SI(a:Q):CP Y F.mH [.agg (qT a)] (I (sgn a.1)):=by refine Db ?_;simp[mH,qT];refine cd (qJ a.1) ?_;exact aY rfl
theorem Lm(z:Int):sgn z=0↔z=0:=by
 unfold sgn;constructor
 .intro h;split at h
  .assumption
  .split at h<;>omega
 .intro h;rw[if_pos h]
theorem E5{a b:LuQ}{c:Int}{h:Hp}:out (.tup [.agg [S a,S b],I c]) (.tup [.agg [S a,S b],I c]) h:=⟨h,by simp[cO,aT,norm]⟩
theorem FZ{a b:Q}(ha:okQ a)(hb:okQ b)(h0:b.1≠0)(la:qL 100000 a)(lb:qL 100000 b):CP Y F.gS [.agg (qT a),.agg (qT b)] (.tup [.agg (qT (rP a b)),I 0]):=by
 refine FV ?_;obtain⟨la1,la2⟩:=la;obtain⟨lb1,lb2⟩:=lb;have sg0:=SI b;have hs:¬sgn b.1=0:=λh=>h0 ((Lm _).1 h)
 have m1:=AT (z:=a.1) (b:=b.2) aa aa;have m2:=pF (z:=(a.2:Int)) (w:=b.1) (by rw[Int.natAbs_natCast];omega) aa;rw[j5]at m2;have n1:=gV (z:=a.1) (w:=(b.2:Int));have n2:=gV (z:=(a.2:Int)) (w:=b.1);rw[Int.natAbs_natCast]at n1 n2;have hne:(a.2:Int)*b.1≠0:=Yr (by have:=ha.1;omega) h0
 have lw:CP Y F.bv [S (itoa (a.1*b.2)),S (itoa (a.2*b.1))] (.agg (qT (rP a b))):=BA hne aa aa;obtain⟨x,y,hxy⟩:∃x y,qT (rP a b)=[S x,S y]:=⟨_,_,rfl⟩;rw[hxy]at lw ⊢;generalize sgn b.1=sb at *;simp only[qT]at sg0 ⊢;simp(disch:=try exact ae)[gS];refine cd sg0 ?_ (Ev ..);simp(disch:=try exact ae)[hs]
 refine cd m1 ?_;simp(disch:=try exact ae);refine cd m2 ?_;simp(disch:=try exact ae);refine cd lw ?_;simp(disch:=try exact ae);exact E5
theorem WV{d:Int}(hd:d≠0)(hn:ndg n.natAbs<800000)(hd2:ndg d.natAbs<800000):CP Y F.oh [S (itoa n),S (itoa d)] (.tup [.agg (qT (de n d)),I 0]):=by
 refine FS ?_;have sg0:=qJ d;have hs:¬sgn d=0:=λh=>hd ((Lm _).1 h)
 have lw:=BA hd hn hd2;obtain⟨x,y,hxy⟩:∃x y,qT (de n d)=[S x,S y]:=⟨_,_,rfl⟩;rw[hxy]at lw ⊢;generalize sgn d=sb at *;simp[oh];refine cd sg0 ?_;simp[hs];refine cd lw ?_;simp;exact E5
theorem pP{z:Int}(h1 : -9223372036854775808<z)(h2:z<9223372036854775808):ndg z.natAbs<=19:=gG aa af
theorem uz{d:Int}(hd:d≠0)(h1 : -9223372036854775808<n)(h2:n<9223372036854775808)(h3 : -9223372036854775808<d)(h4:d<9223372036854775808):CP Y F.dT [I n,I d] (.tup [.agg (qT (de n d)),I 0]):=by refine GR ?_;have nw:=WV (n:=n) hd (Y6 (pP h1 h2) af) (Y6 (pP h3 h4) af);obtain⟨x,y,hxy⟩:∃x y,qT (de n d)=[S x,S y]:=⟨_,_,rfl⟩;rw[hxy]at nw ⊢;simp[dT];refine cd (kY h1 h2) ?_;simp;refine cd (kY h3 h4) ?_;simp;refine cd nw ?_;simp;exact E5
theorem JU(z:Int){b:Nat}(hb:0<b):z.fdiv (-(b:Int))=(-z)/(b:Int)∧z.fmod (-(b:Int)) = -((-z)%(b:Int)):=by
 have e:z.fdiv (-(b:Int))=(-z)/(b:Int):=by
  rw[<-Int.fdiv_eq_ediv_of_nonneg (-z) (by omega:(0:Int)<=(b:Int)),<-Int.neg_fdiv_neg (-z) (b:Int),Wd]
 refine⟨e,?_⟩;rw[Int.fmod_def,e];have:=Int.mul_ediv_add_emod (-z) (b:Int)
 grind
theorem MI(x y:Int)(hy:y≠0):(x.fdiv y).natAbs<=x.natAbs:=by
 by_cases h:0<y
 .rw[Int.fdiv_eq_ediv_of_nonneg _ aa];exact Int.natAbs_ediv_le_natAbs ..
 .obtain⟨b,hb⟩:∃b:Nat,b=y.natAbs:=⟨_,rfl⟩;have e:y = -(b:Int):=aa;rw[e,(JU x (b:=b) aa).1]
  grind[Int.natAbs_ediv_le_natAbs]
theorem XU{z:Int}{b:Nat}(hb:0<b)(hz:ndg z.natAbs<900000)(hbd:ndg b<900000):
   cal (CX Y).p [] (.fn F.aO [] []) [S (itoa z)] λv7 h=>
   ext v7 0 λv8=>
   ext v7 1 λv9=>
   cal (CX Y).p h (.fn F.aO [] []) [S (itoa (-(b:Int)))] λv10 h=>
   ext v10 0 λv11=>
   ext v10 1 λv12=>
   cal (CX Y).p h (.fn F.dW [] []) [v9,v12] λv13 h=>
   ext v13 0 λv14=>
   ext v13 1 λv15=>
   ext v13 2 λv16=>
   bnd (biI .neq v16 (.d (.int .i64 0))) λv17=>
   cnd v17 (
    out (.tup [S (itoa ((-z)/b)),S (itoa (-((-z)%b))),I 0]) (.tup [(.d (.str [])),(.d (.str [])),v16]) h) (
    bnd (biB .neq v8 v11) λv18=>
    gd v18 true h (λq=>q v15 h) λv19 h=>
    gd v18 true h (λq=>bnd (biS .neq v19 (.d (.str [48]))) λv=>q v h) λv20 h=>
    bnd (nF v18 v20 (.d (.bool false))) λv21=>
    jn (λl22 h=>
     bnd (biB .neq v8 v11) λv24=>
     cal (CX Y).p h (.fn F.cx [] []) [v24,(ge l22 0)] λv25 h=>
     cal (CX Y).p h (.fn F.cx [] []) [v11,(ge l22 1)] λv26 h=>
     out (.tup [S (itoa ((-z)/b)),S (itoa (-((-z)%b))),I 0]) (.tup [v25,v26,(.d (.int .i64 0))]) h) λq23=>
     cnd v21 (
      cal (CX Y).p h (.fn F.gn [] []) [v14,(.d (.str [49]))] λv27 h=>
      cal (CX Y).p h (.fn F.gZ [] []) [v12,v15] λv28 h=>
      ext v28 0 λv29=>
      ext v28 1 λv30=>
      q23 [v27,v29] h) (
      q23 [v14,v15] h)):=by
 have hq:ndg (z.natAbs/b)<=ndg z.natAbs:=eV (Yw ..);have hr:z.natAbs%b<b:=Yz _ hb;have hr2:ndg (z.natAbs%b)<=ndg b:=eV aa;have eb:∀x y:Bool,biB .neq (B x) (B y)=some (B (x !=y)):=λ_ _=>rfl
 have sb:=pj (-(b:Int));rw[decide_eq_true (by omega : -(b:Int)<0),show(-(b:Int)).natAbs=b by omega]at sb;simp;refine cd (pj z) ?_;simp;refine cd sb ?_;simp;refine cd (xF (a:=z.natAbs) hb aa aa) ?_;by_cases hneg:z<0
 .have ez : -z=(z.natAbs:Int):=aa;rw[decide_eq_true hneg];simp[eb];refine gL (l:=[S (ah (z.natAbs/b)),S (ah (z.natAbs%b))]) (h:=[]) (λq=>by rfl) ?_;simp[eb];refine cd (gW false (n:=z.natAbs/b) aa) ?_;simp;refine cd (gW true (n:=z.natAbs%b) aa) ?_;refine oQ ?_ ?_
  .rw[ez,<-Int.natCast_ediv];rfl
  .rw[ez,<-Int.natCast_emod];rfl
 .have ez : -z = -(z.natAbs:Int):=aa;obtain⟨d1,d2⟩:=vr (a:=z.natAbs) hb;rw[<-ez]at d1 d2;rw[decide_eq_false hneg];by_cases h0:z.natAbs%b=0
  .rw[if_pos h0]at d1 d2;rw[h0,eO];simp[eb];refine gL (l:=[S (ah (z.natAbs/b)),S [48]]) (h:=[]) (λq=>by rfl) ?_;simp[eb];refine cd (gW true (n:=z.natAbs/b) aa) ?_;simp;have j0:=gW true (n:=0) (by grind);rw[eO]at j0;refine cd j0 ?_;refine oQ ?_ ?_
   .rw[d1];rfl
   .rw[d2];rfl
  .rw[if_neg h0]at d1 d2;have h48:¬ah (z.natAbs%b)=[48]:=λh=>h0 (kt.1 h)
   have ad:=yY (a:=z.natAbs/b) (b:=1) aa (by simp[Dy]);rw[show ah 1=[49] by decide+kernel]at ad;simp[eb,h48];refine aH ?_;simp[h48];refine cd ad ?_;simp;refine cd (xG (a:=b) (b:=z.natAbs%b) aa aa) ?_;simp[eb];have hq1:ndg (z.natAbs/b+1)<=900000+1:=Dz aa (by simp[Dy])
   refine cd (gW true (n:=z.natAbs/b+1) aa) ?_;simp;refine cd (gW true (n:=b-z.natAbs%b) (Y6 (eV (Nat.sub_le ..)) aa)) ?_;refine oQ ?_ ?_
   .rw[d1];rfl
   .rw[d2];rfl
theorem Nz{z:Int}{b:Nat}(hb:0<b)(hz:ndg z.natAbs<900000)(hbd:ndg b<900000):CP Y F.bM [S (itoa z),S (itoa (-(b:Int)))] (.tup [S (itoa ((-z)/b)),S (itoa (-((-z)%b))),I 0]):=by
 refine wt ?_;have l1:=o6 z 18 af;have l2:=o6 (-(b:Int)) 18 af;have tl:=XU hb hz hbd
 have h48:¬itoa (-(b:Int))=[48]:=λh=>by
  have:=z8 (h.trans (show[48]=itoa 0 by decide+kernel));omega
 simp[bM,h48];refine cd l1 ?_;by_cases h1:sdg z<=18
 .rw[if_pos h1];by_cases h2:sdg (-(b:Int))<=18
  .rw[if_pos h2]at l2;simp;refine aH ?_;simp;refine cd l2 ?_;have b1:=rN h1;have b2:=rN h2;simp only[Nat.reducePow]at b1 b2;have hbz:¬(-(b:Int))=0:=aa;have eb:∀x y:Bool,biB .neq (B x) (B y)=some (B (x !=y)):=λ_ _=>rfl
   obtain⟨n,hn⟩:=nmQ (z.natAbs);rw[<-hn]at b1;have hq:n/b<=n:=Yw ..;have hr:n%b<b:=Yz _ hb;have ym:(-(b:Int))<0:=aa;by_cases hneg:z<0
   .have ez:z = -(n:Int):=aa;have q1:z.tdiv (-(b:Int))=((n/b:Nat):Int):=by rw[ez,Int.neg_tdiv,Int.tdiv_neg,Wd,Zt aa,<-Int.natCast_ediv]
    have q2:z.tmod (-(b:Int)) = -((n%b:Nat):Int):=by rw[ez,Int.neg_tmod,Int.tmod_neg,Zv aa,<-Int.natCast_emod]
    have d1:(-z)/(b:Int)=((n/b:Nat):Int):=by rw[ez,Wd,<-Int.natCast_ediv]
    have d2:(-z)%(b:Int)=((n%b:Nat):Int):=by rw[ez,Wd,<-Int.natCast_emod]
    obtain⟨q,hqq⟩:=nmQ (n/b);obtain⟨r,hrr⟩:=nmQ (n%b);rw[<-hqq]at q1 d1 hq;rw[<-hrr]at q2 d2 hr
    have fin:∀h:Hp,cal (CX Y).p h (V.fn F.eu [] []) [I q] λv45 h=>
      cal (CX Y).p h (V.fn F.eu [] []) [I (-(r:Int))] λv46 h=>out (V.tup [S (itoa ((-z)/(b:Int))),S (itoa (-((-z)%(b:Int)))),I 0]) (V.tup [v45,v46,V.d (D.int IntKind.i64 0)]) h:=by
     intro h;simp;refine cd (kY (z:=(q:Int)) aa aa) ?_;simp;refine cd (kY (z:=-(r:Int)) aa aa) ?_;refine oQ ?_ ?_
     .rw[d1]
     .rw[d2]
    by_cases h0:r=0
    .subst h0;simp only[Int.natCast_zero,Int.neg_zero]at q2 fin;simp(disch:=try exact ae)[q1,q2,hbz];refine gL (l:=[I q,I 0]) (h:=[]) (λq=>by rfl) ?_;exact fin []
    .have r0:¬(-(r:Int))=0:=aa;have r1:(-(r:Int))<0:=aa;simp(disch:=try exact ae)[q1,q2,r0,r1,ym,eb,hbz];refine gL (l:=[I q,I (-(r:Int))]) (h:=[]) (λq=>by simp(disch:=try exact ae)[r0,r1,ym,eb]) ?_;exact fin []
   .have ez:z=(n:Int):=aa;obtain⟨d1,d2⟩:=vr (a:=n) hb;rw[<-ez]at d1 d2;have q1:z.tdiv (-(b:Int)) = -((n/b:Nat):Int):=by rw[ez,Int.tdiv_neg,Zt aa,<-Int.natCast_ediv]
    have q2:z.tmod (-(b:Int))=((n%b:Nat):Int):=by rw[ez,Int.tmod_neg,Zv aa,<-Int.natCast_emod]
    obtain⟨q,hqq⟩:=nmQ (n/b);obtain⟨r,hrr⟩:=nmQ (n%b);rw[<-hqq]at q1 d1 hq;rw[<-hrr]at q2 d1 d2 hr;by_cases h0:r=0
    .rw[if_pos h0]at d1 d2;subst h0;simp only[Int.natCast_zero]at q2;simp(disch:=try exact ae)[q1,q2,hbz];refine gL (l:=[I (-(q:Int)),I 0]) (h:=[]) (λq=>by rfl) ?_;simp;refine cd (kY (z:=-(q:Int)) aa aa) ?_;simp;refine cd (kY (z:=0) aa aa) ?_;refine oQ ?_ ?_
     .rw[d1]
     grind
    .rw[if_neg h0]at d1 d2;have r0:¬((r:Int))=0:=aa;have r1:¬(r:Int)<0:=aa;simp(disch:=try exact ae)[q1,q2,r0,r1,ym,eb,hbz];refine gL (l:=[I (-(q:Int)-1),I ((r:Int) + -(b:Int))]) (h:=[]) (λq=>by simp(disch:=try exact ae)[r0,r1,ym]) ?_;simp;refine cd (kY (z:=-(q:Int)-1) aa aa) ?_;simp
     refine cd (kY (z:=(r:Int) + -(b:Int)) aa aa) ?_
     grind[oQ]
  .rw[if_neg h2]at l2;simp;refine aH ?_;simp;refine cd l2 ?_;trivial
 simp_all[if_neg,aH]
theorem KH{z w:Int}(hw0:w≠0)(hz:ndg z.natAbs<900000)(hw:ndg w.natAbs<900000):CP Y F.bM [S (itoa z),S (itoa w)] (.tup [S (itoa (z.fdiv w)),S (itoa (z.fmod w)),I 0]):=by
 by_cases h:0<w
 .rw[Int.fdiv_eq_ediv_of_nonneg _ aa,Int.fmod_eq_emod_of_nonneg _ aa]
  grind[Tq]
 .obtain⟨b,hb⟩:∃b:Nat,b=w.natAbs:=⟨_,rfl⟩;have e:w = -(b:Int):=aa;rw[<-hb]at hw;rw[e,(JU z (b:=b) aa).1,(JU z (b:=b) aa).2];exact Nz aa hz hw
theorem aaa{z w:Int}(hz:ndg z.natAbs<999999)(hw:ndg w.natAbs<999999):CP Y F.rY [S (itoa z),S (itoa w)] (S (itoa (z-w))):=by refine Kz ?_;simp[rY];refine cd (zJ aa) ?_;simp;refine cd (zf hz (by grind)) ?_;exact gk (by rw[Int.sub_eq_add_neg])
def sI(z:Int):D:=.str (itoa z)
theorem Uk(P M Q:List α){x:α}(hj:j<M.length):(P++M++Q).take (P.length+j)++[x]++(P++M++Q).drop (P.length+j+1)=P++M.set j x++Q:=by
 obtain⟨a,y,c,rfl,rfl⟩:∃a y c,M=a++y::c∧j=a.length:=⟨M.take j,M[j],M.drop (j+1),ac,by grind⟩
 rw [show P++(a++y::c)++Q=((P++a)++[y])++(c++Q) by simp,show P.length+a.length+1=((P++a)++[y]).length by grind,List.drop_left,
  show((P++a)++[y])++(c++Q)=(P++a)++(y::(c++Q)) by simp,show P.length+a.length=(P++a).length by simp,Wu]
 simp
structure RwL where
 s:Nat
 e:Nat
 pre:LdQ
 post:LdQ
 ex:Bool
 cap:Nat
 r:LiQ
def RwL.z:RwL:=⟨0,0,[],[],false,0,[]⟩
def RwL.w(R:RwL)(r:LiQ):RwL:={R with r:=r}
def RwL.tot(R:RwL):Nat:=R.pre.length+R.r.length+R.post.length
def RwL.v(R:RwL):V:=.ref R.s R.e R.pre.length R.r.length R.cap R.tot
def RwL.p(R:RwL)(j:Nat):V:=.ptr R.s R.e (R.pre.length+j) R.tot
def RwL.k(R:RwL):Nat×Bk:=(R.e,.data 1 (R.pre++R.r.map sI++R.post) R.ex false)
variable{h:Hp}{R:RwL}
theorem RwL.get(hR:h[R.s]?=some R.k):aw h R.s R.e=.data 1 (R.pre++R.r.map sI++R.post) R.ex false:=by grind[aw,k]
theorem RwL.tl(R:RwL):R.tot=(R.pre++R.r.map sI++R.post).length:=by grind[tot]
theorem Ur(R:RwL):aQ R.v=some (I R.r.length):=rfl
theorem Lp(hR:h[R.s]?=some R.k)(hj:j<R.r.length):ixV h 1 R.v (I j)=some (R.p j):=by simp only[RwL.v,ixV,RwL.get hR];rw[if_pos ⟨R.tl,aa,aa⟩];simp[RwL.p]
theorem PC(hR:h[R.s]?=some R.k)(hj:j<R.r.length):ld1 h (R.p j)=some (S (itoa (nth 0 R.r j))):=by
 simp only[RwL.p,ld1,RwL.get hR];rw[if_pos R.tl]
 have:(R.pre++R.r.map sI++R.post)[R.pre.length+j]?=some (sI (nth 0 R.r j)):=by
  rw[List.append_assoc,List.getElem?_append_right aa,List.getElem?_append_left (by grind)];simp[cn _ _ _ hj,List.getElem?_eq_getElem hj]
 rw[this];rfl
theorem Uq(hR:h[R.s]?=some R.k)(hj:j<R.r.length)(z:Int):st h 1 (R.p j) (S (itoa z))=some (h.set R.s (R.w (R.r.set j z)).k):=by simp only[RwL.p,st,if_true,sto,RwL.get hR,kT,toD,norm];rw[if_pos ⟨trivial,R.tl,by grind⟩];simp only[bY,RwL.k,RwL.w];congr 4;have:=Uk R.pre (R.r.map sI) R.post (x:=sI z) (j:=j) (by grind);rw[show R.pre.length+j + [D.str (itoa z)].length=R.pre.length+j+1 by simp];rw[W8];exact this
theorem RwL.set_get{R':RwL}(hR:h[R.s]?=some R.k)(hs:R'.s=R.s):(h.set R.s R'.k)[R'.s]?=some R'.k:=by rw[hs,List.getElem?_set_self (List.getElem?_eq_some_iff.1 hR).1]
theorem RwL.set_ne{T:RwL}(hT:h[T.s]?=some T.k)(hs:s≠T.s):(h.set s x)[T.s]?=some T.k:=by grind
theorem xJ{h:Hp}{b:Nat}(hu:(h.all λx=>ax b x.2)=true)(hx:ax b x.2=true):((h.set s x).all λx=>ax b x.2)=true:=by grind
theorem RwL.u(R:RwL)(b:Nat):ax b R.k.2=true:=rfl
def bdE(B:Nat)(l:LiQ):Prop:=∀x∈l,x.natAbs<10^B
theorem AK{B:Nat}(h:bdE B l)(j:Nat):(nth 0 l j).natAbs<10^B:=by
 by_cases hj:j<l.length
 .rw[cn _ _ _ hj];exact h _ (Yx hj)
 .have:nth 0 l j=0:=by simp[nth,List.getElem?_eq_none (by omega:l.length<=j)]
  grind
theorem xi{B:Nat}(hB:B<=100000){x:Int}(h:x.natAbs<10^B):ndg x.natAbs<=100001:=
 Zy (gG (d:=B+1) (Z3 h (Z0 af (Nat.le_succ B))) aa) aa
theorem EJ(k:Int)(a b:LiQ)(h:a.length=b.length):(sO k a b).length=a.length:=by simp[sO,h]
section
variable{R T:RwL}{h:Hp}{k:Int}{B:Nat}
theorem Qq(hB:B<=100000)(hT:h[T.s]?=some T.k)(hR:h[R.s]?=some R.k)(hne:R.s≠T.s)(hk:ndg k.natAbs<=100002)(bT:bdE B T.r)(hl:R.r.length=T.r.length)(hL:R.r.length<1000000)(b:Nat)(h0:Hp)(hh:h0.length=h.length)(K:KL) :
  ∀(rq rp:LiQ)(tp tq:LiQ),tp++tq=T.r->rp.length=tp.length->rq.length=tq.length->bdE B rq->rp.length+rq.length=R.r.length ->
  K (.exit 0) [] (h.set R.s (R.w (rp++sO k rq tq)).k) ->
  lp (jZ (CX Y) b R.v (S (itoa k)) T.v (I T.r.length)) [] h0 [I rp.length] (h.set R.s (R.w (rp++rq)).k) K
 | [],rp,tp,tq,ht,h1,h2,bR,hn,hK=>by
  refine aj ?_;have hlt:¬((rp.length:Int)<(T.r.length:Int)):=by simp at hn;omega
  have:tq=[]:=Zn aa;subst this;simp only[jZ];simp[hlt]
  simp_all[sO]
 |x::rq,rp,tp,[],ht,h1,h2,bR,hn,hK=>by simp at h2
 | x::rq,rp,tp,y::tq,ht,h1,h2,bR,hn,hK=>by
  refine aj ?_;have hlt:((rp.length:Int)<(T.r.length:Int)):=by simp at hn;omega
  obtain⟨H,hH⟩:∃H,H=h.set R.s (R.w (rp++x::rq)).k:=⟨_,rfl⟩;have gR:H[R.s]?=some (R.w (rp++x::rq)).k:=by rw[hH];exact RwL.set_get hR rfl
  have gT:H[T.s]?=some T.k:=by rw[hH];exact RwL.set_ne hT hne
  have vR:R.v=(R.w (rp++x::rq)).v:=by simp[RwL.v,RwL.w,RwL.tot]at hn ⊢;omega
  have jl:rp.length<T.r.length:=by simp at hn;omega
  have jr:rp.length<(R.w (rp++x::rq)).r.length:=by simp[RwL.w]
  have nT:nth 0 T.r rp.length=y:=by rw[<-ht,h1];simp
  have nR:nth 0 (R.w (rp++x::rq)).r rp.length=x:=by simp[RwL.w]
  have i1:=Lp gT jl;have i2:=PC gT jl;have i3:=Lp gR jr;have i4:=PC gR jr;rw[nT]at i2;rw[nR]at i4;have i5:=Uq gR jr (x-k*y);have bx:ndg x.natAbs<=100001:=xi hB (bR x ac);have by_:ndg y.natAbs<=100001:=xi hB (bT y (by grind));have bm:=gV (z:=k) (w:=y);rw[<-hH,vR];simp only[jZ];simp[hlt,i1,i2,i3,i4]
  refine cd (pF (z:=k) (w:=y) aa aa) ?_;simp;refine cd (aaa (z:=x) (w:=k*y) aa aa) ?_;simp(disch:=try exact ae)[i3,i5];rw[uS 0 h0 _ (by grind),<-vR];refine lo ?_
  have e1:H.set (R.w (rp++x::rq)).s ((R.w (rp++x::rq)).w ((R.w (rp++x::rq)).r.set rp.length (x-k*y))).k=h.set R.s (R.w ((rp++[x-k*y])++rq)).k:=by
   rw[hH];simp[RwL.w]
  rw[e1];have ih:=Qq hB hT hR hne hk bT hl hL b h0 hh K rq (rp++[x-k*y]) (tp++[y]) tq (by grind) (by grind) (by grind) (λz hz=>bR z (by grind)) (by grind) (by simp_all[sO])
  grind
theorem Vy(hR:h[R.s]?=some R.k)(hB:B<=100000)(hL:R.r.length<1000000)(b:Nat)(h0:Hp)(hh:h0.length=h.length)(K:KL) :
  ∀(rq rp:LiQ),bdE B rq->rp.length+rq.length=R.r.length ->
  K (.exit 0) [] (h.set R.s (R.w (rp++rq.map (- ·))).k) ->
  lp (iS (CX Y) b R.v R.v (I R.r.length)) [] h0 [I rp.length] (h.set R.s (R.w (rp++rq)).k) K
 | [],rp,bR,hn,hK=>by
  refine aj ?_;have hlt:¬((rp.length:Int)<(R.r.length:Int)):=by simp at hn;omega
  simp only[iS];simp[hlt]
  grind
 | x::rq,rp,bR,hn,hK=>by
  refine aj ?_;have hlt:((rp.length:Int)<(R.r.length:Int)):=by simp at hn;omega
  obtain⟨H,hH⟩:∃H,H=h.set R.s (R.w (rp++x::rq)).k:=⟨_,rfl⟩;have gR:H[R.s]?=some (R.w (rp++x::rq)).k:=by rw[hH];exact RwL.set_get hR rfl
  have vR:R.v=(R.w (rp++x::rq)).v:=by simp[RwL.v,RwL.w,RwL.tot]at hn ⊢;omega
  have jr:rp.length<(R.w (rp++x::rq)).r.length:=by simp[RwL.w]
  have nR:nth 0 (R.w (rp++x::rq)).r rp.length=x:=by simp[RwL.w]
  have i3:=Lp gR jr;have i4:=PC gR jr;rw[nR]at i4;have i5:=Uq gR jr (-x);have bx:ndg x.natAbs<=100001:=xi hB (bR x ac);rw[<-hH,vR];simp only[iS];simp[hlt,i3,i4];refine cd (zJ (z:=x) aa) ?_;simp(disch:=try exact ae)[i3,i5];rw[uS 0 h0 _ (by grind),<-vR];refine lo ?_
  have e1:H.set (R.w (rp++x::rq)).s ((R.w (rp++x::rq)).w ((R.w (rp++x::rq)).r.set rp.length (-x))).k=h.set R.s (R.w ((rp++[-x])++rq)).k:=by
   rw[hH];simp[RwL.w]
  rw[e1];have ih:=Vy hR hB hL b h0 hh K rq (rp++[-x]) (λz hz=>bR z (by grind)) (by grind) (by grind)
  simp_all
theorem RX(a b:LiQ)(h:a.length=b.length):sO 0 a b=a:=by
 induction a generalizing b with
 |nil=>rfl
 | cons x a ih=>
  cases b with
  |nil=>simp at h
  | cons y b=>
   simp_all[sO]
theorem RwL.set_same(hR:h[R.s]?=some R.k):h.set R.s (R.w R.r).k=h:=by
 apply Yi;intro i;by_cases hi:R.s=i
 .subst hi;rw[List.getElem?_set_self (List.getElem?_eq_some_iff.1 hR).1,hR];rfl
 .rw[List.getElem?_set_ne hi]
theorem Mg(hB:B<=100000)(hT:h[T.s]?=some T.k)(hR:h[R.s]?=some R.k)(hne:R.s≠T.s)(hk:ndg k.natAbs<=100002)(bT:bdE B T.r)(bR:bdE B R.r)(hl:R.r.length=T.r.length)(hL:R.r.length<1000000)
  (hu:(h.all λx=>ax h.length x.2)=true):CI Y F.eQ [R.v,S (itoa k),T.v] h (.tup []) (h.set R.s (R.w (sO k R.r T.r)).k):=by
 refine xW ?_
 have fin:mN h.length (.tup []) (h.set R.s (R.w (sO k R.r T.r)).k) (.tup []) (h.set R.s (R.w (sO k R.r T.r)).k):=
  ⟨by rw[Zz ac],xJ hu (RwL.u _ _),.inl ⟨rfl,rfl⟩⟩
 simp only[eQ,List.replicate_zero,Zp];by_cases h0:k=0
 .subst h0;have:itoa 0=[48]:=aJ;rw[RX _ _ hl,RwL.set_same hR]at fin ⊢;simp[this];omega
 .have h48:¬itoa k=[48]:=λe=>h0 (z8 (e.trans (show[48]=itoa 0 by decide+kernel)))
  have:=Qq hB hT hR hne hk bT hl hL h.length h rfl (exK [((.exit 0),λl3 h'=>mN h.length (.tup []) (h.set R.s (R.w (sO k R.r T.r)).k) (.tup []) h')]) R.r [] [] T.r rfl rfl hl bR ac (by trivial);rw[List.nil_append,RwL.set_same hR]at this;simp[h48,Ur T];trivial
theorem Oh(hB:B<=100000)(hR:h[R.s]?=some R.k)(bR:bdE B R.r)(hL:R.r.length<1000000)(hu:(h.all λx=>ax h.length x.2)=true):
  CI Y F.eJ [R.v] h (.tup []) (h.set R.s (R.w (R.r.map (- ·))).k):=by
 refine vS ?_
 have fin:mN h.length (.tup []) (h.set R.s (R.w (R.r.map (- ·))).k) (.tup []) (h.set R.s (R.w (R.r.map (- ·))).k):=
  ⟨by rw[Zz ac],xJ hu (RwL.u _ _),.inl ⟨rfl,rfl⟩⟩
 simp only[eJ,List.replicate_zero,Zp];have:=Vy hR hB hL h.length h rfl (exK [((.exit 0),λl3 h'=>mN h.length (.tup []) (h.set R.s (R.w (R.r.map (- ·))).k) (.tup []) h')]) R.r [] bR ac (by trivial);rw[List.nil_append,RwL.set_same hR]at this;simp[Ur R];trivial
end
theorem wR(h:∀t∈clr,t≠s):iJ clr s=true:=by
 induction clr with
 |nil=>rfl
 | cons t l ih=>
  rw[Ff,beq_lit,decide_eq_false (h t ac),ih λu hu=>h u (by grind)];rfl
theorem NA{b:Nat}(hc:∀t∈clr,b<=t):∀x:V,under b x=true->rz clr x=true:=by
 intro x
 induction x using V.rec (motive_2:=λl=>ji b l=true->jI clr l=true)with
 |agg l ih=>trivial
 |tup l ih=>trivial
 | fn g a c iha ihc=>
  grind[under,rz]
 |ifc t x ih=>trivial
 |nil=>rfl
 | cons x l ih ihl h=>
  grind[ji,jI]
 | ref s e off len cap tot=>
  intro h;have:s<b:=by simpa[under,Wy]using h
  exact wR λt ht=>by grind
 | ptr s e off tot=>
  intro h;have:s<b:=by simpa[under,Wy]using h
  exact wR λt ht=>by grind
 |_=>intro _;rfl
theorem Cg{clr:LnQ}{b:Nat}(hc:∀t∈clr,b<=t):∀l:LwQ,ji b l=true->jI clr l=true
 |[],_=>rfl
 | x::l,h=>by
  simp only[ji,Z7]at h;simp only[jI,NA hc x h.1,Cg hc l h.2,Ye]
theorem NB{b:Nat}(hc:∀t∈clr,b<=t)(x:Bk)(h:ax b x=true):offB clr x=true:=by
 cases x with
 |vars l=>exact Cg hc l h
 |_=>rfl
theorem LV{clr:LnQ}{b:Nat}(hc:∀t∈clr,b<=t):∀(h t:Hp)(i:Nat),(h.all λx=>ax b x.2)=true->qm clr (i+h.length) t=true->qm clr i (h++t)=true
 |[],t,i,_,ht=>ht
 | x::h,t,i,hu,ht=>by
  simp only[List.all_cons,Z7]at hu;rw[List.cons_append,Bo,NB hc _ hu.1,Bool.or_true,Yu];refine LV hc h t (i+1) hu.2 ?_;rw[List.length_cons]at ht;rw[show i+1+h.length=i+(h.length+1) by omega];exact ht
theorem uk{clr:LnQ}{b:Nat}(hc:∀t∈clr,b<=t):∀(i:Nat)(h0 h:Hp),h.length=h0.length->(∀s,b<=i+s->s<h.length->h[s]?=some nnQ∧h0[s]?=some nnQ)->aL clr i h0 h=h
 |_,[],[],_,_=>rfl
 |_,[],_::_,hl,_=>by rfl
 |_,_::_,[],hl,_=>by rfl
 | i,x0::h0,x::h,hl,hs=>by
  rw [sQ,uk hc (i+1) h0 h (by grind) (λs hb hlt=>by
   have:=hs (s+1) aa (by grind);trivial)]
  split
  .rfl
  .rename_i hn
   have hb:b<=i:=by
    refine Classical.byContradiction λhlt=>hn (wR λt ht=>?_)
    have:=hc t ht;omega
   have:=hs 0 aa ac
   grind
theorem uV{b:Nat}(hc:∀t∈clr,b<=t){h:Hp}(hu:(h.all λx=>ax b x.2)=true)(i:Nat):qm clr i h=true:=by
 have:=LV hc h [] i hu (by rfl)
 grind
structure Tr(b:Nat)(gh:Hp)(h:Hp)(so eo L:Nat)(m:List RwL):Prop where
 o:h[so]?=some (eo,.vars (m.map RwL.v))
 r:∀i,i<m.length->h[(nth RwL.z m i).s]?=some (nth RwL.z m i).k
 nd:∀i j,i<m.length->j<m.length->i≠j->(nth RwL.z m i).s≠(nth RwL.z m j).s
 no:∀i,i<m.length->(nth RwL.z m i).s≠so
 ln:∀i,i<m.length->(nth RwL.z m i).r.length=L
 fr:∀s,s≠so->(∀i,i<m.length->(nth RwL.z m i).s≠s)->h[s]?=gh[s]?
 so:so<b
 sb:∀i,i<m.length->(nth RwL.z m i).s<b
 u:(h.all λx=>ax b x.2)=true
 bl:b<=h.length
 ow:∀s,b<=s->s<h.length->h[s]?=some nnQ
def ouV(so eo n:Nat):V:=.ref so eo 0 n n n
def ouP(so eo n i:Nat):V:=.ptr so eo i n
abbrev fC:=yU RwL.z RwL.r
abbrev nR(m:List RwL)(i:Nat):RwL:=nth RwL.z m i
theorem jV(d:α)(l:List α)(i j:Nat)(x:α)(h:i<l.length):nth d (l.set i x) j=if j=i then x else nth d l j:=by grind[nth]
theorem Qe(f:α->β)(d:α)(l:List α)(i:Nat)(h:i<l.length):(l.map f)[i]?=some (f (nth d l i)):=by simp[nth,h]
theorem aau(d:α)(l:List α)(i:Nat)(h:i<l.length):l.set i (nth d l i)=l:=by simp[nth,h]
variable{b so eo L:Nat}{m:List RwL}{gh h:Hp}
theorem tZ{b c:Nat}(hbc:b<=c){h:Hp}(hu:(h.all λx=>ax b x.2)=true):(h.all λx=>ax c x.2)=true:=by grind[t6]
theorem Tr.hu(T:Tr b gh h so eo L m):(h.all λx=>ax h.length x.2)=true:=tZ T.bl T.u
theorem Tr.get(T:Tr b gh h so eo L m):aw h so eo=.vars (m.map RwL.v):=by simp[aw,T.o]
theorem Tr.ix(T:Tr b gh h so eo L m)(hi:i<m.length):ixV h 1 (ouV so eo m.length) (I i)=some (ouP so eo m.length i):=by simp only[ouV,ixV,T.get];rw[if_pos ⟨ac,aa,aa⟩];simp[ouP]
theorem Tr.ld(T:Tr b gh h so eo L m)(hi:i<m.length):ld1 h (ouP so eo m.length i)=some (nR m i).v:=by simp only[ouP,ld1,T.get];rw[if_pos ac,Qe _ RwL.z _ _ hi]
theorem Tr.ix2(T:Tr b gh h so eo L m){c:Nat}(hi:i<m.length)(hc:c<L):ixV h 1 (nR m i).v (I c)=some ((nR m i).p c):=Lp (T.r i hi) (by grind[ln])
theorem Tr.ld2(T:Tr b gh h so eo L m){c:Nat}(hi:i<m.length)(hc:c<L):ld1 h ((nR m i).p c)=some (S (itoa (fC m i c))):=PC (T.r i hi) (by grind[ln])
theorem RwL.w_v(R:RwL)(hr:r.length=R.r.length):(R.w r).v=R.v:=by grind[v,w,tot]
theorem Tr.row(T:Tr b gh h so eo L m)(hi:i<m.length)(hr:r.length=L):Tr b gh (h.set (nR m i).s ((nR m i).w r).k) so eo L (m.set i ((nR m i).w r)) where
 o:=by
  grind[no,o,W8,RwL.w_v,ln,aau]
 r:=λj hj=>by
  rw[Yv]at hj;rw[jV _ _ _ _ _ hi];by_cases e:j=i
  .rw[if_pos e];exact RwL.set_get (R:=nR m i) (T.r i hi) rfl
  grind[r,nd]
 nd:=λj k hj hk hjk=>by
  rw[Yv]at hj hk;rw[jV _ _ _ _ _ hi,jV _ _ _ _ _ hi];by_cases e:j=i
  .subst e;rw[if_pos rfl,if_neg (Ne.symm hjk)];exact T.nd _ k hi hk hjk
  .rw[if_neg e];by_cases e2:k=i
   .subst e2;rw[if_pos rfl];exact T.nd j _ hj hi hjk
   grind[nd]
 no:=λj hj=>by
  rw[Yv]at hj;rw[jV _ _ _ _ _ hi];split
  .exact T.no i hi
  grind[no]
 ln:=λj hj=>by
  rw[Yv]at hj;rw[jV _ _ _ _ _ hi];split
  .exact hr
  grind[ln]
 so:=T.so
 sb:=λj hj=>by
  rw[Yv]at hj;rw[jV _ _ _ _ _ hi];split
  .exact T.sb i hi
  .exact T.sb j hj
 u:=xJ T.u rfl
 bl:=by rw[Yv];exact T.bl
 ow:=λs hs hl=>by
  rw[Yv]at hl;have:(nR m i).s<b:=T.sb i hi;rw[List.getElem?_set_ne aa];grind[ow]
 fr:=λs hs hne=>by
  have hall:∀j,j<m.length->(nth RwL.z m j).s≠s:=λj hj=>by
   have:=hne j (by grind);rw[jV _ _ _ _ _ hi]at this;by_cases e:j=i
   .subst e;rw[if_pos rfl]at this;exact this
   grind
  grind[fr]
theorem ae4{n:Nat}(ho:h[so]?=some (eo,.vars cs))(hn:cs.length=n)(hi:i<n)(R:RwL):st h 1 (ouP so eo n i) R.v=some (h.set so (eo,.vars (cs.set i R.v))):=by
 have hg:aw h so eo=.vars cs:=by simp[aw,ho]
 simp only[ouP,RwL.v,st,if_true,sto,hg];rw[if_pos ⟨hn.symm,by grind,rfl⟩]
 have e:cs.set i (V.ref R.s R.e R.pre.length R.r.length R.cap R.tot)=cs.take i++[V.ref R.s R.e R.pre.length R.r.length R.cap R.tot]++cs.drop (i+1):=by
  rw[Yk,if_pos aa];simp
 rw[e];rfl
theorem mB{k:Nat}(hi:i<m.length)(hj:j<m.length)(hk:k<m.length):∃k',k'<m.length∧nth RwL.z (lK RwL.z m i j) k=nth RwL.z m k'∧k'=(if k=j then i else if k=i then j else k):=by
 refine⟨_,?_,?_,rfl⟩
 .grind
 .unfold lK;rw[jV _ _ _ _ _ (by grind)];split
  .rfl
  grind[jV]
theorem Tr.swap(T:Tr b gh h so eo L m)(hi:i<m.length)(hj:j<m.length):Tr b gh (h.set so (eo, .vars ((lK RwL.z m i j).map RwL.v))) so eo L (lK RwL.z m i j) where
  o:=List.getElem?_set_self (List.getElem?_eq_some_iff.1 T.o).1
  r :=λk hk=>by
    rw[gC]at hk;obtain⟨k',h1,h2,_⟩:=mB hi hj hk
    grind[no,r]
  nd :=λk l hk hl hkl=>by
    rw[gC]at hk hl;obtain⟨k',h1,h2,h3⟩:=mB hi hj hk;obtain⟨l',h4,h5,h6⟩:=mB hi hj hl;rw[h2,h5];refine T.nd k' l' h1 h4 ?_;rw[h3,h6]
    repeat' split
    all_goals omega
  no :=λk hk=>by
    rw[gC]at hk;obtain⟨k',h1,h2,_⟩:=mB hi hj hk
    grind[no]
  ln :=λk hk=>by
    rw[gC]at hk;obtain⟨k',h1,h2,_⟩:=mB hi hj hk
    grind[ln]
  so:=T.so
  sb :=λk hk=>by
    rw[gC]at hk;obtain⟨k',h1,h2,_⟩:=mB hi hj hk;rw[h2];exact T.sb k' h1
  u :=by
    refine xJ T.u ?_
    have hv:∀l:List RwL,(∀R∈l,R.s<b)->ji b (l.map RwL.v)=true:=by
      intro l hl
      induction l with
      |nil=>rfl
      | cons R l ih=>
        simp only[Zq,ji,ih (λx hx=>hl x (by grind)),Ye]
        grind[RwL.v,under,Wy]
    refine hv _ λR hR=> ?_
    obtain⟨k,hk,rfl⟩:=Zi.1 hR;have hk':k<m.length:=by simpa[lK]using hk
    obtain⟨k',h1,h2,_⟩:=mB hi hj hk';rw[<-cn RwL.z _ _ hk,h2];exact T.sb k' h1
  bl:=by rw[Yv];exact T.bl
  ow :=λs hs hl=>by
    rw[Yv]at hl;have:=T.so;rw[List.getElem?_set_ne aa];grind[ow]
  fr :=λs hs hne=>by
    have hall:∀k,k<m.length->(nth RwL.z m k).s≠s:=λk hk=>by
      obtain⟨k',h1,h2,h3⟩:=mB (k:=if k=j then i else if k=i then j else k) hi hj (by split<;>(try split)<;>omega)
      have e : k' = k := by rw[h3];repeat' split
                            all_goals omega
      have:=hne _ (by rw[gC];show(if k=j then i else if k=i then j else k)<m.length;split<;>(try split)<;>omega)
      grind
    grind[fr]
theorem TS(hi:i<m.length)(hj:j<m.length):(((m.map RwL.v).set i (nR m j).v).set j (nR m i).v)=(lK RwL.z m i j).map RwL.v:=by simp[lK,W8]
theorem Mq{b:Nat}:Big.cmp a b<0↔a<b:=by unfold Big.cmp;split<;>(try split)<;>omega
theorem t7(z:Int):itoa z=[48]↔z=0:=by have e:[48]=itoa 0:=aJ;rw[e];exact⟨λh=>z8 h,λh=>by rw[h]⟩
theorem ZG{Bd:Nat}(bd:∀i,i<m.length->bdE Bd (nR m i).r)(hB:Bd<=100000)(hi:i<m.length)(c:Nat):ndg (fC m i c).natAbs<=100001:=xi hB (AK (bd i hi) c)
variable{Bd c:Nat}
theorem QK(T:Tr b gh h so eo L m)(hc:c<L)(hB:Bd<=100000)(bd:∀i,i<m.length->bdE Bd (nR m i).r)(hm:m.length<1000000)(h0:Hp)(hh:h0.length=h.length)(K:KL) :
  ∀(r i:Nat)(a:Int),i+r=m.length->a<i->-1<=a->K (.exit 4) [I (atG RwL.z RwL.r c m r i a)] h ->
  lp (gy (CX Y) b (ouV so eo m.length) (I c)) [] h0 [I a,I i] h K
 | 0,i,a,hr,h1,h2,hK=>by
  refine aj ?_;have hlt:¬((i:Int)<(m.length:Int)):=aa;have l1:aQ (ouV so eo m.length)=some (I m.length):=rfl;simp only[gy];simp[l1,hlt];exact hK
 | r+1,i,a,hr,h1,h2,hK=>by
  refine aj ?_;have hlt:((i:Int)<(m.length:Int)):=aa;have l1:aQ (ouV so eo m.length)=some (I m.length):=rfl;have hi:i<m.length:=aa;have i1:=T.ix hi;have i2:=T.ld hi;have i3:=T.ix2 hi hc;have i4:=T.ld2 hi hc;simp only[gy]
  have ih:=λa' (h1:a'<((i+1:Nat):Int)) (h2 : -1<=a') (hk:K (.exit 4) [I (atG RwL.z RwL.r c m r (i+1) a')] h)=>QK T hc hB bd hm h0 hh K r (i+1) a' aa h1 h2 hk
  simp only[atG]at hK
  have fin:∀a':Int,a'<((i+1:Nat):Int)->-1<=a'->K (.exit 4) [I (atG RwL.z RwL.r c m r (i+1) a')] h ->
    rl (lp (gy (CX Y) b (ouV so eo m.length) (I c)) [] h0 [I a',.d (.int .i64 ((i:Int)+1))] h) K .mk:=λa' x1 x2 hk=>by
   simp_all
  by_cases e0:fC m i c=0
  .have t0:=(t7 (fC m i c)).2 e0;rw[if_neg (λh=>h.1 e0)]at hK;simp[l1,hlt];refine aH ?_;simp[i1,i2,i3,i4,t0];refine aH ?_;simp(disch:=try exact ae);exact fin a aa h2 hK
  .have t0:¬itoa (fC m i c)=[48]:=λh=>e0 ((t7 _).1 h)
   by_cases a0:a<0
   .rw[if_pos ⟨e0,.inl a0⟩]at hK;simp[l1,hlt];refine aH ?_;simp[i1,i2,i3,i4,t0,a0];refine aH ?_;simp(disch:=try exact ae);exact fin i aa aa hK
   .obtain⟨n,rfl⟩:∃n:Nat,a=n:=⟨a.toNat,aa⟩;have hn:n<m.length:=aa;have j1:=T.ix hn;have j2:=T.ld hn;have j3:=T.ix2 hn hc;have j4:=T.ld2 hn hc;simp[l1,hlt];refine aH ?_;simp[i1,i2,i3,i4,t0,a0];refine cd (AN _) ?_;simp[j1,j2,j3,j4];refine cd (AN _) ?_;simp;refine cd (Tt (by have:=ZG bd hB hi c;omega) (by have:=ZG bd hB hn c;omega)) ?_
    have et:((n:Int)).toNat=n:=aa;rw[et]at hK;by_cases hl:(fC m i c).natAbs<(fC m n c).natAbs
    .have hcm:Big.cmp (fC m i c).natAbs (fC m n c).natAbs<0:=Mq.2 hl;rw[if_pos ⟨e0,.inr hl⟩]at hK;simp[hcm,t0];refine aH ?_;simp(disch:=try exact ae);exact fin i aa aa hK
    .have hcm:¬Big.cmp (fC m i c).natAbs (fC m n c).natAbs<0:=λg=>hl (Mq.1 g)
     rw[if_neg (λg=>g.2.elim (λg=>by omega) hl)]at hK;simp[hcm,t0];refine aH ?_;simp(disch:=try exact ae);exact fin n aa aa hK
theorem QJ(hc:c<L)(hB:Bd<=100000)(hL:L<1000000){o:Nat}(h0:Hp)(h00:∀s,b<=s->s<h0.length->h0[s]?=some nnQ)(K:KL) :
  ∀(r i:Nat)(rs:Bool)(m:List RwL)(h:Hp),Tr b gh h so eo L m->m.length<1000000->h0.length=h.length->o<i->i+r=m.length->bdE Bd (nR m o).r->(∀k,i<=k->k<m.length->bdE Bd (nR m k).r)->fC m o c≠0 ->
  (∀h',Tr b gh h' so eo L (kU RwL.z RwL.r RwL.w c o r i rs m).2->h'.length=h.length->K (.exit 6) [B (kU RwL.z RwL.r RwL.w c o r i rs m).1] h') ->
  lp (jD (CX Y) b (ouV so eo m.length) (I o) (I c)) [b+0] h0 [B rs,I i] h K
 | 0,i,rs,m,h,T,hm,hh,ho,hr,b1,b2,hz,hK=>by
  refine aj ?_;have hlt:¬((i:Int)<(m.length:Int)):=aa;have l1:aQ (ouV so eo m.length)=some (I m.length):=rfl;simp only[jD];simp[l1,hlt];exact hK h T rfl
 | r+1,i,rs,m,h,T,hm,hh,ho,hr,b1,b2,hz,hK=>by
  refine aj ?_;have hlt:((i:Int)<(m.length:Int)):=aa;have l1:aQ (ouV so eo m.length)=some (I m.length):=rfl;have hi:i<m.length:=aa;have hoo:o<m.length:=aa;have i1:=T.ix hi;have i2:=T.ld hi;have i3:=T.ix2 hi hc;have i4:=T.ld2 hi hc;have j1:=T.ix hoo;have j2:=T.ld hoo;have j3:=T.ix2 hoo hc;have j4:=T.ld2 hoo hc;have n1:=xi hB (AK (b2 i (Z8 _) hi) c)
  have n2:=xi hB (AK b1 c);simp only[jD];simp[l1,hlt,i1,i2,i3,i4,j1,j2,j3,j4];refine cd (KH (z:=fC m i c) (w:=fC m o c) hz (by have:ndg (fC m i c).natAbs<=_:=n1;omega) (by have:ndg (fC m o c).natAbs<=_:=n2;omega)) ?_;simp[i1,i2,j1,j2];have nio:o≠i:=aa;have el:(nR m i).r.length=(nR m o).r.length:=by rw[T.ln i hi,T.ln o hoo]
  have T2:Tr b gh (h.set (nR m i).s ((nR m i).w (sO ((fC m i c).fdiv (fC m o c)) (nR m i).r (nR m o).r)).k) so eo L (iW RwL.z RwL.r RwL.w c o m i):=T.row hi (by rw[EJ _ _ _ el,T.ln i hi]);have q1:ndg ((fC m i c).fdiv (fC m o c)).natAbs<=100002:=Zy (eV (MI _ _ hz)) (Zy n1 aa)
  refine gK (Mg hB (T.r o hoo) (T.r i hi) (T.nd i o hi hoo (Ne.symm nio)) q1 b1 (b2 i (Z8 _) hi) el (by grind[Tr.ln]) T.hu) ?_ ac;have e1:((i+1:Nat):Int)=(i:Int)+1:=aa;have hlen:(h.set (nR m i).s ((nR m i).w (sO ((fC m i c).fdiv (fC m o c)) (nR m i).r (nR m o).r)).k).length=h.length:=Yv
  generalize h.set (nR m i).s ((nR m i).w (sO ((fC m i c).fdiv (fC m o c)) (nR m i).r (nR m o).r)).k=h1 at *;have no:nR (iW RwL.z RwL.r RwL.w c o m i) o=nR m o:=by unfold nR iW;rw[jV _ _ _ _ _ hi,if_neg nio]
  have tl:(iW RwL.z RwL.r RwL.w c o m i).length=m.length:=mA ..
  have eo':fC (iW RwL.z RwL.r RwL.w c o m i) o c=fC m o c:=by
   show nth 0 (nR (iW RwL.z RwL.r RwL.w c o m i) o).r c=_
   rw[no];rfl
  have cl:∀x:Bool,clean [b] [B x,I ((i:Int)+1)] h1=true:=λx=>by
   simp only[clean,Z7];exact⟨rfl,uV ac T2.u 0⟩
  have rs1:aL [b] 0 h0 h1=h1:=uk (b:=b) ac 0 h0 h1 aa λs h1' h2'=>⟨T2.ow s aa h2',h00 s aa aa⟩
  have ih:=λrs' (hk:∀h',Tr b gh h' so eo L (kU RwL.z RwL.r RwL.w c o r (i+1) rs' (iW RwL.z RwL.r RwL.w c o m i)).2->h'.length=h.length->K (.exit 6) [B (kU RwL.z RwL.r RwL.w c o r (i+1) rs' (iW RwL.z RwL.r RwL.w c o m i)).1] h')=>
   QJ hc hB hL h0 h00 K r (i+1) rs' (iW RwL.z RwL.r RwL.w c o m i) h1 T2 aa aa aa aa (by grind)
    (λk k1 k2=>by
     rw[tl]at k2;have:nR (iW RwL.z RwL.r RwL.w c o m i) k=nR m k:=by unfold nR iW;rw[jV _ _ _ _ _ hi,if_neg aa]
     rw[this];exact b2 k aa k2) aa (λh' t1 t2=>hk h' t1 aa)
  rw[tl,e1]at ih;simp only[kU]at hK;cases rs with
  | true=>
   simp(disch:=try exact ae)[cl,rs1]
   simp_all
  | false=>
   by_cases hf:(fC m i c).fmod (fC m o c)=0
   .have t0:=(t7 ((fC m i c).fmod (fC m o c))).2 hf;simp(disch:=try exact ae)[cl,rs1,t0]
    simp_all
   .have t0:¬itoa ((fC m i c).fmod (fC m o c))=[48]:=λh=>hf ((t7 _).1 h)
    have t1:(itoa ((fC m i c).fmod (fC m o c)) == [48])=false:=by simpa using t0
    simp(disch:=try exact ae)[cl,rs1,t1]
    simp_all
theorem QI(hc:c<L)(hB:Bd<=100000)(hL:L<1000000){o:Nat}(h0:Hp)(h00:∀s,b<=s->s<h0.length->h0[s]?=some nnQ)(K:KL) :
  ∀(r i:Nat)(m:List RwL)(h:Hp),Tr b gh h so eo L m->m.length<1000000->h0.length=h.length->o<m.length->i+r=o->bdE Bd (nR m o).r->(∀k,i<=k->k<o->bdE Bd (nR m k).r)->fC m o c≠0 ->
  (∀h',Tr b gh h' so eo L (upG RwL.z RwL.r RwL.w c o r i m)->h'.length=h.length->K (.exit 8) [] h') ->
  lp (gv (CX Y) b (ouV so eo m.length) (I o) (I c) (I o)) [b+2] h0 [I i] h K
 | 0,i,m,h,T,hm,hh,ho,hr,b1,b2,hz,hK=>by
  refine aj ?_;have hlt:¬((i:Int)<(o:Int)):=aa;simp only[gv];simp[hlt];exact hK h T rfl
 | r+1,i,m,h,T,hm,hh,hoo,hr,b1,b2,hz,hK=>by
  refine aj ?_;have hlt:((i:Int)<(o:Int)):=aa;have hi:i<m.length:=aa;have i1:=T.ix hi;have i2:=T.ld hi;have i3:=T.ix2 hi hc;have i4:=T.ld2 hi hc;have j1:=T.ix hoo;have j2:=T.ld hoo;have j3:=T.ix2 hoo hc;have j4:=T.ld2 hoo hc;have n1:=xi hB (AK (b2 i (Z8 _) aa) c);have n2:=xi hB (AK b1 c);simp only[gv]
  simp[hlt,i1,i2,i3,i4,j1,j2,j3,j4];refine cd (KH (z:=fC m i c) (w:=fC m o c) hz (by have:ndg (fC m i c).natAbs<=_:=n1;omega) (by have:ndg (fC m o c).natAbs<=_:=n2;omega)) ?_;simp[i1,i2,j1,j2];have nio:o≠i:=aa;have el:(nR m i).r.length=(nR m o).r.length:=by rw[T.ln i hi,T.ln o hoo]
  have T2:Tr b gh (h.set (nR m i).s ((nR m i).w (sO ((fC m i c).fdiv (fC m o c)) (nR m i).r (nR m o).r)).k) so eo L (iW RwL.z RwL.r RwL.w c o m i):=T.row hi (by rw[EJ _ _ _ el,T.ln i hi]);have q1:ndg ((fC m i c).fdiv (fC m o c)).natAbs<=100002:=Zy (eV (MI _ _ hz)) (Zy n1 aa)
  refine gK (Mg hB (T.r o hoo) (T.r i hi) (T.nd i o hi hoo (Ne.symm nio)) q1 b1 (b2 i (Z8 _) aa) el (by rw[T.ln i hi];exact hL) T.hu) ?_ (by intro _ _ _ _ _ h;cases h);have e1:((i+1:Nat):Int)=(i:Int)+1:=aa;have hlen:(h.set (nR m i).s ((nR m i).w (sO ((fC m i c).fdiv (fC m o c)) (nR m i).r (nR m o).r)).k).length=h.length:=Yv
  generalize h.set (nR m i).s ((nR m i).w (sO ((fC m i c).fdiv (fC m o c)) (nR m i).r (nR m o).r)).k=h1 at *;have no:nR (iW RwL.z RwL.r RwL.w c o m i) o=nR m o:=by unfold nR iW;rw[jV _ _ _ _ _ hi,if_neg nio]
  have tl:(iW RwL.z RwL.r RwL.w c o m i).length=m.length:=mA ..
  have eo':fC (iW RwL.z RwL.r RwL.w c o m i) o c=fC m o c:=by
   show nth 0 (nR (iW RwL.z RwL.r RwL.w c o m i) o).r c=_
   rw[no];rfl
  have cl:clean [b+2] [I ((i:Int)+1)] h1=true:=by
   simp only[clean,Z7];exact⟨rfl,uV (b:=b) ac T2.u 0⟩
  have rs1:aL [b+2] 0 h0 h1=h1:=uk (b:=b) ac 0 h0 h1 aa λs h1' h2'=>⟨T2.ow s aa h2',h00 s aa aa⟩
  have ih:=QI hc hB hL h0 h00 K r (i+1) (iW RwL.z RwL.r RwL.w c o m i) h1 T2 (by rw[tl];exact hm) aa (by rw[tl];exact hoo) aa (by rw[no];exact b1)
    (λk k1 k2=>by
     have:nR (iW RwL.z RwL.r RwL.w c o m i) k=nR m k:=by unfold nR iW;rw[jV _ _ _ _ _ hi,if_neg aa]
     rw[this];exact b2 k aa k2) (by rw[eo'];exact hz) (λh' t1 t2=>by simp only[upG]at hK;exact hK h' t1 aa)
  rw[tl,e1]at ih;simp(disch:=try exact ae)[cl,rs1];exact lo ih
theorem L9(z:Int):(sgn z<0)↔z<0:=by unfold sgn;split<;>(try split)<;>omega
theorem ZN(c:Nat)(m:List RwL):∀(r i:Nat)(a:Int),(a<0∨fC m a.toNat c≠0)->(atG RwL.z RwL.r c m r i a<0∨fC m (atG RwL.z RwL.r c m r i a).toNat c≠0)
 |0,_,_,h=>h
 | r+1,i,a,h=>by
  simp only[atG];refine ZN c m r (i+1) _ ?_
  grind
theorem Er(c o:Nat):∀(r i:Nat)(x:Bool)(m:List RwL)(k:Nat),k<i->i+r<=m.length->nR (kU RwL.z RwL.r RwL.w c o r i x m).2 k=nR m k
 |0,_,_,_,_,_,_=>rfl
 | r+1,i,x,m,k,hk,hl=>by
  simp only[kU];rw[Er c o r (i+1) _ _ k aa (by grind[mA])];unfold nR iW;rw[jV _ _ _ _ _ aa,if_neg aa]
theorem Vu(l:LiQ)(c:Nat):nth 0 (l.map (- ·)) c = -(nth 0 l c):=by grind[nth]
theorem ab3(h:bdE Bd l):bdE Bd (l.map (- ·)):=λx hx=>by
 obtain⟨y,hy,rfl⟩:=Zx.1 hx;rw[X0];exact h y hy
theorem ahr{n:Nat}(ho:h[so]?=some (eo,.vars cs))(hn:cs.length=n)(hi:i<n):ixV h 1 (ouV so eo n) (I i)=some (ouP so eo n i):=by
 have hg:aw h so eo=.vars cs:=by simp[aw,ho]
 simp only[ouV,ixV,hg];rw[if_pos ⟨hn.symm,aa,aa⟩];simp[ouP]
theorem QL(hc:c<L)(hB:Bd<=100000)(hL:L<1000000)(h0:Hp)(h00:∀s,b<=s->s<h0.length->h0[s]?=some nnQ)(K:KL) :
  ∀(f o:Nat)(m:List RwL)(h:Hp)(o':Nat)(m':List RwL),Tr b gh h so eo L m->m.length<1000000->h0.length=h.length->o<m.length->nD RwL.z RwL.r RwL.w Bd c f o m=some (o',m') ->
  (∀h',Tr b gh h' so eo L m'->h'.length=h.length->K (.exit 2) [I o'] h') ->
  lp (mO (CX Y) b (ouV so eo m.length) (I c)) [b+0,b+1,b+2] h0 [I o] h K
 |0,o,m,h,o',m',T,hm,hh,ho,hf,hK=>by trivial
 | f+1,o,m,h,o',m',T,hm,hh,ho,hf,hK=>by
  refine aj ?_;simp only[nD]at hf;split at hf
  case isFalse=>cases hf
  rename_i hbd
  have bd:∀i,i<m.length->bdE Bd (nR m i).r:=λi hi x hx=>by
   have h1:=Z2.1 hbd (nR m i) (by grind[cn]);have h2:=Z2.1 h1 x hx
   grind
  obtain⟨a,ha⟩:=nmQ (atG RwL.z RwL.r c m (m.length-o) o (-1));have ha2:=OY (d:=RwL.z) (g:=RwL.r) c m (m.length-o) o (-1) aa aa;rw[<-ha]at hf ha2;simp only[mO];simp;refine lo (QK T hc hB bd hm h rfl _ (m.length-o) o (-1) aa aa aa ?_);rw[<-ha];by_cases a0:a<0
  .rw[if_pos a0]at hf;cases hf;simp[a0]
   grind
  .rw[if_neg a0]at hf;obtain⟨n,rfl⟩:∃n:Nat,a=n:=⟨a.toNat,aa⟩;rw[show((n:Int)).toNat=n by omega]at hf;have hn:n<m.length:=aa;have i1:=T.ix hn;have i2:=T.ld hn;have j1:=T.ix ho;have j2:=T.ld ho;have s1:=ae4 (h:=h) T.o ac ho (nR m n);have hso:so<h.length:=(List.getElem?_eq_some_iff.1 T.o).1
   have g1:(h.set so (eo,.vars ((m.map RwL.v).set o (nR m n).v)))[so]?=some (eo,.vars ((m.map RwL.v).set o (nR m n).v)):=List.getElem?_set_self hso;have x1:=ahr g1 (n:=m.length) ac hn;have s2:=ae4 g1 (n:=m.length) ac hn (nR m o);rw[List.set_set,TS ho hn]at s2;have T1:=T.swap ho hn;simp(disch:=try exact ae)[a0,i1,i2,j1,j2,s1,x1,s2]
   obtain⟨H2,hH2⟩:=nmQ (h.set so (eo,.vars ((lK RwL.z m o n).map RwL.v)));have lH2:H2.length=h.length:=by rw[hH2];exact Yv
   rw[<-hH2]at T1 ⊢;have sl:(lK RwL.z m o n).length=m.length:=gC ..
   have bd1:∀k,k<m.length->bdE Bd (nR (lK RwL.z m o n) k).r:=λk hk=>by
    obtain⟨k',h1,h2,_⟩:=mB ho hn hk
    grind
   have z1:fC (lK RwL.z m o n) o c=fC m n c:=by
    obtain⟨k',h1,h2,h3⟩:=mB ho hn ho;have:k'=n:=by rw[h3];split<;>simp_all
    show nth 0 (nth RwL.z (lK RwL.z m o n) o).r c=_
    rw[h2,this];rfl
   have nz:fC m n c≠0:=by
    have:=ZN c m (m.length-o) o (-1) (.inl aa);rw[<-ha]at this;rcases this with g|g
    .omega
    .trivial
   obtain⟨s,hs⟩:=nmQ (kU RwL.z RwL.r RwL.w c o (m.length-(o+1)) (o+1) false (lK RwL.z m o n));rw[<-hs]at hf;have ls:s.2.length=m.length:=by rw[hs,oX,sl]
   have ks:∀k,k<=o->nR s.2 k=nR (lK RwL.z m o n) k:=λk hk=>by rw[hs];exact Er c o _ _ _ _ k aa aa
   have e1:((o+1:Nat):Int)=(o:Int)+1:=aa;have hl3:=λK=>QJ (o:=o) hc hB hL H2 T1.ow K (m.length-(o+1)) (o+1) false (lK RwL.z m o n) H2 T1 aa rfl aa aa (bd1 o ho) (λk _ k2=>bd1 k aa) aa
   rw[<-hs,sl,e1]at hl3;refine lo (hl3 _ λh' T2 t2=>?_)
   have cl:∀(x:Int)(h'':Hp)(m2:List RwL),Tr b gh h'' so eo L m2->clean [b,b+1,b+2] [I x] h''=true:=λx h'' m2 T=>by
    simp only[clean,Z7];exact⟨rfl,uV (b:=b) ac T.u 0⟩
   have rs1:aL [b,b+1,b+2] 0 h0 h'=h':=uk (b:=b) ac 0 h0 h' aa λs h1' h2'=>⟨T2.ow s aa h2',h00 s aa aa⟩
   by_cases hr:s.1=true
   .rw[if_pos hr]at hf;have ih:=QL hc hB hL h0 h00 K f o s.2 h' o' m' T2 aa aa aa hf (λh3 a1 a2=>hK h3 a1 aa);rw[ls]at ih;simp[hr,cl _ h' s.2 T2,rs1];trivial
   .have hr2:s.1=false:=by simpa using hr
    rw[if_neg hr]at hf;have hos:o<s.2.length:=aa;have i1':=T2.ix hos;have i2':=T2.ld hos;have i3':=T2.ix2 hos hc;have i4':=T2.ld2 hos hc;rw[ls]at i1' i2';have bds:∀k,k<=o->bdE Bd (nR s.2 k).r:=λk hk=>by rw[ks k hk];exact bd1 k aa
    have zs:fC s.2 o c≠0:=by
     show nth 0 (nR s.2 o).r c≠0
     rw[ks o (Z8 _)];have:nth 0 (nR (lK RwL.z m o n) o).r c=fC m n c:=z1;rw[this];exact nz
    have tail:∀(m3:List RwL)(h3:Hp),Tr b gh h3 so eo L m3->h3.length=h.length->m3.length=m.length->(∀k,k<=o->bdE Bd (nR m3 k).r)->fC m3 o c≠0->upG RwL.z RwL.r RwL.w c o o 0 m3=m'->(o:Int)+1=(o':Int) ->
      lp (gv (CX Y) b (ouV so eo m.length) (I o) (I c) (I o)) [b+2] h3 [.d (.int .i64 0)] h3 (exK [((.exit 8),λl21 h=>
       bnd (biI .add (I o) (.d (.int .i64 1))) λv22=>
       K (.exit 2) [v22] h)]):=by
     intro m3 h3 T3 l3 lm b3 z3 hu ho'
     have q:=QI (o:=o) hc hB hL h3 T3.ow (exK [((.exit 8),λl21 h=>
       bnd (biI .add (I o) (.d (.int .i64 1))) λv22=>
       K (.exit 2) [v22] h)]) o 0 m3 h3 T3 aa rfl aa aa (b3 o (Z8 _)) (λk _ k2=>b3 k aa) z3 (λh4 T4 t4=>by
        rw[hu]at T4;simp(disch:=try exact ae);rw[ho'];exact hK h4 T4 aa)
     rw[lm]at q;exact q
    cases hf;simp[hr2,i1',i2',i3',i4'];refine cd (qJ _) ?_;by_cases hneg:fC s.2 o c<0
    .have sg1:=(L9 (fC s.2 o c)).2 hneg;simp[sg1];refine aH ?_;simp[i1',i2'];refine gK (Oh hB (T2.r o hos) (bds o (Z8 _)) (by grind[Tr.ln]) T2.hu) ?_ ac;simp;have T3:=T2.row hos (r:=(nR s.2 o).r.map (- ·)) (by grind[Tr.ln]);have eN:Bt RwL.z RwL.r RwL.w c o s.2=s.2.set o ((nR s.2 o).w ((nR s.2 o).r.map (- ·))):=by unfold Bt;rw[if_pos hneg]
     refine lo (tail _ _ T3 (by grind) (by grind) (λk hk=>?_) ?_ (by rw[eN]) e1.symm)
     .unfold nR;rw[jV _ _ _ _ _ hos];split
      .exact ab3 (bds o (Z8 _))
      grind
     ·have:fC (s.2.set o ((nR s.2 o).w ((nR s.2 o).r.map (- ·)))) o c = -(fC s.2 o c):=by
       show nth 0 (nth RwL.z _ o).r c=_
       rw[jV _ _ _ _ _ hos,if_pos rfl];exact Vu _ _
      omega
    .have sg1:¬sgn (fC s.2 o c)<0:=λg=>hneg ((L9 _).1 g)
     simp[sg1];refine aH ?_;simp;have eN:Bt RwL.z RwL.r RwL.w c o s.2=s.2:=by unfold Bt;rw[if_neg hneg]
     exact lo (tail s.2 h' T2 aa ls bds zs (by rw[eN]) e1.symm)
variable{b so eo L:Nat}{gh:Hp}{Bd c:Nat}
theorem Bg(c:Nat):∀(f o:Nat)(m:List RwL)(o':Nat)(m':List RwL),o<m.length->nD RwL.z RwL.r RwL.w Bd c f o m=some (o',m')->o'<=m.length∧m'.length=m.length
 |0,o,m,o',m',ho,hf=>by trivial
 | f+1,o,m,o',m',ho,hf=>by
  simp only[nD]at hf;split at hf
  case isFalse=>cases hf
  split at hf
  .cases hf;exact⟨aa,rfl⟩
  .split at hf
   .have:=Bg c f o _ o' m' (by grind[oX,gC]) hf
    grind[oX,gC]
   .cases hf;exact⟨aa,by rw[O7,Fi,oX,gC]⟩
theorem QM{cols f:Nat}(hB:Bd<=100000)(hL:L<1000000)(hcl:cols<=L)(h0:Hp)(h00:∀s,b<=s->s<h0.length->h0[s]?=some nnQ)(K:KL) :
  ∀(r c o:Nat)(m:List RwL)(h:Hp)(o':Nat)(m':List RwL),Tr b gh h so eo L m->m.length<1000000->h0.length=h.length->o<=m.length->c+r=cols->pC RwL.z RwL.r RwL.w Bd f r c o m=some (o',m') ->
  (∀h',Tr b gh h' so eo L m'->h'.length=h.length->o'<=m'.length->m'.length=m.length->K (.exit 0) [I o'] h') ->
  lp (gz (CX Y) b (ouV so eo m.length) (I cols)) [b+0,b+1,b+2] h0 [I o,I c] h K
 | 0,c,o,m,h,o',m',T,hm,hh,ho,hc,hf,hK=>by
  refine aj ?_;simp only[pC]at hf;cases hf;have hlt:¬((c:Int)<(cols:Int)):=aa;simp only[gz];simp[hlt]
  grind
 | r+1,c,o,m,h,o',m',T,hm,hh,ho,hc,hf,hK=>by
  refine aj ?_;simp only[pC]at hf;have hlt:((c:Int)<(cols:Int)):=aa;have l1:aQ (ouV so eo m.length)=some (I m.length):=rfl;simp only[gz];by_cases hom:o<m.length
  .rw[if_pos hom]at hf;have hom2:((o:Int)<(m.length:Int)):=aa;cases hr:nD RwL.z RwL.r RwL.w Bd c f o m with
   |none=>grind
   | some q=>
    obtain⟨o1,m1⟩:=q;rw[hr]at hf;simp only at hf;obtain⟨r1,r2⟩:=Bg c f o m o1 m1 hom hr;simp[hlt,l1,hom2];refine lo (QL (c:=c) aa hB hL h T.ow _ f o m h o1 m1 T hm rfl hom hr λh' T1 t1=>?_)
    have cl:clean [b,b+1,b+2] [I (o1:Int),I ((c:Int)+1)] h'=true:=by
     simp only[clean,Z7];exact⟨rfl,uV (b:=b) ac T1.u 0⟩
    have rs1:aL [b,b+1,b+2] 0 h0 h'=h':=uk (b:=b) ac 0 h0 h' aa λs h1' h2'=>⟨T1.ow s aa h2',h00 s aa aa⟩
    have ih:=QM hB hL hcl h0 h00 K r (c+1) o1 m1 h' o' m' T1 aa aa aa aa hf (λh2 a1 a2 a3 a4=>hK h2 a1 aa a3 aa);have e1:((c+1:Nat):Int)=(c:Int)+1:=aa;rw[r2,e1]at ih;simp(disch:=try exact ae)[cl,rs1];trivial
  .rw[if_neg hom]at hf;cases hf;have hom2:¬((o:Int)<(m.length:Int)):=aa;simp[hlt,l1,hom2]
   grind
theorem Tr.eq{b so eo L:Nat}{gh h1 h2:Hp}{m:List RwL}(T1:Tr b gh h1 so eo L m)(T2:Tr b gh h2 so eo L m):h1=h2:=by
 apply Yi;intro i;by_cases e:i=so
 .subst e;rw[T1.o,T2.o]
 .by_cases e2:∃k,k<m.length∧(nth RwL.z m k).s=i
  .grind[r]
  .have hn:∀k,k<m.length->(nth RwL.z m k).s≠i:=λk hk he=>e2 ⟨k,hk,he⟩
   rw[T1.fr i e hn,T2.fr i e hn]
theorem Tr.app{b so eo L:Nat}{gh h:Hp}{m:List RwL}(T:Tr b gh h so eo L m)(hb:h.length=b)(hg:gh.length=b)(n:Nat):Tr b (gh++List.replicate n nnQ) (h++List.replicate n nnQ) so eo L m where
 o:=by rw[List.getElem?_append_left (by have:=T.so;omega)];exact T.o
 r:=λi hi=>by rw[List.getElem?_append_left (by have:=T.sb i hi;omega)];grind[r]
 nd:=T.nd
 no:=T.no
 ln:=T.ln
 fr:=λs hs hn=>by
  by_cases hlt:s<b
  .rw[List.getElem?_append_left aa,List.getElem?_append_left aa];grind[fr]
  .rw[List.getElem?_append_right aa,List.getElem?_append_right aa,hb,hg]
 so:=T.so
 sb:=T.sb
 u:=by
  grind[u,ax]
 bl:=by grind
 ow:=λs hs hl=>by
  rw[List.getElem?_append_right aa,List.getElem?_replicate,if_pos (by grind)]
theorem aff{h:Hp}{so eo n k:Nat}(hg:h[so]?=some (eo,.vars cs))(hc:cs.length=n)(hk:k<=n):slV h 1 (ouV so eo n) none (some (I k))=some (.ref so eo 0 k n n):=by
 have g:aw h so eo=.vars cs:=by simp[aw,hg]
 simp only[ouV,slV,g,boV];rw[if_pos ⟨aa,aa⟩]
 grind
theorem Fz{h h':Hp}{so eo L cols f o':Nat}{m m':List RwL}{Bd:Nat}(hB:Bd<=100000)(hL:L<1000000)(hm:m.length<1000000)(hcl:cols<=L)(T:Tr h.length h h so eo L m)
  (hf:F8 RwL.z RwL.r RwL.w Bd f cols m=some (o',m')) (T':Tr h.length h h' so eo L m') (hl:h'.length=h.length) :
  CI Y F.bX [ouV so eo m.length,I cols] h (.ref so eo 0 o' m.length m.length) h':=by
 refine qN ?_;simp only[bX];simp;have T0:=T.app rfl rfl 3;refine lo (QM hB hL hcl (h++List.replicate 3 nnQ) T0.ow _ cols 0 0 m _ o' m' T0 hm rfl aa aa hf λH TH lH ho hlm=>?_);have e:=TH.eq (T'.app hl rfl 3);subst e;have sl:=aff (k:=o') TH.o (n:=m.length) (by grind) aa
 have sl':slV (h'++[(0,Bk.none),(0,Bk.none),(0,Bk.none)]) 1 (ouV so eo m.length) none (some (I o'))=some (.ref so eo 0 o' m.length m.length):=sl;simp[sl'];refine⟨by rw[Yd hl],T'.u,.inl ⟨rfl,?_⟩⟩
 grind[under,Wy,Tr.so]
theorem acR{s s' e i cap tot by_:Nat}{old:LdQ}{ex:Bool}{x:D}{h:Hp}{q:kkQ}{u:PU q}(hg:h[s']?=some (e,.data 1 old ex false))(hi:i<cap)(hc:cap<=old.length)(ht:tot=old.length)
  (hq:q (.ref s' e 0 (i+1) cap tot) (h.set s' (e,.data 1 (old.set i x) ex false))):rh (apV false s 1 by_ (.ref s' e 0 i cap tot) (.d (.sl 1 [x])) h) q u:=by
 subst ht;have g:aw h s' e=.data 1 old ex false:=by simp[aw,hg]
 show apV false s 1 by_ _ _ h q
 simp only[apV,cellsOf];rw[if_pos ac];unfold apC;rw[if_neg af];simp only[g];rw[if_pos ⟨trivial,trivial,aa,aa,ac⟩,if_pos aa];simp only[Bool.or_self,Zd,if_false,bY];have e1:old.set i x=old.take i++x::old.drop (i+1):=by rw[Yk,if_pos aa]
 grind
structure Rd(h:Hp)(x:V)(r:LiQ):Prop where
 n:aQ x=some (I r.length)
 g:∀(t:Hp)(j:Nat),j<r.length->∃p,ixV (h++t) 1 x (I j)=some p∧ld1 (h++t) p=some (I (nth 0 r j))
theorem Rd.data(h:Hp)(r:LiQ):Rd h (lst di r) r where
 n:=by rfl
 g:=λt j hj=>⟨_,oE di r _ (i:=(j:Int)) aa aa,by
  simp_all⟩
def lgB(r:LiQ)(n i:Nat):Nat×Bk:=(1,.data 1 ((r.take i).map sI++List.replicate (n-i) (.str [])) true false)
theorem aaZ(hi:i<r.length):((r.take i).map sI++List.replicate (r.length-i) (D.str [])).set i (sI (nth 0 r i))=(r.take (i+1)).map sI++List.replicate (r.length-(i+1)) (.str []):=by
 have e1:List.replicate (r.length-i) (D.str [])=.str []::List.replicate (r.length-(i+1)) (.str []):=by
  rw[<-List.replicate_succ];congr 1;omega
 have e2:r.take (i+1)=r.take i++[nth 0 r i]:=by rw[List.take_succ_eq_append_getElem hi,cn _ _ _ hi]
 have hl:((r.take i).map sI).length=i:=by simp;omega
 rw[e1,e2,Y3 _ _ aa,hl,Ze];simp
theorem HU{h:Hp}{x:V}{r:LiQ}(hr:Rd h x r)(hz:∀z∈r,-9223372036854775808<z∧z<9223372036854775808)(hn:r.length<1000000)(h0:Hp)(hh:h0.length=h.length+2)(K:KL) :
  ∀(k i:Nat),i+k=r.length->K (.exit 0) [.ref h.length 1 0 r.length r.length r.length] (h++[lgB r r.length r.length,nnQ]) ->
  lp (m6 (CX Y) h.length x (I r.length)) [] h0 [.ref h.length 1 0 i r.length r.length,I i] (h++[lgB r r.length i,nnQ]) K
 | 0,i,hk,hK=>by
  refine aj ?_;have hlt:¬((i:Int)<(r.length:Int)):=aa;have:i=r.length:=aa;subst this;simp only[m6];simp[hlt];exact hK
 | k+1,i,hk,hK=>by
  refine aj ?_;have hlt:((i:Int)<(r.length:Int)):=aa;have hi:i<r.length:=aa;obtain⟨p,p1,p2⟩:=hr.g [lgB r r.length i,nnQ] i hi;obtain⟨z1,z2⟩:=hz (nth 0 r i) (fG hi);simp only[m6];simp[hlt,p1,p2];refine cd (kY z1 z2) ?_
  have hli:dX 1 [D.str []] [(0,S (itoa (nth 0 r i)))] (h++[lgB r r.length i,nnQ])=some ([sI (nth 0 r i)],h++[lgB r r.length i,nnQ]):=by
   simp[dX,iP,kT,toD,norm,sI]
  simp[hli];refine acR (i:=i) (e:=1) (old:=(r.take i).map sI++List.replicate (r.length-i) (.str [])) (ex:=true) (by simp[lgB]) hi (by grind) (by grind) ?_;rw[aaZ hi,Y3 _ _ (Z8 _),Ze];have e1:((i+1:Nat):Int)=(i:Int)+1:=aa;have ih:=HU hr hz hn h0 hh K k (i+1) aa hK;rw[e1]at ih
  simp(disch:=try exact ae)[List.set_cons_zero]
  simp_all[lgB]
theorem Sr(n:Nat)(z:D):iP n [z]=List.replicate n z:=by
 induction n with
 |zero=>rfl
 |succ n ih=>grind[iP]
theorem Mf{s e by_ n:Nat}{b0:Bk}{z:D}{h:Hp}{k:kkQ}{u:PU k}(hs:h[s]?=some (e,b0))(hb:(by_:Int)*(n:Int)<=281474976710656)(hn:n<=1000000)
  (hk:k (.ref s (e+1) 0 0 n n) (h.set s (e+1,.data 1 (List.replicate n z) true false))):rh (mkS s by_ [z] h (I 0) (I n)) k u:=by
 show mkS s by_ [z] h (I 0) (I n) k
 simp only[mkS];rw[if_pos ⟨aa,aa,ac,hb,aa⟩]
 grind[new,Sr]
theorem BC{h:Hp}{x:V}(hr:Rd h x r)(hz:∀z∈r,-9223372036854775808<z∧z<9223372036854775808)(hn:r.length<1000000)(hu:(h.all λx=>ax h.length x.2)=true):
  CI Y F.fR [x] h (.new 1 (r.map sI) true r.length r.length) h:=by
 refine BF ?_;simp only[fR];have l1:=hr.n;have hn2:(16:Int)*(r.length:Int)<=281474976710656:=aa;simp[l1];refine Mf (e:=0) (b0:=.none) ac hn2 aa ?_;rw[Y3 _ _ (Z8 _),Ze];simp[l1]
 have lp1:=HU hr hz hn (h++[(1,Bk.data 1 (List.replicate r.length (D.str [])) true false),(0,Bk.none)]) ac (exK
      [(Exit.exit 0,λl4 h_2=>
        mN (List.length h) (V.new 1 (List.map sI r) true r.length r.length) h (ge l4 0) h_2)]) r.length 0 aa (by
   simp;refine⟨ac,?_,.inr (.inr (.inl ⟨h.length,1,r.length,r.length,1,r.map sI,true,ac,Z8 _,by simp[aw,lgB],rfl⟩))⟩;exact hu)
 trivial
theorem Tn{h:Hp}{n:Nat}(hn:n<1000000)(hu:(h.all λx=>ax h.length x.2)=true):
  CI Y F.km [I n] h (.new 1 ((List.replicate n 0).map sI) true n n) h:=by
 refine CZ ?_;simp only[km];simp(disch:=try exact ae);obtain⟨H,hH⟩:=nmQ (h++[(1,Bk.data 1 (List.replicate n (D.int IntKind.i64 0)) true false),(0,Bk.none)])
 have hg:∀t:Hp,aw (H++t) h.length 1=.data 1 (List.replicate n (D.int IntKind.i64 0)) true false:=λt=>by
  have:(H++t)[h.length]?=some (1,Bk.data 1 (List.replicate n (D.int IntKind.i64 0)) true false):=by
   rw[hH,List.append_assoc,List.getElem?_append_right (Z8 _),Ze];rfl
  grind[aw]
 have hr:Rd H (.ref h.length 1 0 n n n) (List.replicate n 0):=by
  refine⟨ac,λt j hj=>⟨.ptr h.length 1 j n,?_,?_⟩⟩
  .rw[Zb]at hj;simp only[ixV,hg t];rw[if_pos ⟨ac,aa,aa⟩];simp
  .rw[Zb]at hj;simp only[ld1,hg t];rw[if_pos ac];have e2:nth 0 (List.replicate n (0:Int)) j=0:=by simp[nth,hj]
   grind
 have hu2:(H.all λx=>ax H.length x.2)=true:=by
  refine tZ (b:=h.length) (by grind) ?_;rw[hH,Za,hu];simp[ax]
 have lg:=BC hr (λz hz=>by grind) (by grind) hu2;rw[<-hH];refine gr lg (s:=h.length+1) (e:=0) (b:=.none) (by grind) ?_;refine⟨by grind,hu,.inr (.inr (.inl ⟨h.length+1,1,n,n,1,(List.replicate n 0).map sI,true,ac,aa,?_,rfl⟩))⟩
 have:(H.set (h.length+1) (0+1,Bk.data 1 ((List.replicate n 0).map sI) true false))[h.length+1]?=some (1,Bk.data 1 ((List.replicate n 0).map sI) true false):=by
  rw[List.getElem?_set_self (by grind)]
 grind[aw]
end Go.Vm
