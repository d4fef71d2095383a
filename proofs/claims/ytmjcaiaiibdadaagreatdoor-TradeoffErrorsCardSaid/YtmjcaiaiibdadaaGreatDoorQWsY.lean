/- Lemmas. -/
import Derived.Test.YtmjcaiaiibdadaaGreatDoorQDcY
set_option linter.unusedVariables false
set_option linter.unusedSimpArgs false
namespace Go.Vm
open Go Go.Am Go.Big
variable{a g d j s i:Nat}{n:Int}{x:Nat×Bk}{α β:Type}{l r:LiQ}{clr:LnQ}{cs:LwQ}
theorem rR{z:Int}{w:Nat}(h:sdg z<=w):z.natAbs<10^w:=by
 have:ndg z.natAbs<=w:=by unfold sdg at h;omega
 exact Z3 (cQ _) (Zz af this)
theorem kY{z:Int}(h1 : -9223372036854775808<z)(h2:z<9223372036854775808):CP Y F.eH [I z] (S (itoa z)):=by refine Eo ?_;simp[eH];refine cd (D6 h1 h2) ?_;exact gr rfl
theorem DW{b k:Nat}(ha:ndg a<=k)(hb:ndg b<=k):ndg (a+b)<=k+1:=by have h1:a<10^k:=Z3 (cQ a) (Zz af ha);have h2:b<10^k:=Z3 (cQ b) (Zz af hb);exact gK (by rw[Nat.pow_succ];omega) aa
theorem aaz{z w:Int}(hz:ndg z.natAbs<999999)(hw:ndg w.natAbs<999999): 
  cal (CX Y).p [] (.fn F.aQ [] []) [S (itoa z)] λv6 h=>
  ext v6 0 λv7=>
  ext v6 1 λv8=>
  cal (CX Y).p h (.fn F.aQ [] []) [S (itoa w)] λv9 h=>
  ext v9 0 λv10=>
  ext v9 1 λv11=>
  bnd (biB .eql v7 v10) λv12=>
  cnd v12 (
   cal (CX Y).p h (.fn F.gy [] []) [v8,v11] λv13 h=>
   cal (CX Y).p h (.fn F.cM [] []) [v7,v13] λv14 h=>
   out (S (itoa (z+w))) v14 h) (
   cal (CX Y).p h (.fn F.cn [] []) [v8,v11] λv15 h=>
   bnd (biI .lss v15 (.d (.int .i64 0))) λv16=>
   jn (λl17 h=>
    cal (CX Y).p h (.fn F.ic [] []) [(ge l17 1),(ge l17 2)] λv19 h=>
    ext v19 0 λv20=>
    ext v19 1 λv21=>
    cal (CX Y).p h (.fn F.cM [] []) [(ge l17 0),v20] λv22 h=>
    out (S (itoa (z+w))) v22 h) λq18=>
    cnd v16 (
     q18 [v10,v11,v8] h) (
     q18 [v7,v8,v11] h)):=by
 simp;refine cd (px z) ?_;simp;refine cd (px w) ?_;have eb:biB .eql (B (decide (z<0))) (B (decide (w<0)))=some (B (decide (z<0) == decide (w<0))):=rfl;simp[eb];by_cases hs:(z<0↔w<0)
 .simp[hs];refine cd (zp (a:=z.natAbs) (b:=w.natAbs) aa aa) ?_;simp;have hk:ndg (z.natAbs+w.natAbs)<=999999:=DW aa aa;refine cd (hO (decide (z<0)) (n:=z.natAbs+w.natAbs) aa) ?_;refine gr ?_;congr 1;unfold sg;by_cases h:z<0
  .simp[h];omega
  .simp[h];omega
 .simp[hs];refine cd (sk (a:=z.natAbs) (b:=w.natAbs) aa aa) ?_;simp;by_cases hlt:z.natAbs<w.natAbs
  .have hc:Big.cmp z.natAbs w.natAbs<0:=by rw[Ki hlt];decide
   refine gQ (l:=[B (decide (w<0)),S (ah w.natAbs),S (ah z.natAbs)]) (h:=[]) (λq=>by simp[hc]) ?_;simp;refine cd (xW (a:=w.natAbs) (b:=z.natAbs) aa aa) ?_;simp;refine cd (hO (decide (w<0)) (n:=w.natAbs-z.natAbs) (Y6 (fk (Nat.sub_le ..)) aa)) ?_;refine gr ?_;congr 1;unfold sg;by_cases h:w<0
   .simp[h];omega
   .simp[h];omega
  ·have hc:¬Big.cmp z.natAbs w.natAbs<0:=by
    rcases Nat.eq_or_lt_of_not_lt hlt with h|h
    .rw[h,cmp_eq];decide
    .rw[Kl h];decide
   refine gQ (l:=[B (decide (z<0)),S (ah z.natAbs),S (ah w.natAbs)]) (h:=[]) (λq=>by simp[hc]) ?_;simp;refine cd (xW (a:=z.natAbs) (b:=w.natAbs) aa aa) ?_;simp;refine cd (hO (decide (z<0)) (n:=z.natAbs-w.natAbs) (Y6 (fk (Nat.sub_le ..)) aa)) ?_;refine gr ?_;congr 1;unfold sg;by_cases h:z<0
   .simp[h];omega
   .simp[h];omega
theorem zz{z w:Int}(hz:ndg z.natAbs<999999)(hw:ndg w.natAbs<999999):CP Y F.kS [S (itoa z),S (itoa w)] (S (itoa (z+w))):=by
 refine KS ?_;have l1:=pj z 18 af;have l2:=pj w 18 af;have tl:=aaz hz hw;simp[kS];refine cd l1 ?_;by_cases h1:sdg z<=18
 .rw[if_pos h1];simp;by_cases h2:sdg w<=18
  .rw[if_pos h2]at l2;refine aM ?_;simp;refine cd l2 ?_;have b1:=rR h1;have b2:=rR h2;simp only[Nat.reducePow]at b1 b2;obtain⟨m,hm⟩:=mnQ (z+w);rw[hm];simp(disch:=try exact ae)[hm];refine cd (kY (z:=m) aa aa) ?_;exact gr rfl
  .rw[if_neg h2]at l2;refine aM ?_;simp;refine cd l2 ?_;simp;simpa using tl
 .rw[if_neg h1];simp;refine aM ?_;simp;simpa using tl
theorem pL{z w:Int}(hz:ndg z.natAbs<400000)(hw:ndg w.natAbs<400000):CP Y F.bN [S (itoa z),S (itoa w)] (S (itoa (z*w))):=by
 refine KP ?_;have l1:=pj z 9 af;have l2:=pj w 9 af;have dm:=IC (a:=z.natAbs) (b:=w.natAbs) aa aa
 have hk:ndg (z.natAbs*w.natAbs)<1000000:=by
  have h1:=cQ z.natAbs;have h2:=cQ w.natAbs;have h3:z.natAbs*w.natAbs<10^(ndg z.natAbs+ndg w.natAbs):=by rw[X7];exact Yo h1 h2
  have:=gK h3 (by have:=lZ z.natAbs;omega);omega
 have e:sg (decide (z<0) !=decide (w<0)) (z.natAbs*w.natAbs)=z*w:=by
  unfold sg;by_cases h1:z<0<;>by_cases h2:w<0
  .simp[h1,h2];rw[Xj aa,Xj aa,Int.neg_mul_neg]
  .simp[h1,h2];rw[Xj aa,Xe aa,Int.neg_mul,Wc]
  .simp[h1,h2];rw[Xe aa,Xj aa,Int.mul_neg,Wc]
  .simp[h1,h2];rw[Xe aa,Xe aa]
 have eb:biB .neq (B (decide (z<0))) (B (decide (w<0)))=some (B (decide (z<0) !=decide (w<0))):=rfl;have jo:=hO (decide (z<0) !=decide (w<0)) hk;rw[e]at jo
 have tail:∀u:Unit,cal (CX Y).p [] (.fn F.aQ [] []) [S (itoa z)] λv6 h=>
  ext v6 0 λv7=>
  ext v6 1 λv8=>
  cal (CX Y).p h (.fn F.aQ [] []) [S (itoa w)] λv9 h=>
  ext v9 0 λv10=>
  ext v9 1 λv11=>
  bnd (biB .neq v7 v10) λv12=>
  cal (CX Y).p h (.fn F.km [] []) [v8,v11] λv13 h=>
  cal (CX Y).p h (.fn F.cM [] []) [v12,v13] λv14 h=>
  out (S (itoa (z*w))) v14 h:=by
  intro _;simp;refine cd (px z) ?_;simp;refine cd (px w) ?_;simp[eb];refine cd dm ?_;simp;refine cd jo ?_;exact gr rfl
 simp[bN];refine cd l1 ?_;by_cases h1:sdg z<=9
 .rw[if_pos h1];simp;by_cases h2:sdg w<=9
  .rw[if_pos h2]at l2;refine aM ?_;simp;refine cd l2 ?_;have b1:=rR h1;have b2:=rR h2
   have hmb:(z*w).natAbs<1000000000000000000:=by
    rw[Y7];exact Yo b1 b2
   obtain⟨m,hm⟩:=mnQ (z*w);rw[hm]at hmb ⊢;simp(disch:=try exact ae)[hm];refine cd (kY (z:=m) aa aa) ?_;exact gr rfl
  .rw[if_neg h2]at l2;refine aM ?_;simp;refine cd l2 ?_;simp;simpa using tail ()
 .rw[if_neg h1];simp;refine aM ?_;simp;simpa using tail ()
theorem jE(n:Nat):itoa (n:Int)=ah n:=by rfl
theorem aa2(n:Nat):sgn (n:Int)=if n=0 then 0 else 1:=by
 unfold sgn;by_cases h:n=0
 .simp[h]
 .rw[if_neg aa,if_neg aa,if_neg h]
theorem Lu(n:Nat):CP Y F.dV [S (ah n)] (I (if n=0 then 0 else 1)):=by
 have:=qO (n:Int)
 grind[jE,aa2]
theorem T5{b:Nat}(ha:ndg a<1000000)(hb:ndg b<1000000):CP Y F.fR [S (ah a),S (ah b)] (I (Big.cmp a b)):=by
 refine vL ?_;have s1:=Lu a;have s2:=Lu b;simp[fR];by_cases h1:a=0
 .rw[if_pos h1]at s1;by_cases h2:b=0
  .rw[if_pos h2]at s2;refine cd s1 ?_;simp;refine cd s2 ?_;simp;refine cd (uj a) ?_;simp;refine cd (uj b) ?_;simp;refine gQ (l:=[S (ah a),S (ah b)]) (h:=[]) (λq=>by simp) ?_;simp;refine cd (sk ha hb) ?_;simp
  .rw[if_neg h2]at s2;refine cd s1 ?_;simp;refine cd s2 ?_;simp;exact aW (Ki aa).symm
 .rw[if_neg h1]at s1;by_cases h2:b=0
  .rw[if_pos h2]at s2;refine cd s1 ?_;simp;refine cd s2 ?_;simp;exact aW (Kl aa).symm
  .rw[if_neg h2]at s2;refine cd s1 ?_;simp;refine cd s2 ?_;simp;refine cd (uj a) ?_;simp;refine cd (uj b) ?_;simp;refine gQ (l:=[S (ah a),S (ah b)]) (h:=[]) (λq=>by simp) ?_;simp;refine cd (sk ha hb) ?_;simp
theorem vC{b:Nat}(hb:0<b):(-(a:Int))/(b:Int)=(if a%b=0 then -((a/b:Nat):Int)else -((a/b+1:Nat):Int))∧(-(a:Int))%(b:Int)=(if a%b=0 then 0 else((b-a%b:Nat):Int)):=by
 have h1:=W7 a b;have h2:=Yy a hb;have hbz:(b:Int)>0:=aa;generalize a%b=r at *;generalize a/b=q at *;by_cases h:r=0
 .subst h;simp only[if_true]
  have e:(-(a:Int))=(b:Int)*(-(q:Int)):=by
   rw[Int.mul_neg,<-Int.natCast_mul];congr 1;omega
  rw[e];exact⟨Int.mul_ediv_cancel_left _ aa,Int.mul_emod_right _ _⟩
 .simp only[if_neg h]
  have e:(-(a:Int))=((b-r:Nat):Int)+(b:Int)*(-((q+1:Nat):Int)):=by
   have:(a:Int)=(b:Int)*q+r:=by rw[<-Int.natCast_mul];omega
   rw[this,Int.mul_neg,Int.natCast_add,Int.mul_add];have:((b-r:Nat):Int)=(b:Int)-r:=aa;omega
  have l1:(0:Int)<=((b-r:Nat):Int):=aa;have l2:((b-r:Nat):Int)<(b:Int):=aa;rw[e];constructor
  .rw[Int.add_mul_ediv_left _ _ aa,Int.ediv_eq_zero_of_lt l1 l2,Int.zero_add]
  .rw[Int.add_mul_emod_self_left,Int.emod_eq_of_lt l1 l2]
theorem DV:ndg 1=1:=aJ
theorem oY{a b a' b':LuQ}{c:Int}{h:Hp}(e1:a'=a)(e2:b'=b):out (.tup [S a,S b,I c]) (.tup [S a',S b',I c]) h:=by simp_all[jB]
theorem ab6{z:Int}{b:Nat}(hb:0<b)(hz:ndg z.natAbs<900000)(hbd:ndg b<900000):
   cal (CX Y).p [] (.fn F.aQ [] []) [S (itoa z)] λv7 h=>
   ext v7 0 λv8=>
   ext v7 1 λv9=>
   cal (CX Y).p h (.fn F.aQ [] []) [S (ah b)] λv10 h=>
   ext v10 0 λv11=>
   ext v10 1 λv12=>
   cal (CX Y).p h (.fn F.d9 [] []) [v9,v12] λv13 h=>
   ext v13 0 λv14=>
   ext v13 1 λv15=>
   ext v13 2 λv16=>
   bnd (biI .neq v16 (.d (.int .i64 0))) λv17=>
   cnd v17 (
    out (.tup [S (itoa (z/b)),S (itoa (z%b)),I 0]) (.tup [(.d (.str [])),(.d (.str [])),v16]) h) (
    bnd (biB .neq v8 v11) λv18=>
    gd v18 true h (λq=>q v15 h) λv19 h=>
    gd v18 true h (λq=>bnd (biS .neq v19 (.d (.str [48]))) λv=>q v h) λv20 h=>
    bnd (nL v18 v20 (.d (.bool false))) λv21=>
    jn (λl22 h=>
     bnd (biB .neq v8 v11) λv24=>
     cal (CX Y).p h (.fn F.cM [] []) [v24,(ge l22 0)] λv25 h=>
     cal (CX Y).p h (.fn F.cM [] []) [v11,(ge l22 1)] λv26 h=>
     out (.tup [S (itoa (z/b)),S (itoa (z%b)),I 0]) (.tup [v25,v26,(.d (.int .i64 0))]) h) λq23=>
     cnd v21 (
      cal (CX Y).p h (.fn F.gy [] []) [v14,(.d (.str [49]))] λv27 h=>
      cal (CX Y).p h (.fn F.ic [] []) [v12,v15] λv28 h=>
      ext v28 0 λv29=>
      ext v28 1 λv30=>
      q23 [v27,v29] h) (
      q23 [v14,v15] h)):=by
 have hq:ndg (z.natAbs/b)<=ndg z.natAbs:=fk (Yw ..);have hr:z.natAbs%b<b:=Yy _ hb;have hr2:ndg (z.natAbs%b)<=ndg b:=fk aa
 have eb:biB .neq (B (decide (z<0))) (B false)=some (B (decide (z<0))):=by
  show some (B (decide (z<0) !=false))=_
  rw[Bool.bne_false]
 simp;refine cd (px z) ?_;simp;refine cd (uj b) ?_;simp;refine cd (xV (a:=z.natAbs) hb aa aa) ?_;by_cases hneg:z<0
 .have ez:z = -(z.natAbs:Int):=aa;obtain⟨d1,d2⟩:=vC (a:=z.natAbs) hb;rw[<-ez]at d1 d2;rw[decide_eq_true hneg]at eb ⊢;by_cases h0:z.natAbs%b=0
  .rw[if_pos h0]at d1 d2;rw[h0,eY];simp[eb];refine gQ (l:=[S (ah (z.natAbs/b)),S [48]]) (h:=[]) (λq=>by simp) ?_;simp[eb];refine cd (hO true (n:=z.natAbs/b) aa) ?_;simp;have j0:=hO false (n:=0) (by grind);rw[eY]at j0;refine cd j0 ?_;refine oY ?_ ?_
   .rw[d1];rfl
   .rw[d2];rfl
  .rw[if_neg h0]at d1 d2;have h48:¬ah (z.natAbs%b)=[48]:=λh=>h0 (kw.1 h)
   have ad:=zp (a:=z.natAbs/b) (b:=1) aa (by simp[DV]);rw[show ah 1=[49] by decide+kernel]at ad;simp[eb,h48];refine aM ?_;simp[h48];refine cd ad ?_;simp;refine cd (xW (a:=b) (b:=z.natAbs%b) aa aa) ?_;simp[eb];have hq1:ndg (z.natAbs/b+1)<=900000+1:=DW aa (by simp[DV])
   refine cd (hO true (n:=z.natAbs/b+1) aa) ?_;simp;refine cd (hO false (n:=b-z.natAbs%b) (Y6 (fk (Nat.sub_le ..)) aa)) ?_;refine oY ?_ ?_
   .rw[d1];rfl
   .rw[d2];rfl
 .rw[decide_eq_false hneg]at eb ⊢;simp[eb];refine gQ (l:=[S (ah (z.natAbs/b)),S (ah (z.natAbs%b))]) (h:=[]) (λq=>by simp) ?_;simp[eb];refine cd (hO false (n:=z.natAbs/b) aa) ?_;simp;refine cd (hO false (n:=z.natAbs%b) aa) ?_;have ez:z=(z.natAbs:Int):=aa;refine oY ?_ ?_
  .rw[ez,<-Int.natCast_ediv];rfl
  .rw[ez,<-Int.natCast_emod];rfl
theorem yC{z:Int}{b:Nat}(hb:0<b)(hz:ndg z.natAbs<900000)(hbd:ndg b<900000):CP Y F.bO [S (itoa z),S (ah b)] (.tup [S (itoa (z/b)),S (itoa (z%b)),I 0]):=by
 refine wG ?_;have l1:=pj z 18 af;have l2:=OA b 18 af;have tl:=ab6 hb hz hbd;have h48:¬ah b=[48]:=λh=>by grind[kw]
 simp[bO,h48];refine cd l1 ?_;by_cases h1:sdg z<=18
 .rw[if_pos h1];by_cases h2:ndg b<=18
  .rw[if_pos h2]at l2;simp;refine aM ?_;simp;refine cd l2 ?_;have b1:=rR h1;have b2:b<10^18:=Z3 (cQ b) (Zz af h2);simp only[Nat.reducePow]at b1 b2;have hbz:¬(b:Int)=0:=aa;obtain⟨n,hn⟩:=nmQ (z.natAbs);rw[<-hn]at b1;have hq:n/b<=n:=Yw ..;have hr:n%b<b:=Yy _ hb;by_cases hneg:z<0
   .have ez:z = -(n:Int):=aa;obtain⟨d1,d2⟩:=vC (a:=n) hb;rw[<-ez]at d1 d2;have q1:z.tdiv (b:Int) = -((n/b:Nat):Int):=by rw[ez,Int.neg_tdiv,Zu aa,<-Int.natCast_ediv]
    have q2:z.tmod (b:Int) = -((n%b:Nat):Int):=by rw[ez,Int.neg_tmod,Zv aa,<-Int.natCast_emod]
    obtain⟨q,hqq⟩:=nmQ (n/b);obtain⟨r,hrr⟩:=nmQ (n%b);rw[<-hqq]at q1 d1 hq;rw[<-hrr]at q2 d1 d2 hr;by_cases h0:r=0
    .rw[if_pos h0]at d1 d2;rw[h0]at q2;simp(disch:=try exact ae)[q1,q2];refine gQ (l:=[I (-(q:Int)),I 0]) (h:=[]) (λq=>by simp) ?_;simp;refine cd (kY (z:=-(q:Int)) aa aa) ?_;simp;refine cd (kY (z:=0) aa aa) ?_;refine oY ?_ ?_
     .rw[d1]
     .rw[d2]
    .rw[if_neg h0]at d1 d2;have r0:¬(-(r:Int))=0:=aa;have r1:(-(r:Int))<0:=aa;have r2:¬(b:Int)<0:=aa;have eb:∀x y:Bool,biB .neq (B x) (B y)=some (B (x !=y)):=λ_ _=>rfl
     simp(disch:=try exact ae)[q1,q2,r0,r1,r2,eb];refine gQ (l:=[I (-(q:Int)-1),I (-(r:Int)+b)]) (h:=[]) (λq=>by simp(disch:=try exact ae)[r0,r1,r2]) ?_;simp;refine cd (kY (z:=-(q:Int)-1) aa aa) ?_;simp;refine cd (kY (z:=-(r:Int)+b) aa aa) ?_
     grind[oY]
   .have ez:z=(n:Int):=aa;have q1:z.tdiv (b:Int)=((n/b:Nat):Int):=by rw[ez,Zu aa,<-Int.natCast_ediv]
    have q2:z.tmod (b:Int)=((n%b:Nat):Int):=by rw[ez,Zv aa,<-Int.natCast_emod]
    have d1:z/(b:Int)=((n/b:Nat):Int):=by rw[ez,<-Int.natCast_ediv]
    have d2:z%(b:Int)=((n%b:Nat):Int):=by rw[ez,<-Int.natCast_emod]
    obtain⟨q,hqq⟩:=nmQ (n/b);obtain⟨r,hrr⟩:=nmQ (n%b);rw[<-hqq]at q1 d1 hq;rw[<-hrr]at q2 d2 hr;have r1:¬((r:Int))<0:=aa;have r2:¬(b:Int)<0:=aa;have eb:∀x y:Bool,biB .neq (B x) (B y)=some (B (x !=y)):=λ_ _=>rfl
    have fin:∀h:Hp,cal (CX Y).p h (V.fn F.eH [] []) [I q] λv45 h=>
      cal (CX Y).p h (V.fn F.eH [] []) [I r] λv46 h=>out (V.tup [S (itoa (z/(b:Int))),S (itoa (z%(b:Int))),I 0]) (V.tup [v45,v46,V.d (D.int IntKind.i64 0)]) h:=by
     intro h;simp;refine cd (kY (z:=q) aa aa) ?_;simp;refine cd (kY (z:=r) aa aa) ?_;refine oY ?_ ?_
     .rw[d1]
     .rw[d2]
    by_cases h0:r=0
    .rw[h0]at q2 fin;simp(disch:=try exact ae)[q1,q2];refine gQ (l:=[I q,I 0]) (h:=[]) (λq=>by simp) ?_;exact fin []
    .have r0:¬(r:Int)=0:=aa;simp(disch:=try exact ae)[q1,q2,r0,r1,r2,eb];refine gQ (l:=[I q,I r]) (h:=[]) (λq=>by simp[r0,r1,r2]) ?_;exact fin []
  .rw[if_neg h2]at l2;simp;refine aM ?_;simp;refine cd l2 ?_;simp;trivial
 .rw[if_neg h1];simp;refine aM ?_;simp;trivial
theorem Tz{b:Nat}(ha0:0<a)(hb0:0<b)(ha:ndg a<400000)(hb:ndg b<400000):CP Y F.pG [S (ah a),S (ah b)] (S (ah (Nat.lcm a b))):=by
 refine Hh ?_;have h1:¬ah a=[48]:=λh=>by have:=kw.1 h;omega
 have h2:¬ah b=[48]:=λh=>by have:=kw.1 h;omega
 have hg:0<Nat.gcd a b:=Nat.gcd_pos_of_pos_left _ ha0;have hgl:Nat.gcd a b<=a:=Nat.gcd_le_left _ ha0;have hq:ndg (a/Nat.gcd a b)<=ndg a:=fk (Yw ..);simp[pG,h1,h2];refine cd (Q2 aa aa) ?_;simp;refine cd (xV (a:=a) (b:=Nat.gcd a b) hg aa (by have:=fk hgl;omega)) ?_;simp
 refine cd (IC (a:=a/Nat.gcd a b) (b:=b) aa aa) ?_;refine gr ?_;congr 1;rw[Nat.lcm,Zo,<-Nat.mul_div_assoc _ (Wt a b),Zo]
theorem RH(n:Nat):CP Y F.gE [S (ah n)] (S (ah n)):=by
 have:=Ba (n:Int)
 rwa [jE,Int.natAbs_natCast]at this
theorem aaK{b:Nat}(ha0:0<a)(hb0:0<b)(ha:ndg a<400000)(hb:ndg b<400000):CP Y F.qi [S (ah a),S (ah b)] (S (ah (Nat.lcm a b))):=by refine KQ ?_;simp[qi];refine cd (RH a) ?_;simp;refine cd (RH b) ?_;simp;refine cd (Tz ha0 hb0 ha hb) ?_;exact gr rfl
theorem SG{z:Int}(h:z.natAbs<9223372036854775808):CP Y F.fE [S (itoa z),I 10,I 64] (.tup [I z,.d (.pl .nilIface)]):=by
 have key:∀n:Nat,n<9223372036854775808->(ah n)≠[]∧(ah n).all pm=true∧(ah n).length<=1000∧qg 0 (ah n)=n:=by
  intro n hn;have hd:=d6 n;have hc:=ta n
  have hl:(ah n).length<=1000:=by
   have:=gK (n:=n) (d:=19) aa af;rw[ah,ba];omega
  simp only[rt,Z7]at hc
  have hall:(ah n).all pm=true:=by
   rw[<-hc.1.2];congr 1;funext c;exact digit_eq c
  exact⟨xm n,hall,hl,by rw[xS,hd]⟩
 have ho:Y.X.orc F.fE [.string ⟨⟨itoa z⟩⟩,.int .i64 10,.int .i64 64]=some (.tuple #[.int .i64 z,.nilIface]):=by
  have e:∀a,Y.X.orc F.fE a=Qe a:=λa=>rfl
  rw[e];obtain⟨k1,k2,k3,k4⟩:=key _ h;unfold Qe;simp only;rw[if_pos ⟨trivial,trivial⟩];by_cases hz:z<0
  .have e1:itoa z=45::ah z.natAbs:=by unfold itoa;rw[if_pos hz]
   rw[e1];simp only;rw[if_pos ⟨k1,k2,k3,by rw[k4];exact h⟩,k4,show(-((z.natAbs:Nat):Int))=z by omega]
  .have e1:itoa z=ah z.natAbs:=by unfold itoa;rw[if_neg hz]
   rw[e1];have hh:=sY z.natAbs;have ez:((z.natAbs:Nat):Int)=z:=aa;generalize ah z.natAbs=L at *
   have fin:(if L≠[]∧L.all pm=true∧L.length<=1000∧qg 0 L<9223372036854775808 then some (Value.tuple #[.int .i64 (qg 0 L),.nilIface])else none)=some (Value.tuple #[.int .i64 z,.nilIface]):=by
    rw[if_pos ⟨k1,k2,k3,by rw[k4];exact h⟩,k4,ez]
   split
   .rename_i l hl;exact absurd rfl hh
   .exact fin
 exact CP.orc ho (by intro x hx;simp only[Zx,Yp,or_false]at hx;rcases hx with rfl|rfl|rfl<;>rfl) rfl
theorem Bt{z:Int}(h:z.natAbs<9223372036854775808):CP Y F.lI [S (itoa z)] (.tup [I z,B true]):=by refine GK ?_;simp[lI];refine cd (SG h) ?_;simp[JC];exact cZ rfl rfl
theorem abA{n:Nat}(h:n<18446744073709551616):CP Y F.mI [.d (.int .u64 n)] (I (cS n)):=by refine Dg ?_;simp[mI];refine cd (My h) ?_;simp<;>exact aW rfl
theorem oj:ah 1=[49]:=aJ
theorem KT{b:Nat}(ha:ndg a<400000)(hb:ndg b<400000):CP Y F.bN [S (ah a),S (ah b)] (S (ah (a*b))):=by have:=pL (z:=(a:Int)) (w:=(b:Int)) (by trivial) (by trivial);trivial
theorem KU{b:Nat}(h0:0<b)(ha:ndg a<900000)(hb:ndg b<900000):CP Y F.bO [S (ah a),S (ah b)] (.tup [S (ah (a/b)),S (ah (a%b)),I 0]):=by grind[yC,jE]
theorem xL{b:Nat}:ndg (a*b)<=ndg a+ndg b:=by
 have h3:a*b<10^(ndg a+ndg b):=by rw[X7];exact Yo (cQ a) (cQ b)
 exact gK h3 (by grind[lZ])
abbrev Q:=Int×Nat
def okQ(x:Q):Prop:=0<x.2∧Nat.gcd x.1.natAbs x.2=1
def qT(x:Q):LwQ:=[S (itoa x.1),S (ah x.2)]
def mp(n:Int)(d:Nat):Q:=(n/(Nat.gcd n.natAbs d:Nat),d/Nat.gcd n.natAbs d)
def nK(a b:Q):Q:=mp (a.1*b.2+b.1*a.2) (a.2*b.2)
def pf(a b:Q):Q:=mp (a.1*b.1) (a.2*b.2)
def C9(a:Q):Q:=(-a.1,a.2)
def eU(n d:Int):Q:=if d<0 then mp (-n) d.natAbs else mp n d.natAbs
def uZ(a b:Q):Q:=eU (a.1*b.2) (a.2*b.1)
theorem ZW(h:g∣n.natAbs):(g:Int)∣n:=Int.natAbs_dvd_natAbs.1 (by simpa using h)
theorem Af(n:Int)(hd:0<d):okQ (mp n d):=by
 have hg:0<Nat.gcd n.natAbs d:=Xd _ hd;obtain⟨g,hgg⟩:=nmQ (Nat.gcd n.natAbs d);have h1:g∣n.natAbs:=by rw[hgg];exact Wt ..
 have h2:g∣d:=by rw[hgg];exact Nat.gcd_dvd_right ..
 unfold mp;rw[<-hgg]at hg ⊢;refine⟨Nat.div_pos (Wd hd h2) hg,?_⟩
 have e:(n/(g:Int)).natAbs=n.natAbs/g:=by
  rw[Int.natAbs_ediv_of_dvd (ZW h1),Int.natAbs_natCast]
 simp only[e];rw[Nat.gcd_div h1 h2,<-hgg,Nat.div_self hg]
theorem WG(h:Nat.gcd n.natAbs d=1):mp n d=(n,d):=by unfold mp;rw[h];simp
theorem QD(n:Int)(d:Nat):(mp n d).1.natAbs<=n.natAbs∧(mp n d).2<=d:=by
 obtain⟨g,hgg⟩:=nmQ (Nat.gcd n.natAbs d);have h1:g∣n.natAbs:=by rw[hgg];exact Wt ..
 unfold mp;rw[<-hgg];constructor
 .simp only;rw[Int.natAbs_ediv_of_dvd (ZW h1),Int.natAbs_natCast];exact Yw ..
 .exact Yw ..
theorem abn(k:KL)(h:Hp)(h0:Hp)(hl:h.length=h0.length):∀(m:Nat)(a b:Int),b.natAbs<=m->a.natAbs<9223372036854775807->b.natAbs<9223372036854775807 ->
  (∀c:Int,c.natAbs=Nat.gcd a.natAbs b.natAbs->k (.exit 0) [I c] h)->lp (nO (CX Y)) [] h0 [I a,I b] h k:=by
 intro m
 induction m with
 | zero=>
  intro a b hb ha hb2 hk;have hb0:b=0:=aa;subst hb0;refine aj ?_;simp[nO];exact hk a ac
 | succ m ih=>
  intro a b hb ha hb2 hk;refine aj ?_;by_cases hb0:b=0
  .subst hb0;simp[nO];exact hk a ac
  ·have hr:(a.tmod b).natAbs<b.natAbs:=by
    rw[Int.natAbs_tmod];exact Yy _ aa
   have e:Nat.gcd b.natAbs (a.tmod b).natAbs=Nat.gcd a.natAbs b.natAbs:=by
    rw[Int.natAbs_tmod,Wh,<-Nat.gcd_rec,Wh]
   simp[nO,hb0,hl];exact ih b (a.tmod b) aa aa aa (λc hc=>hk c (hc.trans e))
theorem mh{a b a' b':LuQ}{h:Hp}(e1:a'=a)(e2:b'=b):out (.agg [S a,S b]) (.agg [S a',S b']) h:=by subst e1;subst e2;exact⟨h,by simp[bV,aK,norm]⟩
theorem Q3(hd:0<d)(hn:n.natAbs<9223372036854775807)(hd2:d<9223372036854775807):CP Y F.jj [I n,I d] (.agg (qT (mp n d))):=by
 refine G5 ?_;obtain⟨g,hgg⟩:=nmQ (Nat.gcd n.natAbs d);have hg:0<g:=by rw[hgg];exact Xd _ hd
 have h1:g∣n.natAbs:=by rw[hgg];exact Wt ..
 have h2:g∣d:=by rw[hgg];exact Nat.gcd_dvd_right ..
 have hgd:g<=d:=Wd hd h2;have e1:n.tdiv (g:Int)=n/(g:Int):=Int.tdiv_eq_ediv_of_dvd (ZW h1);have e2:(d:Int).tdiv (g:Int)=((d/g:Nat):Int):=by rw[Zu aa,<-Int.natCast_ediv]
 have e3:(n/(g:Int)).natAbs<=n.natAbs:=by
  rw[Int.natAbs_ediv_of_dvd (ZW h1),Int.natAbs_natCast];exact Yw ..
 have e4:d/g<=d:=Yw ..;have eq:qT (mp n d)=[S (itoa (n/(g:Int))),S (ah (d/g))]:=by unfold qT mp;rw[<-hgg]
 rw[eq];generalize n/(g:Int)=nq at *;generalize d/g=dq at *;have i1:=D6 (z:=nq) aa aa;have i2:=D6 (z:=(dq:Int)) aa aa;rw[jE]at i2;have hg0:¬(g:Int)=0:=aa;simp[jj];refine lo (abn _ _ _ rfl (d:Int).natAbs n d (Z8 _) hn aa (λc hc=>?_));rw[Int.natAbs_natCast,<-hgg]at hc;simp
 have tail:∀u:Unit,bnd (biI .quo (I n) (I g)) λv6=>
   cal (CX Y).p [(1,.vars [.d (.str []),.d (.str [])])] (.fn F.strconv_Itoa [] []) [v6] λv7 h=>
   bnd (biI .quo (I d) (I g)) λv8=>
   cal (CX Y).p h (.fn F.strconv_Itoa [] []) [v8] λv9 h=>
   bnd (bld [(0,1),(1,1)] [.str [],.str []] [(0,v7),(1,v9)]) λv10=>
   stD h 2 (.ptr 0 1 0 2) v10 λ_ h=>
   bnd (ldA h 2 (.ptr 0 1 0 2)) λv12=>
   out (.agg [S (itoa nq),S (ah dq)]) v12 h:=by
  intro _;simp(disch:=try exact ae)[e1,e2,hg0];refine cd i1 ?_;simp(disch:=try exact ae)[e2,hg0];refine cd i2 ?_;simp;exact mh rfl rfl
 by_cases hc0:c<0
 .have hcg : -c=(g:Int):=aa;refine gQ (l:=[I g]) (h:=[(1,.vars [.d (.str []),.d (.str [])])]) (λq=>by simp(disch:=try exact ae)[hc0,hcg]) ?_;exact tail ()
 .have hcg:c=(g:Int):=aa;subst hcg;refine gQ (l:=[I g]) (h:=[(1,.vars [.d (.str []),.d (.str [])])]) (λq=>by simp[hc0]) ?_;exact tail ()
def qL(K:Nat)(x:Q):Prop:=ndg x.1.natAbs<=K∧ndg x.2<=K
theorem JN{K:Nat}(h1:ndg n.natAbs<=K)(h2:ndg d<=K):qL K (mp n d):=
 ⟨Zy (fk (QD n d).1) h1,Zy (fk (QD n d).2) h2⟩
theorem qL.mono{K L:Nat}{x:Q}(h:qL K x)(hl:K<=L):qL L x:=⟨Zy h.1 hl,Zy h.2 hl⟩
theorem CL{z w:Int}{k:Nat}(hz:ndg z.natAbs<=k)(hw:ndg w.natAbs<=k):ndg (z+w).natAbs<=k+1:=
 Zy (fk (Int.natAbs_add_le z w)) (DW hz hw)
theorem gZ{z w:Int}:ndg (z*w).natAbs<=ndg z.natAbs+ndg w.natAbs:=by rw[Y7];exact xL
theorem VB{a b:Q}{K L:Nat}(ha:qL K a)(hb:qL L b):qL (K+L+1) (nK a b):=by
 refine JN (CL ?_ ?_) ?_
 .have:=gZ (z:=a.1) (w:=(b.2:Int));rw[Int.natAbs_natCast]at this;have:=ha.1;have:=hb.2;omega
 .have:=gZ (z:=b.1) (w:=(a.2:Int));rw[Int.natAbs_natCast]at this;have:=hb.1;have:=ha.2;omega
 .have:=xL (a:=a.2) (b:=b.2);have:=ha.2;have:=hb.2;omega
theorem Of{a b:Q}{K L:Nat}(ha:qL K a)(hb:qL L b):qL (K+L) (pf a b):=by
 refine JN ?_ ?_
 .have:=gZ (z:=a.1) (w:=b.1);have:=ha.1;have:=hb.1;omega
 .have:=xL (a:=a.2) (b:=b.2);have:=ha.2;have:=hb.2;omega
theorem P9{a b:Q}(ha:okQ a)(hb:okQ b):okQ (nK a b):=Af _ (X3 ha.1 hb.1)
theorem Jt{a b:Q}(ha:okQ a)(hb:okQ b):okQ (pf a b):=Af _ (X3 ha.1 hb.1)
theorem TZ{z w:Int}(hw0:0<w)(hz:ndg z.natAbs<900000)(hw:ndg w.natAbs<900000):CP Y F.bO [S (itoa z),S (itoa w)] (.tup [S (itoa (z/w)),S (itoa (z%w)),I 0]):=by obtain⟨m,rfl⟩:∃m:Nat,w=m:=⟨w.toNat,aa⟩;rw[jE];exact yC aa hz (by simpa using hw)
theorem BQ{d:Int}(hd:d≠0)(hn:ndg n.natAbs<800000)(hd2:ndg d.natAbs<800000):CP Y F.bj [S (itoa n),S (itoa d)] (.agg (qT (eU n d))):=by
 refine AC ?_;have sg0:=qO d
 have tail:∀(n:Int)(d:Nat),0<d->ndg n.natAbs<800000->ndg d<800000 ->
   cal (CX Y).p [(1,.vars [.d (.str []),.d (.str [])])] (.fn F.po [] []) [S (itoa n),S (ah d)] λv6 h=>
  bnd (biS .neq v6 (.d (.str [49]))) λv7=>
  jn (λl8 h=>
   bnd (bld [(0,1),(1,1)] [.str [],.str []] [(0,(ge l8 0)),(1,(ge l8 1))]) λv10=>
   stD h 2 (.ptr 0 1 0 2) v10 λ_ h=>
   bnd (ldA h 2 (.ptr 0 1 0 2)) λv12=>
   out (.agg (qT (mp n d))) v12 h) λq9=>
   cnd v7 (
    cal (CX Y).p h (.fn F.bO [] []) [S (itoa n),v6] λv13 h=>
    ext v13 0 λv14=>
    ext v13 1 λv15=>
    ext v13 2 λv16=>
    cal (CX Y).p h (.fn F.bO [] []) [S (ah d),v6] λv17 h=>
    ext v17 0 λv18=>
    ext v17 1 λv19=>
    ext v17 2 λv20=>
    q9 [v14,v18] h) (
    q9 [S (itoa n),S (ah d)] h):=by
  intro n d hd hn hd2;have gc:=Q1 (z:=n) (w:=(d:Int)) aa (by simpa using Nat.lt_trans hd2 af);rw[jE,Int.natAbs_natCast]at gc;obtain⟨g,hgg⟩:=nmQ (Nat.gcd n.natAbs d);have hg:0<g:=by rw[hgg];exact Xd _ hd
  have hgd:g<=d:=Wd hd (by rw[hgg];exact Nat.gcd_dvd_right ..);have eq:mp n d=(n/(g:Int),d/g):=by unfold mp;rw[<-hgg]
  rw[<-hgg]at gc;rw[eq];have ng:ndg g<900000:=Y6 (fk hgd) aa;have d1:=yC (z:=n) hg aa ng;have d2:=KU (a:=d) hg aa ng;simp;refine cd gc ?_;by_cases h1:g=1
  .subst h1;rw[oj];simp;refine gQ (l:=[S (itoa n),S (ah d)]) (h:=[(1,.vars [.d (.str []),.d (.str [])])]) (λq=>by simp) ?_;simp;refine mh ac ac
  .have h49:¬ah g=[49]:=λh=>h1 (om (h.trans oj.symm))
   simp[h49];refine aM ?_;simp[h49];refine cd d1 ?_;simp;refine cd d2 ?_;simp;exact mh rfl rfl
 simp[bj];refine cd sg0 ?_;by_cases hneg:d<0
 .have s1:sgn d = -1:=by unfold sgn;rw[if_neg hd,if_pos hneg]
  rw[s1];have hd3:ndg (-d).natAbs<800000:=by rw[Xz];exact hd2
  have n1:=z8 (z:=n) aa;have n2:=z8 (z:=d) aa;have e:eU n d=mp (-n) d.natAbs:=if_pos hneg;have ed:itoa (-d)=ah d.natAbs:=by rw[show -d=((d.natAbs:Nat):Int) by omega,jE]
  rw[e];rw[ed]at n2;simp;refine aM ?_;simp;refine cd n1 ?_;simp;refine cd n2 ?_;have:=tail (-n) d.natAbs aa (by rw[Xz];exact hn) hd2;simpa using this
 .have s1:sgn d=1:=by unfold sgn;rw[if_neg hd,if_neg hneg]
  rw[s1];have e:eU n d=mp n d.natAbs:=if_neg hneg;have ed:itoa d=ah d.natAbs:=by conv=>lhs;rw[show d=((d.natAbs:Nat):Int) by omega,jE]
  rw[e,ed];simp;refine aM ?_;simp;have:=tail n d.natAbs aa hn hd2;simpa using this
theorem uK(a:Q):CP Y F.dD [.agg (qT a)] (.tup [I (if sdg a.1<=9 then a.1 else 0),I (if ndg a.2<=9 then a.2 else 0),B (decide (sdg a.1<=9)&&decide (ndg a.2<=9))]):=by
 refine Dr ?_;have l1:=FI a.1;have l2:=FI (a.2:Int);have e:sdg (a.2:Int)=ndg a.2:=by unfold sdg;rw[if_neg aa,Int.natAbs_natCast];rfl
 rw[jE,e]at l2;simp[dD,qT];refine cd l1 ?_;by_cases h1:sdg a.1<=9
 .rw[if_pos h1,if_pos h1,decide_eq_true h1];simp;refine cd l2 ?_;by_cases h2:ndg a.2<=9
  .rw[if_pos h2,if_pos h2,decide_eq_true h2];simp;exact jB rfl rfl rfl
  .rw[if_neg h2,if_neg h2,decide_eq_false h2];simp;exact jB rfl rfl rfl
 .rw[if_neg h1,if_neg h1,decide_eq_false h1];simp;refine cd l2 ?_;by_cases h2:ndg a.2<=9
  .rw[if_pos h2,if_pos h2,decide_eq_true h2];simp;exact jB rfl rfl rfl
  .rw[if_neg h2,if_neg h2,decide_eq_false h2];simp;exact jB rfl rfl rfl
theorem QE(n:Int)(hd:0<d):(mp n d).1*(d:Int)=n*((mp n d).2:Int)∧0<(mp n d).2:=by
 obtain⟨g,hg⟩:=nmQ (Nat.gcd n.natAbs d);have hg0:0<g:=by rw[hg];exact Xd _ hd
 obtain⟨d',hd'⟩:g∣d:=by rw[hg];exact Nat.gcd_dvd_right ..
 obtain⟨n',hn'⟩:(g:Int)∣n:=ZW (by rw[hg];exact Wt ..)
 have e1:(mp n d).1=n':=by
  simp only[mp,<-hg];rw[hn'];exact Int.mul_ediv_cancel_left _ aa
 have e2:(mp n d).2=d':=by
  simp only[mp,<-hg];rw[hd'];exact Nat.mul_div_cancel_left _ hg0
 rw[e1,e2];refine⟨?_,?_⟩
 .rw[hn',hd',Int.natCast_mul,<-Int.mul_assoc,Wg n' g]
 .rcases Ze d' with h|h
  .rw[h]at hd';omega
  .exact h
theorem QF(hd:0<d)(hn:ndg n.natAbs<800000)(hd2:ndg d<800000):CP Y F.bj [S (itoa n),S (ah d)] (.agg (qT (mp n d))):=by have:=BQ (n:=n) (d:=(d:Int)) aa hn (by trivial);trivial
theorem Bh{z:Int}{b:Nat}(hz:ndg z.natAbs<400000)(hb:ndg b<400000):CP Y F.bN [S (itoa z),S (ah b)] (S (itoa (z*b))):=by grind[pL,jE]
theorem EF(h:Hp)(s t:LuQ):aK h [.agg [S s,S t]]=some ([.agg [S s,S t]],h):=by rfl
theorem Jf{a:Q}(h1:sdg a.1<=9)(h2:ndg a.2<=9):a.1.natAbs<1000000000∧a.2<1000000000:=
 ⟨rR h1,Z3 (cQ _) (Zz af h2)⟩
theorem MP{a b:Q}(ha:okQ a)(hb:okQ b)(la:qL 100000 a)(lb:qL 100000 b):CP Y F.kf [.agg (qT a),.agg (qT b)] (.agg (qT (pf a b))):=by
 refine Ga ?_;obtain⟨la1,la2⟩:=la;obtain⟨lb1,lb2⟩:=lb;have b1:=uK a;have b2:=uK b;have m1:=pL (z:=a.1) (w:=b.1) aa aa;have m2:=KT (a:=a.2) (b:=b.2) aa aa;have n1:=gZ (z:=a.1) (w:=b.1);have n2:=xL (a:=a.2) (b:=b.2);have hd:0<a.2*b.2:=X3 ha.1 hb.1
 have lw:CP Y F.bj [S (itoa (a.1*b.1)),S (ah (a.2*b.2))] (.agg (qT (pf a b))):=QF (n:=a.1*b.1) hd aa aa;have ff:(a.1*b.1).natAbs<9223372036854775807->a.2*b.2<9223372036854775807->CP Y F.jj [I (a.1*b.1),I (a.2*b.2:Nat)] (.agg (qT (pf a b))):=λh1 h2=>Q3 hd h1 h2
 obtain⟨x,y,hxy⟩:∃x y,qT (pf a b)=[S x,S y]:=⟨_,_,rfl⟩;rw[hxy]at lw ff ⊢;simp only[qT]at b1 b2 ⊢
 have tail:∀u:Unit,cal (CX Y).p [(1,.vars [S (itoa a.1),S (ah a.2)]),(1,.vars [S (itoa b.1),S (ah b.2)]),(1,.vars [.d (.str []),.d (.str [])])] (.fn F.bN [] []) [S (itoa a.1),S (itoa b.1)] λv15 h=>
  bnd (faV 1 (.ptr 0 1 0 2)) λv16=>
  bnd (ld1 h v16) λv17=>
  bnd (faV 1 (.ptr 1 1 0 2)) λv18=>
  bnd (ld1 h v18) λv19=>
  cal (CX Y).p h (.fn F.bN [] []) [v17,v19] λv20 h=>
  cal (CX Y).p h (.fn F.bj [] []) [v15,v20] λv21 h=>
  stD h 2 (.ptr 2 1 0 2) v21 λ_ h=>
  bnd (ldA h 2 (.ptr 2 1 0 2)) λv23=>
  out (.agg [S x,S y]) v23 h:=by
  intro _;simp;refine cd m1 ?_;simp;refine cd m2 ?_;simp;refine cd lw ?_;simp;exact mh rfl rfl
 simp[kf];refine cd b1 ?_ (EF ..);cases g1:decide (sdg a.1<=9)&&decide (ndg a.2<=9)with
 | false=>
  simp;refine aM ?_;simp
  simp_all
 | true=>
  simp only[Z7,decide_eq_true_eq]at g1;obtain⟨s1,s2⟩:=Jf g1.1 g1.2;rw[if_pos g1.1,if_pos g1.2];simp;refine aM ?_;simp;refine cd b2 ?_ (EF ..);cases g2:decide (sdg b.1<=9)&&decide (ndg b.2<=9)with
  | false=>
   simp
   simp_all
  | true=>
   simp only[Z7,decide_eq_true_eq]at g2;obtain⟨s3,s4⟩:=Jf g2.1 g2.2;rw[if_pos g2.1,if_pos g2.2];have p1:(a.1*b.1).natAbs<1000000000*1000000000:=by rw[Y7];exact Yo s1 s3
   have p2:a.2*b.2<1000000000*1000000000:=Yo s2 s4;have e2:(a.2:Int)*(b.2:Int)=((a.2*b.2:Nat):Int):=ac;have ff:=ff aa aa;obtain⟨N,hN⟩:=mnQ (a.1*b.1);rw[hN]at p1 ff;generalize a.2*b.2=D at *;simp(disch:=try exact ae)[e2,hN];refine cd ff ?_;simp;simp[mh]
theorem Gg{a b:Q}(ha:okQ a)(hb:okQ b)(la:qL 100000 a)(lb:qL 100000 b):CP Y F.fv [.agg (qT a),.agg (qT b)] (.agg (qT (nK a b))):=by
 refine Gd ?_;obtain⟨la1,la2⟩:=la;obtain⟨lb1,lb2⟩:=lb;have b1:=uK a;have b2:=uK b;have m1:=Bh (z:=a.1) (b:=b.2) aa aa;have m2:=Bh (z:=b.1) (b:=a.2) aa aa;have m3:=KT (a:=a.2) (b:=b.2) aa aa;have n1:=gZ (z:=a.1) (w:=(b.2:Int));have n2:=gZ (z:=b.1) (w:=(a.2:Int))
 have n3:=xL (a:=a.2) (b:=b.2);rw[Int.natAbs_natCast]at n1 n2;have n4:ndg (a.1*b.2+b.1*a.2).natAbs<=200000+1:=CL aa aa;have ad:=zz (z:=a.1*b.2) (w:=b.1*a.2) aa aa;have hd:0<a.2*b.2:=X3 ha.1 hb.1
 have lw:CP Y F.bj [S (itoa (a.1*b.2+b.1*a.2)),S (ah (a.2*b.2))] (.agg (qT (nK a b))):=QF hd aa aa;have ff:(a.1*b.2+b.1*a.2).natAbs<9223372036854775807->a.2*b.2<9223372036854775807->CP Y F.jj [I (a.1*b.2+b.1*a.2),I (a.2*b.2:Nat)] (.agg (qT (nK a b))):=λh1 h2=>Q3 hd h1 h2
 by_cases one:a.2=1∧b.2=1
 .have ad1:=zz (z:=a.1) (w:=b.1) aa aa
  have eq:nK a b=(a.1+b.1,1):=by
   unfold nK;rw[one.1,one.2];rw[WG ac];simp
  rw[eq];have t1:qT a=[S (itoa a.1),S [49]]:=by unfold qT;rw[one.1,oj]
  have t2:qT b=[S (itoa b.1),S [49]]:=by unfold qT;rw[one.2,oj]
  have t3:qT (a.1+b.1,1)=[S (itoa (a.1+b.1)),S [49]]:=by unfold qT;rw[oj]
  rw[t1,t2,t3];simp[fv];refine cd ad1 ?_;simp;simp[mh]
 obtain⟨x,y,hxy⟩:∃x y,qT (nK a b)=[S x,S y]:=⟨_,_,rfl⟩;rw[hxy]at lw ff ⊢;simp only[qT]at b1 b2 ⊢
 have tail:∀u:Unit,cal (CX Y).p [(1,.vars [S (itoa a.1),S (ah a.2)]),(1,.vars [S (itoa b.1),S (ah b.2)]),(1,.vars [.d (.str []),.d (.str [])])] (.fn F.bN [] []) [S (itoa a.1),S (ah b.2)] λv30 h=>
   bnd (faV 0 (.ptr 1 1 0 2)) λv31=>
   bnd (ld1 h v31) λv32=>
   bnd (faV 1 (.ptr 0 1 0 2)) λv33=>
   bnd (ld1 h v33) λv34=>
   cal (CX Y).p h (.fn F.bN [] []) [v32,v34] λv35 h=>
   cal (CX Y).p h (.fn F.kS [] []) [v30,v35] λv36 h=>
   bnd (faV 1 (.ptr 0 1 0 2)) λv37=>
   bnd (ld1 h v37) λv38=>
   bnd (faV 1 (.ptr 1 1 0 2)) λv39=>
   bnd (ld1 h v39) λv40=>
   cal (CX Y).p h (.fn F.bN [] []) [v38,v40] λv41 h=>
   cal (CX Y).p h (.fn F.bj [] []) [v36,v41] λv42 h=>
   stD h 2 (.ptr 2 1 0 2) v42 λ_ h=>
   bnd (ldA h 2 (.ptr 2 1 0 2)) λv44=>
   out (.agg [S x,S y]) v44 h:=by
  intro _;simp;refine cd m1 ?_;simp;refine cd m2 ?_;simp;refine cd ad ?_;simp;refine cd m3 ?_;simp;refine cd lw ?_;simp;exact mh rfl rfl
 have hne:¬(ah a.2=[49]∧ah b.2=[49]):=λh=>one ⟨om (h.1.trans oj.symm),om (h.2.trans oj.symm)⟩
 have walk:∀u:Unit,bnd (ldA [(1,.vars [S (itoa a.1),S (ah a.2)]),(1,.vars [S (itoa b.1),S (ah b.2)]),(1,.vars [.d (.str []),.d (.str [])])] 2 (.ptr 0 1 0 2)) λv19=>
  cal (CX Y).p [(1,.vars [S (itoa a.1),S (ah a.2)]),(1,.vars [S (itoa b.1),S (ah b.2)]),(1,.vars [.d (.str []),.d (.str [])])] (.fn F.dD [] []) [v19] λv20 h=>
  ext v20 0 λv21=>
  ext v20 1 λv22=>
  ext v20 2 λv23=>
  jn (λl24 h=>
   bnd (faV 0 (.ptr 0 1 0 2)) λv26=>
   bnd (ld1 h v26) λv27=>
   bnd (faV 1 (.ptr 1 1 0 2)) λv28=>
   bnd (ld1 h v28) λv29=>
   cal (CX Y).p h (.fn F.bN [] []) [v27,v29] λv30 h=>
   bnd (faV 0 (.ptr 1 1 0 2)) λv31=>
   bnd (ld1 h v31) λv32=>
   bnd (faV 1 (.ptr 0 1 0 2)) λv33=>
   bnd (ld1 h v33) λv34=>
   cal (CX Y).p h (.fn F.bN [] []) [v32,v34] λv35 h=>
   cal (CX Y).p h (.fn F.kS [] []) [v30,v35] λv36 h=>
   bnd (faV 1 (.ptr 0 1 0 2)) λv37=>
   bnd (ld1 h v37) λv38=>
   bnd (faV 1 (.ptr 1 1 0 2)) λv39=>
   bnd (ld1 h v39) λv40=>
   cal (CX Y).p h (.fn F.bN [] []) [v38,v40] λv41 h=>
   cal (CX Y).p h (.fn F.bj [] []) [v36,v41] λv42 h=>
   stD h 2 (.ptr 2 1 0 2) v42 λ_ h=>
   bnd (ldA h 2 (.ptr 2 1 0 2)) λv44=>
   out (.agg [S x,S y]) v44 h) λq25=>
   cnd v23 (
    bnd (ldA h 2 (.ptr 1 1 0 2)) λv45=>
    cal (CX Y).p h (.fn F.dD [] []) [v45] λv46 h=>
    ext v46 0 λv47=>
    ext v46 1 λv48=>
    ext v46 2 λv49=>
    cnd v49 (
     bnd (biI .mul v21 v48) λv50=>
     bnd (biI .mul v47 v22) λv51=>
     bnd (biI .add v50 v51) λv52=>
     bnd (biI .mul v22 v48) λv53=>
     cal (CX Y).p h (.fn F.jj [] []) [v52,v53] λv54 h=>
     stD h 2 (.ptr 2 1 0 2) v54 λ_ h=>
     bnd (ldA h 2 (.ptr 2 1 0 2)) λv56=>
     out (.agg [S x,S y]) v56 h) (
     q25 [] h)) (
    q25 [] h):=by
  intro _;simp;refine cd b1 ?_ (EF ..);cases g1:decide (sdg a.1<=9)&&decide (ndg a.2<=9)with
  | false=>
   simp;refine aM ?_;simp
   simp_all
  | true=>
   simp only[Z7,decide_eq_true_eq]at g1;obtain⟨s1,s2⟩:=Jf g1.1 g1.2;rw[if_pos g1.1,if_pos g1.2];simp;refine aM ?_;simp;refine cd b2 ?_ (EF ..);cases g2:decide (sdg b.1<=9)&&decide (ndg b.2<=9)with
   | false=>
    simp
    simp_all
   | true=>
    simp only[Z7,decide_eq_true_eq]at g2;obtain⟨s3,s4⟩:=Jf g2.1 g2.2;rw[if_pos g2.1,if_pos g2.2];have p1:(a.1*b.2).natAbs<1000000000*1000000000:=by rw[Y7,Int.natAbs_natCast];exact Yo s1 s4
    have p3:(b.1*a.2).natAbs<1000000000*1000000000:=by rw[Y7,Int.natAbs_natCast];exact Yo s3 s2
    have p2:a.2*b.2<1000000000*1000000000:=Yo s2 s4;have e2:(a.2:Int)*(b.2:Int)=((a.2*b.2:Nat):Int):=ac;have ff:=ff aa aa;obtain⟨N,hN⟩:∃N,a.1*(b.2:Int)=N:=⟨_,rfl⟩;obtain⟨M,hM⟩:∃M,b.1*(a.2:Int)=M:=⟨_,rfl⟩;rw[hN]at p1 ff;rw[hM]at p3 ff;generalize a.2*b.2=D at *;simp(disch:=try exact ae)[e2,hN,hM];refine cd ff ?_;simp
    simp[mh]
 by_cases c1:ah a.2=[49]
 .have c2:¬ah b.2=[49]:=λh=>hne ⟨c1,h⟩
  simp[fv,c1,c2]
  simp_all
 .simp[fv,c1]
  simp_all
theorem Ti(a:Q):CP Y F.mK [.agg (qT a)] (I (sgn a.1)):=by refine Dt ?_;simp[mK,qT];refine cd (qO a.1) ?_;exact aW rfl
theorem Lx(z:Int):sgn z=0↔z=0:=by
 unfold sgn;constructor
 .intro h;split at h
  .assumption
  .split at h<;>omega
 .intro h;rw[if_pos h]
theorem Fi{a b:LuQ}{c:Int}{h:Hp}:out (.tup [.agg [S a,S b],I c]) (.tup [.agg [S a,S b],I c]) h:=⟨h,by simp[bV,aK,norm]⟩
theorem MQ{a b:Q}(ha:okQ a)(hb:okQ b)(h0:b.1≠0)(la:qL 100000 a)(lb:qL 100000 b):CP Y F.kh [.agg (qT a),.agg (qT b)] (.tup [.agg (qT (uZ a b)),I 0]):=by
 refine Gb ?_;obtain⟨la1,la2⟩:=la;obtain⟨lb1,lb2⟩:=lb;have sg0:=Ti b;have hs:¬sgn b.1=0:=λh=>h0 ((Lx _).1 h)
 have m1:=Bh (z:=a.1) (b:=b.2) aa aa;have m2:=pL (z:=(a.2:Int)) (w:=b.1) (by rw[Int.natAbs_natCast];omega) aa;rw[jE]at m2;have n1:=gZ (z:=a.1) (w:=(b.2:Int));have n2:=gZ (z:=(a.2:Int)) (w:=b.1);rw[Int.natAbs_natCast]at n1 n2;have hne:(a.2:Int)*b.1≠0:=Yc (by have:=ha.1;omega) h0
 have lw:CP Y F.bj [S (itoa (a.1*b.2)),S (itoa (a.2*b.1))] (.agg (qT (uZ a b))):=BQ hne aa aa;obtain⟨x,y,hxy⟩:∃x y,qT (uZ a b)=[S x,S y]:=⟨_,_,rfl⟩;rw[hxy]at lw ⊢;generalize sgn b.1=sb at *;simp only[qT]at sg0 ⊢;simp(disch:=try exact ae)[kh];refine cd sg0 ?_ (EF ..);simp(disch:=try exact ae)[hs]
 refine cd m1 ?_;simp(disch:=try exact ae);refine cd m2 ?_;simp(disch:=try exact ae);refine cd lw ?_;simp(disch:=try exact ae);exact Fi
theorem YC{d:Int}(hd:d≠0)(hn:ndg n.natAbs<800000)(hd2:ndg d.natAbs<800000):CP Y F.ot [S (itoa n),S (itoa d)] (.tup [.agg (qT (eU n d)),I 0]):=by
 refine F8 ?_;have sg0:=qO d;have hs:¬sgn d=0:=λh=>hd ((Lx _).1 h)
 have lw:=BQ hd hn hd2;obtain⟨x,y,hxy⟩:∃x y,qT (eU n d)=[S x,S y]:=⟨_,_,rfl⟩;rw[hxy]at lw ⊢;generalize sgn d=sb at *;simp[ot];refine cd sg0 ?_;simp[hs];refine cd lw ?_;simp;exact Fi
theorem rU{z:Int}(h1 : -9223372036854775808<z)(h2:z<9223372036854775808):ndg z.natAbs<=19:=gK aa af
theorem uD{d:Int}(hd:d≠0)(h1 : -9223372036854775808<n)(h2:n<9223372036854775808)(h3 : -9223372036854775808<d)(h4:d<9223372036854775808):CP Y F.d7 [I n,I d] (.tup [.agg (qT (eU n d)),I 0]):=by refine G6 ?_;have nw:=YC (n:=n) hd (Y6 (rU h1 h2) af) (Y6 (rU h3 h4) af);obtain⟨x,y,hxy⟩:∃x y,qT (eU n d)=[S x,S y]:=⟨_,_,rfl⟩;rw[hxy]at nw ⊢;simp[d7];refine cd (kY h1 h2) ?_;simp;refine cd (kY h3 h4) ?_;simp;refine cd nw ?_;simp;exact Fi
theorem J6(z:Int){b:Nat}(hb:0<b):z.fdiv (-(b:Int))=(-z)/(b:Int)∧z.fmod (-(b:Int)) = -((-z)%(b:Int)):=by
 have e:z.fdiv (-(b:Int))=(-z)/(b:Int):=by
  rw[<-Int.fdiv_eq_ediv_of_nonneg (-z) (by omega:(0:Int)<=(b:Int)),<-Int.neg_fdiv_neg (-z) (b:Int),Wc]
 refine⟨e,?_⟩;rw[Int.fmod_def,e];have:=Int.mul_ediv_add_emod (-z) (b:Int)
 grind
theorem MV(x y:Int)(hy:y≠0):(x.fdiv y).natAbs<=x.natAbs:=by
 by_cases h:0<y
 .rw[Int.fdiv_eq_ediv_of_nonneg _ aa];exact Int.natAbs_ediv_le_natAbs ..
 .obtain⟨b,hb⟩:∃b:Nat,b=y.natAbs:=⟨_,rfl⟩;have e:y = -(b:Int):=aa;rw[e,(J6 x (b:=b) aa).1]
  grind[Int.natAbs_ediv_le_natAbs]
theorem ZA{z:Int}{b:Nat}(hb:0<b)(hz:ndg z.natAbs<900000)(hbd:ndg b<900000):
   cal (CX Y).p [] (.fn F.aQ [] []) [S (itoa z)] λv7 h=>
   ext v7 0 λv8=>
   ext v7 1 λv9=>
   cal (CX Y).p h (.fn F.aQ [] []) [S (itoa (-(b:Int)))] λv10 h=>
   ext v10 0 λv11=>
   ext v10 1 λv12=>
   cal (CX Y).p h (.fn F.d9 [] []) [v9,v12] λv13 h=>
   ext v13 0 λv14=>
   ext v13 1 λv15=>
   ext v13 2 λv16=>
   bnd (biI .neq v16 (.d (.int .i64 0))) λv17=>
   cnd v17 (
    out (.tup [S (itoa ((-z)/b)),S (itoa (-((-z)%b))),I 0]) (.tup [(.d (.str [])),(.d (.str [])),v16]) h) (
    bnd (biB .neq v8 v11) λv18=>
    gd v18 true h (λq=>q v15 h) λv19 h=>
    gd v18 true h (λq=>bnd (biS .neq v19 (.d (.str [48]))) λv=>q v h) λv20 h=>
    bnd (nL v18 v20 (.d (.bool false))) λv21=>
    jn (λl22 h=>
     bnd (biB .neq v8 v11) λv24=>
     cal (CX Y).p h (.fn F.cM [] []) [v24,(ge l22 0)] λv25 h=>
     cal (CX Y).p h (.fn F.cM [] []) [v11,(ge l22 1)] λv26 h=>
     out (.tup [S (itoa ((-z)/b)),S (itoa (-((-z)%b))),I 0]) (.tup [v25,v26,(.d (.int .i64 0))]) h) λq23=>
     cnd v21 (
      cal (CX Y).p h (.fn F.gy [] []) [v14,(.d (.str [49]))] λv27 h=>
      cal (CX Y).p h (.fn F.ic [] []) [v12,v15] λv28 h=>
      ext v28 0 λv29=>
      ext v28 1 λv30=>
      q23 [v27,v29] h) (
      q23 [v14,v15] h)):=by
 have hq:ndg (z.natAbs/b)<=ndg z.natAbs:=fk (Yw ..);have hr:z.natAbs%b<b:=Yy _ hb;have hr2:ndg (z.natAbs%b)<=ndg b:=fk aa;have eb:∀x y:Bool,biB .neq (B x) (B y)=some (B (x !=y)):=λ_ _=>rfl
 have sb:=px (-(b:Int));rw[decide_eq_true (by omega : -(b:Int)<0),show(-(b:Int)).natAbs=b by omega]at sb;simp;refine cd (px z) ?_;simp;refine cd sb ?_;simp;refine cd (xV (a:=z.natAbs) hb aa aa) ?_;by_cases hneg:z<0
 .have ez : -z=(z.natAbs:Int):=aa;rw[decide_eq_true hneg];simp[eb];refine gQ (l:=[S (ah (z.natAbs/b)),S (ah (z.natAbs%b))]) (h:=[]) (λq=>by rfl) ?_;simp[eb];refine cd (hO false (n:=z.natAbs/b) aa) ?_;simp;refine cd (hO true (n:=z.natAbs%b) aa) ?_;refine oY ?_ ?_
  .rw[ez,<-Int.natCast_ediv];rfl
  .rw[ez,<-Int.natCast_emod];rfl
 .have ez : -z = -(z.natAbs:Int):=aa;obtain⟨d1,d2⟩:=vC (a:=z.natAbs) hb;rw[<-ez]at d1 d2;rw[decide_eq_false hneg];by_cases h0:z.natAbs%b=0
  .rw[if_pos h0]at d1 d2;rw[h0,eY];simp[eb];refine gQ (l:=[S (ah (z.natAbs/b)),S [48]]) (h:=[]) (λq=>by rfl) ?_;simp[eb];refine cd (hO true (n:=z.natAbs/b) aa) ?_;simp;have j0:=hO true (n:=0) (by grind);rw[eY]at j0;refine cd j0 ?_;refine oY ?_ ?_
   .rw[d1];rfl
   .rw[d2];rfl
  .rw[if_neg h0]at d1 d2;have h48:¬ah (z.natAbs%b)=[48]:=λh=>h0 (kw.1 h)
   have ad:=zp (a:=z.natAbs/b) (b:=1) aa (by simp[DV]);rw[show ah 1=[49] by decide+kernel]at ad;simp[eb,h48];refine aM ?_;simp[h48];refine cd ad ?_;simp;refine cd (xW (a:=b) (b:=z.natAbs%b) aa aa) ?_;simp[eb];have hq1:ndg (z.natAbs/b+1)<=900000+1:=DW aa (by simp[DV])
   refine cd (hO true (n:=z.natAbs/b+1) aa) ?_;simp;refine cd (hO true (n:=b-z.natAbs%b) (Y6 (fk (Nat.sub_le ..)) aa)) ?_;refine oY ?_ ?_
   .rw[d1];rfl
   .rw[d2];rfl
theorem NI{z:Int}{b:Nat}(hb:0<b)(hz:ndg z.natAbs<900000)(hbd:ndg b<900000):CP Y F.bO [S (itoa z),S (itoa (-(b:Int)))] (.tup [S (itoa ((-z)/b)),S (itoa (-((-z)%b))),I 0]):=by
 refine wG ?_;have l1:=pj z 18 af;have l2:=pj (-(b:Int)) 18 af;have tl:=ZA hb hz hbd
 have h48:¬itoa (-(b:Int))=[48]:=λh=>by
  have:=xl (h.trans (show[48]=itoa 0 by decide+kernel));omega
 simp[bO,h48];refine cd l1 ?_;by_cases h1:sdg z<=18
 .rw[if_pos h1];by_cases h2:sdg (-(b:Int))<=18
  .rw[if_pos h2]at l2;simp;refine aM ?_;simp;refine cd l2 ?_;have b1:=rR h1;have b2:=rR h2;simp only[Nat.reducePow]at b1 b2;have hbz:¬(-(b:Int))=0:=aa;have eb:∀x y:Bool,biB .neq (B x) (B y)=some (B (x !=y)):=λ_ _=>rfl
   obtain⟨n,hn⟩:=nmQ (z.natAbs);rw[<-hn]at b1;have hq:n/b<=n:=Yw ..;have hr:n%b<b:=Yy _ hb;have ym:(-(b:Int))<0:=aa;by_cases hneg:z<0
   .have ez:z = -(n:Int):=aa;have q1:z.tdiv (-(b:Int))=((n/b:Nat):Int):=by rw[ez,Int.neg_tdiv,Int.tdiv_neg,Wc,Zu aa,<-Int.natCast_ediv]
    have q2:z.tmod (-(b:Int)) = -((n%b:Nat):Int):=by rw[ez,Int.neg_tmod,Int.tmod_neg,Zv aa,<-Int.natCast_emod]
    have d1:(-z)/(b:Int)=((n/b:Nat):Int):=by rw[ez,Wc,<-Int.natCast_ediv]
    have d2:(-z)%(b:Int)=((n%b:Nat):Int):=by rw[ez,Wc,<-Int.natCast_emod]
    obtain⟨q,hqq⟩:=nmQ (n/b);obtain⟨r,hrr⟩:=nmQ (n%b);rw[<-hqq]at q1 d1 hq;rw[<-hrr]at q2 d2 hr
    have fin:∀h:Hp,cal (CX Y).p h (V.fn F.eH [] []) [I q] λv45 h=>
      cal (CX Y).p h (V.fn F.eH [] []) [I (-(r:Int))] λv46 h=>out (V.tup [S (itoa ((-z)/(b:Int))),S (itoa (-((-z)%(b:Int)))),I 0]) (V.tup [v45,v46,V.d (D.int IntKind.i64 0)]) h:=by
     intro h;simp;refine cd (kY (z:=(q:Int)) aa aa) ?_;simp;refine cd (kY (z:=-(r:Int)) aa aa) ?_;refine oY ?_ ?_
     .rw[d1]
     .rw[d2]
    by_cases h0:r=0
    .subst h0;simp only[Int.natCast_zero,Int.neg_zero]at q2 fin;simp(disch:=try exact ae)[q1,q2,hbz];refine gQ (l:=[I q,I 0]) (h:=[]) (λq=>by rfl) ?_;exact fin []
    .have r0:¬(-(r:Int))=0:=aa;have r1:(-(r:Int))<0:=aa;simp(disch:=try exact ae)[q1,q2,r0,r1,ym,eb,hbz];refine gQ (l:=[I q,I (-(r:Int))]) (h:=[]) (λq=>by simp(disch:=try exact ae)[r0,r1,ym,eb]) ?_;exact fin []
   .have ez:z=(n:Int):=aa;obtain⟨d1,d2⟩:=vC (a:=n) hb;rw[<-ez]at d1 d2;have q1:z.tdiv (-(b:Int)) = -((n/b:Nat):Int):=by rw[ez,Int.tdiv_neg,Zu aa,<-Int.natCast_ediv]
    have q2:z.tmod (-(b:Int))=((n%b:Nat):Int):=by rw[ez,Int.tmod_neg,Zv aa,<-Int.natCast_emod]
    obtain⟨q,hqq⟩:=nmQ (n/b);obtain⟨r,hrr⟩:=nmQ (n%b);rw[<-hqq]at q1 d1 hq;rw[<-hrr]at q2 d1 d2 hr;by_cases h0:r=0
    .rw[if_pos h0]at d1 d2;subst h0;simp only[Int.natCast_zero]at q2;simp(disch:=try exact ae)[q1,q2,hbz];refine gQ (l:=[I (-(q:Int)),I 0]) (h:=[]) (λq=>by rfl) ?_;simp;refine cd (kY (z:=-(q:Int)) aa aa) ?_;simp;refine cd (kY (z:=0) aa aa) ?_;refine oY ?_ ?_
     .rw[d1]
     grind
    .rw[if_neg h0]at d1 d2;have r0:¬((r:Int))=0:=aa;have r1:¬(r:Int)<0:=aa;simp(disch:=try exact ae)[q1,q2,r0,r1,ym,eb,hbz];refine gQ (l:=[I (-(q:Int)-1),I ((r:Int) + -(b:Int))]) (h:=[]) (λq=>by simp(disch:=try exact ae)[r0,r1,ym]) ?_;simp;refine cd (kY (z:=-(q:Int)-1) aa aa) ?_;simp
     refine cd (kY (z:=(r:Int) + -(b:Int)) aa aa) ?_
     grind[oY]
  .rw[if_neg h2]at l2;simp;refine aM ?_;simp;refine cd l2 ?_;trivial
 simp_all[if_neg,aM]
theorem KV{z w:Int}(hw0:w≠0)(hz:ndg z.natAbs<900000)(hw:ndg w.natAbs<900000):CP Y F.bO [S (itoa z),S (itoa w)] (.tup [S (itoa (z.fdiv w)),S (itoa (z.fmod w)),I 0]):=by
 by_cases h:0<w
 .rw[Int.fdiv_eq_ediv_of_nonneg _ aa,Int.fmod_eq_emod_of_nonneg _ aa]
  grind[TZ]
 .obtain⟨b,hb⟩:∃b:Nat,b=w.natAbs:=⟨_,rfl⟩;have e:w = -(b:Int):=aa;rw[<-hb]at hw;rw[e,(J6 z (b:=b) aa).1,(J6 z (b:=b) aa).2];exact NI aa hz hw
theorem aaJ{z w:Int}(hz:ndg z.natAbs<999999)(hw:ndg w.natAbs<999999):CP Y F.sd [S (itoa z),S (itoa w)] (S (itoa (z-w))):=by refine KN ?_;simp[sd];refine cd (z8 aa) ?_;simp;refine cd (zz hz (by grind)) ?_;exact gr (by rw[Int.sub_eq_add_neg])
def sI(z:Int):D:=.str (itoa z)
theorem UL(P M Q:List α){x:α}(hj:j<M.length):(P++M++Q).take (P.length+j)++[x]++(P++M++Q).drop (P.length+j+1)=P++M.set j x++Q:=by
 obtain⟨a,y,c,rfl,rfl⟩:∃a y c,M=a++y::c∧j=a.length:=⟨M.take j,M[j],M.drop (j+1),ac,by grind⟩
 rw [show P++(a++y::c)++Q=((P++a)++[y])++(c++Q) by simp,show P.length+a.length+1=((P++a)++[y]).length by grind,List.drop_left,
  show((P++a)++[y])++(c++Q)=(P++a)++(y::(c++Q)) by simp,show P.length+a.length=(P++a).length by simp,Ww]
 simp
structure RwL where
 s:Nat
 e:Nat
 pre:LdQ
 post:LdQ
 ex:Bool
 cap:Nat
 r:LiQ
def RwL.z:RwL:=⟨0,0,[],[],false,0,[]⟩
def RwL.w(R:RwL)(r:LiQ):RwL:={R with r:=r}
def RwL.tot(R:RwL):Nat:=R.pre.length+R.r.length+R.post.length
def RwL.v(R:RwL):V:=.ref R.s R.e R.pre.length R.r.length R.cap R.tot
def RwL.p(R:RwL)(j:Nat):V:=.ptr R.s R.e (R.pre.length+j) R.tot
def RwL.k(R:RwL):Nat×Bk:=(R.e,.data 1 (R.pre++R.r.map sI++R.post) R.ex false)
variable{h:Hp}{R:RwL}
theorem RwL.get(hR:h[R.s]?=some R.k):aw h R.s R.e=.data 1 (R.pre++R.r.map sI++R.post) R.ex false:=by grind[aw,k]
theorem RwL.tl(R:RwL):R.tot=(R.pre++R.r.map sI++R.post).length:=by grind[tot]
theorem UU(R:RwL):aO R.v=some (I R.r.length):=rfl
theorem LD(hR:h[R.s]?=some R.k)(hj:j<R.r.length):ixV h 1 R.v (I j)=some (R.p j):=by simp only[RwL.v,ixV,RwL.get hR];rw[if_pos ⟨R.tl,aa,aa⟩];simp[RwL.p]
theorem PR(hR:h[R.s]?=some R.k)(hj:j<R.r.length):ld1 h (R.p j)=some (S (itoa (nth 0 R.r j))):=by
 simp only[RwL.p,ld1,RwL.get hR];rw[if_pos R.tl]
 have:(R.pre++R.r.map sI++R.post)[R.pre.length+j]?=some (sI (nth 0 R.r j)):=by
  rw[List.append_assoc,List.getElem?_append_right aa,List.getElem?_append_left (by grind)];simp[cO _ _ _ hj,List.getElem?_eq_getElem hj]
 rw[this];rfl
theorem UT(hR:h[R.s]?=some R.k)(hj:j<R.r.length)(z:Int):st h 1 (R.p j) (S (itoa z))=some (h.set R.s (R.w (R.r.set j z)).k):=by simp only[RwL.p,st,if_true,sto,RwL.get hR,kJ,toD,norm];rw[if_pos ⟨trivial,R.tl,by grind⟩];simp only[bL,RwL.k,RwL.w];congr 4;have:=UL R.pre (R.r.map sI) R.post (x:=sI z) (j:=j) (by grind);rw[show R.pre.length+j + [D.str (itoa z)].length=R.pre.length+j+1 by simp];rw[W8];exact this
theorem RwL.set_get{R':RwL}(hR:h[R.s]?=some R.k)(hs:R'.s=R.s):(h.set R.s R'.k)[R'.s]?=some R'.k:=by rw[hs,List.getElem?_set_self (List.getElem?_eq_some_iff.1 hR).1]
theorem RwL.set_ne{T:RwL}(hT:h[T.s]?=some T.k)(hs:s≠T.s):(h.set s x)[T.s]?=some T.k:=by grind
theorem xY{h:Hp}{b:Nat}(hu:(h.all λx=>ax b x.2)=true)(hx:ax b x.2=true):((h.set s x).all λx=>ax b x.2)=true:=by grind
theorem RwL.u(R:RwL)(b:Nat):ax b R.k.2=true:=rfl
def bdE(B:Nat)(l:LiQ):Prop:=∀x∈l,x.natAbs<10^B
theorem AZ{B:Nat}(h:bdE B l)(j:Nat):(nth 0 l j).natAbs<10^B:=by
 by_cases hj:j<l.length
 .rw[cO _ _ _ hj];exact h _ (Yl hj)
 .have:nth 0 l j=0:=by simp[nth,List.getElem?_eq_none (by omega:l.length<=j)]
  grind
theorem xy{B:Nat}(hB:B<=100000){x:Int}(h:x.natAbs<10^B):ndg x.natAbs<=100001:=
 Zy (gK (d:=B+1) (Z3 h (Zz af (Nat.le_succ B))) aa) aa
theorem EV(k:Int)(a b:LiQ)(h:a.length=b.length):(sT k a b).length=a.length:=by simp[sT,h]
section
variable{R T:RwL}{h:Hp}{k:Int}{B:Nat}
theorem QK(hB:B<=100000)(hT:h[T.s]?=some T.k)(hR:h[R.s]?=some R.k)(hne:R.s≠T.s)(hk:ndg k.natAbs<=100002)(bT:bdE B T.r)(hl:R.r.length=T.r.length)(hL:R.r.length<1000000)(b:Nat)(h0:Hp)(hh:h0.length=h.length)(K:KL) :
  ∀(rq rp:LiQ)(tp tq:LiQ),tp++tq=T.r->rp.length=tp.length->rq.length=tq.length->bdE B rq->rp.length+rq.length=R.r.length ->
  K (.exit 0) [] (h.set R.s (R.w (rp++sT k rq tq)).k) ->
  lp (j9 (CX Y) b R.v (S (itoa k)) T.v (I T.r.length)) [] h0 [I rp.length] (h.set R.s (R.w (rp++rq)).k) K
 | [],rp,tp,tq,ht,h1,h2,bR,hn,hK=>by
  refine aj ?_;have hlt:¬((rp.length:Int)<(T.r.length:Int)):=by simp at hn;omega
  have:tq=[]:=Zl aa;subst this;simp only[j9];simp[hlt]
  simp_all[sT]
 |x::rq,rp,tp,[],ht,h1,h2,bR,hn,hK=>by simp at h2
 | x::rq,rp,tp,y::tq,ht,h1,h2,bR,hn,hK=>by
  refine aj ?_;have hlt:((rp.length:Int)<(T.r.length:Int)):=by simp at hn;omega
  obtain⟨H,hH⟩:∃H,H=h.set R.s (R.w (rp++x::rq)).k:=⟨_,rfl⟩;have gR:H[R.s]?=some (R.w (rp++x::rq)).k:=by rw[hH];exact RwL.set_get hR rfl
  have gT:H[T.s]?=some T.k:=by rw[hH];exact RwL.set_ne hT hne
  have vR:R.v=(R.w (rp++x::rq)).v:=by simp[RwL.v,RwL.w,RwL.tot]at hn ⊢;omega
  have jl:rp.length<T.r.length:=by simp at hn;omega
  have jr:rp.length<(R.w (rp++x::rq)).r.length:=by simp[RwL.w]
  have nT:nth 0 T.r rp.length=y:=by rw[<-ht,h1];simp
  have nR:nth 0 (R.w (rp++x::rq)).r rp.length=x:=by simp[RwL.w]
  have i1:=LD gT jl;have i2:=PR gT jl;have i3:=LD gR jr;have i4:=PR gR jr;rw[nT]at i2;rw[nR]at i4;have i5:=UT gR jr (x-k*y);have bx:ndg x.natAbs<=100001:=xy hB (bR x ac);have by_:ndg y.natAbs<=100001:=xy hB (bT y (by grind));have bm:=gZ (z:=k) (w:=y);rw[<-hH,vR];simp only[j9];simp[hlt,i1,i2,i3,i4]
  refine cd (pL (z:=k) (w:=y) aa aa) ?_;simp;refine cd (aaJ (z:=x) (w:=k*y) aa aa) ?_;simp(disch:=try exact ae)[i3,i5];rw[uX 0 h0 _ (by grind),<-vR];refine lo ?_
  have e1:H.set (R.w (rp++x::rq)).s ((R.w (rp++x::rq)).w ((R.w (rp++x::rq)).r.set rp.length (x-k*y))).k=h.set R.s (R.w ((rp++[x-k*y])++rq)).k:=by
   rw[hH];simp[RwL.w]
  rw[e1];have ih:=QK hB hT hR hne hk bT hl hL b h0 hh K rq (rp++[x-k*y]) (tp++[y]) tq (by grind) (by grind) (by grind) (λz hz=>bR z (by grind)) (by grind) (by simp_all[sT])
  grind
theorem V4(hR:h[R.s]?=some R.k)(hB:B<=100000)(hL:R.r.length<1000000)(b:Nat)(h0:Hp)(hh:h0.length=h.length)(K:KL) :
  ∀(rq rp:LiQ),bdE B rq->rp.length+rq.length=R.r.length ->
  K (.exit 0) [] (h.set R.s (R.w (rp++rq.map (- ·))).k) ->
  lp (iX (CX Y) b R.v R.v (I R.r.length)) [] h0 [I rp.length] (h.set R.s (R.w (rp++rq)).k) K
 | [],rp,bR,hn,hK=>by
  refine aj ?_;have hlt:¬((rp.length:Int)<(R.r.length:Int)):=by simp at hn;omega
  simp only[iX];simp[hlt]
  grind
 | x::rq,rp,bR,hn,hK=>by
  refine aj ?_;have hlt:((rp.length:Int)<(R.r.length:Int)):=by simp at hn;omega
  obtain⟨H,hH⟩:∃H,H=h.set R.s (R.w (rp++x::rq)).k:=⟨_,rfl⟩;have gR:H[R.s]?=some (R.w (rp++x::rq)).k:=by rw[hH];exact RwL.set_get hR rfl
  have vR:R.v=(R.w (rp++x::rq)).v:=by simp[RwL.v,RwL.w,RwL.tot]at hn ⊢;omega
  have jr:rp.length<(R.w (rp++x::rq)).r.length:=by simp[RwL.w]
  have nR:nth 0 (R.w (rp++x::rq)).r rp.length=x:=by simp[RwL.w]
  have i3:=LD gR jr;have i4:=PR gR jr;rw[nR]at i4;have i5:=UT gR jr (-x);have bx:ndg x.natAbs<=100001:=xy hB (bR x ac);rw[<-hH,vR];simp only[iX];simp[hlt,i3,i4];refine cd (z8 (z:=x) aa) ?_;simp(disch:=try exact ae)[i3,i5];rw[uX 0 h0 _ (by grind),<-vR];refine lo ?_
  have e1:H.set (R.w (rp++x::rq)).s ((R.w (rp++x::rq)).w ((R.w (rp++x::rq)).r.set rp.length (-x))).k=h.set R.s (R.w ((rp++[-x])++rq)).k:=by
   rw[hH];simp[RwL.w]
  rw[e1];have ih:=V4 hR hB hL b h0 hh K rq (rp++[-x]) (λz hz=>bR z (by grind)) (by grind) (by grind)
  simp_all
theorem Sr(a b:LiQ)(h:a.length=b.length):sT 0 a b=a:=by
 induction a generalizing b with
 |nil=>rfl
 | cons x a ih=>
  cases b with
  |nil=>simp at h
  | cons y b=>
   simp_all[sT]
theorem RwL.set_same(hR:h[R.s]?=some R.k):h.set R.s (R.w R.r).k=h:=by
 apply Yj;intro i;by_cases hi:R.s=i
 .subst hi;rw[List.getElem?_set_self (List.getElem?_eq_some_iff.1 hR).1,hR];rfl
 .rw[List.getElem?_set_ne hi]
theorem Mr(hB:B<=100000)(hT:h[T.s]?=some T.k)(hR:h[R.s]?=some R.k)(hne:R.s≠T.s)(hk:ndg k.natAbs<=100002)(bT:bdE B T.r)(bR:bdE B R.r)(hl:R.r.length=T.r.length)(hL:R.r.length<1000000)
  (hu:(h.all λx=>ax h.length x.2)=true):CI Y F.fc [R.v,S (itoa k),T.v] h (.tup []) (h.set R.s (R.w (sT k R.r T.r)).k):=by
 refine yl ?_
 have fin:mi h.length (.tup []) (h.set R.s (R.w (sT k R.r T.r)).k) (.tup []) (h.set R.s (R.w (sT k R.r T.r)).k):=
  ⟨by rw[Z2 ac],xY hu (RwL.u _ _),.inl ⟨rfl,rfl⟩⟩
 simp only[fc,Wr,Zq];by_cases h0:k=0
 .subst h0;have:itoa 0=[48]:=aJ;rw[Sr _ _ hl,RwL.set_same hR]at fin ⊢;simp[this];omega
 .have h48:¬itoa k=[48]:=λe=>h0 (xl (e.trans (show[48]=itoa 0 by decide+kernel)))
  have:=QK hB hT hR hne hk bT hl hL h.length h rfl (exK [((.exit 0),λl3 h'=>mi h.length (.tup []) (h.set R.s (R.w (sT k R.r T.r)).k) (.tup []) h')]) R.r [] [] T.r rfl rfl hl bR ac (by trivial);rw[List.nil_append,RwL.set_same hR]at this;simp[h48,UU T];trivial
theorem Oz(hB:B<=100000)(hR:h[R.s]?=some R.k)(bR:bdE B R.r)(hL:R.r.length<1000000)(hu:(h.all λx=>ax h.length x.2)=true):
  CI Y F.eW [R.v] h (.tup []) (h.set R.s (R.w (R.r.map (- ·))).k):=by
 refine we ?_
 have fin:mi h.length (.tup []) (h.set R.s (R.w (R.r.map (- ·))).k) (.tup []) (h.set R.s (R.w (R.r.map (- ·))).k):=
  ⟨by rw[Z2 ac],xY hu (RwL.u _ _),.inl ⟨rfl,rfl⟩⟩
 simp only[eW,Wr,Zq];have:=V4 hR hB hL h.length h rfl (exK [((.exit 0),λl3 h'=>mi h.length (.tup []) (h.set R.s (R.w (R.r.map (- ·))).k) (.tup []) h')]) R.r [] bR ac (by trivial);rw[List.nil_append,RwL.set_same hR]at this;simp[UU R];trivial
end
theorem xa(h:∀t∈clr,t≠s):iP clr s=true:=by
 induction clr with
 |nil=>rfl
 | cons t l ih=>
  rw[Fx,beq_lit,decide_eq_false (h t ac),ih λu hu=>h u (by grind)];rfl
theorem NJ{b:Nat}(hc:∀t∈clr,b<=t):∀x:V,under b x=true->rF clr x=true:=by
 intro x
 induction x using V.rec (motive_2:=λl=>ju b l=true->jQ clr l=true)with
 |agg l ih=>trivial
 |tup l ih=>trivial
 | fn g a c iha ihc=>
  grind[under,rF]
 |ifc t x ih=>trivial
 |nil=>rfl
 | cons x l ih ihl h=>
  grind[ju,jQ]
 | ref s e off len cap tot=>
  intro h;have:s<b:=by simpa[under,Wz]using h
  exact xa λt ht=>by grind
 | ptr s e off tot=>
  intro h;have:s<b:=by simpa[under,Wz]using h
  exact xa λt ht=>by grind
 |_=>intro _;rfl
theorem Cv{clr:LnQ}{b:Nat}(hc:∀t∈clr,b<=t):∀l:LwQ,ju b l=true->jQ clr l=true
 |[],_=>rfl
 | x::l,h=>by
  simp only[ju,Z7]at h;simp only[jQ,NJ hc x h.1,Cv hc l h.2,Ye]
theorem NK{b:Nat}(hc:∀t∈clr,b<=t)(x:Bk)(h:ax b x=true):offB clr x=true:=by
 cases x with
 |vars l=>exact Cv hc l h
 |_=>rfl
theorem L9{clr:LnQ}{b:Nat}(hc:∀t∈clr,b<=t):∀(h t:Hp)(i:Nat),(h.all λx=>ax b x.2)=true->qV clr (i+h.length) t=true->qV clr i (h++t)=true
 |[],t,i,_,ht=>ht
 | x::h,t,i,hu,ht=>by
  simp only[List.all_cons,Z7]at hu;rw[List.cons_append,BF,NK hc _ hu.1,Bool.or_true,Yz];refine L9 hc h t (i+1) hu.2 ?_;rw[List.length_cons]at ht;rw[show i+1+h.length=i+(h.length+1) by omega];exact ht
theorem uv{clr:LnQ}{b:Nat}(hc:∀t∈clr,b<=t):∀(i:Nat)(h0 h:Hp),h.length=h0.length->(∀s,b<=i+s->s<h.length->h[s]?=some nnQ∧h0[s]?=some nnQ)->aS clr i h0 h=h
 |_,[],[],_,_=>rfl
 |_,[],_::_,hl,_=>by rfl
 |_,_::_,[],hl,_=>by rfl
 | i,x0::h0,x::h,hl,hs=>by
  rw [sV,uv hc (i+1) h0 h (by grind) (λs hb hlt=>by
   have:=hs (s+1) aa (by grind);trivial)]
  split
  .rfl
  .rename_i hn
   have hb:b<=i:=by
    refine Classical.byContradiction λhlt=>hn (xa λt ht=>?_)
    have:=hc t ht;omega
   have:=hs 0 aa ac
   grind
theorem u9{b:Nat}(hc:∀t∈clr,b<=t){h:Hp}(hu:(h.all λx=>ax b x.2)=true)(i:Nat):qV clr i h=true:=by
 have:=L9 hc h [] i hu (by rfl)
 grind
structure Tr(b:Nat)(gh:Hp)(h:Hp)(so eo L:Nat)(m:List RwL):Prop where
 o:h[so]?=some (eo,.vars (m.map RwL.v))
 r:∀i,i<m.length->h[(nth RwL.z m i).s]?=some (nth RwL.z m i).k
 nd:∀i j,i<m.length->j<m.length->i≠j->(nth RwL.z m i).s≠(nth RwL.z m j).s
 no:∀i,i<m.length->(nth RwL.z m i).s≠so
 ln:∀i,i<m.length->(nth RwL.z m i).r.length=L
 fr:∀s,s≠so->(∀i,i<m.length->(nth RwL.z m i).s≠s)->h[s]?=gh[s]?
 so:so<b
 sb:∀i,i<m.length->(nth RwL.z m i).s<b
 u:(h.all λx=>ax b x.2)=true
 bl:b<=h.length
 ow:∀s,b<=s->s<h.length->h[s]?=some nnQ
def ouV(so eo n:Nat):V:=.ref so eo 0 n n n
def ouP(so eo n i:Nat):V:=.ptr so eo i n
abbrev fJ:=zk RwL.z RwL.r
abbrev nR(m:List RwL)(i:Nat):RwL:=nth RwL.z m i
theorem j6(d:α)(l:List α)(i j:Nat)(x:α)(h:i<l.length):nth d (l.set i x) j=if j=i then x else nth d l j:=by grind[nth]
theorem Qv(f:α->β)(d:α)(l:List α)(i:Nat)(h:i<l.length):(l.map f)[i]?=some (f (nth d l i)):=by simp[nth,h]
theorem aa3(d:α)(l:List α)(i:Nat)(h:i<l.length):l.set i (nth d l i)=l:=by simp[nth,h]
variable{b so eo L:Nat}{m:List RwL}{gh h:Hp}
theorem ua{b c:Nat}(hbc:b<=c){h:Hp}(hu:(h.all λx=>ax b x.2)=true):(h.all λx=>ax c x.2)=true:=by grind[ub]
theorem Tr.hu(T:Tr b gh h so eo L m):(h.all λx=>ax h.length x.2)=true:=ua T.bl T.u
theorem Tr.get(T:Tr b gh h so eo L m):aw h so eo=.vars (m.map RwL.v):=by simp[aw,T.o]
theorem Tr.ix(T:Tr b gh h so eo L m)(hi:i<m.length):ixV h 1 (ouV so eo m.length) (I i)=some (ouP so eo m.length i):=by simp only[ouV,ixV,T.get];rw[if_pos ⟨ac,aa,aa⟩];simp[ouP]
theorem Tr.ld(T:Tr b gh h so eo L m)(hi:i<m.length):ld1 h (ouP so eo m.length i)=some (nR m i).v:=by simp only[ouP,ld1,T.get];rw[if_pos ac,Qv _ RwL.z _ _ hi]
theorem Tr.ix2(T:Tr b gh h so eo L m){c:Nat}(hi:i<m.length)(hc:c<L):ixV h 1 (nR m i).v (I c)=some ((nR m i).p c):=LD (T.r i hi) (by grind[ln])
theorem Tr.ld2(T:Tr b gh h so eo L m){c:Nat}(hi:i<m.length)(hc:c<L):ld1 h ((nR m i).p c)=some (S (itoa (fJ m i c))):=PR (T.r i hi) (by grind[ln])
theorem RwL.w_v(R:RwL)(hr:r.length=R.r.length):(R.w r).v=R.v:=by grind[v,w,tot]
theorem Tr.row(T:Tr b gh h so eo L m)(hi:i<m.length)(hr:r.length=L):Tr b gh (h.set (nR m i).s ((nR m i).w r).k) so eo L (m.set i ((nR m i).w r)) where
 o:=by
  grind[no,o,W8,RwL.w_v,ln,aa3]
 r:=λj hj=>by
  rw[Yv]at hj;rw[j6 _ _ _ _ _ hi];by_cases e:j=i
  .rw[if_pos e];exact RwL.set_get (R:=nR m i) (T.r i hi) rfl
  grind[r,nd]
 nd:=λj k hj hk hjk=>by
  rw[Yv]at hj hk;rw[j6 _ _ _ _ _ hi,j6 _ _ _ _ _ hi];by_cases e:j=i
  .subst e;rw[if_pos rfl,if_neg (Ne.symm hjk)];exact T.nd _ k hi hk hjk
  .rw[if_neg e];by_cases e2:k=i
   .subst e2;rw[if_pos rfl];exact T.nd j _ hj hi hjk
   grind[nd]
 no:=λj hj=>by
  rw[Yv]at hj;rw[j6 _ _ _ _ _ hi];split
  .exact T.no i hi
  grind[no]
 ln:=λj hj=>by
  rw[Yv]at hj;rw[j6 _ _ _ _ _ hi];split
  .exact hr
  grind[ln]
 so:=T.so
 sb:=λj hj=>by
  rw[Yv]at hj;rw[j6 _ _ _ _ _ hi];split
  .exact T.sb i hi
  .exact T.sb j hj
 u:=xY T.u rfl
 bl:=by rw[Yv];exact T.bl
 ow:=λs hs hl=>by
  rw[Yv]at hl;have:(nR m i).s<b:=T.sb i hi;rw[List.getElem?_set_ne aa];grind[ow]
 fr:=λs hs hne=>by
  have hall:∀j,j<m.length->(nth RwL.z m j).s≠s:=λj hj=>by
   have:=hne j (by grind);rw[j6 _ _ _ _ _ hi]at this;by_cases e:j=i
   .subst e;rw[if_pos rfl]at this;exact this
   grind
  grind[fr]
theorem afI{n:Nat}(ho:h[so]?=some (eo,.vars cs))(hn:cs.length=n)(hi:i<n)(R:RwL):st h 1 (ouP so eo n i) R.v=some (h.set so (eo,.vars (cs.set i R.v))):=by
 have hg:aw h so eo=.vars cs:=by simp[aw,ho]
 simp only[ouP,RwL.v,st,if_true,sto,hg];rw[if_pos ⟨hn.symm,by grind,rfl⟩]
 have e:cs.set i (V.ref R.s R.e R.pre.length R.r.length R.cap R.tot)=cs.take i++[V.ref R.s R.e R.pre.length R.r.length R.cap R.tot]++cs.drop (i+1):=by
  rw[Ym,if_pos aa];simp
 rw[e];rfl
theorem mF{k:Nat}(hi:i<m.length)(hj:j<m.length)(hk:k<m.length):∃k',k'<m.length∧nth RwL.z (lJ RwL.z m i j) k=nth RwL.z m k'∧k'=(if k=j then i else if k=i then j else k):=by
 refine⟨_,?_,?_,rfl⟩
 .grind
 .unfold lJ;rw[j6 _ _ _ _ _ (by grind)];split
  .rfl
  grind[j6]
theorem Tr.swap(T:Tr b gh h so eo L m)(hi:i<m.length)(hj:j<m.length):Tr b gh (h.set so (eo, .vars ((lJ RwL.z m i j).map RwL.v))) so eo L (lJ RwL.z m i j) where
  o:=List.getElem?_set_self (List.getElem?_eq_some_iff.1 T.o).1
  r :=λk hk=>by
    rw[gG]at hk;obtain⟨k',h1,h2,_⟩:=mF hi hj hk
    grind[no,r]
  nd :=λk l hk hl hkl=>by
    rw[gG]at hk hl;obtain⟨k',h1,h2,h3⟩:=mF hi hj hk;obtain⟨l',h4,h5,h6⟩:=mF hi hj hl;rw[h2,h5];refine T.nd k' l' h1 h4 ?_;rw[h3,h6]
    repeat' split
    all_goals omega
  no :=λk hk=>by
    rw[gG]at hk;obtain⟨k',h1,h2,_⟩:=mF hi hj hk
    grind[no]
  ln :=λk hk=>by
    rw[gG]at hk;obtain⟨k',h1,h2,_⟩:=mF hi hj hk
    grind[ln]
  so:=T.so
  sb :=λk hk=>by
    rw[gG]at hk;obtain⟨k',h1,h2,_⟩:=mF hi hj hk;rw[h2];exact T.sb k' h1
  u :=by
    refine xY T.u ?_
    have hv:∀l:List RwL,(∀R∈l,R.s<b)->ju b (l.map RwL.v)=true:=by
      intro l hl
      induction l with
      |nil=>rfl
      | cons R l ih=>
        simp only[Zs,ju,ih (λx hx=>hl x (by grind)),Ye]
        grind[RwL.v,under,Wz]
    refine hv _ λR hR=> ?_
    obtain⟨k,hk,rfl⟩:=Zi.1 hR;have hk':k<m.length:=by simpa[lJ]using hk
    obtain⟨k',h1,h2,_⟩:=mF hi hj hk';rw[<-cO RwL.z _ _ hk,h2];exact T.sb k' h1
  bl:=by rw[Yv];exact T.bl
  ow :=λs hs hl=>by
    rw[Yv]at hl;have:=T.so;rw[List.getElem?_set_ne aa];grind[ow]
  fr :=λs hs hne=>by
    have hall:∀k,k<m.length->(nth RwL.z m k).s≠s:=λk hk=>by
      obtain⟨k',h1,h2,h3⟩:=mF (k:=if k=j then i else if k=i then j else k) hi hj (by split<;>(try split)<;>omega)
      have e : k' = k := by rw[h3];repeat' split
                            all_goals omega
      have:=hne _ (by rw[gG];show(if k=j then i else if k=i then j else k)<m.length;split<;>(try split)<;>omega)
      grind
    grind[fr]
theorem Uo(hi:i<m.length)(hj:j<m.length):(((m.map RwL.v).set i (nR m j).v).set j (nR m i).v)=(lJ RwL.z m i j).map RwL.v:=by simp[lJ,W8]
theorem MD{b:Nat}:Big.cmp a b<0↔a<b:=by unfold Big.cmp;split<;>(try split)<;>omega
theorem uf(z:Int):itoa z=[48]↔z=0:=by have e:[48]=itoa 0:=aJ;rw[e];exact⟨λh=>xl h,λh=>by rw[h]⟩
theorem aao{Bd:Nat}(bd:∀i,i<m.length->bdE Bd (nR m i).r)(hB:Bd<=100000)(hi:i<m.length)(c:Nat):ndg (fJ m i c).natAbs<=100001:=xy hB (AZ (bd i hi) c)
variable{Bd c:Nat}
theorem Q6(T:Tr b gh h so eo L m)(hc:c<L)(hB:Bd<=100000)(bd:∀i,i<m.length->bdE Bd (nR m i).r)(hm:m.length<1000000)(h0:Hp)(hh:h0.length=h.length)(K:KL) :
  ∀(r i:Nat)(a:Int),i+r=m.length->a<i->-1<=a->K (.exit 4) [I (atG RwL.z RwL.r c m r i a)] h ->
  lp (gC (CX Y) b (ouV so eo m.length) (I c)) [] h0 [I a,I i] h K
 | 0,i,a,hr,h1,h2,hK=>by
  refine aj ?_;have hlt:¬((i:Int)<(m.length:Int)):=aa;have l1:aO (ouV so eo m.length)=some (I m.length):=rfl;simp only[gC];simp[l1,hlt];exact hK
 | r+1,i,a,hr,h1,h2,hK=>by
  refine aj ?_;have hlt:((i:Int)<(m.length:Int)):=aa;have l1:aO (ouV so eo m.length)=some (I m.length):=rfl;have hi:i<m.length:=aa;have i1:=T.ix hi;have i2:=T.ld hi;have i3:=T.ix2 hi hc;have i4:=T.ld2 hi hc;simp only[gC]
  have ih:=λa' (h1:a'<((i+1:Nat):Int)) (h2 : -1<=a') (hk:K (.exit 4) [I (atG RwL.z RwL.r c m r (i+1) a')] h)=>Q6 T hc hB bd hm h0 hh K r (i+1) a' aa h1 h2 hk
  simp only[atG]at hK
  have fin:∀a':Int,a'<((i+1:Nat):Int)->-1<=a'->K (.exit 4) [I (atG RwL.z RwL.r c m r (i+1) a')] h ->
    rl (lp (gC (CX Y) b (ouV so eo m.length) (I c)) [] h0 [I a',.d (.int .i64 ((i:Int)+1))] h) K .mk:=λa' x1 x2 hk=>by
   simp_all
  by_cases e0:fJ m i c=0
  .have t0:=(uf (fJ m i c)).2 e0;rw[if_neg (λh=>h.1 e0)]at hK;simp[l1,hlt];refine aM ?_;simp[i1,i2,i3,i4,t0];refine aM ?_;simp(disch:=try exact ae);exact fin a aa h2 hK
  .have t0:¬itoa (fJ m i c)=[48]:=λh=>e0 ((uf _).1 h)
   by_cases a0:a<0
   .rw[if_pos ⟨e0,.inl a0⟩]at hK;simp[l1,hlt];refine aM ?_;simp[i1,i2,i3,i4,t0,a0];refine aM ?_;simp(disch:=try exact ae);exact fin i aa aa hK
   .obtain⟨n,rfl⟩:∃n:Nat,a=n:=⟨a.toNat,aa⟩;have hn:n<m.length:=aa;have j1:=T.ix hn;have j2:=T.ld hn;have j3:=T.ix2 hn hc;have j4:=T.ld2 hn hc;simp[l1,hlt];refine aM ?_;simp[i1,i2,i3,i4,t0,a0];refine cd (Ba _) ?_;simp[j1,j2,j3,j4];refine cd (Ba _) ?_;simp;refine cd (T5 (by have:=aao bd hB hi c;omega) (by have:=aao bd hB hn c;omega)) ?_
    have et:((n:Int)).toNat=n:=aa;rw[et]at hK;by_cases hl:(fJ m i c).natAbs<(fJ m n c).natAbs
    .have hcm:Big.cmp (fJ m i c).natAbs (fJ m n c).natAbs<0:=MD.2 hl;rw[if_pos ⟨e0,.inr hl⟩]at hK;simp[hcm,t0];refine aM ?_;simp(disch:=try exact ae);exact fin i aa aa hK
    .have hcm:¬Big.cmp (fJ m i c).natAbs (fJ m n c).natAbs<0:=λg=>hl (MD.1 g)
     rw[if_neg (λg=>g.2.elim (λg=>by omega) hl)]at hK;simp[hcm,t0];refine aM ?_;simp(disch:=try exact ae);exact fin n aa aa hK
theorem Q5(hc:c<L)(hB:Bd<=100000)(hL:L<1000000){o:Nat}(h0:Hp)(h00:∀s,b<=s->s<h0.length->h0[s]?=some nnQ)(K:KL) :
  ∀(r i:Nat)(rs:Bool)(m:List RwL)(h:Hp),Tr b gh h so eo L m->m.length<1000000->h0.length=h.length->o<i->i+r=m.length->bdE Bd (nR m o).r->(∀k,i<=k->k<m.length->bdE Bd (nR m k).r)->fJ m o c≠0 ->
  (∀h',Tr b gh h' so eo L (kU RwL.z RwL.r RwL.w c o r i rs m).2->h'.length=h.length->K (.exit 6) [B (kU RwL.z RwL.r RwL.w c o r i rs m).1] h') ->
  lp (jL (CX Y) b (ouV so eo m.length) (I o) (I c)) [b+0] h0 [B rs,I i] h K
 | 0,i,rs,m,h,T,hm,hh,ho,hr,b1,b2,hz,hK=>by
  refine aj ?_;have hlt:¬((i:Int)<(m.length:Int)):=aa;have l1:aO (ouV so eo m.length)=some (I m.length):=rfl;simp only[jL];simp[l1,hlt];exact hK h T rfl
 | r+1,i,rs,m,h,T,hm,hh,ho,hr,b1,b2,hz,hK=>by
  refine aj ?_;have hlt:((i:Int)<(m.length:Int)):=aa;have l1:aO (ouV so eo m.length)=some (I m.length):=rfl;have hi:i<m.length:=aa;have hoo:o<m.length:=aa;have i1:=T.ix hi;have i2:=T.ld hi;have i3:=T.ix2 hi hc;have i4:=T.ld2 hi hc;have j1:=T.ix hoo;have j2:=T.ld hoo;have j3:=T.ix2 hoo hc;have j4:=T.ld2 hoo hc;have n1:=xy hB (AZ (b2 i (Z8 _) hi) c)
  have n2:=xy hB (AZ b1 c);simp only[jL];simp[l1,hlt,i1,i2,i3,i4,j1,j2,j3,j4];refine cd (KV (z:=fJ m i c) (w:=fJ m o c) hz (by have:ndg (fJ m i c).natAbs<=_:=n1;omega) (by have:ndg (fJ m o c).natAbs<=_:=n2;omega)) ?_;simp[i1,i2,j1,j2];have nio:o≠i:=aa;have el:(nR m i).r.length=(nR m o).r.length:=by rw[T.ln i hi,T.ln o hoo]
  have T2:Tr b gh (h.set (nR m i).s ((nR m i).w (sT ((fJ m i c).fdiv (fJ m o c)) (nR m i).r (nR m o).r)).k) so eo L (jc RwL.z RwL.r RwL.w c o m i):=T.row hi (by rw[EV _ _ _ el,T.ln i hi]);have q1:ndg ((fJ m i c).fdiv (fJ m o c)).natAbs<=100002:=Zy (fk (MV _ _ hz)) (Zy n1 aa)
  refine gP (Mr hB (T.r o hoo) (T.r i hi) (T.nd i o hi hoo (Ne.symm nio)) q1 b1 (b2 i (Z8 _) hi) el (by grind[Tr.ln]) T.hu) ?_ ac;have e1:((i+1:Nat):Int)=(i:Int)+1:=aa;have hlen:(h.set (nR m i).s ((nR m i).w (sT ((fJ m i c).fdiv (fJ m o c)) (nR m i).r (nR m o).r)).k).length=h.length:=Yv
  generalize h.set (nR m i).s ((nR m i).w (sT ((fJ m i c).fdiv (fJ m o c)) (nR m i).r (nR m o).r)).k=h1 at *;have no:nR (jc RwL.z RwL.r RwL.w c o m i) o=nR m o:=by unfold nR jc;rw[j6 _ _ _ _ _ hi,if_neg nio]
  have tl:(jc RwL.z RwL.r RwL.w c o m i).length=m.length:=mE ..
  have eo':fJ (jc RwL.z RwL.r RwL.w c o m i) o c=fJ m o c:=by
   show nth 0 (nR (jc RwL.z RwL.r RwL.w c o m i) o).r c=_
   rw[no];rfl
  have cl:∀x:Bool,clean [b] [B x,I ((i:Int)+1)] h1=true:=λx=>by
   simp only[clean,Z7];exact⟨rfl,u9 ac T2.u 0⟩
  have rs1:aS [b] 0 h0 h1=h1:=uv (b:=b) ac 0 h0 h1 aa λs h1' h2'=>⟨T2.ow s aa h2',h00 s aa aa⟩
  have ih:=λrs' (hk:∀h',Tr b gh h' so eo L (kU RwL.z RwL.r RwL.w c o r (i+1) rs' (jc RwL.z RwL.r RwL.w c o m i)).2->h'.length=h.length->K (.exit 6) [B (kU RwL.z RwL.r RwL.w c o r (i+1) rs' (jc RwL.z RwL.r RwL.w c o m i)).1] h')=>
   Q5 hc hB hL h0 h00 K r (i+1) rs' (jc RwL.z RwL.r RwL.w c o m i) h1 T2 aa aa aa aa (by grind)
    (λk k1 k2=>by
     rw[tl]at k2;have:nR (jc RwL.z RwL.r RwL.w c o m i) k=nR m k:=by unfold nR jc;rw[j6 _ _ _ _ _ hi,if_neg aa]
     rw[this];exact b2 k aa k2) aa (λh' t1 t2=>hk h' t1 aa)
  rw[tl,e1]at ih;simp only[kU]at hK;cases rs with
  | true=>
   simp(disch:=try exact ae)[cl,rs1]
   simp_all
  | false=>
   by_cases hf:(fJ m i c).fmod (fJ m o c)=0
   .have t0:=(uf ((fJ m i c).fmod (fJ m o c))).2 hf;simp(disch:=try exact ae)[cl,rs1,t0]
    simp_all
   .have t0:¬itoa ((fJ m i c).fmod (fJ m o c))=[48]:=λh=>hf ((uf _).1 h)
    have t1:(itoa ((fJ m i c).fmod (fJ m o c)) == [48])=false:=by simpa using t0
    simp(disch:=try exact ae)[cl,rs1,t1]
    simp_all
theorem Q4(hc:c<L)(hB:Bd<=100000)(hL:L<1000000){o:Nat}(h0:Hp)(h00:∀s,b<=s->s<h0.length->h0[s]?=some nnQ)(K:KL) :
  ∀(r i:Nat)(m:List RwL)(h:Hp),Tr b gh h so eo L m->m.length<1000000->h0.length=h.length->o<m.length->i+r=o->bdE Bd (nR m o).r->(∀k,i<=k->k<o->bdE Bd (nR m k).r)->fJ m o c≠0 ->
  (∀h',Tr b gh h' so eo L (upG RwL.z RwL.r RwL.w c o r i m)->h'.length=h.length->K (.exit 8) [] h') ->
  lp (gB (CX Y) b (ouV so eo m.length) (I o) (I c) (I o)) [b+2] h0 [I i] h K
 | 0,i,m,h,T,hm,hh,ho,hr,b1,b2,hz,hK=>by
  refine aj ?_;have hlt:¬((i:Int)<(o:Int)):=aa;simp only[gB];simp[hlt];exact hK h T rfl
 | r+1,i,m,h,T,hm,hh,hoo,hr,b1,b2,hz,hK=>by
  refine aj ?_;have hlt:((i:Int)<(o:Int)):=aa;have hi:i<m.length:=aa;have i1:=T.ix hi;have i2:=T.ld hi;have i3:=T.ix2 hi hc;have i4:=T.ld2 hi hc;have j1:=T.ix hoo;have j2:=T.ld hoo;have j3:=T.ix2 hoo hc;have j4:=T.ld2 hoo hc;have n1:=xy hB (AZ (b2 i (Z8 _) aa) c);have n2:=xy hB (AZ b1 c);simp only[gB]
  simp[hlt,i1,i2,i3,i4,j1,j2,j3,j4];refine cd (KV (z:=fJ m i c) (w:=fJ m o c) hz (by have:ndg (fJ m i c).natAbs<=_:=n1;omega) (by have:ndg (fJ m o c).natAbs<=_:=n2;omega)) ?_;simp[i1,i2,j1,j2];have nio:o≠i:=aa;have el:(nR m i).r.length=(nR m o).r.length:=by rw[T.ln i hi,T.ln o hoo]
  have T2:Tr b gh (h.set (nR m i).s ((nR m i).w (sT ((fJ m i c).fdiv (fJ m o c)) (nR m i).r (nR m o).r)).k) so eo L (jc RwL.z RwL.r RwL.w c o m i):=T.row hi (by rw[EV _ _ _ el,T.ln i hi]);have q1:ndg ((fJ m i c).fdiv (fJ m o c)).natAbs<=100002:=Zy (fk (MV _ _ hz)) (Zy n1 aa)
  refine gP (Mr hB (T.r o hoo) (T.r i hi) (T.nd i o hi hoo (Ne.symm nio)) q1 b1 (b2 i (Z8 _) aa) el (by rw[T.ln i hi];exact hL) T.hu) ?_ (by intro _ _ _ _ _ h;cases h);have e1:((i+1:Nat):Int)=(i:Int)+1:=aa;have hlen:(h.set (nR m i).s ((nR m i).w (sT ((fJ m i c).fdiv (fJ m o c)) (nR m i).r (nR m o).r)).k).length=h.length:=Yv
  generalize h.set (nR m i).s ((nR m i).w (sT ((fJ m i c).fdiv (fJ m o c)) (nR m i).r (nR m o).r)).k=h1 at *;have no:nR (jc RwL.z RwL.r RwL.w c o m i) o=nR m o:=by unfold nR jc;rw[j6 _ _ _ _ _ hi,if_neg nio]
  have tl:(jc RwL.z RwL.r RwL.w c o m i).length=m.length:=mE ..
  have eo':fJ (jc RwL.z RwL.r RwL.w c o m i) o c=fJ m o c:=by
   show nth 0 (nR (jc RwL.z RwL.r RwL.w c o m i) o).r c=_
   rw[no];rfl
  have cl:clean [b+2] [I ((i:Int)+1)] h1=true:=by
   simp only[clean,Z7];exact⟨rfl,u9 (b:=b) ac T2.u 0⟩
  have rs1:aS [b+2] 0 h0 h1=h1:=uv (b:=b) ac 0 h0 h1 aa λs h1' h2'=>⟨T2.ow s aa h2',h00 s aa aa⟩
  have ih:=Q4 hc hB hL h0 h00 K r (i+1) (jc RwL.z RwL.r RwL.w c o m i) h1 T2 (by rw[tl];exact hm) aa (by rw[tl];exact hoo) aa (by rw[no];exact b1)
    (λk k1 k2=>by
     have:nR (jc RwL.z RwL.r RwL.w c o m i) k=nR m k:=by unfold nR jc;rw[j6 _ _ _ _ _ hi,if_neg aa]
     rw[this];exact b2 k aa k2) (by rw[eo'];exact hz) (λh' t1 t2=>by simp only[upG]at hK;exact hK h' t1 aa)
  rw[tl,e1]at ih;simp(disch:=try exact ae)[cl,rs1];exact lo ih
theorem Mj(z:Int):(sgn z<0)↔z<0:=by unfold sgn;split<;>(try split)<;>omega
theorem aav(c:Nat)(m:List RwL):∀(r i:Nat)(a:Int),(a<0∨fJ m a.toNat c≠0)->(atG RwL.z RwL.r c m r i a<0∨fJ m (atG RwL.z RwL.r c m r i a).toNat c≠0)
 |0,_,_,h=>h
 | r+1,i,a,h=>by
  simp only[atG];refine aav c m r (i+1) _ ?_
  grind
theorem EB(c o:Nat):∀(r i:Nat)(x:Bool)(m:List RwL)(k:Nat),k<i->i+r<=m.length->nR (kU RwL.z RwL.r RwL.w c o r i x m).2 k=nR m k
 |0,_,_,_,_,_,_=>rfl
 | r+1,i,x,m,k,hk,hl=>by
  simp only[kU];rw[EB c o r (i+1) _ _ k aa (by grind[mE])];unfold nR jc;rw[j6 _ _ _ _ _ aa,if_neg aa]
theorem V0(l:LiQ)(c:Nat):nth 0 (l.map (- ·)) c = -(nth 0 l c):=by grind[nth]
theorem acG(h:bdE Bd l):bdE Bd (l.map (- ·)):=λx hx=>by
 obtain⟨y,hy,rfl⟩:=Zw.1 hx;rw[Xz];exact h y hy
theorem ah6{n:Nat}(ho:h[so]?=some (eo,.vars cs))(hn:cs.length=n)(hi:i<n):ixV h 1 (ouV so eo n) (I i)=some (ouP so eo n i):=by
 have hg:aw h so eo=.vars cs:=by simp[aw,ho]
 simp only[ouV,ixV,hg];rw[if_pos ⟨hn.symm,aa,aa⟩];simp[ouP]
theorem Q7(hc:c<L)(hB:Bd<=100000)(hL:L<1000000)(h0:Hp)(h00:∀s,b<=s->s<h0.length->h0[s]?=some nnQ)(K:KL) :
  ∀(f o:Nat)(m:List RwL)(h:Hp)(o':Nat)(m':List RwL),Tr b gh h so eo L m->m.length<1000000->h0.length=h.length->o<m.length->nI RwL.z RwL.r RwL.w Bd c f o m=some (o',m') ->
  (∀h',Tr b gh h' so eo L m'->h'.length=h.length->K (.exit 2) [I o'] h') ->
  lp (mP (CX Y) b (ouV so eo m.length) (I c)) [b+0,b+1,b+2] h0 [I o] h K
 |0,o,m,h,o',m',T,hm,hh,ho,hf,hK=>by trivial
 | f+1,o,m,h,o',m',T,hm,hh,ho,hf,hK=>by
  refine aj ?_;simp only[nI]at hf;split at hf
  case isFalse=>cases hf
  rename_i hbd
  have bd:∀i,i<m.length->bdE Bd (nR m i).r:=λi hi x hx=>by
   have h1:=Z1.1 hbd (nR m i) (by grind[cO]);have h2:=Z1.1 h1 x hx
   grind
  obtain⟨a,ha⟩:=nmQ (atG RwL.z RwL.r c m (m.length-o) o (-1));have ha2:=Pd (d:=RwL.z) (g:=RwL.r) c m (m.length-o) o (-1) aa aa;rw[<-ha]at hf ha2;simp only[mP];simp;refine lo (Q6 T hc hB bd hm h rfl _ (m.length-o) o (-1) aa aa aa ?_);rw[<-ha];by_cases a0:a<0
  .rw[if_pos a0]at hf;cases hf;simp[a0]
   grind
  .rw[if_neg a0]at hf;obtain⟨n,rfl⟩:∃n:Nat,a=n:=⟨a.toNat,aa⟩;rw[show((n:Int)).toNat=n by omega]at hf;have hn:n<m.length:=aa;have i1:=T.ix hn;have i2:=T.ld hn;have j1:=T.ix ho;have j2:=T.ld ho;have s1:=afI (h:=h) T.o ac ho (nR m n);have hso:so<h.length:=(List.getElem?_eq_some_iff.1 T.o).1
   have g1:(h.set so (eo,.vars ((m.map RwL.v).set o (nR m n).v)))[so]?=some (eo,.vars ((m.map RwL.v).set o (nR m n).v)):=List.getElem?_set_self hso;have x1:=ah6 g1 (n:=m.length) ac hn;have s2:=afI g1 (n:=m.length) ac hn (nR m o);rw[List.set_set,Uo ho hn]at s2;have T1:=T.swap ho hn;simp(disch:=try exact ae)[a0,i1,i2,j1,j2,s1,x1,s2]
   obtain⟨H2,hH2⟩:=nmQ (h.set so (eo,.vars ((lJ RwL.z m o n).map RwL.v)));have lH2:H2.length=h.length:=by rw[hH2];exact Yv
   rw[<-hH2]at T1 ⊢;have sl:(lJ RwL.z m o n).length=m.length:=gG ..
   have bd1:∀k,k<m.length->bdE Bd (nR (lJ RwL.z m o n) k).r:=λk hk=>by
    obtain⟨k',h1,h2,_⟩:=mF ho hn hk
    grind
   have z1:fJ (lJ RwL.z m o n) o c=fJ m n c:=by
    obtain⟨k',h1,h2,h3⟩:=mF ho hn ho;have:k'=n:=by rw[h3];split<;>simp_all
    show nth 0 (nth RwL.z (lJ RwL.z m o n) o).r c=_
    rw[h2,this];rfl
   have nz:fJ m n c≠0:=by
    have:=aav c m (m.length-o) o (-1) (.inl aa);rw[<-ha]at this;rcases this with g|g
    .omega
    .trivial
   obtain⟨s,hs⟩:=nmQ (kU RwL.z RwL.r RwL.w c o (m.length-(o+1)) (o+1) false (lJ RwL.z m o n));rw[<-hs]at hf;have ls:s.2.length=m.length:=by rw[hs,o7,sl]
   have ks:∀k,k<=o->nR s.2 k=nR (lJ RwL.z m o n) k:=λk hk=>by rw[hs];exact EB c o _ _ _ _ k aa aa
   have e1:((o+1:Nat):Int)=(o:Int)+1:=aa;have hl3:=λK=>Q5 (o:=o) hc hB hL H2 T1.ow K (m.length-(o+1)) (o+1) false (lJ RwL.z m o n) H2 T1 aa rfl aa aa (bd1 o ho) (λk _ k2=>bd1 k aa) aa
   rw[<-hs,sl,e1]at hl3;refine lo (hl3 _ λh' T2 t2=>?_)
   have cl:∀(x:Int)(h'':Hp)(m2:List RwL),Tr b gh h'' so eo L m2->clean [b,b+1,b+2] [I x] h''=true:=λx h'' m2 T=>by
    simp only[clean,Z7];exact⟨rfl,u9 (b:=b) ac T.u 0⟩
   have rs1:aS [b,b+1,b+2] 0 h0 h'=h':=uv (b:=b) ac 0 h0 h' aa λs h1' h2'=>⟨T2.ow s aa h2',h00 s aa aa⟩
   by_cases hr:s.1=true
   .rw[if_pos hr]at hf;have ih:=Q7 hc hB hL h0 h00 K f o s.2 h' o' m' T2 aa aa aa hf (λh3 a1 a2=>hK h3 a1 aa);rw[ls]at ih;simp[hr,cl _ h' s.2 T2,rs1];trivial
   .have hr2:s.1=false:=by simpa using hr
    rw[if_neg hr]at hf;have hos:o<s.2.length:=aa;have i1':=T2.ix hos;have i2':=T2.ld hos;have i3':=T2.ix2 hos hc;have i4':=T2.ld2 hos hc;rw[ls]at i1' i2';have bds:∀k,k<=o->bdE Bd (nR s.2 k).r:=λk hk=>by rw[ks k hk];exact bd1 k aa
    have zs:fJ s.2 o c≠0:=by
     show nth 0 (nR s.2 o).r c≠0
     rw[ks o (Z8 _)];have:nth 0 (nR (lJ RwL.z m o n) o).r c=fJ m n c:=z1;rw[this];exact nz
    have tail:∀(m3:List RwL)(h3:Hp),Tr b gh h3 so eo L m3->h3.length=h.length->m3.length=m.length->(∀k,k<=o->bdE Bd (nR m3 k).r)->fJ m3 o c≠0->upG RwL.z RwL.r RwL.w c o o 0 m3=m'->(o:Int)+1=(o':Int) ->
      lp (gB (CX Y) b (ouV so eo m.length) (I o) (I c) (I o)) [b+2] h3 [.d (.int .i64 0)] h3 (exK [((.exit 8),λl21 h=>
       bnd (biI .add (I o) (.d (.int .i64 1))) λv22=>
       K (.exit 2) [v22] h)]):=by
     intro m3 h3 T3 l3 lm b3 z3 hu ho'
     have q:=Q4 (o:=o) hc hB hL h3 T3.ow (exK [((.exit 8),λl21 h=>
       bnd (biI .add (I o) (.d (.int .i64 1))) λv22=>
       K (.exit 2) [v22] h)]) o 0 m3 h3 T3 aa rfl aa aa (b3 o (Z8 _)) (λk _ k2=>b3 k aa) z3 (λh4 T4 t4=>by
        rw[hu]at T4;simp(disch:=try exact ae);rw[ho'];exact hK h4 T4 aa)
     rw[lm]at q;exact q
    cases hf;simp[hr2,i1',i2',i3',i4'];refine cd (qO _) ?_;by_cases hneg:fJ s.2 o c<0
    .have sg1:=(Mj (fJ s.2 o c)).2 hneg;simp[sg1];refine aM ?_;simp[i1',i2'];refine gP (Oz hB (T2.r o hos) (bds o (Z8 _)) (by grind[Tr.ln]) T2.hu) ?_ ac;simp;have T3:=T2.row hos (r:=(nR s.2 o).r.map (- ·)) (by grind[Tr.ln]);have eN:BK RwL.z RwL.r RwL.w c o s.2=s.2.set o ((nR s.2 o).w ((nR s.2 o).r.map (- ·))):=by unfold BK;rw[if_pos hneg]
     refine lo (tail _ _ T3 (by grind) (by grind) (λk hk=>?_) ?_ (by rw[eN]) e1.symm)
     .unfold nR;rw[j6 _ _ _ _ _ hos];split
      .exact acG (bds o (Z8 _))
      grind
     ·have:fJ (s.2.set o ((nR s.2 o).w ((nR s.2 o).r.map (- ·)))) o c = -(fJ s.2 o c):=by
       show nth 0 (nth RwL.z _ o).r c=_
       rw[j6 _ _ _ _ _ hos,if_pos rfl];exact V0 _ _
      omega
    .have sg1:¬sgn (fJ s.2 o c)<0:=λg=>hneg ((Mj _).1 g)
     simp[sg1];refine aM ?_;simp;have eN:BK RwL.z RwL.r RwL.w c o s.2=s.2:=by unfold BK;rw[if_neg hneg]
     exact lo (tail s.2 h' T2 aa ls bds zs (by rw[eN]) e1.symm)
variable{b so eo L:Nat}{gh:Hp}{Bd c:Nat}
theorem Bz(c:Nat):∀(f o:Nat)(m:List RwL)(o':Nat)(m':List RwL),o<m.length->nI RwL.z RwL.r RwL.w Bd c f o m=some (o',m')->o'<=m.length∧m'.length=m.length
 |0,o,m,o',m',ho,hf=>by trivial
 | f+1,o,m,o',m',ho,hf=>by
  simp only[nI]at hf;split at hf
  case isFalse=>cases hf
  split at hf
  .cases hf;exact⟨aa,rfl⟩
  .split at hf
   .have:=Bz c f o _ o' m' (by grind[o7,gG]) hf
    grind[o7,gG]
   .cases hf;exact⟨aa,by rw[Po,Fz,o7,gG]⟩
theorem Q8{cols f:Nat}(hB:Bd<=100000)(hL:L<1000000)(hcl:cols<=L)(h0:Hp)(h00:∀s,b<=s->s<h0.length->h0[s]?=some nnQ)(K:KL) :
  ∀(r c o:Nat)(m:List RwL)(h:Hp)(o':Nat)(m':List RwL),Tr b gh h so eo L m->m.length<1000000->h0.length=h.length->o<=m.length->c+r=cols->pI RwL.z RwL.r RwL.w Bd f r c o m=some (o',m') ->
  (∀h',Tr b gh h' so eo L m'->h'.length=h.length->o'<=m'.length->m'.length=m.length->K (.exit 0) [I o'] h') ->
  lp (gD (CX Y) b (ouV so eo m.length) (I cols)) [b+0,b+1,b+2] h0 [I o,I c] h K
 | 0,c,o,m,h,o',m',T,hm,hh,ho,hc,hf,hK=>by
  refine aj ?_;simp only[pI]at hf;cases hf;have hlt:¬((c:Int)<(cols:Int)):=aa;simp only[gD];simp[hlt]
  grind
 | r+1,c,o,m,h,o',m',T,hm,hh,ho,hc,hf,hK=>by
  refine aj ?_;simp only[pI]at hf;have hlt:((c:Int)<(cols:Int)):=aa;have l1:aO (ouV so eo m.length)=some (I m.length):=rfl;simp only[gD];by_cases hom:o<m.length
  .rw[if_pos hom]at hf;have hom2:((o:Int)<(m.length:Int)):=aa;cases hr:nI RwL.z RwL.r RwL.w Bd c f o m with
   |none=>grind
   | some q=>
    obtain⟨o1,m1⟩:=q;rw[hr]at hf;simp only at hf;obtain⟨r1,r2⟩:=Bz c f o m o1 m1 hom hr;simp[hlt,l1,hom2];refine lo (Q7 (c:=c) aa hB hL h T.ow _ f o m h o1 m1 T hm rfl hom hr λh' T1 t1=>?_)
    have cl:clean [b,b+1,b+2] [I (o1:Int),I ((c:Int)+1)] h'=true:=by
     simp only[clean,Z7];exact⟨rfl,u9 (b:=b) ac T1.u 0⟩
    have rs1:aS [b,b+1,b+2] 0 h0 h'=h':=uv (b:=b) ac 0 h0 h' aa λs h1' h2'=>⟨T1.ow s aa h2',h00 s aa aa⟩
    have ih:=Q8 hB hL hcl h0 h00 K r (c+1) o1 m1 h' o' m' T1 aa aa aa aa hf (λh2 a1 a2 a3 a4=>hK h2 a1 aa a3 aa);have e1:((c+1:Nat):Int)=(c:Int)+1:=aa;rw[r2,e1]at ih;simp(disch:=try exact ae)[cl,rs1];trivial
  .rw[if_neg hom]at hf;cases hf;have hom2:¬((o:Int)<(m.length:Int)):=aa;simp[hlt,l1,hom2]
   grind
theorem Tr.eq{b so eo L:Nat}{gh h1 h2:Hp}{m:List RwL}(T1:Tr b gh h1 so eo L m)(T2:Tr b gh h2 so eo L m):h1=h2:=by
 apply Yj;intro i;by_cases e:i=so
 .subst e;rw[T1.o,T2.o]
 .by_cases e2:∃k,k<m.length∧(nth RwL.z m k).s=i
  .grind[r]
  .have hn:∀k,k<m.length->(nth RwL.z m k).s≠i:=λk hk he=>e2 ⟨k,hk,he⟩
   rw[T1.fr i e hn,T2.fr i e hn]
theorem Tr.app{b so eo L:Nat}{gh h:Hp}{m:List RwL}(T:Tr b gh h so eo L m)(hb:h.length=b)(hg:gh.length=b)(n:Nat):Tr b (gh++List.replicate n nnQ) (h++List.replicate n nnQ) so eo L m where
 o:=by rw[List.getElem?_append_left (by have:=T.so;omega)];exact T.o
 r:=λi hi=>by rw[List.getElem?_append_left (by have:=T.sb i hi;omega)];grind[r]
 nd:=T.nd
 no:=T.no
 ln:=T.ln
 fr:=λs hs hn=>by
  by_cases hlt:s<b
  .rw[List.getElem?_append_left aa,List.getElem?_append_left aa];grind[fr]
  .rw[List.getElem?_append_right aa,List.getElem?_append_right aa,hb,hg]
 so:=T.so
 sb:=T.sb
 u:=by
  grind[u,ax]
 bl:=by grind
 ow:=λs hs hl=>by
  rw[List.getElem?_append_right aa,List.getElem?_replicate,if_pos (by grind)]
theorem afT{h:Hp}{so eo n k:Nat}(hg:h[so]?=some (eo,.vars cs))(hc:cs.length=n)(hk:k<=n):slV h 1 (ouV so eo n) none (some (I k))=some (.ref so eo 0 k n n):=by
 have g:aw h so eo=.vars cs:=by simp[aw,hg]
 simp only[ouV,slV,g,boV];rw[if_pos ⟨aa,aa⟩]
 grind
theorem FL{h h':Hp}{so eo L cols f o':Nat}{m m':List RwL}{Bd:Nat}(hB:Bd<=100000)(hL:L<1000000)(hm:m.length<1000000)(hcl:cols<=L)(T:Tr h.length h h so eo L m)
  (hf:Gj RwL.z RwL.r RwL.w Bd f cols m=some (o',m')) (T':Tr h.length h h' so eo L m') (hl:h'.length=h.length) :
  CI Y F.cg [ouV so eo m.length,I cols] h (.ref so eo 0 o' m.length m.length) h':=by
 refine qW ?_;simp only[cg];simp;have T0:=T.app rfl rfl 3;refine lo (Q8 hB hL hcl (h++List.replicate 3 nnQ) T0.ow _ cols 0 0 m _ o' m' T0 hm rfl aa aa hf λH TH lH ho hlm=>?_);have e:=TH.eq (T'.app hl rfl 3);subst e;have sl:=afT (k:=o') TH.o (n:=m.length) (by grind) aa
 have sl':slV (h'++[(0,Bk.none),(0,Bk.none),(0,Bk.none)]) 1 (ouV so eo m.length) none (some (I o'))=some (.ref so eo 0 o' m.length m.length):=sl;simp[sl'];refine⟨by rw[Yd hl],T'.u,.inl ⟨rfl,?_⟩⟩
 grind[under,Wz,Tr.so]
theorem adt{s s' e i cap tot by_:Nat}{old:LdQ}{ex:Bool}{x:D}{h:Hp}{q:kkQ}{u:PU q}(hg:h[s']?=some (e,.data 1 old ex false))(hi:i<cap)(hc:cap<=old.length)(ht:tot=old.length)
  (hq:q (.ref s' e 0 (i+1) cap tot) (h.set s' (e,.data 1 (old.set i x) ex false))):rh (apV false s 1 by_ (.ref s' e 0 i cap tot) (.d (.sl 1 [x])) h) q u:=by
 subst ht;have g:aw h s' e=.data 1 old ex false:=by simp[aw,hg]
 show apV false s 1 by_ _ _ h q
 simp only[apV,cellsOf];rw[if_pos ac];unfold apC;rw[if_neg af];simp only[g];rw[if_pos ⟨trivial,trivial,aa,aa,ac⟩,if_pos aa];simp only[Bool.or_self,Zf,if_false,bL];have e1:old.set i x=old.take i++x::old.drop (i+1):=by rw[Ym,if_pos aa]
 grind
structure Rd(h:Hp)(x:V)(r:LiQ):Prop where
 n:aO x=some (I r.length)
 g:∀(t:Hp)(j:Nat),j<r.length->∃p,ixV (h++t) 1 x (I j)=some p∧ld1 (h++t) p=some (I (nth 0 r j))
theorem Rd.data(h:Hp)(r:LiQ):Rd h (lst di r) r where
 n:=by rfl
 g:=λt j hj=>⟨_,mR di r _ (i:=(j:Int)) aa aa,by
  simp_all⟩
def lgB(r:LiQ)(n i:Nat):Nat×Bk:=(1,.data 1 ((r.take i).map sI++List.replicate (n-i) (.str [])) true false)
theorem abz(hi:i<r.length):((r.take i).map sI++List.replicate (r.length-i) (D.str [])).set i (sI (nth 0 r i))=(r.take (i+1)).map sI++List.replicate (r.length-(i+1)) (.str []):=by
 have e1:List.replicate (r.length-i) (D.str [])=.str []::List.replicate (r.length-(i+1)) (.str []):=by
  rw[<-List.replicate_succ];congr 1;omega
 have e2:r.take (i+1)=r.take i++[nth 0 r i]:=by rw[List.take_succ_eq_append_getElem hi,cO _ _ _ hi]
 have hl:((r.take i).map sI).length=i:=by simp;omega
 rw[e1,e2,Y3 _ _ aa,hl,Zc];simp
theorem Ih{h:Hp}{x:V}{r:LiQ}(hr:Rd h x r)(hz:∀z∈r,-9223372036854775808<z∧z<9223372036854775808)(hn:r.length<1000000)(h0:Hp)(hh:h0.length=h.length+2)(K:KL) :
  ∀(k i:Nat),i+k=r.length->K (.exit 0) [.ref h.length 1 0 r.length r.length r.length] (h++[lgB r r.length r.length,nnQ]) ->
  lp (m8 (CX Y) h.length x (I r.length)) [] h0 [.ref h.length 1 0 i r.length r.length,I i] (h++[lgB r r.length i,nnQ]) K
 | 0,i,hk,hK=>by
  refine aj ?_;have hlt:¬((i:Int)<(r.length:Int)):=aa;have:i=r.length:=aa;subst this;simp only[m8];simp[hlt];exact hK
 | k+1,i,hk,hK=>by
  refine aj ?_;have hlt:((i:Int)<(r.length:Int)):=aa;have hi:i<r.length:=aa;obtain⟨p,p1,p2⟩:=hr.g [lgB r r.length i,nnQ] i hi;obtain⟨z1,z2⟩:=hz (nth 0 r i) (og hi);simp only[m8];simp[hlt,p1,p2];refine cd (kY z1 z2) ?_
  have hli:eC 1 [D.str []] [(0,S (itoa (nth 0 r i)))] (h++[lgB r r.length i,nnQ])=some ([sI (nth 0 r i)],h++[lgB r r.length i,nnQ]):=by
   simp[eC,iH,kJ,toD,norm,sI]
  simp[hli];refine adt (i:=i) (e:=1) (old:=(r.take i).map sI++List.replicate (r.length-i) (.str [])) (ex:=true) (by simp[lgB]) hi (by grind) (by grind) ?_;rw[abz hi,Y3 _ _ (Z8 _),Zc];have e1:((i+1:Nat):Int)=(i:Int)+1:=aa;have ih:=Ih hr hz hn h0 hh K k (i+1) aa hK;rw[e1]at ih
  simp(disch:=try exact ae)[List.set_cons_zero]
  simp_all[lgB]
theorem SV(n:Nat)(z:D):iH n [z]=List.replicate n z:=by
 induction n with
 |zero=>rfl
 |succ n ih=>grind[iH]
theorem Mq{s e by_ n:Nat}{b0:Bk}{z:D}{h:Hp}{k:kkQ}{u:PU k}(hs:h[s]?=some (e,b0))(hb:(by_:Int)*(n:Int)<=281474976710656)(hn:n<=1000000)
  (hk:k (.ref s (e+1) 0 0 n n) (h.set s (e+1,.data 1 (List.replicate n z) true false))):rh (mkS s by_ [z] h (I 0) (I n)) k u:=by
 show mkS s by_ [z] h (I 0) (I n) k
 simp only[mkS];rw[if_pos ⟨aa,aa,ac,hb,aa⟩]
 grind[new,SV]
theorem BR{h:Hp}{x:V}(hr:Rd h x r)(hz:∀z∈r,-9223372036854775808<z∧z<9223372036854775808)(hn:r.length<1000000)(hu:(h.all λx=>ax h.length x.2)=true):
  CI Y F.fW [x] h (.new 1 (r.map sI) true r.length r.length) h:=by
 refine BV ?_;simp only[fW];have l1:=hr.n;have hn2:(16:Int)*(r.length:Int)<=281474976710656:=aa;simp[l1];refine Mq (e:=0) (b0:=.none) ac hn2 aa ?_;rw[Y3 _ _ (Z8 _),Zc];simp[l1]
 have lp1:=Ih hr hz hn (h++[(1,Bk.data 1 (List.replicate r.length (D.str [])) true false),(0,Bk.none)]) ac (exK
      [(Exit.exit 0,λl4 h_2=>
        mi (List.length h) (V.new 1 (List.map sI r) true r.length r.length) h (ge l4 0) h_2)]) r.length 0 aa (by
   simp;refine⟨ac,?_,.inr (.inr (.inl ⟨h.length,1,r.length,r.length,1,r.map sI,true,ac,Z8 _,by simp[aw,lgB],rfl⟩))⟩;exact hu)
 trivial
theorem TT{h:Hp}{n:Nat}(hn:n<1000000)(hu:(h.all λx=>ax h.length x.2)=true):
  CI Y F.kt [I n] h (.new 1 ((List.replicate n 0).map sI) true n n) h:=by
 refine Dk ?_;simp only[kt];simp(disch:=try exact ae);obtain⟨H,hH⟩:=nmQ (h++[(1,Bk.data 1 (List.replicate n (D.int IntKind.i64 0)) true false),(0,Bk.none)])
 have hg:∀t:Hp,aw (H++t) h.length 1=.data 1 (List.replicate n (D.int IntKind.i64 0)) true false:=λt=>by
  have:(H++t)[h.length]?=some (1,Bk.data 1 (List.replicate n (D.int IntKind.i64 0)) true false):=by
   rw[hH,List.append_assoc,List.getElem?_append_right (Z8 _),Zc];rfl
  grind[aw]
 have hr:Rd H (.ref h.length 1 0 n n n) (List.replicate n 0):=by
  refine⟨ac,λt j hj=>⟨.ptr h.length 1 j n,?_,?_⟩⟩
  .rw[Zd]at hj;simp only[ixV,hg t];rw[if_pos ⟨ac,aa,aa⟩];simp
  .rw[Zd]at hj;simp only[ld1,hg t];rw[if_pos ac];have e2:nth 0 (List.replicate n (0:Int)) j=0:=by simp[nth,hj]
   grind
 have hu2:(H.all λx=>ax H.length x.2)=true:=by
  refine ua (b:=h.length) (by grind) ?_;rw[hH,Zb,hu];simp[ax]
 have lg:=BR hr (λz hz=>by grind) (by grind) hu2;rw[<-hH];refine gz lg (s:=h.length+1) (e:=0) (b:=.none) (by grind) ?_;refine⟨by grind,hu,.inr (.inr (.inl ⟨h.length+1,1,n,n,1,(List.replicate n 0).map sI,true,ac,aa,?_,rfl⟩))⟩
 have:(H.set (h.length+1) (0+1,Bk.data 1 ((List.replicate n 0).map sI) true false))[h.length+1]?=some (1,Bk.data 1 ((List.replicate n 0).map sI) true false):=by
  rw[List.getElem?_set_self (by grind)]
 grind[aw]
end Go.Vm
