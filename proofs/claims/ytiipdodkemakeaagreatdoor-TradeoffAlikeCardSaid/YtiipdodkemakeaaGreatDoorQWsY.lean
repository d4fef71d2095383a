/- Lemmas. -/
import Derived.Test.YtiipdodkemakeaaGreatDoorQDcY
set_option linter.unusedVariables false
set_option linter.unusedSimpArgs false
namespace Go.Vm
open Go Go.Am Go.Big
variable{a s d n g j i:Nat}{x:Nat×Bk}{α β:Type}{l r:LiQ}{clr:LnQ}{cs:LwQ}
theorem qR{z:Int}{w:Nat}(h:sdg z<=w):z.natAbs<10^w:=by
 have:ndg z.natAbs<=w:=by unfold sdg at h;omega
 exact Z3 (cL _) (Z4 af this)
theorem kI{z:Int}(h1 : -9223372036854775808<z)(h2:z<9223372036854775808):CP Y F.dM [I z] (S (itoa z)):=by refine DN ?_;simp[dM];refine cd (Do h1 h2) ?_;exact fp rfl
theorem sF{b k:Nat}(ha:ndg a<=k)(hb:ndg b<=k):ndg (a+b)<=k+1:=by have h1:a<10^k:=Z3 (cL a) (Z4 af ha);have h2:b<10^k:=Z3 (cL b) (Z4 af hb);exact cQ (by rw[Nat.pow_succ];omega) aa
theorem aa7{z w:Int}(hz:ndg z.natAbs<999999)(hw:ndg w.natAbs<999999): 
  cal (CX Y).p [] (.fn F.aN [] []) [S (itoa z)] fun v6 h=>
  ext v6 0 fun v7=>
  ext v6 1 fun v8=>
  cal (CX Y).p h (.fn F.aN [] []) [S (itoa w)] fun v9 h=>
  ext v9 0 fun v10=>
  ext v9 1 fun v11=>
  bnd (biB .eql v7 v10) fun v12=>
  cnd v12 (
   cal (CX Y).p h (.fn F.gk [] []) [v8,v11] fun v13 h=>
   cal (CX Y).p h (.fn F.bV [] []) [v7,v13] fun v14 h=>
   out (S (itoa (z+w))) v14 h) (
   cal (CX Y).p h (.fn F.cj [] []) [v8,v11] fun v15 h=>
   bnd (biI .lss v15 (.d (.int .i64 0))) fun v16=>
   jn (fun l17 h=>
    cal (CX Y).p h (.fn F.ia [] []) [(ge l17 1),(ge l17 2)] fun v19 h=>
    ext v19 0 fun v20=>
    ext v19 1 fun v21=>
    cal (CX Y).p h (.fn F.bV [] []) [(ge l17 0),v20] fun v22 h=>
    out (S (itoa (z+w))) v22 h) fun q18=>
    cnd v16 (
     q18 [v10,v11,v8] h) (
     q18 [v7,v8,v11] h)):=by
 simp;refine cd (oH z) ?_;simp;refine cd (oH w) ?_;have eb:biB .eql (B (decide (z<0))) (B (decide (w<0)))=some (B (decide (z<0) == decide (w<0))):=rfl;simp[eb];by_cases hs:(z<0↔w<0)
 .simp[hs];refine cd (yA (a:=z.natAbs) (b:=w.natAbs) aa aa) ?_;simp;have hk:ndg (z.natAbs+w.natAbs)<=999999:=sF aa aa;refine cd (gY (decide (z<0)) (n:=z.natAbs+w.natAbs) aa) ?_;refine fp ?_;congr 1;unfold sg;by_cases h:z<0
  .simp[h];omega
  .simp[h];omega
 .simp[hs];refine cd (rI (a:=z.natAbs) (b:=w.natAbs) aa aa) ?_;simp;by_cases hlt:z.natAbs<w.natAbs
  .have hc:Big.cmp z.natAbs w.natAbs<0:=by rw[FU hlt];decide
   refine gM (l:=[B (decide (w<0)),S (ah w.natAbs),S (ah z.natAbs)]) (h:=[]) (fun q=>by simp[hc]) ?_;simp;refine cd (xj (a:=w.natAbs) (b:=z.natAbs) aa aa) ?_;simp;refine cd (gY (decide (w<0)) (n:=w.natAbs-z.natAbs) (Zb (cJ (Nat.sub_le ..)) aa)) ?_;refine fp ?_;congr 1;unfold sg;by_cases h:w<0
   .simp[h];omega
   .simp[h];omega
  ·have hc:¬Big.cmp z.natAbs w.natAbs<0:=by
    rcases Nat.eq_or_lt_of_not_lt hlt with h|h
    .rw[h,cmp_eq];decide
    .rw[FV h];decide
   refine gM (l:=[B (decide (z<0)),S (ah z.natAbs),S (ah w.natAbs)]) (h:=[]) (fun q=>by simp[hc]) ?_;simp;refine cd (xj (a:=z.natAbs) (b:=w.natAbs) aa aa) ?_;simp;refine cd (gY (decide (z<0)) (n:=z.natAbs-w.natAbs) (Zb (cJ (Nat.sub_le ..)) aa)) ?_;refine fp ?_;congr 1;unfold sg;by_cases h:z<0
   .simp[h];omega
   .simp[h];omega
theorem tC{z w:Int}(hz:ndg z.natAbs<999999)(hw:ndg w.natAbs<999999):CP Y F.cO [S (itoa z),S (itoa w)] (S (itoa (z+w))):=by
 refine KB ?_;have l1:=ov z 18 af;have l2:=ov w 18 af;have tl:=aa7 hz hw;simp[cO];refine cd l1 ?_;by_cases h1:sdg z<=18
 .rw[if_pos h1];simp;by_cases h2:sdg w<=18
  .rw[if_pos h2]at l2;refine aJ ?_;simp;refine cd l2 ?_;have b1:=qR h1;have b2:=qR h2;simp only[Nat.reducePow]at b1 b2;obtain⟨m,hm⟩:=mnQ (z+w);rw[hm];simp(disch:=try exact ac)[hm];refine cd (kI (z:=m) aa aa) ?_;exact fp rfl
  .rw[if_neg h2]at l2;refine aJ ?_;simp;refine cd l2 ?_;simp;simpa using tl
 .rw[if_neg h1];simp;refine aJ ?_;simp;simpa using tl
theorem nS{z w:Int}(hz:ndg z.natAbs<400000)(hw:ndg w.natAbs<400000):CP Y F.aP [S (itoa z),S (itoa w)] (S (itoa (z*w))):=by
 refine Ky ?_;have l1:=ov z 9 af;have l2:=ov w 9 af;have dm:=Ij (a:=z.natAbs) (b:=w.natAbs) aa aa
 have hk:ndg (z.natAbs*w.natAbs)<1000000:=by
  have h1:=cL z.natAbs;have h2:=cL w.natAbs;have h3:z.natAbs*w.natAbs<10^(ndg z.natAbs+ndg w.natAbs):=by rw[Yk];exact Yn h1 h2
  have:=cQ h3 (by have:=lI z.natAbs;omega);omega
 have e:sg (decide (z<0) !=decide (w<0)) (z.natAbs*w.natAbs)=z*w:=by
  unfold sg;by_cases h1:z<0<;>by_cases h2:w<0
  .simp[h1,h2];rw[W8 aa,W8 aa,Int.neg_mul_neg]
  .simp[h1,h2];rw[W8 aa,Wx aa,Int.neg_mul,Vz]
  .simp[h1,h2];rw[Wx aa,W8 aa,Int.mul_neg,Vz]
  .simp[h1,h2];rw[Wx aa,Wx aa]
 have eb:biB .neq (B (decide (z<0))) (B (decide (w<0)))=some (B (decide (z<0) !=decide (w<0))):=rfl;have jo:=gY (decide (z<0) !=decide (w<0)) hk;rw[e]at jo
 have tail:∀u:Unit,cal (CX Y).p [] (.fn F.aN [] []) [S (itoa z)] fun v6 h=>
  ext v6 0 fun v7=>
  ext v6 1 fun v8=>
  cal (CX Y).p h (.fn F.aN [] []) [S (itoa w)] fun v9 h=>
  ext v9 0 fun v10=>
  ext v9 1 fun v11=>
  bnd (biB .neq v7 v10) fun v12=>
  cal (CX Y).p h (.fn F.jT [] []) [v8,v11] fun v13 h=>
  cal (CX Y).p h (.fn F.bV [] []) [v12,v13] fun v14 h=>
  out (S (itoa (z*w))) v14 h:=by
  intro _;simp;refine cd (oH z) ?_;simp;refine cd (oH w) ?_;simp[eb];refine cd dm ?_;simp;refine cd jo ?_;exact fp rfl
 simp[aP];refine cd l1 ?_;by_cases h1:sdg z<=9
 .rw[if_pos h1];simp;by_cases h2:sdg w<=9
  .rw[if_pos h2]at l2;refine aJ ?_;simp;refine cd l2 ?_;have b1:=qR h1;have b2:=qR h2
   have hmb:(z*w).natAbs<1000000000000000000:=by
    rw[Zl];exact Yn b1 b2
   obtain⟨m,hm⟩:=mnQ (z*w);rw[hm]at hmb ⊢;simp(disch:=try exact ac)[hm];refine cd (kI (z:=m) aa aa) ?_;exact fp rfl
  .rw[if_neg h2]at l2;refine aJ ?_;simp;refine cd l2 ?_;simp;simpa using tail ()
 .rw[if_neg h1];simp;refine aJ ?_;simp;simpa using tail ()
theorem js(n:Nat):itoa (n:Int)=ah n:=by rfl
theorem abB(n:Nat):sgn (n:Int)=if n=0 then 0 else 1:=by
 unfold sgn;by_cases h:n=0
 .simp[h]
 .rw[if_neg aa,if_neg aa,if_neg h]
theorem Lc(n:Nat):CP Y F.dh [S (ah n)] (I (if n=0 then 0 else 1)):=by
 have:=mT (n:Int)
 grind[js,abB]
theorem DT{b:Nat}(ha:ndg a<1000000)(hb:ndg b<1000000):CP Y F.d7 [S (ah a),S (ah b)] (I (Big.cmp a b)):=by
 refine uU ?_;have s1:=Lc a;have s2:=Lc b;simp[d7];by_cases h1:a=0
 .rw[if_pos h1]at s1;by_cases h2:b=0
  .rw[if_pos h2]at s2;refine cd s1 ?_;simp;refine cd s2 ?_;simp;refine cd (rF a) ?_;simp;refine cd (rF b) ?_;simp;refine gM (l:=[S (ah a),S (ah b)]) (h:=[]) (fun q=>by simp) ?_;simp;refine cd (rI ha hb) ?_;simp
  .rw[if_neg h2]at s2;refine cd s1 ?_;simp;refine cd s2 ?_;simp;exact ba (FU aa).symm
 .rw[if_neg h1]at s1;by_cases h2:b=0
  .rw[if_pos h2]at s2;refine cd s1 ?_;simp;refine cd s2 ?_;simp;exact ba (FV aa).symm
  .rw[if_neg h2]at s2;refine cd s1 ?_;simp;refine cd s2 ?_;simp;refine cd (rF a) ?_;simp;refine cd (rF b) ?_;simp;refine gM (l:=[S (ah a),S (ah b)]) (h:=[]) (fun q=>by simp) ?_;simp;refine cd (rI ha hb) ?_;simp
theorem uP{b:Nat}(hb:0<b):(-(a:Int))/(b:Int)=(if a%b=0 then -((a/b:Nat):Int)else -((a/b+1:Nat):Int))∧(-(a:Int))%(b:Int)=(if a%b=0 then 0 else((b-a%b:Nat):Int)):=by
 have h1:=Xm a b;have h2:=Yu a hb;have hbz:(b:Int)>0:=aa;generalize a%b=r at *;generalize a/b=q at *;by_cases h:r=0
 .subst h;simp only[if_true]
  have e:(-(a:Int))=(b:Int)*(-(q:Int)):=by
   rw[Int.mul_neg,<-Int.natCast_mul];congr 1;omega
  rw[e];exact⟨Int.mul_ediv_cancel_left _ aa,Int.mul_emod_right _ _⟩
 .simp only[if_neg h]
  have e:(-(a:Int))=((b-r:Nat):Int)+(b:Int)*(-((q+1:Nat):Int)):=by
   have:(a:Int)=(b:Int)*q+r:=by rw[<-Int.natCast_mul];omega
   rw[this,Int.mul_neg,Int.natCast_add,Vy];have:((b-r:Nat):Int)=(b:Int)-r:=aa;omega
  have l1:(0:Int)<=((b-r:Nat):Int):=aa;have l2:((b-r:Nat):Int)<(b:Int):=aa;rw[e];constructor
  .rw[Int.add_mul_ediv_left _ _ aa,Int.ediv_eq_zero_of_lt l1 l2,Ww]
  .rw[Int.add_mul_emod_self_left,Int.emod_eq_of_lt l1 l2]
theorem uz:ndg 1=1:=az
theorem od{a b a' b':LuQ}{c:Int}{h:Hp}(e1:a'=a)(e2:b'=b):out (.tup [S a,S b,I c]) (.tup [S a',S b',I c]) h:=by simp_all[jp]
theorem acT{z:Int}{b:Nat}(hb:0<b)(hz:ndg z.natAbs<900000)(hbd:ndg b<900000):
   cal (CX Y).p [] (.fn F.aN [] []) [S (itoa z)] fun v7 h=>
   ext v7 0 fun v8=>
   ext v7 1 fun v9=>
   cal (CX Y).p h (.fn F.aN [] []) [S (ah b)] fun v10 h=>
   ext v10 0 fun v11=>
   ext v10 1 fun v12=>
   cal (CX Y).p h (.fn F.dZ [] []) [v9,v12] fun v13 h=>
   ext v13 0 fun v14=>
   ext v13 1 fun v15=>
   ext v13 2 fun v16=>
   bnd (biI .neq v16 (.d (.int .i64 0))) fun v17=>
   cnd v17 (
    out (.tup [S (itoa (z/b)),S (itoa (z%b)),I 0]) (.tup [(.d (.str [])),(.d (.str [])),v16]) h) (
    bnd (biB .neq v8 v11) fun v18=>
    gd v18 true h (fun q=>q v15 h) fun v19 h=>
    gd v18 true h (fun q=>bnd (biS .neq v19 (.d (.str [48]))) fun v=>q v h) fun v20 h=>
    bnd (mV v18 v20 (.d (.bool false))) fun v21=>
    jn (fun l22 h=>
     bnd (biB .neq v8 v11) fun v24=>
     cal (CX Y).p h (.fn F.bV [] []) [v24,(ge l22 0)] fun v25 h=>
     cal (CX Y).p h (.fn F.bV [] []) [v11,(ge l22 1)] fun v26 h=>
     out (.tup [S (itoa (z/b)),S (itoa (z%b)),I 0]) (.tup [v25,v26,(.d (.int .i64 0))]) h) fun q23=>
     cnd v21 (
      cal (CX Y).p h (.fn F.gk [] []) [v14,(.d (.str [49]))] fun v27 h=>
      cal (CX Y).p h (.fn F.ia [] []) [v12,v15] fun v28 h=>
      ext v28 0 fun v29=>
      ext v28 1 fun v30=>
      q23 [v27,v29] h) (
      q23 [v14,v15] h)):=by
 have hq:ndg (z.natAbs/b)<=ndg z.natAbs:=cJ (Yo ..);have hr:z.natAbs%b<b:=Yu _ hb;have hr2:ndg (z.natAbs%b)<=ndg b:=cJ aa
 have eb:biB .neq (B (decide (z<0))) (B false)=some (B (decide (z<0))):=by
  show some (B (decide (z<0) !=false))=_
  rw[Bool.bne_false]
 simp;refine cd (oH z) ?_;simp;refine cd (rF b) ?_;simp;refine cd (xi (a:=z.natAbs) hb aa aa) ?_;by_cases hneg:z<0
 .have ez:z = -(z.natAbs:Int):=aa;obtain⟨d1,d2⟩:=uP (a:=z.natAbs) hb;rw[<-ez]at d1 d2;rw[decide_eq_true hneg]at eb ⊢;by_cases h0:z.natAbs%b=0
  .rw[if_pos h0]at d1 d2;rw[h0,dW];simp[eb];refine gM (l:=[S (ah (z.natAbs/b)),S [48]]) (h:=[]) (fun q=>by simp) ?_;simp[eb];refine cd (gY true (n:=z.natAbs/b) aa) ?_;simp;have j0:=gY false (n:=0) (by grind);rw[dW]at j0;refine cd j0 ?_;refine od ?_ ?_
   .rw[d1];rfl
   .rw[d2];rfl
  .rw[if_neg h0]at d1 d2;have h48:¬ah (z.natAbs%b)=[48]:=fun h=>h0 (j5.1 h)
   have ad:=yA (a:=z.natAbs/b) (b:=1) aa (by simp[uz]);rw[show ah 1=[49] by decide+kernel]at ad;simp[eb,h48];refine aJ ?_;simp[h48];refine cd ad ?_;simp;refine cd (xj (a:=b) (b:=z.natAbs%b) aa aa) ?_;simp[eb];have hq1:ndg (z.natAbs/b+1)<=900000+1:=sF aa (by simp[uz])
   refine cd (gY true (n:=z.natAbs/b+1) aa) ?_;simp;refine cd (gY false (n:=b-z.natAbs%b) (Zb (cJ (Nat.sub_le ..)) aa)) ?_;refine od ?_ ?_
   .rw[d1];rfl
   .rw[d2];rfl
 .rw[decide_eq_false hneg]at eb ⊢;simp[eb];refine gM (l:=[S (ah (z.natAbs/b)),S (ah (z.natAbs%b))]) (h:=[]) (fun q=>by simp) ?_;simp[eb];refine cd (gY false (n:=z.natAbs/b) aa) ?_;simp;refine cd (gY false (n:=z.natAbs%b) aa) ?_;have ez:z=(z.natAbs:Int):=aa;refine od ?_ ?_
  .rw[ez,<-Int.natCast_ediv];rfl
  .rw[ez,<-Int.natCast_emod];rfl
theorem xN{z:Int}{b:Nat}(hb:0<b)(hz:ndg z.natAbs<900000)(hbd:ndg b<900000):CP Y F.aT [S (itoa z),S (ah b)] (.tup [S (itoa (z/b)),S (itoa (z%b)),I 0]):=by
 refine vG ?_;have l1:=ov z 18 af;have l2:=Ox b 18 af;have tl:=acT hb hz hbd;have h48:¬ah b=[48]:=fun h=>by grind[j5]
 simp[aT,h48];refine cd l1 ?_;by_cases h1:sdg z<=18
 .rw[if_pos h1];by_cases h2:ndg b<=18
  .rw[if_pos h2]at l2;simp;refine aJ ?_;simp;refine cd l2 ?_;have b1:=qR h1;have b2:b<10^18:=Z3 (cL b) (Z4 af h2);simp only[Nat.reducePow]at b1 b2;have hbz:¬(b:Int)=0:=aa;obtain⟨n,hn⟩:=nmQ (z.natAbs);rw[<-hn]at b1;have hq:n/b<=n:=Yo ..;have hr:n%b<b:=Yu _ hb;by_cases hneg:z<0
   .have ez:z = -(n:Int):=aa;obtain⟨d1,d2⟩:=uP (a:=n) hb;rw[<-ez]at d1 d2;have q1:z.tdiv (b:Int) = -((n/b:Nat):Int):=by rw[ez,Int.neg_tdiv,Zs aa,<-Int.natCast_ediv]
    have q2:z.tmod (b:Int) = -((n%b:Nat):Int):=by rw[ez,Int.neg_tmod,Zt aa,<-Int.natCast_emod]
    obtain⟨q,hqq⟩:=nmQ (n/b);obtain⟨r,hrr⟩:=nmQ (n%b);rw[<-hqq]at q1 d1 hq;rw[<-hrr]at q2 d1 d2 hr;by_cases h0:r=0
    .rw[if_pos h0]at d1 d2;rw[h0]at q2;simp(disch:=try exact ac)[q1,q2];refine gM (l:=[I (-(q:Int)),I 0]) (h:=[]) (fun q=>by simp) ?_;simp;refine cd (kI (z:=-(q:Int)) aa aa) ?_;simp;refine cd (kI (z:=0) aa aa) ?_;refine od ?_ ?_
     .rw[d1]
     .rw[d2]
    .rw[if_neg h0]at d1 d2;have r0:¬(-(r:Int))=0:=aa;have r1:(-(r:Int))<0:=aa;have r2:¬(b:Int)<0:=aa;have eb:∀x y:Bool,biB .neq (B x) (B y)=some (B (x !=y)):=fun _ _=>rfl
     simp(disch:=try exact ac)[q1,q2,r0,r1,r2,eb];refine gM (l:=[I (-(q:Int)-1),I (-(r:Int)+b)]) (h:=[]) (fun q=>by simp(disch:=try exact ac)[r0,r1,r2]) ?_;simp;refine cd (kI (z:=-(q:Int)-1) aa aa) ?_;simp;refine cd (kI (z:=-(r:Int)+b) aa aa) ?_
     grind[od]
   .have ez:z=(n:Int):=aa;have q1:z.tdiv (b:Int)=((n/b:Nat):Int):=by rw[ez,Zs aa,<-Int.natCast_ediv]
    have q2:z.tmod (b:Int)=((n%b:Nat):Int):=by rw[ez,Zt aa,<-Int.natCast_emod]
    have d1:z/(b:Int)=((n/b:Nat):Int):=by rw[ez,<-Int.natCast_ediv]
    have d2:z%(b:Int)=((n%b:Nat):Int):=by rw[ez,<-Int.natCast_emod]
    obtain⟨q,hqq⟩:=nmQ (n/b);obtain⟨r,hrr⟩:=nmQ (n%b);rw[<-hqq]at q1 d1 hq;rw[<-hrr]at q2 d2 hr;have r1:¬((r:Int))<0:=aa;have r2:¬(b:Int)<0:=aa;have eb:∀x y:Bool,biB .neq (B x) (B y)=some (B (x !=y)):=fun _ _=>rfl
    have fin:∀h:Hp,cal (CX Y).p h (V.fn F.dM [] []) [I q] fun v45 h=>
      cal (CX Y).p h (V.fn F.dM [] []) [I r] fun v46 h=>out (V.tup [S (itoa (z/(b:Int))),S (itoa (z%(b:Int))),I 0]) (V.tup [v45,v46,V.d (D.int IntKind.i64 0)]) h:=by
     intro h;simp;refine cd (kI (z:=q) aa aa) ?_;simp;refine cd (kI (z:=r) aa aa) ?_;refine od ?_ ?_
     .rw[d1]
     .rw[d2]
    by_cases h0:r=0
    .rw[h0]at q2 fin;simp(disch:=try exact ac)[q1,q2];refine gM (l:=[I q,I 0]) (h:=[]) (fun q=>by simp) ?_;exact fin []
    .have r0:¬(r:Int)=0:=aa;simp(disch:=try exact ac)[q1,q2,r0,r1,r2,eb];refine gM (l:=[I q,I r]) (h:=[]) (fun q=>by simp[r0,r1,r2]) ?_;exact fin []
  .rw[if_neg h2]at l2;simp;refine aJ ?_;simp;refine cd l2 ?_;simp;trivial
 .rw[if_neg h1];simp;refine aJ ?_;simp;trivial
theorem TA{b:Nat}(ha0:0<a)(hb0:0<b)(ha:ndg a<400000)(hb:ndg b<400000):CP Y F.oP [S (ah a),S (ah b)] (S (ah (Nat.lcm a b))):=by
 refine GO ?_;have h1:¬ah a=[48]:=fun h=>by have:=j5.1 h;omega
 have h2:¬ah b=[48]:=fun h=>by have:=j5.1 h;omega
 have hg:0<Nat.gcd a b:=Nat.gcd_pos_of_pos_left _ ha0;have hgl:Nat.gcd a b<=a:=Nat.gcd_le_left _ ha0;have hq:ndg (a/Nat.gcd a b)<=ndg a:=cJ (Yo ..);simp[oP,h1,h2];refine cd (Q1 aa aa) ?_;simp;refine cd (xi (a:=a) (b:=Nat.gcd a b) hg aa (by have:=cJ hgl;omega)) ?_;simp
 refine cd (Ij (a:=a/Nat.gcd a b) (b:=b) aa aa) ?_;refine fp ?_;congr 1;rw[Nat.lcm,Zq,<-Nat.mul_div_assoc _ (We a b),Zq]
theorem RN(n:Nat):CP Y F.gB [S (ah n)] (S (ah n)):=by
 have:=Al (n:Int)
 rwa [js,Int.natAbs_natCast]at this
theorem abg{b:Nat}(ha0:0<a)(hb0:0<b)(ha:ndg a<400000)(hb:ndg b<400000):CP Y F.pD [S (ah a),S (ah b)] (S (ah (Nat.lcm a b))):=by refine Kz ?_;simp[pD];refine cd (RN a) ?_;simp;refine cd (RN b) ?_;simp;refine cd (TA ha0 hb0 ha hb) ?_;exact fp rfl
theorem SI{z:Int}(h:z.natAbs<9223372036854775808):CP Y F.fj [S (itoa z),I 10,I 64] (.tup [I z,.d (.pl .nilIface)]):=by
 have key:∀n:Nat,n<9223372036854775808->(ah n)≠[]∧(ah n).all oA=true∧(ah n).length<=1000∧pB 0 (ah n)=n:=by
  intro n hn;have hd:=dY n;have hc:=se n
  have hl:(ah n).length<=1000:=by
   have:=cQ (n:=n) (d:=19) aa af;rw[ah,bf];omega
  simp only[qq,Z7]at hc
  have hall:(ah n).all oA=true:=by
   rw[<-hc.1.2];congr 1;funext c;exact digit_eq c
  exact⟨wD n,hall,hl,by rw[xf,hd]⟩
 have ho:Y.X.orc F.fj [.string ⟨⟨itoa z⟩⟩,.int .i64 10,.int .i64 64]=some (.tuple #[.int .i64 z,.nilIface]):=by
  have e:∀a,Y.X.orc F.fj a=Qj a:=fun a=>rfl
  rw[e];obtain⟨k1,k2,k3,k4⟩:=key _ h;unfold Qj;simp only;rw[if_pos ⟨trivial,trivial⟩];by_cases hz:z<0
  .have e1:itoa z=45::ah z.natAbs:=by unfold itoa;rw[if_pos hz]
   rw[e1];simp only;rw[if_pos ⟨k1,k2,k3,by rw[k4];exact h⟩,k4,show(-((z.natAbs:Nat):Int))=z by omega]
  .have e1:itoa z=ah z.natAbs:=by unfold itoa;rw[if_neg hz]
   rw[e1];have hh:=r8 z.natAbs;have ez:((z.natAbs:Nat):Int)=z:=aa;generalize ah z.natAbs=L at *
   have fin:(if L≠[]∧L.all oA=true∧L.length<=1000∧pB 0 L<9223372036854775808 then some (Value.tuple #[.int .i64 (pB 0 L),.nilIface])else none)=some (Value.tuple #[.int .i64 z,.nilIface]):=by
    rw[if_pos ⟨k1,k2,k3,by rw[k4];exact h⟩,k4,ez]
   split
   .rename_i l hl;exact absurd rfl hh
   .exact fin
 exact CP.orc ho (by intro x hx;simp only[Zx,Yp,or_false]at hx;rcases hx with rfl|rfl|rfl<;>rfl) rfl
theorem AJ{z:Int}(h:z.natAbs<9223372036854775808):CP Y F.kY [S (itoa z)] (.tup [I z,B true]):=by refine Gd ?_;simp[kY];refine cd (SI h) ?_;simp[Jk];exact bY rfl rfl
def RdN(s:Nat)(h:Hp)(v:V)(d:LnQ):Prop:=∀h':Hp,h'.length=h.length->(∀j,j≠s->h'[j]?=h[j]?)->RdP h' v d∧∃h2,aD h' v=some (lst u6 d,h2)
theorem RdN.now{h:Hp}{v:V}{d:LnQ}(r:RdN s h v d):RdP h v d:=(r h rfl fun _ _=>rfl).1
theorem RdN.step{h h2:Hp}{v:V}{d:LnQ}(r:RdN s h v d)(hl:h2.length=h.length)(hs:∀j,j≠s->h2[j]?=h[j]?):RdN s h2 v d:=
 fun h' h1 h3=>r h' (h1.trans hl) fun j hj=>(h3 j hj).trans (hs j hj)
theorem RdN.new{s t e N m:Nat}{h:Hp}(hst:s≠t)(hg:h[t]?=some (e,.data 1 ((bq N m).map u6) true false))(hm:m<Z^N):RdN s h (.ref t e 0 (dig Z m).length N N) (dig Z m):=fun h' hl ho=>by
 have:=DJ (h:=h') (cap:=N) ((ho t (Ne.symm hst)).trans hg) (dw ..).symm (iQ hm);rw[nE hm]at this;have sn:=vS (h:=h') ((ho t (Ne.symm hst)).trans hg) (dw ..).symm (len:=(dig Z m).length) (cap:=N) (iQ hm) (Z8 _);rw[nE hm]at sn;exact⟨this,_,sn⟩
theorem and_one{n:Int}(h0:0<=n)(h1:n<9223372036854775808):biI .and (I n) (I 1)=some (I (n%2)):=by
 obtain⟨m,rfl⟩:∃m:Nat,n=m:=⟨n.toNat,aa⟩
 have hb:(BitVec.ofInt 64 (m:Int)&&&BitVec.ofInt 64 1).toNat=m%2:=by
  rw[BitVec.toNat_and]
  have e1:(BitVec.ofInt 64 (m:Int)).toNat=m:=by
   rw[BitVec.toNat_ofInt];omega
  have e2:(BitVec.ofInt 64 (1:Int)).toNat=1:=af;rw[e1,e2,Nat.and_one_is_mod]
 simp only[biI,iD,ne_eq,not_true_eq_false,if_false,mX,jf]
 show some (V.d (.int .i64 (IntKind.wrap .i64 ((BitVec.ofInt 64 (m:Int)&&&BitVec.ofInt 64 1).toNat:Int))))=_
 rw[hb,tz aa aa];rfl
theorem VU(k:KL):∀(n A Bv:Nat)(o p:V)(h:Hp)(R:Nat),A*Bv^n=R->0<A->0<Bv->R<Z^2000->n<100000->h.length=3->NV h->RdN 2 h o (dig Z A)->RdN 1 h p (dig Z Bv) ->
  (∀o' h' h2,h'.length=3->aD h' o'=some (lst u6 (dig Z R),h2)->NV h'->k (.exit 1) [o'] h')->∀h0:Hp,h0.length=3->lp (kU (CX Y)) [] h0 [o,p,I n] h k:=by
 intro n
 induction n using Nat.strongRecOn with
 | ind n ih=>
  intro A Bv o p h R hR hA hB hlim hn hlen hnv ro rp hk h0 hl0;refine ak ?_;by_cases hz:n=0
  .subst hz;simp[kU];rw[Nat.pow_zero,Ym]at hR;subst hR;obtain⟨h2,hs2⟩:=(ro h rfl fun _ _=>rfl).2;exact hk o h h2 hlen hs2 hnv
  have hpos:(n:Int)>0:=aa
  have hBR:Bv<=R:=by
   rw[<-hR];exact Zz (Nat.le_of_eq (Nat.pow_one Bv).symm) (Zz (Z4 hB aa) (Nat.le_mul_of_pos_left _ hA))
  have hAR:A<=R:=by rw[<-hR];exact Y7 _ (Xo hB)
  have dA:(dig Z A).length<=2000:=iQ aa;have dB:(dig Z Bv).length<=2000:=iQ aa;have and1:=and_one (n:=(n:Int)) aa aa;have e2:((n:Int)/2^(1:Int).toNat)=((n/2:Nat):Int):=ae
  have sh:biI .shr (I n) (.d (.int .u64 1))=some (I (n/2:Nat)):=by
   rw[abz aa aa,e2]
  have hn2:n/2<n:=aa
  -- what a product gives
  have times:∀(h:Hp)(v w:V)(a b s:Nat),h.length=3->NV h->s<3->RdP h v (dig Z a)->RdP h w (dig Z b)->(dig Z a).length<=2000->(dig Z b).length<=2000->∀q:kkQ,
    (∀o' h',h'.length=3->NV h'->(∀j,j≠s->h'[j]?=h[j]?)->(∀t,t≠s->RdN t h' o' (dig Z (a*b)))->q o' h')->cai (CX Y).i h (V.fn F.bz [] []) [v,w] s q:=by
   intro h v w a b s hl hv hs r1 r2 d1 d2 q hq;obtain⟨N,hN⟩:=nmQ ((dig Z a).length+(dig Z b).length);have tk:=AA (h:=h) (hv.all _) r1 (cI ay a) r2 (cI ay b) aa aa hN;rw[iK ay,iK ay]at tk;have hs3:s<h.length:=aa;have hm:a*b<Z^N:=by rw[hN,Yk];exact Yn (wt a) (wt b)
   refine gv (e:=h[s].1) (b:=h[s].2) tk (List.getElem?_eq_getElem hs3) ?_;rw[List.length_map,dw];have gs:(h.set s (h[s].1+1,.data 1 ((bq N (a*b)).map u6) true false))[s]?=some (h[s].1+1,.data 1 ((bq N (a*b)).map u6) true false):=by simp[hs3]
   have os:∀j,j≠s->(h.set s (h[s].1+1,.data 1 ((bq N (a*b)).map u6) true false))[j]?=h[j]?:=fun j hj=>by rw[List.getElem?_set_ne (Ne.symm hj)]
   exact hq _ _ (by simp[hl]) (hv.upd gs os) os (fun t ht=>RdN.new ht gs hm)
  have fin:∀(A' B':Nat)(o' p':V)(h':Hp),A'*B'^(n/2)=R->0<A'->0<B'->h'.length=3->NV h'->RdN 2 h' o' (dig Z A')->RdN 1 h' p' (dig Z B')->rl (lp (kU (CX Y)) [] h0 [o',p',I ((n:Int)/2)] h') k .mk:=by
   intro A' B' o' p' h' e1 e2 e3 e4 e5 e6 e7;rw[show((n:Int)/2)=((n/2:Nat):Int) by omega];exact ih (n/2) hn2 A' B' o' p' h' R e1 e2 e3 hlim aa e4 e5 e6 e7 hk h0 hl0
  have hdm:=Xm n 2;simp(disch:=try exact ac)[kU,hpos];refine aJ ?_;simp[and1];by_cases hod:(n:Int)%2=1
  .have hod':n%2=1:=aa
   have eR:A*Bv*(Bv*Bv)^(n/2)=R:=by
    rw[<-hR]
    conv=>rhs;rw[<-hdm,hod',Yk,V6,Nat.pow_one]
    rw[Nat.pow_two,Nat.mul_assoc,Zq Bv]
   refine aJ ?_;simp[hod];refine nV (times h o p A Bv 1 hlen hnv aa ro.now rp.now dA dB _ fun o' h' l1 v1 s1 r1=>?_);have rp1:=rp.step (l1.trans hlen.symm) s1;have ro1:=r1 2 aa;simp;refine aJ ?_;by_cases h1:(n:Int)>1
   .simp[h1];refine nV (times h' p p Bv Bv 2 l1 v1 aa rp1.now rp1.now dB dB _ fun p' h'' l2 v2 s2 r2=>?_);have ro2:=ro1.step (l2.trans l1.symm) s2;simp(disch:=try exact ac)[sh];exact fin _ _ o' p' h'' eR (X9 hA hB) (X9 hB hB) l2 v2 ro2 (r2 1 aa)
   .have hn1:n=1:=aa;simp(disch:=try exact ac)[h1,sh];refine fin (A*Bv) Bv o' p h' ?_ (X9 hA hB) hB l1 v1 ro1 rp1;rw[<-eR];subst hn1;simp
  .have hod':n%2=0:=aa
   have eR:A*(Bv*Bv)^(n/2)=R:=by
    rw[<-hR]
    conv=>rhs;rw[<-hdm,hod',Nat.add_zero,V6]
    rw[Nat.pow_two]
   refine aJ ?_;simp[hod];refine aJ ?_;have h1:(n:Int)>1:=aa;simp[h1];refine nV (times h p p Bv Bv 2 hlen hnv aa rp.now rp.now dB dB _ fun p' h'' l2 v2 s2 r2=>?_);have ro2:=ro.step (l2.trans hlen.symm) s2;simp(disch:=try exact ac)[sh];exact fin _ _ o p' h'' eR hA (X9 hB hB) l2 v2 ro2 (r2 1 aa)
theorem QK(h:n<18446744073709551616):CP Y F.jW [.d (.int .u64 n)] (I (bK n)):=by refine Cu ?_;simp[jW];refine cd (E5 h) ?_;simp<;>exact ba rfl
theorem w9:ah 2=[50]:=az
theorem im:ah 1=[49]:=az
theorem aaK:CP Y F.nF [S [50]] (I 2):=by refine FO ?_;have h:=AI (n:=2) aa;rw[w9]at h;have h2:=E5 (n:=2) aa;rw[show bK 2=2 by rfl]at h2;simp[nF];refine cd h ?_;simp;refine cd h2 ?_;simp
theorem Ue{K:Nat}(h:n/3+1<=K):2^n<10^K:=by
 have h1:2^n=8^(n/3)*2^(n%3):=by
  rw[show(8:Nat)=2^3 from rfl,<-V6,<-Yk,Xm]
 have h2:8^(n/3)<=10^(n/3):=Nat.pow_le_pow_left af _
 have h3:2^(n%3)<=4:=by
  have:n%3<3:=Yu _ af;exact Zz (Z4 af (show n%3<=2 by omega)) af
 have h4:10^(n/3+1)<=10^K:=Z4 af h;have h5:=Zp h2 h3
 grind
theorem ab6{K:Nat}(h:n/3+1<=K)(hK:0<K):ndg (2^n)<=K:=cQ (Ue h) hK
theorem agK{K:Nat}(h:n/3+1<=K):2^n<Z^K:=Z3 (Ue h) (Nat.pow_le_pow_left af _)
theorem C8(hn:n<=4000):2^n<Z^2000∧ndg (2^n)<=2000:=
 ⟨agK (K:=2000) aa,ab6 (K:=2000) aa aa⟩
theorem Tz(hn:n<=4000):CP Y F.jc [S [50],I n] (.tup [S (ah (2^n)),I 0]):=by
 refine CR ?_;by_cases h0:n=0
 .subst h0;rw[Nat.pow_zero,im];simp[jc];simp[bY]
 have g1:¬(n:Int)=0:=aa;have g2:¬(n:Int)<0:=aa;have g3:¬(n:Int)>66439:=aa;have n1:¬([50]:LuQ)=[49]:=af;have n2:¬([50]:LuQ)=[48]:=af;have ct:=tg (h:=[nnQ,nnQ,nnQ]) rfl (n:=2) (cap:=1) az az;rw[w9]at ct;obtain⟨p1,p2⟩:=C8 hn
 have hli:∀h:Hp,eV 1 [D.int .u64 0] [(0,V.d (D.int .u64 1))] h=some ([u6 1],h):=fun h=>by rfl
 simp(disch:=try exact ac)[jc,g1,g2,n1,n2];refine cd aaK ?_;simp[g3,hli];refine nV (gv (e:=0) (b:=.none) ct rfl ?_);rw[List.length_map,dw];simp
 have nv:NV [(1,.data 1 ((bq 1 2).map u6) true false),nnQ,nnQ]:=by
  intro j x hj b';rcases Wm.2 ⟨j,hj⟩with hm;simp only[Zx,Yp,or_false]at hm;rcases hm with rfl|rfl|rfl<;>rfl
 refine lo (VU _ n 1 2 (lst u6 [1]) _ [(1,.data 1 ((bq 1 2).map u6) true false),nnQ,nnQ] (2^n) (by rw[Xn]) af af p1 aa rfl nv ?_ ?_ (fun o' h' h2 hl hr hv=>?_) _ rfl)
 .intro h' _ _;rw[show dig Z 1=[1] by rfl];simp[RP]
 .exact RdN.new (s:=1) (t:=0) af rfl af
 .have hl1:¬(ndg (2^n):Int)>20000:=aa;have lt:=mf (2^n);have tx:=wS (n:=2^n) (Zb (iQ p1) af);generalize 2^n=m at *;simp;refine cdz (by simp only[ai,hr];rfl) tx ?_;rw[show cC (S (ah m))=true from rfl,if_pos rfl];simp[lt,hl1];simp[bY]
theorem AU(hn:n<=4000):CP Y F.kZ [S [50],I n] (.tup [S (ah (2^n)),I 0]):=by refine Ge ?_;have sp:=rF 2;rw[w9]at sp;have g2:¬(n:Int)<0:=aa;have g3:¬(n:Int)>4000:=aa;obtain⟨p1,p2⟩:=C8 hn;have q:((4000:Int).tdiv 1)=4000:=af;simp[kZ,g2];refine cd sp ?_;simp[g3,q];refine cd (Tz hn) ?_;simp;refine cd (YO _) ?_;simp[bY]
def dgF(unit two:Nat):Nat->Nat->Nat->Nat->Option Nat
 |0,_,_,out=>some out
 | r+1,low,high,out=>
  cond (Nat.ble two (low*low/unit)) (dgF unit two r (low*low/unit/2) ((high*high/unit+1)/2+1) (out+out+1))
   (cond (Nat.ble two (high*high/unit+1)) none (dgF unit two r (low*low/unit) (high*high/unit+1) (out+out)))
def CN(p n more:Nat):Option Nat:=dgF (2^more) (2^more+2^more) n (p*2^(more-(bK p-1))) (p*2^(more-(bK p-1))) (bK p-1)
def dgV:Option Nat->V
 |some v=>.tup [S (ah v),B true]
 |none=>.tup [S [],B false]
theorem tD{b:Nat}(ha:ndg a<999999)(hb:ndg b<999999):CP Y F.cO [S (ah a),S (ah b)] (S (ah (a+b))):=by have:=tC (z:=(a:Int)) (w:=(b:Int)) (by trivial) (by trivial);trivial
theorem vI{b:Nat}(ha:ndg a<400000)(hb:ndg b<400000):CP Y F.aP [S (ah a),S (ah b)] (S (ah (a*b))):=by have:=nS (z:=(a:Int)) (w:=(b:Int)) (by trivial) (by trivial);trivial
theorem tB{b:Nat}(h0:0<b)(ha:ndg a<900000)(hb:ndg b<900000):CP Y F.aT [S (ah a),S (ah b)] (.tup [S (ah (a/b)),S (ah (a%b)),I 0]):=by grind[xN,js]
theorem sE{b:Nat}:ndg (a*b)<=ndg a+ndg b:=by
 have h3:a*b<10^(ndg a+ndg b):=by rw[Yk];exact Yn (cL a) (cL b)
 exact cQ h3 (by grind[lI])
theorem aaq{b:Nat}:decide (0<=Big.cmp a b)=Nat.ble b a:=by grind[Nat.ble_eq,FU,cmp_eq,FV]
theorem L4{k:Nat}(h:ndg n<=k):ndg (n+n+1)<=k+1:=by have h1:n<10^k:=Z3 (cL n) (Z4 af h);exact cQ aa aa
theorem Cj{unit two N W:Nat}(hu:2<=unit)(htwo:two=unit+unit)(hW:ndg two<=W)(hW2:W<100000)(hN:N<100000)(k:KL):∀(r i low high out:Nat),i+r=N->low<=high->high<two->ndg out<=W+i ->
  (∀v,dgF unit two r low high out=some v->ndg v<=W+N->k (.exit 0) [S (ah v)] [])->(dgF unit two r low high out=none->k .ret [S [],B false] []) ->
  lp (oY (CX Y) (S (ah unit)) (S (ah two)) (I N)) [] [] [S (ah low),S (ah high),S (ah out),I i] [] k
 | 0,i,low,high,out,hi,hlh,hht,ho,h0,h1=>by
  have hiN:¬(i:Int)<(N:Int):=aa;refine ak ?_;simp[oY,hiN];exact h0 out rfl aa
 | r+1,i,low,high,out,hi,hlh,hht,ho,h0,h1=>by
  have hiN:(i:Int)<(N:Int):=aa;have ih:=Cj hu htwo hW hW2 hN k r (i+1);have u1:ndg unit<=W:=Zz (cJ aa) hW;have u2:ndg low<=W:=Zz (cJ aa) hW;have u3:ndg high<=W:=Zz (cJ aa) hW;have m1:=vI (a:=low) (b:=low) aa aa;have m2:=vI (a:=high) (b:=high) aa aa
  have w1:ndg (low*low)<=W+W:=Zz sE aa;have w2:ndg (high*high)<=W+W:=Zz sE aa;have d1:=tB (a:=low*low) (b:=unit) aa aa aa;have d2:=tB (a:=high*high) (b:=unit) aa aa aa;have lowle:low*low/unit<=high*high/unit:=Nat.div_le_div_right (Zp hlh hlh)
  have hi4:high*high/unit+4<=4*unit:=by
   have e1:high*high<=(2*unit-1)*(2*unit-1):=Zp aa aa
   have e2:(2*unit-1)*(2*unit-1)+4*unit=4*unit*unit+1:=by
    obtain⟨x,hx⟩:∃x,unit=x+1:=⟨unit-1,aa⟩;subst hx;rw[show 2*(x+1)-1=2*x+1 by omega];simp only[Nat.add_mul,Zm,Ym,Xn,Nat.mul_assoc,Yz x 2];omega
   have e3:high*high<(4*unit-3)*unit:=by
    rw[Nat.sub_mul];have:4*unit*unit≥3*unit:=Zu _ aa;omega
   have:=(W6 aa).2 e3;omega
  have eqF:dgF unit two (r+1) low high out=cond (Nat.ble two (low*low/unit)) (dgF unit two r (low*low/unit/2) ((high*high/unit+1)/2+1) (out+out+1))
   (cond (Nat.ble two (high*high/unit+1)) none (dgF unit two r (low*low/unit) (high*high/unit+1) (out+out))):=rfl
  rw[eqF]at h0 h1;generalize low*low/unit=L1 at *;generalize high*high/unit=H0 at *;have t2:ndg (two+two)<=W+1:=sF hW hW;have v1:ndg L1<=W+1:=Zz (cJ aa) t2;have v2:ndg H0<=W+1:=Zz (cJ aa) t2;have v3:ndg (H0+1)<=W+1:=Zz (cJ aa) t2;have a1:=tD (a:=H0) (b:=1) aa (by simp[uz]);rw[im]at a1
  have a2:=tD (a:=out) (b:=out) aa aa;have vo:ndg (out+out)<=W+i+1:=sF ho ho;have a3:=tD (a:=out+out) (b:=1) aa (by simp[uz]);rw[im]at a3;have c1:=DT (a:=L1) (b:=two) aa aa;have c2:=DT (a:=H0+1) (b:=two) aa aa;have g1:=aaq (a:=L1) (b:=two);have g2:=aaq (a:=H0+1) (b:=two)
  have d3:=tB (a:=L1) (b:=2) aa aa (by rw[show ndg 2=1 by decide+kernel];omega);have d4:=tB (a:=H0+1) (b:=2) aa aa (by rw[show ndg 2=1 by decide+kernel];omega);rw[w9]at d3 d4;have v4:ndg ((H0+1)/2)<=W+1:=Zz (cJ aa) t2;have a4:=tD (a:=(H0+1)/2) (b:=1) aa (by simp[uz]);rw[im]at a4
  generalize Big.cmp L1 two=C1 at *;generalize Big.cmp (H0+1) two=C2 at *;refine ak ?_;simp[oY,hiN];refine aJ ?_;simp;refine cd m1 ?_;simp;refine cd d1 ?_;simp;refine cd m2 ?_;simp;refine cd d2 ?_;simp;refine cd a1 ?_;simp;refine cd a2 ?_;simp;refine aJ ?_;simp;refine cd c1 ?_;simp;refine aJ ?_;cases q1:Nat.ble two L1 with
  | true=>
   rw[q1]at g1 h0 h1;simp only[cond_true]at h0 h1;have g1':0<=C1:=by simpa using g1
   have b1:two<=L1:=Nat.le_of_ble_eq_true q1;simp[g1'];refine cd a3 ?_;simp;refine cd d3 ?_;simp;refine cd d4 ?_;simp;refine cd a4 ?_;simp(disch:=try exact ac);have:=ih (L1/2) ((H0+1)/2+1) (out+out+1) aa aa aa (L4 ho) h0 h1;trivial
  | false=>
   rw[q1]at g1 h0 h1;simp only[cond_false]at h0 h1;have g1':¬0<=C1:=by simpa using g1
   simp[g1'];refine cd c2 ?_;simp;cases q2:Nat.ble two (H0+1)with
   | true=>
    rw[q2]at g2 h1;have g2':0<=C2:=by simpa using g2
    simp[g2']
    grind
   | false=>
    rw[q2]at g2 h0 h1;simp only[cond_false]at h0 h1;have g2':¬0<=C2:=by simpa using g2
    have b2:¬two<=H0+1:=fun h=>by simp_all[Nat.ble_eq_true_of_le]
    simp(disch:=try exact ac)[g2'];have:=ih L1 (H0+1) (out+out) aa aa aa aa h0 h1;trivial
theorem SK(v:Nat)(h:Hp):out (dgV (some v)) (.tup [S (ah v),B true]) h:=bY rfl rfl
theorem SL(h:Hp):out (dgV none) (.tup [S [],B false]) h:=bY rfl rfl
theorem OQ{p more:Nat}(hp:2<=p)(hp2:p<1000000)(hm1:30<=more)(hm:more<=4000)(hn:n<=4000):CP Y F.size_digits [I p,I n,I more] (dgV (CN p n more)):=by
 refine Gt ?_;obtain⟨hk0,hpk,hk1⟩:=qX (n:=p) aa
 have hk2:bK p<=20:=by
  rcases Zg 20 (bK p)with h|h
  .have:2^20<=2^(bK p-1):=Z4 af aa;omega
  .exact h
 obtain⟨kk,hkk⟩:=nmQ (bK p-1);obtain⟨mk,hmk⟩:=nmQ (more-kk);have e1:((bK p:Nat):Int)-1=(kk:Int):=aa;have e2:(more:Int)-(kk:Int)=(mk:Int):=aa;have hcv:IntKind.wrap .u64 (p:Int)=(p:Int):=NC aa aa;have lb:=QK (n:=p) aa;have pw:=AU hm;have pw2:=AU (n:=mk) aa;have b1:=(C8 hm).2
 have b2:=(C8 (n:=mk) aa).2;have ad:=tD (a:=2^more) (b:=2^more) aa aa;have op:=Ol (n:=p) aa;have ok:=Ol (n:=kk) aa;have np:ndg p<=6:=cQ aa af;have nk:ndg kk<=2:=cQ aa af;have ml:=vI (a:=p) (b:=2^mk) aa aa;have b3:ndg (2^more+2^more)<=2000+1:=sF b1 b1
 have hlt:p*2^mk<2^more+2^more:=by
  have h1:p*2^mk<2^bK p*2^mk:=(Nat.mul_lt_mul_right (Xo af)).2 hpk;rw[<-Yk,show bK p+mk=more+1 by omega,Nat.pow_succ]at h1;omega
 have hu:2<=2^more:=by
  have:2^1<=2^more:=Z4 af aa;omega
 have eF:CN p n more=dgF (2^more) (2^more+2^more) n (p*2^mk) (p*2^mk) kk:=by
  unfold CN;rw[<-hkk,<-hmk]
 rw[eF];generalize 2^more=unit at *;generalize 2^mk=pm at *;generalize p*pm=low at *;simp[size_digits,hcv];refine cd lb ?_;simp(disch:=try exact ac)[e1];refine cd pw ?_;simp;refine cd ad ?_;simp(disch:=try exact ac)[e2];refine cd pw2 ?_;simp;refine cd op ?_;simp;refine cd ml ?_;simp;refine cd ok ?_;simp
 refine lo (Cj hu rfl (W:=2001) b3 aa (N:=n) aa _ n 0 low low kk aa (Z8 _) hlt aa (fun v hv _=>?_) (fun hv=>?_))
 .rw[hv];simp;exact SK v _
 .rw[hv];simp;exact SL _
def Jv(p n:Nat):Option Nat:=if p=2 then some (2^n)else CN p n (n+64)
theorem ae7{p v:Nat}(hp:2<=p)(hp2:p<1000000)(hn:n<=3900)(hv:Jv p n=some v):CP Y F.rU [I p,I n] (S (ah v)):=by
 refine N0 ?_;unfold Jv at hv;by_cases h2:p=2
 .rw[if_pos h2]at hv;simp only[Z9]at hv;have e:((p:Int)=2):=aa;have pw:=AU (n:=n) aa;rw[hv]at pw;simp[rU,e];refine cd pw ?_;simp;exact fp rfl
 .rw[if_neg h2]at hv;have e:¬((p:Int)=2):=aa;have dg:=OQ (p:=p) (n:=n) (more:=n+64) hp hp2 aa aa aa;rw[hv]at dg;obtain⟨m,hm⟩:=nmQ (n+64);rw[<-hm]at dg;have e3:(n:Int)+64=(m:Int):=aa;simp(disch:=try exact ac)[rU,e,e3];refine lo (ak ?_);simp[B4];refine cd dg ?_;simp[dgV];exact fp rfl
abbrev Q:=Int×Nat
def okQ(x:Q):Prop:=0<x.2∧Nat.gcd x.1.natAbs x.2=1
def qT(x:Q):LwQ:=[S (itoa x.1),S (ah x.2)]
def kX(n:Int)(d:Nat):Q:=(n/(Nat.gcd n.natAbs d:Nat),d/Nat.gcd n.natAbs d)
def o5(a b:Q):Q:=kX (a.1*b.2+b.1*a.2) (a.2*b.2)
def uu(a b:Q):Q:=kX (a.1*b.1) (a.2*b.2)
def vh(a:Q):Q:=(-a.1,a.2)
def gm(n d:Int):Q:=if d<0 then kX (-n) d.natAbs else kX n d.natAbs
def qU(a b:Q):Q:=gm (a.1*b.2) (a.2*b.1)
theorem aaw{n:Int}(h:g∣n.natAbs):(g:Int)∣n:=Int.natAbs_dvd_natAbs.1 (by simpa using h)
theorem Dk(n:Int)(hd:0<d):okQ (kX n d):=by
 have hg:0<Nat.gcd n.natAbs d:=Wt _ hd;obtain⟨g,hgg⟩:=nmQ (Nat.gcd n.natAbs d);have h1:g∣n.natAbs:=by rw[hgg];exact We ..
 have h2:g∣d:=by rw[hgg];exact Nat.gcd_dvd_right ..
 unfold kX;rw[<-hgg]at hg ⊢;refine⟨V0 (Xb hd h2) hg,?_⟩
 have e:(n/(g:Int)).natAbs=n.natAbs/g:=by
  rw[Int.natAbs_ediv_of_dvd (aaw h1),Int.natAbs_natCast]
 simp only[e];rw[Nat.gcd_div h1 h2,<-hgg,Nat.div_self hg]
theorem XF{n:Int}(h:Nat.gcd n.natAbs d=1):kX n d=(n,d):=by unfold kX;rw[h];simp
theorem zl(n:Int)(d:Nat):(kX n d).1.natAbs<=n.natAbs∧(kX n d).2<=d:=by
 obtain⟨g,hgg⟩:=nmQ (Nat.gcd n.natAbs d);have h1:g∣n.natAbs:=by rw[hgg];exact We ..
 unfold kX;rw[<-hgg];constructor
 .simp only;rw[Int.natAbs_ediv_of_dvd (aaw h1),Int.natAbs_natCast];exact Yo ..
 .exact Yo ..
theorem ab5(k:KL)(h:Hp)(h0:Hp)(hl:h.length=h0.length):∀(m:Nat)(a b:Int),b.natAbs<=m->a.natAbs<9223372036854775807->b.natAbs<9223372036854775807 ->
  (∀c:Int,c.natAbs=Nat.gcd a.natAbs b.natAbs->k (.exit 0) [I c] h)->lp (m5 (CX Y)) [] h0 [I a,I b] h k:=by
 intro m
 induction m with
 | zero=>
  intro a b hb ha hb2 hk;have hb0:b=0:=aa;subst hb0;refine ak ?_;simp[m5];exact hk a ae
 | succ m ih=>
  intro a b hb ha hb2 hk;refine ak ?_;by_cases hb0:b=0
  .subst hb0;simp[m5];exact hk a ae
  ·have hr:(a.tmod b).natAbs<b.natAbs:=by
    rw[Int.natAbs_tmod];exact Yu _ aa
   have e:Nat.gcd b.natAbs (a.tmod b).natAbs=Nat.gcd a.natAbs b.natAbs:=by
    rw[Int.natAbs_tmod,V3,<-Nat.gcd_rec,V3]
   simp[m5,hb0,hl];exact ih b (a.tmod b) aa aa aa (fun c hc=>hk c (hc.trans e))
theorem lW{a b a' b':LuQ}{h:Hp}(e1:a'=a)(e2:b'=b):out (.agg [S a,S b]) (.agg [S a',S b']) h:=by subst e1;subst e2;exact⟨h,by simp[aD,ai,norm]⟩
theorem Q2{n:Int}(hd:0<d)(hn:n.natAbs<9223372036854775807)(hd2:d<9223372036854775807):CP Y F.ja [I n,I d] (.agg (qT (kX n d))):=by
 refine GE ?_;obtain⟨g,hgg⟩:=nmQ (Nat.gcd n.natAbs d);have hg:0<g:=by rw[hgg];exact Wt _ hd
 have h1:g∣n.natAbs:=by rw[hgg];exact We ..
 have h2:g∣d:=by rw[hgg];exact Nat.gcd_dvd_right ..
 have hgd:g<=d:=Xb hd h2;have e1:n.tdiv (g:Int)=n/(g:Int):=Int.tdiv_eq_ediv_of_dvd (aaw h1);have e2:(d:Int).tdiv (g:Int)=((d/g:Nat):Int):=by rw[Zs aa,<-Int.natCast_ediv]
 have e3:(n/(g:Int)).natAbs<=n.natAbs:=by
  rw[Int.natAbs_ediv_of_dvd (aaw h1),Int.natAbs_natCast];exact Yo ..
 have e4:d/g<=d:=Yo ..;have eq:qT (kX n d)=[S (itoa (n/(g:Int))),S (ah (d/g))]:=by unfold qT kX;rw[<-hgg]
 rw[eq];generalize n/(g:Int)=nq at *;generalize d/g=dq at *;have i1:=Do (z:=nq) aa aa;have i2:=Do (z:=(dq:Int)) aa aa;rw[js]at i2;have hg0:¬(g:Int)=0:=aa;simp[ja];refine lo (ab5 _ _ _ rfl (d:Int).natAbs n d (Z8 _) hn aa (fun c hc=>?_));rw[Int.natAbs_natCast,<-hgg]at hc;simp
 have tail:∀u:Unit,bnd (biI .quo (I n) (I g)) fun v6=>
   cal (CX Y).p [(1,.vars [.d (.str []),.d (.str [])])] (.fn F.strconv_Itoa [] []) [v6] fun v7 h=>
   bnd (biI .quo (I d) (I g)) fun v8=>
   cal (CX Y).p h (.fn F.strconv_Itoa [] []) [v8] fun v9 h=>
   bnd (bld [(0,1),(1,1)] [.str [],.str []] [(0,v7),(1,v9)]) fun v10=>
   stD h 2 (.ptr 0 1 0 2) v10 fun _ h=>
   bnd (ldA h 2 (.ptr 0 1 0 2)) fun v12=>
   out (.agg [S (itoa nq),S (ah dq)]) v12 h:=by
  intro _;simp(disch:=try exact ac)[e1,e2,hg0];refine cd i1 ?_;simp(disch:=try exact ac)[e2,hg0];refine cd i2 ?_;simp;exact lW rfl rfl
 by_cases hc0:c<0
 .have hcg : -c=(g:Int):=aa;refine gM (l:=[I g]) (h:=[(1,.vars [.d (.str []),.d (.str [])])]) (fun q=>by simp(disch:=try exact ac)[hc0,hcg]) ?_;exact tail ()
 .have hcg:c=(g:Int):=aa;subst hcg;refine gM (l:=[I g]) (h:=[(1,.vars [.d (.str []),.d (.str [])])]) (fun q=>by simp[hc0]) ?_;exact tail ()
def qL(K:Nat)(x:Q):Prop:=ndg x.1.natAbs<=K∧ndg x.2<=K
theorem Ju{n:Int}{K:Nat}(h1:ndg n.natAbs<=K)(h2:ndg d<=K):qL K (kX n d):=
 ⟨Zz (cJ (zl n d).1) h1,Zz (cJ (zl n d).2) h2⟩
theorem qL.mono{K L:Nat}{x:Q}(h:qL K x)(hl:K<=L):qL L x:=⟨Zz h.1 hl,Zz h.2 hl⟩
theorem wq{z w:Int}{k:Nat}(hz:ndg z.natAbs<=k)(hw:ndg w.natAbs<=k):ndg (z+w).natAbs<=k+1:=
 Zz (cJ (Xy z w)) (sF hz hw)
theorem fq{z w:Int}:ndg (z*w).natAbs<=ndg z.natAbs+ndg w.natAbs:=by rw[Zl];exact sE
theorem VO{a b:Q}{K L:Nat}(ha:qL K a)(hb:qL L b):qL (K+L+1) (o5 a b):=by
 refine Ju (wq ?_ ?_) ?_
 .have:=fq (z:=a.1) (w:=(b.2:Int));rw[Int.natAbs_natCast]at this;have:=ha.1;have:=hb.2;omega
 .have:=fq (z:=b.1) (w:=(a.2:Int));rw[Int.natAbs_natCast]at this;have:=hb.1;have:=ha.2;omega
 .have:=sE (a:=a.2) (b:=b.2);have:=ha.2;have:=hb.2;omega
theorem VM{a b:Q}{K L:Nat}(ha:qL K a)(hb:qL L b):qL (K+L) (uu a b):=by
 refine Ju ?_ ?_
 .have:=fq (z:=a.1) (w:=b.1);have:=ha.1;have:=hb.1;omega
 .have:=sE (a:=a.2) (b:=b.2);have:=ha.2;have:=hb.2;omega
theorem Qc{a b:Q}(ha:okQ a)(hb:okQ b):okQ (o5 a b):=Dk _ (X9 ha.1 hb.1)
theorem Qa{a b:Q}(ha:okQ a)(hb:okQ b):okQ (uu a b):=Dk _ (X9 ha.1 hb.1)
theorem T9{z w:Int}(hw0:0<w)(hz:ndg z.natAbs<900000)(hw:ndg w.natAbs<900000):CP Y F.aT [S (itoa z),S (itoa w)] (.tup [S (itoa (z/w)),S (itoa (z%w)),I 0]):=by obtain⟨m,rfl⟩:∃m:Nat,w=m:=⟨w.toNat,aa⟩;rw[js];exact xN aa hz (by simpa using hw)
theorem Bi{n d:Int}(hd:d≠0)(hn:ndg n.natAbs<800000)(hd2:ndg d.natAbs<800000):CP Y F.bi [S (itoa n),S (itoa d)] (.agg (qT (gm n d))):=by
 refine zJ ?_;have sg0:=mT d
 have tail:∀(n:Int)(d:Nat),0<d->ndg n.natAbs<800000->ndg d<800000 ->
   cal (CX Y).p [(1,.vars [.d (.str []),.d (.str [])])] (.fn F.oC [] []) [S (itoa n),S (ah d)] fun v6 h=>
  bnd (biS .neq v6 (.d (.str [49]))) fun v7=>
  jn (fun l8 h=>
   bnd (bld [(0,1),(1,1)] [.str [],.str []] [(0,(ge l8 0)),(1,(ge l8 1))]) fun v10=>
   stD h 2 (.ptr 0 1 0 2) v10 fun _ h=>
   bnd (ldA h 2 (.ptr 0 1 0 2)) fun v12=>
   out (.agg (qT (kX n d))) v12 h) fun q9=>
   cnd v7 (
    cal (CX Y).p h (.fn F.aT [] []) [S (itoa n),v6] fun v13 h=>
    ext v13 0 fun v14=>
    ext v13 1 fun v15=>
    ext v13 2 fun v16=>
    cal (CX Y).p h (.fn F.aT [] []) [S (ah d),v6] fun v17 h=>
    ext v17 0 fun v18=>
    ext v17 1 fun v19=>
    ext v17 2 fun v20=>
    q9 [v14,v18] h) (
    q9 [S (itoa n),S (ah d)] h):=by
  intro n d hd hn hd2;have gc:=Q0 (z:=n) (w:=(d:Int)) aa (by simpa using Nat.lt_trans hd2 af);rw[js,Int.natAbs_natCast]at gc;obtain⟨g,hgg⟩:=nmQ (Nat.gcd n.natAbs d);have hg:0<g:=by rw[hgg];exact Wt _ hd
  have hgd:g<=d:=Xb hd (by rw[hgg];exact Nat.gcd_dvd_right ..);have eq:kX n d=(n/(g:Int),d/g):=by unfold kX;rw[<-hgg]
  rw[<-hgg]at gc;rw[eq];have ng:ndg g<900000:=Zb (cJ hgd) aa;have d1:=xN (z:=n) hg aa ng;have d2:=tB (a:=d) hg aa ng;simp;refine cd gc ?_;by_cases h1:g=1
  .subst h1;rw[im];simp;refine gM (l:=[S (itoa n),S (ah d)]) (h:=[(1,.vars [.d (.str []),.d (.str [])])]) (fun q=>by simp) ?_;simp;refine lW ae ae
  .have h49:¬ah g=[49]:=fun h=>h1 (oN (h.trans im.symm))
   simp[h49];refine aJ ?_;simp[h49];refine cd d1 ?_;simp;refine cd d2 ?_;simp;exact lW rfl rfl
 simp[bi];refine cd sg0 ?_;by_cases hneg:d<0
 .have s1:sgn d = -1:=by unfold sgn;rw[if_neg hd,if_pos hneg]
  rw[s1];have hd3:ndg (-d).natAbs<800000:=by rw[Xw];exact hd2
  have n1:=zd (z:=n) aa;have n2:=zd (z:=d) aa;have e:gm n d=kX (-n) d.natAbs:=if_pos hneg;have ed:itoa (-d)=ah d.natAbs:=by rw[show -d=((d.natAbs:Nat):Int) by omega,js]
  rw[e];rw[ed]at n2;simp;refine aJ ?_;simp;refine cd n1 ?_;simp;refine cd n2 ?_;have:=tail (-n) d.natAbs aa (by rw[Xw];exact hn) hd2;simpa using this
 .have s1:sgn d=1:=by unfold sgn;rw[if_neg hd,if_neg hneg]
  rw[s1];have e:gm n d=kX n d.natAbs:=if_neg hneg;have ed:itoa d=ah d.natAbs:=by conv=>lhs;rw[show d=((d.natAbs:Nat):Int) by omega,js]
  rw[e,ed];simp;refine aJ ?_;simp;have:=tail n d.natAbs aa hn hd2;simpa using this
theorem t6(a:Q):CP Y F.dD [.agg (qT a)] (.tup [I (if sdg a.1<=9 then a.1 else 0),I (if ndg a.2<=9 then a.2 else 0),B (decide (sdg a.1<=9)&&decide (ndg a.2<=9))]):=by
 refine CJ ?_;have l1:=EX a.1;have l2:=EX (a.2:Int);have e:sdg (a.2:Int)=ndg a.2:=by unfold sdg;rw[if_neg aa,Int.natAbs_natCast];rfl
 rw[js,e]at l2;simp[dD,qT];refine cd l1 ?_;by_cases h1:sdg a.1<=9
 .rw[if_pos h1,if_pos h1,decide_eq_true h1];simp;refine cd l2 ?_;by_cases h2:ndg a.2<=9
  .rw[if_pos h2,if_pos h2,decide_eq_true h2];simp;exact jp rfl rfl rfl
  .rw[if_neg h2,if_neg h2,decide_eq_false h2];simp;exact jp rfl rfl rfl
 .rw[if_neg h1,if_neg h1,decide_eq_false h1];simp;refine cd l2 ?_;by_cases h2:ndg a.2<=9
  .rw[if_pos h2,if_pos h2,decide_eq_true h2];simp;exact jp rfl rfl rfl
  .rw[if_neg h2,if_neg h2,decide_eq_false h2];simp;exact jp rfl rfl rfl
theorem Dl(n:Int)(hd:0<d):(kX n d).1*(d:Int)=n*((kX n d).2:Int)∧0<(kX n d).2:=by
 obtain⟨g,hg⟩:=nmQ (Nat.gcd n.natAbs d);have hg0:0<g:=by rw[hg];exact Wt _ hd
 obtain⟨d',hd'⟩:g∣d:=by rw[hg];exact Nat.gcd_dvd_right ..
 obtain⟨n',hn'⟩:(g:Int)∣n:=aaw (by rw[hg];exact We ..)
 have e1:(kX n d).1=n':=by
  simp only[kX,<-hg];rw[hn'];exact Int.mul_ediv_cancel_left _ aa
 have e2:(kX n d).2=d':=by
  simp only[kX,<-hg];rw[hd'];exact Xt _ hg0
 rw[e1,e2];refine⟨?_,?_⟩
 .rw[hn',hd',Int.natCast_mul,<-Int.mul_assoc,Yj n' g]
 .rcases Zc d' with h|h
  .rw[h]at hd';omega
  .exact h
theorem QF{n:Int}(hd:0<d)(hn:ndg n.natAbs<800000)(hd2:ndg d<800000):CP Y F.bi [S (itoa n),S (ah d)] (.agg (qT (kX n d))):=by have:=Bi (n:=n) (d:=(d:Int)) aa hn (by trivial);trivial
theorem Aw{z:Int}{b:Nat}(hz:ndg z.natAbs<400000)(hb:ndg b<400000):CP Y F.aP [S (itoa z),S (ah b)] (S (itoa (z*b))):=by grind[nS,js]
theorem Ed(h:Hp)(s t:LuQ):ai h [.agg [S s,S t]]=some ([.agg [S s,S t]],h):=by rfl
theorem IP{a:Q}(h1:sdg a.1<=9)(h2:ndg a.2<=9):a.1.natAbs<1000000000∧a.2<1000000000:=
 ⟨qR h1,Z3 (cL _) (Z4 af h2)⟩
theorem ZA{a b:Q}(ha:okQ a)(hb:okQ b)(la:qL 100000 a)(lb:qL 100000 b):CP Y F.lR [.agg (qT a),.agg (qT b)] (.agg (qT (uu a b))):=by
 refine Fv ?_;obtain⟨la1,la2⟩:=la;obtain⟨lb1,lb2⟩:=lb;have b1:=t6 a;have b2:=t6 b;have m1:=nS (z:=a.1) (w:=b.1) aa aa;have m2:=vI (a:=a.2) (b:=b.2) aa aa;have n1:=fq (z:=a.1) (w:=b.1);have n2:=sE (a:=a.2) (b:=b.2);have hd:0<a.2*b.2:=X9 ha.1 hb.1
 have lw:CP Y F.bi [S (itoa (a.1*b.1)),S (ah (a.2*b.2))] (.agg (qT (uu a b))):=QF (n:=a.1*b.1) hd aa aa;have ff:(a.1*b.1).natAbs<9223372036854775807->a.2*b.2<9223372036854775807->CP Y F.ja [I (a.1*b.1),I (a.2*b.2:Nat)] (.agg (qT (uu a b))):=fun h1 h2=>Q2 hd h1 h2
 obtain⟨x,y,hxy⟩:∃x y,qT (uu a b)=[S x,S y]:=⟨_,_,rfl⟩;rw[hxy]at lw ff ⊢;simp only[qT]at b1 b2 ⊢
 have tail:∀u:Unit,cal (CX Y).p [(1,.vars [S (itoa a.1),S (ah a.2)]),(1,.vars [S (itoa b.1),S (ah b.2)]),(1,.vars [.d (.str []),.d (.str [])])] (.fn F.aP [] []) [S (itoa a.1),S (itoa b.1)] fun v15 h=>
  bnd (faV 1 (.ptr 0 1 0 2)) fun v16=>
  bnd (ld1 h v16) fun v17=>
  bnd (faV 1 (.ptr 1 1 0 2)) fun v18=>
  bnd (ld1 h v18) fun v19=>
  cal (CX Y).p h (.fn F.aP [] []) [v17,v19] fun v20 h=>
  cal (CX Y).p h (.fn F.bi [] []) [v15,v20] fun v21 h=>
  stD h 2 (.ptr 2 1 0 2) v21 fun _ h=>
  bnd (ldA h 2 (.ptr 2 1 0 2)) fun v23=>
  out (.agg [S x,S y]) v23 h:=by
  intro _;simp;refine cd m1 ?_;simp;refine cd m2 ?_;simp;refine cd lw ?_;simp;exact lW rfl rfl
 simp[lR];refine cd b1 ?_ (Ed ..);cases g1:decide (sdg a.1<=9)&&decide (ndg a.2<=9)with
 | false=>
  simp;refine aJ ?_;simp
  simp_all
 | true=>
  simp only[Z7,decide_eq_true_eq]at g1;obtain⟨s1,s2⟩:=IP g1.1 g1.2;rw[if_pos g1.1,if_pos g1.2];simp;refine aJ ?_;simp;refine cd b2 ?_ (Ed ..);cases g2:decide (sdg b.1<=9)&&decide (ndg b.2<=9)with
  | false=>
   simp
   simp_all
  | true=>
   simp only[Z7,decide_eq_true_eq]at g2;obtain⟨s3,s4⟩:=IP g2.1 g2.2;rw[if_pos g2.1,if_pos g2.2];have p1:(a.1*b.1).natAbs<1000000000*1000000000:=by rw[Zl];exact Yn s1 s3
   have p2:a.2*b.2<1000000000*1000000000:=Yn s2 s4;have e2:(a.2:Int)*(b.2:Int)=((a.2*b.2:Nat):Int):=ae;have ff:=ff aa aa;obtain⟨N,hN⟩:=mnQ (a.1*b.1);rw[hN]at p1 ff;generalize a.2*b.2=D at *;simp(disch:=try exact ac)[e2,hN];refine cd ff ?_;simp;simp[lW]
theorem MI{a b:Q}(ha:okQ a)(hb:okQ b)(la:qL 100000 a)(lb:qL 100000 b):CP Y F.fL [.agg (qT a),.agg (qT b)] (.agg (qT (o5 a b))):=by
 refine Fz ?_;obtain⟨la1,la2⟩:=la;obtain⟨lb1,lb2⟩:=lb;have b1:=t6 a;have b2:=t6 b;have m1:=Aw (z:=a.1) (b:=b.2) aa aa;have m2:=Aw (z:=b.1) (b:=a.2) aa aa;have m3:=vI (a:=a.2) (b:=b.2) aa aa;have n1:=fq (z:=a.1) (w:=(b.2:Int));have n2:=fq (z:=b.1) (w:=(a.2:Int))
 have n3:=sE (a:=a.2) (b:=b.2);rw[Int.natAbs_natCast]at n1 n2;have n4:ndg (a.1*b.2+b.1*a.2).natAbs<=200000+1:=wq aa aa;have ad:=tC (z:=a.1*b.2) (w:=b.1*a.2) aa aa;have hd:0<a.2*b.2:=X9 ha.1 hb.1
 have lw:CP Y F.bi [S (itoa (a.1*b.2+b.1*a.2)),S (ah (a.2*b.2))] (.agg (qT (o5 a b))):=QF hd aa aa;have ff:(a.1*b.2+b.1*a.2).natAbs<9223372036854775807->a.2*b.2<9223372036854775807->CP Y F.ja [I (a.1*b.2+b.1*a.2),I (a.2*b.2:Nat)] (.agg (qT (o5 a b))):=fun h1 h2=>Q2 hd h1 h2
 by_cases one:a.2=1∧b.2=1
 .have ad1:=tC (z:=a.1) (w:=b.1) aa aa
  have eq:o5 a b=(a.1+b.1,1):=by
   unfold o5;rw[one.1,one.2];rw[XF ae];simp
  rw[eq];have t1:qT a=[S (itoa a.1),S [49]]:=by unfold qT;rw[one.1,im]
  have t2:qT b=[S (itoa b.1),S [49]]:=by unfold qT;rw[one.2,im]
  have t3:qT (a.1+b.1,1)=[S (itoa (a.1+b.1)),S [49]]:=by unfold qT;rw[im]
  rw[t1,t2,t3];simp[fL];refine cd ad1 ?_;simp;simp[lW]
 obtain⟨x,y,hxy⟩:∃x y,qT (o5 a b)=[S x,S y]:=⟨_,_,rfl⟩;rw[hxy]at lw ff ⊢;simp only[qT]at b1 b2 ⊢
 have tail:∀u:Unit,cal (CX Y).p [(1,.vars [S (itoa a.1),S (ah a.2)]),(1,.vars [S (itoa b.1),S (ah b.2)]),(1,.vars [.d (.str []),.d (.str [])])] (.fn F.aP [] []) [S (itoa a.1),S (ah b.2)] fun v30 h=>
   bnd (faV 0 (.ptr 1 1 0 2)) fun v31=>
   bnd (ld1 h v31) fun v32=>
   bnd (faV 1 (.ptr 0 1 0 2)) fun v33=>
   bnd (ld1 h v33) fun v34=>
   cal (CX Y).p h (.fn F.aP [] []) [v32,v34] fun v35 h=>
   cal (CX Y).p h (.fn F.cO [] []) [v30,v35] fun v36 h=>
   bnd (faV 1 (.ptr 0 1 0 2)) fun v37=>
   bnd (ld1 h v37) fun v38=>
   bnd (faV 1 (.ptr 1 1 0 2)) fun v39=>
   bnd (ld1 h v39) fun v40=>
   cal (CX Y).p h (.fn F.aP [] []) [v38,v40] fun v41 h=>
   cal (CX Y).p h (.fn F.bi [] []) [v36,v41] fun v42 h=>
   stD h 2 (.ptr 2 1 0 2) v42 fun _ h=>
   bnd (ldA h 2 (.ptr 2 1 0 2)) fun v44=>
   out (.agg [S x,S y]) v44 h:=by
  intro _;simp;refine cd m1 ?_;simp;refine cd m2 ?_;simp;refine cd ad ?_;simp;refine cd m3 ?_;simp;refine cd lw ?_;simp;exact lW rfl rfl
 have hne:¬(ah a.2=[49]∧ah b.2=[49]):=fun h=>one ⟨oN (h.1.trans im.symm),oN (h.2.trans im.symm)⟩
 have walk:∀u:Unit,bnd (ldA [(1,.vars [S (itoa a.1),S (ah a.2)]),(1,.vars [S (itoa b.1),S (ah b.2)]),(1,.vars [.d (.str []),.d (.str [])])] 2 (.ptr 0 1 0 2)) fun v19=>
  cal (CX Y).p [(1,.vars [S (itoa a.1),S (ah a.2)]),(1,.vars [S (itoa b.1),S (ah b.2)]),(1,.vars [.d (.str []),.d (.str [])])] (.fn F.dD [] []) [v19] fun v20 h=>
  ext v20 0 fun v21=>
  ext v20 1 fun v22=>
  ext v20 2 fun v23=>
  jn (fun l24 h=>
   bnd (faV 0 (.ptr 0 1 0 2)) fun v26=>
   bnd (ld1 h v26) fun v27=>
   bnd (faV 1 (.ptr 1 1 0 2)) fun v28=>
   bnd (ld1 h v28) fun v29=>
   cal (CX Y).p h (.fn F.aP [] []) [v27,v29] fun v30 h=>
   bnd (faV 0 (.ptr 1 1 0 2)) fun v31=>
   bnd (ld1 h v31) fun v32=>
   bnd (faV 1 (.ptr 0 1 0 2)) fun v33=>
   bnd (ld1 h v33) fun v34=>
   cal (CX Y).p h (.fn F.aP [] []) [v32,v34] fun v35 h=>
   cal (CX Y).p h (.fn F.cO [] []) [v30,v35] fun v36 h=>
   bnd (faV 1 (.ptr 0 1 0 2)) fun v37=>
   bnd (ld1 h v37) fun v38=>
   bnd (faV 1 (.ptr 1 1 0 2)) fun v39=>
   bnd (ld1 h v39) fun v40=>
   cal (CX Y).p h (.fn F.aP [] []) [v38,v40] fun v41 h=>
   cal (CX Y).p h (.fn F.bi [] []) [v36,v41] fun v42 h=>
   stD h 2 (.ptr 2 1 0 2) v42 fun _ h=>
   bnd (ldA h 2 (.ptr 2 1 0 2)) fun v44=>
   out (.agg [S x,S y]) v44 h) fun q25=>
   cnd v23 (
    bnd (ldA h 2 (.ptr 1 1 0 2)) fun v45=>
    cal (CX Y).p h (.fn F.dD [] []) [v45] fun v46 h=>
    ext v46 0 fun v47=>
    ext v46 1 fun v48=>
    ext v46 2 fun v49=>
    cnd v49 (
     bnd (biI .mul v21 v48) fun v50=>
     bnd (biI .mul v47 v22) fun v51=>
     bnd (biI .add v50 v51) fun v52=>
     bnd (biI .mul v22 v48) fun v53=>
     cal (CX Y).p h (.fn F.ja [] []) [v52,v53] fun v54 h=>
     stD h 2 (.ptr 2 1 0 2) v54 fun _ h=>
     bnd (ldA h 2 (.ptr 2 1 0 2)) fun v56=>
     out (.agg [S x,S y]) v56 h) (
     q25 [] h)) (
    q25 [] h):=by
  intro _;simp;refine cd b1 ?_ (Ed ..);cases g1:decide (sdg a.1<=9)&&decide (ndg a.2<=9)with
  | false=>
   simp;refine aJ ?_;simp
   simp_all
  | true=>
   simp only[Z7,decide_eq_true_eq]at g1;obtain⟨s1,s2⟩:=IP g1.1 g1.2;rw[if_pos g1.1,if_pos g1.2];simp;refine aJ ?_;simp;refine cd b2 ?_ (Ed ..);cases g2:decide (sdg b.1<=9)&&decide (ndg b.2<=9)with
   | false=>
    simp
    simp_all
   | true=>
    simp only[Z7,decide_eq_true_eq]at g2;obtain⟨s3,s4⟩:=IP g2.1 g2.2;rw[if_pos g2.1,if_pos g2.2];have p1:(a.1*b.2).natAbs<1000000000*1000000000:=by rw[Zl,Int.natAbs_natCast];exact Yn s1 s4
    have p3:(b.1*a.2).natAbs<1000000000*1000000000:=by rw[Zl,Int.natAbs_natCast];exact Yn s3 s2
    have p2:a.2*b.2<1000000000*1000000000:=Yn s2 s4;have e2:(a.2:Int)*(b.2:Int)=((a.2*b.2:Nat):Int):=ae;have ff:=ff aa aa;obtain⟨N,hN⟩:∃N,a.1*(b.2:Int)=N:=⟨_,rfl⟩;obtain⟨M,hM⟩:∃M,b.1*(a.2:Int)=M:=⟨_,rfl⟩;rw[hN]at p1 ff;rw[hM]at p3 ff;generalize a.2*b.2=D at *;simp(disch:=try exact ac)[e2,hN,hM];refine cd ff ?_;simp
    simp[lW]
 by_cases c1:ah a.2=[49]
 .have c2:¬ah b.2=[49]:=fun h=>hne ⟨c1,h⟩
  simp[fL,c1,c2]
  simp_all
 .simp[fL,c1]
  simp_all
theorem Tm(a:Q):CP Y F.mi [.agg (qT a)] (I (sgn a.1)):=by refine CK ?_;simp[mi,qT];refine cd (mT a.1) ?_;exact ba rfl
theorem Lf(z:Int):sgn z=0↔z=0:=by
 unfold sgn;constructor
 .intro h;split at h
  .assumption
  .split at h<;>omega
 .intro h;rw[if_pos h]
theorem EH{a b:LuQ}{c:Int}{h:Hp}:out (.tup [.agg [S a,S b],I c]) (.tup [.agg [S a,S b],I c]) h:=⟨h,by simp[aD,ai,norm]⟩
theorem MH{a b:Q}(ha:okQ a)(hb:okQ b)(h0:b.1≠0)(la:qL 100000 a)(lb:qL 100000 b):CP Y F.jR [.agg (qT a),.agg (qT b)] (.tup [.agg (qT (qU a b)),I 0]):=by
 refine Fx ?_;obtain⟨la1,la2⟩:=la;obtain⟨lb1,lb2⟩:=lb;have sg0:=Tm b;have hs:¬sgn b.1=0:=fun h=>h0 ((Lf _).1 h)
 have m1:=Aw (z:=a.1) (b:=b.2) aa aa;have m2:=nS (z:=(a.2:Int)) (w:=b.1) (by rw[Int.natAbs_natCast];omega) aa;rw[js]at m2;have n1:=fq (z:=a.1) (w:=(b.2:Int));have n2:=fq (z:=(a.2:Int)) (w:=b.1);rw[Int.natAbs_natCast]at n1 n2;have hne:(a.2:Int)*b.1≠0:=Yf (by have:=ha.1;omega) h0
 have lw:CP Y F.bi [S (itoa (a.1*b.2)),S (itoa (a.2*b.1))] (.agg (qT (qU a b))):=Bi hne aa aa;obtain⟨x,y,hxy⟩:∃x y,qT (qU a b)=[S x,S y]:=⟨_,_,rfl⟩;rw[hxy]at lw ⊢;generalize sgn b.1=sb at *;simp only[qT]at sg0 ⊢;simp(disch:=try exact ac)[jR];refine cd sg0 ?_ (Ed ..);simp(disch:=try exact ac)[hs]
 refine cd m1 ?_;simp(disch:=try exact ac);refine cd m2 ?_;simp(disch:=try exact ac);refine cd lw ?_;simp(disch:=try exact ac);exact EH
theorem YZ{n d:Int}(hd:d≠0)(hn:ndg n.natAbs<800000)(hd2:ndg d.natAbs<800000):CP Y F.nC [S (itoa n),S (itoa d)] (.tup [.agg (qT (gm n d)),I 0]):=by
 refine Ft ?_;have sg0:=mT d;have hs:¬sgn d=0:=fun h=>hd ((Lf _).1 h)
 have lw:=Bi hd hn hd2;obtain⟨x,y,hxy⟩:∃x y,qT (gm n d)=[S x,S y]:=⟨_,_,rfl⟩;rw[hxy]at lw ⊢;generalize sgn d=sb at *;simp[nC];refine cd sg0 ?_;simp[hs];refine cd lw ?_;simp;exact EH
theorem qW{z:Int}(h1 : -9223372036854775808<z)(h2:z<9223372036854775808):ndg z.natAbs<=19:=cQ aa af
theorem wF{n d:Int}(hd:d≠0)(h1 : -9223372036854775808<n)(h2:n<9223372036854775808)(h3 : -9223372036854775808<d)(h4:d<9223372036854775808):CP Y F.fu [I n,I d] (.tup [.agg (qT (gm n d)),I 0]):=by refine GF ?_;have nw:=YZ (n:=n) hd (Zb (qW h1 h2) af) (Zb (qW h3 h4) af);obtain⟨x,y,hxy⟩:∃x y,qT (gm n d)=[S x,S y]:=⟨_,_,rfl⟩;rw[hxy]at nw ⊢;simp[fu];refine cd (kI h1 h2) ?_;simp;refine cd (kI h3 h4) ?_;simp;refine cd nw ?_;simp;exact EH
theorem JP(z:Int){b:Nat}(hb:0<b):z.fdiv (-(b:Int))=(-z)/(b:Int)∧z.fmod (-(b:Int)) = -((-z)%(b:Int)):=by
 have e:z.fdiv (-(b:Int))=(-z)/(b:Int):=by
  rw[<-Int.fdiv_eq_ediv_of_nonneg (-z) (by omega:(0:Int)<=(b:Int)),<-Int.neg_fdiv_neg (-z) (b:Int),Vz]
 refine⟨e,?_⟩;rw[Int.fmod_def,e];have:=Int.mul_ediv_add_emod (-z) (b:Int)
 grind
theorem MM(x y:Int)(hy:y≠0):(x.fdiv y).natAbs<=x.natAbs:=by
 by_cases h:0<y
 .rw[Int.fdiv_eq_ediv_of_nonneg _ aa];exact Int.natAbs_ediv_le_natAbs ..
 .obtain⟨b,hb⟩:∃b:Nat,b=y.natAbs:=⟨_,rfl⟩;have e:y = -(b:Int):=aa;rw[e,(JP x (b:=b) aa).1]
  grind[Int.natAbs_ediv_le_natAbs]
theorem ZY{z:Int}{b:Nat}(hb:0<b)(hz:ndg z.natAbs<900000)(hbd:ndg b<900000):
   cal (CX Y).p [] (.fn F.aN [] []) [S (itoa z)] fun v7 h=>
   ext v7 0 fun v8=>
   ext v7 1 fun v9=>
   cal (CX Y).p h (.fn F.aN [] []) [S (itoa (-(b:Int)))] fun v10 h=>
   ext v10 0 fun v11=>
   ext v10 1 fun v12=>
   cal (CX Y).p h (.fn F.dZ [] []) [v9,v12] fun v13 h=>
   ext v13 0 fun v14=>
   ext v13 1 fun v15=>
   ext v13 2 fun v16=>
   bnd (biI .neq v16 (.d (.int .i64 0))) fun v17=>
   cnd v17 (
    out (.tup [S (itoa ((-z)/b)),S (itoa (-((-z)%b))),I 0]) (.tup [(.d (.str [])),(.d (.str [])),v16]) h) (
    bnd (biB .neq v8 v11) fun v18=>
    gd v18 true h (fun q=>q v15 h) fun v19 h=>
    gd v18 true h (fun q=>bnd (biS .neq v19 (.d (.str [48]))) fun v=>q v h) fun v20 h=>
    bnd (mV v18 v20 (.d (.bool false))) fun v21=>
    jn (fun l22 h=>
     bnd (biB .neq v8 v11) fun v24=>
     cal (CX Y).p h (.fn F.bV [] []) [v24,(ge l22 0)] fun v25 h=>
     cal (CX Y).p h (.fn F.bV [] []) [v11,(ge l22 1)] fun v26 h=>
     out (.tup [S (itoa ((-z)/b)),S (itoa (-((-z)%b))),I 0]) (.tup [v25,v26,(.d (.int .i64 0))]) h) fun q23=>
     cnd v21 (
      cal (CX Y).p h (.fn F.gk [] []) [v14,(.d (.str [49]))] fun v27 h=>
      cal (CX Y).p h (.fn F.ia [] []) [v12,v15] fun v28 h=>
      ext v28 0 fun v29=>
      ext v28 1 fun v30=>
      q23 [v27,v29] h) (
      q23 [v14,v15] h)):=by
 have hq:ndg (z.natAbs/b)<=ndg z.natAbs:=cJ (Yo ..);have hr:z.natAbs%b<b:=Yu _ hb;have hr2:ndg (z.natAbs%b)<=ndg b:=cJ aa;have eb:∀x y:Bool,biB .neq (B x) (B y)=some (B (x !=y)):=fun _ _=>rfl
 have sb:=oH (-(b:Int));rw[decide_eq_true (by omega : -(b:Int)<0),show(-(b:Int)).natAbs=b by omega]at sb;simp;refine cd (oH z) ?_;simp;refine cd sb ?_;simp;refine cd (xi (a:=z.natAbs) hb aa aa) ?_;by_cases hneg:z<0
 .have ez : -z=(z.natAbs:Int):=aa;rw[decide_eq_true hneg];simp[eb];refine gM (l:=[S (ah (z.natAbs/b)),S (ah (z.natAbs%b))]) (h:=[]) (fun q=>by rfl) ?_;simp[eb];refine cd (gY false (n:=z.natAbs/b) aa) ?_;simp;refine cd (gY true (n:=z.natAbs%b) aa) ?_;refine od ?_ ?_
  .rw[ez,<-Int.natCast_ediv];rfl
  .rw[ez,<-Int.natCast_emod];rfl
 .have ez : -z = -(z.natAbs:Int):=aa;obtain⟨d1,d2⟩:=uP (a:=z.natAbs) hb;rw[<-ez]at d1 d2;rw[decide_eq_false hneg];by_cases h0:z.natAbs%b=0
  .rw[if_pos h0]at d1 d2;rw[h0,dW];simp[eb];refine gM (l:=[S (ah (z.natAbs/b)),S [48]]) (h:=[]) (fun q=>by rfl) ?_;simp[eb];refine cd (gY true (n:=z.natAbs/b) aa) ?_;simp;have j0:=gY true (n:=0) (by grind);rw[dW]at j0;refine cd j0 ?_;refine od ?_ ?_
   .rw[d1];rfl
   .rw[d2];rfl
  .rw[if_neg h0]at d1 d2;have h48:¬ah (z.natAbs%b)=[48]:=fun h=>h0 (j5.1 h)
   have ad:=yA (a:=z.natAbs/b) (b:=1) aa (by simp[uz]);rw[show ah 1=[49] by decide+kernel]at ad;simp[eb,h48];refine aJ ?_;simp[h48];refine cd ad ?_;simp;refine cd (xj (a:=b) (b:=z.natAbs%b) aa aa) ?_;simp[eb];have hq1:ndg (z.natAbs/b+1)<=900000+1:=sF aa (by simp[uz])
   refine cd (gY true (n:=z.natAbs/b+1) aa) ?_;simp;refine cd (gY true (n:=b-z.natAbs%b) (Zb (cJ (Nat.sub_le ..)) aa)) ?_;refine od ?_ ?_
   .rw[d1];rfl
   .rw[d2];rfl
theorem NF{z:Int}{b:Nat}(hb:0<b)(hz:ndg z.natAbs<900000)(hbd:ndg b<900000):CP Y F.aT [S (itoa z),S (itoa (-(b:Int)))] (.tup [S (itoa ((-z)/b)),S (itoa (-((-z)%b))),I 0]):=by
 refine vG ?_;have l1:=ov z 18 af;have l2:=ov (-(b:Int)) 18 af;have tl:=ZY hb hz hbd
 have h48:¬itoa (-(b:Int))=[48]:=fun h=>by
  have:=zC (h.trans (show[48]=itoa 0 by decide+kernel));omega
 simp[aT,h48];refine cd l1 ?_;by_cases h1:sdg z<=18
 .rw[if_pos h1];by_cases h2:sdg (-(b:Int))<=18
  .rw[if_pos h2]at l2;simp;refine aJ ?_;simp;refine cd l2 ?_;have b1:=qR h1;have b2:=qR h2;simp only[Nat.reducePow]at b1 b2;have hbz:¬(-(b:Int))=0:=aa;have eb:∀x y:Bool,biB .neq (B x) (B y)=some (B (x !=y)):=fun _ _=>rfl
   obtain⟨n,hn⟩:=nmQ (z.natAbs);rw[<-hn]at b1;have hq:n/b<=n:=Yo ..;have hr:n%b<b:=Yu _ hb;have ym:(-(b:Int))<0:=aa;by_cases hneg:z<0
   .have ez:z = -(n:Int):=aa;have q1:z.tdiv (-(b:Int))=((n/b:Nat):Int):=by rw[ez,Int.neg_tdiv,Int.tdiv_neg,Vz,Zs aa,<-Int.natCast_ediv]
    have q2:z.tmod (-(b:Int)) = -((n%b:Nat):Int):=by rw[ez,Int.neg_tmod,Int.tmod_neg,Zt aa,<-Int.natCast_emod]
    have d1:(-z)/(b:Int)=((n/b:Nat):Int):=by rw[ez,Vz,<-Int.natCast_ediv]
    have d2:(-z)%(b:Int)=((n%b:Nat):Int):=by rw[ez,Vz,<-Int.natCast_emod]
    obtain⟨q,hqq⟩:=nmQ (n/b);obtain⟨r,hrr⟩:=nmQ (n%b);rw[<-hqq]at q1 d1 hq;rw[<-hrr]at q2 d2 hr
    have fin:∀h:Hp,cal (CX Y).p h (V.fn F.dM [] []) [I q] fun v45 h=>
      cal (CX Y).p h (V.fn F.dM [] []) [I (-(r:Int))] fun v46 h=>out (V.tup [S (itoa ((-z)/(b:Int))),S (itoa (-((-z)%(b:Int)))),I 0]) (V.tup [v45,v46,V.d (D.int IntKind.i64 0)]) h:=by
     intro h;simp;refine cd (kI (z:=(q:Int)) aa aa) ?_;simp;refine cd (kI (z:=-(r:Int)) aa aa) ?_;refine od ?_ ?_
     .rw[d1]
     .rw[d2]
    by_cases h0:r=0
    .subst h0;simp only[Int.natCast_zero,Int.neg_zero]at q2 fin;simp(disch:=try exact ac)[q1,q2,hbz];refine gM (l:=[I q,I 0]) (h:=[]) (fun q=>by rfl) ?_;exact fin []
    .have r0:¬(-(r:Int))=0:=aa;have r1:(-(r:Int))<0:=aa;simp(disch:=try exact ac)[q1,q2,r0,r1,ym,eb,hbz];refine gM (l:=[I q,I (-(r:Int))]) (h:=[]) (fun q=>by simp(disch:=try exact ac)[r0,r1,ym,eb]) ?_;exact fin []
   .have ez:z=(n:Int):=aa;obtain⟨d1,d2⟩:=uP (a:=n) hb;rw[<-ez]at d1 d2;have q1:z.tdiv (-(b:Int)) = -((n/b:Nat):Int):=by rw[ez,Int.tdiv_neg,Zs aa,<-Int.natCast_ediv]
    have q2:z.tmod (-(b:Int))=((n%b:Nat):Int):=by rw[ez,Int.tmod_neg,Zt aa,<-Int.natCast_emod]
    obtain⟨q,hqq⟩:=nmQ (n/b);obtain⟨r,hrr⟩:=nmQ (n%b);rw[<-hqq]at q1 d1 hq;rw[<-hrr]at q2 d1 d2 hr;by_cases h0:r=0
    .rw[if_pos h0]at d1 d2;subst h0;simp only[Int.natCast_zero]at q2;simp(disch:=try exact ac)[q1,q2,hbz];refine gM (l:=[I (-(q:Int)),I 0]) (h:=[]) (fun q=>by rfl) ?_;simp;refine cd (kI (z:=-(q:Int)) aa aa) ?_;simp;refine cd (kI (z:=0) aa aa) ?_;refine od ?_ ?_
     .rw[d1]
     grind
    .rw[if_neg h0]at d1 d2;have r0:¬((r:Int))=0:=aa;have r1:¬(r:Int)<0:=aa;simp(disch:=try exact ac)[q1,q2,r0,r1,ym,eb,hbz];refine gM (l:=[I (-(q:Int)-1),I ((r:Int) + -(b:Int))]) (h:=[]) (fun q=>by simp(disch:=try exact ac)[r0,r1,ym]) ?_;simp;refine cd (kI (z:=-(q:Int)-1) aa aa) ?_;simp
     refine cd (kI (z:=(r:Int) + -(b:Int)) aa aa) ?_
     grind[od]
  .rw[if_neg h2]at l2;simp;refine aJ ?_;simp;refine cd l2 ?_;trivial
 simp_all[if_neg,aJ]
theorem KC{z w:Int}(hw0:w≠0)(hz:ndg z.natAbs<900000)(hw:ndg w.natAbs<900000):CP Y F.aT [S (itoa z),S (itoa w)] (.tup [S (itoa (z.fdiv w)),S (itoa (z.fmod w)),I 0]):=by
 by_cases h:0<w
 .rw[Int.fdiv_eq_ediv_of_nonneg _ aa,Int.fmod_eq_emod_of_nonneg _ aa]
  grind[T9]
 .obtain⟨b,hb⟩:∃b:Nat,b=w.natAbs:=⟨_,rfl⟩;have e:w = -(b:Int):=aa;rw[<-hb]at hw;rw[e,(JP z (b:=b) aa).1,(JP z (b:=b) aa).2];exact NF aa hz hw
theorem abf{z w:Int}(hz:ndg z.natAbs<999999)(hw:ndg w.natAbs<999999):CP Y F.rD [S (itoa z),S (itoa w)] (S (itoa (z-w))):=by refine Kw ?_;simp[rD];refine cd (zd aa) ?_;simp;refine cd (tC hz (by grind)) ?_;exact fp (by rw[Int.sub_eq_add_neg])
def sI(z:Int):D:=.str (itoa z)
theorem UU(P M Q:List α){x:α}(hj:j<M.length):(P++M++Q).take (P.length+j)++[x]++(P++M++Q).drop (P.length+j+1)=P++M.set j x++Q:=by
 obtain⟨a,y,c,rfl,rfl⟩:∃a y c,M=a++y::c∧j=a.length:=⟨M.take j,M[j],M.drop (j+1),ae,by grind⟩
 rw [show P++(a++y::c)++Q=((P++a)++[y])++(c++Q) by simp,show P.length+a.length+1=((P++a)++[y]).length by grind,List.drop_left,
  show((P++a)++[y])++(c++Q)=(P++a)++(y::(c++Q)) by simp,show P.length+a.length=(P++a).length by simp,Wi]
 simp
structure RwL where
 s:Nat
 e:Nat
 pre:LdQ
 post:LdQ
 ex:Bool
 cap:Nat
 r:LiQ
def RwL.z:RwL:=⟨0,0,[],[],false,0,[]⟩
def RwL.w(R:RwL)(r:LiQ):RwL:={R with r:=r}
def RwL.tot(R:RwL):Nat:=R.pre.length+R.r.length+R.post.length
def RwL.v(R:RwL):V:=.ref R.s R.e R.pre.length R.r.length R.cap R.tot
def RwL.p(R:RwL)(j:Nat):V:=.ptr R.s R.e (R.pre.length+j) R.tot
def RwL.k(R:RwL):Nat×Bk:=(R.e,.data 1 (R.pre++R.r.map sI++R.post) R.ex false)
variable{h:Hp}{R:RwL}
theorem RwL.get(hR:h[R.s]?=some R.k):ax h R.s R.e=.data 1 (R.pre++R.r.map sI++R.post) R.ex false:=by grind[ax,k]
theorem RwL.tl(R:RwL):R.tot=(R.pre++R.r.map sI++R.post).length:=by grind[tot]
theorem U1(R:RwL):aY R.v=some (I R.r.length):=rfl
theorem Lj(hR:h[R.s]?=some R.k)(hj:j<R.r.length):ixV h 1 R.v (I j)=some (R.p j):=by simp only[RwL.v,ixV,RwL.get hR];rw[if_pos ⟨R.tl,aa,aa⟩];simp[RwL.p]
theorem PP(hR:h[R.s]?=some R.k)(hj:j<R.r.length):ld1 h (R.p j)=some (S (itoa (nth 0 R.r j))):=by
 simp only[RwL.p,ld1,RwL.get hR];rw[if_pos R.tl]
 have:(R.pre++R.r.map sI++R.post)[R.pre.length+j]?=some (sI (nth 0 R.r j)):=by
  rw[List.append_assoc,List.getElem?_append_right aa,List.getElem?_append_left (by grind)];simp[cF _ _ _ hj,List.getElem?_eq_getElem hj]
 rw[this];rfl
theorem U0(hR:h[R.s]?=some R.k)(hj:j<R.r.length)(z:Int):st h 1 (R.p j) (S (itoa z))=some (h.set R.s (R.w (R.r.set j z)).k):=by simp only[RwL.p,st,if_true,sto,RwL.get hR,jj,toD,norm];rw[if_pos ⟨trivial,R.tl,by grind⟩];simp only[bL,RwL.k,RwL.w];congr 4;have:=UU R.pre (R.r.map sI) R.post (x:=sI z) (j:=j) (by grind);rw[show R.pre.length+j + [D.str (itoa z)].length=R.pre.length+j+1 by simp];rw[Wy];exact this
theorem RwL.set_get{R':RwL}(hR:h[R.s]?=some R.k)(hs:R'.s=R.s):(h.set R.s R'.k)[R'.s]?=some R'.k:=by rw[hs,List.getElem?_set_self (List.getElem?_eq_some_iff.1 hR).1]
theorem RwL.set_ne{T:RwL}(hT:h[T.s]?=some T.k)(hs:s≠T.s):(h.set s x)[T.s]?=some T.k:=by grind
theorem xm{h:Hp}{b:Nat}(hu:(h.all fun x=>aB b x.2)=true)(hx:aB b x.2=true):((h.set s x).all fun x=>aB b x.2)=true:=by grind
theorem RwL.u(R:RwL)(b:Nat):aB b R.k.2=true:=rfl
def bdE(B:Nat)(l:LiQ):Prop:=∀x∈l,x.natAbs<10^B
theorem Aj{B:Nat}(h:bdE B l)(j:Nat):(nth 0 l j).natAbs<10^B:=by
 by_cases hj:j<l.length
 .rw[cF _ _ _ hj];exact h _ (Ze hj)
 .have:nth 0 l j=0:=by simp[nth,List.getElem?_eq_none (by omega:l.length<=j)]
  grind
theorem wO{B:Nat}(hB:B<=100000){x:Int}(h:x.natAbs<10^B):ndg x.natAbs<=100001:=
 Zz (cQ (d:=B+1) (Z3 h (Z4 af (Nat.le_succ B))) aa) aa
theorem Er(k:Int)(a b:LiQ)(h:a.length=b.length):(qz k a b).length=a.length:=by simp[qz,h]
section
variable{R T:RwL}{h:Hp}{k:Int}{B:Nat}
theorem QJ(hB:B<=100000)(hT:h[T.s]?=some T.k)(hR:h[R.s]?=some R.k)(hne:R.s≠T.s)(hk:ndg k.natAbs<=100002)(bT:bdE B T.r)(hl:R.r.length=T.r.length)(hL:R.r.length<1000000)(b:Nat)(h0:Hp)(hh:h0.length=h.length)(K:KL) :
  ∀(rq rp:LiQ)(tp tq:LiQ),tp++tq=T.r->rp.length=tp.length->rq.length=tq.length->bdE B rq->rp.length+rq.length=R.r.length ->
  K (.exit 0) [] (h.set R.s (R.w (rp++qz k rq tq)).k) ->
  lp (jP (CX Y) b R.v (S (itoa k)) T.v (I T.r.length)) [] h0 [I rp.length] (h.set R.s (R.w (rp++rq)).k) K
 | [],rp,tp,tq,ht,h1,h2,bR,hn,hK=>by
  refine ak ?_;have hlt:¬((rp.length:Int)<(T.r.length:Int)):=by simp at hn;omega
  have:tq=[]:=Zn aa;subst this;simp only[jP];simp[hlt]
  simp_all[qz]
 |x::rq,rp,tp,[],ht,h1,h2,bR,hn,hK=>by simp at h2
 | x::rq,rp,tp,y::tq,ht,h1,h2,bR,hn,hK=>by
  refine ak ?_;have hlt:((rp.length:Int)<(T.r.length:Int)):=by simp at hn;omega
  obtain⟨H,hH⟩:∃H,H=h.set R.s (R.w (rp++x::rq)).k:=⟨_,rfl⟩;have gR:H[R.s]?=some (R.w (rp++x::rq)).k:=by rw[hH];exact RwL.set_get hR rfl
  have gT:H[T.s]?=some T.k:=by rw[hH];exact RwL.set_ne hT hne
  have vR:R.v=(R.w (rp++x::rq)).v:=by simp[RwL.v,RwL.w,RwL.tot]at hn ⊢;omega
  have jl:rp.length<T.r.length:=by simp at hn;omega
  have jr:rp.length<(R.w (rp++x::rq)).r.length:=by simp[RwL.w]
  have nT:nth 0 T.r rp.length=y:=by rw[<-ht,h1];simp
  have nR:nth 0 (R.w (rp++x::rq)).r rp.length=x:=by simp[RwL.w]
  have i1:=Lj gT jl;have i2:=PP gT jl;have i3:=Lj gR jr;have i4:=PP gR jr;rw[nT]at i2;rw[nR]at i4;have i5:=U0 gR jr (x-k*y);have bx:ndg x.natAbs<=100001:=wO hB (bR x ae);have by_:ndg y.natAbs<=100001:=wO hB (bT y (by grind));have bm:=fq (z:=k) (w:=y);rw[<-hH,vR];simp only[jP];simp[hlt,i1,i2,i3,i4]
  refine cd (nS (z:=k) (w:=y) aa aa) ?_;simp;refine cd (abf (z:=x) (w:=k*y) aa aa) ?_;simp(disch:=try exact ac)[i3,i5];rw[pL 0 h0 _ (by grind),<-vR];refine lo ?_
  have e1:H.set (R.w (rp++x::rq)).s ((R.w (rp++x::rq)).w ((R.w (rp++x::rq)).r.set rp.length (x-k*y))).k=h.set R.s (R.w ((rp++[x-k*y])++rq)).k:=by
   rw[hH];simp[RwL.w]
  rw[e1];have ih:=QJ hB hT hR hne hk bT hl hL b h0 hh K rq (rp++[x-k*y]) (tp++[y]) tq (by grind) (by grind) (by grind) (fun z hz=>bR z (by grind)) (by grind) (by simp_all[qz])
  grind
theorem WR(hR:h[R.s]?=some R.k)(hB:B<=100000)(hL:R.r.length<1000000)(b:Nat)(h0:Hp)(hh:h0.length=h.length)(K:KL) :
  ∀(rq rp:LiQ),bdE B rq->rp.length+rq.length=R.r.length ->
  K (.exit 0) [] (h.set R.s (R.w (rp++rq.map (- ·))).k) ->
  lp (iP (CX Y) b R.v R.v (I R.r.length)) [] h0 [I rp.length] (h.set R.s (R.w (rp++rq)).k) K
 | [],rp,bR,hn,hK=>by
  refine ak ?_;have hlt:¬((rp.length:Int)<(R.r.length:Int)):=by simp at hn;omega
  simp only[iP];simp[hlt]
  grind
 | x::rq,rp,bR,hn,hK=>by
  refine ak ?_;have hlt:((rp.length:Int)<(R.r.length:Int)):=by simp at hn;omega
  obtain⟨H,hH⟩:∃H,H=h.set R.s (R.w (rp++x::rq)).k:=⟨_,rfl⟩;have gR:H[R.s]?=some (R.w (rp++x::rq)).k:=by rw[hH];exact RwL.set_get hR rfl
  have vR:R.v=(R.w (rp++x::rq)).v:=by simp[RwL.v,RwL.w,RwL.tot]at hn ⊢;omega
  have jr:rp.length<(R.w (rp++x::rq)).r.length:=by simp[RwL.w]
  have nR:nth 0 (R.w (rp++x::rq)).r rp.length=x:=by simp[RwL.w]
  have i3:=Lj gR jr;have i4:=PP gR jr;rw[nR]at i4;have i5:=U0 gR jr (-x);have bx:ndg x.natAbs<=100001:=wO hB (bR x ae);rw[<-hH,vR];simp only[iP];simp[hlt,i3,i4];refine cd (zd (z:=x) aa) ?_;simp(disch:=try exact ac)[i3,i5];rw[pL 0 h0 _ (by grind),<-vR];refine lo ?_
  have e1:H.set (R.w (rp++x::rq)).s ((R.w (rp++x::rq)).w ((R.w (rp++x::rq)).r.set rp.length (-x))).k=h.set R.s (R.w ((rp++[-x])++rq)).k:=by
   rw[hH];simp[RwL.w]
  rw[e1];have ih:=WR hR hB hL b h0 hh K rq (rp++[-x]) (fun z hz=>bR z (by grind)) (by grind) (by grind)
  simp_all
theorem Sv(a b:LiQ)(h:a.length=b.length):qz 0 a b=a:=by
 induction a generalizing b with
 |nil=>rfl
 | cons x a ih=>
  cases b with
  |nil=>simp at h
  | cons y b=>
   simp_all[qz]
theorem RwL.set_same(hR:h[R.s]?=some R.k):h.set R.s (R.w R.r).k=h:=by
 apply X8;intro i;by_cases hi:R.s=i
 .subst hi;rw[List.getElem?_set_self (List.getElem?_eq_some_iff.1 hR).1,hR];rfl
 .rw[List.getElem?_set_ne hi]
theorem Mj(hB:B<=100000)(hT:h[T.s]?=some T.k)(hR:h[R.s]?=some R.k)(hne:R.s≠T.s)(hk:ndg k.natAbs<=100002)(bT:bdE B T.r)(bR:bdE B R.r)(hl:R.r.length=T.r.length)(hL:R.r.length<1000000)
  (hu:(h.all fun x=>aB h.length x.2)=true):CI Y F.eJ [R.v,S (itoa k),T.v] h (.tup []) (h.set R.s (R.w (qz k R.r T.r)).k):=by
 refine xy ?_
 have fin:nN h.length (.tup []) (h.set R.s (R.w (qz k R.r T.r)).k) (.tup []) (h.set R.s (R.w (qz k R.r T.r)).k):=
  ⟨by rw[Zw ae],xm hu (RwL.u _ _),.inl ⟨rfl,rfl⟩⟩
 simp only[eJ,List.replicate_zero,Zj];by_cases h0:k=0
 .subst h0;have:itoa 0=[48]:=az;rw[Sv _ _ hl,RwL.set_same hR]at fin ⊢;simp[this];omega
 .have h48:¬itoa k=[48]:=fun e=>h0 (zC (e.trans (show[48]=itoa 0 by decide+kernel)))
  have:=QJ hB hT hR hne hk bT hl hL h.length h rfl (exK [((.exit 0),fun l3 h'=>nN h.length (.tup []) (h.set R.s (R.w (qz k R.r T.r)).k) (.tup []) h')]) R.r [] [] T.r rfl rfl hl bR ae (by trivial);rw[List.nil_append,RwL.set_same hR]at this;simp[h48,U1 T];trivial
theorem Ow(hB:B<=100000)(hR:h[R.s]?=some R.k)(bR:bdE B R.r)(hL:R.r.length<1000000)(hu:(h.all fun x=>aB h.length x.2)=true):
  CI Y F.eD [R.v] h (.tup []) (h.set R.s (R.w (R.r.map (- ·))).k):=by
 refine vk ?_
 have fin:nN h.length (.tup []) (h.set R.s (R.w (R.r.map (- ·))).k) (.tup []) (h.set R.s (R.w (R.r.map (- ·))).k):=
  ⟨by rw[Zw ae],xm hu (RwL.u _ _),.inl ⟨rfl,rfl⟩⟩
 simp only[eD,List.replicate_zero,Zj];have:=WR hR hB hL h.length h rfl (exK [((.exit 0),fun l3 h'=>nN h.length (.tup []) (h.set R.s (R.w (R.r.map (- ·))).k) (.tup []) h')]) R.r [] bR ae (by trivial);rw[List.nil_append,RwL.set_same hR]at this;simp[U1 R];trivial
end
theorem wj(h:∀t∈clr,t≠s):gX clr s=true:=by
 induction clr with
 |nil=>rfl
 | cons t l ih=>
  rw[EO,beq_lit,decide_eq_false (h t ae),ih fun u hu=>h u (by grind)];rfl
theorem NG{b:Nat}(hc:∀t∈clr,b<=t):∀x:V,under b x=true->pN clr x=true:=by
 intro x
 induction x using V.rec (motive_2:=fun l=>ji b l=true->iX clr l=true)with
 |agg l ih=>trivial
 |tup l ih=>trivial
 | fn g a c iha ihc=>
  grind[under,pN]
 |ifc t x ih=>trivial
 |nil=>rfl
 | cons x l ih ihl h=>
  grind[ji,iX]
 | ref s e off len cap tot=>
  intro h;have:s<b:=by simpa[under,Wu]using h
  exact wj fun t ht=>by grind
 | ptr s e off tot=>
  intro h;have:s<b:=by simpa[under,Wu]using h
  exact wj fun t ht=>by grind
 |_=>intro _;rfl
theorem BU{clr:LnQ}{b:Nat}(hc:∀t∈clr,b<=t):∀l:LwQ,ji b l=true->iX clr l=true
 |[],_=>rfl
 | x::l,h=>by
  simp only[ji,Z7]at h;simp only[iX,NG hc x h.1,BU hc l h.2,Ya]
theorem NH{b:Nat}(hc:∀t∈clr,b<=t)(x:Bk)(h:aB b x=true):offB clr x=true:=by
 cases x with
 |vars l=>exact BU hc l h
 |_=>rfl
theorem LV{clr:LnQ}{b:Nat}(hc:∀t∈clr,b<=t):∀(h t:Hp)(i:Nat),(h.all fun x=>aB b x.2)=true->pz clr (i+h.length) t=true->pz clr i (h++t)=true
 |[],t,i,_,ht=>ht
 | x::h,t,i,hu,ht=>by
  simp only[List.all_cons,Z7]at hu;rw[List.cons_append,AX,NH hc _ hu.1,Bool.or_true,Yb];refine LV hc h t (i+1) hu.2 ?_;rw[List.length_cons]at ht;rw[show i+1+h.length=i+(h.length+1) by omega];exact ht
theorem tN{clr:LnQ}{b:Nat}(hc:∀t∈clr,b<=t):∀(i:Nat)(h0 h:Hp),h.length=h0.length->(∀s,b<=i+s->s<h.length->h[s]?=some nnQ∧h0[s]?=some nnQ)->aO clr i h0 h=h
 |_,[],[],_,_=>rfl
 |_,[],_::_,hl,_=>by rfl
 |_,_::_,[],hl,_=>by rfl
 | i,x0::h0,x::h,hl,hs=>by
  rw [rW,tN hc (i+1) h0 h (by grind) (fun s hb hlt=>by
   have:=hs (s+1) aa (by grind);trivial)]
  split
  .rfl
  .rename_i hn
   have hb:b<=i:=by
    refine Classical.byContradiction fun hlt=>hn (wj fun t ht=>?_)
    have:=hc t ht;omega
   have:=hs 0 aa ae
   grind
theorem uw{b:Nat}(hc:∀t∈clr,b<=t){h:Hp}(hu:(h.all fun x=>aB b x.2)=true)(i:Nat):pz clr i h=true:=by
 have:=LV hc h [] i hu (by rfl)
 grind
structure Tr(b:Nat)(gh:Hp)(h:Hp)(so eo L:Nat)(m:List RwL):Prop where
 o:h[so]?=some (eo,.vars (m.map RwL.v))
 r:∀i,i<m.length->h[(nth RwL.z m i).s]?=some (nth RwL.z m i).k
 nd:∀i j,i<m.length->j<m.length->i≠j->(nth RwL.z m i).s≠(nth RwL.z m j).s
 no:∀i,i<m.length->(nth RwL.z m i).s≠so
 ln:∀i,i<m.length->(nth RwL.z m i).r.length=L
 fr:∀s,s≠so->(∀i,i<m.length->(nth RwL.z m i).s≠s)->h[s]?=gh[s]?
 so:so<b
 sb:∀i,i<m.length->(nth RwL.z m i).s<b
 u:(h.all fun x=>aB b x.2)=true
 bl:b<=h.length
 ow:∀s,b<=s->s<h.length->h[s]?=some nnQ
def ouV(so eo n:Nat):V:=.ref so eo 0 n n n
def ouP(so eo n i:Nat):V:=.ptr so eo i n
abbrev fw:=yv RwL.z RwL.r
abbrev nR(m:List RwL)(i:Nat):RwL:=nth RwL.z m i
theorem jM(d:α)(l:List α)(i j:Nat)(x:α)(h:i<l.length):nth d (l.set i x) j=if j=i then x else nth d l j:=by grind[nth]
theorem Qw(f:α->β)(d:α)(l:List α)(i:Nat)(h:i<l.length):(l.map f)[i]?=some (f (nth d l i)):=by simp[nth,h]
theorem abD(d:α)(l:List α)(i:Nat)(h:i<l.length):l.set i (nth d l i)=l:=by simp[nth,h]
variable{b so eo L:Nat}{m:List RwL}{gh h:Hp}
theorem tE{b c:Nat}(hbc:b<=c){h:Hp}(hu:(h.all fun x=>aB b x.2)=true):(h.all fun x=>aB c x.2)=true:=by grind[Ay]
theorem Tr.hu(T:Tr b gh h so eo L m):(h.all fun x=>aB h.length x.2)=true:=tE T.bl T.u
theorem Tr.get(T:Tr b gh h so eo L m):ax h so eo=.vars (m.map RwL.v):=by simp[ax,T.o]
theorem Tr.ix(T:Tr b gh h so eo L m)(hi:i<m.length):ixV h 1 (ouV so eo m.length) (I i)=some (ouP so eo m.length i):=by simp only[ouV,ixV,T.get];rw[if_pos ⟨ae,aa,aa⟩];simp[ouP]
theorem Tr.ld(T:Tr b gh h so eo L m)(hi:i<m.length):ld1 h (ouP so eo m.length i)=some (nR m i).v:=by simp only[ouP,ld1,T.get];rw[if_pos ae,Qw _ RwL.z _ _ hi]
theorem Tr.ix2(T:Tr b gh h so eo L m){c:Nat}(hi:i<m.length)(hc:c<L):ixV h 1 (nR m i).v (I c)=some ((nR m i).p c):=Lj (T.r i hi) (by grind[ln])
theorem Tr.ld2(T:Tr b gh h so eo L m){c:Nat}(hi:i<m.length)(hc:c<L):ld1 h ((nR m i).p c)=some (S (itoa (fw m i c))):=PP (T.r i hi) (by grind[ln])
theorem RwL.w_v(R:RwL)(hr:r.length=R.r.length):(R.w r).v=R.v:=by grind[v,w,tot]
theorem Tr.row(T:Tr b gh h so eo L m)(hi:i<m.length)(hr:r.length=L):Tr b gh (h.set (nR m i).s ((nR m i).w r).k) so eo L (m.set i ((nR m i).w r)) where
 o:=by
  grind[no,o,Wy,RwL.w_v,ln,abD]
 r:=fun j hj=>by
  rw[Y5]at hj;rw[jM _ _ _ _ _ hi];by_cases e:j=i
  .rw[if_pos e];exact RwL.set_get (R:=nR m i) (T.r i hi) rfl
  grind[r,nd]
 nd:=fun j k hj hk hjk=>by
  rw[Y5]at hj hk;rw[jM _ _ _ _ _ hi,jM _ _ _ _ _ hi];by_cases e:j=i
  .subst e;rw[if_pos rfl,if_neg (Ne.symm hjk)];exact T.nd _ k hi hk hjk
  .rw[if_neg e];by_cases e2:k=i
   .subst e2;rw[if_pos rfl];exact T.nd j _ hj hi hjk
   grind[nd]
 no:=fun j hj=>by
  rw[Y5]at hj;rw[jM _ _ _ _ _ hi];split
  .exact T.no i hi
  grind[no]
 ln:=fun j hj=>by
  rw[Y5]at hj;rw[jM _ _ _ _ _ hi];split
  .exact hr
  grind[ln]
 so:=T.so
 sb:=fun j hj=>by
  rw[Y5]at hj;rw[jM _ _ _ _ _ hi];split
  .exact T.sb i hi
  .exact T.sb j hj
 u:=xm T.u rfl
 bl:=by rw[Y5];exact T.bl
 ow:=fun s hs hl=>by
  rw[Y5]at hl;have:(nR m i).s<b:=T.sb i hi;rw[List.getElem?_set_ne aa];grind[ow]
 fr:=fun s hs hne=>by
  have hall:∀j,j<m.length->(nth RwL.z m j).s≠s:=fun j hj=>by
   have:=hne j (by grind);rw[jM _ _ _ _ _ hi]at this;by_cases e:j=i
   .subst e;rw[if_pos rfl]at this;exact this
   grind
  grind[fr]
theorem agQ(ho:h[so]?=some (eo,.vars cs))(hn:cs.length=n)(hi:i<n)(R:RwL):st h 1 (ouP so eo n i) R.v=some (h.set so (eo,.vars (cs.set i R.v))):=by
 have hg:ax h so eo=.vars cs:=by simp[ax,ho]
 simp only[ouP,RwL.v,st,if_true,sto,hg];rw[if_pos ⟨hn.symm,by grind,rfl⟩]
 have e:cs.set i (V.ref R.s R.e R.pre.length R.r.length R.cap R.tot)=cs.take i++[V.ref R.s R.e R.pre.length R.r.length R.cap R.tot]++cs.drop (i+1):=by
  rw[Yr,if_pos aa];simp
 rw[e];rfl
theorem md{k:Nat}(hi:i<m.length)(hj:j<m.length)(hk:k<m.length):∃k',k'<m.length∧nth RwL.z (k8 RwL.z m i j) k=nth RwL.z m k'∧k'=(if k=j then i else if k=i then j else k):=by
 refine⟨_,?_,?_,rfl⟩
 .grind
 .unfold k8;rw[jM _ _ _ _ _ (by grind)];split
  .rfl
  grind[jM]
theorem Tr.swap(T:Tr b gh h so eo L m)(hi:i<m.length)(hj:j<m.length):Tr b gh (h.set so (eo, .vars ((k8 RwL.z m i j).map RwL.v))) so eo L (k8 RwL.z m i j) where
  o:=List.getElem?_set_self (List.getElem?_eq_some_iff.1 T.o).1
  r :=fun k hk=>by
    rw[fh]at hk;obtain⟨k',h1,h2,_⟩:=md hi hj hk
    grind[no,r]
  nd :=fun k l hk hl hkl=>by
    rw[fh]at hk hl;obtain⟨k',h1,h2,h3⟩:=md hi hj hk;obtain⟨l',h4,h5,h6⟩:=md hi hj hl;rw[h2,h5];refine T.nd k' l' h1 h4 ?_;rw[h3,h6]
    repeat' split
    all_goals omega
  no :=fun k hk=>by
    rw[fh]at hk;obtain⟨k',h1,h2,_⟩:=md hi hj hk
    grind[no]
  ln :=fun k hk=>by
    rw[fh]at hk;obtain⟨k',h1,h2,_⟩:=md hi hj hk
    grind[ln]
  so:=T.so
  sb :=fun k hk=>by
    rw[fh]at hk;obtain⟨k',h1,h2,_⟩:=md hi hj hk;rw[h2];exact T.sb k' h1
  u :=by
    refine xm T.u ?_
    have hv:∀l:List RwL,(∀R∈l,R.s<b)->ji b (l.map RwL.v)=true:=by
      intro l hl
      induction l with
      |nil=>rfl
      | cons R l ih=>
        simp only[Zv,ji,ih (fun x hx=>hl x (by grind)),Ya];have:=hl R ae
        grind[RwL.v,under,Wu]
    refine hv _ fun R hR=> ?_
    obtain⟨k,hk,rfl⟩:=Zd.1 hR;have hk':k<m.length:=by simpa[k8]using hk
    obtain⟨k',h1,h2,_⟩:=md hi hj hk';rw[<-cF RwL.z _ _ hk,h2];exact T.sb k' h1
  bl:=by rw[Y5];exact T.bl
  ow :=fun s hs hl=>by
    rw[Y5]at hl;have:=T.so;rw[List.getElem?_set_ne aa];grind[ow]
  fr :=fun s hs hne=>by
    have hall:∀k,k<m.length->(nth RwL.z m k).s≠s:=fun k hk=>by
      obtain⟨k',h1,h2,h3⟩:=md (k:=if k=j then i else if k=i then j else k) hi hj (by split<;>(try split)<;>omega)
      have e : k' = k := by rw[h3];repeat' split
                            all_goals omega
      have:=hne _ (by rw[fh];show(if k=j then i else if k=i then j else k)<m.length;split<;>(try split)<;>omega)
      grind
    grind[fr]
theorem Ut(hi:i<m.length)(hj:j<m.length):(((m.map RwL.v).set i (nR m j).v).set j (nR m i).v)=(k8 RwL.z m i j).map RwL.v:=by simp[k8,Wy]
theorem Ms{b:Nat}:Big.cmp a b<0↔a<b:=by unfold Big.cmp;split<;>(try split)<;>omega
theorem tF(z:Int):itoa z=[48]↔z=0:=by have e:[48]=itoa 0:=az;rw[e];exact⟨fun h=>zC h,fun h=>by rw[h]⟩
theorem aaS{Bd:Nat}(bd:∀i,i<m.length->bdE Bd (nR m i).r)(hB:Bd<=100000)(hi:i<m.length)(c:Nat):ndg (fw m i c).natAbs<=100001:=wO hB (Aj (bd i hi) c)
variable{Bd c:Nat}
theorem Q5(T:Tr b gh h so eo L m)(hc:c<L)(hB:Bd<=100000)(bd:∀i,i<m.length->bdE Bd (nR m i).r)(hm:m.length<1000000)(h0:Hp)(hh:h0.length=h.length)(K:KL) :
  ∀(r i:Nat)(a:Int),i+r=m.length->a<i->-1<=a->K (.exit 4) [I (atG RwL.z RwL.r c m r i a)] h ->
  lp (gz (CX Y) b (ouV so eo m.length) (I c)) [] h0 [I a,I i] h K
 | 0,i,a,hr,h1,h2,hK=>by
  refine ak ?_;have hlt:¬((i:Int)<(m.length:Int)):=aa;have l1:aY (ouV so eo m.length)=some (I m.length):=rfl;simp only[gz];simp[l1,hlt];exact hK
 | r+1,i,a,hr,h1,h2,hK=>by
  refine ak ?_;have hlt:((i:Int)<(m.length:Int)):=aa;have l1:aY (ouV so eo m.length)=some (I m.length):=rfl;have hi:i<m.length:=aa;have i1:=T.ix hi;have i2:=T.ld hi;have i3:=T.ix2 hi hc;have i4:=T.ld2 hi hc;simp only[gz]
  have ih:=fun a' (h1:a'<((i+1:Nat):Int)) (h2 : -1<=a') (hk:K (.exit 4) [I (atG RwL.z RwL.r c m r (i+1) a')] h)=>Q5 T hc hB bd hm h0 hh K r (i+1) a' aa h1 h2 hk
  simp only[atG]at hK;have e1:((i+1:Nat):Int)=(i:Int)+1:=aa
  have fin:∀a':Int,a'<((i+1:Nat):Int)->-1<=a'->K (.exit 4) [I (atG RwL.z RwL.r c m r (i+1) a')] h ->
    rl (lp (gz (CX Y) b (ouV so eo m.length) (I c)) [] h0 [I a',.d (.int .i64 ((i:Int)+1))] h) K .mk:=fun a' x1 x2 hk=>by
   simp_all
  by_cases e0:fw m i c=0
  .have t0:=(tF (fw m i c)).2 e0;rw[if_neg (fun h=>h.1 e0)]at hK;simp[l1,hlt];refine aJ ?_;simp[i1,i2,i3,i4,t0];refine aJ ?_;simp(disch:=try exact ac);exact fin a aa h2 hK
  .have t0:¬itoa (fw m i c)=[48]:=fun h=>e0 ((tF _).1 h)
   by_cases a0:a<0
   .rw[if_pos ⟨e0,.inl a0⟩]at hK;simp[l1,hlt];refine aJ ?_;simp[i1,i2,i3,i4,t0,a0];refine aJ ?_;simp(disch:=try exact ac);exact fin i aa aa hK
   .obtain⟨n,rfl⟩:∃n:Nat,a=n:=⟨a.toNat,aa⟩;have hn:n<m.length:=aa;have j1:=T.ix hn;have j2:=T.ld hn;have j3:=T.ix2 hn hc;have j4:=T.ld2 hn hc;simp[l1,hlt];refine aJ ?_;simp[i1,i2,i3,i4,t0,a0];refine cd (Al _) ?_;simp[j1,j2,j3,j4];refine cd (Al _) ?_;simp;refine cd (DT (by have:=aaS bd hB hi c;omega) (by have:=aaS bd hB hn c;omega)) ?_
    have et:((n:Int)).toNat=n:=aa;rw[et]at hK;by_cases hl:(fw m i c).natAbs<(fw m n c).natAbs
    .have hcm:Big.cmp (fw m i c).natAbs (fw m n c).natAbs<0:=Ms.2 hl;rw[if_pos ⟨e0,.inr hl⟩]at hK;simp[hcm,t0];refine aJ ?_;simp(disch:=try exact ac);exact fin i aa aa hK
    .have hcm:¬Big.cmp (fw m i c).natAbs (fw m n c).natAbs<0:=fun g=>hl (Ms.1 g)
     rw[if_neg (fun g=>g.2.elim (fun g=>by omega) hl)]at hK;simp[hcm,t0];refine aJ ?_;simp(disch:=try exact ac);exact fin n aa aa hK
theorem Q4(hc:c<L)(hB:Bd<=100000)(hL:L<1000000){o:Nat}(h0:Hp)(h00:∀s,b<=s->s<h0.length->h0[s]?=some nnQ)(K:KL) :
  ∀(r i:Nat)(rs:Bool)(m:List RwL)(h:Hp),Tr b gh h so eo L m->m.length<1000000->h0.length=h.length->o<i->i+r=m.length->bdE Bd (nR m o).r->(∀k,i<=k->k<m.length->bdE Bd (nR m k).r)->fw m o c≠0 ->
  (∀h',Tr b gh h' so eo L (kz RwL.z RwL.r RwL.w c o r i rs m).2->h'.length=h.length->K (.exit 6) [B (kz RwL.z RwL.r RwL.w c o r i rs m).1] h') ->
  lp (jz (CX Y) b (ouV so eo m.length) (I o) (I c)) [b+0] h0 [B rs,I i] h K
 | 0,i,rs,m,h,T,hm,hh,ho,hr,b1,b2,hz,hK=>by
  refine ak ?_;have hlt:¬((i:Int)<(m.length:Int)):=aa;have l1:aY (ouV so eo m.length)=some (I m.length):=rfl;simp only[jz];simp[l1,hlt];exact hK h T rfl
 | r+1,i,rs,m,h,T,hm,hh,ho,hr,b1,b2,hz,hK=>by
  refine ak ?_;have hlt:((i:Int)<(m.length:Int)):=aa;have l1:aY (ouV so eo m.length)=some (I m.length):=rfl;have hi:i<m.length:=aa;have hoo:o<m.length:=aa;have i1:=T.ix hi;have i2:=T.ld hi;have i3:=T.ix2 hi hc;have i4:=T.ld2 hi hc;have j1:=T.ix hoo;have j2:=T.ld hoo;have j3:=T.ix2 hoo hc;have j4:=T.ld2 hoo hc;have n1:=wO hB (Aj (b2 i (Z8 _) hi) c)
  have n2:=wO hB (Aj b1 c);simp only[jz];simp[l1,hlt,i1,i2,i3,i4,j1,j2,j3,j4];refine cd (KC (z:=fw m i c) (w:=fw m o c) hz (by have:ndg (fw m i c).natAbs<=_:=n1;omega) (by have:ndg (fw m o c).natAbs<=_:=n2;omega)) ?_;simp[i1,i2,j1,j2];have nio:o≠i:=aa;have el:(nR m i).r.length=(nR m o).r.length:=by rw[T.ln i hi,T.ln o hoo]
  have T2:Tr b gh (h.set (nR m i).s ((nR m i).w (qz ((fw m i c).fdiv (fw m o c)) (nR m i).r (nR m o).r)).k) so eo L (iU RwL.z RwL.r RwL.w c o m i):=T.row hi (by rw[Er _ _ _ el,T.ln i hi]);have q1:ndg ((fw m i c).fdiv (fw m o c)).natAbs<=100002:=Zz (cJ (MM _ _ hz)) (Zz n1 aa)
  refine gL (Mj hB (T.r o hoo) (T.r i hi) (T.nd i o hi hoo (Ne.symm nio)) q1 b1 (b2 i (Z8 _) hi) el (by grind[Tr.ln]) T.hu) ?_ ae;have e1:((i+1:Nat):Int)=(i:Int)+1:=aa;have hlen:(h.set (nR m i).s ((nR m i).w (qz ((fw m i c).fdiv (fw m o c)) (nR m i).r (nR m o).r)).k).length=h.length:=Y5
  generalize h.set (nR m i).s ((nR m i).w (qz ((fw m i c).fdiv (fw m o c)) (nR m i).r (nR m o).r)).k=h1 at *;have no:nR (iU RwL.z RwL.r RwL.w c o m i) o=nR m o:=by unfold nR iU;rw[jM _ _ _ _ _ hi,if_neg nio]
  have tl:(iU RwL.z RwL.r RwL.w c o m i).length=m.length:=mc ..
  have eo':fw (iU RwL.z RwL.r RwL.w c o m i) o c=fw m o c:=by
   show nth 0 (nR (iU RwL.z RwL.r RwL.w c o m i) o).r c=_
   rw[no];rfl
  have cl:∀x:Bool,clean [b] [B x,I ((i:Int)+1)] h1=true:=fun x=>by
   simp only[clean,Z7];exact⟨rfl,uw ae T2.u 0⟩
  have rs1:aO [b] 0 h0 h1=h1:=tN (b:=b) ae 0 h0 h1 aa fun s h1' h2'=>⟨T2.ow s aa h2',h00 s aa aa⟩
  have ih:=fun rs' (hk:∀h',Tr b gh h' so eo L (kz RwL.z RwL.r RwL.w c o r (i+1) rs' (iU RwL.z RwL.r RwL.w c o m i)).2->h'.length=h.length->K (.exit 6) [B (kz RwL.z RwL.r RwL.w c o r (i+1) rs' (iU RwL.z RwL.r RwL.w c o m i)).1] h')=>
   Q4 hc hB hL h0 h00 K r (i+1) rs' (iU RwL.z RwL.r RwL.w c o m i) h1 T2 aa aa aa aa (by grind)
    (fun k k1 k2=>by
     rw[tl]at k2;have:nR (iU RwL.z RwL.r RwL.w c o m i) k=nR m k:=by unfold nR iU;rw[jM _ _ _ _ _ hi,if_neg aa]
     rw[this];exact b2 k aa k2) aa (fun h' t1 t2=>hk h' t1 aa)
  rw[tl,e1]at ih;simp only[kz]at hK;cases rs with
  | true=>
   simp(disch:=try exact ac)[cl,rs1]
   simp_all
  | false=>
   by_cases hf:(fw m i c).fmod (fw m o c)=0
   .have t0:=(tF ((fw m i c).fmod (fw m o c))).2 hf;simp(disch:=try exact ac)[cl,rs1,t0]
    simp_all
   .have t0:¬itoa ((fw m i c).fmod (fw m o c))=[48]:=fun h=>hf ((tF _).1 h)
    have t1:(itoa ((fw m i c).fmod (fw m o c)) == [48])=false:=by simpa using t0
    simp(disch:=try exact ac)[cl,rs1,t1]
    simp_all
theorem Q3(hc:c<L)(hB:Bd<=100000)(hL:L<1000000){o:Nat}(h0:Hp)(h00:∀s,b<=s->s<h0.length->h0[s]?=some nnQ)(K:KL) :
  ∀(r i:Nat)(m:List RwL)(h:Hp),Tr b gh h so eo L m->m.length<1000000->h0.length=h.length->o<m.length->i+r=o->bdE Bd (nR m o).r->(∀k,i<=k->k<o->bdE Bd (nR m k).r)->fw m o c≠0 ->
  (∀h',Tr b gh h' so eo L (upG RwL.z RwL.r RwL.w c o r i m)->h'.length=h.length->K (.exit 8) [] h') ->
  lp (gy (CX Y) b (ouV so eo m.length) (I o) (I c) (I o)) [b+2] h0 [I i] h K
 | 0,i,m,h,T,hm,hh,ho,hr,b1,b2,hz,hK=>by
  refine ak ?_;have hlt:¬((i:Int)<(o:Int)):=aa;simp only[gy];simp[hlt];exact hK h T rfl
 | r+1,i,m,h,T,hm,hh,hoo,hr,b1,b2,hz,hK=>by
  refine ak ?_;have hlt:((i:Int)<(o:Int)):=aa;have hi:i<m.length:=aa;have i1:=T.ix hi;have i2:=T.ld hi;have i3:=T.ix2 hi hc;have i4:=T.ld2 hi hc;have j1:=T.ix hoo;have j2:=T.ld hoo;have j3:=T.ix2 hoo hc;have j4:=T.ld2 hoo hc;have n1:=wO hB (Aj (b2 i (Z8 _) aa) c);have n2:=wO hB (Aj b1 c);simp only[gy]
  simp[hlt,i1,i2,i3,i4,j1,j2,j3,j4];refine cd (KC (z:=fw m i c) (w:=fw m o c) hz (by have:ndg (fw m i c).natAbs<=_:=n1;omega) (by have:ndg (fw m o c).natAbs<=_:=n2;omega)) ?_;simp[i1,i2,j1,j2];have nio:o≠i:=aa;have el:(nR m i).r.length=(nR m o).r.length:=by rw[T.ln i hi,T.ln o hoo]
  have T2:Tr b gh (h.set (nR m i).s ((nR m i).w (qz ((fw m i c).fdiv (fw m o c)) (nR m i).r (nR m o).r)).k) so eo L (iU RwL.z RwL.r RwL.w c o m i):=T.row hi (by rw[Er _ _ _ el,T.ln i hi]);have q1:ndg ((fw m i c).fdiv (fw m o c)).natAbs<=100002:=Zz (cJ (MM _ _ hz)) (Zz n1 aa)
  refine gL (Mj hB (T.r o hoo) (T.r i hi) (T.nd i o hi hoo (Ne.symm nio)) q1 b1 (b2 i (Z8 _) aa) el (by rw[T.ln i hi];exact hL) T.hu) ?_ (by intro _ _ _ _ _ h;cases h);have e1:((i+1:Nat):Int)=(i:Int)+1:=aa;have hlen:(h.set (nR m i).s ((nR m i).w (qz ((fw m i c).fdiv (fw m o c)) (nR m i).r (nR m o).r)).k).length=h.length:=Y5
  generalize h.set (nR m i).s ((nR m i).w (qz ((fw m i c).fdiv (fw m o c)) (nR m i).r (nR m o).r)).k=h1 at *;have no:nR (iU RwL.z RwL.r RwL.w c o m i) o=nR m o:=by unfold nR iU;rw[jM _ _ _ _ _ hi,if_neg nio]
  have tl:(iU RwL.z RwL.r RwL.w c o m i).length=m.length:=mc ..
  have eo':fw (iU RwL.z RwL.r RwL.w c o m i) o c=fw m o c:=by
   show nth 0 (nR (iU RwL.z RwL.r RwL.w c o m i) o).r c=_
   rw[no];rfl
  have cl:clean [b+2] [I ((i:Int)+1)] h1=true:=by
   simp only[clean,Z7];exact⟨rfl,uw (b:=b) ae T2.u 0⟩
  have rs1:aO [b+2] 0 h0 h1=h1:=tN (b:=b) ae 0 h0 h1 aa fun s h1' h2'=>⟨T2.ow s aa h2',h00 s aa aa⟩
  have ih:=Q3 hc hB hL h0 h00 K r (i+1) (iU RwL.z RwL.r RwL.w c o m i) h1 T2 (by rw[tl];exact hm) aa (by rw[tl];exact hoo) aa (by rw[no];exact b1)
    (fun k k1 k2=>by
     have:nR (iU RwL.z RwL.r RwL.w c o m i) k=nR m k:=by unfold nR iU;rw[jM _ _ _ _ _ hi,if_neg aa]
     rw[this];exact b2 k aa k2) (by rw[eo'];exact hz) (fun h' t1 t2=>by simp only[upG]at hK;exact hK h' t1 aa)
  rw[tl,e1]at ih;simp(disch:=try exact ac)[cl,rs1];exact lo ih
theorem Mc(z:Int):(sgn z<0)↔z<0:=by unfold sgn;split<;>(try split)<;>omega
theorem aa2(c:Nat)(m:List RwL):∀(r i:Nat)(a:Int),(a<0∨fw m a.toNat c≠0)->(atG RwL.z RwL.r c m r i a<0∨fw m (atG RwL.z RwL.r c m r i a).toNat c≠0)
 |0,_,_,h=>h
 | r+1,i,a,h=>by
  simp only[atG];refine aa2 c m r (i+1) _ ?_
  grind
theorem D8(c o:Nat):∀(r i:Nat)(x:Bool)(m:List RwL)(k:Nat),k<i->i+r<=m.length->nR (kz RwL.z RwL.r RwL.w c o r i x m).2 k=nR m k
 |0,_,_,_,_,_,_=>rfl
 | r+1,i,x,m,k,hk,hl=>by
  simp only[kz];rw[D8 c o r (i+1) _ _ k aa (by grind[mc])];unfold nR iU;rw[jM _ _ _ _ _ aa,if_neg aa]
theorem WM(l:LiQ)(c:Nat):nth 0 (l.map (- ·)) c = -(nth 0 l c):=by grind[nth]
theorem adn(h:bdE Bd l):bdE Bd (l.map (- ·)):=fun x hx=>by
 obtain⟨y,hy,rfl⟩:=Zy.1 hx;rw[Xw];exact h y hy
theorem ajX(ho:h[so]?=some (eo,.vars cs))(hn:cs.length=n)(hi:i<n):ixV h 1 (ouV so eo n) (I i)=some (ouP so eo n i):=by
 have hg:ax h so eo=.vars cs:=by simp[ax,ho]
 simp only[ouV,ixV,hg];rw[if_pos ⟨hn.symm,aa,aa⟩];simp[ouP]
theorem Q6(hc:c<L)(hB:Bd<=100000)(hL:L<1000000)(h0:Hp)(h00:∀s,b<=s->s<h0.length->h0[s]?=some nnQ)(K:KL) :
  ∀(f o:Nat)(m:List RwL)(h:Hp)(o':Nat)(m':List RwL),Tr b gh h so eo L m->m.length<1000000->h0.length=h.length->o<m.length->kC RwL.z RwL.r RwL.w Bd c f o m=some (o',m') ->
  (∀h',Tr b gh h' so eo L m'->h'.length=h.length->K (.exit 2) [I o'] h') ->
  lp (mz (CX Y) b (ouV so eo m.length) (I c)) [b+0,b+1,b+2] h0 [I o] h K
 |0,o,m,h,o',m',T,hm,hh,ho,hf,hK=>by trivial
 | f+1,o,m,h,o',m',T,hm,hh,ho,hf,hK=>by
  refine ak ?_;simp only[kC]at hf;split at hf
  case isFalse=>cases hf
  rename_i hbd
  have bd:∀i,i<m.length->bdE Bd (nR m i).r:=fun i hi x hx=>by
   have h1:=Z2.1 hbd (nR m i) (by grind[cF]);have h2:=Z2.1 h1 x hx
   grind
  obtain⟨a,ha⟩:=nmQ (atG RwL.z RwL.r c m (m.length-o) o (-1));have ha2:=O9 (d:=RwL.z) (g:=RwL.r) c m (m.length-o) o (-1) aa aa;rw[<-ha]at hf ha2;simp only[mz];simp;refine lo (Q5 T hc hB bd hm h rfl _ (m.length-o) o (-1) aa aa aa ?_);rw[<-ha];by_cases a0:a<0
  .rw[if_pos a0]at hf;cases hf;simp[a0]
   grind
  .rw[if_neg a0]at hf;obtain⟨n,rfl⟩:∃n:Nat,a=n:=⟨a.toNat,aa⟩;rw[show((n:Int)).toNat=n by omega]at hf;have hn:n<m.length:=aa;have i1:=T.ix hn;have i2:=T.ld hn;have j1:=T.ix ho;have j2:=T.ld ho;have s1:=agQ (h:=h) T.o ae ho (nR m n);have hso:so<h.length:=(List.getElem?_eq_some_iff.1 T.o).1
   have g1:(h.set so (eo,.vars ((m.map RwL.v).set o (nR m n).v)))[so]?=some (eo,.vars ((m.map RwL.v).set o (nR m n).v)):=List.getElem?_set_self hso;have x1:=ajX g1 (n:=m.length) ae hn;have s2:=agQ g1 (n:=m.length) ae hn (nR m o);rw[List.set_set,Ut ho hn]at s2;have T1:=T.swap ho hn;simp(disch:=try exact ac)[a0,i1,i2,j1,j2,s1,x1,s2]
   obtain⟨H2,hH2⟩:=nmQ (h.set so (eo,.vars ((k8 RwL.z m o n).map RwL.v)));have lH2:H2.length=h.length:=by rw[hH2];exact Y5
   rw[<-hH2]at T1 ⊢;have sl:(k8 RwL.z m o n).length=m.length:=fh ..
   have bd1:∀k,k<m.length->bdE Bd (nR (k8 RwL.z m o n) k).r:=fun k hk=>by
    obtain⟨k',h1,h2,_⟩:=md ho hn hk
    grind
   have z1:fw (k8 RwL.z m o n) o c=fw m n c:=by
    obtain⟨k',h1,h2,h3⟩:=md ho hn ho;have:k'=n:=by rw[h3];split<;>simp_all
    show nth 0 (nth RwL.z (k8 RwL.z m o n) o).r c=_
    rw[h2,this];rfl
   have nz:fw m n c≠0:=by
    have:=aa2 c m (m.length-o) o (-1) (.inl aa);rw[<-ha]at this;rcases this with g|g
    .omega
    .trivial
   obtain⟨s,hs⟩:=nmQ (kz RwL.z RwL.r RwL.w c o (m.length-(o+1)) (o+1) false (k8 RwL.z m o n));rw[<-hs]at hf;have ls:s.2.length=m.length:=by rw[hs,ly,sl]
   have ks:∀k,k<=o->nR s.2 k=nR (k8 RwL.z m o n) k:=fun k hk=>by rw[hs];exact D8 c o _ _ _ _ k aa aa
   have e1:((o+1:Nat):Int)=(o:Int)+1:=aa;have hl3:=fun K=>Q4 (o:=o) hc hB hL H2 T1.ow K (m.length-(o+1)) (o+1) false (k8 RwL.z m o n) H2 T1 aa rfl aa aa (bd1 o ho) (fun k _ k2=>bd1 k aa) aa
   rw[<-hs,sl,e1]at hl3;refine lo (hl3 _ fun h' T2 t2=>?_)
   have cl:∀(x:Int)(h'':Hp)(m2:List RwL),Tr b gh h'' so eo L m2->clean [b,b+1,b+2] [I x] h''=true:=fun x h'' m2 T=>by
    simp only[clean,Z7];exact⟨rfl,uw (b:=b) ae T.u 0⟩
   have rs1:aO [b,b+1,b+2] 0 h0 h'=h':=tN (b:=b) ae 0 h0 h' aa fun s h1' h2'=>⟨T2.ow s aa h2',h00 s aa aa⟩
   by_cases hr:s.1=true
   .rw[if_pos hr]at hf;have ih:=Q6 hc hB hL h0 h00 K f o s.2 h' o' m' T2 aa aa aa hf (fun h3 a1 a2=>hK h3 a1 aa);rw[ls]at ih;simp[hr,cl _ h' s.2 T2,rs1];trivial
   .have hr2:s.1=false:=by simpa using hr
    rw[if_neg hr]at hf;have T2':=T2;have hos:o<s.2.length:=aa;have i1':=T2.ix hos;have i2':=T2.ld hos;have i3':=T2.ix2 hos hc;have i4':=T2.ld2 hos hc;rw[ls]at i1' i2';have bds:∀k,k<=o->bdE Bd (nR s.2 k).r:=fun k hk=>by rw[ks k hk];exact bd1 k aa
    have zs:fw s.2 o c≠0:=by
     show nth 0 (nR s.2 o).r c≠0
     rw[ks o (Z8 _)];have:nth 0 (nR (k8 RwL.z m o n) o).r c=fw m n c:=z1;rw[this];exact nz
    have tail:∀(m3:List RwL)(h3:Hp),Tr b gh h3 so eo L m3->h3.length=h.length->m3.length=m.length->(∀k,k<=o->bdE Bd (nR m3 k).r)->fw m3 o c≠0->upG RwL.z RwL.r RwL.w c o o 0 m3=m'->(o:Int)+1=(o':Int) ->
      lp (gy (CX Y) b (ouV so eo m.length) (I o) (I c) (I o)) [b+2] h3 [.d (.int .i64 0)] h3 (exK [((.exit 8),fun l21 h=>
       bnd (biI .add (I o) (.d (.int .i64 1))) fun v22=>
       K (.exit 2) [v22] h)]):=by
     intro m3 h3 T3 l3 lm b3 z3 hu ho'
     have q:=Q3 (o:=o) hc hB hL h3 T3.ow (exK [((.exit 8),fun l21 h=>
       bnd (biI .add (I o) (.d (.int .i64 1))) fun v22=>
       K (.exit 2) [v22] h)]) o 0 m3 h3 T3 aa rfl aa aa (b3 o (Z8 _)) (fun k _ k2=>b3 k aa) z3 (fun h4 T4 t4=>by
        rw[hu]at T4;simp(disch:=try exact ac);rw[ho'];exact hK h4 T4 aa)
     rw[lm]at q;exact q
    cases hf;simp[hr2,i1',i2',i3',i4'];refine cd (mT _) ?_;by_cases hneg:fw s.2 o c<0
    .have sg1:=(Mc (fw s.2 o c)).2 hneg;simp[sg1];refine aJ ?_;simp[i1',i2'];refine gL (Ow hB (T2.r o hos) (bds o (Z8 _)) (by grind[Tr.ln]) T2.hu) ?_ ae;simp;have T3:=T2.row hos (r:=(nR s.2 o).r.map (- ·)) (by grind[Tr.ln]);have eN:Bb RwL.z RwL.r RwL.w c o s.2=s.2.set o ((nR s.2 o).w ((nR s.2 o).r.map (- ·))):=by unfold Bb;rw[if_pos hneg]
     refine lo (tail _ _ T3 (by grind) (by grind) (fun k hk=>?_) ?_ (by rw[eN]) e1.symm)
     .unfold nR;rw[jM _ _ _ _ _ hos];split
      .exact adn (bds o (Z8 _))
      grind
     ·have:fw (s.2.set o ((nR s.2 o).w ((nR s.2 o).r.map (- ·)))) o c = -(fw s.2 o c):=by
       show nth 0 (nth RwL.z _ o).r c=_
       rw[jM _ _ _ _ _ hos,if_pos rfl];exact WM _ _
      omega
    .have sg1:¬sgn (fw s.2 o c)<0:=fun g=>hneg ((Mc _).1 g)
     simp[sg1];refine aJ ?_;simp;have eN:Bb RwL.z RwL.r RwL.w c o s.2=s.2:=by unfold Bb;rw[if_neg hneg]
     exact lo (tail s.2 h' T2 aa ls bds zs (by rw[eN]) e1.symm)
variable{b so eo L:Nat}{gh:Hp}{Bd c:Nat}
theorem AP(c:Nat):∀(f o:Nat)(m:List RwL)(o':Nat)(m':List RwL),o<m.length->kC RwL.z RwL.r RwL.w Bd c f o m=some (o',m')->o'<=m.length∧m'.length=m.length
 |0,o,m,o',m',ho,hf=>by trivial
 | f+1,o,m,o',m',ho,hf=>by
  simp only[kC]at hf;split at hf
  case isFalse=>cases hf
  split at hf
  .cases hf;exact⟨aa,rfl⟩
  .split at hf
   .have:=AP c f o _ o' m' (by grind[ly,fh]) hf
    grind[ly,fh]
   .cases hf;exact⟨aa,by rw[Pn,ze,ly,fh]⟩
theorem Q7{cols f:Nat}(hB:Bd<=100000)(hL:L<1000000)(hcl:cols<=L)(h0:Hp)(h00:∀s,b<=s->s<h0.length->h0[s]?=some nnQ)(K:KL) :
  ∀(r c o:Nat)(m:List RwL)(h:Hp)(o':Nat)(m':List RwL),Tr b gh h so eo L m->m.length<1000000->h0.length=h.length->o<=m.length->c+r=cols->oQ RwL.z RwL.r RwL.w Bd f r c o m=some (o',m') ->
  (∀h',Tr b gh h' so eo L m'->h'.length=h.length->o'<=m'.length->m'.length=m.length->K (.exit 0) [I o'] h') ->
  lp (gA (CX Y) b (ouV so eo m.length) (I cols)) [b+0,b+1,b+2] h0 [I o,I c] h K
 | 0,c,o,m,h,o',m',T,hm,hh,ho,hc,hf,hK=>by
  refine ak ?_;simp only[oQ]at hf;cases hf;have hlt:¬((c:Int)<(cols:Int)):=aa;simp only[gA];simp[hlt]
  grind
 | r+1,c,o,m,h,o',m',T,hm,hh,ho,hc,hf,hK=>by
  refine ak ?_;simp only[oQ]at hf;have hlt:((c:Int)<(cols:Int)):=aa;have l1:aY (ouV so eo m.length)=some (I m.length):=rfl;simp only[gA];by_cases hom:o<m.length
  .rw[if_pos hom]at hf;have hom2:((o:Int)<(m.length:Int)):=aa;cases hr:kC RwL.z RwL.r RwL.w Bd c f o m with
   |none=>grind
   | some q=>
    obtain⟨o1,m1⟩:=q;rw[hr]at hf;simp only at hf;obtain⟨r1,r2⟩:=AP c f o m o1 m1 hom hr;simp[hlt,l1,hom2];refine lo (Q6 (c:=c) aa hB hL h T.ow _ f o m h o1 m1 T hm rfl hom hr fun h' T1 t1=>?_)
    have cl:clean [b,b+1,b+2] [I (o1:Int),I ((c:Int)+1)] h'=true:=by
     simp only[clean,Z7];exact⟨rfl,uw (b:=b) ae T1.u 0⟩
    have rs1:aO [b,b+1,b+2] 0 h0 h'=h':=tN (b:=b) ae 0 h0 h' aa fun s h1' h2'=>⟨T1.ow s aa h2',h00 s aa aa⟩
    have ih:=Q7 hB hL hcl h0 h00 K r (c+1) o1 m1 h' o' m' T1 aa aa aa aa hf (fun h2 a1 a2 a3 a4=>hK h2 a1 aa a3 aa);have e1:((c+1:Nat):Int)=(c:Int)+1:=aa;rw[r2,e1]at ih;simp(disch:=try exact ac)[cl,rs1];trivial
  .rw[if_neg hom]at hf;cases hf;have hom2:¬((o:Int)<(m.length:Int)):=aa;simp[hlt,l1,hom2]
   grind
theorem Tr.eq{b so eo L:Nat}{gh h1 h2:Hp}{m:List RwL}(T1:Tr b gh h1 so eo L m)(T2:Tr b gh h2 so eo L m):h1=h2:=by
 apply X8;intro i;by_cases e:i=so
 .subst e;rw[T1.o,T2.o]
 .by_cases e2:∃k,k<m.length∧(nth RwL.z m k).s=i
  .grind[r]
  .have hn:∀k,k<m.length->(nth RwL.z m k).s≠i:=fun k hk he=>e2 ⟨k,hk,he⟩
   rw[T1.fr i e hn,T2.fr i e hn]
theorem Tr.app{b so eo L:Nat}{gh h:Hp}{m:List RwL}(T:Tr b gh h so eo L m)(hb:h.length=b)(hg:gh.length=b)(n:Nat):Tr b (gh++List.replicate n nnQ) (h++List.replicate n nnQ) so eo L m where
 o:=by rw[List.getElem?_append_left (by have:=T.so;omega)];exact T.o
 r:=fun i hi=>by rw[List.getElem?_append_left (by have:=T.sb i hi;omega)];grind[r]
 nd:=T.nd
 no:=T.no
 ln:=T.ln
 fr:=fun s hs hn=>by
  by_cases hlt:s<b
  .rw[List.getElem?_append_left aa,List.getElem?_append_left aa];grind[fr]
  .rw[List.getElem?_append_right aa,List.getElem?_append_right aa,hb,hg]
 so:=T.so
 sb:=T.sb
 u:=by
  grind[u,aB]
 bl:=by grind
 ow:=fun s hs hl=>by
  rw[List.getElem?_append_right aa,List.getElem?_replicate,if_pos (by grind)]
theorem ag8{h:Hp}{so eo k:Nat}(hg:h[so]?=some (eo,.vars cs))(hc:cs.length=n)(hk:k<=n):slV h 1 (ouV so eo n) none (some (I k))=some (.ref so eo 0 k n n):=by
 have g:ax h so eo=.vars cs:=by simp[ax,hg]
 simp only[ouV,slV,g,boV];rw[if_pos ⟨aa,aa⟩]
 grind
theorem E4{h h':Hp}{so eo L cols f o':Nat}{m m':List RwL}{Bd:Nat}(hB:Bd<=100000)(hL:L<1000000)(hm:m.length<1000000)(hcl:cols<=L)(T:Tr h.length h h so eo L m)
  (hf:FD RwL.z RwL.r RwL.w Bd f cols m=some (o',m')) (T':Tr h.length h h' so eo L m') (hl:h'.length=h.length) :
  CI Y F.bZ [ouV so eo m.length,I cols] h (.ref so eo 0 o' m.length m.length) h':=by
 refine qh ?_;simp only[bZ];simp;have T0:=T.app rfl rfl 3;refine lo (Q7 hB hL hcl (h++List.replicate 3 nnQ) T0.ow _ cols 0 0 m _ o' m' T0 hm rfl aa aa hf fun H TH lH ho hlm=>?_);have e:=TH.eq (T'.app hl rfl 3);subst e;have sl:=ag8 (k:=o') TH.o (n:=m.length) (by grind) aa
 have sl':slV (h'++[(0,Bk.none),(0,Bk.none),(0,Bk.none)]) 1 (ouV so eo m.length) none (some (I o'))=some (.ref so eo 0 o' m.length m.length):=sl;simp[sl'];refine⟨by rw[X3 hl],T'.u,.inl ⟨rfl,?_⟩⟩
 grind[under,Wu,Tr.so]
theorem aee{s s' e i cap tot by_:Nat}{old:LdQ}{ex:Bool}{x:D}{h:Hp}{q:kkQ}{u:PU q}(hg:h[s']?=some (e,.data 1 old ex false))(hi:i<cap)(hc:cap<=old.length)(ht:tot=old.length)
  (hq:q (.ref s' e 0 (i+1) cap tot) (h.set s' (e,.data 1 (old.set i x) ex false))):rh (apV false s 1 by_ (.ref s' e 0 i cap tot) (.d (.sl 1 [x])) h) q u:=by
 subst ht;have g:ax h s' e=.data 1 old ex false:=by simp[ax,hg]
 show apV false s 1 by_ _ _ h q
 simp only[apV,cellsOf];rw[if_pos ae];unfold apC;rw[if_neg af];simp only[g];rw[if_pos ⟨trivial,trivial,aa,aa,ae⟩,if_pos aa];simp only[Bool.or_self,Y9,if_false,bL];have e1:old.set i x=old.take i++x::old.drop (i+1):=by rw[Yr,if_pos aa]
 grind
structure Rd(h:Hp)(x:V)(r:LiQ):Prop where
 n:aY x=some (I r.length)
 g:∀(t:Hp)(j:Nat),j<r.length->∃p,ixV (h++t) 1 x (I j)=some p∧ld1 (h++t) p=some (I (nth 0 r j))
theorem Rd.data(h:Hp)(r:LiQ):Rd h (lst di r) r where
 n:=by rfl
 g:=fun t j hj=>⟨_,nQ di r _ (i:=(j:Int)) aa aa,by
  simp_all⟩
def lgB(r:LiQ)(n i:Nat):Nat×Bk:=(1,.data 1 ((r.take i).map sI++List.replicate (n-i) (.str [])) true false)
theorem acl(hi:i<r.length):((r.take i).map sI++List.replicate (r.length-i) (D.str [])).set i (sI (nth 0 r i))=(r.take (i+1)).map sI++List.replicate (r.length-(i+1)) (.str []):=by
 have e1:List.replicate (r.length-i) (D.str [])=.str []::List.replicate (r.length-(i+1)) (.str []):=by
  rw[<-List.replicate_succ];congr 1;omega
 have e2:r.take (i+1)=r.take i++[nth 0 r i]:=by rw[List.take_succ_eq_append_getElem hi,cF _ _ _ hi]
 have hl:((r.take i).map sI).length=i:=by simp;omega
 rw[e1,e2,Yy _ _ aa,hl,Za];simp
theorem HP{h:Hp}{x:V}{r:LiQ}(hr:Rd h x r)(hz:∀z∈r,-9223372036854775808<z∧z<9223372036854775808)(hn:r.length<1000000)(h0:Hp)(hh:h0.length=h.length+2)(K:KL) :
  ∀(k i:Nat),i+k=r.length->K (.exit 0) [.ref h.length 1 0 r.length r.length r.length] (h++[lgB r r.length r.length,nnQ]) ->
  lp (mH (CX Y) h.length x (I r.length)) [] h0 [.ref h.length 1 0 i r.length r.length,I i] (h++[lgB r r.length i,nnQ]) K
 | 0,i,hk,hK=>by
  refine ak ?_;have hlt:¬((i:Int)<(r.length:Int)):=aa;have:i=r.length:=aa;subst this;simp only[mH];simp[hlt];exact hK
 | k+1,i,hk,hK=>by
  refine ak ?_;have hlt:((i:Int)<(r.length:Int)):=aa;have hi:i<r.length:=aa;obtain⟨p,p1,p2⟩:=hr.g [lgB r r.length i,nnQ] i hi;obtain⟨z1,z2⟩:=hz (nth 0 r i) (dC hi);simp only[mH];simp[hlt,p1,p2];refine cd (kI z1 z2) ?_
  have hli:eV 1 [D.str []] [(0,S (itoa (nth 0 r i)))] (h++[lgB r r.length i,nnQ])=some ([sI (nth 0 r i)],h++[lgB r r.length i,nnQ]):=by
   simp[eV,gW,jj,toD,norm,sI]
  simp[hli];refine aee (i:=i) (e:=1) (old:=(r.take i).map sI++List.replicate (r.length-i) (.str [])) (ex:=true) (by simp[lgB]) hi (by grind) (by grind) ?_;rw[acl hi,Yy _ _ (Z8 _),Za];have e1:((i+1:Nat):Int)=(i:Int)+1:=aa;have ih:=HP hr hz hn h0 hh K k (i+1) aa hK;rw[e1]at ih
  simp(disch:=try exact ac)[List.set_cons_zero]
  simp_all[lgB]
theorem SY(n:Nat)(z:D):gW n [z]=List.replicate n z:=by
 induction n with
 |zero=>rfl
 |succ n ih=>grind[gW]
theorem Mi{s e by_ n:Nat}{b0:Bk}{z:D}{h:Hp}{k:kkQ}{u:PU k}(hs:h[s]?=some (e,b0))(hb:(by_:Int)*(n:Int)<=281474976710656)(hn:n<=1000000)
  (hk:k (.ref s (e+1) 0 0 n n) (h.set s (e+1,.data 1 (List.replicate n z) true false))):rh (mkS s by_ [z] h (I 0) (I n)) k u:=by
 show mkS s by_ [z] h (I 0) (I n) k
 simp only[mkS];rw[if_pos ⟨aa,aa,ae,hb,aa⟩]
 grind[new,SY]
theorem Bj{h:Hp}{x:V}(hr:Rd h x r)(hz:∀z∈r,-9223372036854775808<z∧z<9223372036854775808)(hn:r.length<1000000)(hu:(h.all fun x=>aB h.length x.2)=true):
  CI Y F.fK [x] h (.new 1 (r.map sI) true r.length r.length) h:=by
 refine Bn ?_;simp only[fK];have l1:=hr.n;have hn2:(16:Int)*(r.length:Int)<=281474976710656:=aa;simp[l1];refine Mi (e:=0) (b0:=.none) ae hn2 aa ?_;rw[Yy _ _ (Z8 _),Za];simp[l1]
 have lp1:=HP hr hz hn (h++[(1,Bk.data 1 (List.replicate r.length (D.str [])) true false),(0,Bk.none)]) ae (exK
      [(Exit.exit 0,fun l4 h_2=>
        nN (List.length h) (V.new 1 (List.map sI r) true r.length r.length) h (ge l4 0) h_2)]) r.length 0 aa (by
   simp;refine⟨ae,?_,.inr (.inr (.inl ⟨h.length,1,r.length,r.length,1,r.map sI,true,ae,Z8 _,by simp[ax,lgB],rfl⟩))⟩;exact hu)
 trivial
theorem T6{h:Hp}(hn:n<1000000)(hu:(h.all fun x=>aB h.length x.2)=true):
  CI Y F.jX [I n] h (.new 1 ((List.replicate n 0).map sI) true n n) h:=by
 refine Cx ?_;simp only[jX];simp(disch:=try exact ac);obtain⟨H,hH⟩:=nmQ (h++[(1,Bk.data 1 (List.replicate n (D.int IntKind.i64 0)) true false),(0,Bk.none)])
 have hg:∀t:Hp,ax (H++t) h.length 1=.data 1 (List.replicate n (D.int IntKind.i64 0)) true false:=fun t=>by
  have:(H++t)[h.length]?=some (1,Bk.data 1 (List.replicate n (D.int IntKind.i64 0)) true false):=by
   rw[hH,List.append_assoc,List.getElem?_append_right (Z8 _),Za];rfl
  grind[ax]
 have hr:Rd H (.ref h.length 1 0 n n n) (List.replicate n 0):=by
  refine⟨ae,fun t j hj=>⟨.ptr h.length 1 j n,?_,?_⟩⟩
  .rw[Y8]at hj;simp only[ixV,hg t];rw[if_pos ⟨ae,aa,aa⟩];simp
  .rw[Y8]at hj;simp only[ld1,hg t];rw[if_pos ae];have e2:nth 0 (List.replicate n (0:Int)) j=0:=by simp[nth,hj]
   grind
 have hu2:(H.all fun x=>aB H.length x.2)=true:=by
  refine tE (b:=h.length) (by grind) ?_;rw[hH,Yw,hu];simp[aB]
 have lg:=Bj hr (fun z hz=>by grind) (by grind) hu2;rw[<-hH];refine gv lg (s:=h.length+1) (e:=0) (b:=.none) (by grind) ?_;refine⟨by grind,hu,.inr (.inr (.inl ⟨h.length+1,1,n,n,1,(List.replicate n 0).map sI,true,ae,aa,?_,rfl⟩))⟩
 have:(H.set (h.length+1) (0+1,Bk.data 1 ((List.replicate n 0).map sI) true false))[h.length+1]?=some (1,Bk.data 1 ((List.replicate n 0).map sI) true false):=by
  rw[List.getElem?_set_self (by grind)]
 grind[ax]
end Go.Vm
