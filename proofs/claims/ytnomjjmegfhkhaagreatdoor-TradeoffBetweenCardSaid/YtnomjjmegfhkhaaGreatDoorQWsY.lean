/- Lemmas. -/
import Derived.Test.YtnomjjmegfhkhaaGreatDoorQDcY
set_option linter.unusedVariables false
set_option linter.unusedSimpArgs false
namespace Go.Vm
open Go Go.Am Go.Big
variable{a s d n g j i:Nat}{x:Nat×Bk}{α β:Type}{l r:LiQ}{clr:LnQ}{cs:LwQ}
theorem re{z:Int}{w:Nat}(h:sdg z<=w):z.natAbs<10^w:=by
 have:ndg z.natAbs<=w:=by unfold sdg at h;omega
 exact Z2 (cJ _) (Z3 ae this)
theorem kX{z:Int}(h1 : -9223372036854775808<z)(h2:z<9223372036854775808):CP Y F.dK [I z] (S (itoa z)):=by refine DV ?_;simp[dK];refine cd (Dt h1 h2) ?_;exact fA rfl
theorem sS{b k:Nat}(ha:ndg a<=k)(hb:ndg b<=k):ndg (a+b)<=k+1:=by have h1:a<10^k:=Z2 (cJ a) (Z3 ae ha);have h2:b<10^k:=Z2 (cJ b) (Z3 ae hb);exact dG (by rw[Nat.pow_succ];omega) aa
theorem aaA{z w:Int}(hz:ndg z.natAbs<999999)(hw:ndg w.natAbs<999999): 
  cal (CX Y).p [] (.fn F.aL [] []) [S (itoa z)] λv6 h=>
  ext v6 0 λv7=>
  ext v6 1 λv8=>
  cal (CX Y).p h (.fn F.aL [] []) [S (itoa w)] λv9 h=>
  ext v9 0 λv10=>
  ext v9 1 λv11=>
  bnd (biB .eql v7 v10) λv12=>
  cnd v12 (
   cal (CX Y).p h (.fn F.gz [] []) [v8,v11] λv13 h=>
   cal (CX Y).p h (.fn F.bW [] []) [v7,v13] λv14 h=>
   out (S (itoa (z+w))) v14 h) (
   cal (CX Y).p h (.fn F.cj [] []) [v8,v11] λv15 h=>
   bnd (biI .lss v15 (.d (.int .i64 0))) λv16=>
   jn (λl17 h=>
    cal (CX Y).p h (.fn F.ie [] []) [(ge l17 1),(ge l17 2)] λv19 h=>
    ext v19 0 λv20=>
    ext v19 1 λv21=>
    cal (CX Y).p h (.fn F.bW [] []) [(ge l17 0),v20] λv22 h=>
    out (S (itoa (z+w))) v22 h) λq18=>
    cnd v16 (
     q18 [v10,v11,v8] h) (
     q18 [v7,v8,v11] h)):=by
 simp;refine cd (oW z) ?_;simp;refine cd (oW w) ?_;have eb:biB .eql (B (decide (z<0))) (B (decide (w<0)))=some (B (decide (z<0) == decide (w<0))):=rfl;simp[eb];by_cases hs:(z<0↔w<0)
 .simp[hs];refine cd (yP (a:=z.natAbs) (b:=w.natAbs) aa aa) ?_;simp;have hk:ndg (z.natAbs+w.natAbs)<=999999:=sS aa aa;refine cd (hO (decide (z<0)) (n:=z.natAbs+w.natAbs) aa) ?_;refine fA ?_;congr 1;unfold sg;by_cases h:z<0
  .simp[h];omega
  .simp[h];omega
 .simp[hs];refine cd (rP (a:=z.natAbs) (b:=w.natAbs) aa aa) ?_;simp;by_cases hlt:z.natAbs<w.natAbs
  .have hc:Big.cmp z.natAbs w.natAbs<0:=by rw[FZ hlt];decide
   refine gQ (l:=[B (decide (w<0)),S (ah w.natAbs),S (ah z.natAbs)]) (h:=[]) (λq=>by simp[hc]) ?_;simp;refine cd (xA (a:=w.natAbs) (b:=z.natAbs) aa aa) ?_;simp;refine cd (hO (decide (w<0)) (n:=w.natAbs-z.natAbs) (Ze (cG (Nat.sub_le ..)) aa)) ?_;refine fA ?_;congr 1;unfold sg;by_cases h:w<0
   .simp[h];omega
   .simp[h];omega
  ·have hc:¬Big.cmp z.natAbs w.natAbs<0:=by
    rcases Nat.eq_or_lt_of_not_lt hlt with h|h
    .rw[h,cmp_eq];decide
    .rw[F5 h];decide
   refine gQ (l:=[B (decide (z<0)),S (ah z.natAbs),S (ah w.natAbs)]) (h:=[]) (λq=>by simp[hc]) ?_;simp;refine cd (xA (a:=z.natAbs) (b:=w.natAbs) aa aa) ?_;simp;refine cd (hO (decide (z<0)) (n:=z.natAbs-w.natAbs) (Ze (cG (Nat.sub_le ..)) aa)) ?_;refine fA ?_;congr 1;unfold sg;by_cases h:z<0
   .simp[h];omega
   .simp[h];omega
theorem tK{z w:Int}(hz:ndg z.natAbs<999999)(hw:ndg w.natAbs<999999):CP Y F.cO [S (itoa z),S (itoa w)] (S (itoa (z+w))):=by
 refine KE ?_;have l1:=oN z 18 ae;have l2:=oN w 18 ae;have tl:=aaA hz hw;simp[cO];refine cd l1 ?_;by_cases h1:sdg z<=18
 .rw[if_pos h1];simp;by_cases h2:sdg w<=18
  .rw[if_pos h2]at l2;refine aC ?_;simp;refine cd l2 ?_;have b1:=re h1;have b2:=re h2;simp only[Nat.reducePow]at b1 b2;obtain⟨m,hm⟩:=mnQ (z+w);rw[hm];simp(disch:=try exact af)[hm];refine cd (kX (z:=m) aa aa) ?_;exact fA rfl
  .rw[if_neg h2]at l2;refine aC ?_;simp;refine cd l2 ?_;simp;simpa using tl
 .rw[if_neg h1];simp;refine aC ?_;simp;simpa using tl
theorem oi{z w:Int}(hz:ndg z.natAbs<400000)(hw:ndg w.natAbs<400000):CP Y F.aP [S (itoa z),S (itoa w)] (S (itoa (z*w))):=by
 refine KB ?_;have l1:=oN z 9 ae;have l2:=oN w 9 ae;have dm:=Il (a:=z.natAbs) (b:=w.natAbs) aa aa
 have hk:ndg (z.natAbs*w.natAbs)<1000000:=by
  have h1:=cJ z.natAbs;have h2:=cJ w.natAbs;have h3:z.natAbs*w.natAbs<10^(ndg z.natAbs+ndg w.natAbs):=by rw[Yr];exact Ys h1 h2
  have:=dG h3 (by have:=lX z.natAbs;omega);omega
 have e:sg (decide (z<0) !=decide (w<0)) (z.natAbs*w.natAbs)=z*w:=by
  unfold sg;by_cases h1:z<0<;>by_cases h2:w<0
  .simp[h1,h2];rw[Xg aa,Xg aa,Int.neg_mul_neg]
  .simp[h1,h2];rw[Xg aa,W7 aa,Int.neg_mul,V7]
  .simp[h1,h2];rw[W7 aa,Xg aa,Int.mul_neg,V7]
  .simp[h1,h2];rw[W7 aa,W7 aa]
 have eb:biB .neq (B (decide (z<0))) (B (decide (w<0)))=some (B (decide (z<0) !=decide (w<0))):=rfl;have jo:=hO (decide (z<0) !=decide (w<0)) hk;rw[e]at jo
 have tail:∀u:Unit,cal (CX Y).p [] (.fn F.aL [] []) [S (itoa z)] λv6 h=>
  ext v6 0 λv7=>
  ext v6 1 λv8=>
  cal (CX Y).p h (.fn F.aL [] []) [S (itoa w)] λv9 h=>
  ext v9 0 λv10=>
  ext v9 1 λv11=>
  bnd (biB .neq v7 v10) λv12=>
  cal (CX Y).p h (.fn F.kf [] []) [v8,v11] λv13 h=>
  cal (CX Y).p h (.fn F.bW [] []) [v12,v13] λv14 h=>
  out (S (itoa (z*w))) v14 h:=by
  intro _;simp;refine cd (oW z) ?_;simp;refine cd (oW w) ?_;simp[eb];refine cd dm ?_;simp;refine cd jo ?_;exact fA rfl
 simp[aP];refine cd l1 ?_;by_cases h1:sdg z<=9
 .rw[if_pos h1];simp;by_cases h2:sdg w<=9
  .rw[if_pos h2]at l2;refine aC ?_;simp;refine cd l2 ?_;have b1:=re h1;have b2:=re h2
   have hmb:(z*w).natAbs<1000000000000000000:=by
    rw[Zm];exact Ys b1 b2
   obtain⟨m,hm⟩:=mnQ (z*w);rw[hm]at hmb ⊢;simp(disch:=try exact af)[hm];refine cd (kX (z:=m) aa aa) ?_;exact fA rfl
  .rw[if_neg h2]at l2;refine aC ?_;simp;refine cd l2 ?_;simp;simpa using tail ()
 .rw[if_neg h1];simp;refine aC ?_;simp;simpa using tail ()
theorem jC(n:Nat):itoa (n:Int)=ah n:=by rfl
theorem aa1(n:Nat):sgn (n:Int)=if n=0 then 0 else 1:=by
 unfold sgn;by_cases h:n=0
 .simp[h]
 .rw[if_neg aa,if_neg aa,if_neg h]
theorem Le(n:Nat):CP Y F.c8 [S (ah n)] (I (if n=0 then 0 else 1)):=by
 have:=m7 (n:Int)
 grind[jC,aa1]
theorem DY{b:Nat}(ha:ndg a<1000000)(hb:ndg b<1000000):CP Y F.d6 [S (ah a),S (ah b)] (I (Big.cmp a b)):=by
 refine u9 ?_;have s1:=Le a;have s2:=Le b;simp[d6];by_cases h1:a=0
 .rw[if_pos h1]at s1;by_cases h2:b=0
  .rw[if_pos h2]at s2;refine cd s1 ?_;simp;refine cd s2 ?_;simp;refine cd (rL a) ?_;simp;refine cd (rL b) ?_;simp;refine gQ (l:=[S (ah a),S (ah b)]) (h:=[]) (λq=>by simp) ?_;simp;refine cd (rP ha hb) ?_;simp
  .rw[if_neg h2]at s2;refine cd s1 ?_;simp;refine cd s2 ?_;simp;exact aW (FZ aa).symm
 .rw[if_neg h1]at s1;by_cases h2:b=0
  .rw[if_pos h2]at s2;refine cd s1 ?_;simp;refine cd s2 ?_;simp;exact aW (F5 aa).symm
  .rw[if_neg h2]at s2;refine cd s1 ?_;simp;refine cd s2 ?_;simp;refine cd (rL a) ?_;simp;refine cd (rL b) ?_;simp;refine gQ (l:=[S (ah a),S (ah b)]) (h:=[]) (λq=>by simp) ?_;simp;refine cd (rP ha hb) ?_;simp
theorem uW{b:Nat}(hb:0<b):(-(a:Int))/(b:Int)=(if a%b=0 then -((a/b:Nat):Int)else -((a/b+1:Nat):Int))∧(-(a:Int))%(b:Int)=(if a%b=0 then 0 else((b-a%b:Nat):Int)):=by
 have h1:=Xm a b;have h2:=Yz a hb;generalize a%b=r at *;generalize a/b=q at *;by_cases h:r=0
 .subst h;simp only[if_true]
  have e:(-(a:Int))=(b:Int)*(-(q:Int)):=by
   rw[Int.mul_neg,<-Int.natCast_mul];congr 1;omega
  rw[e];exact⟨Int.mul_ediv_cancel_left _ aa,Int.mul_emod_right _ _⟩
 .simp only[if_neg h]
  have e:(-(a:Int))=((b-r:Nat):Int)+(b:Int)*(-((q+1:Nat):Int)):=by
   have:(a:Int)=(b:Int)*q+r:=by rw[<-Int.natCast_mul];omega
   rw[this,Int.mul_neg,Int.natCast_add,Int.mul_add];omega
  have l1:(0:Int)<=((b-r:Nat):Int):=aa;have l2:((b-r:Nat):Int)<(b:Int):=aa;rw[e];constructor
  .rw[Int.add_mul_ediv_left _ _ aa,Int.ediv_eq_zero_of_lt l1 l2,Int.zero_add]
  .rw[Int.add_mul_emod_self_left,Int.emod_eq_of_lt l1 l2]
theorem uF:ndg 1=1:=aG
theorem oA{a b a' b':LuQ}{c:Int}{h:Hp}(e1:a'=a)(e2:b'=b):out (.tup [S a,S b,I c]) (.tup [S a',S b',I c]) h:=by simp_all[jz]
theorem acb{z:Int}{b:Nat}(hb:0<b)(hz:ndg z.natAbs<900000)(hbd:ndg b<900000):
   cal (CX Y).p [] (.fn F.aL [] []) [S (itoa z)] λv7 h=>
   ext v7 0 λv8=>
   ext v7 1 λv9=>
   cal (CX Y).p h (.fn F.aL [] []) [S (ah b)] λv10 h=>
   ext v10 0 λv11=>
   ext v10 1 λv12=>
   cal (CX Y).p h (.fn F.dZ [] []) [v9,v12] λv13 h=>
   ext v13 0 λv14=>
   ext v13 1 λv15=>
   ext v13 2 λv16=>
   bnd (biI .neq v16 (.d (.int .i64 0))) λv17=>
   cnd v17 (
    out (.tup [S (itoa (z/b)),S (itoa (z%b)),I 0]) (.tup [(.d (.str [])),(.d (.str [])),v16]) h) (
    bnd (biB .neq v8 v11) λv18=>
    gd v18 true h (λq=>q v15 h) λv19 h=>
    gd v18 true h (λq=>bnd (biS .neq v19 (.d (.str [48]))) λv=>q v h) λv20 h=>
    bnd (mP v18 v20 (.d (.bool false))) λv21=>
    jn (λl22 h=>
     bnd (biB .neq v8 v11) λv24=>
     cal (CX Y).p h (.fn F.bW [] []) [v24,(ge l22 0)] λv25 h=>
     cal (CX Y).p h (.fn F.bW [] []) [v11,(ge l22 1)] λv26 h=>
     out (.tup [S (itoa (z/b)),S (itoa (z%b)),I 0]) (.tup [v25,v26,(.d (.int .i64 0))]) h) λq23=>
     cnd v21 (
      cal (CX Y).p h (.fn F.gz [] []) [v14,(.d (.str [49]))] λv27 h=>
      cal (CX Y).p h (.fn F.ie [] []) [v12,v15] λv28 h=>
      ext v28 0 λv29=>
      ext v28 1 λv30=>
      q23 [v27,v29] h) (
      q23 [v14,v15] h)):=by
 have hq:ndg (z.natAbs/b)<=ndg z.natAbs:=cG (Yu ..);have hr:z.natAbs%b<b:=Yz _ hb;have hr2:ndg (z.natAbs%b)<=ndg b:=cG aa
 have eb:biB .neq (B (decide (z<0))) (B false)=some (B (decide (z<0))):=by
  show some (B (decide (z<0) !=false))=_
  rw[Bool.bne_false]
 simp;refine cd (oW z) ?_;simp;refine cd (rL b) ?_;simp;refine cd (xz (a:=z.natAbs) hb aa aa) ?_;by_cases hneg:z<0
 .have ez:z = -(z.natAbs:Int):=aa;obtain⟨d1,d2⟩:=uW (a:=z.natAbs) hb;rw[<-ez]at d1 d2;rw[decide_eq_true hneg]at eb ⊢;by_cases h0:z.natAbs%b=0
  .rw[if_pos h0]at d1 d2;rw[h0,dW];simp[eb];refine gQ (l:=[S (ah (z.natAbs/b)),S [48]]) (h:=[]) (λq=>by simp) ?_;simp[eb];refine cd (hO true (n:=z.natAbs/b) aa) ?_;simp;have j0:=hO false (n:=0) (by grind);rw[dW]at j0;refine cd j0 ?_;refine oA ?_ ?_
   .rw[d1];rfl
   .rw[d2];rfl
  .rw[if_neg h0]at d1 d2;have h48:¬ah (z.natAbs%b)=[48]:=λh=>h0 (kv.1 h)
   have ad:=yP (a:=z.natAbs/b) (b:=1) aa (by simp[uF]);rw[show ah 1=[49] by decide+kernel]at ad;simp[eb,h48];refine aC ?_;simp[h48];refine cd ad ?_;simp;refine cd (xA (a:=b) (b:=z.natAbs%b) aa aa) ?_;simp[eb];have hq1:ndg (z.natAbs/b+1)<=900000+1:=sS aa (by simp[uF])
   refine cd (hO true (n:=z.natAbs/b+1) aa) ?_;simp;refine cd (hO false (n:=b-z.natAbs%b) (Ze (cG (Nat.sub_le ..)) aa)) ?_;refine oA ?_ ?_
   .rw[d1];rfl
   .rw[d2];rfl
 .rw[decide_eq_false hneg]at eb ⊢;simp[eb];refine gQ (l:=[S (ah (z.natAbs/b)),S (ah (z.natAbs%b))]) (h:=[]) (λq=>by simp) ?_;simp[eb];refine cd (hO false (n:=z.natAbs/b) aa) ?_;simp;refine cd (hO false (n:=z.natAbs%b) aa) ?_;have ez:z=(z.natAbs:Int):=aa;refine oA ?_ ?_
  .rw[ez,<-Int.natCast_ediv];rfl
  .rw[ez,<-Int.natCast_emod];rfl
theorem yb{z:Int}{b:Nat}(hb:0<b)(hz:ndg z.natAbs<900000)(hbd:ndg b<900000):CP Y F.aS [S (itoa z),S (ah b)] (.tup [S (itoa (z/b)),S (itoa (z%b)),I 0]):=by
 refine vU ?_;have l1:=oN z 18 ae;have l2:=Oq b 18 ae;have tl:=acb hb hz hbd;have h48:¬ah b=[48]:=λh=>by grind[kv]
 simp[aS,h48];refine cd l1 ?_;by_cases h1:sdg z<=18
 .rw[if_pos h1];by_cases h2:ndg b<=18
  .rw[if_pos h2]at l2;simp;refine aC ?_;simp;refine cd l2 ?_;have b1:=re h1;have b2:b<10^18:=Z2 (cJ b) (Z3 ae h2);simp only[Nat.reducePow]at b1 b2;have hbz:¬(b:Int)=0:=aa;obtain⟨n,hn⟩:=nmQ (z.natAbs);rw[<-hn]at b1;have hq:n/b<=n:=Yu ..;have hr:n%b<b:=Yz _ hb;by_cases hneg:z<0
   .have ez:z = -(n:Int):=aa;obtain⟨d1,d2⟩:=uW (a:=n) hb;rw[<-ez]at d1 d2;have q1:z.tdiv (b:Int) = -((n/b:Nat):Int):=by rw[ez,Int.neg_tdiv,Zr aa,<-Int.natCast_ediv]
    have q2:z.tmod (b:Int) = -((n%b:Nat):Int):=by rw[ez,Int.neg_tmod,Zt aa,<-Int.natCast_emod]
    obtain⟨q,hqq⟩:=nmQ (n/b);obtain⟨r,hrr⟩:=nmQ (n%b);rw[<-hqq]at q1 d1 hq;rw[<-hrr]at q2 d1 d2 hr;by_cases h0:r=0
    .rw[if_pos h0]at d1 d2;rw[h0]at q2;simp(disch:=try exact af)[q1,q2];refine gQ (l:=[I (-(q:Int)),I 0]) (h:=[]) (λq=>by simp) ?_;simp;refine cd (kX (z:=-(q:Int)) aa aa) ?_;simp;refine cd (kX (z:=0) aa aa) ?_;refine oA ?_ ?_
     .rw[d1]
     .rw[d2]
    .rw[if_neg h0]at d1 d2;have r0:¬(-(r:Int))=0:=aa;have r1:(-(r:Int))<0:=aa;have r2:¬(b:Int)<0:=aa;have eb:∀x y:Bool,biB .neq (B x) (B y)=some (B (x !=y)):=λ_ _=>rfl
     simp(disch:=try exact af)[q1,q2,r0,r1,r2,eb];refine gQ (l:=[I (-(q:Int)-1),I (-(r:Int)+b)]) (h:=[]) (λq=>by simp(disch:=try exact af)[r0,r1,r2]) ?_;simp;refine cd (kX (z:=-(q:Int)-1) aa aa) ?_;simp;refine cd (kX (z:=-(r:Int)+b) aa aa) ?_
     grind[oA]
   .have ez:z=(n:Int):=aa;have q1:z.tdiv (b:Int)=((n/b:Nat):Int):=by rw[ez,Zr aa,<-Int.natCast_ediv]
    have q2:z.tmod (b:Int)=((n%b:Nat):Int):=by rw[ez,Zt aa,<-Int.natCast_emod]
    have d1:z/(b:Int)=((n/b:Nat):Int):=by rw[ez,<-Int.natCast_ediv]
    have d2:z%(b:Int)=((n%b:Nat):Int):=by rw[ez,<-Int.natCast_emod]
    obtain⟨q,hqq⟩:=nmQ (n/b);obtain⟨r,hrr⟩:=nmQ (n%b);rw[<-hqq]at q1 d1 hq;rw[<-hrr]at q2 d2 hr;have r1:¬((r:Int))<0:=aa;have r2:¬(b:Int)<0:=aa;have eb:∀x y:Bool,biB .neq (B x) (B y)=some (B (x !=y)):=λ_ _=>rfl
    have fin:∀h:Hp,cal (CX Y).p h (V.fn F.dK [] []) [I q] λv45 h=>
      cal (CX Y).p h (V.fn F.dK [] []) [I r] λv46 h=>out (V.tup [S (itoa (z/(b:Int))),S (itoa (z%(b:Int))),I 0]) (V.tup [v45,v46,V.d (D.int IntKind.i64 0)]) h:=by
     intro h;simp;refine cd (kX (z:=q) aa aa) ?_;simp;refine cd (kX (z:=r) aa aa) ?_;refine oA ?_ ?_
     .rw[d1]
     .rw[d2]
    by_cases h0:r=0
    .rw[h0]at q2 fin;simp(disch:=try exact af)[q1,q2];refine gQ (l:=[I q,I 0]) (h:=[]) (λq=>by simp) ?_;exact fin []
    .have r0:¬(r:Int)=0:=aa;simp(disch:=try exact af)[q1,q2,r0,r1,r2,eb];refine gQ (l:=[I q,I r]) (h:=[]) (λq=>by simp[r0,r1,r2]) ?_;exact fin []
  .rw[if_neg h2]at l2;simp;refine aC ?_;simp;refine cd l2 ?_;simp;trivial
 .rw[if_neg h1];simp;refine aC ?_;simp;trivial
theorem Tk{b:Nat}(ha0:0<a)(hb0:0<b)(ha:ndg a<400000)(hb:ndg b<400000):CP Y F.pf [S (ah a),S (ah b)] (S (ah (Nat.lcm a b))):=by
 refine GV ?_;have h1:¬ah a=[48]:=λh=>by have:=kv.1 h;omega
 have h2:¬ah b=[48]:=λh=>by have:=kv.1 h;omega
 have hg:0<Nat.gcd a b:=Nat.gcd_pos_of_pos_left _ ha0;have hgl:Nat.gcd a b<=a:=Nat.gcd_le_left _ ha0;have hq:ndg (a/Nat.gcd a b)<=ndg a:=cG (Yu ..);simp[pf,h1,h2];refine cd (QM aa aa) ?_;simp;refine cd (xz (a:=a) (b:=Nat.gcd a b) hg aa (by have:=cG hgl;omega)) ?_;simp
 refine cd (Il (a:=a/Nat.gcd a b) (b:=b) aa aa) ?_;refine fA ?_;congr 1;rw[Nat.lcm,Zo,<-Nat.mul_div_assoc _ (Wn a b),Zo]
theorem Rr(n:Nat):CP Y F.gE [S (ah n)] (S (ah n)):=by
 have:=AA (n:Int)
 rwa [jC,Int.natAbs_natCast]at this
theorem aaK{b:Nat}(ha0:0<a)(hb0:0<b)(ha:ndg a<400000)(hb:ndg b<400000):CP Y F.pR [S (ah a),S (ah b)] (S (ah (Nat.lcm a b))):=by refine KC ?_;simp[pR];refine cd (Rr a) ?_;simp;refine cd (Rr b) ?_;simp;refine cd (Tk ha0 hb0 ha hb) ?_;exact fA rfl
theorem Ss{z:Int}(h:z.natAbs<9223372036854775808):CP Y F.fq [S (itoa z),I 10,I 64] (.tup [I z,.d (.pl .nilIface)]):=by
 have key:∀n:Nat,n<9223372036854775808->(ah n)≠[]∧(ah n).all oP=true∧(ah n).length<=1000∧pO 0 (ah n)=n:=by
  intro n hn;have hd:=dY n;have hc:=sy n
  have hl:(ah n).length<=1000:=by
   have:=dG (n:=n) (d:=19) aa ae;rw[ah,bi];omega
  simp only[qH,Z7]at hc
  have hall:(ah n).all oP=true:=by
   rw[<-hc.1.2];congr 1;funext c;exact digit_eq c
  exact⟨wT n,hall,hl,by rw[xw,hd]⟩
 have ho:Y.X.orc F.fq [.string ⟨⟨itoa z⟩⟩,.int .i64 10,.int .i64 64]=some (.tuple #[.int .i64 z,.nilIface]):=by
  have e:∀a,Y.X.orc F.fq a=P2 a:=λa=>rfl
  rw[e];obtain⟨k1,k2,k3,k4⟩:=key _ h;unfold P2;simp only;rw[if_pos ⟨trivial,trivial⟩];by_cases hz:z<0
  .have e1:itoa z=45::ah z.natAbs:=by unfold itoa;rw[if_pos hz]
   rw[e1];simp only;rw[if_pos ⟨k1,k2,k3,by rw[k4];exact h⟩,k4,show(-((z.natAbs:Nat):Int))=z by omega]
  .have e1:itoa z=ah z.natAbs:=by unfold itoa;rw[if_neg hz]
   rw[e1];have hh:=sk z.natAbs;have ez:((z.natAbs:Nat):Int)=z:=aa;generalize ah z.natAbs=L at *
   have fin:(if L≠[]∧L.all oP=true∧L.length<=1000∧pO 0 L<9223372036854775808 then some (Value.tuple #[.int .i64 (pO 0 L),.nilIface])else none)=some (Value.tuple #[.int .i64 z,.nilIface]):=by
    rw[if_pos ⟨k1,k2,k3,by rw[k4];exact h⟩,k4,ez]
   split
   .rename_i l hl;exact absurd rfl hh
   .exact fin
 exact CP.orc ho (by intro x hx;simp only[Zy,Yv,or_false]at hx;rcases hx with rfl|rfl|rfl<;>rfl) rfl
theorem AT{z:Int}(h:z.natAbs<9223372036854775808):CP Y F.lI [S (itoa z)] (.tup [I z,B true]):=by refine Gk ?_;simp[lI];refine cd (Ss h) ?_;simp[Jl];exact bU rfl rfl
def RdN(s:Nat)(h:Hp)(v:V)(d:LnQ):Prop:=∀h':Hp,h'.length=h.length->(∀j,j≠s->h'[j]?=h[j]?)->RdP h' v d∧∃h2,cF h' v=some (lst u6 d,h2)
theorem RdN.now{h:Hp}{v:V}{d:LnQ}(r:RdN s h v d):RdP h v d:=(r h rfl λ_ _=>rfl).1
theorem RdN.step{h h2:Hp}{v:V}{d:LnQ}(r:RdN s h v d)(hl:h2.length=h.length)(hs:∀j,j≠s->h2[j]?=h[j]?):RdN s h2 v d:=
 λh' h1 h3=>r h' (h1.trans hl) λj hj=>(h3 j hj).trans (hs j hj)
theorem RdN.new{s t e N m:Nat}{h:Hp}(hst:s≠t)(hg:h[t]?=some (e,.data 1 ((bz N m).map u6) true false))(hm:m<Z^N):RdN s h (.ref t e 0 (dig Z m).length N N) (dig Z m):=λh' hl ho=>by
 have:=DR (h:=h') (cap:=N) ((ho t (Ne.symm hst)).trans hg) (dj ..).symm (iX hm);rw[nN hm]at this;have sn:=wj (h:=h') ((ho t (Ne.symm hst)).trans hg) (dj ..).symm (len:=(dig Z m).length) (cap:=N) (iX hm) (Z8 _);rw[nN hm]at sn;exact⟨this,_,sn⟩
theorem and_one{n:Int}(h0:0<=n)(h1:n<9223372036854775808):biI .and (I n) (I 1)=some (I (n%2)):=by
 obtain⟨m,rfl⟩:∃m:Nat,n=m:=⟨n.toNat,aa⟩
 have hb:(BitVec.ofInt 64 (m:Int)&&&BitVec.ofInt 64 1).toNat=m%2:=by
  rw[BitVec.toNat_and]
  have e1:(BitVec.ofInt 64 (m:Int)).toNat=m:=by
   rw[BitVec.toNat_ofInt];omega
  have e2:(BitVec.ofInt 64 (1:Int)).toNat=1:=ae;rw[e1,e2,Nat.and_one_is_mod]
 simp only[biI,iH,ne_eq,not_true_eq_false,if_false,nj,js]
 show some (V.d (.int .i64 (IntKind.wrap .i64 ((BitVec.ofInt 64 (m:Int)&&&BitVec.ofInt 64 1).toNat:Int))))=_
 rw[hb,tG aa aa];rfl
theorem Vx(k:KL):∀(n A Bv:Nat)(o p:V)(h:Hp)(R:Nat),A*Bv^n=R->0<A->0<Bv->R<Z^2000->n<100000->h.length=3->NV h->RdN 2 h o (dig Z A)->RdN 1 h p (dig Z Bv) ->
  (∀o' h' h2,h'.length=3->cF h' o'=some (lst u6 (dig Z R),h2)->NV h'->k (.exit 1) [o'] h')->∀h0:Hp,h0.length=3->lp (ly (CX Y)) [] h0 [o,p,I n] h k:=by
 intro n
 induction n using Nat.strongRecOn with
 | ind n ih=>
  intro A Bv o p h R hR hA hB hlim hn hlen hnv ro rp hk h0 hl0;refine ai ?_;by_cases hz:n=0
  .subst hz;simp[ly];rw[Nat.pow_zero,Yp]at hR;subst hR;obtain⟨h2,hs2⟩:=(ro h rfl λ_ _=>rfl).2;exact hk o h h2 hlen hs2 hnv
  have hpos:(n:Int)>0:=aa
  have hBR:Bv<=R:=by
   rw[<-hR];exact Z4 (Nat.le_of_eq (Nat.pow_one Bv).symm) (Z4 (Z3 hB aa) (Nat.le_mul_of_pos_left _ hA))
  have hAR:A<=R:=by rw[<-hR];exact Y5 _ (Xq hB)
  have dA:(dig Z A).length<=2000:=iX aa;have dB:(dig Z Bv).length<=2000:=iX aa;have and1:=and_one (n:=(n:Int)) aa aa;have e2:((n:Int)/2^(1:Int).toNat)=((n/2:Nat):Int):=ac
  have sh:biI .shr (I n) (.d (.int .u64 1))=some (I (n/2:Nat)):=by
   rw[aaZ aa aa,e2]
  have hn2:n/2<n:=aa
  -- what a product gives
  have times:∀(h:Hp)(v w:V)(a b s:Nat),h.length=3->NV h->s<3->RdP h v (dig Z a)->RdP h w (dig Z b)->(dig Z a).length<=2000->(dig Z b).length<=2000->∀q:kkQ,
    (∀o' h',h'.length=3->NV h'->(∀j,j≠s->h'[j]?=h[j]?)->(∀t,t≠s->RdN t h' o' (dig Z (a*b)))->q o' h')->cai (CX Y).i h (V.fn F.bB [] []) [v,w] s q:=by
   intro h v w a b s hl hv hs r1 r2 d1 d2 q hq;obtain⟨N,hN⟩:=nmQ ((dig Z a).length+(dig Z b).length);have tk:=AL (h:=h) (hv.all _) r1 (cE aw a) r2 (cE aw b) aa aa hN;rw[iO aw,iO aw]at tk;have hs3:s<h.length:=aa;have hm:a*b<Z^N:=by rw[hN,Yr];exact Ys (wL a) (wL b)
   refine gA (e:=h[s].1) (b:=h[s].2) tk (List.getElem?_eq_getElem hs3) ?_;rw[List.length_map,dj];have gs:(h.set s (h[s].1+1,.data 1 ((bz N (a*b)).map u6) true false))[s]?=some (h[s].1+1,.data 1 ((bz N (a*b)).map u6) true false):=by simp[hs3]
   have os:∀j,j≠s->(h.set s (h[s].1+1,.data 1 ((bz N (a*b)).map u6) true false))[j]?=h[j]?:=λj hj=>by rw[List.getElem?_set_ne (Ne.symm hj)]
   exact hq _ _ (by simp[hl]) (hv.upd gs os) os (λt ht=>RdN.new ht gs hm)
  have fin:∀(A' B':Nat)(o' p':V)(h':Hp),A'*B'^(n/2)=R->0<A'->0<B'->h'.length=3->NV h'->RdN 2 h' o' (dig Z A')->RdN 1 h' p' (dig Z B')->rl (lp (ly (CX Y)) [] h0 [o',p',I ((n:Int)/2)] h') k .mk:=by
   intro A' B' o' p' h' e1 e2 e3 e4 e5 e6 e7;rw[show((n:Int)/2)=((n/2:Nat):Int) by omega];exact ih (n/2) hn2 A' B' o' p' h' R e1 e2 e3 hlim aa e4 e5 e6 e7 hk h0 hl0
  have hdm:=Xm n 2;simp(disch:=try exact af)[ly,hpos];refine aC ?_;simp[and1];by_cases hod:(n:Int)%2=1
  .have hod':n%2=1:=aa
   have eR:A*Bv*(Bv*Bv)^(n/2)=R:=by
    rw[<-hR]
    conv=>rhs;rw[<-hdm,hod',Yr,Wc,Nat.pow_one]
    rw[Nat.pow_two,Nat.mul_assoc,Zo Bv]
   refine aC ?_;simp[hod];refine om (times h o p A Bv 1 hlen hnv aa ro.now rp.now dA dB _ λo' h' l1 v1 s1 r1=>?_);have rp1:=rp.step (l1.trans hlen.symm) s1;have ro1:=r1 2 aa;simp;refine aC ?_;by_cases h1:(n:Int)>1
   .simp[h1];refine om (times h' p p Bv Bv 2 l1 v1 aa rp1.now rp1.now dB dB _ λp' h'' l2 v2 s2 r2=>?_);have ro2:=ro1.step (l2.trans l1.symm) s2;simp(disch:=try exact af)[sh];exact fin _ _ o' p' h'' eR (Yl hA hB) (Yl hB hB) l2 v2 ro2 (r2 1 aa)
   .have hn1:n=1:=aa;simp(disch:=try exact af)[h1,sh];refine fin (A*Bv) Bv o' p h' ?_ (Yl hA hB) hB l1 v1 ro1 rp1;rw[<-eR];subst hn1;simp
  .have hod':n%2=0:=aa
   have eR:A*(Bv*Bv)^(n/2)=R:=by
    rw[<-hR]
    conv=>rhs;rw[<-hdm,hod',Nat.add_zero,Wc]
    rw[Nat.pow_two]
   refine aC ?_;simp[hod];refine aC ?_;have h1:(n:Int)>1:=aa;simp[h1];refine om (times h p p Bv Bv 2 hlen hnv aa rp.now rp.now dB dB _ λp' h'' l2 v2 s2 r2=>?_);have ro2:=ro.step (l2.trans hlen.symm) s2;simp(disch:=try exact af)[sh];exact fin _ _ o p' h'' eR hA (Yl hB hB) l2 v2 ro2 (r2 1 aa)
theorem Qv(h:n<18446744073709551616):CP Y F.ko [.d (.int .u64 n)] (I (bL n)):=by refine Cw ?_;simp[ko];refine cd (Fb h) ?_;simp<;>exact aW rfl
theorem xt:ah 2=[50]:=aG
theorem iw:ah 1=[49]:=aG
theorem aah:CP Y F.nQ [S [50]] (I 2):=by refine FT ?_;have h:=AS (n:=2) aa;rw[xt]at h;have h2:=Fb (n:=2) aa;rw[show bL 2=2 by rfl]at h2;simp[nQ];refine cd h ?_;simp;refine cd h2 ?_;simp
theorem TR{K:Nat}(h:n/3+1<=K):2^n<10^K:=by
 have h1:2^n=8^(n/3)*2^(n%3):=by
  rw[show(8:Nat)=2^3 from rfl,<-Wc,<-Yr,Xm]
 have h2:8^(n/3)<=10^(n/3):=Nat.pow_le_pow_left ae _
 have h3:2^(n%3)<=4:=by
  have:n%3<3:=Yz _ ae;exact Z4 (Z3 ae (show n%3<=2 by omega)) ae
 have h4:10^(n/3+1)<=10^K:=Z3 ae h;have h5:=Zu h2 h3
 grind
theorem aby{K:Nat}(h:n/3+1<=K)(hK:0<K):ndg (2^n)<=K:=dG (TR h) hK
theorem afL{K:Nat}(h:n/3+1<=K):2^n<Z^K:=Z2 (TR h) (Nat.pow_le_pow_left ae _)
theorem Da(hn:n<=4000):2^n<Z^2000∧ndg (2^n)<=2000:=
 ⟨afL (K:=2000) aa,aby (K:=2000) aa aa⟩
theorem Tj(hn:n<=4000):CP Y F.ji [S [50],I n] (.tup [S (ah (2^n)),I 0]):=by
 refine CU ?_;by_cases h0:n=0
 .subst h0;rw[Nat.pow_zero,iw];simp[ji];simp[bU]
 have g1:¬(n:Int)=0:=aa;have g2:¬(n:Int)<0:=aa;have g3:¬(n:Int)>66439:=aa;have n1:¬([50]:LuQ)=[49]:=ae;have n2:¬([50]:LuQ)=[48]:=ae;have ct:=tC (h:=[nnQ,nnQ,nnQ]) rfl (n:=2) (cap:=1) aG aG;rw[xt]at ct;obtain⟨p1,p2⟩:=Da hn
 have hli:∀h:Hp,fJ 1 [D.int .u64 0] [(0,V.d (D.int .u64 1))] h=some ([u6 1],h):=λh=>by rfl
 simp(disch:=try exact af)[ji,g1,g2,n1,n2];refine cd aah ?_;simp[g3,hli];refine om (gA (e:=0) (b:=.none) ct rfl ?_);rw[List.length_map,dj];simp
 have nv:NV [(1,.data 1 ((bz 1 2).map u6) true false),nnQ,nnQ]:=by
  intro j x hj b';rcases Ww.2 ⟨j,hj⟩with hm;simp only[Zy,Yv,or_false]at hm;rcases hm with rfl|rfl|rfl<;>rfl
 refine lo (Vx _ n 1 2 (lst u6 [1]) _ [(1,.data 1 ((bz 1 2).map u6) true false),nnQ,nnQ] (2^n) (by rw[W8]) ae ae p1 aa rfl nv ?_ ?_ (λo' h' h2 hl hr hv=>?_) _ rfl)
 .intro h' _ _;rw[show dig Z 1=[1] by rfl];simp[Ru]
 .exact RdN.new (s:=1) (t:=0) ae rfl ae
 .have hl1:¬(ndg (2^n):Int)>20000:=aa;have lt:=mA (2^n);have tx:=xg (n:=2^n) (Ze (iX p1) ae);generalize 2^n=m at *;simp;refine cdz (by simp only[aO,hr];rfl) tx ?_;rw[show cI (S (ah m))=true from rfl,if_pos rfl];simp[lt,hl1];simp[bU]
theorem A8(hn:n<=4000):CP Y F.lJ [S [50],I n] (.tup [S (ah (2^n)),I 0]):=by refine Gl ?_;have sp:=rL 2;rw[xt]at sp;have g2:¬(n:Int)<0:=aa;have g3:¬(n:Int)>4000:=aa;obtain⟨p1,p2⟩:=Da hn;have q:((4000:Int).tdiv 1)=4000:=ae;simp[lJ,g2];refine cd sp ?_;simp[g3,q];refine cd (Tj hn) ?_;simp;refine cd (XJ _) ?_;simp[bU]
def dgF(unit two:Nat):Nat->Nat->Nat->Nat->Option Nat
 |0,_,_,out=>some out
 | r+1,low,high,out=>
  cond (Nat.ble two (low*low/unit)) (dgF unit two r (low*low/unit/2) ((high*high/unit+1)/2+1) (out+out+1))
   (cond (Nat.ble two (high*high/unit+1)) none (dgF unit two r (low*low/unit) (high*high/unit+1) (out+out)))
def CQ(p n more:Nat):Option Nat:=dgF (2^more) (2^more+2^more) n (p*2^(more-(bL p-1))) (p*2^(more-(bL p-1))) (bL p-1)
def dgV:Option Nat->V
 |some v=>.tup [S (ah v),B true]
 |none=>.tup [S [],B false]
theorem tL{b:Nat}(ha:ndg a<999999)(hb:ndg b<999999):CP Y F.cO [S (ah a),S (ah b)] (S (ah (a+b))):=by have:=tK (z:=(a:Int)) (w:=(b:Int)) (by trivial) (by trivial);trivial
theorem vW{b:Nat}(ha:ndg a<400000)(hb:ndg b<400000):CP Y F.aP [S (ah a),S (ah b)] (S (ah (a*b))):=by have:=oi (z:=(a:Int)) (w:=(b:Int)) (by trivial) (by trivial);trivial
theorem tJ{b:Nat}(h0:0<b)(ha:ndg a<900000)(hb:ndg b<900000):CP Y F.aS [S (ah a),S (ah b)] (.tup [S (ah (a/b)),S (ah (a%b)),I 0]):=by grind[yb,jC]
theorem sR{b:Nat}:ndg (a*b)<=ndg a+ndg b:=by
 have h3:a*b<10^(ndg a+ndg b):=by rw[Yr];exact Ys (cJ a) (cJ b)
 exact dG h3 (by grind[lX])
theorem ZQ{b:Nat}:decide (0<=Big.cmp a b)=Nat.ble b a:=by grind[Nat.ble_eq,FZ,cmp_eq,F5]
theorem LY{k:Nat}(h:ndg n<=k):ndg (n+n+1)<=k+1:=by have h1:n<10^k:=Z2 (cJ n) (Z3 ae h);exact dG aa aa
theorem Co{unit two N W:Nat}(hu:2<=unit)(htwo:two=unit+unit)(hW:ndg two<=W)(hW2:W<100000)(hN:N<100000)(k:KL):∀(r i low high out:Nat),i+r=N->low<=high->high<two->ndg out<=W+i ->
  (∀v,dgF unit two r low high out=some v->ndg v<=W+N->k (.exit 0) [S (ah v)] [])->(dgF unit two r low high out=none->k .ret [S [],B false] []) ->
  lp (px (CX Y) (S (ah unit)) (S (ah two)) (I N)) [] [] [S (ah low),S (ah high),S (ah out),I i] [] k
 | 0,i,low,high,out,hi,hlh,hht,ho,h0,h1=>by
  have hiN:¬(i:Int)<(N:Int):=aa;refine ai ?_;simp[px,hiN];exact h0 out rfl aa
 | r+1,i,low,high,out,hi,hlh,hht,ho,h0,h1=>by
  have hiN:(i:Int)<(N:Int):=aa;have ih:=Co hu htwo hW hW2 hN k r (i+1);have u1:ndg unit<=W:=Z4 (cG aa) hW;have u2:ndg low<=W:=Z4 (cG aa) hW;have u3:ndg high<=W:=Z4 (cG aa) hW;have m1:=vW (a:=low) (b:=low) aa aa;have m2:=vW (a:=high) (b:=high) aa aa
  have w1:ndg (low*low)<=W+W:=Z4 sR aa;have w2:ndg (high*high)<=W+W:=Z4 sR aa;have d1:=tJ (a:=low*low) (b:=unit) aa aa aa;have d2:=tJ (a:=high*high) (b:=unit) aa aa aa;have lowle:low*low/unit<=high*high/unit:=Nat.div_le_div_right (Zu hlh hlh)
  have hi4:high*high/unit+4<=4*unit:=by
   have e1:high*high<=(2*unit-1)*(2*unit-1):=Zu aa aa
   have e2:(2*unit-1)*(2*unit-1)+4*unit=4*unit*unit+1:=by
    obtain⟨x,hx⟩:∃x,unit=x+1:=⟨unit-1,aa⟩;subst hx;rw[show 2*(x+1)-1=2*x+1 by omega];simp only[Nat.add_mul,Zl,Yp,W8,Nat.mul_assoc,Y3 x 2];omega
   have e3:high*high<(4*unit-3)*unit:=by
    rw[Nat.sub_mul];have:4*unit*unit≥3*unit:=Zv _ aa;omega
   have:=(Xc aa).2 e3;omega
  have eqF:dgF unit two (r+1) low high out=cond (Nat.ble two (low*low/unit)) (dgF unit two r (low*low/unit/2) ((high*high/unit+1)/2+1) (out+out+1))
   (cond (Nat.ble two (high*high/unit+1)) none (dgF unit two r (low*low/unit) (high*high/unit+1) (out+out))):=rfl
  rw[eqF]at h0 h1;generalize low*low/unit=L1 at *;generalize high*high/unit=H0 at *;have t2:ndg (two+two)<=W+1:=sS hW hW;have v1:ndg L1<=W+1:=Z4 (cG aa) t2;have v2:ndg H0<=W+1:=Z4 (cG aa) t2;have v3:ndg (H0+1)<=W+1:=Z4 (cG aa) t2;have a1:=tL (a:=H0) (b:=1) aa (by simp[uF]);rw[iw]at a1
  have a2:=tL (a:=out) (b:=out) aa aa;have vo:ndg (out+out)<=W+i+1:=sS ho ho;have a3:=tL (a:=out+out) (b:=1) aa (by simp[uF]);rw[iw]at a3;have c1:=DY (a:=L1) (b:=two) aa aa;have c2:=DY (a:=H0+1) (b:=two) aa aa;have g1:=ZQ (a:=L1) (b:=two);have g2:=ZQ (a:=H0+1) (b:=two)
  have d3:=tJ (a:=L1) (b:=2) aa aa (by rw[show ndg 2=1 by decide+kernel];omega);have d4:=tJ (a:=H0+1) (b:=2) aa aa (by rw[show ndg 2=1 by decide+kernel];omega);rw[xt]at d3 d4;have v4:ndg ((H0+1)/2)<=W+1:=Z4 (cG aa) t2;have a4:=tL (a:=(H0+1)/2) (b:=1) aa (by simp[uF]);rw[iw]at a4
  generalize Big.cmp L1 two=C1 at *;generalize Big.cmp (H0+1) two=C2 at *;refine ai ?_;simp[px,hiN];refine aC ?_;simp;refine cd m1 ?_;simp;refine cd d1 ?_;simp;refine cd m2 ?_;simp;refine cd d2 ?_;simp;refine cd a1 ?_;simp;refine cd a2 ?_;simp;refine aC ?_;simp;refine cd c1 ?_;simp;refine aC ?_;cases q1:Nat.ble two L1 with
  | true=>
   rw[q1]at g1 h0 h1;simp only[cond_true]at h0 h1;have g1':0<=C1:=by simpa using g1
   have b1:two<=L1:=Nat.le_of_ble_eq_true q1;simp[g1'];refine cd a3 ?_;simp;refine cd d3 ?_;simp;refine cd d4 ?_;simp;refine cd a4 ?_;simp(disch:=try exact af);have:=ih (L1/2) ((H0+1)/2+1) (out+out+1) aa aa aa (LY ho) h0 h1;trivial
  | false=>
   rw[q1]at g1 h0 h1;simp only[cond_false]at h0 h1;have g1':¬0<=C1:=by simpa using g1
   simp[g1'];refine cd c2 ?_;simp;cases q2:Nat.ble two (H0+1)with
   | true=>
    rw[q2]at g2 h1;have g2':0<=C2:=by simpa using g2
    simp[g2']
    grind
   | false=>
    rw[q2]at g2 h0 h1;simp only[cond_false]at h0 h1;have g2':¬0<=C2:=by simpa using g2
    have b2:¬two<=H0+1:=λh=>by simp_all[Nat.ble_eq_true_of_le]
    simp(disch:=try exact af)[g2'];have:=ih L1 (H0+1) (out+out) aa aa aa aa h0 h1;trivial
theorem Sv(v:Nat)(h:Hp):out (dgV (some v)) (.tup [S (ah v),B true]) h:=bU rfl rfl
theorem Sw(h:Hp):out (dgV none) (.tup [S [],B false]) h:=bU rfl rfl
theorem OL{p more:Nat}(hp:2<=p)(hp2:p<1000000)(hm1:30<=more)(hm:more<=4000)(hn:n<=4000):CP Y F.size_digits [I p,I n,I more] (dgV (CQ p n more)):=by
 refine Gy ?_;obtain⟨hk0,hpk,hk1⟩:=rz (n:=p) aa
 have hk2:bL p<=20:=by
  rcases Zg 20 (bL p)with h|h
  .have:2^20<=2^(bL p-1):=Z3 ae aa;omega
  .exact h
 obtain⟨kk,hkk⟩:=nmQ (bL p-1);obtain⟨mk,hmk⟩:=nmQ (more-kk);have e1:((bL p:Nat):Int)-1=(kk:Int):=aa;have e2:(more:Int)-(kk:Int)=(mk:Int):=aa;have hcv:IntKind.wrap .u64 (p:Int)=(p:Int):=Nv aa aa;have lb:=Qv (n:=p) aa;have pw:=A8 hm;have pw2:=A8 (n:=mk) aa;have b1:=(Da hm).2
 have b2:=(Da (n:=mk) aa).2;have ad:=tL (a:=2^more) (b:=2^more) aa aa;have op:=Oe (n:=p) aa;have ok:=Oe (n:=kk) aa;have np:ndg p<=6:=dG aa ae;have nk:ndg kk<=2:=dG aa ae;have ml:=vW (a:=p) (b:=2^mk) aa aa;have b3:ndg (2^more+2^more)<=2000+1:=sS b1 b1
 have hlt:p*2^mk<2^more+2^more:=by
  have h1:p*2^mk<2^bL p*2^mk:=(Nat.mul_lt_mul_right (Xq ae)).2 hpk;rw[<-Yr,show bL p+mk=more+1 by omega,Nat.pow_succ]at h1;omega
 have hu:2<=2^more:=by
  have:2^1<=2^more:=Z3 ae aa;omega
 have eF:CQ p n more=dgF (2^more) (2^more+2^more) n (p*2^mk) (p*2^mk) kk:=by
  unfold CQ;rw[<-hkk,<-hmk]
 rw[eF];generalize 2^more=unit at *;generalize 2^mk=pm at *;generalize p*pm=low at *;simp[size_digits,hcv];refine cd lb ?_;simp(disch:=try exact af)[e1];refine cd pw ?_;simp;refine cd ad ?_;simp(disch:=try exact af)[e2];refine cd pw2 ?_;simp;refine cd op ?_;simp;refine cd ml ?_;simp;refine cd ok ?_;simp
 refine lo (Co hu rfl (W:=2001) b3 aa (N:=n) aa _ n 0 low low kk aa (Z8 _) hlt aa (λv hv _=>?_) (λhv=>?_))
 .rw[hv];simp;exact Sv v _
 .rw[hv];simp;exact Sw _
def SI(p n:Nat):Option Nat:=if p=2 then some (2^n)else CQ p n (n+64)
theorem aep{p v:Nat}(hp:2<=p)(hp2:p<1000000)(hn:n<=3900)(hv:SI p n=some v):CP Y F.r8 [I p,I n] (S (ah v)):=by
 refine NQ ?_;unfold SI at hv;by_cases h2:p=2
 .rw[if_pos h2]at hv;simp only[Z9]at hv;have e:((p:Int)=2):=aa;have pw:=A8 (n:=n) aa;rw[hv]at pw;simp[r8,e];refine cd pw ?_;simp;exact fA rfl
 .rw[if_neg h2]at hv;have e:¬((p:Int)=2):=aa;have dg:=OL (p:=p) (n:=n) (more:=n+64) hp hp2 aa aa aa;rw[hv]at dg;obtain⟨m,hm⟩:=nmQ (n+64);rw[<-hm]at dg;have e3:(n:Int)+64=(m:Int):=aa;simp(disch:=try exact af)[r8,e,e3];refine lo (ai ?_);simp[B9];refine cd dg ?_;simp[dgV];exact fA rfl
abbrev Q:=Int×Nat
def okQ(x:Q):Prop:=0<x.2∧Nat.gcd x.1.natAbs x.2=1
def qT(x:Q):LwQ:=[S (itoa x.1),S (ah x.2)]
def lY(n:Int)(d:Nat):Q:=(n/(Nat.gcd n.natAbs d:Nat),d/Nat.gcd n.natAbs d)
def oL(a b:Q):Q:=lY (a.1*b.2+b.1*a.2) (a.2*b.2)
def vt(a b:Q):Q:=lY (a.1*b.1) (a.2*b.2)
def tU(a:Q):Q:=(-a.1,a.2)
def fM(n d:Int):Q:=if d<0 then lY (-n) d.natAbs else lY n d.natAbs
def rr(a b:Q):Q:=fM (a.1*b.2) (a.2*b.1)
theorem ZV{n:Int}(h:g∣n.natAbs):(g:Int)∣n:=Int.natAbs_dvd_natAbs.1 (by simpa using h)
theorem Dn(n:Int)(hd:0<d):okQ (lY n d):=by
 have hg:0<Nat.gcd n.natAbs d:=W6 _ hd;obtain⟨g,hgg⟩:=nmQ (Nat.gcd n.natAbs d);have h1:g∣n.natAbs:=by rw[hgg];exact Wn ..
 have h2:g∣d:=by rw[hgg];exact Nat.gcd_dvd_right ..
 unfold lY;rw[<-hgg]at hg ⊢;refine⟨Nat.div_pos (Wx hd h2) hg,?_⟩
 have e:(n/(g:Int)).natAbs=n.natAbs/g:=by
  rw[Int.natAbs_ediv_of_dvd (ZV h1),Int.natAbs_natCast]
 simp only[e];rw[Nat.gcd_div h1 h2,<-hgg,Nat.div_self hg]
theorem V3{n:Int}(h:Nat.gcd n.natAbs d=1):lY n d=(n,d):=by unfold lY;rw[h];simp
theorem zE(n:Int)(d:Nat):(lY n d).1.natAbs<=n.natAbs∧(lY n d).2<=d:=by
 obtain⟨g,hgg⟩:=nmQ (Nat.gcd n.natAbs d);have h1:g∣n.natAbs:=by rw[hgg];exact Wn ..
 unfold lY;rw[<-hgg];constructor
 .simp only;rw[Int.natAbs_ediv_of_dvd (ZV h1),Int.natAbs_natCast];exact Yu ..
 .exact Yu ..
theorem abw(k:KL)(h:Hp)(h0:Hp)(hl:h.length=h0.length):∀(m:Nat)(a b:Int),b.natAbs<=m->a.natAbs<9223372036854775807->b.natAbs<9223372036854775807 ->
  (∀c:Int,c.natAbs=Nat.gcd a.natAbs b.natAbs->k (.exit 0) [I c] h)->lp (nu (CX Y)) [] h0 [I a,I b] h k:=by
 intro m
 induction m with
 | zero=>
  intro a b hb ha hb2 hk;have hb0:b=0:=aa;subst hb0;refine ai ?_;simp[nu];exact hk a ac
 | succ m ih=>
  intro a b hb ha hb2 hk;refine ai ?_;by_cases hb0:b=0
  .subst hb0;simp[nu];exact hk a ac
  ·have hr:(a.tmod b).natAbs<b.natAbs:=by
    rw[Int.natAbs_tmod];exact Yz _ aa
   have e:Nat.gcd b.natAbs (a.tmod b).natAbs=Nat.gcd a.natAbs b.natAbs:=by
    rw[Int.natAbs_tmod,V9,<-Nat.gcd_rec,V9]
   simp[nu,hb0,hl];exact ih b (a.tmod b) aa aa aa (λc hc=>hk c (hc.trans e))
theorem mh{a b a' b':LuQ}{h:Hp}(e1:a'=a)(e2:b'=b):out (.agg [S a,S b]) (.agg [S a',S b']) h:=by subst e1;subst e2;exact⟨h,by simp[cF,aO,norm]⟩
theorem QN{n:Int}(hd:0<d)(hn:n.natAbs<9223372036854775807)(hd2:d<9223372036854775807):CP Y F.jg [I n,I d] (.agg (qT (lY n d))):=by
 refine GK ?_;obtain⟨g,hgg⟩:=nmQ (Nat.gcd n.natAbs d);have hg:0<g:=by rw[hgg];exact W6 _ hd
 have h1:g∣n.natAbs:=by rw[hgg];exact Wn ..
 have h2:g∣d:=by rw[hgg];exact Nat.gcd_dvd_right ..
 have hgd:g<=d:=Wx hd h2;have e1:n.tdiv (g:Int)=n/(g:Int):=Int.tdiv_eq_ediv_of_dvd (ZV h1);have e2:(d:Int).tdiv (g:Int)=((d/g:Nat):Int):=by rw[Zr aa,<-Int.natCast_ediv]
 have e3:(n/(g:Int)).natAbs<=n.natAbs:=by
  rw[Int.natAbs_ediv_of_dvd (ZV h1),Int.natAbs_natCast];exact Yu ..
 have e4:d/g<=d:=Yu ..;have eq:qT (lY n d)=[S (itoa (n/(g:Int))),S (ah (d/g))]:=by unfold qT lY;rw[<-hgg]
 rw[eq];generalize n/(g:Int)=nq at *;generalize d/g=dq at *;have i1:=Dt (z:=nq) aa aa;have i2:=Dt (z:=(dq:Int)) aa aa;rw[jC]at i2;have hg0:¬(g:Int)=0:=aa;simp[jg];refine lo (abw _ _ _ rfl (d:Int).natAbs n d (Z8 _) hn aa (λc hc=>?_));rw[Int.natAbs_natCast,<-hgg]at hc;simp
 have tail:∀u:Unit,bnd (biI .quo (I n) (I g)) λv6=>
   cal (CX Y).p [(1,.vars [.d (.str []),.d (.str [])])] (.fn F.strconv_Itoa [] []) [v6] λv7 h=>
   bnd (biI .quo (I d) (I g)) λv8=>
   cal (CX Y).p h (.fn F.strconv_Itoa [] []) [v8] λv9 h=>
   bnd (bld [(0,1),(1,1)] [.str [],.str []] [(0,v7),(1,v9)]) λv10=>
   stD h 2 (.ptr 0 1 0 2) v10 λ_ h=>
   bnd (ldA h 2 (.ptr 0 1 0 2)) λv12=>
   out (.agg [S (itoa nq),S (ah dq)]) v12 h:=by
  intro _;simp(disch:=try exact af)[e1,e2,hg0];refine cd i1 ?_;simp(disch:=try exact af)[e2,hg0];refine cd i2 ?_;simp;exact mh rfl rfl
 by_cases hc0:c<0
 .have hcg : -c=(g:Int):=aa;refine gQ (l:=[I g]) (h:=[(1,.vars [.d (.str []),.d (.str [])])]) (λq=>by simp(disch:=try exact af)[hc0,hcg]) ?_;exact tail ()
 .have hcg:c=(g:Int):=aa;subst hcg;refine gQ (l:=[I g]) (h:=[(1,.vars [.d (.str []),.d (.str [])])]) (λq=>by simp[hc0]) ?_;exact tail ()
def qL(K:Nat)(x:Q):Prop:=ndg x.1.natAbs<=K∧ndg x.2<=K
theorem Jw{n:Int}{K:Nat}(h1:ndg n.natAbs<=K)(h2:ndg d<=K):qL K (lY n d):=
 ⟨Z4 (cG (zE n d).1) h1,Z4 (cG (zE n d).2) h2⟩
theorem qL.mono{K L:Nat}{x:Q}(h:qL K x)(hl:K<=L):qL L x:=⟨Z4 h.1 hl,Z4 h.2 hl⟩
theorem wJ{z w:Int}{k:Nat}(hz:ndg z.natAbs<=k)(hw:ndg w.natAbs<=k):ndg (z+w).natAbs<=k+1:=
 Z4 (cG (X7 z w)) (sS hz hw)
theorem fB{z w:Int}:ndg (z*w).natAbs<=ndg z.natAbs+ndg w.natAbs:=by rw[Zm];exact sR
theorem N4{a b:Q}{K L:Nat}(ha:qL K a)(hb:qL L b):qL (K+L+1) (oL a b):=by
 refine Jw (wJ ?_ ?_) ?_
 .have:=fB (z:=a.1) (w:=(b.2:Int));rw[Int.natAbs_natCast]at this;have:=ha.1;have:=hb.2;omega
 .have:=fB (z:=b.1) (w:=(a.2:Int));rw[Int.natAbs_natCast]at this;have:=hb.1;have:=ha.2;omega
 .have:=sR (a:=a.2) (b:=b.2);have:=ha.2;have:=hb.2;omega
theorem Vp{a b:Q}{K L:Nat}(ha:qL K a)(hb:qL L b):qL (K+L) (vt a b):=by
 refine Jw ?_ ?_
 .have:=fB (z:=a.1) (w:=b.1);have:=ha.1;have:=hb.1;omega
 .have:=sR (a:=a.2) (b:=b.2);have:=ha.2;have:=hb.2;omega
theorem Jb{a b:Q}(ha:okQ a)(hb:okQ b):okQ (oL a b):=Dn _ (Yl ha.1 hb.1)
theorem PW{a b:Q}(ha:okQ a)(hb:okQ b):okQ (vt a b):=Dn _ (Yl ha.1 hb.1)
theorem TM{z w:Int}(hw0:0<w)(hz:ndg z.natAbs<900000)(hw:ndg w.natAbs<900000):CP Y F.aS [S (itoa z),S (itoa w)] (.tup [S (itoa (z/w)),S (itoa (z%w)),I 0]):=by obtain⟨m,rfl⟩:∃m:Nat,w=m:=⟨w.toNat,aa⟩;rw[jC];exact yb aa hz (by simpa using hw)
theorem Bp{n d:Int}(hd:d≠0)(hn:ndg n.natAbs<800000)(hd2:ndg d.natAbs<800000):CP Y F.bq [S (itoa n),S (itoa d)] (.agg (qT (fM n d))):=by
 refine zX ?_;have sg0:=m7 d
 have tail:∀(n:Int)(d:Nat),0<d->ndg n.natAbs<800000->ndg d<800000 ->
   cal (CX Y).p [(1,.vars [.d (.str []),.d (.str [])])] (.fn F.oR [] []) [S (itoa n),S (ah d)] λv6 h=>
  bnd (biS .neq v6 (.d (.str [49]))) λv7=>
  jn (λl8 h=>
   bnd (bld [(0,1),(1,1)] [.str [],.str []] [(0,(ge l8 0)),(1,(ge l8 1))]) λv10=>
   stD h 2 (.ptr 0 1 0 2) v10 λ_ h=>
   bnd (ldA h 2 (.ptr 0 1 0 2)) λv12=>
   out (.agg (qT (lY n d))) v12 h) λq9=>
   cnd v7 (
    cal (CX Y).p h (.fn F.aS [] []) [S (itoa n),v6] λv13 h=>
    ext v13 0 λv14=>
    ext v13 1 λv15=>
    ext v13 2 λv16=>
    cal (CX Y).p h (.fn F.aS [] []) [S (ah d),v6] λv17 h=>
    ext v17 0 λv18=>
    ext v17 1 λv19=>
    ext v17 2 λv20=>
    q9 [v14,v18] h) (
    q9 [S (itoa n),S (ah d)] h):=by
  intro n d hd hn hd2;have gc:=QL (z:=n) (w:=(d:Int)) aa (by simpa using Nat.lt_trans hd2 ae);rw[jC,Int.natAbs_natCast]at gc;obtain⟨g,hgg⟩:=nmQ (Nat.gcd n.natAbs d);have hg:0<g:=by rw[hgg];exact W6 _ hd
  have hgd:g<=d:=Wx hd (by rw[hgg];exact Nat.gcd_dvd_right ..);have eq:lY n d=(n/(g:Int),d/g):=by unfold lY;rw[<-hgg]
  rw[<-hgg]at gc;rw[eq];have ng:ndg g<900000:=Ze (cG hgd) aa;have d1:=yb (z:=n) hg aa ng;have d2:=tJ (a:=d) hg aa ng;simp;refine cd gc ?_;by_cases h1:g=1
  .subst h1;rw[iw];simp;refine gQ (l:=[S (itoa n),S (ah d)]) (h:=[(1,.vars [.d (.str []),.d (.str [])])]) (λq=>by simp) ?_;simp;refine mh ac ac
  .have h49:¬ah g=[49]:=λh=>h1 (o8 (h.trans iw.symm))
   simp[h49];refine aC ?_;simp[h49];refine cd d1 ?_;simp;refine cd d2 ?_;simp;exact mh rfl rfl
 simp[bq];refine cd sg0 ?_;by_cases hneg:d<0
 .have s1:sgn d = -1:=by unfold sgn;rw[if_neg hd,if_pos hneg]
  rw[s1];have hd3:ndg (-d).natAbs<800000:=by rw[Xh];exact hd2
  have n1:=zw (z:=n) aa;have n2:=zw (z:=d) aa;have e:fM n d=lY (-n) d.natAbs:=if_pos hneg;have ed:itoa (-d)=ah d.natAbs:=by rw[show -d=((d.natAbs:Nat):Int) by omega,jC]
  rw[e];rw[ed]at n2;simp;refine aC ?_;simp;refine cd n1 ?_;simp;refine cd n2 ?_;have:=tail (-n) d.natAbs aa (by rw[Xh];exact hn) hd2;simpa using this
 .have s1:sgn d=1:=by unfold sgn;rw[if_neg hd,if_neg hneg]
  rw[s1];have e:fM n d=lY n d.natAbs:=if_neg hneg;have ed:itoa d=ah d.natAbs:=by conv=>lhs;rw[show d=((d.natAbs:Nat):Int) by omega,jC]
  rw[e,ed];simp;refine aC ?_;simp;have:=tail n d.natAbs aa hn hd2;simpa using this
theorem ui(a:Q):CP Y F.dp [.agg (qT a)] (.tup [I (if sdg a.1<=9 then a.1 else 0),I (if ndg a.2<=9 then a.2 else 0),B (decide (sdg a.1<=9)&&decide (ndg a.2<=9))]):=by
 refine CM ?_;have l1:=E7 a.1;have l2:=E7 (a.2:Int);have e:sdg (a.2:Int)=ndg a.2:=by unfold sdg;rw[if_neg aa,Int.natAbs_natCast];rfl
 rw[jC,e]at l2;simp[dp,qT];refine cd l1 ?_;by_cases h1:sdg a.1<=9
 .rw[if_pos h1,if_pos h1,decide_eq_true h1];simp;refine cd l2 ?_;by_cases h2:ndg a.2<=9
  .rw[if_pos h2,if_pos h2,decide_eq_true h2];simp;exact jz rfl rfl rfl
  .rw[if_neg h2,if_neg h2,decide_eq_false h2];simp;exact jz rfl rfl rfl
 .rw[if_neg h1,if_neg h1,decide_eq_false h1];simp;refine cd l2 ?_;by_cases h2:ndg a.2<=9
  .rw[if_pos h2,if_pos h2,decide_eq_true h2];simp;exact jz rfl rfl rfl
  .rw[if_neg h2,if_neg h2,decide_eq_false h2];simp;exact jz rfl rfl rfl
theorem Do(n:Int)(hd:0<d):(lY n d).1*(d:Int)=n*((lY n d).2:Int)∧0<(lY n d).2:=by
 obtain⟨g,hg⟩:=nmQ (Nat.gcd n.natAbs d);have hg0:0<g:=by rw[hg];exact W6 _ hd
 obtain⟨d',hd'⟩:g∣d:=by rw[hg];exact Nat.gcd_dvd_right ..
 obtain⟨n',hn'⟩:(g:Int)∣n:=ZV (by rw[hg];exact Wn ..)
 have e1:(lY n d).1=n':=by
  simp only[lY,<-hg];rw[hn'];exact Int.mul_ediv_cancel_left _ aa
 have e2:(lY n d).2=d':=by
  simp only[lY,<-hg];rw[hd'];exact Nat.mul_div_cancel_left _ hg0
 rw[e1,e2];refine⟨?_,?_⟩
 .rw[hn',hd',Int.natCast_mul,<-Int.mul_assoc,X0 n' g]
 .rcases Zb d' with h|h
  .rw[h]at hd';omega
  .exact h
theorem Qp{n:Int}(hd:0<d)(hn:ndg n.natAbs<800000)(hd2:ndg d<800000):CP Y F.bq [S (itoa n),S (ah d)] (.agg (qT (lY n d))):=by have:=Bp (n:=n) (d:=(d:Int)) aa hn (by trivial);trivial
theorem AG{z:Int}{b:Nat}(hz:ndg z.natAbs<400000)(hb:ndg b<400000):CP Y F.aP [S (itoa z),S (ah b)] (S (itoa (z*b))):=by grind[oi,jC]
theorem Eh(h:Hp)(s t:LuQ):aO h [.agg [S s,S t]]=some ([.agg [S s,S t]],h):=by rfl
theorem IS{a:Q}(h1:sdg a.1<=9)(h2:ndg a.2<=9):a.1.natAbs<1000000000∧a.2<1000000000:=
 ⟨re h1,Z2 (cJ _) (Z3 ae h2)⟩
theorem XZ{a b:Q}(ha:okQ a)(hb:okQ b)(la:qL 100000 a)(lb:qL 100000 b):CP Y F.mc [.agg (qT a),.agg (qT b)] (.agg (qT (vt a b))):=by
 refine FD ?_;obtain⟨la1,la2⟩:=la;obtain⟨lb1,lb2⟩:=lb;have b1:=ui a;have b2:=ui b;have m1:=oi (z:=a.1) (w:=b.1) aa aa;have m2:=vW (a:=a.2) (b:=b.2) aa aa;have n1:=fB (z:=a.1) (w:=b.1);have n2:=sR (a:=a.2) (b:=b.2);have hd:0<a.2*b.2:=Yl ha.1 hb.1
 have lw:CP Y F.bq [S (itoa (a.1*b.1)),S (ah (a.2*b.2))] (.agg (qT (vt a b))):=Qp (n:=a.1*b.1) hd aa aa;have ff:(a.1*b.1).natAbs<9223372036854775807->a.2*b.2<9223372036854775807->CP Y F.jg [I (a.1*b.1),I (a.2*b.2:Nat)] (.agg (qT (vt a b))):=λh1 h2=>QN hd h1 h2
 obtain⟨x,y,hxy⟩:∃x y,qT (vt a b)=[S x,S y]:=⟨_,_,rfl⟩;rw[hxy]at lw ff ⊢;simp only[qT]at b1 b2 ⊢
 have tail:∀u:Unit,cal (CX Y).p [(1,.vars [S (itoa a.1),S (ah a.2)]),(1,.vars [S (itoa b.1),S (ah b.2)]),(1,.vars [.d (.str []),.d (.str [])])] (.fn F.aP [] []) [S (itoa a.1),S (itoa b.1)] λv15 h=>
  bnd (faV 1 (.ptr 0 1 0 2)) λv16=>
  bnd (ld1 h v16) λv17=>
  bnd (faV 1 (.ptr 1 1 0 2)) λv18=>
  bnd (ld1 h v18) λv19=>
  cal (CX Y).p h (.fn F.aP [] []) [v17,v19] λv20 h=>
  cal (CX Y).p h (.fn F.bq [] []) [v15,v20] λv21 h=>
  stD h 2 (.ptr 2 1 0 2) v21 λ_ h=>
  bnd (ldA h 2 (.ptr 2 1 0 2)) λv23=>
  out (.agg [S x,S y]) v23 h:=by
  intro _;simp;refine cd m1 ?_;simp;refine cd m2 ?_;simp;refine cd lw ?_;simp;exact mh rfl rfl
 simp[mc];refine cd b1 ?_ (Eh ..);cases g1:decide (sdg a.1<=9)&&decide (ndg a.2<=9)with
 | false=>
  simp;refine aC ?_;simp
  simp_all
 | true=>
  simp only[Z7,decide_eq_true_eq]at g1;obtain⟨s1,s2⟩:=IS g1.1 g1.2;rw[if_pos g1.1,if_pos g1.2];simp;refine aC ?_;simp;refine cd b2 ?_ (Eh ..);cases g2:decide (sdg b.1<=9)&&decide (ndg b.2<=9)with
  | false=>
   simp
   simp_all
  | true=>
   simp only[Z7,decide_eq_true_eq]at g2;obtain⟨s3,s4⟩:=IS g2.1 g2.2;rw[if_pos g2.1,if_pos g2.2];have p1:(a.1*b.1).natAbs<1000000000*1000000000:=by rw[Zm];exact Ys s1 s3
   have p2:a.2*b.2<1000000000*1000000000:=Ys s2 s4;have e2:(a.2:Int)*(b.2:Int)=((a.2*b.2:Nat):Int):=ac;have ff:=ff aa aa;obtain⟨N,hN⟩:=mnQ (a.1*b.1);rw[hN]at p1 ff;generalize a.2*b.2=D at *;simp(disch:=try exact af)[e2,hN];refine cd ff ?_;simp;simp[mh]
theorem MA{a b:Q}(ha:okQ a)(hb:okQ b)(la:qL 100000 a)(lb:qL 100000 b):CP Y F.fT [.agg (qT a),.agg (qT b)] (.agg (qT (oL a b))):=by
 refine FG ?_;obtain⟨la1,la2⟩:=la;obtain⟨lb1,lb2⟩:=lb;have b1:=ui a;have b2:=ui b;have m1:=AG (z:=a.1) (b:=b.2) aa aa;have m2:=AG (z:=b.1) (b:=a.2) aa aa;have m3:=vW (a:=a.2) (b:=b.2) aa aa;have n1:=fB (z:=a.1) (w:=(b.2:Int));have n2:=fB (z:=b.1) (w:=(a.2:Int))
 have n3:=sR (a:=a.2) (b:=b.2);rw[Int.natAbs_natCast]at n1 n2;have n4:ndg (a.1*b.2+b.1*a.2).natAbs<=200000+1:=wJ aa aa;have ad:=tK (z:=a.1*b.2) (w:=b.1*a.2) aa aa;have hd:0<a.2*b.2:=Yl ha.1 hb.1
 have lw:CP Y F.bq [S (itoa (a.1*b.2+b.1*a.2)),S (ah (a.2*b.2))] (.agg (qT (oL a b))):=Qp hd aa aa;have ff:(a.1*b.2+b.1*a.2).natAbs<9223372036854775807->a.2*b.2<9223372036854775807->CP Y F.jg [I (a.1*b.2+b.1*a.2),I (a.2*b.2:Nat)] (.agg (qT (oL a b))):=λh1 h2=>QN hd h1 h2
 by_cases one:a.2=1∧b.2=1
 .have ad1:=tK (z:=a.1) (w:=b.1) aa aa
  have eq:oL a b=(a.1+b.1,1):=by
   unfold oL;rw[one.1,one.2];rw[V3 ac];simp
  rw[eq];have t1:qT a=[S (itoa a.1),S [49]]:=by unfold qT;rw[one.1,iw]
  have t2:qT b=[S (itoa b.1),S [49]]:=by unfold qT;rw[one.2,iw]
  have t3:qT (a.1+b.1,1)=[S (itoa (a.1+b.1)),S [49]]:=by unfold qT;rw[iw]
  rw[t1,t2,t3];simp[fT];refine cd ad1 ?_;simp;simp[mh]
 obtain⟨x,y,hxy⟩:∃x y,qT (oL a b)=[S x,S y]:=⟨_,_,rfl⟩;rw[hxy]at lw ff ⊢;simp only[qT]at b1 b2 ⊢
 have tail:∀u:Unit,cal (CX Y).p [(1,.vars [S (itoa a.1),S (ah a.2)]),(1,.vars [S (itoa b.1),S (ah b.2)]),(1,.vars [.d (.str []),.d (.str [])])] (.fn F.aP [] []) [S (itoa a.1),S (ah b.2)] λv30 h=>
   bnd (faV 0 (.ptr 1 1 0 2)) λv31=>
   bnd (ld1 h v31) λv32=>
   bnd (faV 1 (.ptr 0 1 0 2)) λv33=>
   bnd (ld1 h v33) λv34=>
   cal (CX Y).p h (.fn F.aP [] []) [v32,v34] λv35 h=>
   cal (CX Y).p h (.fn F.cO [] []) [v30,v35] λv36 h=>
   bnd (faV 1 (.ptr 0 1 0 2)) λv37=>
   bnd (ld1 h v37) λv38=>
   bnd (faV 1 (.ptr 1 1 0 2)) λv39=>
   bnd (ld1 h v39) λv40=>
   cal (CX Y).p h (.fn F.aP [] []) [v38,v40] λv41 h=>
   cal (CX Y).p h (.fn F.bq [] []) [v36,v41] λv42 h=>
   stD h 2 (.ptr 2 1 0 2) v42 λ_ h=>
   bnd (ldA h 2 (.ptr 2 1 0 2)) λv44=>
   out (.agg [S x,S y]) v44 h:=by
  intro _;simp;refine cd m1 ?_;simp;refine cd m2 ?_;simp;refine cd ad ?_;simp;refine cd m3 ?_;simp;refine cd lw ?_;simp;exact mh rfl rfl
 have hne:¬(ah a.2=[49]∧ah b.2=[49]):=λh=>one ⟨o8 (h.1.trans iw.symm),o8 (h.2.trans iw.symm)⟩
 have walk:∀u:Unit,bnd (ldA [(1,.vars [S (itoa a.1),S (ah a.2)]),(1,.vars [S (itoa b.1),S (ah b.2)]),(1,.vars [.d (.str []),.d (.str [])])] 2 (.ptr 0 1 0 2)) λv19=>
  cal (CX Y).p [(1,.vars [S (itoa a.1),S (ah a.2)]),(1,.vars [S (itoa b.1),S (ah b.2)]),(1,.vars [.d (.str []),.d (.str [])])] (.fn F.dp [] []) [v19] λv20 h=>
  ext v20 0 λv21=>
  ext v20 1 λv22=>
  ext v20 2 λv23=>
  jn (λl24 h=>
   bnd (faV 0 (.ptr 0 1 0 2)) λv26=>
   bnd (ld1 h v26) λv27=>
   bnd (faV 1 (.ptr 1 1 0 2)) λv28=>
   bnd (ld1 h v28) λv29=>
   cal (CX Y).p h (.fn F.aP [] []) [v27,v29] λv30 h=>
   bnd (faV 0 (.ptr 1 1 0 2)) λv31=>
   bnd (ld1 h v31) λv32=>
   bnd (faV 1 (.ptr 0 1 0 2)) λv33=>
   bnd (ld1 h v33) λv34=>
   cal (CX Y).p h (.fn F.aP [] []) [v32,v34] λv35 h=>
   cal (CX Y).p h (.fn F.cO [] []) [v30,v35] λv36 h=>
   bnd (faV 1 (.ptr 0 1 0 2)) λv37=>
   bnd (ld1 h v37) λv38=>
   bnd (faV 1 (.ptr 1 1 0 2)) λv39=>
   bnd (ld1 h v39) λv40=>
   cal (CX Y).p h (.fn F.aP [] []) [v38,v40] λv41 h=>
   cal (CX Y).p h (.fn F.bq [] []) [v36,v41] λv42 h=>
   stD h 2 (.ptr 2 1 0 2) v42 λ_ h=>
   bnd (ldA h 2 (.ptr 2 1 0 2)) λv44=>
   out (.agg [S x,S y]) v44 h) λq25=>
   cnd v23 (
    bnd (ldA h 2 (.ptr 1 1 0 2)) λv45=>
    cal (CX Y).p h (.fn F.dp [] []) [v45] λv46 h=>
    ext v46 0 λv47=>
    ext v46 1 λv48=>
    ext v46 2 λv49=>
    cnd v49 (
     bnd (biI .mul v21 v48) λv50=>
     bnd (biI .mul v47 v22) λv51=>
     bnd (biI .add v50 v51) λv52=>
     bnd (biI .mul v22 v48) λv53=>
     cal (CX Y).p h (.fn F.jg [] []) [v52,v53] λv54 h=>
     stD h 2 (.ptr 2 1 0 2) v54 λ_ h=>
     bnd (ldA h 2 (.ptr 2 1 0 2)) λv56=>
     out (.agg [S x,S y]) v56 h) (
     q25 [] h)) (
    q25 [] h):=by
  intro _;simp;refine cd b1 ?_ (Eh ..);cases g1:decide (sdg a.1<=9)&&decide (ndg a.2<=9)with
  | false=>
   simp;refine aC ?_;simp
   simp_all
  | true=>
   simp only[Z7,decide_eq_true_eq]at g1;obtain⟨s1,s2⟩:=IS g1.1 g1.2;rw[if_pos g1.1,if_pos g1.2];simp;refine aC ?_;simp;refine cd b2 ?_ (Eh ..);cases g2:decide (sdg b.1<=9)&&decide (ndg b.2<=9)with
   | false=>
    simp
    simp_all
   | true=>
    simp only[Z7,decide_eq_true_eq]at g2;obtain⟨s3,s4⟩:=IS g2.1 g2.2;rw[if_pos g2.1,if_pos g2.2];have p1:(a.1*b.2).natAbs<1000000000*1000000000:=by rw[Zm,Int.natAbs_natCast];exact Ys s1 s4
    have p3:(b.1*a.2).natAbs<1000000000*1000000000:=by rw[Zm,Int.natAbs_natCast];exact Ys s3 s2
    have p2:a.2*b.2<1000000000*1000000000:=Ys s2 s4;have e2:(a.2:Int)*(b.2:Int)=((a.2*b.2:Nat):Int):=ac;have ff:=ff aa aa;obtain⟨N,hN⟩:∃N,a.1*(b.2:Int)=N:=⟨_,rfl⟩;obtain⟨M,hM⟩:∃M,b.1*(a.2:Int)=M:=⟨_,rfl⟩;rw[hN]at p1 ff;rw[hM]at p3 ff;generalize a.2*b.2=D at *;simp(disch:=try exact af)[e2,hN,hM];refine cd ff ?_;simp
    simp[mh]
 by_cases c1:ah a.2=[49]
 .have c2:¬ah b.2=[49]:=λh=>hne ⟨c1,h⟩
  simp[fT,c1,c2]
  simp_all
 .simp[fT,c1]
  simp_all
theorem S5(a:Q):CP Y F.mC [.agg (qT a)] (I (sgn a.1)):=by refine CN ?_;simp[mC,qT];refine cd (m7 a.1) ?_;exact aW rfl
theorem Lh(z:Int):sgn z=0↔z=0:=by
 unfold sgn;constructor
 .intro h;split at h
  .assumption
  .split at h<;>omega
 .intro h;rw[if_pos h]
theorem EL{a b:LuQ}{c:Int}{h:Hp}:out (.tup [.agg [S a,S b],I c]) (.tup [.agg [S a,S b],I c]) h:=⟨h,by simp[cF,aO,norm]⟩
theorem FI{a b:Q}(ha:okQ a)(hb:okQ b)(h0:b.1≠0)(la:qL 100000 a)(lb:qL 100000 b):CP Y F.gX [.agg (qT a),.agg (qT b)] (.tup [.agg (qT (rr a b)),I 0]):=by
 refine FE ?_;obtain⟨la1,la2⟩:=la;obtain⟨lb1,lb2⟩:=lb;have sg0:=S5 b;have hs:¬sgn b.1=0:=λh=>h0 ((Lh _).1 h)
 have m1:=AG (z:=a.1) (b:=b.2) aa aa;have m2:=oi (z:=(a.2:Int)) (w:=b.1) (by rw[Int.natAbs_natCast];omega) aa;rw[jC]at m2;have n1:=fB (z:=a.1) (w:=(b.2:Int));have n2:=fB (z:=(a.2:Int)) (w:=b.1);rw[Int.natAbs_natCast]at n1 n2;have hne:(a.2:Int)*b.1≠0:=Xy (by have:=ha.1;omega) h0
 have lw:CP Y F.bq [S (itoa (a.1*b.2)),S (itoa (a.2*b.1))] (.agg (qT (rr a b))):=Bp hne aa aa;obtain⟨x,y,hxy⟩:∃x y,qT (rr a b)=[S x,S y]:=⟨_,_,rfl⟩;rw[hxy]at lw ⊢;generalize sgn b.1=sb at *;simp only[qT]at sg0 ⊢;simp(disch:=try exact af)[gX];refine cd sg0 ?_ (Eh ..);simp(disch:=try exact af)[hs]
 refine cd m1 ?_;simp(disch:=try exact af);refine cd m2 ?_;simp(disch:=try exact af);refine cd lw ?_;simp(disch:=try exact af);exact EL
theorem XY{n d:Int}(hd:d≠0)(hn:ndg n.natAbs<800000)(hd2:ndg d.natAbs<800000):CP Y F.nL [S (itoa n),S (itoa d)] (.tup [.agg (qT (fM n d)),I 0]):=by
 refine FB ?_;have sg0:=m7 d;have hs:¬sgn d=0:=λh=>hd ((Lh _).1 h)
 have lw:=Bp hd hn hd2;obtain⟨x,y,hxy⟩:∃x y,qT (fM n d)=[S x,S y]:=⟨_,_,rfl⟩;rw[hxy]at lw ⊢;generalize sgn d=sb at *;simp[nL];refine cd sg0 ?_;simp[hs];refine cd lw ?_;simp;exact EL
theorem pB{z:Int}(h1 : -9223372036854775808<z)(h2:z<9223372036854775808):ndg z.natAbs<=19:=dG aa ae
theorem wV{n d:Int}(hd:d≠0)(h1 : -9223372036854775808<n)(h2:n<9223372036854775808)(h3 : -9223372036854775808<d)(h4:d<9223372036854775808):CP Y F.fD [I n,I d] (.tup [.agg (qT (fM n d)),I 0]):=by refine GL ?_;have nw:=XY (n:=n) hd (Ze (pB h1 h2) ae) (Ze (pB h3 h4) ae);obtain⟨x,y,hxy⟩:∃x y,qT (fM n d)=[S x,S y]:=⟨_,_,rfl⟩;rw[hxy]at nw ⊢;simp[fD];refine cd (kX h1 h2) ?_;simp;refine cd (kX h3 h4) ?_;simp;refine cd nw ?_;simp;exact EL
theorem JP(z:Int){b:Nat}(hb:0<b):z.fdiv (-(b:Int))=(-z)/(b:Int)∧z.fmod (-(b:Int)) = -((-z)%(b:Int)):=by
 have e:z.fdiv (-(b:Int))=(-z)/(b:Int):=by
  rw[<-Int.fdiv_eq_ediv_of_nonneg (-z) (by omega:(0:Int)<=(b:Int)),<-Int.neg_fdiv_neg (-z) (b:Int),V7]
 refine⟨e,?_⟩;rw[Int.fmod_def,e];have:=Int.mul_ediv_add_emod (-z) (b:Int)
 grind
theorem MF(x y:Int)(hy:y≠0):(x.fdiv y).natAbs<=x.natAbs:=by
 by_cases h:0<y
 .rw[Int.fdiv_eq_ediv_of_nonneg _ aa];exact Int.natAbs_ediv_le_natAbs ..
 .obtain⟨b,hb⟩:∃b:Nat,b=y.natAbs:=⟨_,rfl⟩;have e:y = -(b:Int):=aa;rw[e,(JP x (b:=b) aa).1]
  grind[Int.natAbs_ediv_le_natAbs]
theorem ZA{z:Int}{b:Nat}(hb:0<b)(hz:ndg z.natAbs<900000)(hbd:ndg b<900000):
   cal (CX Y).p [] (.fn F.aL [] []) [S (itoa z)] λv7 h=>
   ext v7 0 λv8=>
   ext v7 1 λv9=>
   cal (CX Y).p h (.fn F.aL [] []) [S (itoa (-(b:Int)))] λv10 h=>
   ext v10 0 λv11=>
   ext v10 1 λv12=>
   cal (CX Y).p h (.fn F.dZ [] []) [v9,v12] λv13 h=>
   ext v13 0 λv14=>
   ext v13 1 λv15=>
   ext v13 2 λv16=>
   bnd (biI .neq v16 (.d (.int .i64 0))) λv17=>
   cnd v17 (
    out (.tup [S (itoa ((-z)/b)),S (itoa (-((-z)%b))),I 0]) (.tup [(.d (.str [])),(.d (.str [])),v16]) h) (
    bnd (biB .neq v8 v11) λv18=>
    gd v18 true h (λq=>q v15 h) λv19 h=>
    gd v18 true h (λq=>bnd (biS .neq v19 (.d (.str [48]))) λv=>q v h) λv20 h=>
    bnd (mP v18 v20 (.d (.bool false))) λv21=>
    jn (λl22 h=>
     bnd (biB .neq v8 v11) λv24=>
     cal (CX Y).p h (.fn F.bW [] []) [v24,(ge l22 0)] λv25 h=>
     cal (CX Y).p h (.fn F.bW [] []) [v11,(ge l22 1)] λv26 h=>
     out (.tup [S (itoa ((-z)/b)),S (itoa (-((-z)%b))),I 0]) (.tup [v25,v26,(.d (.int .i64 0))]) h) λq23=>
     cnd v21 (
      cal (CX Y).p h (.fn F.gz [] []) [v14,(.d (.str [49]))] λv27 h=>
      cal (CX Y).p h (.fn F.ie [] []) [v12,v15] λv28 h=>
      ext v28 0 λv29=>
      ext v28 1 λv30=>
      q23 [v27,v29] h) (
      q23 [v14,v15] h)):=by
 have hq:ndg (z.natAbs/b)<=ndg z.natAbs:=cG (Yu ..);have hr:z.natAbs%b<b:=Yz _ hb;have hr2:ndg (z.natAbs%b)<=ndg b:=cG aa;have eb:∀x y:Bool,biB .neq (B x) (B y)=some (B (x !=y)):=λ_ _=>rfl
 have sb:=oW (-(b:Int));rw[decide_eq_true (by omega : -(b:Int)<0),show(-(b:Int)).natAbs=b by omega]at sb;simp;refine cd (oW z) ?_;simp;refine cd sb ?_;simp;refine cd (xz (a:=z.natAbs) hb aa aa) ?_;by_cases hneg:z<0
 .have ez : -z=(z.natAbs:Int):=aa;rw[decide_eq_true hneg];simp[eb];refine gQ (l:=[S (ah (z.natAbs/b)),S (ah (z.natAbs%b))]) (h:=[]) (λq=>by rfl) ?_;simp[eb];refine cd (hO false (n:=z.natAbs/b) aa) ?_;simp;refine cd (hO true (n:=z.natAbs%b) aa) ?_;refine oA ?_ ?_
  .rw[ez,<-Int.natCast_ediv];rfl
  .rw[ez,<-Int.natCast_emod];rfl
 .have ez : -z = -(z.natAbs:Int):=aa;obtain⟨d1,d2⟩:=uW (a:=z.natAbs) hb;rw[<-ez]at d1 d2;rw[decide_eq_false hneg];by_cases h0:z.natAbs%b=0
  .rw[if_pos h0]at d1 d2;rw[h0,dW];simp[eb];refine gQ (l:=[S (ah (z.natAbs/b)),S [48]]) (h:=[]) (λq=>by rfl) ?_;simp[eb];refine cd (hO true (n:=z.natAbs/b) aa) ?_;simp;have j0:=hO true (n:=0) (by grind);rw[dW]at j0;refine cd j0 ?_;refine oA ?_ ?_
   .rw[d1];rfl
   .rw[d2];rfl
  .rw[if_neg h0]at d1 d2;have h48:¬ah (z.natAbs%b)=[48]:=λh=>h0 (kv.1 h)
   have ad:=yP (a:=z.natAbs/b) (b:=1) aa (by simp[uF]);rw[show ah 1=[49] by decide+kernel]at ad;simp[eb,h48];refine aC ?_;simp[h48];refine cd ad ?_;simp;refine cd (xA (a:=b) (b:=z.natAbs%b) aa aa) ?_;simp[eb];have hq1:ndg (z.natAbs/b+1)<=900000+1:=sS aa (by simp[uF])
   refine cd (hO true (n:=z.natAbs/b+1) aa) ?_;simp;refine cd (hO true (n:=b-z.natAbs%b) (Ze (cG (Nat.sub_le ..)) aa)) ?_;refine oA ?_ ?_
   .rw[d1];rfl
   .rw[d2];rfl
theorem Ny{z:Int}{b:Nat}(hb:0<b)(hz:ndg z.natAbs<900000)(hbd:ndg b<900000):CP Y F.aS [S (itoa z),S (itoa (-(b:Int)))] (.tup [S (itoa ((-z)/b)),S (itoa (-((-z)%b))),I 0]):=by
 refine vU ?_;have l1:=oN z 18 ae;have l2:=oN (-(b:Int)) 18 ae;have tl:=ZA hb hz hbd
 have h48:¬itoa (-(b:Int))=[48]:=λh=>by
  have:=zP (h.trans (show[48]=itoa 0 by decide+kernel));omega
 simp[aS,h48];refine cd l1 ?_;by_cases h1:sdg z<=18
 .rw[if_pos h1];by_cases h2:sdg (-(b:Int))<=18
  .rw[if_pos h2]at l2;simp;refine aC ?_;simp;refine cd l2 ?_;have b1:=re h1;have b2:=re h2;simp only[Nat.reducePow]at b1 b2;have hbz:¬(-(b:Int))=0:=aa;have eb:∀x y:Bool,biB .neq (B x) (B y)=some (B (x !=y)):=λ_ _=>rfl
   obtain⟨n,hn⟩:=nmQ (z.natAbs);rw[<-hn]at b1;have hq:n/b<=n:=Yu ..;have hr:n%b<b:=Yz _ hb;have ym:(-(b:Int))<0:=aa;by_cases hneg:z<0
   .have ez:z = -(n:Int):=aa;have q1:z.tdiv (-(b:Int))=((n/b:Nat):Int):=by rw[ez,Int.neg_tdiv,Int.tdiv_neg,V7,Zr aa,<-Int.natCast_ediv]
    have q2:z.tmod (-(b:Int)) = -((n%b:Nat):Int):=by rw[ez,Int.neg_tmod,Int.tmod_neg,Zt aa,<-Int.natCast_emod]
    have d1:(-z)/(b:Int)=((n/b:Nat):Int):=by rw[ez,V7,<-Int.natCast_ediv]
    have d2:(-z)%(b:Int)=((n%b:Nat):Int):=by rw[ez,V7,<-Int.natCast_emod]
    obtain⟨q,hqq⟩:=nmQ (n/b);obtain⟨r,hrr⟩:=nmQ (n%b);rw[<-hqq]at q1 d1 hq;rw[<-hrr]at q2 d2 hr
    have fin:∀h:Hp,cal (CX Y).p h (V.fn F.dK [] []) [I q] λv45 h=>
      cal (CX Y).p h (V.fn F.dK [] []) [I (-(r:Int))] λv46 h=>out (V.tup [S (itoa ((-z)/(b:Int))),S (itoa (-((-z)%(b:Int)))),I 0]) (V.tup [v45,v46,V.d (D.int IntKind.i64 0)]) h:=by
     intro h;simp;refine cd (kX (z:=(q:Int)) aa aa) ?_;simp;refine cd (kX (z:=-(r:Int)) aa aa) ?_;refine oA ?_ ?_
     .rw[d1]
     .rw[d2]
    by_cases h0:r=0
    .subst h0;simp only[Int.natCast_zero,Int.neg_zero]at q2 fin;simp(disch:=try exact af)[q1,q2,hbz];refine gQ (l:=[I q,I 0]) (h:=[]) (λq=>by rfl) ?_;exact fin []
    .have r0:¬(-(r:Int))=0:=aa;have r1:(-(r:Int))<0:=aa;simp(disch:=try exact af)[q1,q2,r0,r1,ym,eb,hbz];refine gQ (l:=[I q,I (-(r:Int))]) (h:=[]) (λq=>by simp(disch:=try exact af)[r0,r1,ym,eb]) ?_;exact fin []
   .have ez:z=(n:Int):=aa;obtain⟨d1,d2⟩:=uW (a:=n) hb;rw[<-ez]at d1 d2;have q1:z.tdiv (-(b:Int)) = -((n/b:Nat):Int):=by rw[ez,Int.tdiv_neg,Zr aa,<-Int.natCast_ediv]
    have q2:z.tmod (-(b:Int))=((n%b:Nat):Int):=by rw[ez,Int.tmod_neg,Zt aa,<-Int.natCast_emod]
    obtain⟨q,hqq⟩:=nmQ (n/b);obtain⟨r,hrr⟩:=nmQ (n%b);rw[<-hqq]at q1 d1 hq;rw[<-hrr]at q2 d1 d2 hr;by_cases h0:r=0
    .rw[if_pos h0]at d1 d2;subst h0;simp only[Int.natCast_zero]at q2;simp(disch:=try exact af)[q1,q2,hbz];refine gQ (l:=[I (-(q:Int)),I 0]) (h:=[]) (λq=>by rfl) ?_;simp;refine cd (kX (z:=-(q:Int)) aa aa) ?_;simp;refine cd (kX (z:=0) aa aa) ?_;refine oA ?_ ?_
     .rw[d1]
     grind
    .rw[if_neg h0]at d1 d2;have r0:¬((r:Int))=0:=aa;have r1:¬(r:Int)<0:=aa;simp(disch:=try exact af)[q1,q2,r0,r1,ym,eb,hbz];refine gQ (l:=[I (-(q:Int)-1),I ((r:Int) + -(b:Int))]) (h:=[]) (λq=>by simp(disch:=try exact af)[r0,r1,ym]) ?_;simp;refine cd (kX (z:=-(q:Int)-1) aa aa) ?_;simp
     refine cd (kX (z:=(r:Int) + -(b:Int)) aa aa) ?_
     grind[oA]
  .rw[if_neg h2]at l2;simp;refine aC ?_;simp;refine cd l2 ?_;trivial
 simp_all[if_neg,aC]
theorem KF{z w:Int}(hw0:w≠0)(hz:ndg z.natAbs<900000)(hw:ndg w.natAbs<900000):CP Y F.aS [S (itoa z),S (itoa w)] (.tup [S (itoa (z.fdiv w)),S (itoa (z.fmod w)),I 0]):=by
 by_cases h:0<w
 .rw[Int.fdiv_eq_ediv_of_nonneg _ aa,Int.fmod_eq_emod_of_nonneg _ aa]
  grind[TM]
 .obtain⟨b,hb⟩:∃b:Nat,b=w.natAbs:=⟨_,rfl⟩;have e:w = -(b:Int):=aa;rw[<-hb]at hw;rw[e,(JP z (b:=b) aa).1,(JP z (b:=b) aa).2];exact Ny aa hz hw
theorem aaJ{z w:Int}(hz:ndg z.natAbs<999999)(hw:ndg w.natAbs<999999):CP Y F.rJ [S (itoa z),S (itoa w)] (S (itoa (z-w))):=by refine Kz ?_;simp[rJ];refine cd (zw aa) ?_;simp;refine cd (tK hz (by grind)) ?_;exact fA (by rw[Int.sub_eq_add_neg])
def sI(z:Int):D:=.str (itoa z)
theorem UD(P M Q:List α){x:α}(hj:j<M.length):(P++M++Q).take (P.length+j)++[x]++(P++M++Q).drop (P.length+j+1)=P++M.set j x++Q:=by
 obtain⟨a,y,c,rfl,rfl⟩:∃a y c,M=a++y::c∧j=a.length:=⟨M.take j,M[j],M.drop (j+1),ac,by grind⟩
 rw [show P++(a++y::c)++Q=((P++a)++[y])++(c++Q) by simp,show P.length+a.length+1=((P++a)++[y]).length by grind,List.drop_left,
  show((P++a)++[y])++(c++Q)=(P++a)++(y::(c++Q)) by simp,show P.length+a.length=(P++a).length by simp,Wq]
 simp
structure RwL where
 s:Nat
 e:Nat
 pre:LdQ
 post:LdQ
 ex:Bool
 cap:Nat
 r:LiQ
def RwL.z:RwL:=⟨0,0,[],[],false,0,[]⟩
def RwL.w(R:RwL)(r:LiQ):RwL:={R with r:=r}
def RwL.tot(R:RwL):Nat:=R.pre.length+R.r.length+R.post.length
def RwL.v(R:RwL):V:=.ref R.s R.e R.pre.length R.r.length R.cap R.tot
def RwL.p(R:RwL)(j:Nat):V:=.ptr R.s R.e (R.pre.length+j) R.tot
def RwL.k(R:RwL):Nat×Bk:=(R.e,.data 1 (R.pre++R.r.map sI++R.post) R.ex false)
variable{h:Hp}{R:RwL}
theorem RwL.get(hR:h[R.s]?=some R.k):ax h R.s R.e=.data 1 (R.pre++R.r.map sI++R.post) R.ex false:=by grind[ax,k]
theorem RwL.tl(R:RwL):R.tot=(R.pre++R.r.map sI++R.post).length:=by grind[tot]
theorem UK(R:RwL):aN R.v=some (I R.r.length):=rfl
theorem Ll(hR:h[R.s]?=some R.k)(hj:j<R.r.length):ixV h 1 R.v (I j)=some (R.p j):=by simp only[RwL.v,ixV,RwL.get hR];rw[if_pos ⟨R.tl,aa,aa⟩];simp[RwL.p]
theorem PG(hR:h[R.s]?=some R.k)(hj:j<R.r.length):ld1 h (R.p j)=some (S (itoa (nth 0 R.r j))):=by
 simp only[RwL.p,ld1,RwL.get hR];rw[if_pos R.tl]
 have:(R.pre++R.r.map sI++R.post)[R.pre.length+j]?=some (sI (nth 0 R.r j)):=by
  rw[List.append_assoc,List.getElem?_append_right aa,List.getElem?_append_left (by grind)];simp[cC _ _ _ hj,List.getElem?_eq_getElem hj]
 rw[this];rfl
theorem UJ(hR:h[R.s]?=some R.k)(hj:j<R.r.length)(z:Int):st h 1 (R.p j) (S (itoa z))=some (h.set R.s (R.w (R.r.set j z)).k):=by simp only[RwL.p,st,if_true,sto,RwL.get hR,kP,toD,norm];rw[if_pos ⟨trivial,R.tl,by grind⟩];simp only[b6,RwL.k,RwL.w];congr 4;have:=UD R.pre (R.r.map sI) R.post (x:=sI z) (j:=j) (by grind);rw[show R.pre.length+j + [D.str (itoa z)].length=R.pre.length+j+1 by simp];rw[Wz];exact this
theorem RwL.set_get{R':RwL}(hR:h[R.s]?=some R.k)(hs:R'.s=R.s):(h.set R.s R'.k)[R'.s]?=some R'.k:=by rw[hs,List.getElem?_set_self (List.getElem?_eq_some_iff.1 hR).1]
theorem RwL.set_ne{T:RwL}(hT:h[T.s]?=some T.k)(hs:s≠T.s):(h.set s x)[T.s]?=some T.k:=by grind
theorem xD{h:Hp}{b:Nat}(hu:(h.all λx=>az b x.2)=true)(hx:az b x.2=true):((h.set s x).all λx=>az b x.2)=true:=by grind
theorem RwL.u(R:RwL)(b:Nat):az b R.k.2=true:=rfl
def bdE(B:Nat)(l:LiQ):Prop:=∀x∈l,x.natAbs<10^B
theorem Ay{B:Nat}(h:bdE B l)(j:Nat):(nth 0 l j).natAbs<10^B:=by
 by_cases hj:j<l.length
 .rw[cC _ _ _ hj];exact h _ (Yw hj)
 .have:nth 0 l j=0:=by simp[nth,List.getElem?_eq_none (by omega:l.length<=j)]
  grind
theorem xa{B:Nat}(hB:B<=100000){x:Int}(h:x.natAbs<10^B):ndg x.natAbs<=100001:=
 Z4 (dG (d:=B+1) (Z2 h (Z3 ae (Nat.le_succ B))) aa) aa
theorem Eu(k:Int)(a b:LiQ)(h:a.length=b.length):(sd k a b).length=a.length:=by simp[sd,h]
section
variable{R T:RwL}{h:Hp}{k:Int}{B:Nat}
theorem Qu(hB:B<=100000)(hT:h[T.s]?=some T.k)(hR:h[R.s]?=some R.k)(hne:R.s≠T.s)(hk:ndg k.natAbs<=100002)(bT:bdE B T.r)(hl:R.r.length=T.r.length)(hL:R.r.length<1000000)(b:Nat)(h0:Hp)(hh:h0.length=h.length)(K:KL) :
  ∀(rq rp:LiQ)(tp tq:LiQ),tp++tq=T.r->rp.length=tp.length->rq.length=tq.length->bdE B rq->rp.length+rq.length=R.r.length ->
  K (.exit 0) [] (h.set R.s (R.w (rp++sd k rq tq)).k) ->
  lp (j7 (CX Y) b R.v (S (itoa k)) T.v (I T.r.length)) [] h0 [I rp.length] (h.set R.s (R.w (rp++rq)).k) K
 | [],rp,tp,tq,ht,h1,h2,bR,hn,hK=>by
  refine ai ?_;have hlt:¬((rp.length:Int)<(T.r.length:Int)):=by simp at hn;omega
  have:tq=[]:=Zi aa;subst this;simp only[j7];simp[hlt]
  simp_all[sd]
 |x::rq,rp,tp,[],ht,h1,h2,bR,hn,hK=>by simp at h2
 | x::rq,rp,tp,y::tq,ht,h1,h2,bR,hn,hK=>by
  refine ai ?_;have hlt:((rp.length:Int)<(T.r.length:Int)):=by simp at hn;omega
  obtain⟨H,hH⟩:∃H,H=h.set R.s (R.w (rp++x::rq)).k:=⟨_,rfl⟩;have gR:H[R.s]?=some (R.w (rp++x::rq)).k:=by rw[hH];exact RwL.set_get hR rfl
  have gT:H[T.s]?=some T.k:=by rw[hH];exact RwL.set_ne hT hne
  have vR:R.v=(R.w (rp++x::rq)).v:=by simp[RwL.v,RwL.w,RwL.tot]at hn ⊢;omega
  have jl:rp.length<T.r.length:=by simp at hn;omega
  have jr:rp.length<(R.w (rp++x::rq)).r.length:=by simp[RwL.w]
  have nT:nth 0 T.r rp.length=y:=by rw[<-ht,h1];simp
  have nR:nth 0 (R.w (rp++x::rq)).r rp.length=x:=by simp[RwL.w]
  have i1:=Ll gT jl;have i2:=PG gT jl;have i3:=Ll gR jr;have i4:=PG gR jr;rw[nT]at i2;rw[nR]at i4;have i5:=UJ gR jr (x-k*y);have bx:ndg x.natAbs<=100001:=xa hB (bR x ac);have by_:ndg y.natAbs<=100001:=xa hB (bT y (by grind));have bm:=fB (z:=k) (w:=y);rw[<-hH,vR];simp only[j7];simp[hlt,i1,i2,i3,i4]
  refine cd (oi (z:=k) (w:=y) aa aa) ?_;simp;refine cd (aaJ (z:=x) (w:=k*y) aa aa) ?_;simp(disch:=try exact af)[i3,i5];rw[p9 0 h0 _ (by grind),<-vR];refine lo ?_
  have e1:H.set (R.w (rp++x::rq)).s ((R.w (rp++x::rq)).w ((R.w (rp++x::rq)).r.set rp.length (x-k*y))).k=h.set R.s (R.w ((rp++[x-k*y])++rq)).k:=by
   rw[hH];simp[RwL.w]
  rw[e1];have ih:=Qu hB hT hR hne hk bT hl hL b h0 hh K rq (rp++[x-k*y]) (tp++[y]) tq (by grind) (by grind) (by grind) (λz hz=>bR z (by grind)) (by grind) (by simp_all[sd])
  grind
theorem VQ(hR:h[R.s]?=some R.k)(hB:B<=100000)(hL:R.r.length<1000000)(b:Nat)(h0:Hp)(hh:h0.length=h.length)(K:KL) :
  ∀(rq rp:LiQ),bdE B rq->rp.length+rq.length=R.r.length ->
  K (.exit 0) [] (h.set R.s (R.w (rp++rq.map (- ·))).k) ->
  lp (iW (CX Y) b R.v R.v (I R.r.length)) [] h0 [I rp.length] (h.set R.s (R.w (rp++rq)).k) K
 | [],rp,bR,hn,hK=>by
  refine ai ?_;have hlt:¬((rp.length:Int)<(R.r.length:Int)):=by simp at hn;omega
  simp only[iW];simp[hlt]
  grind
 | x::rq,rp,bR,hn,hK=>by
  refine ai ?_;have hlt:((rp.length:Int)<(R.r.length:Int)):=by simp at hn;omega
  obtain⟨H,hH⟩:∃H,H=h.set R.s (R.w (rp++x::rq)).k:=⟨_,rfl⟩;have gR:H[R.s]?=some (R.w (rp++x::rq)).k:=by rw[hH];exact RwL.set_get hR rfl
  have vR:R.v=(R.w (rp++x::rq)).v:=by simp[RwL.v,RwL.w,RwL.tot]at hn ⊢;omega
  have jr:rp.length<(R.w (rp++x::rq)).r.length:=by simp[RwL.w]
  have nR:nth 0 (R.w (rp++x::rq)).r rp.length=x:=by simp[RwL.w]
  have i3:=Ll gR jr;have i4:=PG gR jr;rw[nR]at i4;have i5:=UJ gR jr (-x);have bx:ndg x.natAbs<=100001:=xa hB (bR x ac);rw[<-hH,vR];simp only[iW];simp[hlt,i3,i4];refine cd (zw (z:=x) aa) ?_;simp(disch:=try exact af)[i3,i5];rw[p9 0 h0 _ (by grind),<-vR];refine lo ?_
  have e1:H.set (R.w (rp++x::rq)).s ((R.w (rp++x::rq)).w ((R.w (rp++x::rq)).r.set rp.length (-x))).k=h.set R.s (R.w ((rp++[-x])++rq)).k:=by
   rw[hH];simp[RwL.w]
  rw[e1];have ih:=VQ hR hB hL b h0 hh K rq (rp++[-x]) (λz hz=>bR z (by grind)) (by grind) (by grind)
  simp_all
theorem Sb(a b:LiQ)(h:a.length=b.length):sd 0 a b=a:=by
 induction a generalizing b with
 |nil=>rfl
 | cons x a ih=>
  cases b with
  |nil=>simp at h
  | cons y b=>
   simp_all[sd]
theorem RwL.set_same(hR:h[R.s]?=some R.k):h.set R.s (R.w R.r).k=h:=by
 apply Yh;intro i;by_cases hi:R.s=i
 .subst hi;rw[List.getElem?_set_self (List.getElem?_eq_some_iff.1 hR).1,hR];rfl
 .rw[List.getElem?_set_ne hi]
theorem Mc(hB:B<=100000)(hT:h[T.s]?=some T.k)(hR:h[R.s]?=some R.k)(hne:R.s≠T.s)(hk:ndg k.natAbs<=100002)(bT:bdE B T.r)(bR:bdE B R.r)(hl:R.r.length=T.r.length)(hL:R.r.length<1000000)
  (hu:(h.all λx=>az h.length x.2)=true):CI Y F.eQ [R.v,S (itoa k),T.v] h (.tup []) (h.set R.s (R.w (sd k R.r T.r)).k):=by
 refine xQ ?_
 have fin:od h.length (.tup []) (h.set R.s (R.w (sd k R.r T.r)).k) (.tup []) (h.set R.s (R.w (sd k R.r T.r)).k):=
  ⟨by rw[Zx ac],xD hu (RwL.u _ _),.inl ⟨rfl,rfl⟩⟩
 simp only[eQ,List.replicate_zero,Zn];by_cases h0:k=0
 .subst h0;have:itoa 0=[48]:=aG;rw[Sb _ _ hl,RwL.set_same hR]at fin ⊢;simp[this];omega
 .have h48:¬itoa k=[48]:=λe=>h0 (zP (e.trans (show[48]=itoa 0 by decide+kernel)))
  have:=Qu hB hT hR hne hk bT hl hL h.length h rfl (exK [((.exit 0),λl3 h'=>od h.length (.tup []) (h.set R.s (R.w (sd k R.r T.r)).k) (.tup []) h')]) R.r [] [] T.r rfl rfl hl bR ac (by trivial);rw[List.nil_append,RwL.set_same hR]at this;simp[h48,UK T];trivial
theorem Oo(hB:B<=100000)(hR:h[R.s]?=some R.k)(bR:bdE B R.r)(hL:R.r.length<1000000)(hu:(h.all λx=>az h.length x.2)=true):
  CI Y F.eH [R.v] h (.tup []) (h.set R.s (R.w (R.r.map (- ·))).k):=by
 refine vA ?_
 have fin:od h.length (.tup []) (h.set R.s (R.w (R.r.map (- ·))).k) (.tup []) (h.set R.s (R.w (R.r.map (- ·))).k):=
  ⟨by rw[Zx ac],xD hu (RwL.u _ _),.inl ⟨rfl,rfl⟩⟩
 simp only[eH,List.replicate_zero,Zn];have:=VQ hR hB hL h.length h rfl (exK [((.exit 0),λl3 h'=>od h.length (.tup []) (h.set R.s (R.w (R.r.map (- ·))).k) (.tup []) h')]) R.r [] bR ac (by trivial);rw[List.nil_append,RwL.set_same hR]at this;simp[UK R];trivial
end
theorem wF(h:∀t∈clr,t≠s):gZ clr s=true:=by
 induction clr with
 |nil=>rfl
 | cons t l ih=>
  rw[ES,beq_lit,decide_eq_false (h t ac),ih λu hu=>h u (by grind)];rfl
theorem Nz{b:Nat}(hc:∀t∈clr,b<=t):∀x:V,under b x=true->qb clr x=true:=by
 intro x
 induction x using V.rec (motive_2:=λl=>jv b l=true->je clr l=true)with
 |agg l ih=>trivial
 |tup l ih=>trivial
 | fn g a c iha ihc=>
  grind[under,qb]
 |ifc t x ih=>trivial
 |nil=>rfl
 | cons x l ih ihl h=>
  grind[jv,je]
 | ref s e off len cap tot=>
  intro h;have:s<b:=by simpa[under,Ws]using h
  exact wF λt ht=>by grind
 | ptr s e off tot=>
  intro h;have:s<b:=by simpa[under,Ws]using h
  exact wF λt ht=>by grind
 |_=>intro _;rfl
theorem B4{clr:LnQ}{b:Nat}(hc:∀t∈clr,b<=t):∀l:LwQ,jv b l=true->je clr l=true
 |[],_=>rfl
 | x::l,h=>by
  simp only[jv,Z7]at h;simp only[je,Nz hc x h.1,B4 hc l h.2,Yc]
theorem NA{b:Nat}(hc:∀t∈clr,b<=t)(x:Bk)(h:az b x=true):offB clr x=true:=by
 cases x with
 |vars l=>exact B4 hc l h
 |_=>rfl
theorem LS{clr:LnQ}{b:Nat}(hc:∀t∈clr,b<=t):∀(h t:Hp)(i:Nat),(h.all λx=>az b x.2)=true->qc clr (i+h.length) t=true->qc clr i (h++t)=true
 |[],t,i,_,ht=>ht
 | x::h,t,i,hu,ht=>by
  simp only[List.all_cons,Z7]at hu;rw[List.cons_append,Be,NA hc _ hu.1,Bool.or_true,Yd];refine LS hc h t (i+1) hu.2 ?_;rw[List.length_cons]at ht;rw[show i+1+h.length=i+(h.length+1) by omega];exact ht
theorem tT{clr:LnQ}{b:Nat}(hc:∀t∈clr,b<=t):∀(i:Nat)(h0 h:Hp),h.length=h0.length->(∀s,b<=i+s->s<h.length->h[s]?=some nnQ∧h0[s]?=some nnQ)->aH clr i h0 h=h
 |_,[],[],_,_=>rfl
 |_,[],_::_,hl,_=>by rfl
 |_,_::_,[],hl,_=>by rfl
 | i,x0::h0,x::h,hl,hs=>by
  rw [se,tT hc (i+1) h0 h (by grind) (λs hb hlt=>by
   have:=hs (s+1) aa (by grind);trivial)]
  split
  .rfl
  .rename_i hn
   have hb:b<=i:=by
    refine Classical.byContradiction λhlt=>hn (wF λt ht=>?_)
    have:=hc t ht;omega
   have:=hs 0 aa ac
   grind
theorem uD{b:Nat}(hc:∀t∈clr,b<=t){h:Hp}(hu:(h.all λx=>az b x.2)=true)(i:Nat):qc clr i h=true:=by
 have:=LS hc h [] i hu (by rfl)
 grind
structure Tr(b:Nat)(gh:Hp)(h:Hp)(so eo L:Nat)(m:List RwL):Prop where
 o:h[so]?=some (eo,.vars (m.map RwL.v))
 r:∀i,i<m.length->h[(nth RwL.z m i).s]?=some (nth RwL.z m i).k
 nd:∀i j,i<m.length->j<m.length->i≠j->(nth RwL.z m i).s≠(nth RwL.z m j).s
 no:∀i,i<m.length->(nth RwL.z m i).s≠so
 ln:∀i,i<m.length->(nth RwL.z m i).r.length=L
 fr:∀s,s≠so->(∀i,i<m.length->(nth RwL.z m i).s≠s)->h[s]?=gh[s]?
 so:so<b
 sb:∀i,i<m.length->(nth RwL.z m i).s<b
 u:(h.all λx=>az b x.2)=true
 bl:b<=h.length
 ow:∀s,b<=s->s<h.length->h[s]?=some nnQ
def ouV(so eo n:Nat):V:=.ref so eo 0 n n n
def ouP(so eo n i:Nat):V:=.ptr so eo i n
abbrev fF:=yL RwL.z RwL.r
abbrev nR(m:List RwL)(i:Nat):RwL:=nth RwL.z m i
theorem jZ(d:α)(l:List α)(i j:Nat)(x:α)(h:i<l.length):nth d (l.set i x) j=if j=i then x else nth d l j:=by grind[nth]
theorem Qg(f:α->β)(d:α)(l:List α)(i:Nat)(h:i<l.length):(l.map f)[i]?=some (f (nth d l i)):=by simp[nth,h]
theorem aa4(d:α)(l:List α)(i:Nat)(h:i<l.length):l.set i (nth d l i)=l:=by simp[nth,h]
variable{b so eo L:Nat}{m:List RwL}{gh h:Hp}
theorem tM{b c:Nat}(hbc:b<=c){h:Hp}(hu:(h.all λx=>az b x.2)=true):(h.all λx=>az c x.2)=true:=by grind[AJ]
theorem Tr.hu(T:Tr b gh h so eo L m):(h.all λx=>az h.length x.2)=true:=tM T.bl T.u
theorem Tr.get(T:Tr b gh h so eo L m):ax h so eo=.vars (m.map RwL.v):=by simp[ax,T.o]
theorem Tr.ix(T:Tr b gh h so eo L m)(hi:i<m.length):ixV h 1 (ouV so eo m.length) (I i)=some (ouP so eo m.length i):=by simp only[ouV,ixV,T.get];rw[if_pos ⟨ac,aa,aa⟩];simp[ouP]
theorem Tr.ld(T:Tr b gh h so eo L m)(hi:i<m.length):ld1 h (ouP so eo m.length i)=some (nR m i).v:=by simp only[ouP,ld1,T.get];rw[if_pos ac,Qg _ RwL.z _ _ hi]
theorem Tr.ix2(T:Tr b gh h so eo L m){c:Nat}(hi:i<m.length)(hc:c<L):ixV h 1 (nR m i).v (I c)=some ((nR m i).p c):=Ll (T.r i hi) (by grind[ln])
theorem Tr.ld2(T:Tr b gh h so eo L m){c:Nat}(hi:i<m.length)(hc:c<L):ld1 h ((nR m i).p c)=some (S (itoa (fF m i c))):=PG (T.r i hi) (by grind[ln])
theorem RwL.w_v(R:RwL)(hr:r.length=R.r.length):(R.w r).v=R.v:=by grind[v,w,tot]
theorem Tr.row(T:Tr b gh h so eo L m)(hi:i<m.length)(hr:r.length=L):Tr b gh (h.set (nR m i).s ((nR m i).w r).k) so eo L (m.set i ((nR m i).w r)) where
 o:=by
  grind[no,o,Wz,RwL.w_v,ln,aa4]
 r:=λj hj=>by
  rw[Yt]at hj;rw[jZ _ _ _ _ _ hi];by_cases e:j=i
  .rw[if_pos e];exact RwL.set_get (R:=nR m i) (T.r i hi) rfl
  grind[r,nd]
 nd:=λj k hj hk hjk=>by
  rw[Yt]at hj hk;rw[jZ _ _ _ _ _ hi,jZ _ _ _ _ _ hi];by_cases e:j=i
  .subst e;rw[if_pos rfl,if_neg (Ne.symm hjk)];exact T.nd _ k hi hk hjk
  .rw[if_neg e];by_cases e2:k=i
   .subst e2;rw[if_pos rfl];exact T.nd j _ hj hi hjk
   grind[nd]
 no:=λj hj=>by
  rw[Yt]at hj;rw[jZ _ _ _ _ _ hi];split
  .exact T.no i hi
  grind[no]
 ln:=λj hj=>by
  rw[Yt]at hj;rw[jZ _ _ _ _ _ hi];split
  .exact hr
  grind[ln]
 so:=T.so
 sb:=λj hj=>by
  rw[Yt]at hj;rw[jZ _ _ _ _ _ hi];split
  .exact T.sb i hi
  .exact T.sb j hj
 u:=xD T.u rfl
 bl:=by rw[Yt];exact T.bl
 ow:=λs hs hl=>by
  rw[Yt]at hl;have:(nR m i).s<b:=T.sb i hi;rw[List.getElem?_set_ne aa];grind[ow]
 fr:=λs hs hne=>by
  have hall:∀j,j<m.length->(nth RwL.z m j).s≠s:=λj hj=>by
   have:=hne j (by grind);rw[jZ _ _ _ _ _ hi]at this;by_cases e:j=i
   .subst e;rw[if_pos rfl]at this;exact this
   grind
  grind[fr]
theorem afR(ho:h[so]?=some (eo,.vars cs))(hn:cs.length=n)(hi:i<n)(R:RwL):st h 1 (ouP so eo n i) R.v=some (h.set so (eo,.vars (cs.set i R.v))):=by
 have hg:ax h so eo=.vars cs:=by simp[ax,ho]
 simp only[ouP,RwL.v,st,if_true,sto,hg];rw[if_pos ⟨hn.symm,by grind,rfl⟩]
 have e:cs.set i (V.ref R.s R.e R.pre.length R.r.length R.cap R.tot)=cs.take i++[V.ref R.s R.e R.pre.length R.r.length R.cap R.tot]++cs.drop (i+1):=by
  rw[Yi,if_pos aa];simp
 rw[e];rfl
theorem mu{k:Nat}(hi:i<m.length)(hj:j<m.length)(hk:k<m.length):∃k',k'<m.length∧nth RwL.z (lK RwL.z m i j) k=nth RwL.z m k'∧k'=(if k=j then i else if k=i then j else k):=by
 refine⟨_,?_,?_,rfl⟩
 .grind
 .unfold lK;rw[jZ _ _ _ _ _ (by grind)];split
  .rfl
  grind[jZ]
theorem Tr.swap(T:Tr b gh h so eo L m)(hi:i<m.length)(hj:j<m.length):Tr b gh (h.set so (eo, .vars ((lK RwL.z m i j).map RwL.v))) so eo L (lK RwL.z m i j) where
  o:=List.getElem?_set_self (List.getElem?_eq_some_iff.1 T.o).1
  r :=λk hk=>by
    rw[gG]at hk;obtain⟨k',h1,h2,_⟩:=mu hi hj hk
    grind[no,r]
  nd :=λk l hk hl hkl=>by
    rw[gG]at hk hl;obtain⟨k',h1,h2,h3⟩:=mu hi hj hk;obtain⟨l',h4,h5,h6⟩:=mu hi hj hl;rw[h2,h5];refine T.nd k' l' h1 h4 ?_;rw[h3,h6]
    repeat' split
    all_goals omega
  no :=λk hk=>by
    rw[gG]at hk;obtain⟨k',h1,h2,_⟩:=mu hi hj hk
    grind[no]
  ln :=λk hk=>by
    rw[gG]at hk;obtain⟨k',h1,h2,_⟩:=mu hi hj hk
    grind[ln]
  so:=T.so
  sb :=λk hk=>by
    rw[gG]at hk;obtain⟨k',h1,h2,_⟩:=mu hi hj hk;rw[h2];exact T.sb k' h1
  u :=by
    refine xD T.u ?_
    have hv:∀l:List RwL,(∀R∈l,R.s<b)->jv b (l.map RwL.v)=true:=by
      intro l hl
      induction l with
      |nil=>rfl
      | cons R l ih=>
        simp only[Zs,jv,ih (λx hx=>hl x (by grind)),Yc]
        grind[RwL.v,under,Ws]
    refine hv _ λR hR=> ?_
    obtain⟨k,hk,rfl⟩:=Zf.1 hR;have hk':k<m.length:=by simpa[lK]using hk
    obtain⟨k',h1,h2,_⟩:=mu hi hj hk';rw[<-cC RwL.z _ _ hk,h2];exact T.sb k' h1
  bl:=by rw[Yt];exact T.bl
  ow :=λs hs hl=>by
    rw[Yt]at hl;have:=T.so;rw[List.getElem?_set_ne aa];grind[ow]
  fr :=λs hs hne=>by
    have hall:∀k,k<m.length->(nth RwL.z m k).s≠s:=λk hk=>by
      obtain⟨k',h1,h2,h3⟩:=mu (k:=if k=j then i else if k=i then j else k) hi hj (by split<;>(try split)<;>omega)
      have e : k' = k := by rw[h3];repeat' split
                            all_goals omega
      have:=hne _ (by rw[gG];show(if k=j then i else if k=i then j else k)<m.length;split<;>(try split)<;>omega)
      grind
    grind[fr]
theorem Ud(hi:i<m.length)(hj:j<m.length):(((m.map RwL.v).set i (nR m j).v).set j (nR m i).v)=(lK RwL.z m i j).map RwL.v:=by simp[lK,Wz]
theorem Mk{b:Nat}:Big.cmp a b<0↔a<b:=by unfold Big.cmp;split<;>(try split)<;>omega
theorem tN(z:Int):itoa z=[48]↔z=0:=by have e:[48]=itoa 0:=aG;rw[e];exact⟨λh=>zP h,λh=>by rw[h]⟩
theorem aap{Bd:Nat}(bd:∀i,i<m.length->bdE Bd (nR m i).r)(hB:Bd<=100000)(hi:i<m.length)(c:Nat):ndg (fF m i c).natAbs<=100001:=xa hB (Ay (bd i hi) c)
variable{Bd c:Nat}
theorem QQ(T:Tr b gh h so eo L m)(hc:c<L)(hB:Bd<=100000)(bd:∀i,i<m.length->bdE Bd (nR m i).r)(hm:m.length<1000000)(h0:Hp)(hh:h0.length=h.length)(K:KL) :
  ∀(r i:Nat)(a:Int),i+r=m.length->a<i->-1<=a->K (.exit 4) [I (atG RwL.z RwL.r c m r i a)] h ->
  lp (gC (CX Y) b (ouV so eo m.length) (I c)) [] h0 [I a,I i] h K
 | 0,i,a,hr,h1,h2,hK=>by
  refine ai ?_;have hlt:¬((i:Int)<(m.length:Int)):=aa;have l1:aN (ouV so eo m.length)=some (I m.length):=rfl;simp only[gC];simp[l1,hlt];exact hK
 | r+1,i,a,hr,h1,h2,hK=>by
  refine ai ?_;have hlt:((i:Int)<(m.length:Int)):=aa;have l1:aN (ouV so eo m.length)=some (I m.length):=rfl;have hi:i<m.length:=aa;have i1:=T.ix hi;have i2:=T.ld hi;have i3:=T.ix2 hi hc;have i4:=T.ld2 hi hc;simp only[gC]
  have ih:=λa' (h1:a'<((i+1:Nat):Int)) (h2 : -1<=a') (hk:K (.exit 4) [I (atG RwL.z RwL.r c m r (i+1) a')] h)=>QQ T hc hB bd hm h0 hh K r (i+1) a' aa h1 h2 hk
  simp only[atG]at hK
  have fin:∀a':Int,a'<((i+1:Nat):Int)->-1<=a'->K (.exit 4) [I (atG RwL.z RwL.r c m r (i+1) a')] h ->
    rl (lp (gC (CX Y) b (ouV so eo m.length) (I c)) [] h0 [I a',.d (.int .i64 ((i:Int)+1))] h) K .mk:=λa' x1 x2 hk=>by
   simp_all
  by_cases e0:fF m i c=0
  .have t0:=(tN (fF m i c)).2 e0;rw[if_neg (λh=>h.1 e0)]at hK;simp[l1,hlt];refine aC ?_;simp[i1,i2,i3,i4,t0];refine aC ?_;simp(disch:=try exact af);exact fin a aa h2 hK
  .have t0:¬itoa (fF m i c)=[48]:=λh=>e0 ((tN _).1 h)
   by_cases a0:a<0
   .rw[if_pos ⟨e0,.inl a0⟩]at hK;simp[l1,hlt];refine aC ?_;simp[i1,i2,i3,i4,t0,a0];refine aC ?_;simp(disch:=try exact af);exact fin i aa aa hK
   .obtain⟨n,rfl⟩:∃n:Nat,a=n:=⟨a.toNat,aa⟩;have hn:n<m.length:=aa;have j1:=T.ix hn;have j2:=T.ld hn;have j3:=T.ix2 hn hc;have j4:=T.ld2 hn hc;simp[l1,hlt];refine aC ?_;simp[i1,i2,i3,i4,t0,a0];refine cd (AA _) ?_;simp[j1,j2,j3,j4];refine cd (AA _) ?_;simp;refine cd (DY (by have:=aap bd hB hi c;omega) (by have:=aap bd hB hn c;omega)) ?_
    have et:((n:Int)).toNat=n:=aa;rw[et]at hK;by_cases hl:(fF m i c).natAbs<(fF m n c).natAbs
    .have hcm:Big.cmp (fF m i c).natAbs (fF m n c).natAbs<0:=Mk.2 hl;rw[if_pos ⟨e0,.inr hl⟩]at hK;simp[hcm,t0];refine aC ?_;simp(disch:=try exact af);exact fin i aa aa hK
    .have hcm:¬Big.cmp (fF m i c).natAbs (fF m n c).natAbs<0:=λg=>hl (Mk.1 g)
     rw[if_neg (λg=>g.2.elim (λg=>by omega) hl)]at hK;simp[hcm,t0];refine aC ?_;simp(disch:=try exact af);exact fin n aa aa hK
theorem QP(hc:c<L)(hB:Bd<=100000)(hL:L<1000000){o:Nat}(h0:Hp)(h00:∀s,b<=s->s<h0.length->h0[s]?=some nnQ)(K:KL) :
  ∀(r i:Nat)(rs:Bool)(m:List RwL)(h:Hp),Tr b gh h so eo L m->m.length<1000000->h0.length=h.length->o<i->i+r=m.length->bdE Bd (nR m o).r->(∀k,i<=k->k<m.length->bdE Bd (nR m k).r)->fF m o c≠0 ->
  (∀h',Tr b gh h' so eo L (kR RwL.z RwL.r RwL.w c o r i rs m).2->h'.length=h.length->K (.exit 6) [B (kR RwL.z RwL.r RwL.w c o r i rs m).1] h') ->
  lp (jI (CX Y) b (ouV so eo m.length) (I o) (I c)) [b+0] h0 [B rs,I i] h K
 | 0,i,rs,m,h,T,hm,hh,ho,hr,b1,b2,hz,hK=>by
  refine ai ?_;have hlt:¬((i:Int)<(m.length:Int)):=aa;have l1:aN (ouV so eo m.length)=some (I m.length):=rfl;simp only[jI];simp[l1,hlt];exact hK h T rfl
 | r+1,i,rs,m,h,T,hm,hh,ho,hr,b1,b2,hz,hK=>by
  refine ai ?_;have hlt:((i:Int)<(m.length:Int)):=aa;have l1:aN (ouV so eo m.length)=some (I m.length):=rfl;have hi:i<m.length:=aa;have hoo:o<m.length:=aa;have i1:=T.ix hi;have i2:=T.ld hi;have i3:=T.ix2 hi hc;have i4:=T.ld2 hi hc;have j1:=T.ix hoo;have j2:=T.ld hoo;have j3:=T.ix2 hoo hc;have j4:=T.ld2 hoo hc;have n1:=xa hB (Ay (b2 i (Z8 _) hi) c)
  have n2:=xa hB (Ay b1 c);simp only[jI];simp[l1,hlt,i1,i2,i3,i4,j1,j2,j3,j4];refine cd (KF (z:=fF m i c) (w:=fF m o c) hz (by have:ndg (fF m i c).natAbs<=_:=n1;omega) (by have:ndg (fF m o c).natAbs<=_:=n2;omega)) ?_;simp[i1,i2,j1,j2];have nio:o≠i:=aa;have el:(nR m i).r.length=(nR m o).r.length:=by rw[T.ln i hi,T.ln o hoo]
  have T2:Tr b gh (h.set (nR m i).s ((nR m i).w (sd ((fF m i c).fdiv (fF m o c)) (nR m i).r (nR m o).r)).k) so eo L (jb RwL.z RwL.r RwL.w c o m i):=T.row hi (by rw[Eu _ _ _ el,T.ln i hi]);have q1:ndg ((fF m i c).fdiv (fF m o c)).natAbs<=100002:=Z4 (cG (MF _ _ hz)) (Z4 n1 aa)
  refine gP (Mc hB (T.r o hoo) (T.r i hi) (T.nd i o hi hoo (Ne.symm nio)) q1 b1 (b2 i (Z8 _) hi) el (by grind[Tr.ln]) T.hu) ?_ ac;have e1:((i+1:Nat):Int)=(i:Int)+1:=aa;have hlen:(h.set (nR m i).s ((nR m i).w (sd ((fF m i c).fdiv (fF m o c)) (nR m i).r (nR m o).r)).k).length=h.length:=Yt
  generalize h.set (nR m i).s ((nR m i).w (sd ((fF m i c).fdiv (fF m o c)) (nR m i).r (nR m o).r)).k=h1 at *;have no:nR (jb RwL.z RwL.r RwL.w c o m i) o=nR m o:=by unfold nR jb;rw[jZ _ _ _ _ _ hi,if_neg nio]
  have tl:(jb RwL.z RwL.r RwL.w c o m i).length=m.length:=mr ..
  have eo':fF (jb RwL.z RwL.r RwL.w c o m i) o c=fF m o c:=by
   show nth 0 (nR (jb RwL.z RwL.r RwL.w c o m i) o).r c=_
   rw[no];rfl
  have cl:∀x:Bool,clean [b] [B x,I ((i:Int)+1)] h1=true:=λx=>by
   simp only[clean,Z7];exact⟨rfl,uD ac T2.u 0⟩
  have rs1:aH [b] 0 h0 h1=h1:=tT (b:=b) ac 0 h0 h1 aa λs h1' h2'=>⟨T2.ow s aa h2',h00 s aa aa⟩
  have ih:=λrs' (hk:∀h',Tr b gh h' so eo L (kR RwL.z RwL.r RwL.w c o r (i+1) rs' (jb RwL.z RwL.r RwL.w c o m i)).2->h'.length=h.length->K (.exit 6) [B (kR RwL.z RwL.r RwL.w c o r (i+1) rs' (jb RwL.z RwL.r RwL.w c o m i)).1] h')=>
   QP hc hB hL h0 h00 K r (i+1) rs' (jb RwL.z RwL.r RwL.w c o m i) h1 T2 aa aa aa aa (by grind)
    (λk k1 k2=>by
     rw[tl]at k2;have:nR (jb RwL.z RwL.r RwL.w c o m i) k=nR m k:=by unfold nR jb;rw[jZ _ _ _ _ _ hi,if_neg aa]
     rw[this];exact b2 k aa k2) aa (λh' t1 t2=>hk h' t1 aa)
  rw[tl,e1]at ih;simp only[kR]at hK;cases rs with
  | true=>
   simp(disch:=try exact af)[cl,rs1]
   simp_all
  | false=>
   by_cases hf:(fF m i c).fmod (fF m o c)=0
   .have t0:=(tN ((fF m i c).fmod (fF m o c))).2 hf;simp(disch:=try exact af)[cl,rs1,t0]
    simp_all
   .have t0:¬itoa ((fF m i c).fmod (fF m o c))=[48]:=λh=>hf ((tN _).1 h)
    have t1:(itoa ((fF m i c).fmod (fF m o c)) == [48])=false:=by simpa using t0
    simp(disch:=try exact af)[cl,rs1,t1]
    simp_all
theorem QO(hc:c<L)(hB:Bd<=100000)(hL:L<1000000){o:Nat}(h0:Hp)(h00:∀s,b<=s->s<h0.length->h0[s]?=some nnQ)(K:KL) :
  ∀(r i:Nat)(m:List RwL)(h:Hp),Tr b gh h so eo L m->m.length<1000000->h0.length=h.length->o<m.length->i+r=o->bdE Bd (nR m o).r->(∀k,i<=k->k<o->bdE Bd (nR m k).r)->fF m o c≠0 ->
  (∀h',Tr b gh h' so eo L (upG RwL.z RwL.r RwL.w c o r i m)->h'.length=h.length->K (.exit 8) [] h') ->
  lp (gB (CX Y) b (ouV so eo m.length) (I o) (I c) (I o)) [b+2] h0 [I i] h K
 | 0,i,m,h,T,hm,hh,ho,hr,b1,b2,hz,hK=>by
  refine ai ?_;have hlt:¬((i:Int)<(o:Int)):=aa;simp only[gB];simp[hlt];exact hK h T rfl
 | r+1,i,m,h,T,hm,hh,hoo,hr,b1,b2,hz,hK=>by
  refine ai ?_;have hlt:((i:Int)<(o:Int)):=aa;have hi:i<m.length:=aa;have i1:=T.ix hi;have i2:=T.ld hi;have i3:=T.ix2 hi hc;have i4:=T.ld2 hi hc;have j1:=T.ix hoo;have j2:=T.ld hoo;have j3:=T.ix2 hoo hc;have j4:=T.ld2 hoo hc;have n1:=xa hB (Ay (b2 i (Z8 _) aa) c);have n2:=xa hB (Ay b1 c);simp only[gB]
  simp[hlt,i1,i2,i3,i4,j1,j2,j3,j4];refine cd (KF (z:=fF m i c) (w:=fF m o c) hz (by have:ndg (fF m i c).natAbs<=_:=n1;omega) (by have:ndg (fF m o c).natAbs<=_:=n2;omega)) ?_;simp[i1,i2,j1,j2];have nio:o≠i:=aa;have el:(nR m i).r.length=(nR m o).r.length:=by rw[T.ln i hi,T.ln o hoo]
  have T2:Tr b gh (h.set (nR m i).s ((nR m i).w (sd ((fF m i c).fdiv (fF m o c)) (nR m i).r (nR m o).r)).k) so eo L (jb RwL.z RwL.r RwL.w c o m i):=T.row hi (by rw[Eu _ _ _ el,T.ln i hi]);have q1:ndg ((fF m i c).fdiv (fF m o c)).natAbs<=100002:=Z4 (cG (MF _ _ hz)) (Z4 n1 aa)
  refine gP (Mc hB (T.r o hoo) (T.r i hi) (T.nd i o hi hoo (Ne.symm nio)) q1 b1 (b2 i (Z8 _) aa) el (by rw[T.ln i hi];exact hL) T.hu) ?_ (by intro _ _ _ _ _ h;cases h);have e1:((i+1:Nat):Int)=(i:Int)+1:=aa;have hlen:(h.set (nR m i).s ((nR m i).w (sd ((fF m i c).fdiv (fF m o c)) (nR m i).r (nR m o).r)).k).length=h.length:=Yt
  generalize h.set (nR m i).s ((nR m i).w (sd ((fF m i c).fdiv (fF m o c)) (nR m i).r (nR m o).r)).k=h1 at *;have no:nR (jb RwL.z RwL.r RwL.w c o m i) o=nR m o:=by unfold nR jb;rw[jZ _ _ _ _ _ hi,if_neg nio]
  have tl:(jb RwL.z RwL.r RwL.w c o m i).length=m.length:=mr ..
  have eo':fF (jb RwL.z RwL.r RwL.w c o m i) o c=fF m o c:=by
   show nth 0 (nR (jb RwL.z RwL.r RwL.w c o m i) o).r c=_
   rw[no];rfl
  have cl:clean [b+2] [I ((i:Int)+1)] h1=true:=by
   simp only[clean,Z7];exact⟨rfl,uD (b:=b) ac T2.u 0⟩
  have rs1:aH [b+2] 0 h0 h1=h1:=tT (b:=b) ac 0 h0 h1 aa λs h1' h2'=>⟨T2.ow s aa h2',h00 s aa aa⟩
  have ih:=QO hc hB hL h0 h00 K r (i+1) (jb RwL.z RwL.r RwL.w c o m i) h1 T2 (by rw[tl];exact hm) aa (by rw[tl];exact hoo) aa (by rw[no];exact b1)
    (λk k1 k2=>by
     have:nR (jb RwL.z RwL.r RwL.w c o m i) k=nR m k:=by unfold nR jb;rw[jZ _ _ _ _ _ hi,if_neg aa]
     rw[this];exact b2 k aa k2) (by rw[eo'];exact hz) (λh' t1 t2=>by simp only[upG]at hK;exact hK h' t1 aa)
  rw[tl,e1]at ih;simp(disch:=try exact af)[cl,rs1];exact lo ih
theorem L5(z:Int):(sgn z<0)↔z<0:=by unfold sgn;split<;>(try split)<;>omega
theorem aaw(c:Nat)(m:List RwL):∀(r i:Nat)(a:Int),(a<0∨fF m a.toNat c≠0)->(atG RwL.z RwL.r c m r i a<0∨fF m (atG RwL.z RwL.r c m r i a).toNat c≠0)
 |0,_,_,h=>h
 | r+1,i,a,h=>by
  simp only[atG];refine aaw c m r (i+1) _ ?_
  grind
theorem Ed(c o:Nat):∀(r i:Nat)(x:Bool)(m:List RwL)(k:Nat),k<i->i+r<=m.length->nR (kR RwL.z RwL.r RwL.w c o r i x m).2 k=nR m k
 |0,_,_,_,_,_,_=>rfl
 | r+1,i,x,m,k,hk,hl=>by
  simp only[kR];rw[Ed c o r (i+1) _ _ k aa (by grind[mr])];unfold nR jb;rw[jZ _ _ _ _ _ aa,if_neg aa]
theorem VM(l:LiQ)(c:Nat):nth 0 (l.map (- ·)) c = -(nth 0 l c):=by grind[nth]
theorem acJ(h:bdE Bd l):bdE Bd (l.map (- ·)):=λx hx=>by
 obtain⟨y,hy,rfl⟩:=Zw.1 hx;rw[Xh];exact h y hy
theorem aim(ho:h[so]?=some (eo,.vars cs))(hn:cs.length=n)(hi:i<n):ixV h 1 (ouV so eo n) (I i)=some (ouP so eo n i):=by
 have hg:ax h so eo=.vars cs:=by simp[ax,ho]
 simp only[ouV,ixV,hg];rw[if_pos ⟨hn.symm,aa,aa⟩];simp[ouP]
theorem QR(hc:c<L)(hB:Bd<=100000)(hL:L<1000000)(h0:Hp)(h00:∀s,b<=s->s<h0.length->h0[s]?=some nnQ)(K:KL) :
  ∀(f o:Nat)(m:List RwL)(h:Hp)(o':Nat)(m':List RwL),Tr b gh h so eo L m->m.length<1000000->h0.length=h.length->o<m.length->m8 RwL.z RwL.r RwL.w Bd c f o m=some (o',m') ->
  (∀h',Tr b gh h' so eo L m'->h'.length=h.length->K (.exit 2) [I o'] h') ->
  lp (mI (CX Y) b (ouV so eo m.length) (I c)) [b+0,b+1,b+2] h0 [I o] h K
 |0,o,m,h,o',m',T,hm,hh,ho,hf,hK=>by trivial
 | f+1,o,m,h,o',m',T,hm,hh,ho,hf,hK=>by
  refine ai ?_;simp only[m8]at hf;split at hf
  case isFalse=>cases hf
  rename_i hbd
  have bd:∀i,i<m.length->bdE Bd (nR m i).r:=λi hi x hx=>by
   have h1:=Zz.1 hbd (nR m i) (by grind[cC]);have h2:=Zz.1 h1 x hx
   grind
  obtain⟨a,ha⟩:=nmQ (atG RwL.z RwL.r c m (m.length-o) o (-1));have ha2:=O2 (d:=RwL.z) (g:=RwL.r) c m (m.length-o) o (-1) aa aa;rw[<-ha]at hf ha2;simp only[mI];simp;refine lo (QQ T hc hB bd hm h rfl _ (m.length-o) o (-1) aa aa aa ?_);rw[<-ha];by_cases a0:a<0
  .rw[if_pos a0]at hf;cases hf;simp[a0]
   grind
  .rw[if_neg a0]at hf;obtain⟨n,rfl⟩:∃n:Nat,a=n:=⟨a.toNat,aa⟩;rw[show((n:Int)).toNat=n by omega]at hf;have hn:n<m.length:=aa;have i1:=T.ix hn;have i2:=T.ld hn;have j1:=T.ix ho;have j2:=T.ld ho;have s1:=afR (h:=h) T.o ac ho (nR m n);have hso:so<h.length:=(List.getElem?_eq_some_iff.1 T.o).1
   have g1:(h.set so (eo,.vars ((m.map RwL.v).set o (nR m n).v)))[so]?=some (eo,.vars ((m.map RwL.v).set o (nR m n).v)):=List.getElem?_set_self hso;have x1:=aim g1 (n:=m.length) ac hn;have s2:=afR g1 (n:=m.length) ac hn (nR m o);rw[List.set_set,Ud ho hn]at s2;have T1:=T.swap ho hn;simp(disch:=try exact af)[a0,i1,i2,j1,j2,s1,x1,s2]
   obtain⟨H2,hH2⟩:=nmQ (h.set so (eo,.vars ((lK RwL.z m o n).map RwL.v)));have lH2:H2.length=h.length:=by rw[hH2];exact Yt
   rw[<-hH2]at T1 ⊢;have sl:(lK RwL.z m o n).length=m.length:=gG ..
   have bd1:∀k,k<m.length->bdE Bd (nR (lK RwL.z m o n) k).r:=λk hk=>by
    obtain⟨k',h1,h2,_⟩:=mu ho hn hk
    grind
   have z1:fF (lK RwL.z m o n) o c=fF m n c:=by
    obtain⟨k',h1,h2,h3⟩:=mu ho hn ho;have:k'=n:=by rw[h3];split<;>simp_all
    show nth 0 (nth RwL.z (lK RwL.z m o n) o).r c=_
    rw[h2,this];rfl
   have nz:fF m n c≠0:=by
    have:=aaw c m (m.length-o) o (-1) (.inl aa);rw[<-ha]at this;rcases this with g|g
    .omega
    .trivial
   obtain⟨s,hs⟩:=nmQ (kR RwL.z RwL.r RwL.w c o (m.length-(o+1)) (o+1) false (lK RwL.z m o n));rw[<-hs]at hf;have ls:s.2.length=m.length:=by rw[hs,oE,sl]
   have ks:∀k,k<=o->nR s.2 k=nR (lK RwL.z m o n) k:=λk hk=>by rw[hs];exact Ed c o _ _ _ _ k aa aa
   have e1:((o+1:Nat):Int)=(o:Int)+1:=aa;have hl3:=λK=>QP (o:=o) hc hB hL H2 T1.ow K (m.length-(o+1)) (o+1) false (lK RwL.z m o n) H2 T1 aa rfl aa aa (bd1 o ho) (λk _ k2=>bd1 k aa) aa
   rw[<-hs,sl,e1]at hl3;refine lo (hl3 _ λh' T2 t2=>?_)
   have cl:∀(x:Int)(h'':Hp)(m2:List RwL),Tr b gh h'' so eo L m2->clean [b,b+1,b+2] [I x] h''=true:=λx h'' m2 T=>by
    simp only[clean,Z7];exact⟨rfl,uD (b:=b) ac T.u 0⟩
   have rs1:aH [b,b+1,b+2] 0 h0 h'=h':=tT (b:=b) ac 0 h0 h' aa λs h1' h2'=>⟨T2.ow s aa h2',h00 s aa aa⟩
   by_cases hr:s.1=true
   .rw[if_pos hr]at hf;have ih:=QR hc hB hL h0 h00 K f o s.2 h' o' m' T2 aa aa aa hf (λh3 a1 a2=>hK h3 a1 aa);rw[ls]at ih;simp[hr,cl _ h' s.2 T2,rs1];trivial
   .have hr2:s.1=false:=by simpa using hr
    rw[if_neg hr]at hf;have hos:o<s.2.length:=aa;have i1':=T2.ix hos;have i2':=T2.ld hos;have i3':=T2.ix2 hos hc;have i4':=T2.ld2 hos hc;rw[ls]at i1' i2';have bds:∀k,k<=o->bdE Bd (nR s.2 k).r:=λk hk=>by rw[ks k hk];exact bd1 k aa
    have zs:fF s.2 o c≠0:=by
     show nth 0 (nR s.2 o).r c≠0
     rw[ks o (Z8 _)];have:nth 0 (nR (lK RwL.z m o n) o).r c=fF m n c:=z1;rw[this];exact nz
    have tail:∀(m3:List RwL)(h3:Hp),Tr b gh h3 so eo L m3->h3.length=h.length->m3.length=m.length->(∀k,k<=o->bdE Bd (nR m3 k).r)->fF m3 o c≠0->upG RwL.z RwL.r RwL.w c o o 0 m3=m'->(o:Int)+1=(o':Int) ->
      lp (gB (CX Y) b (ouV so eo m.length) (I o) (I c) (I o)) [b+2] h3 [.d (.int .i64 0)] h3 (exK [((.exit 8),λl21 h=>
       bnd (biI .add (I o) (.d (.int .i64 1))) λv22=>
       K (.exit 2) [v22] h)]):=by
     intro m3 h3 T3 l3 lm b3 z3 hu ho'
     have q:=QO (o:=o) hc hB hL h3 T3.ow (exK [((.exit 8),λl21 h=>
       bnd (biI .add (I o) (.d (.int .i64 1))) λv22=>
       K (.exit 2) [v22] h)]) o 0 m3 h3 T3 aa rfl aa aa (b3 o (Z8 _)) (λk _ k2=>b3 k aa) z3 (λh4 T4 t4=>by
        rw[hu]at T4;simp(disch:=try exact af);rw[ho'];exact hK h4 T4 aa)
     rw[lm]at q;exact q
    cases hf;simp[hr2,i1',i2',i3',i4'];refine cd (m7 _) ?_;by_cases hneg:fF s.2 o c<0
    .have sg1:=(L5 (fF s.2 o c)).2 hneg;simp[sg1];refine aC ?_;simp[i1',i2'];refine gP (Oo hB (T2.r o hos) (bds o (Z8 _)) (by grind[Tr.ln]) T2.hu) ?_ ac;simp;have T3:=T2.row hos (r:=(nR s.2 o).r.map (- ·)) (by grind[Tr.ln]);have eN:Bj RwL.z RwL.r RwL.w c o s.2=s.2.set o ((nR s.2 o).w ((nR s.2 o).r.map (- ·))):=by unfold Bj;rw[if_pos hneg]
     refine lo (tail _ _ T3 (by grind) (by grind) (λk hk=>?_) ?_ (by rw[eN]) e1.symm)
     .unfold nR;rw[jZ _ _ _ _ _ hos];split
      .exact acJ (bds o (Z8 _))
      grind
     ·have:fF (s.2.set o ((nR s.2 o).w ((nR s.2 o).r.map (- ·)))) o c = -(fF s.2 o c):=by
       show nth 0 (nth RwL.z _ o).r c=_
       rw[jZ _ _ _ _ _ hos,if_pos rfl];exact VM _ _
      omega
    .have sg1:¬sgn (fF s.2 o c)<0:=λg=>hneg ((L5 _).1 g)
     simp[sg1];refine aC ?_;simp;have eN:Bj RwL.z RwL.r RwL.w c o s.2=s.2:=by unfold Bj;rw[if_neg hneg]
     exact lo (tail s.2 h' T2 aa ls bds zs (by rw[eN]) e1.symm)
variable{b so eo L:Nat}{gh:Hp}{Bd c:Nat}
theorem AY(c:Nat):∀(f o:Nat)(m:List RwL)(o':Nat)(m':List RwL),o<m.length->m8 RwL.z RwL.r RwL.w Bd c f o m=some (o',m')->o'<=m.length∧m'.length=m.length
 |0,o,m,o',m',ho,hf=>by trivial
 | f+1,o,m,o',m',ho,hf=>by
  simp only[m8]at hf;split at hf
  case isFalse=>cases hf
  split at hf
  .cases hf;exact⟨aa,rfl⟩
  .split at hf
   .have:=AY c f o _ o' m' (by grind[oE,gG]) hf
    grind[oE,gG]
   .cases hf;exact⟨aa,by rw[Pd,EU,oE,gG]⟩
theorem QS{cols f:Nat}(hB:Bd<=100000)(hL:L<1000000)(hcl:cols<=L)(h0:Hp)(h00:∀s,b<=s->s<h0.length->h0[s]?=some nnQ)(K:KL) :
  ∀(r c o:Nat)(m:List RwL)(h:Hp)(o':Nat)(m':List RwL),Tr b gh h so eo L m->m.length<1000000->h0.length=h.length->o<=m.length->c+r=cols->pi RwL.z RwL.r RwL.w Bd f r c o m=some (o',m') ->
  (∀h',Tr b gh h' so eo L m'->h'.length=h.length->o'<=m'.length->m'.length=m.length->K (.exit 0) [I o'] h') ->
  lp (gD (CX Y) b (ouV so eo m.length) (I cols)) [b+0,b+1,b+2] h0 [I o,I c] h K
 | 0,c,o,m,h,o',m',T,hm,hh,ho,hc,hf,hK=>by
  refine ai ?_;simp only[pi]at hf;cases hf;have hlt:¬((c:Int)<(cols:Int)):=aa;simp only[gD];simp[hlt]
  grind
 | r+1,c,o,m,h,o',m',T,hm,hh,ho,hc,hf,hK=>by
  refine ai ?_;simp only[pi]at hf;have hlt:((c:Int)<(cols:Int)):=aa;have l1:aN (ouV so eo m.length)=some (I m.length):=rfl;simp only[gD];by_cases hom:o<m.length
  .rw[if_pos hom]at hf;have hom2:((o:Int)<(m.length:Int)):=aa;cases hr:m8 RwL.z RwL.r RwL.w Bd c f o m with
   |none=>grind
   | some q=>
    obtain⟨o1,m1⟩:=q;rw[hr]at hf;simp only at hf;obtain⟨r1,r2⟩:=AY c f o m o1 m1 hom hr;simp[hlt,l1,hom2];refine lo (QR (c:=c) aa hB hL h T.ow _ f o m h o1 m1 T hm rfl hom hr λh' T1 t1=>?_)
    have cl:clean [b,b+1,b+2] [I (o1:Int),I ((c:Int)+1)] h'=true:=by
     simp only[clean,Z7];exact⟨rfl,uD (b:=b) ac T1.u 0⟩
    have rs1:aH [b,b+1,b+2] 0 h0 h'=h':=tT (b:=b) ac 0 h0 h' aa λs h1' h2'=>⟨T1.ow s aa h2',h00 s aa aa⟩
    have ih:=QS hB hL hcl h0 h00 K r (c+1) o1 m1 h' o' m' T1 aa aa aa aa hf (λh2 a1 a2 a3 a4=>hK h2 a1 aa a3 aa);have e1:((c+1:Nat):Int)=(c:Int)+1:=aa;rw[r2,e1]at ih;simp(disch:=try exact af)[cl,rs1];trivial
  .rw[if_neg hom]at hf;cases hf;have hom2:¬((o:Int)<(m.length:Int)):=aa;simp[hlt,l1,hom2]
   grind
theorem Tr.eq{b so eo L:Nat}{gh h1 h2:Hp}{m:List RwL}(T1:Tr b gh h1 so eo L m)(T2:Tr b gh h2 so eo L m):h1=h2:=by
 apply Yh;intro i;by_cases e:i=so
 .subst e;rw[T1.o,T2.o]
 .by_cases e2:∃k,k<m.length∧(nth RwL.z m k).s=i
  .grind[r]
  .have hn:∀k,k<m.length->(nth RwL.z m k).s≠i:=λk hk he=>e2 ⟨k,hk,he⟩
   rw[T1.fr i e hn,T2.fr i e hn]
theorem Tr.app{b so eo L:Nat}{gh h:Hp}{m:List RwL}(T:Tr b gh h so eo L m)(hb:h.length=b)(hg:gh.length=b)(n:Nat):Tr b (gh++List.replicate n nnQ) (h++List.replicate n nnQ) so eo L m where
 o:=by rw[List.getElem?_append_left (by have:=T.so;omega)];exact T.o
 r:=λi hi=>by rw[List.getElem?_append_left (by have:=T.sb i hi;omega)];grind[r]
 nd:=T.nd
 no:=T.no
 ln:=T.ln
 fr:=λs hs hn=>by
  by_cases hlt:s<b
  .rw[List.getElem?_append_left aa,List.getElem?_append_left aa];grind[fr]
  .rw[List.getElem?_append_right aa,List.getElem?_append_right aa,hb,hg]
 so:=T.so
 sb:=T.sb
 u:=by
  grind[u,az]
 bl:=by grind
 ow:=λs hs hl=>by
  rw[List.getElem?_append_right aa,List.getElem?_replicate,if_pos (by grind)]
theorem af3{h:Hp}{so eo k:Nat}(hg:h[so]?=some (eo,.vars cs))(hc:cs.length=n)(hk:k<=n):slV h 1 (ouV so eo n) none (some (I k))=some (.ref so eo 0 k n n):=by
 have g:ax h so eo=.vars cs:=by simp[ax,hg]
 simp only[ouV,slV,g,boV];rw[if_pos ⟨aa,aa⟩]
 grind
theorem Fa{h h':Hp}{so eo L cols f o':Nat}{m m':List RwL}{Bd:Nat}(hB:Bd<=100000)(hL:L<1000000)(hm:m.length<1000000)(hcl:cols<=L)(T:Tr h.length h h so eo L m)
  (hf:FL RwL.z RwL.r RwL.w Bd f cols m=some (o',m')) (T':Tr h.length h h' so eo L m') (hl:h'.length=h.length) :
  CI Y F.bY [ouV so eo m.length,I cols] h (.ref so eo 0 o' m.length m.length) h':=by
 refine qz ?_;simp only[bY];simp;have T0:=T.app rfl rfl 3;refine lo (QS hB hL hcl (h++List.replicate 3 nnQ) T0.ow _ cols 0 0 m _ o' m' T0 hm rfl aa aa hf λH TH lH ho hlm=>?_);have e:=TH.eq (T'.app hl rfl 3);subst e;have sl:=af3 (k:=o') TH.o (n:=m.length) (by grind) aa
 have sl':slV (h'++[(0,Bk.none),(0,Bk.none),(0,Bk.none)]) 1 (ouV so eo m.length) none (some (I o'))=some (.ref so eo 0 o' m.length m.length):=sl;simp[sl'];refine⟨by rw[Yb hl],T'.u,.inl ⟨rfl,?_⟩⟩
 grind[under,Ws,Tr.so]
theorem adx{s s' e i cap tot by_:Nat}{old:LdQ}{ex:Bool}{x:D}{h:Hp}{q:kkQ}{u:PU q}(hg:h[s']?=some (e,.data 1 old ex false))(hi:i<cap)(hc:cap<=old.length)(ht:tot=old.length)
  (hq:q (.ref s' e 0 (i+1) cap tot) (h.set s' (e,.data 1 (old.set i x) ex false))):rh (apV false s 1 by_ (.ref s' e 0 i cap tot) (.d (.sl 1 [x])) h) q u:=by
 subst ht;have g:ax h s' e=.data 1 old ex false:=by simp[ax,hg]
 show apV false s 1 by_ _ _ h q
 simp only[apV,cellsOf];rw[if_pos ac];unfold apC;rw[if_neg ae];simp only[g];rw[if_pos ⟨trivial,trivial,aa,aa,ac⟩,if_pos aa];simp only[Bool.or_self,Zc,if_false,b6];have e1:old.set i x=old.take i++x::old.drop (i+1):=by rw[Yi,if_pos aa]
 grind
structure Rd(h:Hp)(x:V)(r:LiQ):Prop where
 n:aN x=some (I r.length)
 g:∀(t:Hp)(j:Nat),j<r.length->∃p,ixV (h++t) 1 x (I j)=some p∧ld1 (h++t) p=some (I (nth 0 r j))
theorem Rd.data(h:Hp)(r:LiQ):Rd h (lst di r) r where
 n:=by rfl
 g:=λt j hj=>⟨_,oO di r _ (i:=(j:Int)) aa aa,by
  simp_all⟩
def lgB(r:LiQ)(n i:Nat):Nat×Bk:=(1,.data 1 ((r.take i).map sI++List.replicate (n-i) (.str [])) true false)
theorem abH(hi:i<r.length):((r.take i).map sI++List.replicate (r.length-i) (D.str [])).set i (sI (nth 0 r i))=(r.take (i+1)).map sI++List.replicate (r.length-(i+1)) (.str []):=by
 have e1:List.replicate (r.length-i) (D.str [])=.str []::List.replicate (r.length-(i+1)) (.str []):=by
  rw[<-List.replicate_succ];congr 1;omega
 have e2:r.take (i+1)=r.take i++[nth 0 r i]:=by rw[List.take_succ_eq_append_getElem hi,cC _ _ _ hi]
 have hl:((r.take i).map sI).length=i:=by simp;omega
 rw[e1,e2,Yy _ _ aa,hl,Za];simp
theorem HU{h:Hp}{x:V}{r:LiQ}(hr:Rd h x r)(hz:∀z∈r,-9223372036854775808<z∧z<9223372036854775808)(hn:r.length<1000000)(h0:Hp)(hh:h0.length=h.length+2)(K:KL) :
  ∀(k i:Nat),i+k=r.length->K (.exit 0) [.ref h.length 1 0 r.length r.length r.length] (h++[lgB r r.length r.length,nnQ]) ->
  lp (mR (CX Y) h.length x (I r.length)) [] h0 [.ref h.length 1 0 i r.length r.length,I i] (h++[lgB r r.length i,nnQ]) K
 | 0,i,hk,hK=>by
  refine ai ?_;have hlt:¬((i:Int)<(r.length:Int)):=aa;have:i=r.length:=aa;subst this;simp only[mR];simp[hlt];exact hK
 | k+1,i,hk,hK=>by
  refine ai ?_;have hlt:((i:Int)<(r.length:Int)):=aa;have hi:i<r.length:=aa;obtain⟨p,p1,p2⟩:=hr.g [lgB r r.length i,nnQ] i hi;obtain⟨z1,z2⟩:=hz (nth 0 r i) (iT hi);simp only[mR];simp[hlt,p1,p2];refine cd (kX z1 z2) ?_
  have hli:fJ 1 [D.str []] [(0,S (itoa (nth 0 r i)))] (h++[lgB r r.length i,nnQ])=some ([sI (nth 0 r i)],h++[lgB r r.length i,nnQ]):=by
   simp[fJ,iS,kP,toD,norm,sI]
  simp[hli];refine adx (i:=i) (e:=1) (old:=(r.take i).map sI++List.replicate (r.length-i) (.str [])) (ex:=true) (by simp[lgB]) hi (by grind) (by grind) ?_;rw[abH hi,Yy _ _ (Z8 _),Za];have e1:((i+1:Nat):Int)=(i:Int)+1:=aa;have ih:=HU hr hz hn h0 hh K k (i+1) aa hK;rw[e1]at ih
  simp(disch:=try exact af)[List.set_cons_zero]
  simp_all[lgB]
theorem SG(n:Nat)(z:D):iS n [z]=List.replicate n z:=by
 induction n with
 |zero=>rfl
 |succ n ih=>grind[iS]
theorem Mb{s e by_ n:Nat}{b0:Bk}{z:D}{h:Hp}{k:kkQ}{u:PU k}(hs:h[s]?=some (e,b0))(hb:(by_:Int)*(n:Int)<=281474976710656)(hn:n<=1000000)
  (hk:k (.ref s (e+1) 0 0 n n) (h.set s (e+1,.data 1 (List.replicate n z) true false))):rh (mkS s by_ [z] h (I 0) (I n)) k u:=by
 show mkS s by_ [z] h (I 0) (I n) k
 simp only[mkS];rw[if_pos ⟨aa,aa,ac,hb,aa⟩]
 grind[new,SG]
theorem Br{h:Hp}{x:V}(hr:Rd h x r)(hz:∀z∈r,-9223372036854775808<z∧z<9223372036854775808)(hn:r.length<1000000)(hu:(h.all λx=>az h.length x.2)=true):
  CI Y F.fS [x] h (.new 1 (r.map sI) true r.length r.length) h:=by
 refine Bu ?_;simp only[fS];have l1:=hr.n;have hn2:(16:Int)*(r.length:Int)<=281474976710656:=aa;simp[l1];refine Mb (e:=0) (b0:=.none) ac hn2 aa ?_;rw[Yy _ _ (Z8 _),Za];simp[l1]
 have lp1:=HU hr hz hn (h++[(1,Bk.data 1 (List.replicate r.length (D.str [])) true false),(0,Bk.none)]) ac (exK
      [(Exit.exit 0,λl4 h_2=>
        od (List.length h) (V.new 1 (List.map sI r) true r.length r.length) h (ge l4 0) h_2)]) r.length 0 aa (by
   simp;refine⟨ac,?_,.inr (.inr (.inl ⟨h.length,1,r.length,r.length,1,r.map sI,true,ac,Z8 _,by simp[ax,lgB],rfl⟩))⟩;exact hu)
 trivial
theorem TJ{h:Hp}(hn:n<1000000)(hu:(h.all λx=>az h.length x.2)=true):
  CI Y F.kr [I n] h (.new 1 ((List.replicate n 0).map sI) true n n) h:=by
 refine CB ?_;simp only[kr];simp(disch:=try exact af);obtain⟨H,hH⟩:=nmQ (h++[(1,Bk.data 1 (List.replicate n (D.int IntKind.i64 0)) true false),(0,Bk.none)])
 have hg:∀t:Hp,ax (H++t) h.length 1=.data 1 (List.replicate n (D.int IntKind.i64 0)) true false:=λt=>by
  grind[ax]
 have hr:Rd H (.ref h.length 1 0 n n n) (List.replicate n 0):=by
  refine⟨ac,λt j hj=>⟨.ptr h.length 1 j n,?_,?_⟩⟩
  .rw[Y8]at hj;simp only[ixV,hg t];rw[if_pos ⟨ac,aa,aa⟩];simp
  .rw[Y8]at hj;simp only[ld1,hg t];rw[if_pos ac];have e2:nth 0 (List.replicate n (0:Int)) j=0:=by simp[nth,hj]
   grind
 have hu2:(H.all λx=>az H.length x.2)=true:=by
  refine tM (b:=h.length) (by grind) ?_;rw[hH,Y0,hu];simp[az]
 have lg:=Br hr (λz hz=>by grind) (by grind) hu2;rw[<-hH];refine gA lg (s:=h.length+1) (e:=0) (b:=.none) (by grind) ?_;refine⟨by grind,hu,.inr (.inr (.inl ⟨h.length+1,1,n,n,1,(List.replicate n 0).map sI,true,ac,aa,?_,rfl⟩))⟩
 grind[ax]
end Go.Vm
