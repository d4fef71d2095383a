/- Lemmas. -/
import Derived.Test.YtbjigngcncfhmaaGreatDoorQDcY
set_option linter.unusedVariables false
set_option linter.unusedSimpArgs false
namespace Go.Vm
open Go Go.Am Go.Big
variable{n:Int}{g d e j i:Nat}{α β:Type}{l:List Tx}{ex fr:Bool}{clr:LnQ}{cs:LwQ}
theorem sL{z:Int}{w:Nat}(h:sdg z<=w):z.natAbs<10^w:=by
 have:ndg z.natAbs<=w:=by unfold sdg at h;omega
 exact Z0 (dj _) (Zz af this)
theorem kN{z:Int}(h1 : -9223372036854775808<z)(h2:z<9223372036854775808):CP Y F.eD [I z] (S (itoa z)):=by refine DZ ?_;simp[eD];refine cd (Dy h1 h2) ?_;exact fY rfl
theorem Dq{a b k:Nat}(ha:ndg a<=k)(hb:ndg b<=k):ndg (a+b)<=k+1:=by have h1:a<10^k:=Z0 (dj a) (Zz af ha);have h2:b<10^k:=Z0 (dj b) (Zz af hb);exact fM (by rw[Nat.pow_succ];omega) aa
theorem YL{z w:Int}(hz:ndg z.natAbs<999999)(hw:ndg w.natAbs<999999): 
  cal (CX Y).p [] (.fn F.aU [] []) [S (itoa z)] λv6 h=>
  ext v6 0 λv7=>
  ext v6 1 λv8=>
  cal (CX Y).p h (.fn F.aU [] []) [S (itoa w)] λv9 h=>
  ext v9 0 λv10=>
  ext v9 1 λv11=>
  bnd (biB .eql v7 v10) λv12=>
  cnd v12 (
   cal (CX Y).p h (.fn F.gj [] []) [v8,v11] λv13 h=>
   cal (CX Y).p h (.fn F.cO [] []) [v7,v13] λv14 h=>
   out (S (itoa (z+w))) v14 h) (
   cal (CX Y).p h (.fn F.cx [] []) [v8,v11] λv15 h=>
   bnd (biI .lss v15 (.d (.int .i64 0))) λv16=>
   jn (λl17 h=>
    cal (CX Y).p h (.fn F.gV [] []) [(ge l17 1),(ge l17 2)] λv19 h=>
    ext v19 0 λv20=>
    ext v19 1 λv21=>
    cal (CX Y).p h (.fn F.cO [] []) [(ge l17 0),v20] λv22 h=>
    out (S (itoa (z+w))) v22 h) λq18=>
    cnd v16 (
     q18 [v10,v11,v8] h) (
     q18 [v7,v8,v11] h)):=by
 simp;refine cd (o6 z) ?_;simp;refine cd (o6 w) ?_;have eb:biB .eql (B (decide (z<0))) (B (decide (w<0)))=some (B (decide (z<0) == decide (w<0))):=rfl;simp[eb];by_cases hs:(z<0↔w<0)
 .simp[hs];refine cd (yP (a:=z.natAbs) (b:=w.natAbs) aa aa) ?_;simp;have hk:ndg (z.natAbs+w.natAbs)<=999999:=Dq aa aa;refine cd (gS (decide (z<0)) (n:=z.natAbs+w.natAbs) aa) ?_;refine fY ?_;congr 1;unfold sg;by_cases h:z<0
  .simp[h];omega
  .simp[h];omega
 .simp[hs];refine cd (xx (a:=z.natAbs) (b:=w.natAbs) aa aa) ?_;simp;by_cases hlt:z.natAbs<w.natAbs
  .have hc:Big.cmp z.natAbs w.natAbs<0:=by rw[JP hlt];decide
   refine gI (l:=[B (decide (w<0)),S (ah w.natAbs),S (ah z.natAbs)]) (h:=[]) (λq=>by simp[hc]) ?_;simp;refine cd (xw (a:=w.natAbs) (b:=z.natAbs) aa aa) ?_;simp;refine cd (gS (decide (w<0)) (n:=w.natAbs-z.natAbs) (Y8 (eW (Nat.sub_le ..)) aa)) ?_;refine fY ?_;congr 1;unfold sg;by_cases h:w<0
   .simp[h];omega
   .simp[h];omega
  ·have hc:¬Big.cmp z.natAbs w.natAbs<0:=by
    rcases Nat.eq_or_lt_of_not_lt hlt with h|h
    .rw[h,cmp_eq];decide
    .rw[JR h];decide
   refine gI (l:=[B (decide (z<0)),S (ah z.natAbs),S (ah w.natAbs)]) (h:=[]) (λq=>by simp[hc]) ?_;simp;refine cd (xw (a:=z.natAbs) (b:=w.natAbs) aa aa) ?_;simp;refine cd (gS (decide (z<0)) (n:=z.natAbs-w.natAbs) (Y8 (eW (Nat.sub_le ..)) aa)) ?_;refine fY ?_;congr 1;unfold sg;by_cases h:z<0
   .simp[h];omega
   .simp[h];omega
theorem y9{z w:Int}(hz:ndg z.natAbs<999999)(hw:ndg w.natAbs<999999):CP Y F.kG [S (itoa z),S (itoa w)] (S (itoa (z+w))):=by
 refine Kl ?_;have l1:=oV z 18 af;have l2:=oV w 18 af;have tl:=YL hz hw;simp[kG];refine cd l1 ?_;by_cases h1:sdg z<=18
 .rw[if_pos h1];simp;by_cases h2:sdg w<=18
  .rw[if_pos h2]at l2;refine bM ?_;simp;refine cd l2 ?_;have b1:=sL h1;have b2:=sL h2;simp only[Nat.reducePow]at b1 b2;obtain⟨m,hm⟩:=mnQ (z+w);rw[hm];simp(disch:=try exact ae)[hm];refine cd (kN (z:=m) aa aa) ?_;exact fY rfl
  .rw[if_neg h2]at l2;refine bM ?_;simp;refine cd l2 ?_;simp;simpa using tl
 .rw[if_neg h1];simp;refine bM ?_;simp;simpa using tl
theorem tO{z w:Int}(hz:ndg z.natAbs<400000)(hw:ndg w.natAbs<400000):CP Y F.cE [S (itoa z),S (itoa w)] (S (itoa (z*w))):=by
 refine Kh ?_;have l1:=oV z 9 af;have l2:=oV w 9 af;have dm:=H7 (a:=z.natAbs) (b:=w.natAbs) aa aa
 have hk:ndg (z.natAbs*w.natAbs)<1000000:=by
  have h1:=dj z.natAbs;have h2:=dj w.natAbs;have h3:z.natAbs*w.natAbs<10^(ndg z.natAbs+ndg w.natAbs):=by rw[X8];exact Yc h1 h2
  have:=fM h3 (by have:=lN z.natAbs;omega);omega
 have e:sg (decide (z<0) !=decide (w<0)) (z.natAbs*w.natAbs)=z*w:=by
  unfold sg;by_cases h1:z<0<;>by_cases h2:w<0
  .simp[h1,h2];rw[Xq aa,Xq aa,Int.neg_mul_neg]
  .simp[h1,h2];rw[Xq aa,Xm aa,Int.neg_mul,Wj]
  .simp[h1,h2];rw[Xm aa,Xq aa,Int.mul_neg,Wj]
  .simp[h1,h2];rw[Xm aa,Xm aa]
 have eb:biB .neq (B (decide (z<0))) (B (decide (w<0)))=some (B (decide (z<0) !=decide (w<0))):=rfl;have jo:=gS (decide (z<0) !=decide (w<0)) hk;rw[e]at jo
 have tail:∀u:Unit,cal (CX Y).p [] (.fn F.aU [] []) [S (itoa z)] λv6 h=>
  ext v6 0 λv7=>
  ext v6 1 λv8=>
  cal (CX Y).p h (.fn F.aU [] []) [S (itoa w)] λv9 h=>
  ext v9 0 λv10=>
  ext v9 1 λv11=>
  bnd (biB .neq v7 v10) λv12=>
  cal (CX Y).p h (.fn F.jY [] []) [v8,v11] λv13 h=>
  cal (CX Y).p h (.fn F.cO [] []) [v12,v13] λv14 h=>
  out (S (itoa (z*w))) v14 h:=by
  intro _;simp;refine cd (o6 z) ?_;simp;refine cd (o6 w) ?_;simp[eb];refine cd dm ?_;simp;refine cd jo ?_;exact fY rfl
 simp[cE];refine cd l1 ?_;by_cases h1:sdg z<=9
 .rw[if_pos h1];simp;by_cases h2:sdg w<=9
  .rw[if_pos h2]at l2;refine bM ?_;simp;refine cd l2 ?_;have b1:=sL h1;have b2:=sL h2
   have hmb:(z*w).natAbs<1000000000000000000:=by
    rw[Y9];exact Yc b1 b2
   obtain⟨m,hm⟩:=mnQ (z*w);rw[hm]at hmb ⊢;simp(disch:=try exact ae)[hm];refine cd (kN (z:=m) aa aa) ?_;exact fY rfl
  .rw[if_neg h2]at l2;refine bM ?_;simp;refine cd l2 ?_;simp;simpa using tail ()
 .rw[if_neg h1];simp;refine bM ?_;simp;simpa using tail ()
theorem ma(n:Nat):itoa (n:Int)=ah n:=by rfl
theorem ZL(n:Nat):sgn (n:Int)=if n=0 then 0 else 1:=by
 unfold sgn;by_cases h:n=0
 .simp[h]
 .rw[if_neg aa,if_neg aa,if_neg h]
theorem KS(n:Nat):CP Y F.dQ [S (ah n)] (I (if n=0 then 0 else 1)):=by
 have:=tU (n:Int)
 grind[ma,ZL]
theorem SJ{a b:Nat}(ha:ndg a<1000000)(hb:ndg b<1000000):CP Y F.mh [S (ah a),S (ah b)] (I (Big.cmp a b)):=by
 refine Cz ?_;have s1:=KS a;have s2:=KS b;simp[mh];by_cases h1:a=0
 .rw[if_pos h1]at s1;by_cases h2:b=0
  .rw[if_pos h2]at s2;refine cd s1 ?_;simp;refine cd s2 ?_;simp;refine cd (tT a) ?_;simp;refine cd (tT b) ?_;simp;refine gI (l:=[S (ah a),S (ah b)]) (h:=[]) (λq=>by simp) ?_;simp;refine cd (xx ha hb) ?_;simp
  .rw[if_neg h2]at s2;refine cd s1 ?_;simp;refine cd s2 ?_;simp;exact ct (JP aa).symm
 .rw[if_neg h1]at s1;by_cases h2:b=0
  .rw[if_pos h2]at s2;refine cd s1 ?_;simp;refine cd s2 ?_;simp;exact ct (JR aa).symm
  .rw[if_neg h2]at s2;refine cd s1 ?_;simp;refine cd s2 ?_;simp;refine cd (tT a) ?_;simp;refine cd (tT b) ?_;simp;refine gI (l:=[S (ah a),S (ah b)]) (h:=[]) (λq=>by simp) ?_;simp;refine cd (xx ha hb) ?_;simp
theorem vd{a b:Nat}(hb:0<b):(-(a:Int))/(b:Int)=(if a%b=0 then -((a/b:Nat):Int)else -((a/b+1:Nat):Int))∧(-(a:Int))%(b:Int)=(if a%b=0 then 0 else((b-a%b:Nat):Int)):=by
 have h1:=Xf a b;have h2:=Y3 a hb;generalize a%b=r at *;generalize a/b=q at *;by_cases h:r=0
 .subst h;simp only[if_true]
  have e:(-(a:Int))=(b:Int)*(-(q:Int)):=by
   rw[Int.mul_neg,<-Int.natCast_mul];congr 1;omega
  rw[e];exact⟨Int.mul_ediv_cancel_left _ aa,Int.mul_emod_right _ _⟩
 .simp only[if_neg h]
  have e:(-(a:Int))=((b-r:Nat):Int)+(b:Int)*(-((q+1:Nat):Int)):=by
   have:(a:Int)=(b:Int)*q+r:=by rw[<-Int.natCast_mul];omega
   rw[this,Int.mul_neg,Int.natCast_add,Int.mul_add];omega
  have l1:(0:Int)<=((b-r:Nat):Int):=aa;have l2:((b-r:Nat):Int)<(b:Int):=aa;rw[e];constructor
  .rw[Int.add_mul_ediv_left _ _ aa,Int.ediv_eq_zero_of_lt l1 l2,Int.zero_add]
  .rw[Int.add_mul_emod_self_left,Int.emod_eq_of_lt l1 l2]
theorem Dp:ndg 1=1:=aR
theorem oN{a b a' b':LuQ}{c:Int}{h:Hp}(e1:a'=a)(e2:b'=b):out (.tup [S a,S b,I c]) (.tup [S a',S b',I c]) h:=by simp_all[jQ]
theorem aa0{z:Int}{b:Nat}(hb:0<b)(hz:ndg z.natAbs<900000)(hbd:ndg b<900000):
   cal (CX Y).p [] (.fn F.aU [] []) [S (itoa z)] λv7 h=>
   ext v7 0 λv8=>
   ext v7 1 λv9=>
   cal (CX Y).p h (.fn F.aU [] []) [S (ah b)] λv10 h=>
   ext v10 0 λv11=>
   ext v10 1 λv12=>
   cal (CX Y).p h (.fn F.dZ [] []) [v9,v12] λv13 h=>
   ext v13 0 λv14=>
   ext v13 1 λv15=>
   ext v13 2 λv16=>
   bnd (biI .neq v16 (.d (.int .i64 0))) λv17=>
   cnd v17 (
    out (.tup [S (itoa (z/b)),S (itoa (z%b)),I 0]) (.tup [(.d (.str [])),(.d (.str [])),v16]) h) (
    bnd (biB .neq v8 v11) λv18=>
    gd v18 true h (λq=>q v15 h) λv19 h=>
    gd v18 true h (λq=>bnd (biS .neq v19 (.d (.str [48]))) λv=>q v h) λv20 h=>
    bnd (o9 v18 v20 (.d (.bool false))) λv21=>
    jn (λl22 h=>
     bnd (biB .neq v8 v11) λv24=>
     cal (CX Y).p h (.fn F.cO [] []) [v24,(ge l22 0)] λv25 h=>
     cal (CX Y).p h (.fn F.cO [] []) [v11,(ge l22 1)] λv26 h=>
     out (.tup [S (itoa (z/b)),S (itoa (z%b)),I 0]) (.tup [v25,v26,(.d (.int .i64 0))]) h) λq23=>
     cnd v21 (
      cal (CX Y).p h (.fn F.gj [] []) [v14,(.d (.str [49]))] λv27 h=>
      cal (CX Y).p h (.fn F.gV [] []) [v12,v15] λv28 h=>
      ext v28 0 λv29=>
      ext v28 1 λv30=>
      q23 [v27,v29] h) (
      q23 [v14,v15] h)):=by
 have hq:ndg (z.natAbs/b)<=ndg z.natAbs:=eW (Yy ..);have hr:z.natAbs%b<b:=Y3 _ hb;have hr2:ndg (z.natAbs%b)<=ndg b:=eW aa
 have eb:biB .neq (B (decide (z<0))) (B false)=some (B (decide (z<0))):=by
  show some (B (decide (z<0) !=false))=_
  rw[Bool.bne_false]
 simp;refine cd (o6 z) ?_;simp;refine cd (tT b) ?_;simp;refine cd (xv (a:=z.natAbs) hb aa aa) ?_;by_cases hneg:z<0
 .have ez:z = -(z.natAbs:Int):=aa;obtain⟨d1,d2⟩:=vd (a:=z.natAbs) hb;rw[<-ez]at d1 d2;rw[decide_eq_true hneg]at eb ⊢;by_cases h0:z.natAbs%b=0
  .rw[if_pos h0]at d1 d2;rw[h0,eO];simp[eb];refine gI (l:=[S (ah (z.natAbs/b)),S [48]]) (h:=[]) (λq=>by simp) ?_;simp[eb];refine cd (gS true (n:=z.natAbs/b) aa) ?_;simp;have j0:=gS false (n:=0) (by grind);rw[eO]at j0;refine cd j0 ?_;refine oN ?_ ?_
   .rw[d1];rfl
   .rw[d2];rfl
  .rw[if_neg h0]at d1 d2;have h48:¬ah (z.natAbs%b)=[48]:=λh=>h0 (kf.1 h)
   have ad:=yP (a:=z.natAbs/b) (b:=1) aa (by simp[Dp]);rw[show ah 1=[49] by decide+kernel]at ad;simp[eb,h48];refine bM ?_;simp[h48];refine cd ad ?_;simp;refine cd (xw (a:=b) (b:=z.natAbs%b) aa aa) ?_;simp[eb];have hq1:ndg (z.natAbs/b+1)<=900000+1:=Dq aa (by simp[Dp])
   refine cd (gS true (n:=z.natAbs/b+1) aa) ?_;simp;refine cd (gS false (n:=b-z.natAbs%b) (Y8 (eW (Nat.sub_le ..)) aa)) ?_;refine oN ?_ ?_
   .rw[d1];rfl
   .rw[d2];rfl
 .rw[decide_eq_false hneg]at eb ⊢;simp[eb];refine gI (l:=[S (ah (z.natAbs/b)),S (ah (z.natAbs%b))]) (h:=[]) (λq=>by simp) ?_;simp[eb];refine cd (gS false (n:=z.natAbs/b) aa) ?_;simp;refine cd (gS false (n:=z.natAbs%b) aa) ?_;have ez:z=(z.natAbs:Int):=aa;refine oN ?_ ?_
  .rw[ez,<-Int.natCast_ediv];rfl
  .rw[ez,<-Int.natCast_emod];rfl
theorem ye{z:Int}{b:Nat}(hb:0<b)(hz:ndg z.natAbs<900000)(hbd:ndg b<900000):CP Y F.bO [S (itoa z),S (ah b)] (.tup [S (itoa (z/b)),S (itoa (z%b)),I 0]):=by
 refine vY ?_;have l1:=oV z 18 af;have l2:=NQ b 18 af;have tl:=aa0 hb hz hbd;have h48:¬ah b=[48]:=λh=>by grind[kf]
 simp[bO,h48];refine cd l1 ?_;by_cases h1:sdg z<=18
 .rw[if_pos h1];by_cases h2:ndg b<=18
  .rw[if_pos h2]at l2;simp;refine bM ?_;simp;refine cd l2 ?_;have b1:=sL h1;have b2:b<10^18:=Z0 (dj b) (Zz af h2);simp only[Nat.reducePow]at b1 b2;have hbz:¬(b:Int)=0:=aa;obtain⟨n,hn⟩:=nmQ (z.natAbs);rw[<-hn]at b1;have hq:n/b<=n:=Yy ..;have hr:n%b<b:=Y3 _ hb;by_cases hneg:z<0
   .have ez:z = -(n:Int):=aa;obtain⟨d1,d2⟩:=vd (a:=n) hb;rw[<-ez]at d1 d2;have q1:z.tdiv (b:Int) = -((n/b:Nat):Int):=by rw[ez,Int.neg_tdiv,Zt aa,<-Int.natCast_ediv]
    have q2:z.tmod (b:Int) = -((n%b:Nat):Int):=by rw[ez,Int.neg_tmod,Zx aa,<-Int.natCast_emod]
    obtain⟨q,hqq⟩:=nmQ (n/b);obtain⟨r,hrr⟩:=nmQ (n%b);rw[<-hqq]at q1 d1 hq;rw[<-hrr]at q2 d1 d2 hr;by_cases h0:r=0
    .rw[if_pos h0]at d1 d2;rw[h0]at q2;simp(disch:=try exact ae)[q1,q2];refine gI (l:=[I (-(q:Int)),I 0]) (h:=[]) (λq=>by simp) ?_;simp;refine cd (kN (z:=-(q:Int)) aa aa) ?_;simp;refine cd (kN (z:=0) aa aa) ?_;refine oN ?_ ?_
     .rw[d1]
     .rw[d2]
    .rw[if_neg h0]at d1 d2;have r0:¬(-(r:Int))=0:=aa;have r1:(-(r:Int))<0:=aa;have r2:¬(b:Int)<0:=aa;have eb:∀x y:Bool,biB .neq (B x) (B y)=some (B (x !=y)):=λ_ _=>rfl
     simp(disch:=try exact ae)[q1,q2,r0,r1,r2,eb];refine gI (l:=[I (-(q:Int)-1),I (-(r:Int)+b)]) (h:=[]) (λq=>by simp(disch:=try exact ae)[r0,r1,r2]) ?_;simp;refine cd (kN (z:=-(q:Int)-1) aa aa) ?_;simp;refine cd (kN (z:=-(r:Int)+b) aa aa) ?_
     grind[oN]
   .have ez:z=(n:Int):=aa;have q1:z.tdiv (b:Int)=((n/b:Nat):Int):=by rw[ez,Zt aa,<-Int.natCast_ediv]
    have q2:z.tmod (b:Int)=((n%b:Nat):Int):=by rw[ez,Zx aa,<-Int.natCast_emod]
    have d1:z/(b:Int)=((n/b:Nat):Int):=by rw[ez,<-Int.natCast_ediv]
    have d2:z%(b:Int)=((n%b:Nat):Int):=by rw[ez,<-Int.natCast_emod]
    obtain⟨q,hqq⟩:=nmQ (n/b);obtain⟨r,hrr⟩:=nmQ (n%b);rw[<-hqq]at q1 d1 hq;rw[<-hrr]at q2 d2 hr;have r1:¬((r:Int))<0:=aa;have r2:¬(b:Int)<0:=aa;have eb:∀x y:Bool,biB .neq (B x) (B y)=some (B (x !=y)):=λ_ _=>rfl
    have fin:∀h:Hp,cal (CX Y).p h (V.fn F.eD [] []) [I q] λv45 h=>
      cal (CX Y).p h (V.fn F.eD [] []) [I r] λv46 h=>out (V.tup [S (itoa (z/(b:Int))),S (itoa (z%(b:Int))),I 0]) (V.tup [v45,v46,V.d (D.int IntKind.i64 0)]) h:=by
     intro h;simp;refine cd (kN (z:=q) aa aa) ?_;simp;refine cd (kN (z:=r) aa aa) ?_;refine oN ?_ ?_
     .rw[d1]
     .rw[d2]
    by_cases h0:r=0
    .rw[h0]at q2 fin;simp(disch:=try exact ae)[q1,q2];refine gI (l:=[I q,I 0]) (h:=[]) (λq=>by simp) ?_;exact fin []
    .have r0:¬(r:Int)=0:=aa;simp(disch:=try exact ae)[q1,q2,r0,r1,r2,eb];refine gI (l:=[I q,I r]) (h:=[]) (λq=>by simp[r0,r1,r2]) ?_;exact fin []
  .rw[if_neg h2]at l2;simp;refine bM ?_;simp;refine cd l2 ?_;simp;trivial
 .rw[if_neg h1];simp;refine bM ?_;simp;trivial
theorem Sl{a b:Nat}(ha0:0<a)(hb0:0<b)(ha:ndg a<400000)(hb:ndg b<400000):CP Y F.pi [S (ah a),S (ah b)] (S (ah (Nat.lcm a b))):=by
 refine GO ?_;have h1:¬ah a=[48]:=λh=>by have:=kf.1 h;omega
 have h2:¬ah b=[48]:=λh=>by have:=kf.1 h;omega
 have hg:0<Nat.gcd a b:=Nat.gcd_pos_of_pos_left _ ha0;have hgl:Nat.gcd a b<=a:=Nat.gcd_le_left _ ha0;have hq:ndg (a/Nat.gcd a b)<=ndg a:=eW (Yy ..);simp[pi,h1,h2];refine cd (P0 aa aa) ?_;simp;refine cd (xv (a:=a) (b:=Nat.gcd a b) hg aa (by have:=eW hgl;omega)) ?_;simp
 refine cd (H7 (a:=a/Nat.gcd a b) (b:=b) aa aa) ?_;refine fY ?_;congr 1;rw[Nat.lcm,Zq,<-Nat.mul_div_assoc _ (Wz a b),Zq]
theorem J4(n:Nat):CP Y F.eS [S (ah n)] (S (ah n)):=by
 have:=xC (n:Int)
 rwa [ma,Int.natAbs_natCast]at this
theorem YW{a b:Nat}(ha0:0<a)(hb0:0<b)(ha:ndg a<400000)(hb:ndg b<400000):CP Y F.pQ [S (ah a),S (ah b)] (S (ah (Nat.lcm a b))):=by refine Ki ?_;simp[pQ];refine cd (J4 a) ?_;simp;refine cd (J4 b) ?_;simp;refine cd (Sl ha0 hb0 ha hb) ?_;exact fY rfl
theorem Rm{z:Int}(h:z.natAbs<9223372036854775808):CP Y F.fv [S (itoa z),I 10,I 64] (.tup [I z,.d (.pl .nilIface)]):=by
 have key:∀n:Nat,n<9223372036854775808->(ah n)≠[]∧(ah n).all oW=true∧(ah n).length<=1000∧pO 0 (ah n)=n:=by
  intro n hn;have hd:=dX n;have hc:=sr n
  have hl:(ah n).length<=1000:=by
   have:=fM (n:=n) (d:=19) aa af;rw[ah,bf];omega
  simp only[qI,Z7]at hc
  have hall:(ah n).all oW=true:=by
   rw[<-hc.1.2];congr 1;funext c;exact digit_eq c
  exact⟨wO n,hall,hl,by rw[xr,hd]⟩
 have ho:Y.X.orc F.fv [.string ⟨⟨itoa z⟩⟩,.int .i64 10,.int .i64 64]=some (.tuple #[.int .i64 z,.nilIface]):=by
  have e:∀a,Y.X.orc F.fv a=Pf a:=λa=>rfl
  rw[e];obtain⟨k1,k2,k3,k4⟩:=key _ h;unfold Pf;simp only;rw[if_pos ⟨trivial,trivial⟩];by_cases hz:z<0
  .have e1:itoa z=45::ah z.natAbs:=by unfold itoa;rw[if_pos hz]
   rw[e1];simp only;rw[if_pos ⟨k1,k2,k3,by rw[k4];exact h⟩,k4,show(-((z.natAbs:Nat):Int))=z by omega]
  .have e1:itoa z=ah z.natAbs:=by unfold itoa;rw[if_neg hz]
   rw[e1];have hh:=sj z.natAbs;have ez:((z.natAbs:Nat):Int)=z:=aa;generalize ah z.natAbs=L at *
   have fin:(if L≠[]∧L.all oW=true∧L.length<=1000∧pO 0 L<9223372036854775808 then some (Value.tuple #[.int .i64 (pO 0 L),.nilIface])else none)=some (Value.tuple #[.int .i64 z,.nilIface]):=by
    rw[if_pos ⟨k1,k2,k3,by rw[k4];exact h⟩,k4,ez]
   split
   .rename_i l hl;exact absurd rfl hh
   .exact fin
 exact CP.orc ho (by intro x hx;simp only[Zu,Y1,or_false]at hx;rcases hx with rfl|rfl|rfl<;>rfl) rfl
theorem AY{z:Int}(h:z.natAbs<9223372036854775808):CP Y F.ly [S (itoa z)] (.tup [I z,B true]):=by refine Gf ?_;simp[ly];refine cd (Rm h) ?_;simp[I9];exact cG rfl rfl
theorem aax{n:Nat}(h:n<18446744073709551616):CP Y F.mC [.d (.int .u64 n)] (I (cT n)):=by refine CQ ?_;simp[mC];refine cd (LY h) ?_;simp<;>exact ct rfl
theorem nZ:ah 1=[49]:=aR
theorem Km{a b:Nat}(ha:ndg a<400000)(hb:ndg b<400000):CP Y F.cE [S (ah a),S (ah b)] (S (ah (a*b))):=by have:=tO (z:=(a:Int)) (w:=(b:Int)) (by trivial) (by trivial);trivial
theorem Kn{a b:Nat}(h0:0<b)(ha:ndg a<900000)(hb:ndg b<900000):CP Y F.bO [S (ah a),S (ah b)] (.tup [S (ah (a/b)),S (ah (a%b)),I 0]):=by grind[ye,ma]
theorem xj{a b:Nat}:ndg (a*b)<=ndg a+ndg b:=by
 have h3:a*b<10^(ndg a+ndg b):=by rw[X8];exact Yc (dj a) (dj b)
 exact fM h3 (by grind[lN])
abbrev Q:=Int×Nat
variable{x q:Q}{s fs t:List Q}
def okQ(x:Q):Prop:=0<x.2∧Nat.gcd x.1.natAbs x.2=1
def qT(x:Q):LwQ:=[S (itoa x.1),S (ah x.2)]
def m8(n:Int)(d:Nat):Q:=(n/(Nat.gcd n.natAbs d:Nat),d/Nat.gcd n.natAbs d)
def lj(a b:Q):Q:=m8 (a.1*b.2+b.1*a.2) (a.2*b.2)
def qz(a b:Q):Q:=m8 (a.1*b.1) (a.2*b.2)
def sG(a:Q):Q:=(-a.1,a.2)
def sf(n d:Int):Q:=if d<0 then m8 (-n) d.natAbs else m8 n d.natAbs
theorem XI(h:g∣n.natAbs):(g:Int)∣n:=Int.natAbs_dvd_natAbs.1 (by simpa using h)
theorem Du(n:Int)(hd:0<d):okQ (m8 n d):=by
 have hg:0<Nat.gcd n.natAbs d:=Xl _ hd;obtain⟨g,hgg⟩:=nmQ (Nat.gcd n.natAbs d);have h1:g∣n.natAbs:=by rw[hgg];exact Wz ..
 have h2:g∣d:=by rw[hgg];exact Nat.gcd_dvd_right ..
 unfold m8;rw[<-hgg]at hg ⊢;refine⟨Nat.div_pos (Wv hd h2) hg,?_⟩
 have e:(n/(g:Int)).natAbs=n.natAbs/g:=by
  rw[Int.natAbs_ediv_of_dvd (XI h1),Int.natAbs_natCast]
 simp only[e];rw[Nat.gcd_div h1 h2,<-hgg,Nat.div_self hg]
theorem Vi(h:Nat.gcd n.natAbs d=1):m8 n d=(n,d):=by unfold m8;rw[h];simp
theorem PC(n:Int)(d:Nat):(m8 n d).1.natAbs<=n.natAbs∧(m8 n d).2<=d:=by
 obtain⟨g,hgg⟩:=nmQ (Nat.gcd n.natAbs d);have h1:g∣n.natAbs:=by rw[hgg];exact Wz ..
 unfold m8;rw[<-hgg];constructor
 .simp only;rw[Int.natAbs_ediv_of_dvd (XI h1),Int.natAbs_natCast];exact Yy ..
 .exact Yy ..
theorem aan(k:KL)(h:Hp)(h0:Hp)(hl:h.length=h0.length):∀(m:Nat)(a b:Int),b.natAbs<=m->a.natAbs<9223372036854775807->b.natAbs<9223372036854775807 ->
  (∀c:Int,c.natAbs=Nat.gcd a.natAbs b.natAbs->k (.exit 0) [I c] h)->lp (nK (CX Y)) [] h0 [I a,I b] h k:=by
 intro m
 induction m with
 | zero=>
  intro a b hb ha hb2 hk;have hb0:b=0:=aa;subst hb0;refine aj ?_;simp[nK];exact hk a ac
 | succ m ih=>
  intro a b hb ha hb2 hk;refine aj ?_;by_cases hb0:b=0
  .subst hb0;simp[nK];exact hk a ac
  ·have hr:(a.tmod b).natAbs<b.natAbs:=by
    rw[Int.natAbs_tmod];exact Y3 _ aa
   have e:Nat.gcd b.natAbs (a.tmod b).natAbs=Nat.gcd a.natAbs b.natAbs:=by
    rw[Int.natAbs_tmod,Wn,<-Nat.gcd_rec,Wn]
   simp[nK,hb0,hl];exact ih b (a.tmod b) aa aa aa (λc hc=>hk c (hc.trans e))
theorem jm{a b a' b':LuQ}{h:Hp}(e1:a'=a)(e2:b'=b):out (.agg [S a,S b]) (.agg [S a',S b']) h:=by subst e1;subst e2;exact⟨h,by simp[bH,aH,norm]⟩
theorem P2(hd:0<d)(hn:n.natAbs<9223372036854775807)(hd2:d<9223372036854775807):CP Y F.iY [I n,I d] (.agg (qT (m8 n d))):=by
 refine GC ?_;obtain⟨g,hgg⟩:=nmQ (Nat.gcd n.natAbs d);have hg:0<g:=by rw[hgg];exact Xl _ hd
 have h1:g∣n.natAbs:=by rw[hgg];exact Wz ..
 have h2:g∣d:=by rw[hgg];exact Nat.gcd_dvd_right ..
 have hgd:g<=d:=Wv hd h2;have e1:n.tdiv (g:Int)=n/(g:Int):=Int.tdiv_eq_ediv_of_dvd (XI h1);have e2:(d:Int).tdiv (g:Int)=((d/g:Nat):Int):=by rw[Zt aa,<-Int.natCast_ediv]
 have e3:(n/(g:Int)).natAbs<=n.natAbs:=by
  rw[Int.natAbs_ediv_of_dvd (XI h1),Int.natAbs_natCast];exact Yy ..
 have e4:d/g<=d:=Yy ..;have eq:qT (m8 n d)=[S (itoa (n/(g:Int))),S (ah (d/g))]:=by unfold qT m8;rw[<-hgg]
 rw[eq];generalize n/(g:Int)=nq at *;generalize d/g=dq at *;have i1:=Dy (z:=nq) aa aa;have i2:=Dy (z:=(dq:Int)) aa aa;rw[ma]at i2;have hg0:¬(g:Int)=0:=aa;simp[iY];refine lo (aan _ _ _ rfl (d:Int).natAbs n d (Z8 _) hn aa (λc hc=>?_));rw[Int.natAbs_natCast,<-hgg]at hc;simp
 have tail:∀u:Unit,bnd (biI .quo (I n) (I g)) λv6=>
   cal (CX Y).p [(1,.vars [.d (.str []),.d (.str [])])] (.fn F.strconv_Itoa [] []) [v6] λv7 h=>
   bnd (biI .quo (I d) (I g)) λv8=>
   cal (CX Y).p h (.fn F.strconv_Itoa [] []) [v8] λv9 h=>
   bnd (bld [(0,1),(1,1)] [.str [],.str []] [(0,v7),(1,v9)]) λv10=>
   stD h 2 (.ptr 0 1 0 2) v10 λ_ h=>
   bnd (ldA h 2 (.ptr 0 1 0 2)) λv12=>
   out (.agg [S (itoa nq),S (ah dq)]) v12 h:=by
  intro _;simp(disch:=try exact ae)[e1,e2,hg0];refine cd i1 ?_;simp(disch:=try exact ae)[e2,hg0];refine cd i2 ?_;simp;exact jm rfl rfl
 by_cases hc0:c<0
 .have hcg : -c=(g:Int):=aa;refine gI (l:=[I g]) (h:=[(1,.vars [.d (.str []),.d (.str [])])]) (λq=>by simp(disch:=try exact ae)[hc0,hcg]) ?_;exact tail ()
 .have hcg:c=(g:Int):=aa;subst hcg;refine gI (l:=[I g]) (h:=[(1,.vars [.d (.str []),.d (.str [])])]) (λq=>by simp[hc0]) ?_;exact tail ()
def qL(K:Nat)(x:Q):Prop:=ndg x.1.natAbs<=K∧ndg x.2<=K
theorem Vj{K:Nat}(h1:ndg n.natAbs<=K)(h2:ndg d<=K):qL K (m8 n d):=
 ⟨Zy (eW (PC n d).1) h1,Zy (eW (PC n d).2) h2⟩
theorem qL.mono{K L:Nat}(h:qL K x)(hl:K<=L):qL L x:=⟨Zy h.1 hl,Zy h.2 hl⟩
theorem Cm{z w:Int}{k:Nat}(hz:ndg z.natAbs<=k)(hw:ndg w.natAbs<=k):ndg (z+w).natAbs<=k+1:=
 Zy (eW (Int.natAbs_add_le z w)) (Dq hz hw)
theorem nE{z w:Int}:ndg (z*w).natAbs<=ndg z.natAbs+ndg w.natAbs:=by rw[Y9];exact xj
theorem ac5{a b:Q}{K L:Nat}(ha:qL K a)(hb:qL L b):qL (K+L+1) (lj a b):=by
 refine Vj (Cm ?_ ?_) ?_
 .have:=nE (z:=a.1) (w:=(b.2:Int));rw[Int.natAbs_natCast]at this;have:=ha.1;have:=hb.2;omega
 .have:=nE (z:=b.1) (w:=(a.2:Int));rw[Int.natAbs_natCast]at this;have:=hb.1;have:=ha.2;omega
 .have:=xj (a:=a.2) (b:=b.2);have:=ha.2;have:=hb.2;omega
theorem Ny{a b:Q}{K L:Nat}(ha:qL K a)(hb:qL L b):qL (K+L) (qz a b):=by
 refine Vj ?_ ?_
 .have:=nE (z:=a.1) (w:=b.1);have:=ha.1;have:=hb.1;omega
 .have:=xj (a:=a.2) (b:=b.2);have:=ha.2;have:=hb.2;omega
theorem ZT{a b:Q}(ha:okQ a)(hb:okQ b):okQ (lj a b):=Du _ (X0 ha.1 hb.1)
theorem IW{a b:Q}(ha:okQ a)(hb:okQ b):okQ (qz a b):=Du _ (X0 ha.1 hb.1)
theorem SI{z w:Int}(hw0:0<w)(hz:ndg z.natAbs<900000)(hw:ndg w.natAbs<900000):CP Y F.bO [S (itoa z),S (itoa w)] (.tup [S (itoa (z/w)),S (itoa (z%w)),I 0]):=by obtain⟨m,rfl⟩:∃m:Nat,w=m:=⟨w.toNat,aa⟩;rw[ma];exact ye aa hz (by simpa using hw)
theorem HJ{d:Int}(hd:d≠0)(hn:ndg n.natAbs<800000)(hd2:ndg d.natAbs<800000):CP Y F.b9 [S (itoa n),S (itoa d)] (.agg (qT (sf n d))):=by
 refine Ac ?_;have sg0:=tU d
 have tail:∀(n:Int)(d:Nat),0<d->ndg n.natAbs<800000->ndg d<800000 ->
   cal (CX Y).p [(1,.vars [.d (.str []),.d (.str [])])] (.fn F.oY [] []) [S (itoa n),S (ah d)] λv6 h=>
  bnd (biS .neq v6 (.d (.str [49]))) λv7=>
  jn (λl8 h=>
   bnd (bld [(0,1),(1,1)] [.str [],.str []] [(0,(ge l8 0)),(1,(ge l8 1))]) λv10=>
   stD h 2 (.ptr 0 1 0 2) v10 λ_ h=>
   bnd (ldA h 2 (.ptr 0 1 0 2)) λv12=>
   out (.agg (qT (m8 n d))) v12 h) λq9=>
   cnd v7 (
    cal (CX Y).p h (.fn F.bO [] []) [S (itoa n),v6] λv13 h=>
    ext v13 0 λv14=>
    ext v13 1 λv15=>
    ext v13 2 λv16=>
    cal (CX Y).p h (.fn F.bO [] []) [S (ah d),v6] λv17 h=>
    ext v17 0 λv18=>
    ext v17 1 λv19=>
    ext v17 2 λv20=>
    q9 [v14,v18] h) (
    q9 [S (itoa n),S (ah d)] h):=by
  intro n d hd hn hd2;have gc:=PZ (z:=n) (w:=(d:Int)) aa (by simpa using Nat.lt_trans hd2 af);rw[ma,Int.natAbs_natCast]at gc;obtain⟨g,hgg⟩:=nmQ (Nat.gcd n.natAbs d);have hg:0<g:=by rw[hgg];exact Xl _ hd
  have hgd:g<=d:=Wv hd (by rw[hgg];exact Nat.gcd_dvd_right ..);have eq:m8 n d=(n/(g:Int),d/g):=by unfold m8;rw[<-hgg]
  rw[<-hgg]at gc;rw[eq];have ng:ndg g<900000:=Y8 (eW hgd) aa;have d1:=ye (z:=n) hg aa ng;have d2:=Kn (a:=d) hg aa ng;simp;refine cd gc ?_;by_cases h1:g=1
  .subst h1;rw[nZ];simp;refine gI (l:=[S (itoa n),S (ah d)]) (h:=[(1,.vars [.d (.str []),.d (.str [])])]) (λq=>by simp) ?_;simp;refine jm ac ac
  .have h49:¬ah g=[49]:=λh=>h1 (qd (h.trans nZ.symm))
   simp[h49];refine bM ?_;simp[h49];refine cd d1 ?_;simp;refine cd d2 ?_;simp;exact jm rfl rfl
 simp[b9];refine cd sg0 ?_;by_cases hneg:d<0
 .have s1:sgn d = -1:=by unfold sgn;rw[if_neg hd,if_pos hneg]
  rw[s1];have hd3:ndg (-d).natAbs<800000:=by rw[Xz];exact hd2
  have n1:=zH (z:=n) aa;have n2:=zH (z:=d) aa;have e:sf n d=m8 (-n) d.natAbs:=if_pos hneg;have ed:itoa (-d)=ah d.natAbs:=by rw[show -d=((d.natAbs:Nat):Int) by omega,ma]
  rw[e];rw[ed]at n2;simp;refine bM ?_;simp;refine cd n1 ?_;simp;refine cd n2 ?_;have:=tail (-n) d.natAbs aa (by rw[Xz];exact hn) hd2;simpa using this
 .have s1:sgn d=1:=by unfold sgn;rw[if_neg hd,if_neg hneg]
  rw[s1];have e:sf n d=m8 n d.natAbs:=if_neg hneg;have ed:itoa d=ah d.natAbs:=by conv=>lhs;rw[show d=((d.natAbs:Nat):Int) by omega,ma]
  rw[e,ed];simp;refine bM ?_;simp;have:=tail n d.natAbs aa hn hd2;simpa using this
theorem AB(a:Q):CP Y F.eY [.agg (qT a)] (.tup [I (if sdg a.1<=9 then a.1 else 0),I (if ndg a.2<=9 then a.2 else 0),B (decide (sdg a.1<=9)&&decide (ndg a.2<=9))]):=by
 refine C4 ?_;have l1:=E6 a.1;have l2:=E6 (a.2:Int);have e:sdg (a.2:Int)=ndg a.2:=by unfold sdg;rw[if_neg aa,Int.natAbs_natCast];rfl
 rw[ma,e]at l2;simp[eY,qT];refine cd l1 ?_;by_cases h1:sdg a.1<=9
 .rw[if_pos h1,if_pos h1,decide_eq_true h1];simp;refine cd l2 ?_;by_cases h2:ndg a.2<=9
  .rw[if_pos h2,if_pos h2,decide_eq_true h2];simp;exact jQ rfl rfl rfl
  .rw[if_neg h2,if_neg h2,decide_eq_false h2];simp;exact jQ rfl rfl rfl
 .rw[if_neg h1,if_neg h1,decide_eq_false h1];simp;refine cd l2 ?_;by_cases h2:ndg a.2<=9
  .rw[if_pos h2,if_pos h2,decide_eq_true h2];simp;exact jQ rfl rfl rfl
  .rw[if_neg h2,if_neg h2,decide_eq_false h2];simp;exact jQ rfl rfl rfl
theorem aas(n:Int)(hd:0<d):(m8 n d).1*(d:Int)=n*((m8 n d).2:Int)∧0<(m8 n d).2:=by
 obtain⟨g,hg⟩:=nmQ (Nat.gcd n.natAbs d);have hg0:0<g:=by rw[hg];exact Xl _ hd
 obtain⟨d',hd'⟩:g∣d:=by rw[hg];exact Nat.gcd_dvd_right ..
 obtain⟨n',hn'⟩:(g:Int)∣n:=XI (by rw[hg];exact Wz ..)
 have e1:(m8 n d).1=n':=by
  simp only[m8,<-hg];rw[hn'];exact Int.mul_ediv_cancel_left _ aa
 have e2:(m8 n d).2=d':=by
  simp only[m8,<-hg];rw[hd'];exact Xj _ hg0
 rw[e1,e2];refine⟨?_,?_⟩
 .rw[hn',hd',Int.natCast_mul,<-Int.mul_assoc,Wm n' g]
 .rcases Zf d' with h|h
  .rw[h]at hd';omega
  .exact h
theorem Vh(h:0<d):sf n (d:Int)=m8 n d:=by rfl
theorem PD(hd:0<d)(hn:ndg n.natAbs<800000)(hd2:ndg d<800000):CP Y F.b9 [S (itoa n),S (ah d)] (.agg (qT (m8 n d))):=by have:=HJ (n:=n) (d:=(d:Int)) aa hn (by trivial);trivial
theorem G3{z:Int}{b:Nat}(hz:ndg z.natAbs<400000)(hb:ndg b<400000):CP Y F.cE [S (itoa z),S (ah b)] (S (itoa (z*b))):=by grind[tO,ma]
theorem IE(h:Hp)(s t:LuQ):aH h [.agg [S s,S t]]=some ([.agg [S s,S t]],h):=by rfl
theorem IG{a:Q}(h1:sdg a.1<=9)(h2:ndg a.2<=9):a.1.natAbs<1000000000∧a.2<1000000000:=
 ⟨sL h1,Z0 (dj _) (Zz af h2)⟩
theorem Mg{a b:Q}(ha:okQ a)(hb:okQ b)(la:qL 100000 a)(lb:qL 100000 b):CP Y F.jX [.agg (qT a),.agg (qT b)] (.agg (qT (qz a b))):=by
 refine FC ?_;obtain⟨la1,la2⟩:=la;obtain⟨lb1,lb2⟩:=lb;have b1:=AB a;have b2:=AB b;have m1:=tO (z:=a.1) (w:=b.1) aa aa;have m2:=Km (a:=a.2) (b:=b.2) aa aa;have n1:=nE (z:=a.1) (w:=b.1);have n2:=xj (a:=a.2) (b:=b.2);have hd:0<a.2*b.2:=X0 ha.1 hb.1
 have lw:CP Y F.b9 [S (itoa (a.1*b.1)),S (ah (a.2*b.2))] (.agg (qT (qz a b))):=PD (n:=a.1*b.1) hd aa aa;have ff:(a.1*b.1).natAbs<9223372036854775807->a.2*b.2<9223372036854775807->CP Y F.iY [I (a.1*b.1),I (a.2*b.2:Nat)] (.agg (qT (qz a b))):=λh1 h2=>P2 hd h1 h2
 obtain⟨x,y,hxy⟩:∃x y,qT (qz a b)=[S x,S y]:=⟨_,_,rfl⟩;rw[hxy]at lw ff ⊢;simp only[qT]at b1 b2 ⊢
 have tail:∀u:Unit,cal (CX Y).p [(1,.vars [S (itoa a.1),S (ah a.2)]),(1,.vars [S (itoa b.1),S (ah b.2)]),(1,.vars [.d (.str []),.d (.str [])])] (.fn F.cE [] []) [S (itoa a.1),S (itoa b.1)] λv15 h=>
  bnd (faV 1 (.ptr 0 1 0 2)) λv16=>
  bnd (ld1 h v16) λv17=>
  bnd (faV 1 (.ptr 1 1 0 2)) λv18=>
  bnd (ld1 h v18) λv19=>
  cal (CX Y).p h (.fn F.cE [] []) [v17,v19] λv20 h=>
  cal (CX Y).p h (.fn F.b9 [] []) [v15,v20] λv21 h=>
  stD h 2 (.ptr 2 1 0 2) v21 λ_ h=>
  bnd (ldA h 2 (.ptr 2 1 0 2)) λv23=>
  out (.agg [S x,S y]) v23 h:=by
  intro _;simp;refine cd m1 ?_;simp;refine cd m2 ?_;simp;refine cd lw ?_;simp;exact jm rfl rfl
 simp[jX];refine cd b1 ?_ (IE ..);cases g1:decide (sdg a.1<=9)&&decide (ndg a.2<=9)with
 | false=>
  simp;refine bM ?_;simp
  simp_all
 | true=>
  simp only[Z7,decide_eq_true_eq]at g1;obtain⟨s1,s2⟩:=IG g1.1 g1.2;rw[if_pos g1.1,if_pos g1.2];simp;refine bM ?_;simp;refine cd b2 ?_ (IE ..);cases g2:decide (sdg b.1<=9)&&decide (ndg b.2<=9)with
  | false=>
   simp
   simp_all
  | true=>
   simp only[Z7,decide_eq_true_eq]at g2;obtain⟨s3,s4⟩:=IG g2.1 g2.2;rw[if_pos g2.1,if_pos g2.2];have p1:(a.1*b.1).natAbs<1000000000*1000000000:=by rw[Y9];exact Yc s1 s3
   have p2:a.2*b.2<1000000000*1000000000:=Yc s2 s4;have e2:(a.2:Int)*(b.2:Int)=((a.2*b.2:Nat):Int):=ac;have ff:=ff aa aa;obtain⟨N,hN⟩:=mnQ (a.1*b.1);rw[hN]at p1 ff;generalize a.2*b.2=D at *;simp(disch:=try exact ae)[e2,hN];refine cd ff ?_;simp;simp[jm]
theorem FI{a b:Q}(ha:okQ a)(hb:okQ b)(la:qL 100000 a)(lb:qL 100000 b):CP Y F.fp [.agg (qT a),.agg (qT b)] (.agg (qT (lj a b))):=by
 refine FE ?_;obtain⟨la1,la2⟩:=la;obtain⟨lb1,lb2⟩:=lb;have b1:=AB a;have b2:=AB b;have m1:=G3 (z:=a.1) (b:=b.2) aa aa;have m2:=G3 (z:=b.1) (b:=a.2) aa aa;have m3:=Km (a:=a.2) (b:=b.2) aa aa;have n1:=nE (z:=a.1) (w:=(b.2:Int));have n2:=nE (z:=b.1) (w:=(a.2:Int))
 have n3:=xj (a:=a.2) (b:=b.2);rw[Int.natAbs_natCast]at n1 n2;have n4:ndg (a.1*b.2+b.1*a.2).natAbs<=200000+1:=Cm aa aa;have ad:=y9 (z:=a.1*b.2) (w:=b.1*a.2) aa aa;have hd:0<a.2*b.2:=X0 ha.1 hb.1
 have lw:CP Y F.b9 [S (itoa (a.1*b.2+b.1*a.2)),S (ah (a.2*b.2))] (.agg (qT (lj a b))):=PD hd aa aa;have ff:(a.1*b.2+b.1*a.2).natAbs<9223372036854775807->a.2*b.2<9223372036854775807->CP Y F.iY [I (a.1*b.2+b.1*a.2),I (a.2*b.2:Nat)] (.agg (qT (lj a b))):=λh1 h2=>P2 hd h1 h2
 by_cases one:a.2=1∧b.2=1
 .have ad1:=y9 (z:=a.1) (w:=b.1) aa aa
  have eq:lj a b=(a.1+b.1,1):=by
   unfold lj;rw[one.1,one.2];rw[Vi ac];simp
  rw[eq];have t1:qT a=[S (itoa a.1),S [49]]:=by unfold qT;rw[one.1,nZ]
  have t2:qT b=[S (itoa b.1),S [49]]:=by unfold qT;rw[one.2,nZ]
  have t3:qT (a.1+b.1,1)=[S (itoa (a.1+b.1)),S [49]]:=by unfold qT;rw[nZ]
  rw[t1,t2,t3];simp[fp];refine cd ad1 ?_;simp;simp[jm]
 obtain⟨x,y,hxy⟩:∃x y,qT (lj a b)=[S x,S y]:=⟨_,_,rfl⟩;rw[hxy]at lw ff ⊢;simp only[qT]at b1 b2 ⊢
 have tail:∀u:Unit,cal (CX Y).p [(1,.vars [S (itoa a.1),S (ah a.2)]),(1,.vars [S (itoa b.1),S (ah b.2)]),(1,.vars [.d (.str []),.d (.str [])])] (.fn F.cE [] []) [S (itoa a.1),S (ah b.2)] λv30 h=>
   bnd (faV 0 (.ptr 1 1 0 2)) λv31=>
   bnd (ld1 h v31) λv32=>
   bnd (faV 1 (.ptr 0 1 0 2)) λv33=>
   bnd (ld1 h v33) λv34=>
   cal (CX Y).p h (.fn F.cE [] []) [v32,v34] λv35 h=>
   cal (CX Y).p h (.fn F.kG [] []) [v30,v35] λv36 h=>
   bnd (faV 1 (.ptr 0 1 0 2)) λv37=>
   bnd (ld1 h v37) λv38=>
   bnd (faV 1 (.ptr 1 1 0 2)) λv39=>
   bnd (ld1 h v39) λv40=>
   cal (CX Y).p h (.fn F.cE [] []) [v38,v40] λv41 h=>
   cal (CX Y).p h (.fn F.b9 [] []) [v36,v41] λv42 h=>
   stD h 2 (.ptr 2 1 0 2) v42 λ_ h=>
   bnd (ldA h 2 (.ptr 2 1 0 2)) λv44=>
   out (.agg [S x,S y]) v44 h:=by
  intro _;simp;refine cd m1 ?_;simp;refine cd m2 ?_;simp;refine cd ad ?_;simp;refine cd m3 ?_;simp;refine cd lw ?_;simp;exact jm rfl rfl
 have hne:¬(ah a.2=[49]∧ah b.2=[49]):=λh=>one ⟨qd (h.1.trans nZ.symm),qd (h.2.trans nZ.symm)⟩
 have walk:∀u:Unit,bnd (ldA [(1,.vars [S (itoa a.1),S (ah a.2)]),(1,.vars [S (itoa b.1),S (ah b.2)]),(1,.vars [.d (.str []),.d (.str [])])] 2 (.ptr 0 1 0 2)) λv19=>
  cal (CX Y).p [(1,.vars [S (itoa a.1),S (ah a.2)]),(1,.vars [S (itoa b.1),S (ah b.2)]),(1,.vars [.d (.str []),.d (.str [])])] (.fn F.eY [] []) [v19] λv20 h=>
  ext v20 0 λv21=>
  ext v20 1 λv22=>
  ext v20 2 λv23=>
  jn (λl24 h=>
   bnd (faV 0 (.ptr 0 1 0 2)) λv26=>
   bnd (ld1 h v26) λv27=>
   bnd (faV 1 (.ptr 1 1 0 2)) λv28=>
   bnd (ld1 h v28) λv29=>
   cal (CX Y).p h (.fn F.cE [] []) [v27,v29] λv30 h=>
   bnd (faV 0 (.ptr 1 1 0 2)) λv31=>
   bnd (ld1 h v31) λv32=>
   bnd (faV 1 (.ptr 0 1 0 2)) λv33=>
   bnd (ld1 h v33) λv34=>
   cal (CX Y).p h (.fn F.cE [] []) [v32,v34] λv35 h=>
   cal (CX Y).p h (.fn F.kG [] []) [v30,v35] λv36 h=>
   bnd (faV 1 (.ptr 0 1 0 2)) λv37=>
   bnd (ld1 h v37) λv38=>
   bnd (faV 1 (.ptr 1 1 0 2)) λv39=>
   bnd (ld1 h v39) λv40=>
   cal (CX Y).p h (.fn F.cE [] []) [v38,v40] λv41 h=>
   cal (CX Y).p h (.fn F.b9 [] []) [v36,v41] λv42 h=>
   stD h 2 (.ptr 2 1 0 2) v42 λ_ h=>
   bnd (ldA h 2 (.ptr 2 1 0 2)) λv44=>
   out (.agg [S x,S y]) v44 h) λq25=>
   cnd v23 (
    bnd (ldA h 2 (.ptr 1 1 0 2)) λv45=>
    cal (CX Y).p h (.fn F.eY [] []) [v45] λv46 h=>
    ext v46 0 λv47=>
    ext v46 1 λv48=>
    ext v46 2 λv49=>
    cnd v49 (
     bnd (biI .mul v21 v48) λv50=>
     bnd (biI .mul v47 v22) λv51=>
     bnd (biI .add v50 v51) λv52=>
     bnd (biI .mul v22 v48) λv53=>
     cal (CX Y).p h (.fn F.iY [] []) [v52,v53] λv54 h=>
     stD h 2 (.ptr 2 1 0 2) v54 λ_ h=>
     bnd (ldA h 2 (.ptr 2 1 0 2)) λv56=>
     out (.agg [S x,S y]) v56 h) (
     q25 [] h)) (
    q25 [] h):=by
  intro _;simp;refine cd b1 ?_ (IE ..);cases g1:decide (sdg a.1<=9)&&decide (ndg a.2<=9)with
  | false=>
   simp;refine bM ?_;simp
   simp_all
  | true=>
   simp only[Z7,decide_eq_true_eq]at g1;obtain⟨s1,s2⟩:=IG g1.1 g1.2;rw[if_pos g1.1,if_pos g1.2];simp;refine bM ?_;simp;refine cd b2 ?_ (IE ..);cases g2:decide (sdg b.1<=9)&&decide (ndg b.2<=9)with
   | false=>
    simp
    simp_all
   | true=>
    simp only[Z7,decide_eq_true_eq]at g2;obtain⟨s3,s4⟩:=IG g2.1 g2.2;rw[if_pos g2.1,if_pos g2.2];have p1:(a.1*b.2).natAbs<1000000000*1000000000:=by rw[Y9,Int.natAbs_natCast];exact Yc s1 s4
    have p3:(b.1*a.2).natAbs<1000000000*1000000000:=by rw[Y9,Int.natAbs_natCast];exact Yc s3 s2
    have p2:a.2*b.2<1000000000*1000000000:=Yc s2 s4;have e2:(a.2:Int)*(b.2:Int)=((a.2*b.2:Nat):Int):=ac;have ff:=ff aa aa;obtain⟨N,hN⟩:∃N,a.1*(b.2:Int)=N:=⟨_,rfl⟩;obtain⟨M,hM⟩:∃M,b.1*(a.2:Int)=M:=⟨_,rfl⟩;rw[hN]at p1 ff;rw[hM]at p3 ff;generalize a.2*b.2=D at *;simp(disch:=try exact ae)[e2,hN,hM];refine cd ff ?_;simp
    simp[jm]
 by_cases c1:ah a.2=[49]
 .have c2:¬ah b.2=[49]:=λh=>hne ⟨c1,h⟩
  simp[fp,c1,c2]
  simp_all
 .simp[fp,c1]
  simp_all
theorem H4(a:Q):CP Y F.iZ [.agg (qT a)] (I (sgn a.1)):=by refine C5 ?_;simp[iZ,qT];refine cd (tU a.1) ?_;exact ct rfl
theorem TJ(z:Int):sgn z=0↔z=0:=by
 unfold sgn;constructor
 .intro h;split at h
  .assumption
  .split at h<;>omega
 .intro h;rw[if_pos h]
theorem Lj{a b:LuQ}{c:Int}{h:Hp}:out (.tup [.agg [S a,S b],I c]) (.tup [.agg [S a,S b],I c]) h:=⟨h,by simp[bH,aH,norm]⟩
theorem V1{d:Int}(hd:d≠0)(hn:ndg n.natAbs<800000)(hd2:ndg d.natAbs<800000):CP Y F.od [S (itoa n),S (itoa d)] (.tup [.agg (qT (sf n d)),I 0]):=by
 refine FA ?_;have sg0:=tU d;have hs:¬sgn d=0:=λh=>hd ((TJ _).1 h)
 have lw:=HJ hd hn hd2;obtain⟨x,y,hxy⟩:∃x y,qT (sf n d)=[S x,S y]:=⟨_,_,rfl⟩;rw[hxy]at lw ⊢;generalize sgn d=sb at *;simp[od];refine cd sg0 ?_;simp[hs];refine cd lw ?_;simp;exact Lj
theorem Jd{z:Int}(h1 : -9223372036854775808<z)(h2:z<9223372036854775808):ndg z.natAbs<=19:=fM aa af
theorem FH{d:Int}(hd:d≠0)(h1 : -9223372036854775808<n)(h2:n<9223372036854775808)(h3 : -9223372036854775808<d)(h4:d<9223372036854775808):CP Y F.ja [I n,I d] (.tup [.agg (qT (sf n d)),I 0]):=by refine GD ?_;have nw:=V1 (n:=n) hd (Y8 (Jd h1 h2) af) (Y8 (Jd h3 h4) af);obtain⟨x,y,hxy⟩:∃x y,qT (sf n d)=[S x,S y]:=⟨_,_,rfl⟩;rw[hxy]at nw ⊢;simp[ja];refine cd (kN h1 h2) ?_;simp;refine cd (kN h3 h4) ?_;simp;refine cd nw ?_;simp;exact Lj
@[simp] theorem aez (f:α->D)(l:List α)(place:Nat->Option (Nat×Nat))(cs:LwQ)(r:List (Nat×V))(off sz:Nat):
  Mj (some (off,sz)) place cs (lst f l) r=if 1=sz∧off+1<=cs.length then vr place (cs.take off++[lst f l]++cs.drop (off+1)) r else none:=id rfl
theorem abH(s:LuQ):CP Y F.eS [S s] (S (rdT s)):=by refine B9 ?_;simp[eS];refine cd (wm s) ?_;simp<;>exact fY rfl
theorem Hr(a b:LuQ)(ha:a.length<1000000000)(hb:b.length<1000000000):CP Y F.nr [.agg [S a,S b]] (B (wq a&&decide (b.length<=30))):=by
 refine IK ?_;simp[nr];refine cd (abH a) ?_;have hl:(rdT a).length<=a.length:=by unfold rdT;split<;>simp
 by_cases h1:(rdT a).length<=30
 .have h1':((rdT a).length:Int)<=30:=aa;by_cases h2:b.length<=30
  .have h2':(b.length:Int)<=30:=aa;simp[h1',h2']<;>exact gH (by grind[wq])
  .have h2':¬(b.length:Int)<=30:=aa;simp[h1',h2']<;>exact gH (by grind)
 .have h1':¬((rdT a).length:Int)<=30:=aa;simp[h1']<;>exact gH (by simp[wq,h1])
def sz4(x:Tx):Bool:=wq x.1&&decide (x.2.length<=30)
def Ee:List Tx->Int
 |[]=>0
 |x::q=>cond (rdF x.1 x.2).isSome (cond (sz4 x) (Ee q) 4) 2
theorem Eo{s:List Tx}(hN:s.length<1000000000)(hl:∀x∈s,x.1.length<1000000000∧x.2.length<1000000000)(k:KL):∀(q a:List Tx),a++q=s->(Ee q=0->k (.exit 0) [] [nnQ])->(Ee q≠0->∀h,k .ret [I (Ee q)] h) ->
  lp (qn (CX Y) (gk aL s) (I s.length)) [0] [nnQ] [I a.length] [nnQ] k
 | []=>by
  intro a ha h0 h1;simp at ha;subst ha;refine aj ?_;simp[qn];exact h0 rfl
 | x::q=>by
  intro a ha h0 h1;have hal:a.length<s.length:=by subst ha;simp
  have hx:nth ([],[]) s a.length=x:=by subst ha;simp
  have hxl:=hl x (by grind);have e1:=λh:Hp=>jW aL aT s h (k:=.i64) (i:=(a.length:Int)) aa aa
  have e2:=λh:Hp=>kD aL aT ([],[]) s h hal
  simp only[hx,Int.toNat_natCast]at e1 e2;have ih:=Eo hN hl k q (a++[x]) (by grind);refine aj ?_;simp(disch:=try exact ae)[qn,e1,e2,aL];refine cd (BX x.1 x.2 hxl.1 hxl.2) ?_;cases g3:(rdF x.1 x.2).isSome with
  | false=>
   simp only[Ee,g3,cond_false]at h1;simp[g3]
   grind
  | true=>
   simp[g3];refine cd (Hr x.1 x.2 hxl.1 hxl.2) ?_;cases g1:sz4 x with
   | false=>
    simp only[Ee,g3,g1,cond_true,cond_false]at h1;rw[show(wq x.1&&decide (x.2.length<=30))=false from g1];simp
    grind
   | true=>
    simp only[Ee,g3,g1,cond_true]at h0 h1;have:=ih h0 h1;rw[show(wq x.1&&decide (x.2.length<=30))=true from g1];simp(disch:=try exact ae)[clean,ij,pz,p6,gQ,aP]
    simp_all
def scB(n:Nat)(s:List Tx):Int:=if s.length=n then Ee s else 5
theorem KM{p:LiQ}{s:List Tx}(hl:∀x∈s,x.1.length<1000000000∧x.2.length<1000000000)(hs:s.length<1000000000):CP Y F.lJ [lst di p,gk aL s] (I (scB p.length s)):=by
 have lp':aX (lst di p)=some (I p.length):=rfl;have ls':aX (gk aL s)=some (I s.length):=rfl;refine IL ?_;by_cases h1:s.length=p.length
 .have h1':((s.length:Int)=(p.length:Int))=True:=eq_true aa;have e:scB p.length s=Ee s:=if_pos h1;rw[e];simp[lJ,lp',ls',h1'];refine lo (Eo hs hl _ s [] rfl (λg=>?_) (λg h=>?_))
  .simp_all
  simp
 .have h1':¬((s.length:Int)=(p.length:Int)):=aa;have e:scB p.length s=5:=if_neg h1;rw[e];simp[lJ,lp',ls',h1']<;>exact ct rfl
def siB(p:LiQ)(s:List Tx):Int:=if pcB p=0 then scB p.length s else pcB p
theorem TE{p:LiQ}{s:List Tx}(hp:p.length<1000000000)(hl:∀x∈s,x.1.length<1000000000∧x.2.length<1000000000)(hs:s.length<1000000000):CP Y F.nu [lst di p,gk aL s] (I (siB p s)):=by
 refine IP ?_;simp[nu];refine cd (mA hp) ?_;by_cases h:pcB p=0
 .have e:siB p s=scB p.length s:=if_pos h;rw[e];simp[h];refine cd (KM hl hs) ?_;simp<;>exact ct rfl
 .have e:siB p s=pcB p:=if_neg h;rw[e];simp[h]<;>exact ct rfl
variable{h:Hp}{a:V}{r:LiQ}
theorem Qc(k:KL):∀(q q' p p':LiQ),p.length=p'.length->q.length=q'.length->(p++q).length<1000000000->(q=q'->k (.exit 0) [] [])->(q≠q'->k .ret [B false] []) ->
  lp (fE (CX Y) (lst di (p++q)) (lst di (p'++q')) (I (p++q).length)) [] [] [I p.length] [] k
 | []=>by
  intro q' p p' hp hq hN h0 h1;have:q'=[]:=Zo hq.symm;subst this;refine aj ?_;simp(disch:=try exact ae)[fE];exact h0 rfl
 | x::q=>by
  intro q' p p' hp hq hN h0 h1;cases q' with
  |nil=>simp at hq
  |cons y q'=>
  simp at hq hN;refine aj ?_;have hy:nth 0 (p'++y::q') p.length=y:=by rw[hp];simp
  have e1:ixV [] 1 (lst di (p'++y::q')) (.d (.int .i64 (p.length:Int)))=some (.dptr ((p'++y::q').map di) p.length):=uV di _ [] rfl aN;have e2:=VC (p'++y::q') [] (j:=p.length) aN;rw[hy]at e2;simp(disch:=try exact ae)[fE,e1,e2];by_cases h:x=y
  .subst h;simp(disch:=try exact ae);have:=Qc k q q' (p++[x]) (p'++[x]) (by simp[hp]) hq aN (λg=>h0 (by rw[g])) (λg=>h1 (by simpa using g));simpa using this
  .simp(disch:=try exact ae)[h];exact h1 (by simp[h])
theorem Cu{x y:LiQ}(hx:x.length<1000000000)(hy:y.length<1000000000):CP Y F.bX [lst di x,lst di y] (B (decide (x=y))):=by
 refine rV ?_;by_cases h:x.length=y.length
 .simp(disch:=try exact ae)[bX,h];rw[<-h];refine lo (Qc _ x y [] [] rfl h (by simpa using hx) (λg=>?_) (λg=>?_))
  .simp(disch:=try exact ae);exact gH (by simp[g])
  .simp(disch:=try exact ae);exact gH (by simp[g])
 .simp(disch:=try exact ae)[bX,h];exact gH (by simp;intro e;exact h (by rw[e]))
theorem Mi{α:Type}(f:α->LdQ){n:Nat}(hf:∀x,(f x).length=n)(x:α):∀(l:List α)(j:Nat),j<l.length->(l.flatMap f).take (j*n)++f x++(l.flatMap f).drop (j*n+n)=(l.set j x).flatMap f
 |[],j,h=>by simp at h
 | y::l,0,h=>by
  simp only[Wq,List.take_zero,List.nil_append,Zk,Xy,List.set_cons_zero];rw[Wu (hf y)]
 | y::l,j+1,h=>by
  have ih:=Mi f hf x l j (by simpa using h);have e1:(j+1)*n=(f y).length+j*n:=by rw[hf,X1,Nat.add_comm]
  simp only[Xy,List.set_cons_succ];rw[<-ih,e1,Xt,List.take_length_add_append,List.drop_length_add_append,List.append_assoc,List.append_assoc,List.append_assoc]
def tx(x:Q):Tx:=(itoa x.1,ah x.2)
def szV(s:List Q):V:=gk aL (s.map tx)
theorem O8{z:Int}(h:ndg z.natAbs<=400):rd (itoa z)=some z:=by
 rw[abY,ug,zV];have hl:(ah z.natAbs).length=ndg z.natAbs:=bf _ _;have hc:=sr z.natAbs;have hh:=dX z.natAbs;simp only[qI,Z7,Y5,Xp,decide_eq_false_iff_not]at hc;obtain⟨⟨h1,h2⟩,h3⟩:=hc;have hne:=wO z.natAbs
 have hcond:¬((ah z.natAbs).headD 0=48∧(1<(ah z.natAbs).length∨decide (z<0)=true)):=by
  rintro⟨g1,g2⟩;have g3:¬1<(ah z.natAbs).length:=λg=>by rcases h3 with h3|h3<;>contradiction
  rcases g2 with g2|g2
  .exact g3 g2
  .have g4:(ah z.natAbs).length=1:=by have:=lN z.natAbs;omega
   obtain⟨c,hc⟩:=List.length_eq_one_iff.1 g4;rw[hc]at g1;simp only[List.headD_cons]at g1;subst g1;have:=kf.1 hc;simp only[decide_eq_true_eq]at g2;omega
 rw[if_pos ⟨aa,hne,hcond,h2⟩,hh];by_cases hz:z<0
 .rw[if_pos (decide_eq_true hz)];congr 1;omega
 .rw[if_neg (by simpa using hz)];congr 1;omega
theorem Nw(hx:okQ x)(hl:qL 30 x):rdF (tx x).1 (tx x).2=some x:=by
 unfold rdF tx;have h2:=O8 (z:=(x.2:Int)) (by rw[Int.natAbs_natCast];have:=hl.2;omega);rw[ma]at h2;rw[O8 (by have:=hl.1;omega)];simp only[h2];have h0:(0:Int)<x.2:=by have:=hx.1;omega
 rw[if_pos ⟨h0,by rw[Int.natAbs_natCast];exact hx.2⟩,Int.natAbs_natCast]
theorem S9(hl:qL 30 x):sz4 (tx x)=true:=by unfold sz4 wq tx;simp only[ug];have h1:(ah x.1.natAbs).length=ndg x.1.natAbs:=bf _ _;have h2:(ah x.2).length=ndg x.2:=bf _ _;rw[h1,h2];have:=hl.1;have:=hl.2;simp;omega
def okS(s:List Q):Prop:=∀x∈s,okQ x∧qL 30 x
theorem IC:∀{s:List Q},okS s->Ee (s.map tx)=0
 |[],_=>rfl
 | x::s,h=>by
  obtain⟨h1,h2⟩:=h x ac;simp only[Zv,Ee];rw[Nw h1 h2,S9 h2,IC λy hy=>h y (by simp[hy])];rfl
theorem Iz{K:Nat}(hl:qL K x):(tx x).1.length<=K+1∧(tx x).2.length<=K:=by
 unfold tx itoa;have h1:(ah x.1.natAbs).length=ndg x.1.natAbs:=bf _ _;have h2:(ah x.2).length=ndg x.2:=bf _ _;have:=hl.1;have:=hl.2;simp only;constructor
 .split
  .simp;omega
  .omega
 .omega
theorem Sr(hx:okQ x)(hl:qL 30 x):CP Y F.fO [.agg (qT x)] (I 0):=by obtain⟨l1,l2⟩:=Iz hl;have:=BX (tx x).1 (tx x).2 aa aa;rw[Nw hx hl]at this;exact this
theorem Q2(hl:qL 30 x):CP Y F.nr [.agg (qT x)] (B true):=by
 obtain⟨l1,l2⟩:=Iz hl;have:=Hr (tx x).1 (tx x).2 aa aa
 rwa [show(wq (tx x).1&&decide ((tx x).2.length<=30))=true from S9 hl]at this
theorem Sq{p:LiQ}(hs:okS s)(hp:s.length<1000000):CP Y F.lJ [lst di p,szV s] (I (if s.length=p.length then 0 else 5)):=by
 have:=KM (p:=p) (s:=s.map tx) (λx hx=>by
  obtain⟨y,hy,rfl⟩:=Zw.1 hx;obtain⟨l1,l2⟩:=Iz (hs y hy).2;omega) aN
 unfold scB at this;rw[List.length_map,IC hs]at this;exact this
theorem uL{z:Int}(h1 : -9223372036854775808<z)(h2:z<9223372036854775808):CP Y F.jM [I z] (.agg (qT (z,1))):=by refine Gr ?_;simp only[qT,nZ];simp[jM];refine cd (kN h1 h2) ?_;simp;exact jm rfl rfl
theorem ixR{h:Hp}{s n:Nat}(hg:h[s]?=some (e,.data 2 (l.flatMap aL) ex fr))(hn:l.length=n){c:Nat}(hc:c<n)(k:IntKind):ixV h 2 (.ref s e 0 n n (n*2)) (.d (.int k (c:Int)))=some (.ptr s e (c*2) (n*2)):=by have hlen:=fP aL aT l;simp only[ixV,dM hg];rw[if_pos ⟨by rw[hlen,hn],aa,aa⟩];simp
theorem ldR{h:Hp}{s n:Nat}(hg:h[s]?=some (e,.data 2 (l.flatMap aL) ex fr))(hn:l.length=n){c:Nat}(hc:c<n):ldA h 2 (.ptr s e (c*2) (n*2))=some (.agg [S (nth ([],[]) l c).1,S (nth ([],[]) l c).2]):=by have:=My aL aT ([],[]) l (j:=c) aa;simp only[ldA,dM hg];rw[if_pos (by rw[fP aL aT,hn]),this];rfl
theorem stR{h:Hp}{s n:Nat}(hg:h[s]?=some (e,.data 2 (l.flatMap aL) ex false))(hn:l.length=n){c:Nat}(hc:c<n)(x:Tx):st h 2 (.ptr s e (c*2) (n*2)) (.agg [S x.1,S x.2])=some (h.set s (e,.data 2 ((l.set c x).flatMap aL) ex false)):=by
 have hfs:=Mi aL aT x l c aa;have hlen:=fP aL aT l;have hle:c*2+2<=(l.flatMap aL).length:=by rw[hlen];omega
 rw[<-hfs];simp only[aL,st,sto,dM hg,if_true,List.length_cons,List.length_nil,jG,toD,norm,bK,true_and];rw[if_pos ⟨by rw[hlen,hn],hle⟩]
def eC:Tx:=([],[])
theorem Uv(n:Nat):gK n [D.str [],D.str []]=(List.replicate n eC).flatMap aL:=by
 induction n with
 |zero=>rfl
 |succ n ih=>rw[List.replicate_succ,Xy,<-ih];rfl
theorem Vb{s n e:Nat}{b:Bk}{h:Hp}{k:kkQ}{u:PU k}(hs:h[s]?=some (e,b))(hn:n<1000000000)(hk:k (.ref s (e+1) 0 n n (n*2)) (h.set s (e+1,.data 2 ((List.replicate n eC).flatMap aL) true false))) :
  rh (mkS s 32 [.str [],.str []] h (I n) (I n)) k u:=by unfold rh mkS;simp only;rw[if_pos ⟨aa,Int.le_refl _,ac,aa,aa⟩];simp only[new,hs,Int.toNat_natCast,Uv,List.length_cons,List.length_nil];have:=fP aL aT (List.replicate n eC);rw[Zd]at this;rw[this];exact hk
theorem OX{α:Type}(a b:α):∀(i r:Nat),(List.replicate i a++List.replicate (r+1) b).set i a=List.replicate (i+1) a++List.replicate r b
 |0,r=>by simp[List.replicate_succ]
 | i+1,r=>by
  rw[List.replicate_succ,List.cons_append,List.set_cons_succ,OX a b i r,<-List.cons_append,<-List.replicate_succ]
def zT:Tx:=tx (0,1)
def hz(h:Hp)(l:List Tx):Hp:=h++[(1,.data 2 (l.flatMap aL) true false)]
theorem Fq(h:Hp)(l:List Tx):(hz h l)[h.length]?=some (1,.data 2 (l.flatMap aL) true false):=by simp[hz]
theorem NX(h:Hp)(l l':List Tx):(hz h l).set h.length (1,.data 2 (l'.flatMap aL) true false)=hz h l':=by simp[hz]
theorem GZ{h:Hp}{n:Nat}(hn:n<1000000)(k:KL)(h0:Hp)(hh:h0.length=h.length+1):∀(r i:Nat),i+r=n->k (.exit 0) [] (hz h (List.replicate n zT)) ->
  lp (re (CX Y) h.length (.ref h.length 1 0 n n (n*2)) (I n)) [] h0 [I i] (hz h (List.replicate i zT++List.replicate r eC)) k
 | 0,i,hi,hk=>by
  have h1:¬(i:Int)<(n:Int):=aa;have h2:i=n:=aa;subst h2;refine aj ?_;simp[re,h1];exact hk
 | r+1,i,hi,hk=>by
  have h1:(i:Int)<(n:Int):=aa;have nb:=uL (z:=0) aa aa;have hl:(List.replicate i zT++List.replicate (r+1) eC).length=n:=by simp;omega
  have e1:=ixR (Fq h (List.replicate i zT++List.replicate (r+1) eC)) hl (c:=i) aa .i64;have e2:=stR (Fq h (List.replicate i zT++List.replicate (r+1) eC)) hl (c:=i) aa zT;rw[NX,OX]at e2;have hlen:(hz h (List.replicate (i+1) zT++List.replicate r eC)).length=h0.length:=by simp[hz,hh]
  refine aj ?_;simp[re,h1];refine cd nb ?_;have e3:st (hz h (List.replicate i zT++List.replicate (r+1) eC)) 2 (V.ptr h.length 1 (i*2) (n*2)) (.agg (qT (0,1)))=some (hz h (List.replicate (i+1) zT++List.replicate r eC)):=e2;simp(disch:=try exact ae)[e1,e3,hlen];have:=GZ hn k h0 hh r (i+1) aa hk;simpa using this
theorem YS{h:Hp}(hu:(h.all λx=>aF h.length x.2)=true){n:Nat}(hn:n<1000000):CI Y F.pV [I n] h (.new 2 ((List.replicate n zT).flatMap aL) true n n) h:=by
 refine KO ?_;have hl:aX (.ref h.length 1 0 n n (n*2))=some (I n):=rfl;simp[pV];refine Vb (e:=0) (b:=.none) ac aa ?_;have e0:(h++[(0,Bk.none)]).set h.length (0+1,.data 2 ((List.replicate n eC).flatMap aL) true false)=hz h (List.replicate 0 zT++List.replicate n eC):=by simp[hz]
 rw[e0];simp[hl];refine lo (GZ hn _ _ (by simp[hz]) n 0 aa ?_);simp;have hfl:=fP aL aT (List.replicate n zT);rw[Zd]at hfl;refine⟨by simp[hz],?_,.inr (.inr (.inl ⟨h.length,1,n,n,2,(List.replicate n zT).flatMap aL,true,by rw[hfl],Z8 _,?_,rfl⟩))⟩
 .exact hu
 .simp[hz,ax]
theorem abV{h:Hp}{s n:Nat}(hg:h[s]?=some (e,.data 2 (l.flatMap aL) ex fr))(hn:l.length=n):bH h (.ref s e 0 n n (n*2))=some (gk aL l,h.set s (e,.data 2 (l.flatMap aL) ex true)):=by have hlen:=fP aL aT l;simp only[bH,toD,dM hg];rw[if_pos ⟨by rw[hlen,hn],Z8 _,by rw[hlen,hn];omega⟩];rw[Yu,Z3 (by rw[hlen,hn];exact Z8 _)];subst hn;rfl
theorem Jo(n:Nat)(l:LdQ)(H:Hp):du 1 [nPQ] [(0,.d (.sl n l))] H=some ([.sl n l],H):=by simp[du,gK,jG,toD]
theorem aau(n:Nat)(l:LdQ)(n':Nat)(l':LdQ)(H:Hp):du 2 [nPQ] [(0,.d (.sl n l)),(1,.d (.sl n' l'))] H=some ([.sl n l,.sl n' l'],H):=by simp[du,gK,jG,toD]
theorem LV(x:Q)(H:Hp):du 1 [D.str [],D.str []] [(0,.agg (qT x))] H=some (aL (tx x),H):=by simp[du,gK,jG,toD,qT,aL,tx]
theorem afo(x y:Q)(H:Hp):du 2 [D.str [],D.str []] [(0,.agg (qT x)),(1,.agg (qT y))] H=some (aL (tx x)++aL (tx y),H):=by simp[du,gK,jG,toD,qT,aL,tx]
def smR(r:LiQ):Bool:=r.all λx=>decide (-1000<=x)&&decide (x<=1000)
def Je(n:Nat):LLQ->Int
 |[]=>0
 |r::m=>if r.length≠n then 5 else if smR r=true then Je n m else 4
theorem ab0{r:LiQ}(hN:r.length<1000000000000)(k:KL):∀(q a:LiQ),a++q=r->(smR q=true->k (.exit 2) [] [])->(smR q=false->k .ret [I 4] []) ->
  lp (mT (CX Y) (lst di r) (I r.length)) [] [] [I a.length] [] k
 | []=>by
  intro a ha h0 h1;subst ha;refine aj ?_;simp[mT];exact h0 rfl
 | x::q=>by
  intro a ha h0 h1;subst ha;simp at hN;refine aj ?_;simp(disch:=try exact ae)[mT];by_cases h:(1000:Int)<x
  .simp[h];exact h1 (by simp[smR];omega)
  .by_cases h2:x < -1000
   .simp(disch:=try exact ae)[h,h2];exact h1 (by simp[smR];omega)
   .simp(disch:=try exact ae)[h,h2];have:=ab0 (r:=a++x::q) aN k q (a++[x]) ac (λg=>h0 ?_) (λg=>h1 ?_)
    .simpa using this
    .simp[smR]at g ⊢;exact⟨⟨aa,aa⟩,g⟩
    .simp only[smR,List.all_cons,Xp]at g ⊢;exact .inr g
theorem Pv{p:LiQ}(hp:p.length<1000000000000)(k:KL):∀(q a:LLQ),(a++q).length<1000000000 ->
  (Je p.length q=0->k (.exit 0) [] [])->(Je p.length q≠0->k .ret [I (Je p.length q)] []) ->
  lp (jT (CX Y) (lst di p) (mat (a++q)) (I (a++q).length)) [] [] [I a.length] [] k
 | []=>by
  intro a hN h0 h1;refine aj ?_;simp[jT];exact h0 rfl
 | r::q=>by
  intro a hN h0 h1;simp at hN;refine aj ?_;simp only[Je]at h0 h1;by_cases g:r.length=p.length
  .have g':(r.length:Int)=(p.length:Int):=aa;rw[if_neg (by simpa using g)]at h0 h1;simp(disch:=try exact ae)[jT,g'];rw[<-g'];refine lo (ab0 (r:=r) aa _ r [] rfl (λgg=>?_) (λgg=>?_))
   .rw[if_pos gg]at h0 h1;have:=Pv hp k q (a++[r]) aN h0 h1;simp(disch:=try exact ae);simp at this ⊢;exact this
   .rw[if_neg (by simp[gg])]at h1;simp;exact h1 aa
  .have g':¬(r.length:Int)=(p.length:Int):=aa;rw[if_pos g]at h1;simp(disch:=try exact ae)[jT,g'];exact h1 aa
def mzB(p:LiQ)(m:LLQ):Int:=if pcB p=0 then Je p.length m else pcB p
theorem LE{p:LiQ}{m:LLQ}(hp:p.length<1000000000)(hm:m.length<1000000000):CP Y F.kR [lst di p,mat m] (I (mzB p m)):=by
 refine Bo ?_;simp[kR];refine cd (mA hp) ?_;by_cases h:pcB p=0
 .have e:mzB p m=Je p.length m:=if_pos h;rw[e];simp[h];refine lo (Pv aa _ m [] (by simpa using hm) (λg=>?_) (λg=>?_))
  .rw[g];simp
  .simp
 .have e:mzB p m=pcB p:=if_neg h;rw[e];simp[h]<;>exact ct rfl
theorem LD{p r:LiQ}(hp:p.length<1000000000):CP Y F.nF [lst di p,lst di r] (I (mzB p [r])):=by
 refine Gw ?_;have hli:∀H,du 1 [nPQ] [(0,lst di r)] H=some ([row r],H):=λH=>Jo ..
 simp[nF,hli];refine cd (v:=I (mzB p [r])) (LE (m:=[r]) hp ac) ?_;simp<;>exact ct rfl
theorem adm{p r:LiQ}(hp:pcB p=0)(hl:r.length=p.length)(hs:smR r=true):mzB p [r]=0:=by unfold mzB;rw[if_pos hp];simp[Je,hl,hs]
theorem IS(a:List α)(y x:α)(q:List α):(a++y::q).set a.length x=a++x::q:=by
 induction a with
 |nil=>rfl
 |cons z a ih=>simp
def ofQ(r:LiQ):List Q:=r.map λx=>(x,1)
def okK(K:Nat)(s:List Q):Prop:=∀x∈s,okQ x∧qL K x
def yU(k:Q):List Q->List Q->List Q
 |x::o,y::s=>lj x (qz y k)::yU k o s
 |_,_=>[]
def CF:List Q->List (List Q)->List Q->List Q
 |o,s::l,k::f=>CF (yU k o s) l f
 |o,_,_=>o
theorem AI(k:Q):∀(o s:List Q),o.length=s.length->(yU k o s).length=s.length
 |[],[],_=>rfl
 |x::o,y::s,h=>by simp[yU,AI k o s (by grind)]
 |[],_::_,h=>by simp at h
 |_::_,[],h=>by rfl
theorem DW{Ko Ks Kk:Nat}{k:Q}(hk:okQ k)(lk:qL Kk k):∀{o s:List Q},okK Ko o->okK Ks s->okK (Ko+(Ks+Kk)+1) (yU k o s)
 | x::o,y::s,ho,hs,z,hz=>by
  simp only[yU,Zu]at hz;rcases hz with rfl|hz
  .obtain⟨h1,h2⟩:=ho x ac;obtain⟨h3,h4⟩:=hs y ac
   simp_all[ZT,IW,ac5,Ny]
  .exact DW hk lk (λw hw=>ho w (by grind)) (λw hw=>hs w (by grind)) z hz
 |[],[],_,_,z,hz=>by trivial
 |[],_::_,_,_,z,hz=>by trivial
 |_::_,[],_,_,z,hz=>by trivial
theorem lZ(d:β)(f:α->β)(a:List α)(x:α)(q:List α):nth d ((a++x::q).map f) a.length=f x:=by
 have:nth d (a.map f++f x::q.map f) (a.map f).length=f x:=by simp[-List.length_map]
 grind
def szD(s:List Q):D:=.sl (s.map tx).length ((s.map tx).flatMap aL)
theorem OO(s:List Q):V.d (szD s)=szV s:=rfl
theorem xl(s:List Q):aX (szV s)=some (I s.length):=by simp[szV]
@[simp]theorem afe(s:List Q):norm (szD s)=szD s:=rfl
def h2R(l:List Tx):Hp:=[(1,.data 2 (l.flatMap aL) true false),nnQ]
theorem Tb{s fs:List Q}{k:Q}{i:Nat}(hi:i<fs.length)(hki:nth ([],[]) (fs.map tx) i=tx k)(hf:fs.length<1000000)(hN:s.length<1000000){Ko Ks Kk:Nat}(hk:okQ k)(lk:qL Kk k)
  (b1:Ko<=100000) (b2:Ks+Kk<=100000) (h0:List Tx) (kk:KL):∀(q a oq a':List Q),a++q=s->a'.length=a.length->oq.length=q.length->okK Ko oq->okK Ks q->kk (.exit 2) [] (h2R ((a'++yU k oq q).map tx)) ->
  lp (qw (CX Y) (szV fs) (.ref 0 1 0 s.length s.length (s.length*2)) (I i) (szV s) (I s.length)) [1] (h2R h0) [I a.length] (h2R ((a'++oq).map tx)) kk
 | [],a,oq,a',ha,h1,h2,ho,hs,hkk=>by
  simp at ha h2;subst ha;subst h2;refine aj ?_;simp[qw]
  grind[yU]
 |x::q,a,[],a',ha,h1,h2,ho,hs,hkk=>by simp at h2
 | x::q,a,y::oq,a',ha,h1,h2,ho,hs,hkk=>by
  have hal:a.length<s.length:=by subst ha;simp
  obtain⟨o1,o2⟩:=ho y ac;obtain⟨s1,s2⟩:=hs x ac;have hlen:((a'++y::oq).map tx).length=s.length:=by subst ha;simp at h2 ⊢;omega
  have mul:=Mg s1 hk (s2.mono aa) (lk.mono aa);have add:=FI o1 (IW s1 hk) (o2.mono b1) ((Ny s2 lk).mono aa);have g1:(a.length:Int)<(s.length:Int):=aa;have hx:nth ([],[]) (s.map tx) a.length=tx x:=by subst ha;exact lZ ..
  have hy:nth ([],[]) ((a'++y::oq).map tx) a.length=tx y:=by rw[<-h1];exact lZ ..
  have i1:=λh:Hp=>jW aL aT (s.map tx) h (k:=.i64) (i:=(a.length:Int)) aa (by grind)
  have i2:=λh:Hp=>kD aL aT ([],[]) (s.map tx) h (j:=a.length) (by grind)
  have j1:=λh:Hp=>jW aL aT (fs.map tx) h (k:=.i64) (i:=(i:Int)) aa (by grind)
  have j2:=λh:Hp=>kD aL aT ([],[]) (fs.map tx) h (j:=i) (by grind)
  simp only[hx,hki,Int.toNat_natCast]at i1 i2 j1 j2
  let D0:Bk:=.data 2 (((a'++y::oq).map tx).flatMap aL) true false
  have e1:=λz=>ixR (h:=[(1,D0),(1,z)]) (s:=0) (e:=1) rfl hlen (c:=a.length) hal .i64
  have e2:=λz=>ldR (h:=[(1,D0),(1,z)]) (s:=0) (e:=1) rfl hlen (c:=a.length) hal
  have e3:=λz=>stR (h:=[(1,D0),(1,z)]) (s:=0) (e:=1) rfl hlen (c:=a.length) hal (tx (lj y (qz x k)))
  have es:((a'++y::oq).map tx).set a.length (tx (lj y (qz x k)))=((a'++[lj y (qz x k)])++oq).map tx:=by
   have:=IS (a'.map tx) (tx y) (tx (lj y (qz x k))) (oq.map tx);rw[List.length_map,h1]at this;simpa using this
  simp only[hy,es]at e2 e3;have mul':CP Y F.jX [.agg [S (tx x).1,S (tx x).2],.agg [S (tx k).1,S (tx k).2]] (.agg (qT (qz x k))):=mul;have add':CP Y F.fp [.agg [S (tx y).1,S (tx y).2],.agg (qT (qz x k))] (.agg (qT (lj y (qz x k)))):=add
  have e3':∀z,st [(1,D0),(1,z)] 2 (V.ptr 0 1 (a.length*2) (s.length*2)) (.agg (qT (lj y (qz x k))))=some [(1,.data 2 ((((a'++[lj y (qz x k)])++oq).map tx).flatMap aL) true false),(1,z)]:=λz=>e3 z
  have ih:=Tb hi hki hf hN hk lk b1 b2 h0 kk q (a++[x]) oq (a'++[lj y (qz x k)]) (by grind) (by grind) (by grind) (λw hw=>ho w (by grind)) (λw hw=>hs w (by grind)) (by grind[yU]);refine aj ?_
  show qw (CX Y) (szV fs) _ _ (szV s) _ _ [(1,D0),nnQ] _
  simp[qw,szV,i1,i2,j1,j2,e1,e2,e3',g1,aL];refine cd mul' ?_;simp;refine cd add' ?_ (by rfl);simp(disch:=try exact ae)[e1,e3',h2R,clean,ij,pz,p6,offB,gQ,aP,show Nat.beq 1 0=false from rfl]
  simp_all[h2R,szV]
theorem OP{n:Nat}{fs:List Q}(hf:fs.length<1000000)(hN:n<1000000){Ks Kk:Nat}(b2:Ks+Kk<=90000)(h0:List Tx)(kk:KL):∀(l a:List (List Q))(q f:List Q)(o:List Q)(Ko:Nat),f++q=fs->f.length=a.length->l.length=q.length->Ko+l.length*(Ks+Kk+1)<=100000 ->
  o.length=n->okK Ko o->(∀s∈l,s.length=n∧okK Ks s)->okK Kk q->kk (.exit 0) [] (h2R ((CF o l q).map tx)) ->
  lp (sJ (CX Y) (szV fs) (.ref 0 1 0 n n (n*2)) (lst szD (a++l)) (I (a++l).length)) [1] (h2R h0) [I a.length] (h2R (o.map tx)) kk
 | [],a,q,f,o,Ko,hfq,h1,h2,b1,hn,ho,hl,hq,hkk=>by
  refine aj ?_;simp[sJ]
  grind[CF]
 |s::l,a,[],f,o,Ko,hfq,h1,h2,b1,hn,ho,hl,hq,hkk=>by simp at h2
 | s::l,a,k::q,f,o,Ko,hfq,h1,h2,b1,hn,ho,hl,hq,hkk=>by
  obtain⟨s1,s2⟩:=hl s ac;obtain⟨k1,k2⟩:=hq k ac;have hLl:(l.length+1)*(Ks+Kk+1)=l.length*(Ks+Kk+1)+(Ks+Kk+1):=X1 ..;rw[List.length_cons,hLl]at b1;have hb:(a++s::l).length<1000000:=by simp at h2 ⊢;subst hfq;simp at hf;omega
  have g1:(a.length:Int)<((a++s::l).length:Int):=by simp;omega
  have i1:=λh:Hp=>nJ szD (a++s::l) h (k:=.i64) (i:=(a.length:Int)) aa g1
  have i2:=λh:Hp=>oz szD [] (a++s::l) h (j:=a.length) ac
  have hnt:nth [] (a++s::l) a.length=s:=ac;simp only[hnt,Int.toNat_natCast]at i1 i2;have hlv:=xl s;have hki:nth ([],[]) (fs.map tx) a.length=tx k:=by rw[<-hfq,<-h1];exact lZ ..
  have hi:a.length<fs.length:=by rw[<-hfq];simp;omega
  simp only[OO]at i2;refine aj ?_;obtain⟨L,hLe⟩:∃L,L=(a++s::l).length:=⟨_,rfl⟩;rw[<-hLe]at g1 ⊢;simp[sJ,i1,i2,g1,hlv,OO];subst s1;refine lo (Tb hi hki hf hN k1 k2 (Ko:=Ko) (Ks:=Ks) aa aa (o.map tx) _ s [] o [] rfl rfl hn ho s2 ?_)
  have ih:=OP hf hN b2 h0 kk l (a++[s]) q (f++[k]) (yU k o s) (Ko+(Ks+Kk)+1) (by grind) (by grind) (by grind) aa (AI k o s hn) (DW k1 k2 ho s2) (λt ht=>hl t (by grind)) (λt ht=>hq t (by grind)) (by trivial);simp(disch:=try exact ae)[h2R,clean,ij,pz,p6,offB,gQ,aP,show Nat.beq 1 0=false from rfl]
  have hL:(a++[s]++l).length=L:=by rw[hLe];simp
  simp_all[h2R]
def qM(n:Nat)(l:List (List Q))(f:List Q):List Q:=CF (List.replicate n (0,1)) l f
theorem ID{Ks Kk:Nat}:∀{l:List (List Q)}{f o:List Q}{Ko:Nat},okK Ko o->(∀s∈l,okK Ks s)->okK Kk f->okK (Ko+l.length*(Ks+Kk+1)) (CF o l f)
 |[],f,o,Ko,ho,_,_=>by grind[CF]
 |s::l,[],o,Ko,ho,hl,hf=>λx hx=>⟨(ho x (by trivial)).1,(ho x (by trivial)).2.mono aa⟩
 | s::l,k::f,o,Ko,ho,hl,hf=>by
  obtain⟨k1,k2⟩:=hf k ac;have:=ID (l:=l) (f:=f) (DW k1 k2 ho (hl s ac)) (λt ht=>hl t (by grind)) (λt ht=>hf t (by grind))
  have e:Ko+(s::l).length*(Ks+Kk+1)=Ko+(Ks+Kk)+1+l.length*(Ks+Kk+1):=by
   rw[List.length_cons,X1];omega
  rw[e];exact this
theorem rR:∀{l:List (List Q)}{f o:List Q},(∀s∈l,s.length=o.length)->(CF o l f).length=o.length
 |[],f,o,_=>by simp[CF]
 |s::l,[],o,_=>by rfl
 | s::l,k::f,o,h=>by
  have e:=AI k o s (h s ac).symm;have hs:=h s ac;have:=rR (l:=l) (f:=f) (o:=yU k o s) (λt ht=>by grind)
  grind[CF]
theorem yX(n:Nat):okK 1 (List.replicate n (0,1)):=λx hx=>by
 have:=List.eq_of_mem_replicate hx;subst this;exact⟨⟨af,af⟩,fM af af,fM af af⟩
theorem Nf{n:Nat}{l:List (List Q)}{fs:List Q}{Ks Kk:Nat}(hN:n<1000000)(hf:fs.length<1000000)(hlen:l.length=fs.length)(b2:Ks+Kk<=90000)(b1:1+l.length*(Ks+Kk+1)<=100000)
  (hl:∀s∈l,s.length=n∧okK Ks s) (hq:okK Kk fs):CP Y F.oC [I n,lst szD l,szV fs] (szV (qM n l fs)):=by
 refine Nm ?_;have zi:=YS (h:=[nnQ,nnQ]) (n:=n) rfl hN;have hfl:=fP aL aT (List.replicate n zT);rw[Zd]at hfl;have hz:(List.replicate n ((0,1):Q)).map tx=List.replicate n zT:=by simp[zT]
 have hl':((qM n l fs).map tx).length=n:=by
  rw[List.length_map];unfold qM;rw[rR (λs hs=>by grind)];simp
 have sn:=abV (h:=h2R ((qM n l fs).map tx)) (s:=0) (e:=1) (n:=n) rfl hl';have ll:aX (lst szD l)=some (I l.length):=rfl;simp[oC];refine oE (iz (e:=0) (b:=.none) zi rfl ?_);rw[hfl];simp[ll]
 have so:=OP (n:=n) (fs:=fs) hf hN b2 (List.replicate n zT) (exK [(Exit.exit 0,λl3 h=>out (szV (qM n l fs)) (V.ref 0 1 0 n n (n*2)) h)]) l [] fs [] (List.replicate n (0,1)) 1 rfl rfl hlen b1 ac (yX n) hl hq (by
  simp;exact⟨_,sn⟩)
 rw[hz]at so;trivial
theorem Fo{g:FuncId}{p:Tx->Bool}(l:List Tx)(hp:∀x∈l,CP Y g [.agg [S x.1,S x.2]] (B (p x)))(hN:l.length<1000000)(k:KL):∀(q a:List Tx),a++q=l ->
  (idx p q = -1->k (.exit 0) [] [])->(∀i:Nat,idx p q=i->k .ret [I (a.length+i:Nat)] []) ->
  lp (bZ (CX Y) (gk aL l) (.fn g [] []) (I l.length)) [] [] [I a.length] [] k
 | [],a=>by
  intro ha h0 _;simp at ha;subst ha;refine aj ?_;simp[bZ];exact h0 rfl
 | x::q,a=>by
  intro ha h0 h1;have hal:a.length<l.length:=by subst ha;simp
  have e3:nth ([],[]) l a.length=x:=by subst ha;simp
  have e1:=jW aL aT l [] (k:=.i64) (i:=(a.length:Int)) aa aa;have e2:=kD aL aT ([],[]) l [] hal;rw[e3]at e2;rw[Int.toNat_natCast]at e1;refine aj ?_;simp(disch:=try exact ae)[bZ,e1,e2,aL];refine cdf (fs:=[]) (args:=[.agg [S x.1,S x.2]]) (cs:=[]) (hp x (by grind)) rfl ?_;simp
  refine XP (λh=>?_) (λh=>?_)<;>try simp(disch:=try exact ae)[h]
  .have e:idx p (x::q)=(0:Nat):=by simp[idx,List.findIdx?_cons,h]
   grind
  .have:=Fo l hp hN k q (a++[x]) (by grind) (λe=>h0 ?_) (λi e=>?_)
   .simp_all
   .grind[idx]
   .have:=h1 (i+1) ?_
    .simpa[Xt,Nat.add_comm 1 i]using this
    grind[idx]
theorem yb{g:FuncId}{p:Tx->Bool}(l:List Tx)(hN:l.length<1000000)(hp:∀x∈l,CP Y g [.agg [S x.1,S x.2]] (B (p x))):CP Y F.aG [gk aL l,.fn g [] []] (B (l.any p)):=by
 refine lh ?_;simp[aG];refine cd (v:=I (idx p l)) (mG ?_) ?_ ?_
 .have ls':aX (gk aL l)=some (I l.length):=rfl;simp[bB,ls'];refine lo (Fo l hp hN _ l [] rfl (λe=>?_) (λi e=>?_))
  .simp[e]
  .simp[e]
 .simp;have:=zW p l;have e:decide (0<=idx p l)=l.any p:=by rw[Yn];simpa using this
  simp_all
 rfl
theorem Fp{g:FuncId}{p:Tx->Bool}(l:List Tx)(hp:∀x∈l,CP Y g [.agg [S x.1,S x.2]] (B (p x)))(hN:l.length<1000000)(k:KL):∀(q a:List Tx),a++q=l ->
  (idx p q = -1->k (.exit 0) [] [])->(∀i:Nat,idx p q=i->k .ret [I (a.length+i:Nat)] []) ->
  lp (bD (CX Y) (gk aL l) (.fn g [] []) (I l.length)) [] [] [I a.length] [] k
 | [],a=>by
  intro ha h0 _;simp at ha;subst ha;refine aj ?_;simp[bD];exact h0 rfl
 | x::q,a=>by
  intro ha h0 h1;have hal:a.length<l.length:=by subst ha;simp
  have e3:nth ([],[]) l a.length=x:=by subst ha;simp
  have e1:=jW aL aT l [] (k:=.i64) (i:=(a.length:Int)) aa aa;have e2:=kD aL aT ([],[]) l [] hal;rw[e3]at e2;rw[Int.toNat_natCast]at e1;refine aj ?_;simp(disch:=try exact ae)[bD,e1,e2,aL];refine cdf (fs:=[]) (args:=[.agg [S x.1,S x.2]]) (cs:=[]) (hp x (by grind)) rfl ?_;simp
  refine XP (λh=>?_) (λh=>?_)<;>try simp(disch:=try exact ae)[h]
  .have e:idx p (x::q)=(0:Nat):=by simp[idx,List.findIdx?_cons,h]
   grind
  .have:=Fp l hp hN k q (a++[x]) (by grind) (λe=>h0 ?_) (λi e=>?_)
   .simp_all
   .grind[idx]
   .have:=h1 (i+1) ?_
    .simpa[Xt,Nat.add_comm 1 i]using this
    grind[idx]
theorem JO{g:FuncId}{p:Tx->Bool}(l:List Tx)(hN:l.length<1000000)(hp:∀x∈l,CP Y g [.agg [S x.1,S x.2]] (B (p x))):CP Y F.aJ [gk aL l,.fn g [] []] (B (l.any p)):=by
 refine jK ?_;simp[aJ];refine cd (v:=I (idx p l)) (kJ ?_) ?_ ?_
 .have ls':aX (gk aL l)=some (I l.length):=rfl;simp[ba,ls'];refine lo (Fp l hp hN _ l [] rfl (λe=>?_) (λi e=>?_))
  .simp[e]
  .simp[e]
 .simp;have:=zW p l;have e:decide (0<=idx p l)=l.any p:=by rw[Yn];simpa using this
  simp_all
 rfl
def ML(n:Nat):List (List Q)->Int
 |[]=>0
 |s::l=>if s.length=n then ML n l else 5
theorem Qs{p:LiQ}(hp:p.length<1000000000)(k:KL):∀(q a:List (List Q)),(a++q).length<1000000->(∀s∈q,okS s∧s.length<1000000) ->
  (ML p.length q=0->k (.exit 0) [] [])->(ML p.length q≠0->k .ret [I (ML p.length q)] []) ->
  lp (nV (CX Y) (lst di p) (lst szD (a++q)) (I (a++q).length)) [] [] [I a.length] [] k
 | []=>by
  intro a hN hs h0 h1;refine aj ?_;simp[nV];exact h0 rfl
 | s::q=>by
  intro a hN hs h0 h1;obtain⟨s1,s2⟩:=hs s ac;have ck:=Sq (p:=p) s1 s2;have g1:(a.length:Int)<((a++s::q).length:Int):=by simp;omega
  have i1:=nJ szD (a++s::q) [] (k:=.i64) (i:=(a.length:Int)) aa g1;have i2:=oz szD [] (a++s::q) [] (j:=a.length) ac;have hnt:nth [] (a++s::q) a.length=s:=ac;rw[hnt]at i2;rw[Int.toNat_natCast]at i1;refine aj ?_;simp only[ML]at h0 h1;obtain⟨L,hLe⟩:∃L,L=(a++s::q).length:=⟨_,rfl⟩;rw[<-hLe]at g1 ⊢;simp[nV,i1,i2,g1,OO]
  refine cd ck ?_ (by rfl);by_cases g:s.length=p.length
  .rw[if_pos g]at h0 h1 ⊢;have:=Qs hp k q (a++[s]) (by grind) (λt ht=>hs t (by grind)) h0 h1;simp(disch:=try exact ae);have e:(a++[s]++q).length=L:=by rw[hLe];simp
   simp_all
  .rw[if_neg g]at h1 ⊢;simp
   grind
theorem wV{p:LiQ}{l:List (List Q)}(hp:p.length<1000000000)(hl:l.length<1000000)(hs:∀s∈l,okS s∧s.length<1000000):CP Y F.iV [lst di p,lst szD l] (I (if pcB p=0 then ML p.length l else pcB p)):=by
 refine CK ?_;simp[iV];refine cd (mA hp) ?_;by_cases h:pcB p=0
 .rw[if_pos h];simp[h];refine lo (Qs hp _ l [] (by trivial) hs (λg=>?_) (λg=>?_))
  .rw[g];simp
  .simp
 .rw[if_neg h];simp[h]<;>exact ct rfl
theorem DR{n:Nat}:∀{l:List (List Q)},(∀s∈l,s.length=n)->ML n l=0
 |[],_=>rfl
 |s::l,h=>by rw[ML,if_pos (h s ac)];exact DR λt ht=>h t (by grind)
theorem Ns(hl:qL 30 x):CP Y F.jk [.agg (qT x)] (B false):=by refine A0 ?_;simp[jk,qT];refine cd (Q2 hl) ?_ (by rfl);simp<;>exact gH rfl
theorem Ik(l:List α):(l.any λ_=>false)=false:=by induction l<;>simp_all
theorem KE(s:List Q)(h:Hp):bH h (szV s)=some (szV s,h):=by rfl
theorem Q5(hs:okS s)(hN:s.length<1000000):CP Y F.o7 [szV s] (.tup [szV s,I 0]):=by
 refine Gp ?_
 have:=yb (g:=F.jk) (p:=λ_=>false) (s.map tx) (by grind) (λx hx=>by
  obtain⟨y,hy,rfl⟩:=Zw.1 hx;exact Ns (hs y hy).2)
 rw[Ik]at this;simp[o7];refine cd this ?_ (by rfl);simp;simp[cG,KE]
theorem MD(hx:okQ x)(hl:qL 30 x):CP Y F.iC [.agg (qT x)] (B false):=by refine zo ?_;simp[iC,qT];refine cd (Sr hx hl) ?_ (by rfl);simp<;>exact gH rfl
theorem Oi{p:LiQ}{l:List (List Q)}(hp:pcB p=0)(hN:p.length<1000000)(hf:fs.length<1000)(hlen:l.length=fs.length)(hl:∀s∈l,s.length=p.length∧okS s)(hq:okS fs)(hr:okS (qM p.length l fs)):
  CP Y F.lK [lst di p,lst szD l,szV fs] (.tup [szV (qM p.length l fs),I 0]):=by
 refine Ev ?_;have ca:=wV (p:=p) (l:=l) aa aa (λs hs=>⟨(hl s hs).2,by grind⟩);rw[if_pos hp,DR λs hs=>(hl s hs).1]at ca
 have cf:=JO (g:=F.iC) (p:=λ_=>false) (fs.map tx) (by grind) (λx hx=>by
  obtain⟨y,hy,rfl⟩:=Zw.1 hx;exact MD (hq y hy).1 (hq y hy).2)
 rw[Ik]at cf;have su:=Nf (n:=p.length) (l:=l) (fs:=fs) (Ks:=30) (Kk:=30) hN aa hlen aa aa hl hq;have rs:=Q5 hr (by grind[qM,rR]);have l1:aX (lst szD l)=some (I l.length):=rfl;have l2:=xl fs;have l3:aX (lst di p)=some (I p.length):=rfl;have g1:((fs.length:Int)=(l.length:Int))=True:=eq_true aa;simp[lK];refine cd ca ?_
 simp[l1,l2,g1];refine cd cf ?_ (by rfl);simp[l3];refine cd su ?_ (by rfl);simp;refine cd rs ?_ (by rfl);simp;simp[cG,KE]
theorem adh(z:Int)(h1 : -1000000000000000000<z)(h2:z<1000000000000000000):okQ (z,1)∧qL 30 (z,1):=
 ⟨⟨ac,ac⟩,Zy (Jd aa aa) af,fM ac af⟩
theorem TO{p:LiQ}{k:Q}(hp:pcB p=0)(hN:p.length<1000000)(hl:s.length=p.length)(hs:okS s)(hk:okQ k∧qL 30 k)(hr:okS (qM p.length [s] [k])):
  CP Y F.oT [lst di p,szV s,.agg (qT k)] (.tup [szV (qM p.length [s] [k]),I 0]):=by
 refine IM ?_;have cb:=Oi (p:=p) (l:=[s]) (fs:=[k]) hp hN ac rfl (λt ht=>by grind) (λx hx=>by grind) hr;have l1:∀H,du 1 [nPQ] [(0,szV s)] H=some ([szD s],H):=λH=>Jo ..
 have l2:∀H,du 1 [D.str [],D.str []] [(0,.agg [S (itoa k.1),S (ah k.2)])] H=some (aL (tx k),H):=λH=>LV k H
 simp[oT,qT,l1,l2];refine cd (v:=.tup [szV (qM p.length [s] [k]),I 0]) cb ?_ (by rfl);simp;simp[cG,KE]
theorem acG{y:Q}(h:tx x=tx y):x=y:=by unfold tx at h;simp only[Z5]at h;exact Prod.ext (wN h.1) (qd h.2)
theorem aho(x y:Q):biA [.str [],.str []] .neq (.agg [S (tx x).1,S (tx x).2]) (.agg [S (tx y).1,S (tx y).2])=some (B (!decide (x=y))):=by
 have:((tx x).1 == (tx y).1&&((tx x).2 == (tx y).2&&true))=decide (x=y):=by
  rw[Yn];simp only[Z7,beq_iff_eq,decide_eq_true_eq,and_true];exact⟨λh=>acG (Prod.ext h.1 h.2),λh=>by subst h;exact⟨rfl,rfl⟩⟩
 simp only[biA,BN,eqC,this]
theorem Mm{s t:List Q}(hN:s.length<1000000)(k:KL):∀(q r a b:List Q),a++q=s->b++r=t->a.length=b.length->q.length=r.length->(q=r->k (.exit 0) [] [])->(q≠r->k .ret [B false] []) ->
  lp (bI (CX Y) (szV s) (szV t) (I s.length)) [] [] [I a.length] [] k
 | [],r,a,b,ha,hb,hab,hqr,h0,h1=>by
  simp at ha;subst ha
  have:r=[]:=by cases r with
   |nil=>rfl
   |cons y r=>simp at hqr
  refine aj ?_;simp(disch:=try exact ae)[bI];exact h0 this.symm
 |x::q,[],a,b,ha,hb,hab,hqr,h0,h1=>by simp at hqr
 | x::q,y::r,a,b,ha,hb,hab,hqr,h0,h1=>by
  have hal:a.length<s.length:=by subst ha;simp
  have hbl:a.length<t.length:=by subst hb;simp;omega
  have hx:nth ([],[]) (s.map tx) a.length=tx x:=by subst ha;exact lZ ..
  have hy:nth ([],[]) (t.map tx) a.length=tx y:=by subst hb;rw[hab];exact lZ ..
  have i1:=jW aL aT (s.map tx) [] (k:=.i64) (i:=(a.length:Int)) aa aN;have i2:=kD aL aT ([],[]) (s.map tx) [] (j:=a.length) (by simpa using hal);have j1:=jW aL aT (t.map tx) [] (k:=.i64) (i:=(a.length:Int)) aa aN;have j2:=kD aL aT ([],[]) (t.map tx) [] (j:=a.length) (by simpa using hbl)
  have g1:(a.length:Int)<(s.length:Int):=aa;have e:=aho x y;simp only[hx,hy,Int.toNat_natCast,aL,Zv,Yv]at i1 i2 j1 j2;refine aj ?_;by_cases hxy:x=y
  .subst hxy;have ih:=Mm hN k q r (a++[x]) (b++[x]) (by simpa using ha) (by simpa using hb) (by simp[hab]) (by simpa using hqr) (λe=>h0 (by rw[e])) (λe=>h1 (by simpa using e));rw[show(!decide (x=x))=false by simp]at e;simp(disch:=try exact ae)[bI,szV,i1,i2,j1,j2,g1,e];simpa[szV]using ih
  .rw[show(!decide (x=y))=true by simp[hxy]]at e;simp(disch:=try exact ae)[bI,szV,i1,i2,j1,j2,g1,e];exact h1 (by simp[hxy])
theorem TB(hN:s.length<1000000):CP Y F.aV [szV s,szV t] (B (decide (s=t))):=by
 have l1:=xl s;have l2:=xl t;refine ov ?_;by_cases h:s.length=t.length
 .have g:((s.length:Int)=(t.length:Int))=True:=eq_true aa;simp(disch:=try exact ae)[aV,l1,l2,g]
  have:=Mm (s:=s) (t:=t) hN (exK [(Exit.exit 0,λl5 h=>out (B (decide (s=t))) (V.d (D.bool true)) h),(Exit.ret,λl5 h=>out (B (decide (s=t))) (ge l5 0) h)]) s t [] [] rfl rfl rfl h (λg=>by
   simp(disch:=try exact ae);exact gH (by simp[g])) (λg=>by
   simp(disch:=try exact ae);exact gH (by simp[g]))
  refine lo ?_;exact this
 .have g:¬((s.length:Int)=(t.length:Int)):=aa;have:¬s=t:=λe=>h (by rw[e])
  simp(disch:=try exact ae)[aV,l1,l2,g]<;>exact gH (by simp[this])
theorem Sf(hN:s.length<1000000):CP Y F.pW [szV s,szV t] (B (decide (s=t))):=by refine IN ?_;have se:=TB (s:=s) (t:=t) hN;simp(disch:=try exact ae)[pW];refine cd se ?_ (by simp[aH,bH,szV,gk]);simp(disch:=try exact ae)<;>exact gH rfl
structure Tg where
 iv:LiQ
 num:LuQ
 den:LuQ
 deriving DecidableEq
def tgD(t:Tg):LdQ:=[row t.iv,.str t.num,.str t.den]
theorem ze(t:Tg):(tgD t).length=3:=rfl
def tgs(l:List Tg):V:=gk tgD l
def tg0:Tg:=⟨[],[],[]⟩
def TgS(t:Tg):Prop:=t.num.length<1000000∧t.den.length<1000000∧t.iv.length<1000000
def wtE(t:Tg):Int:=match rdF t.num t.den with
 |none=>2
 |some q=>if q.1<=0 then 3 else if 30<t.num.length∨30<t.den.length then 4 else 0
def tgE(p:LiQ)(t:Tg):Int:=if mzB p [t.iv]=0 then wtE t else mzB p [t.iv]
def GG(p:LiQ):List Tg->Int
 |[]=>0
 |t::l=>if tgE p t=0 then GG p l else tgE p t
def dmB(p:LiQ)(l:List Tg):Int:=if pcB p=0 then(if l.length<=60 then GG p l else 4)else pcB p
theorem IB{n d:LuQ}(h:rdF n d=some q):n=itoa q.1∧d=ah q.2:=by
 unfold rdF at h;cases h1:rd n with
 |none=>rw[h1]at h;cases h
 | some x=>
  cases h2:rd d with
  |none=>rw[h1,h2]at h;cases h
  | some y=>
   rw[h1,h2]at h;simp only at h;split at h
   .rename_i hc;obtain rfl:=Option.some.inj h;refine⟨(De h1).1,?_⟩;rw[(De h2).1];unfold itoa;rw[if_neg aa]
   .cases h
theorem QP{n d:LuQ}(h:rdF n d=some q):CP Y F.iZ [.agg [S n,S d]] (I (sgn q.1)):=by obtain⟨rfl,rfl⟩:=IB h;exact H4 q
theorem S5{n d:LuQ}(h:rdF n d=some q)(hq:0<q.1):CP Y F.eS [S n] (S n):=by
 obtain⟨rfl,rfl⟩:=IB h
 have e:itoa q.1=ah q.1.toNat:=by
  unfold itoa;rw[if_neg aa];congr 1;omega
 rw[e];exact J4 _
theorem TK{z:Int}:sgn z<=0↔z<=0:=by unfold sgn;split<;>first|omega|(split<;>omega)
theorem abP{l:List Tg}{a q:List Tg}{t:Tg}(e:l=a++t::q):nth tg0 l a.length=t:=by rw[e];simp
theorem FO{p:LiQ}(hp:p.length<1000000){l:List Tg}(hl:l.length<1000000)(hs:∀t∈l,TgS t)(u v:Bk)(K:KL):∀(q a:List Tg),l=a++q->(GG p q=0->K (.exit 0) [] [nnQ,nnQ])->(∀h,GG p q≠0->K .ret [I (GG p q)] h) ->
  lp (oP (CX Y) (lst di p) (tgs l) (I l.length)) [0,1] [(0,u),(0,v)] [I a.length] [nnQ,nnQ] K
 | [],a,e,k0,k1=>by
  simp only[Zm]at e;subst e;refine aj ?_;have hlt:¬((l.length:Int)<(l.length:Int)):=aa;simp only[oP];simp(disch:=try exact ae)[hlt];exact k0 rfl
 | t::q,a,e,k0,k1=>by
  refine aj ?_;have hlt:((a.length:Int)<(l.length:Int)):=by rw[e];simp;omega
  have hal:a.length<l.length:=aa;have ht:=hs t (by rw[e];simp);have i1:∀h:Hp,ixV h 3 (tgs l) (I a.length)=some (.dptr (l.flatMap tgD) (a.length*3)):=λh=>jW tgD ze l h (k:=.i64) (i:=(a.length:Int)) aa hlt
  have i2:∀h:Hp,ldA h 3 (.dptr (l.flatMap tgD) (a.length*3))=some (.agg [lst di t.iv,S t.num,S t.den]):=λh=>by
   have:=kD tgD ze tg0 l h hal;rw[abP e]at this;exact this
  have mc:=LD (p:=p) (r:=t.iv) aa;have fc:=BX t.num t.den (by have:=ht.1;omega) (by have:=ht.2.1;omega);have okr:okV (lst di t.iv)=true:=rfl;simp only[GG]at k0 k1;simp only[oP];simp(disch:=try exact ae)[hlt,i1,i2,okr];refine cd mc ?_ (by rfl);by_cases g1:mzB p [t.iv]=0
  .have ete:tgE p t=wtE t:=if_pos g1;simp(disch:=try exact ae)[g1];refine cd fc ?_ (by rfl);cases hq:rdF t.num t.den with
   | none=>
    have e2:wtE t=2:=by simp[wtE,hq]
    rw[ete,e2,if_neg af]at k1;simp(disch:=try exact ae);exact k1 _ af
   | some y=>
    simp(disch:=try exact ae);refine cd (QP hq) ?_ (by rfl);by_cases g2:y.1<=0
    .have e2:wtE t=3:=by simp[wtE,hq,g2]
     rw[ete,e2,if_neg af]at k1;have g3:=TK.2 g2;simp(disch:=try exact ae)[g3];exact k1 _ af
    .have g3:¬sgn y.1<=0:=λh=>g2 (TK.1 h)
     simp(disch:=try exact ae)[g3];refine cd (S5 hq aa) ?_ (by rfl);have s1:nH (S t.num)=some (I t.num.length):=rfl;have s2:nH (S t.den)=some (I t.den.length):=rfl;by_cases h1:30<t.num.length
     .have e2:wtE t=4:=by simp[wtE,hq,g2,h1]
      rw[ete,e2,if_neg af]at k1;have h1':(t.num.length:Int)>30:=aa;simp(disch:=try exact ae)[s1,s2,h1'];exact k1 _ af
     .have h1':¬(t.num.length:Int)>30:=aa;by_cases h2:30<t.den.length
      .have e2:wtE t=4:=by simp[wtE,hq,g2,h2]
       rw[ete,e2,if_neg af]at k1;have h2':(t.den.length:Int)>30:=aa;simp(disch:=try exact ae)[s1,s2,h1',h2'];exact k1 _ af
      .have h2':¬(t.den.length:Int)>30:=aa;have e2:wtE t=0:=by simp[wtE,hq,g2,h1,h2]
       rw[ete,e2,if_pos rfl]at k0 k1;have ih:=FO hp hl hs u v K q (a++[t]) (by rw[e];simp) k0 k1;have e4:(((a++[t]).length:Nat):Int)=(a.length:Int)+1:=ac;rw[e4]at ih;simp(disch:=try exact ae)[s1,s2,h1',h2'];exact⟨rfl,lo ih⟩
  .have ete:tgE p t=mzB p [t.iv]:=if_neg g1;rw[ete,if_neg g1]at k1;simp(disch:=try exact ae)[g1];exact k1 _ g1
theorem FN{p:LiQ}(hp:p.length<1000000){l:List Tg}(hl:l.length<1000000)(hs:∀t∈l,TgS t):CP Y F.lV [lst di p,tgs l] (I (dmB p l)):=by
 refine FV ?_;have a1:=mA (p:=p) aa;have l1:aX (tgs l)=some (I l.length):=rfl;unfold dmB;simp only[lV];simp(disch:=try exact ae);refine cd a1 ?_;by_cases h:pcB p=0
 .by_cases h2:l.length<=60
  .have h2':¬(l.length:Int)>60:=aa;simp(disch:=try exact ae)[h,l1,h2',h2];refine lo (FO hp hl hs _ _ _ l [] rfl (λe0=>?_) (λh' e0=>?_))
   .show out (I (if pcB p=0 then if l.length<=60 then GG p l else 4 else pcB p)) (V.d (D.int IntKind.i64 0)) _
    rw[if_pos h,if_pos h2,e0];exact ct rfl
   .show out (I (if pcB p=0 then if l.length<=60 then GG p l else 4 else pcB p)) (I (GG p l)) _
    rw[if_pos h,if_pos h2];exact ct rfl
  .have h2':(l.length:Int)>60:=aa;simp(disch:=try exact ae)[h,l1,h2',h2]
 .simp(disch:=try exact ae)[h]
theorem abp(a b c d:LuQ):biA [.str [],.str []] .eql (.agg [S a,S b]) (.agg [S c,S d])=some (B (decide (a=c)&&decide (b=d))):=by by_cases h1:a=c<;>by_cases h2:b=d<;>simp[biA,BN,eqC,h1,h2]
theorem abO(a q:List Tg)(t:Tg)(h:Hp):ixV h 3 (tgs (a++t::q)) (I a.length)=some (.dptr ((a++t::q).flatMap tgD) (a.length*3)):=jW tgD ze _ h (k:=.i64) (i:=(a.length:Int)) aa aN
theorem S4(a q:List Tg)(t:Tg)(h:Hp):ldA h 3 (.dptr ((a++t::q).flatMap tgD) (a.length*3))=some (.agg [lst di t.iv,S t.num,S t.den]):=by have:=kD tgD ze tg0 (a++t::q) h (j:=a.length) ac;rw[abP rfl]at this;exact this
theorem JF(z:Int){b:Nat}(hb:0<b):z.fdiv (-(b:Int))=(-z)/(b:Int)∧z.fmod (-(b:Int)) = -((-z)%(b:Int)):=by
 have e:z.fdiv (-(b:Int))=(-z)/(b:Int):=by
  rw[<-Int.fdiv_eq_ediv_of_nonneg (-z) (by omega:(0:Int)<=(b:Int)),<-Int.neg_fdiv_neg (-z) (b:Int),Wj]
 refine⟨e,?_⟩;rw[Int.fmod_def,e];have:=Int.mul_ediv_add_emod (-z) (b:Int)
 grind
theorem Mk(x y:Int)(hy:y≠0):(x.fdiv y).natAbs<=x.natAbs:=by
 by_cases h:0<y
 .rw[Int.fdiv_eq_ediv_of_nonneg _ aa];exact Int.natAbs_ediv_le_natAbs ..
 .obtain⟨b,hb⟩:∃b:Nat,b=y.natAbs:=⟨_,rfl⟩;have e:y = -(b:Int):=aa;rw[e,(JF x (b:=b) aa).1]
  grind[Int.natAbs_ediv_le_natAbs]
theorem WL{z:Int}{b:Nat}(hb:0<b)(hz:ndg z.natAbs<900000)(hbd:ndg b<900000):
   cal (CX Y).p [] (.fn F.aU [] []) [S (itoa z)] λv7 h=>
   ext v7 0 λv8=>
   ext v7 1 λv9=>
   cal (CX Y).p h (.fn F.aU [] []) [S (itoa (-(b:Int)))] λv10 h=>
   ext v10 0 λv11=>
   ext v10 1 λv12=>
   cal (CX Y).p h (.fn F.dZ [] []) [v9,v12] λv13 h=>
   ext v13 0 λv14=>
   ext v13 1 λv15=>
   ext v13 2 λv16=>
   bnd (biI .neq v16 (.d (.int .i64 0))) λv17=>
   cnd v17 (
    out (.tup [S (itoa ((-z)/b)),S (itoa (-((-z)%b))),I 0]) (.tup [(.d (.str [])),(.d (.str [])),v16]) h) (
    bnd (biB .neq v8 v11) λv18=>
    gd v18 true h (λq=>q v15 h) λv19 h=>
    gd v18 true h (λq=>bnd (biS .neq v19 (.d (.str [48]))) λv=>q v h) λv20 h=>
    bnd (o9 v18 v20 (.d (.bool false))) λv21=>
    jn (λl22 h=>
     bnd (biB .neq v8 v11) λv24=>
     cal (CX Y).p h (.fn F.cO [] []) [v24,(ge l22 0)] λv25 h=>
     cal (CX Y).p h (.fn F.cO [] []) [v11,(ge l22 1)] λv26 h=>
     out (.tup [S (itoa ((-z)/b)),S (itoa (-((-z)%b))),I 0]) (.tup [v25,v26,(.d (.int .i64 0))]) h) λq23=>
     cnd v21 (
      cal (CX Y).p h (.fn F.gj [] []) [v14,(.d (.str [49]))] λv27 h=>
      cal (CX Y).p h (.fn F.gV [] []) [v12,v15] λv28 h=>
      ext v28 0 λv29=>
      ext v28 1 λv30=>
      q23 [v27,v29] h) (
      q23 [v14,v15] h)):=by
 have hq:ndg (z.natAbs/b)<=ndg z.natAbs:=eW (Yy ..);have hr:z.natAbs%b<b:=Y3 _ hb;have hr2:ndg (z.natAbs%b)<=ndg b:=eW aa;have eb:∀x y:Bool,biB .neq (B x) (B y)=some (B (x !=y)):=λ_ _=>rfl
 have sb:=o6 (-(b:Int));rw[decide_eq_true (by omega : -(b:Int)<0),show(-(b:Int)).natAbs=b by omega]at sb;simp;refine cd (o6 z) ?_;simp;refine cd sb ?_;simp;refine cd (xv (a:=z.natAbs) hb aa aa) ?_;by_cases hneg:z<0
 .have ez : -z=(z.natAbs:Int):=aa;rw[decide_eq_true hneg];simp[eb];refine gI (l:=[S (ah (z.natAbs/b)),S (ah (z.natAbs%b))]) (h:=[]) (λq=>by rfl) ?_;simp[eb];refine cd (gS false (n:=z.natAbs/b) aa) ?_;simp;refine cd (gS true (n:=z.natAbs%b) aa) ?_;refine oN ?_ ?_
  .rw[ez,<-Int.natCast_ediv];rfl
  .rw[ez,<-Int.natCast_emod];rfl
 .have ez : -z = -(z.natAbs:Int):=aa;obtain⟨d1,d2⟩:=vd (a:=z.natAbs) hb;rw[<-ez]at d1 d2;rw[decide_eq_false hneg];by_cases h0:z.natAbs%b=0
  .rw[if_pos h0]at d1 d2;rw[h0,eO];simp[eb];refine gI (l:=[S (ah (z.natAbs/b)),S [48]]) (h:=[]) (λq=>by rfl) ?_;simp[eb];refine cd (gS true (n:=z.natAbs/b) aa) ?_;simp;have j0:=gS true (n:=0) (by grind);rw[eO]at j0;refine cd j0 ?_;refine oN ?_ ?_
   .rw[d1];rfl
   .rw[d2];rfl
  .rw[if_neg h0]at d1 d2;have h48:¬ah (z.natAbs%b)=[48]:=λh=>h0 (kf.1 h)
   have ad:=yP (a:=z.natAbs/b) (b:=1) aa (by simp[Dp]);rw[show ah 1=[49] by decide+kernel]at ad;simp[eb,h48];refine bM ?_;simp[h48];refine cd ad ?_;simp;refine cd (xw (a:=b) (b:=z.natAbs%b) aa aa) ?_;simp[eb];have hq1:ndg (z.natAbs/b+1)<=900000+1:=Dq aa (by simp[Dp])
   refine cd (gS true (n:=z.natAbs/b+1) aa) ?_;simp;refine cd (gS true (n:=b-z.natAbs%b) (Y8 (eW (Nat.sub_le ..)) aa)) ?_;refine oN ?_ ?_
   .rw[d1];rfl
   .rw[d2];rfl
theorem M5{z:Int}{b:Nat}(hb:0<b)(hz:ndg z.natAbs<900000)(hbd:ndg b<900000):CP Y F.bO [S (itoa z),S (itoa (-(b:Int)))] (.tup [S (itoa ((-z)/b)),S (itoa (-((-z)%b))),I 0]):=by
 refine vY ?_;have l1:=oV z 18 af;have l2:=oV (-(b:Int)) 18 af;have tl:=WL hb hz hbd
 have h48:¬itoa (-(b:Int))=[48]:=λh=>by
  have:=wN (h.trans (show[48]=itoa 0 by decide+kernel));omega
 simp[bO,h48];refine cd l1 ?_;by_cases h1:sdg z<=18
 .rw[if_pos h1];by_cases h2:sdg (-(b:Int))<=18
  .rw[if_pos h2]at l2;simp;refine bM ?_;simp;refine cd l2 ?_;have b1:=sL h1;have b2:=sL h2;simp only[Nat.reducePow]at b1 b2;have hbz:¬(-(b:Int))=0:=aa;have eb:∀x y:Bool,biB .neq (B x) (B y)=some (B (x !=y)):=λ_ _=>rfl
   obtain⟨n,hn⟩:=nmQ (z.natAbs);rw[<-hn]at b1;have hq:n/b<=n:=Yy ..;have hr:n%b<b:=Y3 _ hb;have ym:(-(b:Int))<0:=aa;by_cases hneg:z<0
   .have ez:z = -(n:Int):=aa;have q1:z.tdiv (-(b:Int))=((n/b:Nat):Int):=by rw[ez,Int.neg_tdiv,Int.tdiv_neg,Wj,Zt aa,<-Int.natCast_ediv]
    have q2:z.tmod (-(b:Int)) = -((n%b:Nat):Int):=by rw[ez,Int.neg_tmod,Int.tmod_neg,Zx aa,<-Int.natCast_emod]
    have d1:(-z)/(b:Int)=((n/b:Nat):Int):=by rw[ez,Wj,<-Int.natCast_ediv]
    have d2:(-z)%(b:Int)=((n%b:Nat):Int):=by rw[ez,Wj,<-Int.natCast_emod]
    obtain⟨q,hqq⟩:=nmQ (n/b);obtain⟨r,hrr⟩:=nmQ (n%b);rw[<-hqq]at q1 d1 hq;rw[<-hrr]at q2 d2 hr
    have fin:∀h:Hp,cal (CX Y).p h (V.fn F.eD [] []) [I q] λv45 h=>
      cal (CX Y).p h (V.fn F.eD [] []) [I (-(r:Int))] λv46 h=>out (V.tup [S (itoa ((-z)/(b:Int))),S (itoa (-((-z)%(b:Int)))),I 0]) (V.tup [v45,v46,V.d (D.int IntKind.i64 0)]) h:=by
     intro h;simp;refine cd (kN (z:=(q:Int)) aa aa) ?_;simp;refine cd (kN (z:=-(r:Int)) aa aa) ?_;refine oN ?_ ?_
     .rw[d1]
     .rw[d2]
    by_cases h0:r=0
    .subst h0;simp only[Int.natCast_zero,Int.neg_zero]at q2 fin;simp(disch:=try exact ae)[q1,q2,hbz];refine gI (l:=[I q,I 0]) (h:=[]) (λq=>by rfl) ?_;exact fin []
    .have r0:¬(-(r:Int))=0:=aa;have r1:(-(r:Int))<0:=aa;simp(disch:=try exact ae)[q1,q2,r0,r1,ym,eb,hbz];refine gI (l:=[I q,I (-(r:Int))]) (h:=[]) (λq=>by simp(disch:=try exact ae)[r0,r1,ym,eb]) ?_;exact fin []
   .have ez:z=(n:Int):=aa;obtain⟨d1,d2⟩:=vd (a:=n) hb;rw[<-ez]at d1 d2;have q1:z.tdiv (-(b:Int)) = -((n/b:Nat):Int):=by rw[ez,Int.tdiv_neg,Zt aa,<-Int.natCast_ediv]
    have q2:z.tmod (-(b:Int))=((n%b:Nat):Int):=by rw[ez,Int.tmod_neg,Zx aa,<-Int.natCast_emod]
    obtain⟨q,hqq⟩:=nmQ (n/b);obtain⟨r,hrr⟩:=nmQ (n%b);rw[<-hqq]at q1 d1 hq;rw[<-hrr]at q2 d1 d2 hr;by_cases h0:r=0
    .rw[if_pos h0]at d1 d2;subst h0;simp only[Int.natCast_zero]at q2;simp(disch:=try exact ae)[q1,q2,hbz];refine gI (l:=[I (-(q:Int)),I 0]) (h:=[]) (λq=>by rfl) ?_;simp;refine cd (kN (z:=-(q:Int)) aa aa) ?_;simp;refine cd (kN (z:=0) aa aa) ?_;refine oN ?_ ?_
     .rw[d1]
     grind
    .rw[if_neg h0]at d1 d2;have r0:¬((r:Int))=0:=aa;have r1:¬(r:Int)<0:=aa;simp(disch:=try exact ae)[q1,q2,r0,r1,ym,eb,hbz];refine gI (l:=[I (-(q:Int)-1),I ((r:Int) + -(b:Int))]) (h:=[]) (λq=>by simp(disch:=try exact ae)[r0,r1,ym]) ?_;simp;refine cd (kN (z:=-(q:Int)-1) aa aa) ?_;simp
     refine cd (kN (z:=(r:Int) + -(b:Int)) aa aa) ?_
     grind[oN]
  .rw[if_neg h2]at l2;simp;refine bM ?_;simp;refine cd l2 ?_;trivial
 simp_all[if_neg,bM]
theorem Kp{z w:Int}(hw0:w≠0)(hz:ndg z.natAbs<900000)(hw:ndg w.natAbs<900000):CP Y F.bO [S (itoa z),S (itoa w)] (.tup [S (itoa (z.fdiv w)),S (itoa (z.fmod w)),I 0]):=by
 by_cases h:0<w
 .rw[Int.fdiv_eq_ediv_of_nonneg _ aa,Int.fmod_eq_emod_of_nonneg _ aa]
  grind[SI]
 .obtain⟨b,hb⟩:∃b:Nat,b=w.natAbs:=⟨_,rfl⟩;have e:w = -(b:Int):=aa;rw[<-hb]at hw;rw[e,(JF z (b:=b) aa).1,(JF z (b:=b) aa).2];exact M5 aa hz hw
theorem YV{z w:Int}(hz:ndg z.natAbs<999999)(hw:ndg w.natAbs<999999):CP Y F.rG [S (itoa z),S (itoa w)] (S (itoa (z-w))):=by refine Kf ?_;simp[rG];refine cd (zH aa) ?_;simp;refine cd (y9 hz (by grind)) ?_;exact fY (by rw[Int.sub_eq_add_neg])
def sI(z:Int):D:=.str (itoa z)
theorem TM(P M Q:List α){x:α}(hj:j<M.length):(P++M++Q).take (P.length+j)++[x]++(P++M++Q).drop (P.length+j+1)=P++M.set j x++Q:=by
 obtain⟨a,y,c,rfl,rfl⟩:∃a y c,M=a++y::c∧j=a.length:=⟨M.take j,M[j],M.drop (j+1),ac,by grind⟩
 rw [show P++(a++y::c)++Q=((P++a)++[y])++(c++Q) by simp,show P.length+a.length+1=((P++a)++[y]).length by grind,List.drop_left,
  show((P++a)++[y])++(c++Q)=(P++a)++(y::(c++Q)) by simp,show P.length+a.length=(P++a).length by simp,W4]
 simp
structure RwL where
 s:Nat
 e:Nat
 pre:LdQ
 post:LdQ
 ex:Bool
 cap:Nat
 r:LiQ
def RwL.z:RwL:=⟨0,0,[],[],false,0,[]⟩
def RwL.w(R:RwL)(r:LiQ):RwL:={R with r:=r}
def RwL.tot(R:RwL):Nat:=R.pre.length+R.r.length+R.post.length
def RwL.v(R:RwL):V:=.ref R.s R.e R.pre.length R.r.length R.cap R.tot
def RwL.p(R:RwL)(j:Nat):V:=.ptr R.s R.e (R.pre.length+j) R.tot
def RwL.k(R:RwL):Nat×Bk:=(R.e,.data 1 (R.pre++R.r.map sI++R.post) R.ex false)
variable{h:Hp}{R:RwL}
theorem RwL.get(hR:h[R.s]?=some R.k):ax h R.s R.e=.data 1 (R.pre++R.r.map sI++R.post) R.ex false:=by grind[ax,k]
theorem RwL.tl(R:RwL):R.tot=(R.pre++R.r.map sI++R.post).length:=by grind[tot]
theorem TT(R:RwL):aX R.v=some (I R.r.length):=rfl
theorem KV(hR:h[R.s]?=some R.k)(hj:j<R.r.length):ixV h 1 R.v (I j)=some (R.p j):=by simp only[RwL.v,ixV,RwL.get hR];rw[if_pos ⟨R.tl,aa,aa⟩];simp[RwL.p]
theorem OZ(hR:h[R.s]?=some R.k)(hj:j<R.r.length):ld1 h (R.p j)=some (S (itoa (nth 0 R.r j))):=by
 simp only[RwL.p,ld1,RwL.get hR];rw[if_pos R.tl]
 have:(R.pre++R.r.map sI++R.post)[R.pre.length+j]?=some (sI (nth 0 R.r j)):=by
  rw[List.append_assoc,List.getElem?_append_right aa,List.getElem?_append_left (by grind)];simp[ft _ _ _ hj,List.getElem?_eq_getElem hj]
 rw[this];rfl
theorem TS(hR:h[R.s]?=some R.k)(hj:j<R.r.length)(z:Int):st h 1 (R.p j) (S (itoa z))=some (h.set R.s (R.w (R.r.set j z)).k):=by simp only[RwL.p,st,if_true,sto,RwL.get hR,jG,toD,norm];rw[if_pos ⟨trivial,R.tl,by grind⟩];simp only[bK,RwL.k,RwL.w];congr 4;have:=TM R.pre (R.r.map sI) R.post (x:=sI z) (j:=j) (by grind);rw[show R.pre.length+j + [D.str (itoa z)].length=R.pre.length+j+1 by simp];rw[Xg];exact this
theorem RwL.set_get{R':RwL}(hR:h[R.s]?=some R.k)(hs:R'.s=R.s):(h.set R.s R'.k)[R'.s]?=some R'.k:=by rw[hs,List.getElem?_set_self (List.getElem?_eq_some_iff.1 hR).1]
theorem RwL.set_ne{T:RwL}{x:Nat×Bk}(hT:h[T.s]?=some T.k){s:Nat}(hs:s≠T.s):(h.set s x)[T.s]?=some T.k:=by grind
theorem xA{h:Hp}{b s:Nat}{x:Nat×Bk}(hu:(h.all λx=>aF b x.2)=true)(hx:aF b x.2=true):((h.set s x).all λx=>aF b x.2)=true:=by grind
theorem RwL.u(R:RwL)(b:Nat):aF b R.k.2=true:=rfl
def bdE(B:Nat)(l:LiQ):Prop:=∀x∈l,x.natAbs<10^B
theorem AE{B:Nat}{l:LiQ}(h:bdE B l)(j:Nat):(nth 0 l j).natAbs<10^B:=by
 by_cases hj:j<l.length
 .rw[ft _ _ _ hj];exact h _ (Xs hj)
 .have:nth 0 l j=0:=by simp[nth,List.getElem?_eq_none (by omega:l.length<=j)]
  grind
theorem wY{B:Nat}(hB:B<=100000){x:Int}(h:x.natAbs<10^B):ndg x.natAbs<=100001:=
 Zy (fM (d:=B+1) (Z0 h (Zz af (Nat.le_succ B))) aa) aa
theorem EA(k:Int)(a b:LiQ)(h:a.length=b.length):(rZ k a b).length=a.length:=by simp[rZ,h]
section
variable{R T:RwL}{h:Hp}{k:Int}{B:Nat}
theorem PH(hB:B<=100000)(hT:h[T.s]?=some T.k)(hR:h[R.s]?=some R.k)(hne:R.s≠T.s)(hk:ndg k.natAbs<=100002)(bT:bdE B T.r)(hl:R.r.length=T.r.length)(hL:R.r.length<1000000)(b:Nat)(h0:Hp)(hh:h0.length=h.length)(K:KL) :
  ∀(rq rp:LiQ)(tp tq:LiQ),tp++tq=T.r->rp.length=tp.length->rq.length=tq.length->bdE B rq->rp.length+rq.length=R.r.length ->
  K (.exit 0) [] (h.set R.s (R.w (rp++rZ k rq tq)).k) ->
  lp (jV (CX Y) b R.v (S (itoa k)) T.v (I T.r.length)) [] h0 [I rp.length] (h.set R.s (R.w (rp++rq)).k) K
 | [],rp,tp,tq,ht,h1,h2,bR,hn,hK=>by
  refine aj ?_;have hlt:¬((rp.length:Int)<(T.r.length:Int)):=by simp at hn;omega
  have:tq=[]:=Zo aa;subst this;simp only[jV];simp[hlt]
  simp_all[rZ]
 |x::rq,rp,tp,[],ht,h1,h2,bR,hn,hK=>by simp at h2
 | x::rq,rp,tp,y::tq,ht,h1,h2,bR,hn,hK=>by
  refine aj ?_;have hlt:((rp.length:Int)<(T.r.length:Int)):=by simp at hn;omega
  obtain⟨H,hH⟩:∃H,H=h.set R.s (R.w (rp++x::rq)).k:=⟨_,rfl⟩;have gR:H[R.s]?=some (R.w (rp++x::rq)).k:=by rw[hH];exact RwL.set_get hR rfl
  have gT:H[T.s]?=some T.k:=by rw[hH];exact RwL.set_ne hT hne
  have vR:R.v=(R.w (rp++x::rq)).v:=by simp[RwL.v,RwL.w,RwL.tot]at hn ⊢;omega
  have jl:rp.length<T.r.length:=by simp at hn;omega
  have jr:rp.length<(R.w (rp++x::rq)).r.length:=by simp[RwL.w]
  have nT:nth 0 T.r rp.length=y:=by rw[<-ht,h1];simp
  have nR:nth 0 (R.w (rp++x::rq)).r rp.length=x:=by simp[RwL.w]
  have i1:=KV gT jl;have i2:=OZ gT jl;have i3:=KV gR jr;have i4:=OZ gR jr;rw[nT]at i2;rw[nR]at i4;have i5:=TS gR jr (x-k*y);have bx:ndg x.natAbs<=100001:=wY hB (bR x ac);have by_:ndg y.natAbs<=100001:=wY hB (bT y (by grind));have bm:=nE (z:=k) (w:=y);rw[<-hH,vR];simp only[jV];simp[hlt,i1,i2,i3,i4]
  refine cd (tO (z:=k) (w:=y) aa aa) ?_;simp;refine cd (YV (z:=x) (w:=k*y) aa aa) ?_;simp(disch:=try exact ae)[i3,i5];rw[r8 0 h0 _ (by grind),<-vR];refine lo ?_
  have e1:H.set (R.w (rp++x::rq)).s ((R.w (rp++x::rq)).w ((R.w (rp++x::rq)).r.set rp.length (x-k*y))).k=h.set R.s (R.w ((rp++[x-k*y])++rq)).k:=by
   rw[hH];simp[RwL.w]
  rw[e1];have ih:=PH hB hT hR hne hk bT hl hL b h0 hh K rq (rp++[x-k*y]) (tp++[y]) tq (by grind) (by grind) (by grind) (λz hz=>bR z (by grind)) (by grind) (by simp_all[rZ])
  grind
theorem U2(hR:h[R.s]?=some R.k)(hB:B<=100000)(hL:R.r.length<1000000)(b:Nat)(h0:Hp)(hh:h0.length=h.length)(K:KL) :
  ∀(rq rp:LiQ),bdE B rq->rp.length+rq.length=R.r.length ->
  K (.exit 0) [] (h.set R.s (R.w (rp++rq.map (- ·))).k) ->
  lp (iP (CX Y) b R.v R.v (I R.r.length)) [] h0 [I rp.length] (h.set R.s (R.w (rp++rq)).k) K
 | [],rp,bR,hn,hK=>by
  refine aj ?_;have hlt:¬((rp.length:Int)<(R.r.length:Int)):=by simp at hn;omega
  simp only[iP];simp[hlt]
  grind
 | x::rq,rp,bR,hn,hK=>by
  refine aj ?_;have hlt:((rp.length:Int)<(R.r.length:Int)):=by simp at hn;omega
  obtain⟨H,hH⟩:∃H,H=h.set R.s (R.w (rp++x::rq)).k:=⟨_,rfl⟩;have gR:H[R.s]?=some (R.w (rp++x::rq)).k:=by rw[hH];exact RwL.set_get hR rfl
  have vR:R.v=(R.w (rp++x::rq)).v:=by simp[RwL.v,RwL.w,RwL.tot]at hn ⊢;omega
  have jr:rp.length<(R.w (rp++x::rq)).r.length:=by simp[RwL.w]
  have nR:nth 0 (R.w (rp++x::rq)).r rp.length=x:=by simp[RwL.w]
  have i3:=KV gR jr;have i4:=OZ gR jr;rw[nR]at i4;have i5:=TS gR jr (-x);have bx:ndg x.natAbs<=100001:=wY hB (bR x ac);rw[<-hH,vR];simp only[iP];simp[hlt,i3,i4];refine cd (zH (z:=x) aa) ?_;simp(disch:=try exact ae)[i3,i5];rw[r8 0 h0 _ (by grind),<-vR];refine lo ?_
  have e1:H.set (R.w (rp++x::rq)).s ((R.w (rp++x::rq)).w ((R.w (rp++x::rq)).r.set rp.length (-x))).k=h.set R.s (R.w ((rp++[-x])++rq)).k:=by
   rw[hH];simp[RwL.w]
  rw[e1];have ih:=U2 hR hB hL b h0 hh K rq (rp++[-x]) (λz hz=>bR z (by grind)) (by grind) (by grind)
  simp_all
theorem Q4(a b:LiQ)(h:a.length=b.length):rZ 0 a b=a:=by
 induction a generalizing b with
 |nil=>rfl
 | cons x a ih=>
  cases b with
  |nil=>simp at h
  | cons y b=>
   simp_all[rZ]
theorem RwL.set_same(hR:h[R.s]?=some R.k):h.set R.s (R.w R.r).k=h:=by
 apply Yk;intro i;by_cases hi:R.s=i
 .subst hi;rw[List.getElem?_set_self (List.getElem?_eq_some_iff.1 hR).1,hR];rfl
 .rw[List.getElem?_set_ne hi]
theorem LO(hB:B<=100000)(hT:h[T.s]?=some T.k)(hR:h[R.s]?=some R.k)(hne:R.s≠T.s)(hk:ndg k.natAbs<=100002)(bT:bdE B T.r)(bR:bdE B R.r)(hl:R.r.length=T.r.length)(hL:R.r.length<1000000)
  (hu:(h.all λx=>aF h.length x.2)=true):CI Y F.eQ [R.v,S (itoa k),T.v] h (.tup []) (h.set R.s (R.w (rZ k R.r T.r)).k):=by
 refine xQ ?_
 have fin:m7 h.length (.tup []) (h.set R.s (R.w (rZ k R.r T.r)).k) (.tup []) (h.set R.s (R.w (rZ k R.r T.r)).k):=
  ⟨by rw[Z3 ac],xA hu (RwL.u _ _),.inl ⟨rfl,rfl⟩⟩
 simp only[eQ,List.replicate_zero,Zm];by_cases h0:k=0
 .subst h0;have:itoa 0=[48]:=aR;rw[Q4 _ _ hl,RwL.set_same hR]at fin ⊢;simp[this];omega
 .have h48:¬itoa k=[48]:=λe=>h0 (wN (e.trans (show[48]=itoa 0 by decide+kernel)))
  have:=PH hB hT hR hne hk bT hl hL h.length h rfl (exK [((.exit 0),λl3 h'=>m7 h.length (.tup []) (h.set R.s (R.w (rZ k R.r T.r)).k) (.tup []) h')]) R.r [] [] T.r rfl rfl hl bR ac (by trivial);rw[List.nil_append,RwL.set_same hR]at this;simp[h48,TT T];trivial
theorem NP(hB:B<=100000)(hR:h[R.s]?=some R.k)(bR:bdE B R.r)(hL:R.r.length<1000000)(hu:(h.all λx=>aF h.length x.2)=true):
  CI Y F.eJ [R.v] h (.tup []) (h.set R.s (R.w (R.r.map (- ·))).k):=by
 refine vF ?_
 have fin:m7 h.length (.tup []) (h.set R.s (R.w (R.r.map (- ·))).k) (.tup []) (h.set R.s (R.w (R.r.map (- ·))).k):=
  ⟨by rw[Z3 ac],xA hu (RwL.u _ _),.inl ⟨rfl,rfl⟩⟩
 simp only[eJ,List.replicate_zero,Zm];have:=U2 hR hB hL h.length h rfl (exK [((.exit 0),λl3 h'=>m7 h.length (.tup []) (h.set R.s (R.w (R.r.map (- ·))).k) (.tup []) h')]) R.r [] bR ac (by trivial);rw[List.nil_append,RwL.set_same hR]at this;simp[TT R];trivial
end
theorem wE{s:Nat}(h:∀t∈clr,t≠s):gQ clr s=true:=by
 induction clr with
 |nil=>rfl
 | cons t l ih=>
  rw[EV,beq_lit,decide_eq_false (h t ac),ih λu hu=>h u (by grind)];rfl
theorem M6{b:Nat}(hc:∀t∈clr,b<=t):∀x:V,under b x=true->pz clr x=true:=by
 intro x
 induction x using V.rec (motive_2:=λl=>jF b l=true->ij clr l=true)with
 |agg l ih=>trivial
 |tup l ih=>trivial
 | fn g a c iha ihc=>
  grind[under,pz]
 |ifc t x ih=>trivial
 |nil=>rfl
 | cons x l ih ihl h=>
  grind[jF,ij]
 | ref s e off len cap tot=>
  intro h;have:s<b:=by simpa[under,W7]using h
  exact wE λt ht=>by grind
 | ptr s e off tot=>
  intro h;have:s<b:=by simpa[under,W7]using h
  exact wE λt ht=>by grind
 |_=>intro _;rfl
theorem Ca{clr:LnQ}{b:Nat}(hc:∀t∈clr,b<=t):∀l:LwQ,jF b l=true->ij clr l=true
 |[],_=>rfl
 | x::l,h=>by
  simp only[jF,Z7]at h;simp only[ij,M6 hc x h.1,Ca hc l h.2,Yf]
theorem M7{b:Nat}(hc:∀t∈clr,b<=t)(x:Bk)(h:aF b x=true):offB clr x=true:=by
 cases x with
 |vars l=>exact Ca hc l h
 |_=>rfl
theorem Lr{clr:LnQ}{b:Nat}(hc:∀t∈clr,b<=t):∀(h t:Hp)(i:Nat),(h.all λx=>aF b x.2)=true->p6 clr (i+h.length) t=true->p6 clr i (h++t)=true
 |[],t,i,_,ht=>ht
 | x::h,t,i,hu,ht=>by
  simp only[List.all_cons,Z7]at hu;rw[List.cons_append,xi,M7 hc _ hu.1,Bool.or_true,Yp];refine Lr hc h t (i+1) hu.2 ?_;rw[List.length_cons]at ht;rw[show i+1+h.length=i+(h.length+1) by omega];exact ht
theorem tZ{clr:LnQ}{b:Nat}(hc:∀t∈clr,b<=t):∀(i:Nat)(h0 h:Hp),h.length=h0.length->(∀s,b<=i+s->s<h.length->h[s]?=some nnQ∧h0[s]?=some nnQ)->aP clr i h0 h=h
 |_,[],[],_,_=>rfl
 |_,[],_::_,hl,_=>by rfl
 |_,_::_,[],hl,_=>by rfl
 | i,x0::h0,x::h,hl,hs=>by
  rw [pY,tZ hc (i+1) h0 h (by grind) (λs hb hlt=>by
   have:=hs (s+1) aa (by grind);trivial)]
  split
  .rfl
  .rename_i hn
   have hb:b<=i:=by
    refine Classical.byContradiction λhlt=>hn (wE λt ht=>?_)
    have:=hc t ht;omega
   have:=hs 0 aa ac
   grind
theorem uK{b:Nat}(hc:∀t∈clr,b<=t){h:Hp}(hu:(h.all λx=>aF b x.2)=true)(i:Nat):p6 clr i h=true:=by
 have:=Lr hc h [] i hu (by rfl)
 grind
structure Tr(b:Nat)(gh:Hp)(h:Hp)(so eo L:Nat)(m:List RwL):Prop where
 o:h[so]?=some (eo,.vars (m.map RwL.v))
 r:∀i,i<m.length->h[(nth RwL.z m i).s]?=some (nth RwL.z m i).k
 nd:∀i j,i<m.length->j<m.length->i≠j->(nth RwL.z m i).s≠(nth RwL.z m j).s
 no:∀i,i<m.length->(nth RwL.z m i).s≠so
 ln:∀i,i<m.length->(nth RwL.z m i).r.length=L
 fr:∀s,s≠so->(∀i,i<m.length->(nth RwL.z m i).s≠s)->h[s]?=gh[s]?
 so:so<b
 sb:∀i,i<m.length->(nth RwL.z m i).s<b
 u:(h.all λx=>aF b x.2)=true
 bl:b<=h.length
 ow:∀s,b<=s->s<h.length->h[s]?=some nnQ
def ouV(so eo n:Nat):V:=.ref so eo 0 n n n
def ouP(so eo n i:Nat):V:=.ptr so eo i n
abbrev fB:=yL RwL.z RwL.r
abbrev nR(m:List RwL)(i:Nat):RwL:=nth RwL.z m i
theorem jS(d:α)(l:List α)(i j:Nat)(x:α)(h:i<l.length):nth d (l.set i x) j=if j=i then x else nth d l j:=by grind[nth]
theorem Ps(f:α->β)(d:α)(l:List α)(i:Nat)(h:i<l.length):(l.map f)[i]?=some (f (nth d l i)):=by simp[nth,h]
theorem ZN(d:α)(l:List α)(i:Nat)(h:i<l.length):l.set i (nth d l i)=l:=by simp[nth,h]
variable{b so eo L:Nat}{m:List RwL}{gh h:Hp}
theorem tP{b c:Nat}(hbc:b<=c){h:Hp}(hu:(h.all λx=>aF b x.2)=true):(h.all λx=>aF c x.2)=true:=by grind[w9]
theorem Tr.hu(T:Tr b gh h so eo L m):(h.all λx=>aF h.length x.2)=true:=tP T.bl T.u
theorem Tr.get(T:Tr b gh h so eo L m):ax h so eo=.vars (m.map RwL.v):=by simp[ax,T.o]
theorem Tr.ix(T:Tr b gh h so eo L m)(hi:i<m.length):ixV h 1 (ouV so eo m.length) (I i)=some (ouP so eo m.length i):=by simp only[ouV,ixV,T.get];rw[if_pos ⟨ac,aa,aa⟩];simp[ouP]
theorem Tr.ld(T:Tr b gh h so eo L m)(hi:i<m.length):ld1 h (ouP so eo m.length i)=some (nR m i).v:=by simp only[ouP,ld1,T.get];rw[if_pos ac,Ps _ RwL.z _ _ hi]
theorem Tr.ix2(T:Tr b gh h so eo L m){c:Nat}(hi:i<m.length)(hc:c<L):ixV h 1 (nR m i).v (I c)=some ((nR m i).p c):=KV (T.r i hi) (by grind[ln])
theorem Tr.ld2(T:Tr b gh h so eo L m){c:Nat}(hi:i<m.length)(hc:c<L):ld1 h ((nR m i).p c)=some (S (itoa (fB m i c))):=OZ (T.r i hi) (by grind[ln])
theorem RwL.w_v(R:RwL){r:LiQ}(hr:r.length=R.r.length):(R.w r).v=R.v:=by grind[v,w,tot]
theorem Tr.row(T:Tr b gh h so eo L m)(hi:i<m.length){r:LiQ}(hr:r.length=L):Tr b gh (h.set (nR m i).s ((nR m i).w r).k) so eo L (m.set i ((nR m i).w r)) where
 o:=by
  grind[no,o,Xg,RwL.w_v,ln,ZN]
 r:=λj hj=>by
  rw[Yx]at hj;rw[jS _ _ _ _ _ hi];by_cases e:j=i
  .rw[if_pos e];exact RwL.set_get (R:=nR m i) (T.r i hi) rfl
  grind[r,nd]
 nd:=λj k hj hk hjk=>by
  rw[Yx]at hj hk;rw[jS _ _ _ _ _ hi,jS _ _ _ _ _ hi];by_cases e:j=i
  .subst e;rw[if_pos rfl,if_neg (Ne.symm hjk)];exact T.nd _ k hi hk hjk
  .rw[if_neg e];by_cases e2:k=i
   .subst e2;rw[if_pos rfl];exact T.nd j _ hj hi hjk
   grind[nd]
 no:=λj hj=>by
  rw[Yx]at hj;rw[jS _ _ _ _ _ hi];split
  .exact T.no i hi
  grind[no]
 ln:=λj hj=>by
  rw[Yx]at hj;rw[jS _ _ _ _ _ hi];split
  .exact hr
  grind[ln]
 so:=T.so
 sb:=λj hj=>by
  rw[Yx]at hj;rw[jS _ _ _ _ _ hi];split
  .exact T.sb i hi
  .exact T.sb j hj
 u:=xA T.u rfl
 bl:=by rw[Yx];exact T.bl
 ow:=λs hs hl=>by
  rw[Yx]at hl;have:(nR m i).s<b:=T.sb i hi;rw[List.getElem?_set_ne aa];grind[ow]
 fr:=λs hs hne=>by
  have hall:∀j,j<m.length->(nth RwL.z m j).s≠s:=λj hj=>by
   have:=hne j (by grind);rw[jS _ _ _ _ _ hi]at this;by_cases e:j=i
   .subst e;rw[if_pos rfl]at this;exact this
   grind
  grind[fr]
theorem aeV{n:Nat}(ho:h[so]?=some (eo,.vars cs))(hn:cs.length=n)(hi:i<n)(R:RwL):st h 1 (ouP so eo n i) R.v=some (h.set so (eo,.vars (cs.set i R.v))):=by
 have hg:ax h so eo=.vars cs:=by simp[ax,ho]
 simp only[ouP,RwL.v,st,if_true,sto,hg];rw[if_pos ⟨hn.symm,by grind,rfl⟩]
 have e:cs.set i (V.ref R.s R.e R.pre.length R.r.length R.cap R.tot)=cs.take i++[V.ref R.s R.e R.pre.length R.r.length R.cap R.tot]++cs.drop (i+1):=by
  rw[Ym,if_pos aa];simp
 rw[e];rfl
theorem mq{k:Nat}(hi:i<m.length)(hj:j<m.length)(hk:k<m.length):∃k',k'<m.length∧nth RwL.z (lz RwL.z m i j) k=nth RwL.z m k'∧k'=(if k=j then i else if k=i then j else k):=by
 refine⟨_,?_,?_,rfl⟩
 .grind
 .unfold lz;rw[jS _ _ _ _ _ (by grind)];split
  .rfl
  grind[jS]
theorem Tr.swap(T:Tr b gh h so eo L m)(hi:i<m.length)(hj:j<m.length):Tr b gh (h.set so (eo, .vars ((lz RwL.z m i j).map RwL.v))) so eo L (lz RwL.z m i j) where
  o:=List.getElem?_set_self (List.getElem?_eq_some_iff.1 T.o).1
  r :=λk hk=>by
    rw[gy]at hk;obtain⟨k',h1,h2,_⟩:=mq hi hj hk
    grind[no,r]
  nd :=λk l hk hl hkl=>by
    rw[gy]at hk hl;obtain⟨k',h1,h2,h3⟩:=mq hi hj hk;obtain⟨l',h4,h5,h6⟩:=mq hi hj hl;rw[h2,h5];refine T.nd k' l' h1 h4 ?_;rw[h3,h6]
    repeat' split
    all_goals omega
  no :=λk hk=>by
    rw[gy]at hk;obtain⟨k',h1,h2,_⟩:=mq hi hj hk
    grind[no]
  ln :=λk hk=>by
    rw[gy]at hk;obtain⟨k',h1,h2,_⟩:=mq hi hj hk
    grind[ln]
  so:=T.so
  sb :=λk hk=>by
    rw[gy]at hk;obtain⟨k',h1,h2,_⟩:=mq hi hj hk;rw[h2];exact T.sb k' h1
  u :=by
    refine xA T.u ?_
    have hv:∀l:List RwL,(∀R∈l,R.s<b)->jF b (l.map RwL.v)=true:=by
      intro l hl
      induction l with
      |nil=>rfl
      | cons R l ih=>
        simp only[Zv,jF,ih (λx hx=>hl x (by grind)),Yf]
        grind[RwL.v,under,W7]
    refine hv _ λR hR=> ?_
    obtain⟨k,hk,rfl⟩:=Zj.1 hR;have hk':k<m.length:=by simpa[lz]using hk
    obtain⟨k',h1,h2,_⟩:=mq hi hj hk';rw[<-ft RwL.z _ _ hk,h2];exact T.sb k' h1
  bl:=by rw[Yx];exact T.bl
  ow :=λs hs hl=>by
    rw[Yx]at hl;have:=T.so;rw[List.getElem?_set_ne aa];grind[ow]
  fr :=λs hs hne=>by
    have hall:∀k,k<m.length->(nth RwL.z m k).s≠s:=λk hk=>by
      obtain⟨k',h1,h2,h3⟩:=mq (k:=if k=j then i else if k=i then j else k) hi hj (by split<;>(try split)<;>omega)
      have e : k' = k := by rw[h3];repeat' split
                            all_goals omega
      have:=hne _ (by rw[gy];show(if k=j then i else if k=i then j else k)<m.length;split<;>(try split)<;>omega)
      grind
    grind[fr]
theorem Ta(hi:i<m.length)(hj:j<m.length):(((m.map RwL.v).set i (nR m j).v).set j (nR m i).v)=(lz RwL.z m i j).map RwL.v:=by simp[lz,Xg]
theorem L4{a b:Nat}:Big.cmp a b<0↔a<b:=by unfold Big.cmp;split<;>(try split)<;>omega
theorem tQ(z:Int):itoa z=[48]↔z=0:=by have e:[48]=itoa 0:=aR;rw[e];exact⟨λh=>wN h,λh=>by rw[h]⟩
theorem YA{Bd:Nat}(bd:∀i,i<m.length->bdE Bd (nR m i).r)(hB:Bd<=100000)(hi:i<m.length)(c:Nat):ndg (fB m i c).natAbs<=100001:=wY hB (AE (bd i hi) c)
variable{Bd c:Nat}
theorem P8(T:Tr b gh h so eo L m)(hc:c<L)(hB:Bd<=100000)(bd:∀i,i<m.length->bdE Bd (nR m i).r)(hm:m.length<1000000)(h0:Hp)(hh:h0.length=h.length)(K:KL) :
  ∀(r i:Nat)(a:Int),i+r=m.length->a<i->-1<=a->K (.exit 4) [I (atG RwL.z RwL.r c m r i a)] h ->
  lp (gn (CX Y) b (ouV so eo m.length) (I c)) [] h0 [I a,I i] h K
 | 0,i,a,hr,h1,h2,hK=>by
  refine aj ?_;have hlt:¬((i:Int)<(m.length:Int)):=aa;have l1:aX (ouV so eo m.length)=some (I m.length):=rfl;simp only[gn];simp[l1,hlt];exact hK
 | r+1,i,a,hr,h1,h2,hK=>by
  refine aj ?_;have hlt:((i:Int)<(m.length:Int)):=aa;have l1:aX (ouV so eo m.length)=some (I m.length):=rfl;have hi:i<m.length:=aa;have i1:=T.ix hi;have i2:=T.ld hi;have i3:=T.ix2 hi hc;have i4:=T.ld2 hi hc;simp only[gn]
  have ih:=λa' (h1:a'<((i+1:Nat):Int)) (h2 : -1<=a') (hk:K (.exit 4) [I (atG RwL.z RwL.r c m r (i+1) a')] h)=>P8 T hc hB bd hm h0 hh K r (i+1) a' aa h1 h2 hk
  simp only[atG]at hK
  have fin:∀a':Int,a'<((i+1:Nat):Int)->-1<=a'->K (.exit 4) [I (atG RwL.z RwL.r c m r (i+1) a')] h ->
    rl (lp (gn (CX Y) b (ouV so eo m.length) (I c)) [] h0 [I a',.d (.int .i64 ((i:Int)+1))] h) K .mk:=λa' x1 x2 hk=>by
   simp_all
  by_cases e0:fB m i c=0
  .have t0:=(tQ (fB m i c)).2 e0;rw[if_neg (λh=>h.1 e0)]at hK;simp[l1,hlt];refine bM ?_;simp[i1,i2,i3,i4,t0];refine bM ?_;simp(disch:=try exact ae);exact fin a aa h2 hK
  .have t0:¬itoa (fB m i c)=[48]:=λh=>e0 ((tQ _).1 h)
   by_cases a0:a<0
   .rw[if_pos ⟨e0,.inl a0⟩]at hK;simp[l1,hlt];refine bM ?_;simp[i1,i2,i3,i4,t0,a0];refine bM ?_;simp(disch:=try exact ae);exact fin i aa aa hK
   .obtain⟨n,rfl⟩:∃n:Nat,a=n:=⟨a.toNat,aa⟩;have hn:n<m.length:=aa;have j1:=T.ix hn;have j2:=T.ld hn;have j3:=T.ix2 hn hc;have j4:=T.ld2 hn hc;simp[l1,hlt];refine bM ?_;simp[i1,i2,i3,i4,t0,a0];refine cd (xC _) ?_;simp[j1,j2,j3,j4];refine cd (xC _) ?_;simp;refine cd (SJ (by have:=YA bd hB hi c;omega) (by have:=YA bd hB hn c;omega)) ?_
    have et:((n:Int)).toNat=n:=aa;rw[et]at hK;by_cases hl:(fB m i c).natAbs<(fB m n c).natAbs
    .have hcm:Big.cmp (fB m i c).natAbs (fB m n c).natAbs<0:=L4.2 hl;rw[if_pos ⟨e0,.inr hl⟩]at hK;simp[hcm,t0];refine bM ?_;simp(disch:=try exact ae);exact fin i aa aa hK
    .have hcm:¬Big.cmp (fB m i c).natAbs (fB m n c).natAbs<0:=λg=>hl (L4.1 g)
     rw[if_neg (λg=>g.2.elim (λg=>by omega) hl)]at hK;simp[hcm,t0];refine bM ?_;simp(disch:=try exact ae);exact fin n aa aa hK
theorem P7(hc:c<L)(hB:Bd<=100000)(hL:L<1000000){o:Nat}(h0:Hp)(h00:∀s,b<=s->s<h0.length->h0[s]?=some nnQ)(K:KL) :
  ∀(r i:Nat)(rs:Bool)(m:List RwL)(h:Hp),Tr b gh h so eo L m->m.length<1000000->h0.length=h.length->o<i->i+r=m.length->bdE Bd (nR m o).r->(∀k,i<=k->k<m.length->bdE Bd (nR m k).r)->fB m o c≠0 ->
  (∀h',Tr b gh h' so eo L (kI RwL.z RwL.r RwL.w c o r i rs m).2->h'.length=h.length->K (.exit 6) [B (kI RwL.z RwL.r RwL.w c o r i rs m).1] h') ->
  lp (jy (CX Y) b (ouV so eo m.length) (I o) (I c)) [b+0] h0 [B rs,I i] h K
 | 0,i,rs,m,h,T,hm,hh,ho,hr,b1,b2,hz,hK=>by
  refine aj ?_;have hlt:¬((i:Int)<(m.length:Int)):=aa;have l1:aX (ouV so eo m.length)=some (I m.length):=rfl;simp only[jy];simp[l1,hlt];exact hK h T rfl
 | r+1,i,rs,m,h,T,hm,hh,ho,hr,b1,b2,hz,hK=>by
  refine aj ?_;have hlt:((i:Int)<(m.length:Int)):=aa;have l1:aX (ouV so eo m.length)=some (I m.length):=rfl;have hi:i<m.length:=aa;have hoo:o<m.length:=aa;have i1:=T.ix hi;have i2:=T.ld hi;have i3:=T.ix2 hi hc;have i4:=T.ld2 hi hc;have j1:=T.ix hoo;have j2:=T.ld hoo;have j3:=T.ix2 hoo hc;have j4:=T.ld2 hoo hc;have n1:=wY hB (AE (b2 i (Z8 _) hi) c)
  have n2:=wY hB (AE b1 c);simp only[jy];simp[l1,hlt,i1,i2,i3,i4,j1,j2,j3,j4];refine cd (Kp (z:=fB m i c) (w:=fB m o c) hz (by have:ndg (fB m i c).natAbs<=_:=n1;omega) (by have:ndg (fB m o c).natAbs<=_:=n2;omega)) ?_;simp[i1,i2,j1,j2];have nio:o≠i:=aa;have el:(nR m i).r.length=(nR m o).r.length:=by rw[T.ln i hi,T.ln o hoo]
  have T2:Tr b gh (h.set (nR m i).s ((nR m i).w (rZ ((fB m i c).fdiv (fB m o c)) (nR m i).r (nR m o).r)).k) so eo L (iT RwL.z RwL.r RwL.w c o m i):=T.row hi (by rw[EA _ _ _ el,T.ln i hi]);have q1:ndg ((fB m i c).fdiv (fB m o c)).natAbs<=100002:=Zy (eW (Mk _ _ hz)) (Zy n1 aa)
  refine fT (LO hB (T.r o hoo) (T.r i hi) (T.nd i o hi hoo (Ne.symm nio)) q1 b1 (b2 i (Z8 _) hi) el (by grind[Tr.ln]) T.hu) ?_ ac;have e1:((i+1:Nat):Int)=(i:Int)+1:=aa;have hlen:(h.set (nR m i).s ((nR m i).w (rZ ((fB m i c).fdiv (fB m o c)) (nR m i).r (nR m o).r)).k).length=h.length:=Yx
  generalize h.set (nR m i).s ((nR m i).w (rZ ((fB m i c).fdiv (fB m o c)) (nR m i).r (nR m o).r)).k=h1 at *;have no:nR (iT RwL.z RwL.r RwL.w c o m i) o=nR m o:=by unfold nR iT;rw[jS _ _ _ _ _ hi,if_neg nio]
  have tl:(iT RwL.z RwL.r RwL.w c o m i).length=m.length:=mp ..
  have eo':fB (iT RwL.z RwL.r RwL.w c o m i) o c=fB m o c:=by
   show nth 0 (nR (iT RwL.z RwL.r RwL.w c o m i) o).r c=_
   rw[no];rfl
  have cl:∀x:Bool,clean [b] [B x,I ((i:Int)+1)] h1=true:=λx=>by
   simp only[clean,Z7];exact⟨rfl,uK ac T2.u 0⟩
  have rs1:aP [b] 0 h0 h1=h1:=tZ (b:=b) ac 0 h0 h1 aa λs h1' h2'=>⟨T2.ow s aa h2',h00 s aa aa⟩
  have ih:=λrs' (hk:∀h',Tr b gh h' so eo L (kI RwL.z RwL.r RwL.w c o r (i+1) rs' (iT RwL.z RwL.r RwL.w c o m i)).2->h'.length=h.length->K (.exit 6) [B (kI RwL.z RwL.r RwL.w c o r (i+1) rs' (iT RwL.z RwL.r RwL.w c o m i)).1] h')=>
   P7 hc hB hL h0 h00 K r (i+1) rs' (iT RwL.z RwL.r RwL.w c o m i) h1 T2 aa aa aa aa (by grind)
    (λk k1 k2=>by
     rw[tl]at k2;have:nR (iT RwL.z RwL.r RwL.w c o m i) k=nR m k:=by unfold nR iT;rw[jS _ _ _ _ _ hi,if_neg aa]
     rw[this];exact b2 k aa k2) aa (λh' t1 t2=>hk h' t1 aa)
  rw[tl,e1]at ih;simp only[kI]at hK;cases rs with
  | true=>
   simp(disch:=try exact ae)[cl,rs1]
   simp_all
  | false=>
   by_cases hf:(fB m i c).fmod (fB m o c)=0
   .have t0:=(tQ ((fB m i c).fmod (fB m o c))).2 hf;simp(disch:=try exact ae)[cl,rs1,t0]
    simp_all
   .have t0:¬itoa ((fB m i c).fmod (fB m o c))=[48]:=λh=>hf ((tQ _).1 h)
    have t1:(itoa ((fB m i c).fmod (fB m o c)) == [48])=false:=by simpa using t0
    simp(disch:=try exact ae)[cl,rs1,t1]
    simp_all
theorem P3(hc:c<L)(hB:Bd<=100000)(hL:L<1000000){o:Nat}(h0:Hp)(h00:∀s,b<=s->s<h0.length->h0[s]?=some nnQ)(K:KL) :
  ∀(r i:Nat)(m:List RwL)(h:Hp),Tr b gh h so eo L m->m.length<1000000->h0.length=h.length->o<m.length->i+r=o->bdE Bd (nR m o).r->(∀k,i<=k->k<o->bdE Bd (nR m k).r)->fB m o c≠0 ->
  (∀h',Tr b gh h' so eo L (upG RwL.z RwL.r RwL.w c o r i m)->h'.length=h.length->K (.exit 8) [] h') ->
  lp (gm (CX Y) b (ouV so eo m.length) (I o) (I c) (I o)) [b+2] h0 [I i] h K
 | 0,i,m,h,T,hm,hh,ho,hr,b1,b2,hz,hK=>by
  refine aj ?_;have hlt:¬((i:Int)<(o:Int)):=aa;simp only[gm];simp[hlt];exact hK h T rfl
 | r+1,i,m,h,T,hm,hh,hoo,hr,b1,b2,hz,hK=>by
  refine aj ?_;have hlt:((i:Int)<(o:Int)):=aa;have hi:i<m.length:=aa;have i1:=T.ix hi;have i2:=T.ld hi;have i3:=T.ix2 hi hc;have i4:=T.ld2 hi hc;have j1:=T.ix hoo;have j2:=T.ld hoo;have j3:=T.ix2 hoo hc;have j4:=T.ld2 hoo hc;have n1:=wY hB (AE (b2 i (Z8 _) aa) c);have n2:=wY hB (AE b1 c);simp only[gm]
  simp[hlt,i1,i2,i3,i4,j1,j2,j3,j4];refine cd (Kp (z:=fB m i c) (w:=fB m o c) hz (by have:ndg (fB m i c).natAbs<=_:=n1;omega) (by have:ndg (fB m o c).natAbs<=_:=n2;omega)) ?_;simp[i1,i2,j1,j2];have nio:o≠i:=aa;have el:(nR m i).r.length=(nR m o).r.length:=by rw[T.ln i hi,T.ln o hoo]
  have T2:Tr b gh (h.set (nR m i).s ((nR m i).w (rZ ((fB m i c).fdiv (fB m o c)) (nR m i).r (nR m o).r)).k) so eo L (iT RwL.z RwL.r RwL.w c o m i):=T.row hi (by rw[EA _ _ _ el,T.ln i hi]);have q1:ndg ((fB m i c).fdiv (fB m o c)).natAbs<=100002:=Zy (eW (Mk _ _ hz)) (Zy n1 aa)
  refine fT (LO hB (T.r o hoo) (T.r i hi) (T.nd i o hi hoo (Ne.symm nio)) q1 b1 (b2 i (Z8 _) aa) el (by rw[T.ln i hi];exact hL) T.hu) ?_ (by intro _ _ _ _ _ h;cases h);have e1:((i+1:Nat):Int)=(i:Int)+1:=aa;have hlen:(h.set (nR m i).s ((nR m i).w (rZ ((fB m i c).fdiv (fB m o c)) (nR m i).r (nR m o).r)).k).length=h.length:=Yx
  generalize h.set (nR m i).s ((nR m i).w (rZ ((fB m i c).fdiv (fB m o c)) (nR m i).r (nR m o).r)).k=h1 at *;have no:nR (iT RwL.z RwL.r RwL.w c o m i) o=nR m o:=by unfold nR iT;rw[jS _ _ _ _ _ hi,if_neg nio]
  have tl:(iT RwL.z RwL.r RwL.w c o m i).length=m.length:=mp ..
  have eo':fB (iT RwL.z RwL.r RwL.w c o m i) o c=fB m o c:=by
   show nth 0 (nR (iT RwL.z RwL.r RwL.w c o m i) o).r c=_
   rw[no];rfl
  have cl:clean [b+2] [I ((i:Int)+1)] h1=true:=by
   simp only[clean,Z7];exact⟨rfl,uK (b:=b) ac T2.u 0⟩
  have rs1:aP [b+2] 0 h0 h1=h1:=tZ (b:=b) ac 0 h0 h1 aa λs h1' h2'=>⟨T2.ow s aa h2',h00 s aa aa⟩
  have ih:=P3 hc hB hL h0 h00 K r (i+1) (iT RwL.z RwL.r RwL.w c o m i) h1 T2 (by rw[tl];exact hm) aa (by rw[tl];exact hoo) aa (by rw[no];exact b1)
    (λk k1 k2=>by
     have:nR (iT RwL.z RwL.r RwL.w c o m i) k=nR m k:=by unfold nR iT;rw[jS _ _ _ _ _ hi,if_neg aa]
     rw[this];exact b2 k aa k2) (by rw[eo'];exact hz) (λh' t1 t2=>by simp only[upG]at hK;exact hK h' t1 aa)
  rw[tl,e1]at ih;simp(disch:=try exact ae)[cl,rs1];exact lo ih
theorem LH(z:Int):(sgn z<0)↔z<0:=by unfold sgn;split<;>(try split)<;>omega
theorem YH(c:Nat)(m:List RwL):∀(r i:Nat)(a:Int),(a<0∨fB m a.toNat c≠0)->(atG RwL.z RwL.r c m r i a<0∨fB m (atG RwL.z RwL.r c m r i a).toNat c≠0)
 |0,_,_,h=>h
 | r+1,i,a,h=>by
  simp only[atG];refine YH c m r (i+1) _ ?_
  grind
theorem Eh(c o:Nat):∀(r i:Nat)(x:Bool)(m:List RwL)(k:Nat),k<i->i+r<=m.length->nR (kI RwL.z RwL.r RwL.w c o r i x m).2 k=nR m k
 |0,_,_,_,_,_,_=>rfl
 | r+1,i,x,m,k,hk,hl=>by
  simp only[kI];rw[Eh c o r (i+1) _ _ k aa (by grind[mp])];unfold nR iT;rw[jS _ _ _ _ _ aa,if_neg aa]
theorem UY(l:LiQ)(c:Nat):nth 0 (l.map (- ·)) c = -(nth 0 l c):=by grind[nth]
theorem abv{l:LiQ}(h:bdE Bd l):bdE Bd (l.map (- ·)):=λx hx=>by
 obtain⟨y,hy,rfl⟩:=Zw.1 hx;rw[Xz];exact h y hy
theorem ahs{n:Nat}(ho:h[so]?=some (eo,.vars cs))(hn:cs.length=n)(hi:i<n):ixV h 1 (ouV so eo n) (I i)=some (ouP so eo n i):=by
 have hg:ax h so eo=.vars cs:=by simp[ax,ho]
 simp only[ouV,ixV,hg];rw[if_pos ⟨hn.symm,aa,aa⟩];simp[ouP]
theorem P9(hc:c<L)(hB:Bd<=100000)(hL:L<1000000)(h0:Hp)(h00:∀s,b<=s->s<h0.length->h0[s]?=some nnQ)(K:KL) :
  ∀(f o:Nat)(m:List RwL)(h:Hp)(o':Nat)(m':List RwL),Tr b gh h so eo L m->m.length<1000000->h0.length=h.length->o<m.length->nB RwL.z RwL.r RwL.w Bd c f o m=some (o',m') ->
  (∀h',Tr b gh h' so eo L m'->h'.length=h.length->K (.exit 2) [I o'] h') ->
  lp (mJ (CX Y) b (ouV so eo m.length) (I c)) [b+0,b+1,b+2] h0 [I o] h K
 |0,o,m,h,o',m',T,hm,hh,ho,hf,hK=>by trivial
 | f+1,o,m,h,o',m',T,hm,hh,ho,hf,hK=>by
  refine aj ?_;simp only[nB]at hf;split at hf
  case isFalse=>cases hf
  rename_i hbd
  have bd:∀i,i<m.length->bdE Bd (nR m i).r:=λi hi x hx=>by
   have h1:=Z1.1 hbd (nR m i) (by grind[ft]);have h2:=Z1.1 h1 x hx
   grind
  obtain⟨a,ha⟩:=nmQ (atG RwL.z RwL.r c m (m.length-o) o (-1));have ha2:=Ov (d:=RwL.z) (g:=RwL.r) c m (m.length-o) o (-1) aa aa;rw[<-ha]at hf ha2;simp only[mJ];simp;refine lo (P8 T hc hB bd hm h rfl _ (m.length-o) o (-1) aa aa aa ?_);rw[<-ha];by_cases a0:a<0
  .rw[if_pos a0]at hf;cases hf;simp[a0]
   grind
  .rw[if_neg a0]at hf;obtain⟨n,rfl⟩:∃n:Nat,a=n:=⟨a.toNat,aa⟩;rw[show((n:Int)).toNat=n by omega]at hf;have hn:n<m.length:=aa;have i1:=T.ix hn;have i2:=T.ld hn;have j1:=T.ix ho;have j2:=T.ld ho;have s1:=aeV (h:=h) T.o ac ho (nR m n);have hso:so<h.length:=(List.getElem?_eq_some_iff.1 T.o).1
   have g1:(h.set so (eo,.vars ((m.map RwL.v).set o (nR m n).v)))[so]?=some (eo,.vars ((m.map RwL.v).set o (nR m n).v)):=List.getElem?_set_self hso;have x1:=ahs g1 (n:=m.length) ac hn;have s2:=aeV g1 (n:=m.length) ac hn (nR m o);rw[List.set_set,Ta ho hn]at s2;have T1:=T.swap ho hn;simp(disch:=try exact ae)[a0,i1,i2,j1,j2,s1,x1,s2]
   obtain⟨H2,hH2⟩:=nmQ (h.set so (eo,.vars ((lz RwL.z m o n).map RwL.v)));have lH2:H2.length=h.length:=by rw[hH2];exact Yx
   rw[<-hH2]at T1 ⊢;have sl:(lz RwL.z m o n).length=m.length:=gy ..
   have bd1:∀k,k<m.length->bdE Bd (nR (lz RwL.z m o n) k).r:=λk hk=>by
    obtain⟨k',h1,h2,_⟩:=mq ho hn hk
    grind
   have z1:fB (lz RwL.z m o n) o c=fB m n c:=by
    obtain⟨k',h1,h2,h3⟩:=mq ho hn ho;have:k'=n:=by rw[h3];split<;>simp_all
    show nth 0 (nth RwL.z (lz RwL.z m o n) o).r c=_
    rw[h2,this];rfl
   have nz:fB m n c≠0:=by
    have:=YH c m (m.length-o) o (-1) (.inl aa);rw[<-ha]at this;rcases this with g|g
    .omega
    .trivial
   obtain⟨s,hs⟩:=nmQ (kI RwL.z RwL.r RwL.w c o (m.length-(o+1)) (o+1) false (lz RwL.z m o n));rw[<-hs]at hf;have ls:s.2.length=m.length:=by rw[hs,oR,sl]
   have ks:∀k,k<=o->nR s.2 k=nR (lz RwL.z m o n) k:=λk hk=>by rw[hs];exact Eh c o _ _ _ _ k aa aa
   have e1:((o+1:Nat):Int)=(o:Int)+1:=aa;have hl3:=λK=>P7 (o:=o) hc hB hL H2 T1.ow K (m.length-(o+1)) (o+1) false (lz RwL.z m o n) H2 T1 aa rfl aa aa (bd1 o ho) (λk _ k2=>bd1 k aa) aa
   rw[<-hs,sl,e1]at hl3;refine lo (hl3 _ λh' T2 t2=>?_)
   have cl:∀(x:Int)(h'':Hp)(m2:List RwL),Tr b gh h'' so eo L m2->clean [b,b+1,b+2] [I x] h''=true:=λx h'' m2 T=>by
    simp only[clean,Z7];exact⟨rfl,uK (b:=b) ac T.u 0⟩
   have rs1:aP [b,b+1,b+2] 0 h0 h'=h':=tZ (b:=b) ac 0 h0 h' aa λs h1' h2'=>⟨T2.ow s aa h2',h00 s aa aa⟩
   by_cases hr:s.1=true
   .rw[if_pos hr]at hf;have ih:=P9 hc hB hL h0 h00 K f o s.2 h' o' m' T2 aa aa aa hf (λh3 a1 a2=>hK h3 a1 aa);rw[ls]at ih;simp[hr,cl _ h' s.2 T2,rs1];trivial
   .have hr2:s.1=false:=by simpa using hr
    rw[if_neg hr]at hf;have hos:o<s.2.length:=aa;have i1':=T2.ix hos;have i2':=T2.ld hos;have i3':=T2.ix2 hos hc;have i4':=T2.ld2 hos hc;rw[ls]at i1' i2';have bds:∀k,k<=o->bdE Bd (nR s.2 k).r:=λk hk=>by rw[ks k hk];exact bd1 k aa
    have zs:fB s.2 o c≠0:=by
     show nth 0 (nR s.2 o).r c≠0
     rw[ks o (Z8 _)];have:nth 0 (nR (lz RwL.z m o n) o).r c=fB m n c:=z1;rw[this];exact nz
    have tail:∀(m3:List RwL)(h3:Hp),Tr b gh h3 so eo L m3->h3.length=h.length->m3.length=m.length->(∀k,k<=o->bdE Bd (nR m3 k).r)->fB m3 o c≠0->upG RwL.z RwL.r RwL.w c o o 0 m3=m'->(o:Int)+1=(o':Int) ->
      lp (gm (CX Y) b (ouV so eo m.length) (I o) (I c) (I o)) [b+2] h3 [.d (.int .i64 0)] h3 (exK [((.exit 8),λl21 h=>
       bnd (biI .add (I o) (.d (.int .i64 1))) λv22=>
       K (.exit 2) [v22] h)]):=by
     intro m3 h3 T3 l3 lm b3 z3 hu ho'
     have q:=P3 (o:=o) hc hB hL h3 T3.ow (exK [((.exit 8),λl21 h=>
       bnd (biI .add (I o) (.d (.int .i64 1))) λv22=>
       K (.exit 2) [v22] h)]) o 0 m3 h3 T3 aa rfl aa aa (b3 o (Z8 _)) (λk _ k2=>b3 k aa) z3 (λh4 T4 t4=>by
        rw[hu]at T4;simp(disch:=try exact ae);rw[ho'];exact hK h4 T4 aa)
     rw[lm]at q;exact q
    cases hf;simp[hr2,i1',i2',i3',i4'];refine cd (tU _) ?_;by_cases hneg:fB s.2 o c<0
    .have sg1:=(LH (fB s.2 o c)).2 hneg;simp[sg1];refine bM ?_;simp[i1',i2'];refine fT (NP hB (T2.r o hos) (bds o (Z8 _)) (by grind[Tr.ln]) T2.hu) ?_ ac;simp;have T3:=T2.row hos (r:=(nR s.2 o).r.map (- ·)) (by grind[Tr.ln]);have eN:Bm RwL.z RwL.r RwL.w c o s.2=s.2.set o ((nR s.2 o).w ((nR s.2 o).r.map (- ·))):=by unfold Bm;rw[if_pos hneg]
     refine lo (tail _ _ T3 (by grind) (by grind) (λk hk=>?_) ?_ (by rw[eN]) e1.symm)
     .unfold nR;rw[jS _ _ _ _ _ hos];split
      .exact abv (bds o (Z8 _))
      grind
     ·have:fB (s.2.set o ((nR s.2 o).w ((nR s.2 o).r.map (- ·)))) o c = -(fB s.2 o c):=by
       show nth 0 (nth RwL.z _ o).r c=_
       rw[jS _ _ _ _ _ hos,if_pos rfl];exact UY _ _
      omega
    .have sg1:¬sgn (fB s.2 o c)<0:=λg=>hneg ((LH _).1 g)
     simp[sg1];refine bM ?_;simp;have eN:Bm RwL.z RwL.r RwL.w c o s.2=s.2:=by unfold Bm;rw[if_neg hneg]
     exact lo (tail s.2 h' T2 aa ls bds zs (by rw[eN]) e1.symm)
variable{b so eo L:Nat}{gh:Hp}{Bd c:Nat}
theorem Ba(c:Nat):∀(f o:Nat)(m:List RwL)(o':Nat)(m':List RwL),o<m.length->nB RwL.z RwL.r RwL.w Bd c f o m=some (o',m')->o'<=m.length∧m'.length=m.length
 |0,o,m,o',m',ho,hf=>by trivial
 | f+1,o,m,o',m',ho,hf=>by
  simp only[nB]at hf;split at hf
  case isFalse=>cases hf
  split at hf
  .cases hf;exact⟨aa,rfl⟩
  .split at hf
   .have:=Ba c f o _ o' m' (by grind[oR,gy]) hf
    grind[oR,gy]
   .cases hf;exact⟨aa,by rw[OE,EX,oR,gy]⟩
theorem Qa{cols f:Nat}(hB:Bd<=100000)(hL:L<1000000)(hcl:cols<=L)(h0:Hp)(h00:∀s,b<=s->s<h0.length->h0[s]?=some nnQ)(K:KL) :
  ∀(r c o:Nat)(m:List RwL)(h:Hp)(o':Nat)(m':List RwL),Tr b gh h so eo L m->m.length<1000000->h0.length=h.length->o<=m.length->c+r=cols->pj RwL.z RwL.r RwL.w Bd f r c o m=some (o',m') ->
  (∀h',Tr b gh h' so eo L m'->h'.length=h.length->o'<=m'.length->m'.length=m.length->K (.exit 0) [I o'] h') ->
  lp (gr (CX Y) b (ouV so eo m.length) (I cols)) [b+0,b+1,b+2] h0 [I o,I c] h K
 | 0,c,o,m,h,o',m',T,hm,hh,ho,hc,hf,hK=>by
  refine aj ?_;simp only[pj]at hf;cases hf;have hlt:¬((c:Int)<(cols:Int)):=aa;simp only[gr];simp[hlt]
  grind
 | r+1,c,o,m,h,o',m',T,hm,hh,ho,hc,hf,hK=>by
  refine aj ?_;simp only[pj]at hf;have hlt:((c:Int)<(cols:Int)):=aa;have l1:aX (ouV so eo m.length)=some (I m.length):=rfl;simp only[gr];by_cases hom:o<m.length
  .rw[if_pos hom]at hf;have hom2:((o:Int)<(m.length:Int)):=aa;cases hr:nB RwL.z RwL.r RwL.w Bd c f o m with
   |none=>grind
   | some q=>
    obtain⟨o1,m1⟩:=q;rw[hr]at hf;simp only at hf;obtain⟨r1,r2⟩:=Ba c f o m o1 m1 hom hr;simp[hlt,l1,hom2];refine lo (P9 (c:=c) aa hB hL h T.ow _ f o m h o1 m1 T hm rfl hom hr λh' T1 t1=>?_)
    have cl:clean [b,b+1,b+2] [I (o1:Int),I ((c:Int)+1)] h'=true:=by
     simp only[clean,Z7];exact⟨rfl,uK (b:=b) ac T1.u 0⟩
    have rs1:aP [b,b+1,b+2] 0 h0 h'=h':=tZ (b:=b) ac 0 h0 h' aa λs h1' h2'=>⟨T1.ow s aa h2',h00 s aa aa⟩
    have ih:=Qa hB hL hcl h0 h00 K r (c+1) o1 m1 h' o' m' T1 aa aa aa aa hf (λh2 a1 a2 a3 a4=>hK h2 a1 aa a3 aa);have e1:((c+1:Nat):Int)=(c:Int)+1:=aa;rw[r2,e1]at ih;simp(disch:=try exact ae)[cl,rs1];trivial
  .rw[if_neg hom]at hf;cases hf;have hom2:¬((o:Int)<(m.length:Int)):=aa;simp[hlt,l1,hom2]
   grind
theorem Tr.eq{b so eo L:Nat}{gh h1 h2:Hp}{m:List RwL}(T1:Tr b gh h1 so eo L m)(T2:Tr b gh h2 so eo L m):h1=h2:=by
 apply Yk;intro i;by_cases e:i=so
 .subst e;rw[T1.o,T2.o]
 .by_cases e2:∃k,k<m.length∧(nth RwL.z m k).s=i
  .grind[r]
  .have hn:∀k,k<m.length->(nth RwL.z m k).s≠i:=λk hk he=>e2 ⟨k,hk,he⟩
   rw[T1.fr i e hn,T2.fr i e hn]
theorem Tr.app{b so eo L:Nat}{gh h:Hp}{m:List RwL}(T:Tr b gh h so eo L m)(hb:h.length=b)(hg:gh.length=b)(n:Nat):Tr b (gh++List.replicate n nnQ) (h++List.replicate n nnQ) so eo L m where
 o:=by rw[List.getElem?_append_left (by have:=T.so;omega)];exact T.o
 r:=λi hi=>by rw[List.getElem?_append_left (by have:=T.sb i hi;omega)];grind[r]
 nd:=T.nd
 no:=T.no
 ln:=T.ln
 fr:=λs hs hn=>by
  by_cases hlt:s<b
  .rw[List.getElem?_append_left aa,List.getElem?_append_left aa];grind[fr]
  .rw[List.getElem?_append_right aa,List.getElem?_append_right aa,hb,hg]
 so:=T.so
 sb:=T.sb
 u:=by
  grind[u,aF]
 bl:=by grind
 ow:=λs hs hl=>by
  rw[List.getElem?_append_right aa,List.getElem?_replicate,if_pos (by grind)]
theorem afa{h:Hp}{so eo n k:Nat}(hg:h[so]?=some (eo,.vars cs))(hc:cs.length=n)(hk:k<=n):slV h 1 (ouV so eo n) none (some (I k))=some (.ref so eo 0 k n n):=by
 have g:ax h so eo=.vars cs:=by simp[ax,hg]
 simp only[ouV,slV,g,boV];rw[if_pos ⟨aa,aa⟩]
 grind
theorem E9{h h':Hp}{so eo L cols f o':Nat}{m m':List RwL}{Bd:Nat}(hB:Bd<=100000)(hL:L<1000000)(hm:m.length<1000000)(hcl:cols<=L)(T:Tr h.length h h so eo L m)
  (hf:FK RwL.z RwL.r RwL.w Bd f cols m=some (o',m')) (T':Tr h.length h h' so eo L m') (hl:h'.length=h.length) :
  CI Y F.cj [ouV so eo m.length,I cols] h (.ref so eo 0 o' m.length m.length) h':=by
 refine qA ?_;simp only[cj];simp;have T0:=T.app rfl rfl 3;refine lo (Qa hB hL hcl (h++List.replicate 3 nnQ) T0.ow _ cols 0 0 m _ o' m' T0 hm rfl aa aa hf λH TH lH ho hlm=>?_);have e:=TH.eq (T'.app hl rfl 3);subst e;have sl:=afa (k:=o') TH.o (n:=m.length) (by grind) aa
 have sl':slV (h'++[(0,Bk.none),(0,Bk.none),(0,Bk.none)]) 1 (ouV so eo m.length) none (some (I o'))=some (.ref so eo 0 o' m.length m.length):=sl;simp[sl'];refine⟨by rw[Ye hl],T'.u,.inl ⟨rfl,?_⟩⟩
 grind[under,W7,Tr.so]
theorem acm{s s' e i cap tot by_:Nat}{old:LdQ}{ex:Bool}{x:D}{h:Hp}{q:kkQ}{u:PU q}(hg:h[s']?=some (e,.data 1 old ex false))(hi:i<cap)(hc:cap<=old.length)(ht:tot=old.length)
  (hq:q (.ref s' e 0 (i+1) cap tot) (h.set s' (e,.data 1 (old.set i x) ex false))):rh (apV false s 1 by_ (.ref s' e 0 i cap tot) (.d (.sl 1 [x])) h) q u:=by
 subst ht;have g:ax h s' e=.data 1 old ex false:=by simp[ax,hg]
 show apV false s 1 by_ _ _ h q
 simp only[apV,cellsOf];rw[if_pos ac];unfold apC;rw[if_neg af];simp only[g];rw[if_pos ⟨trivial,trivial,aa,aa,ac⟩,if_pos aa];simp only[Bool.or_self,Zh,if_false,bK];have e1:old.set i x=old.take i++x::old.drop (i+1):=by rw[Ym,if_pos aa]
 grind
structure Rd(h:Hp)(x:V)(r:LiQ):Prop where
 n:aX x=some (I r.length)
 g:∀(t:Hp)(j:Nat),j<r.length->∃p,ixV (h++t) 1 x (I j)=some p∧ld1 (h++t) p=some (I (nth 0 r j))
theorem Rd.data(h:Hp)(r:LiQ):Rd h (lst di r) r where
 n:=by rfl
 g:=λt j hj=>⟨_,nJ di r _ (i:=(j:Int)) aa aa,by
  simp_all⟩
def lgB(r:LiQ)(n i:Nat):Nat×Bk:=(1,.data 1 ((r.take i).map sI++List.replicate (n-i) (.str [])) true false)
theorem aaw{r:LiQ}(hi:i<r.length):((r.take i).map sI++List.replicate (r.length-i) (D.str [])).set i (sI (nth 0 r i))=(r.take (i+1)).map sI++List.replicate (r.length-(i+1)) (.str []):=by
 have e1:List.replicate (r.length-i) (D.str [])=.str []::List.replicate (r.length-(i+1)) (.str []):=by
  rw[<-List.replicate_succ];congr 1;omega
 have e2:r.take (i+1)=r.take i++[nth 0 r i]:=by rw[List.take_succ_eq_append_getElem hi,ft _ _ _ hi]
 have hl:((r.take i).map sI).length=i:=by simp;omega
 rw[e1,e2,Y4 _ _ aa,hl,Y7];simp
theorem HK{h:Hp}{x:V}{r:LiQ}(hr:Rd h x r)(hz:∀z∈r,-9223372036854775808<z∧z<9223372036854775808)(hn:r.length<1000000)(h0:Hp)(hh:h0.length=h.length+2)(K:KL) :
  ∀(k i:Nat),i+k=r.length->K (.exit 0) [.ref h.length 1 0 r.length r.length r.length] (h++[lgB r r.length r.length,nnQ]) ->
  lp (mU (CX Y) h.length x (I r.length)) [] h0 [.ref h.length 1 0 i r.length r.length,I i] (h++[lgB r r.length i,nnQ]) K
 | 0,i,hk,hK=>by
  refine aj ?_;have hlt:¬((i:Int)<(r.length:Int)):=aa;have:i=r.length:=aa;subst this;simp only[mU];simp[hlt];exact hK
 | k+1,i,hk,hK=>by
  refine aj ?_;have hlt:((i:Int)<(r.length:Int)):=aa;have hi:i<r.length:=aa;obtain⟨p,p1,p2⟩:=hr.g [lgB r r.length i,nnQ] i hi;obtain⟨z1,z2⟩:=hz (nth 0 r i) (Dk hi);simp only[mU];simp[hlt,p1,p2];refine cd (kN z1 z2) ?_
  have hli:du 1 [D.str []] [(0,S (itoa (nth 0 r i)))] (h++[lgB r r.length i,nnQ])=some ([sI (nth 0 r i)],h++[lgB r r.length i,nnQ]):=by
   simp[du,gK,jG,toD,norm,sI]
  simp[hli];refine acm (i:=i) (e:=1) (old:=(r.take i).map sI++List.replicate (r.length-i) (.str [])) (ex:=true) (by simp[lgB]) hi (by grind) (by grind) ?_;rw[aaw hi,Y4 _ _ (Z8 _),Y7];have e1:((i+1:Nat):Int)=(i:Int)+1:=aa;have ih:=HK hr hz hn h0 hh K k (i+1) aa hK;rw[e1]at ih
  simp(disch:=try exact ae)[List.set_cons_zero]
  simp_all[lgB]
theorem RG(n:Nat)(z:D):gK n [z]=List.replicate n z:=by
 induction n with
 |zero=>rfl
 |succ n ih=>grind[gK]
theorem LN{s e by_ n:Nat}{b0:Bk}{z:D}{h:Hp}{k:kkQ}{u:PU k}(hs:h[s]?=some (e,b0))(hb:(by_:Int)*(n:Int)<=281474976710656)(hn:n<=1000000)
  (hk:k (.ref s (e+1) 0 0 n n) (h.set s (e+1,.data 1 (List.replicate n z) true false))):rh (mkS s by_ [z] h (I 0) (I n)) k u:=by
 show mkS s by_ [z] h (I 0) (I n) k
 simp only[mkS];rw[if_pos ⟨aa,aa,ac,hb,aa⟩]
 grind[new,RG]
theorem Bs{h:Hp}{x:V}{r:LiQ}(hr:Rd h x r)(hz:∀z∈r,-9223372036854775808<z∧z<9223372036854775808)(hn:r.length<1000000)(hu:(h.all λx=>aF h.length x.2)=true):
  CI Y F.fN [x] h (.new 1 (r.map sI) true r.length r.length) h:=by
 refine Bv ?_;simp only[fN];have l1:=hr.n;have hn2:(16:Int)*(r.length:Int)<=281474976710656:=aa;simp[l1];refine LN (e:=0) (b0:=.none) ac hn2 aa ?_;rw[Y4 _ _ (Z8 _),Y7];simp[l1]
 have lp1:=HK hr hz hn (h++[(1,Bk.data 1 (List.replicate r.length (D.str [])) true false),(0,Bk.none)]) ac (exK
      [(Exit.exit 0,λl4 h_2=>
        m7 (List.length h) (V.new 1 (List.map sI r) true r.length r.length) h (ge l4 0) h_2)]) r.length 0 aa (by
   simp;refine⟨ac,?_,.inr (.inr (.inl ⟨h.length,1,r.length,r.length,1,r.map sI,true,ac,Z8 _,by simp[ax,lgB],rfl⟩))⟩;exact hu)
 trivial
theorem SG{h:Hp}{n:Nat}(hn:n<1000000)(hu:(h.all λx=>aF h.length x.2)=true):
  CI Y F.j7 [I n] h (.new 1 ((List.replicate n 0).map sI) true n n) h:=by
 refine CV ?_;simp only[j7];simp(disch:=try exact ae);obtain⟨H,hH⟩:=nmQ (h++[(1,Bk.data 1 (List.replicate n (D.int IntKind.i64 0)) true false),(0,Bk.none)])
 have hg:∀t:Hp,ax (H++t) h.length 1=.data 1 (List.replicate n (D.int IntKind.i64 0)) true false:=λt=>by
  grind[ax]
 have hr:Rd H (.ref h.length 1 0 n n n) (List.replicate n 0):=by
  refine⟨ac,λt j hj=>⟨.ptr h.length 1 j n,?_,?_⟩⟩
  .rw[Zd]at hj;simp only[ixV,hg t];rw[if_pos ⟨ac,aa,aa⟩];simp
  .rw[Zd]at hj;simp only[ld1,hg t];rw[if_pos ac];have e2:nth 0 (List.replicate n (0:Int)) j=0:=by simp[nth,hj]
   grind
 have hu2:(H.all λx=>aF H.length x.2)=true:=by
  refine tP (b:=h.length) (by grind) ?_;rw[hH,Y2,hu];simp[aF]
 have lg:=Bs hr (λz hz=>by grind) (by grind) hu2;rw[<-hH];refine iz lg (s:=h.length+1) (e:=0) (b:=.none) (by grind) ?_;refine⟨by grind,hu,.inr (.inr (.inl ⟨h.length+1,1,n,n,1,(List.replicate n 0).map sI,true,ac,aa,?_,rfl⟩))⟩
 grind[ax]
end Go.Vm
