/- Lemmas. -/
import Derived.Test.YthjogmhfdpaaaaaGreatDoorQDcY
set_option linter.unusedVariables false
set_option linter.unusedSimpArgs false
open Option renaming some->Wf,none->Vc
open Bool renaming true->Th,false->SM
open Go renaming FuncId->fI,IntKind->iK
open List renaming replicate->So,length->RW
namespace Go.Vm
open Go Go.Am Go.Big
variable{z w:Int}{b k c d n g L e:Nat}{p y:aw}{α β:Type}{l:List Tx}{ex fr:Bool}
theorem vB{w:Nat}(h:iw z<=w):z.natAbs<10^w:=by
 have:ay z.natAbs<=w:=by unfold iw at h;omega
 exact Z0 (eT _) (Z2 au this)
theorem kq(h1 : -9223372036854775808<z)(h2:z<9223372036854775808):Ds F.iW [I z] (S (itoa z)):=by apply O6;simp[iW];refine cd (HC h1 h2) ?_;exact d9 rfl
theorem we{a:Nat}(ha:ay a<=k)(hb:ay b<=k):ay (a+b)<=k+1:=by have h1:a<10^k:=Z0 (eT a) (Z2 au ha);have h2:b<10^k:=Z0 (eT b) (Z2 au hb);exact ef (by rw[Nat.pow_succ];omega) aa
theorem apS(hz:ay z.natAbs<999999)(hw:ay w.natAbs<999999): 
  bp DA.p [] (.fn F.ic [] []) [S (itoa z)] λv6 h=>
  ext v6 0 λv7=>
  ext v6 1 λv8=>
  bp DA.p h (.fn F.ic [] []) [S (itoa w)] λv9 h=>
  ext v9 0 λv10=>
  ext v9 1 λv11=>
  bnd (jB .eql v7 v10) λv12=>
  aQ v12 (
   bp DA.p h (.fn F.qi [] []) [v8,v11] λv13 h=>
   bp DA.p h (.fn F.jg [] []) [v7,v13] λv14 h=>
   out (S (itoa (z+w))) v14 h) (
   bp DA.p h (.fn F.po [] []) [v8,v11] λv15 h=>
   bnd (aD .lss v15 (.d (.int .i64 0))) λv16=>
   jn (λl17 h=>
    bp DA.p h (.fn F.rb [] []) [(ge l17 1),(ge l17 2)] λv19 h=>
    ext v19 0 λv20=>
    ext v19 1 λv21=>
    bp DA.p h (.fn F.jg [] []) [(ge l17 0),v20] λv22 h=>
    out (S (itoa (z+w))) v22 h) λq18=>
    aQ v16 (
     q18 [v10,v11,v8] h) (
     q18 [v7,v8,v11] h)):=by
 simp;refine cd (vd z) ?_;simp;refine cd (vd w) ?_;have eb:jB .eql (B (decide (z<0))) (B (decide (w<0)))=Wf (B (decide (z<0) == decide (w<0))):=rfl;simp[eb];by_cases hs:(z<0↔w<0)
 .simp[hs];refine cd (NJ (a:=z.natAbs) (b:=w.natAbs) aa aa) ?_;simp;have hk:ay (z.natAbs+w.natAbs)<=999999:=we aa aa;refine cd (mi (decide (z<0)) (n:=z.natAbs+w.natAbs) aa) ?_;apply d9;congr 1;unfold sg;by_cases h:z<0
  .simp[h];omega
  .simp[h];omega
 .simp[hs];refine cd (ID (a:=z.natAbs) (b:=w.natAbs) aa aa) ?_;simp;by_cases PJ:z.natAbs<w.natAbs
  .have hc:Big.cmp z.natAbs w.natAbs<0:=by rw[Ej PJ];decide
   refine fE (l:=[B (decide (w<0)),S (aA w.natAbs),S (aA z.natAbs)]) (h:=[]) (λq=>by simp[hc]) ?_;simp;refine cd (Iy (a:=w.natAbs) (b:=z.natAbs) aa aa) ?_;simp;refine cd (mi (decide (w<0)) (n:=w.natAbs-z.natAbs) (Ze (iq (Nat.sub_le ..)) aa)) ?_;apply d9;congr 1;unfold sg;by_cases h:w<0
   .simp[h];omega
   .simp[h];omega
  ·have hc:¬Big.cmp z.natAbs w.natAbs<0:=by
    rcases Nat.eq_or_lt_of_not_lt PJ with h|h
    .rw[h,cmp_eq];decide
    .rw[Ek h];decide
   refine fE (l:=[B (decide (z<0)),S (aA z.natAbs),S (aA w.natAbs)]) (h:=[]) (λq=>by simp[hc]) ?_;simp;refine cd (Iy (a:=z.natAbs) (b:=w.natAbs) aa aa) ?_;simp;refine cd (mi (decide (z<0)) (n:=z.natAbs-w.natAbs) (Ze (iq (Nat.sub_le ..)) aa)) ?_;apply d9;congr 1;unfold sg;by_cases h:z<0
   .simp[h];omega
   .simp[h];omega
theorem zx(hz:ay z.natAbs<999999)(hw:ay w.natAbs<999999):Ds F.ji [S (itoa z),S (itoa w)] (S (itoa (z+w))):=by
 apply abY;have l1:=yj z 18 au;have l2:=yj w 18 au;have tl:=apS hz hw;simp[ji];refine cd l1 ?_;by_cases h1:iw z<=18
 .rw[ip h1];simp;by_cases h2:iw w<=18
  .rw[ip h2]at l2;apply cx;simp;refine cd l2 ?_;have b1:=vB h1;have b2:=vB h2;simp only[Nat.reducePow]at b1 b2;have⟨m,hm⟩:=bZ (z+w);rw[hm];simp(disch:=try exact cj)[hm];refine cd (kq (z:=m) aa aa) ?_;exact d9 rfl
  .rw[iN h2]at l2;apply cx;simp;refine cd l2 ?_;simp;simpa using tl
 .rw[iN h1];simp;apply cx;simp;simpa using tl
theorem xc(hz:ay z.natAbs<400000)(hw:ay w.natAbs<400000):Ds F.gy [S (itoa z),S (itoa w)] (S (itoa (z*w))):=by
 apply abR;have l1:=yj z 9 au;have l2:=yj w 9 au;have dm:=YX (a:=z.natAbs) (b:=w.natAbs) aa aa
 have hk:ay (z.natAbs*w.natAbs)<1000000:=by
  have h1:=eT z.natAbs;have h2:=eT w.natAbs;have h3:z.natAbs*w.natAbs<10^(ay z.natAbs+ay w.natAbs):=by rw[Yq];exact Yg h1 h2
  have:=ef h3 (by have:=nj z.natAbs;omega);omega
 have e:sg (decide (z<0) !=decide (w<0)) (z.natAbs*w.natAbs)=z*w:=by
  unfold sg;by_cases h1:z<0<;>by_cases h2:w<0
  .simp[h1,h2];rw[Xh aa,Xh aa,Int.neg_mul_neg]
  .simp[h1,h2];rw[Xh aa,Xb aa,Int.neg_mul,V5]
  .simp[h1,h2];rw[Xb aa,Xh aa,Int.mul_neg,V5]
  .simp[h1,h2];rw[Xb aa,Xb aa]
 have eb:jB .neq (B (decide (z<0))) (B (decide (w<0)))=Wf (B (decide (z<0) !=decide (w<0))):=rfl;have jo:=mi (decide (z<0) !=decide (w<0)) hk;rw[e]at jo
 have tail:∀u:Unit,bp DA.p [] (.fn F.ic [] []) [S (itoa z)] λv6 h=>
  ext v6 0 λv7=>
  ext v6 1 λv8=>
  bp DA.p h (.fn F.ic [] []) [S (itoa w)] λv9 h=>
  ext v9 0 λv10=>
  ext v9 1 λv11=>
  bnd (jB .neq v7 v10) λv12=>
  bp DA.p h (.fn F.uG [] []) [v8,v11] λv13 h=>
  bp DA.p h (.fn F.jg [] []) [v12,v13] λv14 h=>
  out (S (itoa (z*w))) v14 h:=by
  intro _;simp;refine cd (vd z) ?_;simp;refine cd (vd w) ?_;simp[eb];refine cd dm ?_;simp;refine cd jo ?_;exact d9 rfl
 simp[gy];refine cd l1 ?_;by_cases h1:iw z<=9
 .rw[ip h1];simp;by_cases h2:iw w<=9
  .rw[ip h2]at l2;apply cx;simp;refine cd l2 ?_;have b1:=vB h1;have b2:=vB h2
   have hmb:(z*w).natAbs<1000000000000000000:=by
    rw[Zl];exact Yg b1 b2
   have⟨m,hm⟩:=bZ (z*w);rw[hm]at hmb ⊢;simp(disch:=try exact cj)[hm];refine cd (kq (z:=m) aa aa) ?_;exact d9 rfl
  .rw[iN h2]at l2;apply cx;simp;refine cd l2 ?_;simp;simpa using tail ()
 .rw[iN h1];simp;apply cx;simp;simpa using tail ()
theorem o8(n:Nat):itoa (n:Int)=aA n:=by rfl
theorem afI(n:Nat):eS (n:Int)=if n=0 then 0 else 1:=by
 unfold eS;by_cases h:n=0
 .simp[h]
 .rw[iN aa,iN aa,iN h]
theorem QW(n:Nat):Ds F.kL [S (aA n)] (I (if n=0 then 0 else 1)):=by
 have:=tJ (n:Int)
 grind[o8,afI]
theorem Jp{a:Nat}(ha:ay a<1000000)(hb:ay b<1000000):Ds F.uS [S (aA a),S (aA b)] (I (Big.cmp a b)):=by
 apply abW;have s1:=QW a;have s2:=QW b;simp[uS];by_cases h1:a=0
 .rw[ip h1]at s1;by_cases h2:b=0
  .rw[ip h2]at s2;refine cd s1 ?_;simp;refine cd s2 ?_;simp;refine cd (zW a) ?_;simp;refine cd (zW b) ?_;simp;refine fE (l:=[S (aA a),S (aA b)]) (h:=[]) (λq=>by rfl) ?_;simp;refine cd (ID ha hb) ?_;simp
  .rw[iN h2]at s2;refine cd s1 ?_;simp;refine cd s2 ?_;simp;exact df (Ej aa).symm
 .rw[iN h1]at s1;by_cases h2:b=0
  .rw[ip h2]at s2;refine cd s1 ?_;simp;refine cd s2 ?_;simp;exact df (Ek aa).symm
  .rw[iN h2]at s2;refine cd s1 ?_;simp;refine cd s2 ?_;simp;refine cd (zW a) ?_;simp;refine cd (zW b) ?_;simp;refine fE (l:=[S (aA a),S (aA b)]) (h:=[]) (λq=>by rfl) ?_;simp;refine cd (ID ha hb) ?_;simp
theorem Ij{a:Nat}(hb:0<b):(-(a:Int))/(b:Int)=(if a%b=0 then -((a/b:Nat):Int)else -((a/b+1:Nat):Int))∧(-(a:Int))%(b:Int)=(if a%b=0 then 0 else((b-a%b:Nat):Int)):=by
 have h1:=Xo a b;have h2:=Y5 a hb;generalize a%b=r at *;generalize a/b=q at *;by_cases h:r=0
 .subst h;simp only[iT]
  have e:(-(a:Int))=(b:Int)*(-(q:Int)):=by
   rw[Int.mul_neg,<-Int.natCast_mul];congr 1;omega
  rw[e];exact⟨Int.mul_ediv_cancel_left _ aa,Int.mul_emod_right _ _⟩
 .simp only[iN h]
  have e:(-(a:Int))=((b-r:Nat):Int)+(b:Int)*(-((q+1:Nat):Int)):=by
   have:(a:Int)=(b:Int)*q+r:=by rw[<-Int.natCast_mul];omega
   rw[this,Int.mul_neg,Int.natCast_add,V4];omega
  have l1:(0:Int)<=((b-r:Nat):Int):=aa;have l2:((b-r:Nat):Int)<(b:Int):=aa;rw[e];constructor
  .rw[Int.add_mul_ediv_left _ _ aa,Int.ediv_eq_zero_of_lt l1 l2,Xa]
  .rw[Int.add_mul_emod_self_left,Int.emod_eq_of_lt l1 l2]
theorem x9:ay 1=1:=du
theorem pS{a b a' b':bB}{c:Int}{h:Hp}(e1:a'=a)(e2:b'=b):out (.tup [S a,S b,I c]) (.tup [S a',S b',I c]) h:=by simp_all[nZ]
theorem amE(hb:0<b)(hz:ay z.natAbs<900000)(hbd:ay b<900000):
   bp DA.p [] (.fn F.ic [] []) [S (itoa z)] λv7 h=>
   ext v7 0 λv8=>
   ext v7 1 λv9=>
   bp DA.p h (.fn F.ic [] []) [S (aA b)] λv10 h=>
   ext v10 0 λv11=>
   ext v10 1 λv12=>
   bp DA.p h (.fn F.re [] []) [v9,v12] λv13 h=>
   ext v13 0 λv14=>
   ext v13 1 λv15=>
   ext v13 2 λv16=>
   bnd (aD .neq v16 (.d (.int .i64 0))) λv17=>
   aQ v17 (
    out (.tup [S (itoa (z/b)),S (itoa (z%b)),I 0]) (.tup [(.d (.str [])),(.d (.str [])),v16]) h) (
    bnd (jB .neq v8 v11) λv18=>
    gd v18 Th h (λq=>q v15 h) λv19 h=>
    gd v18 Th h (λq=>bnd (jY .neq v19 (.d (.str [48]))) λv=>q v h) λv20 h=>
    bnd (kP v18 v20 (.d (.bool SM))) λv21=>
    jn (λl22 h=>
     bnd (jB .neq v8 v11) λv24=>
     bp DA.p h (.fn F.jg [] []) [v24,(ge l22 0)] λv25 h=>
     bp DA.p h (.fn F.jg [] []) [v11,(ge l22 1)] λv26 h=>
     out (.tup [S (itoa (z/b)),S (itoa (z%b)),I 0]) (.tup [v25,v26,(.d (.int .i64 0))]) h) λq23=>
     aQ v21 (
      bp DA.p h (.fn F.qi [] []) [v14,(.d (.str [49]))] λv27 h=>
      bp DA.p h (.fn F.rb [] []) [v12,v15] λv28 h=>
      ext v28 0 λv29=>
      ext v28 1 λv30=>
      q23 [v27,v29] h) (
      q23 [v14,v15] h)):=by
 have hq:ay (z.natAbs/b)<=ay z.natAbs:=iq (Yv ..);have hr:z.natAbs%b<b:=Y5 _ hb;have hr2:ay (z.natAbs%b)<=ay b:=iq aa
 have eb:jB .neq (B (decide (z<0))) (B SM)=Wf (B (decide (z<0))):=by
  show Wf (B (decide (z<0) !=SM))=_
  rw[Bool.bne_false]
 simp;refine cd (vd z) ?_;simp;refine cd (zW b) ?_;simp;refine cd (Ik (a:=z.natAbs) hb aa aa) ?_;by_cases hneg:z<0
 .have ez:z = -(z.natAbs:Int):=aa;have⟨d1,d2⟩:=Ij (a:=z.natAbs) hb;rw[<-ez]at d1 d2;rw[decide_eq_true hneg]at eb ⊢;by_cases h0:z.natAbs%b=0
  .rw[ip h0]at d1 d2;rw[h0,mq];simp[eb];refine fE (l:=[S (aA (z.natAbs/b)),S [48]]) (h:=[]) (λq=>by rfl) ?_;simp[eb];refine cd (mi Th (n:=z.natAbs/b) aa) ?_;simp;have j0:=mi SM (n:=0) ae;rw[mq]at j0;refine cd j0 ?_;refine pS ?_ ?_
   .rw[d1];rfl
   .rw[d2];rfl
  .rw[iN h0]at d1 d2;have h48:¬aA (z.natAbs%b)=[48]:=λh=>h0 (yB.1 h)
   have ad:=NJ (a:=z.natAbs/b) (b:=1) aa (by simp[x9]);rw[show aA 1=[49] by decide+kernel]at ad;simp[eb,h48];apply cx;simp[h48];refine cd ad ?_;simp;refine cd (Iy (a:=b) (b:=z.natAbs%b) aa aa) ?_;simp[eb];have hq1:ay (z.natAbs/b+1)<=900000+1:=we aa (by simp[x9])
   refine cd (mi Th (n:=z.natAbs/b+1) aa) ?_;simp;refine cd (mi SM (n:=b-z.natAbs%b) (Ze (iq (Nat.sub_le ..)) aa)) ?_;refine pS ?_ ?_
   .rw[d1];rfl
   .rw[d2];rfl
 .rw[decide_eq_false hneg]at eb ⊢;simp[eb];refine fE (l:=[S (aA (z.natAbs/b)),S (aA (z.natAbs%b))]) (h:=[]) (λq=>by rfl) ?_;simp[eb];refine cd (mi SM (n:=z.natAbs/b) aa) ?_;simp;refine cd (mi SM (n:=z.natAbs%b) aa) ?_;have ez:z=(z.natAbs:Int):=aa;refine pS ?_ ?_
  .rw[ez,<-Int.natCast_ediv];rfl
  .rw[ez,<-Int.natCast_emod];rfl
theorem Jo(hb:0<b)(hz:ay z.natAbs<900000)(hbd:ay b<900000):Ds F.jh [S (itoa z),S (aA b)] (.tup [S (itoa (z/b)),S (itoa (z%b)),I 0]):=by
 apply O7;have l1:=yj z 18 au;have l2:=ai7 b 18 au;have tl:=amE hb hz hbd;have h48:¬aA b=[48]:=λh=>by grind[yB]
 simp[jh,h48];refine cd l1 ?_;by_cases h1:iw z<=18
 .rw[ip h1];by_cases h2:ay b<=18
  .rw[ip h2]at l2;simp;apply cx;simp;refine cd l2 ?_;have b1:=vB h1;have b2:b<10^18:=Z0 (eT b) (Z2 au h2);simp only[Nat.reducePow]at b1 b2;have hbz:¬(b:Int)=0:=aa;have⟨n,hn⟩:=bD (z.natAbs);rw[<-hn]at b1;have hq:n/b<=n:=Yv ..;have hr:n%b<b:=Y5 _ hb;by_cases hneg:z<0
   .have ez:z = -(n:Int):=aa;have⟨d1,d2⟩:=Ij (a:=n) hb;rw[<-ez]at d1 d2;have q1:z.tdiv (b:Int) = -((n/b:Nat):Int):=by rw[ez,Int.neg_tdiv,Zs aa,<-Int.natCast_ediv]
    have q2:z.tmod (b:Int) = -((n%b:Nat):Int):=by rw[ez,Int.neg_tmod,Zt aa,<-Int.natCast_emod]
    have⟨q,hqq⟩:=bD (n/b);have⟨r,hrr⟩:=bD (n%b);rw[<-hqq]at q1 d1 hq;rw[<-hrr]at q2 d1 d2 hr;by_cases h0:r=0
    .rw[ip h0]at d1 d2;rw[h0]at q2;simp(disch:=try exact cj)[q1,q2];refine fE (l:=[I (-(q:Int)),I 0]) (h:=[]) (λq=>by rfl) ?_;simp;refine cd (kq (z:=-(q:Int)) aa aa) ?_;simp;refine cd (kq (z:=0) aa aa) ?_;refine pS ?_ ?_
     .rw[d1]
     .rw[d2]
    .rw[iN h0]at d1 d2;have r0:¬(-(r:Int))=0:=aa;have r1:(-(r:Int))<0:=aa;have r2:¬(b:Int)<0:=aa;have eb:∀x y:Bool,jB .neq (B x) (B y)=Wf (B (x !=y)):=λ_ _=>rfl
     simp(disch:=try exact cj)[q1,q2,r0,r1,r2,eb];refine fE (l:=[I (-(q:Int)-1),I (-(r:Int)+b)]) (h:=[]) (λq=>by simp(disch:=omega) [r0,r1,r2]) ?_;simp;refine cd (kq (z:=-(q:Int)-1) aa aa) ?_;simp;refine cd (kq (z:=-(r:Int)+b) aa aa) ?_
     grind[pS]
   .have ez:z=(n:Int):=aa;have q1:z.tdiv (b:Int)=((n/b:Nat):Int):=by rw[ez,Zs aa,<-Int.natCast_ediv]
    have q2:z.tmod (b:Int)=((n%b:Nat):Int):=by rw[ez,Zt aa,<-Int.natCast_emod]
    have d1:z/(b:Int)=((n/b:Nat):Int):=by rw[ez,<-Int.natCast_ediv]
    have d2:z%(b:Int)=((n%b:Nat):Int):=by rw[ez,<-Int.natCast_emod]
    have⟨q,hqq⟩:=bD (n/b);have⟨r,hrr⟩:=bD (n%b);rw[<-hqq]at q1 d1 hq;rw[<-hrr]at q2 d2 hr;have r1:¬((r:Int))<0:=aa;have r2:¬(b:Int)<0:=aa;have eb:∀x y:Bool,jB .neq (B x) (B y)=Wf (B (x !=y)):=λ_ _=>rfl
    have fin:∀h:Hp,bp DA.p h (V.fn F.iW [] []) [I q] λv45 h=>
      bp DA.p h (V.fn F.iW [] []) [I r] λv46 h=>out (V.tup [S (itoa (z/(b:Int))),S (itoa (z%(b:Int))),I 0]) (V.tup [v45,v46,V.d (D.int iK.i64 0)]) h:=by
     intro h;simp;refine cd (kq (z:=q) aa aa) ?_;simp;refine cd (kq (z:=r) aa aa) ?_;refine pS ?_ ?_
     .rw[d1]
     .rw[d2]
    by_cases h0:r=0
    .rw[h0]at q2 fin;simp(disch:=try exact cj)[q1,q2];refine fE (l:=[I q,I 0]) (h:=[]) (λq=>by rfl) ?_;exact fin []
    .have r0:¬(r:Int)=0:=aa;simp(disch:=try exact cj)[q1,q2,r0,r1,r2,eb];refine fE (l:=[I q,I r]) (h:=[]) (λq=>by rfl) ?_;exact fin []
  .rw[iN h2]at l2;simp;apply cx;simp;refine cd l2 ?_;trivial
 simp_all[iN,cx]
theorem anG{a:Nat}(ha0:0<a)(hb0:0<b)(ha:ay a<400000)(hb:ay b<400000):Ds F.BK [S (aA a),S (aA b)] (S (aA (Nat.lcm a b))):=by
 apply anp;have h1:¬aA a=[48]:=λh=>by have:=yB.1 h;omega
 have h2:¬aA b=[48]:=λh=>by have:=yB.1 h;omega
 have hg:0<Nat.gcd a b:=Nat.gcd_pos_of_pos_left _ ha0;have hgl:Nat.gcd a b<=a:=Nat.gcd_le_left _ ha0;have hq:ay (a/Nat.gcd a b)<=ay a:=iq (Yv ..);simp[BK,h1,h2];refine cd (V3 aa aa) ?_;simp;refine cd (Ik (a:=a) (b:=Nat.gcd a b) hg aa (by have:=iq hgl;omega)) ?_;simp
 refine cd (YX (a:=a/Nat.gcd a b) (b:=b) aa aa) ?_;apply d9;congr 1;rw[Nat.lcm,Zp,<-Nat.mul_div_assoc _ (Wj a b),Zp]
theorem OI(n:Nat):Ds F.lE [S (aA n)] (S (aA n)):=by
 have:=B6 (n:Int)
 rwa [o8,Int.natAbs_natCast]at this
theorem ab3{a:Nat}(ha0:0<a)(hb0:0<b)(ha:ay a<400000)(hb:ay b<400000):Ds F.w9 [S (aA a),S (aA b)] (S (aA (Nat.lcm a b))):=by apply abS;simp[w9];refine cd (OI a) ?_;simp;refine cd (OI b) ?_;simp;refine cd (anG ha0 hb0 ha hb) ?_;exact d9 rfl
theorem ahz(h:z.natAbs<9223372036854775808):Ds F.u7 [S (itoa z),I 10,I 64] (.tup [I z,.d (.pl .nilIface)]):=by
 have key:∀n:Nat,n<9223372036854775808->(aA n)≠[]∧(aA n).all nF=Th∧RW (aA n)<=1000∧ir 0 (aA n)=n:=by
  intro n hn;have hd:=nA n;have hc:=Eo n
  have hl:RW (aA n)<=1000:=by
   have:=ef (n:=n) (d:=19) aa au;rw[aA,fp];omega
  simp only[iJ,Z7]at hc
  have hall:(aA n).all nF=Th:=by
   rw[<-hc.1.2];congr 1;funext c;exact digit_eq c
  exact⟨DG n,hall,hl,by rw[If,hd]⟩
 have ho:Y.X.orc F.u7 [.string ⟨⟨itoa z⟩⟩,.int .i64 10,.int .i64 64]=Wf (.tuple #[.int .i64 z,.nilIface]):=by
  have e:∀a,Y.X.orc F.u7 a=Gv a:=λa=>rfl
  rw[e];have⟨k1,k2,k3,k4⟩:=key _ h;unfold Gv;simp only;rw[ip ⟨trivial,trivial⟩];by_cases hz:z<0
  .have e1:itoa z=45::aA z.natAbs:=by unfold itoa;rw[ip hz]
   rw[e1];simp only;rw[ip ⟨k1,k2,k3,by rw[k4];exact h⟩,k4,show(-((z.natAbs:Nat):Int))=z by omega]
  .have e1:itoa z=aA z.natAbs:=by unfold itoa;rw[iN hz]
   rw[e1];have hh:=yA z.natAbs;have ez:((z.natAbs:Nat):Int)=z:=aa;generalize aA z.natAbs=L at *
   have fin:(if L≠[]∧L.all nF=Th∧RW L<=1000∧ir 0 L<9223372036854775808 then Wf (Value.tuple #[.int .i64 (ir 0 L),.nilIface])else Vc)=Wf (Value.tuple #[.int .i64 z,.nilIface]):=by
    rw[ip ⟨k1,k2,k3,by rw[k4];exact h⟩,k4,ez]
   split
   .rename_i l hl;exact absurd rfl hh
   .exact fin
 exact CP.orc ho (by intro x hx;simp only[Zx,Y3,or_false]at hx;rcases hx with rfl|rfl|rfl<;>rfl) rfl
theorem J0(h:z.natAbs<9223372036854775808):Ds F.uP [S (itoa z)] (.tup [I z,B Th]):=by apply abN;simp[uP];refine cd (ahz h) ?_;simp[GN];exact fR rfl rfl
def oD(s:Nat)(h:Hp)(v:V)(d:ax):Prop:=∀h':Hp,RW h'=RW h->(∀j,j≠s->h'[j]?=h[j]?)->qp h' v d∧∃h2,bW h' v=Wf (ai u6 d,h2)
theorem oD.now{s:Nat}{h:Hp}{v:V}{d:ax}(r:oD s h v d):qp h v d:=(r h rfl λ_ _=>rfl).1
theorem oD.step{s:Nat}{h h2:Hp}{v:V}{d:ax}(r:oD s h v d)(hl:RW h2=RW h)(hs:∀j,j≠s->h2[j]?=h[j]?):oD s h2 v d:=
 λh' h1 h3=>r h' (h1.trans hl) λj hj=>(h3 j hj).trans (hs j hj)
theorem oD.new{s t e N m:Nat}{h:Hp}(DB:s≠t)(hg:h[t]?=Wf (e,.data 1 ((bE N m).map u6) Th SM))(hm:m<Z^N):oD s h (.ref t e 0 (RW (aI Z m)) N N) (aI Z m):=λh' hl ho=>by
 have:=I7 (h:=h') (cap:=N) ((ho t (Ne.symm DB)).trans hg) (iS ..).symm (jc hm);rw[uu hm]at this;have sn:=vh (h:=h') ((ho t (Ne.symm DB)).trans hg) (iS ..).symm (len:=RW (aI Z m)) (cap:=N) (jc hm) (Z8 _);rw[uu hm]at sn;exact⟨this,_,sn⟩
theorem and_one{n:Int}(h0:0<=n)(h1:n<9223372036854775808):aD .and (I n) (I 1)=Wf (I (n%2)):=by
 obtain⟨m,rfl⟩:∃m:Nat,n=m:=⟨n.toNat,aa⟩
 have hb:(BitVec.ofInt 64 (m:Int)&&&BitVec.ofInt 64 1).toNat=m%2:=by
  rw[BitVec.toNat_and]
  have e1:(BitVec.ofInt 64 (m:Int)).toNat=m:=by
   rw[BitVec.toNat_ofInt];omega
  have e2:(BitVec.ofInt 64 (1:Int)).toNat=1:=au;rw[e1,e2,Nat.and_one_is_mod]
 simp only[aD,iQ,ne_eq,not_true_eq_false,iF,jq,dJ]
 show Wf (V.d (.int .i64 (iK.wrap .i64 ((BitVec.ofInt 64 (m:Int)&&&BitVec.ofInt 64 1).toNat:Int))))=_
 rw[hb,Ch aa aa];rfl
theorem ahe(k:KL):∀(n A Bv:Nat)(o p:V)(h:Hp)(R:Nat),A*Bv^n=R->0<A->0<Bv->R<Z^2000->n<100000->RW h=3->NV h->oD 2 h o (aI Z A)->oD 1 h p (aI Z Bv) ->
  (∀o' h' h2,RW h'=3->bW h' o'=Wf (ai u6 (aI Z R),h2)->NV h'->k (.exit 1) [o'] h')->∀h0:Hp,RW h0=3->lp (Ec DA) [] h0 [o,p,I n] h k:=by
 intro n
 induction n using Nat.strongRecOn with
 | ind n ih=>
  intro A Bv o p h R hR hA hB hlim hn Rg hnv ro rp hk h0 hl0;apply aL;by_cases hz:n=0
  .subst hz;simp[Ec];rw[Nat.pow_zero,Y1]at hR;subst hR;have⟨h2,hs2⟩:=(ro h rfl λ_ _=>rfl).2;exact hk o h h2 Rg hs2 hnv
  have hpos:(n:Int)>0:=aa
  have hBR:Bv<=R:=by
   rw[<-hR];exact Z1 (Nat.le_of_eq (Nat.pow_one Bv).symm) (Z1 (Z2 hB aa) (Nat.le_mul_of_pos_left _ hA))
  have hAR:A<=R:=by rw[<-hR];exact Zc _ (Xr hB)
  have dA:RW (aI Z A)<=2000:=jc aa;have dB:RW (aI Z Bv)<=2000:=jc aa;have and1:=and_one (n:=(n:Int)) aa aa;have e2:((n:Int)/2^(1:Int).toNat)=((n/2:Nat):Int):=ac
  have sh:aD .shr (I n) (.d (.int .u64 1))=Wf (I (n/2:Nat)):=by
   rw[afC aa aa,e2]
  have hn2:n/2<n:=aa
  -- what a product gives
  have times:∀(h:Hp)(v w:V)(a b s:Nat),RW h=3->NV h->s<3->qp h v (aI Z a)->qp h w (aI Z b)->RW (aI Z a)<=2000->RW (aI Z b)<=2000->∀q:bH,
    (∀o' h',RW h'=3->NV h'->(∀j,j≠s->h'[j]?=h[j]?)->(∀t,t≠s->oD t h' o' (aI Z (a*b)))->q o' h')->eO DA.i h (V.fn F.qY [] []) [v,w] s q:=by
   intro h v w a b s hl hv hs r1 r2 d1 d2 q hq;have⟨N,hN⟩:=bD (RW (aI Z a)+RW (aI Z b));have tk:=JA (h:=h) (hv.all _) r1 (jb cV a) r2 (jb cV b) aa aa hN;rw[kM cV,kM cV]at tk;have hs3:s<RW h:=aa;have hm:a*b<Z^N:=by rw[hN,Yq];exact Yg (wg a) (wg b)
   refine jQ (e:=h[s].1) (b:=h[s].2) tk (List.getElem?_eq_getElem hs3) ?_;rw[List.length_map,iS];have gs:(h.set s (h[s].1+1,.data 1 ((bE N (a*b)).map u6) Th SM))[s]?=Wf (h[s].1+1,.data 1 ((bE N (a*b)).map u6) Th SM):=by simp[hs3]
   have os:∀j,j≠s->(h.set s (h[s].1+1,.data 1 ((bE N (a*b)).map u6) Th SM))[j]?=h[j]?:=λj hj=>by rw[List.getElem?_set_ne (Ne.symm hj)]
   exact hq _ _ (by simp[hl]) (hv.upd gs os) os (λt ht=>oD.new ht gs hm)
  have fin:∀(A' B':Nat)(o' p':V)(h':Hp),A'*B'^(n/2)=R->0<A'->0<B'->RW h'=3->NV h'->oD 2 h' o' (aI Z A')->oD 1 h' p' (aI Z B')->rl (lp (Ec DA) [] h0 [o',p',I ((n:Int)/2)] h') k .mk:=by
   intro A' B' o' p' h' e1 e2 e3 e4 e5 e6 e7;rw[show((n:Int)/2)=((n/2:Nat):Int) by omega];exact ih (n/2) hn2 A' B' o' p' h' R e1 e2 e3 hlim aa e4 e5 e6 e7 hk h0 hl0
  have hdm:=Xo n 2;simp(disch:=omega) [Ec,hpos];apply cx;simp[and1];by_cases hod:(n:Int)%2=1
  .have hod':n%2=1:=aa
   have eR:A*Bv*(Bv*Bv)^(n/2)=R:=by
    rw[<-hR]
    conv=>rhs;rw[<-hdm,hod',Yq,Wd,Nat.pow_one]
    rw[Nat.pow_two,Nat.mul_assoc,Zp Bv]
   apply cx;simp[hod];refine ij (times h o p A Bv 1 Rg hnv aa ro.now rp.now dA dB _ λo' h' l1 v1 s1 r1=>?_);have rp1:=rp.step (l1.trans Rg.symm) s1;have ro1:=r1 2 aa;simp;apply cx;by_cases h1:(n:Int)>1
   .simp[h1];refine ij (times h' p p Bv Bv 2 l1 v1 aa rp1.now rp1.now dB dB _ λp' h'' l2 v2 s2 r2=>?_);have ro2:=ro1.step (l2.trans l1.symm) s2;simp(disch:=omega) [sh];exact fin _ _ o' p' h'' eR (Yk hA hB) (Yk hB hB) l2 v2 ro2 (r2 1 aa)
   .have hn1:n=1:=aa;simp(disch:=omega) [h1,sh];refine fin (A*Bv) Bv o' p h' ?_ (Yk hA hB) hB l1 v1 ro1 rp1;rw[<-eR];subst hn1;simp
  .have hod':n%2=0:=aa
   have eR:A*(Bv*Bv)^(n/2)=R:=by
    rw[<-hR]
    conv=>rhs;rw[<-hdm,hod',Nat.add_zero,Wd]
    rw[Nat.pow_two]
   apply cx;simp[hod];apply cx;have h1:(n:Int)>1:=aa;simp[h1];refine ij (times h p p Bv Bv 2 Rg hnv aa rp.now rp.now dB dB _ λp' h'' l2 v2 s2 r2=>?_);have ro2:=ro.step (l2.trans Rg.symm) s2;simp(disch:=omega) [sh];exact fin _ _ o p' h'' eR hA (Yk hB hB) l2 v2 ro2 (r2 1 aa)
theorem UM(h:n<18446744073709551616):Ds F.yg [.d (.int .u64 n)] (I (cQ n)):=by apply aiJ;simp[yg];refine cd (LY h) ?_;simp<;>exact df rfl
theorem HD:aA 2=[50]:=du
theorem og:aA 1=[49]:=du
theorem ao4:Ds F.BN [S [50]] (I 2):=by apply anA;have h:=JZ (n:=2) aa;rw[HD]at h;have h2:=LY (n:=2) aa;rw[show cQ 2=2 by rfl]at h2;simp[BN];refine cd h ?_;simp;refine cd h2 ?_;simp
theorem Pt{K:Nat}(h:n/3+1<=K):2^n<10^K:=by
 have h1:2^n=8^(n/3)*2^(n%3):=by
  rw[show(8:Nat)=2^3 from rfl,<-Wd,<-Yq,Xo]
 have h2:8^(n/3)<=10^(n/3):=Nat.pow_le_pow_left au _
 have h3:2^(n%3)<=4:=by
  have:n%3<3:=Y5 _ au;exact Z1 (Z2 au (show n%3<=2 by omega)) au
 have h4:10^(n/3+1)<=10^K:=Z2 au h;have h5:=Zr h2 h3
 grind
theorem aij{K:Nat}(h:n/3+1<=K)(hK:0<K):ay (2^n)<=K:=ef (Pt h) hK
theorem acJ{K:Nat}(h:n/3+1<=K):2^n<Z^K:=Z0 (Pt h) (Nat.pow_le_pow_left au _)
theorem Gp(hn:n<=4000):2^n<Z^2000∧ay (2^n)<=2000:=
 ⟨acJ (K:=2000) aa,aij (K:=2000) aa aa⟩
theorem anF(hn:n<=4000):Ds F.wU [S [50],I n] (.tup [S (aA (2^n)),I 0]):=by
 apply anl;by_cases h0:n=0
 .simp_all[og,wU,fR]
 have g1:¬(n:Int)=0:=aa;have g2:¬(n:Int)<0:=aa;have g3:¬(n:Int)>66439:=aa;have n1:¬([50]:bB)=[49]:=au;have n2:¬([50]:bB)=[48]:=au;have ct:=sR (h:=[ah,ah,ah]) rfl (n:=2) (cap:=1) du du;rw[HD]at ct;have⟨p1,p2⟩:=Gp hn
 have hli:∀h:Hp,cL 1 [D.int .u64 0] [(0,V.d (D.int .u64 1))] h=Wf ([u6 1],h):=λh=>by rfl
 simp(disch:=omega) [wU,g1,g2,n1,n2];refine cd ao4 ?_;simp[g3,hli];refine ij (jQ (e:=0) (b:=.none) ct rfl ?_);rw[List.length_map,iS];simp
 have nv:NV [(1,.data 1 ((bE 1 2).map u6) Th SM),ah,ah]:=by
  intro j x hj b';rcases Wr.2 ⟨j,hj⟩with hm;simp only[Zx,Y3,or_false]at hm;rcases hm with rfl|rfl|rfl<;>rfl
 refine lo (ahe _ n 1 2 (ai u6 [1]) _ [(1,.data 1 ((bE 1 2).map u6) Th SM),ah,ah] (2^n) (by rw[W0]) au au p1 aa rfl nv ?_ ?_ (λo' h' h2 hl hr hv=>?_) _ rfl)
 .intro h' _ _;rw[show aI Z 1=[1] by rfl];simp[I8]
 .exact oD.new (s:=1) (t:=0) au rfl au
 .have hl1:¬(ay (2^n):Int)>20000:=aa;have lt:=sv (2^n);have tx:=zJ (n:=2^n) (Ze (jc p1) au);generalize 2^n=m at *;simp;refine rj (by simp only[bY,hr];rfl) tx ?_
  simp_all[fR]
theorem K2(hn:n<=4000):Ds F.uQ [S [50],I n] (.tup [S (aA (2^n)),I 0]):=by apply abP;have sp:=zW 2;rw[HD]at sp;have g2:¬(n:Int)<0:=aa;have g3:¬(n:Int)>4000:=aa;have⟨p1,p2⟩:=Gp hn;have q:((4000:Int).tdiv 1)=4000:=au;simp[uQ,g2];refine cd sp ?_;simp[g3,q];refine cd (anF hn) ?_;simp;refine cd (akk _) ?_;simp[fR]
def uB(unit two:Nat):Nat->Nat->Nat->Nat->Option Nat
 |0,_,_,out=>Wf out
 | r+1,low,high,out=>
  cond (Nat.ble two (low*low/unit)) (uB unit two r (low*low/unit/2) ((high*high/unit+1)/2+1) (out+out+1))
   (cond (Nat.ble two (high*high/unit+1)) Vc (uB unit two r (low*low/unit) (high*high/unit+1) (out+out)))
def qg(p n more:Nat):Option Nat:=uB (2^more) (2^more+2^more) n (p*2^(more-(cQ p-1))) (p*2^(more-(cQ p-1))) (cQ p-1)
def Im:Option Nat->V
 |some v=>.tup [S (aA v),B Th]
 |none=>.tup [S [],B SM]
theorem zy{a:Nat}(ha:ay a<999999)(hb:ay b<999999):Ds F.ji [S (aA a),S (aA b)] (S (aA (a+b))):=by have:=zx (z:=(a:Int)) (w:=(b:Int)) cU cU;trivial
theorem Cj{a:Nat}(ha:ay a<400000)(hb:ay b<400000):Ds F.gy [S (aA a),S (aA b)] (S (aA (a*b))):=by have:=xc (z:=(a:Int)) (w:=(b:Int)) cU cU;trivial
theorem zw{a:Nat}(h0:0<b)(ha:ay a<900000)(hb:ay b<900000):Ds F.jh [S (aA a),S (aA b)] (.tup [S (aA (a/b)),S (aA (a%b)),I 0]):=by grind[Jo,o8]
theorem wd{a:Nat}:ay (a*b)<=ay a+ay b:=by
 have h3:a*b<10^(ay a+ay b):=by rw[Yq];exact Yg (eT a) (eT b)
 exact ef h3 (by grind[nj])
theorem aaa{a:Nat}:decide (0<=Big.cmp a b)=Nat.ble b a:=by grind[Nat.ble_eq,Ej,cmp_eq,Ek]
theorem ail(h:ay n<=k):ay (n+n+1)<=k+1:=by have h1:n<10^k:=Z0 (eT n) (Z2 au h);exact ef aa aa
theorem YP{unit two N W:Nat}(hu:2<=unit)(htwo:two=unit+unit)(hW:ay two<=W)(hW2:W<100000)(hN:N<100000)(k:KL):∀(r i low high out:Nat),i+r=N->low<=high->high<two->ay out<=W+i ->
  (∀v,uB unit two r low high out=Wf v->ay v<=W+N->k (.exit 0) [S (aA v)] [])->(uB unit two r low high out=Vc->k .ret [S [],B SM] []) ->
  lp (FB DA (S (aA unit)) (S (aA two)) (I N)) [] [] [S (aA low),S (aA high),S (aA out),I i] [] k
 | 0,i,low,high,out,hi,hlh,hht,ho,h0,h1=>by
  have hiN:¬(i:Int)<(N:Int):=aa;apply aL;simp[FB,hiN];exact h0 out rfl aa
 | r+1,i,low,high,out,hi,hlh,hht,ho,h0,h1=>by
  have hiN:(i:Int)<(N:Int):=aa;have ih:=YP hu htwo hW hW2 hN k r (i+1);have u1:ay unit<=W:=Z1 (iq aa) hW;have u2:ay low<=W:=Z1 (iq aa) hW;have u3:ay high<=W:=Z1 (iq aa) hW;have m1:=Cj (a:=low) (b:=low) aa aa;have m2:=Cj (a:=high) (b:=high) aa aa
  have w1:ay (low*low)<=W+W:=Z1 wd aa;have w2:ay (high*high)<=W+W:=Z1 wd aa;have d1:=zw (a:=low*low) (b:=unit) aa aa aa;have d2:=zw (a:=high*high) (b:=unit) aa aa aa;have lowle:low*low/unit<=high*high/unit:=Nat.div_le_div_right (Zr hlh hlh)
  have hi4:high*high/unit+4<=4*unit:=by
   have e1:high*high<=(2*unit-1)*(2*unit-1):=Zr aa aa
   have e2:(2*unit-1)*(2*unit-1)+4*unit=4*unit*unit+1:=by
    have⟨x,hx⟩:∃x,unit=x+1:=⟨unit-1,aa⟩;subst hx;rw[show 2*(x+1)-1=2*x+1 by omega];simp only[Nat.add_mul,Zm,Y1,W0,Nat.mul_assoc,Y2 x 2];omega
   have e3:high*high<(4*unit-3)*unit:=by
    rw[Nat.sub_mul];have:4*unit*unit≥3*unit:=Zu _ aa;omega
   have:=(Xf aa).2 e3;omega
  have eqF:uB unit two (r+1) low high out=cond (Nat.ble two (low*low/unit)) (uB unit two r (low*low/unit/2) ((high*high/unit+1)/2+1) (out+out+1))
   (cond (Nat.ble two (high*high/unit+1)) Vc (uB unit two r (low*low/unit) (high*high/unit+1) (out+out))):=rfl
  rw[eqF]at h0 h1;generalize low*low/unit=L1 at *;generalize high*high/unit=H0 at *;have t2:ay (two+two)<=W+1:=we hW hW;have v1:ay L1<=W+1:=Z1 (iq aa) t2;have v2:ay H0<=W+1:=Z1 (iq aa) t2;have v3:ay (H0+1)<=W+1:=Z1 (iq aa) t2;have a1:=zy (a:=H0) (b:=1) aa (by simp[x9]);rw[og]at a1
  have a2:=zy (a:=out) (b:=out) aa aa;have vo:ay (out+out)<=W+i+1:=we ho ho;have a3:=zy (a:=out+out) (b:=1) aa (by simp[x9]);rw[og]at a3;have c1:=Jp (a:=L1) (b:=two) aa aa;have c2:=Jp (a:=H0+1) (b:=two) aa aa;have g1:=aaa (a:=L1) (b:=two);have g2:=aaa (a:=H0+1) (b:=two)
  have d3:=zw (a:=L1) (b:=2) aa aa (by rw[show ay 2=1 by decide+kernel];omega);have d4:=zw (a:=H0+1) (b:=2) aa aa (by rw[show ay 2=1 by decide+kernel];omega);rw[HD]at d3 d4;have v4:ay ((H0+1)/2)<=W+1:=Z1 (iq aa) t2;have a4:=zy (a:=(H0+1)/2) (b:=1) aa (by simp[x9]);rw[og]at a4
  generalize Big.cmp L1 two=C1 at *;generalize Big.cmp (H0+1) two=C2 at *;apply aL;simp[FB,hiN];apply cx;simp;refine cd m1 ?_;simp;refine cd d1 ?_;simp;refine cd m2 ?_;simp;refine cd d2 ?_;simp;refine cd a1 ?_;simp;refine cd a2 ?_;simp;apply cx;simp;refine cd c1 ?_;simp;apply cx;cases q1:Nat.ble two L1 with
  | true=>
   rw[q1]at g1 h0 h1;simp only[cond_true]at h0 h1;have g1':0<=C1:=by simpa using g1
   have b1:two<=L1:=Nat.le_of_ble_eq_true q1;simp[g1'];refine cd a3 ?_;simp;refine cd d3 ?_;simp;refine cd d4 ?_;simp;refine cd a4 ?_;simp(disch:=omega) [];have:=ih (L1/2) ((H0+1)/2+1) (out+out+1) aa aa aa (ail ho) h0 h1;trivial
  | false=>
   rw[q1]at g1 h0 h1;simp only[cond_false]at h0 h1;have g1':¬0<=C1:=by simpa using g1
   simp[g1'];refine cd c2 ?_;simp;cases q2:Nat.ble two (H0+1)with
   | true=>
    rw[q2]at g2 h1;have g2':0<=C2:=by simpa using g2
    simp_all
   | false=>
    rw[q2]at g2 h0 h1;simp only[cond_false]at h0 h1;have g2':¬0<=C2:=by simpa using g2
    have b2:¬two<=H0+1:=λh=>by simp_all[Nat.ble_eq_true_of_le]
    simp(disch:=omega) [g2'];have:=ih L1 (H0+1) (out+out) aa aa aa aa h0 h1;trivial
theorem ahC(v:Nat)(h:Hp):out (Im (Wf v)) (.tup [S (aA v),B Th]) h:=fR rfl rfl
theorem ahD(h:Hp):out (Im Vc) (.tup [S [],B SM]) h:=fR rfl rfl
theorem amM{p more:Nat}(hp:2<=p)(hp2:p<1000000)(hm1:30<=more)(hm:more<=4000)(hn:n<=4000):Ds F.size_digits [I p,I n,I more] (Im (qg p n more)):=by
 apply afl;have⟨hk0,hpk,hk1⟩:=GT (n:=p) aa
 have hk2:cQ p<=20:=by
  rcases Zi 20 (cQ p)with h|h
  .have:2^20<=2^(cQ p-1):=Z2 au aa;omega
  .exact h
 have⟨kk,hkk⟩:=bD (cQ p-1);have⟨mk,hmk⟩:=bD (more-kk);have e1:((cQ p:Nat):Int)-1=(kk:Int):=aa;have e2:(more:Int)-(kk:Int)=(mk:Int):=aa;have hcv:iK.wrap .u64 (p:Int)=(p:Int):=abE aa aa;have lb:=UM (n:=p) aa;have pw:=K2 hm;have pw2:=K2 (n:=mk) aa;have b1:=(Gp hm).2
 have b2:=(Gp (n:=mk) aa).2;have ad:=zy (a:=2^more) (b:=2^more) aa aa;have op:=Lh (n:=p) aa;have ok:=Lh (n:=kk) aa;have np:ay p<=6:=ef aa au;have nk:ay kk<=2:=ef aa au;have ml:=Cj (a:=p) (b:=2^mk) aa aa;have b3:ay (2^more+2^more)<=2000+1:=we b1 b1
 have PJ:p*2^mk<2^more+2^more:=by
  have h1:p*2^mk<2^cQ p*2^mk:=(Nat.mul_lt_mul_right (Xr au)).2 hpk;rw[<-Yq,show cQ p+mk=more+1 by omega,Nat.pow_succ]at h1;omega
 have hu:2<=2^more:=by
  have:2^1<=2^more:=Z2 au aa;omega
 have eF:qg p n more=uB (2^more) (2^more+2^more) n (p*2^mk) (p*2^mk) kk:=by
  unfold qg;rw[<-hkk,<-hmk]
 rw[eF];generalize 2^more=unit at *;generalize 2^mk=pm at *;generalize p*pm=low at *;simp[size_digits,hcv];refine cd lb ?_;simp(disch:=omega) [e1];refine cd pw ?_;simp;refine cd ad ?_;simp(disch:=omega) [e2];refine cd pw2 ?_;simp;refine cd op ?_;simp;refine cd ml ?_;simp;refine cd ok ?_;simp
 refine lo (YP hu rfl (W:=2001) b3 aa (N:=n) aa _ n 0 low low kk aa (Z8 _) PJ aa (λv hv _=>?_) (λhv=>?_))
 .simp_all[ahC]
 simp_all[ahD]
def A0(p n:Nat):Option Nat:=if p=2 then Wf (2^n)else qg p n (n+64)
theorem ai0{p v:Nat}(hp:2<=p)(hp2:p<1000000)(hn:n<=3900)(hv:A0 p n=Wf v):Ds F.xC [I p,I n] (S (aA v)):=by
 apply afj;unfold A0 at hv;by_cases h2:p=2
 .rw[ip h2]at hv;simp only[Z9]at hv;have e:((p:Int)=2):=aa;have pw:=K2 (n:=n) aa;rw[hv]at pw;simp[xC,e];refine cd pw ?_;simp[d9]
 .rw[iN h2]at hv;have e:¬((p:Int)=2):=aa;have dg:=amM (p:=p) (n:=n) (more:=n+64) hp hp2 aa aa aa;rw[hv]at dg;have⟨m,hm⟩:=bD (n+64);rw[<-hm]at dg;have e3:(n:Int)+64=(m:Int):=aa;simp(disch:=omega) [xC,e,e3];refine lo (aL ?_);simp[QU];refine cd dg ?_;simp[Im,d9]
abbrev Q:=Int×Nat
variable{s fs t:List Q}{x q:Q}
def gE(x:Q):Prop:=0<x.2∧Nat.gcd x.1.natAbs x.2=1
def qT(x:Q):bA:=[S (itoa x.1),S (aA x.2)]
def fD(n:Int)(d:Nat):Q:=(n/(Nat.gcd n.natAbs d:Nat),d/Nat.gcd n.natAbs d)
def dZ(a b:Q):Q:=fD (a.1*b.2+b.1*a.2) (a.2*b.2)
def ik(a b:Q):Q:=fD (a.1*b.1) (a.2*b.2)
def jm(a:Q):Q:=(-a.1,a.2)
def js(n d:Int):Q:=if d<0 then fD (-n) d.natAbs else fD n d.natAbs
theorem Em{n:Int}(h:g∣n.natAbs):(g:Int)∣n:=Int.natAbs_dvd_natAbs.1 (by simpa using h)
theorem G2(n:Int)(hd:0<d):gE (fD n d):=by
 have hg:0<Nat.gcd n.natAbs d:=W7 _ hd;have⟨g,hgg⟩:=bD (Nat.gcd n.natAbs d);have h1:g∣n.natAbs:=by rw[hgg];exact Wj ..
 have h2:g∣d:=by rw[hgg];exact Nat.gcd_dvd_right ..
 unfold fD;rw[<-hgg]at hg ⊢;refine⟨V6 (Xk hd h2) hg,?_⟩
 have e:(n/(g:Int)).natAbs=n.natAbs/g:=by
  rw[Int.natAbs_ediv_of_dvd (Em h1),Int.natAbs_natCast]
 simp only[e];rw[Nat.gcd_div h1 h2,<-hgg,Nat.div_self hg]
theorem aiW{n:Int}(h:Nat.gcd n.natAbs d=1):fD n d=(n,d):=by unfold fD;rw[h];simp
theorem Uc(n:Int)(d:Nat):(fD n d).1.natAbs<=n.natAbs∧(fD n d).2<=d:=by
 have⟨g,hgg⟩:=bD (Nat.gcd n.natAbs d);have h1:g∣n.natAbs:=by rw[hgg];exact Wj ..
 unfold fD;rw[<-hgg];constructor
 .simp only;rw[Int.natAbs_ediv_of_dvd (Em h1),Int.natAbs_natCast];exact Yv ..
 .exact Yv ..
theorem ahY(k:KL)(h:Hp)(h0:Hp)(hl:RW h=RW h0):∀(m:Nat)(a b:Int),b.natAbs<=m->a.natAbs<9223372036854775807->b.natAbs<9223372036854775807 ->
  (∀c:Int,c.natAbs=Nat.gcd a.natAbs b.natAbs->k (.exit 0) [I c] h)->lp (DU DA) [] h0 [I a,I b] h k:=by
 intro m
 induction m with
 | zero=>
  intro a b hb ha hb2 hk;have hb0:b=0:=aa;subst hb0;apply aL;simp[DU];exact hk a ac
 | succ m ih=>
  intro a b hb ha hb2 hk;apply aL;by_cases hb0:b=0
  .subst hb0;simp[DU];exact hk a ac
  ·have hr:(a.tmod b).natAbs<b.natAbs:=by
    rw[Int.natAbs_tmod];exact Y5 _ aa
   have e:Nat.gcd b.natAbs (a.tmod b).natAbs=Nat.gcd a.natAbs b.natAbs:=by
    rw[Int.natAbs_tmod,V9,<-Nat.gcd_rec,V9]
   simp[DU,hb0,hl];exact ih b (a.tmod b) aa aa aa (λc hc=>hk c (hc.trans e))
theorem nh{a b a' b':bB}{h:Hp}(e1:a'=a)(e2:b'=b):out (.agg [S a,S b]) (.agg [S a',S b']) h:=by subst e1;subst e2;exact⟨h,by simp[bW,bY,norm]⟩
theorem WH{n:Int}(hd:0<d)(hn:n.natAbs<9223372036854775807)(hd2:d<9223372036854775807):Ds F.sJ [I n,I d] (.agg (qT (fD n d))):=by
 apply alo;have⟨g,hgg⟩:=bD (Nat.gcd n.natAbs d);have hg:0<g:=by rw[hgg];exact W7 _ hd
 have h1:g∣n.natAbs:=by rw[hgg];exact Wj ..
 have h2:g∣d:=by rw[hgg];exact Nat.gcd_dvd_right ..
 have hgd:g<=d:=Xk hd h2;have e1:n.tdiv (g:Int)=n/(g:Int):=Int.tdiv_eq_ediv_of_dvd (Em h1);have e2:(d:Int).tdiv (g:Int)=((d/g:Nat):Int):=by rw[Zs aa,<-Int.natCast_ediv]
 have e3:(n/(g:Int)).natAbs<=n.natAbs:=by
  rw[Int.natAbs_ediv_of_dvd (Em h1),Int.natAbs_natCast];exact Yv ..
 have e4:d/g<=d:=Yv ..;have eq:qT (fD n d)=[S (itoa (n/(g:Int))),S (aA (d/g))]:=by unfold qT fD;rw[<-hgg]
 rw[eq];generalize n/(g:Int)=nq at *;generalize d/g=dq at *;have i1:=HC (z:=nq) aa aa;have i2:=HC (z:=(dq:Int)) aa aa;rw[o8]at i2;have hg0:¬(g:Int)=0:=aa;simp[sJ];refine lo (ahY _ _ _ rfl (d:Int).natAbs n d (Z8 _) hn aa (λc hc=>?_));rw[Int.natAbs_natCast,<-hgg]at hc;simp
 have tail:∀u:Unit,bnd (aD .quo (I n) (I g)) λv6=>
   bp DA.p [(1,.vars [.d (.str []),.d (.str [])])] (.fn F.strconv_Itoa [] []) [v6] λv7 h=>
   bnd (aD .quo (I d) (I g)) λv8=>
   bp DA.p h (.fn F.strconv_Itoa [] []) [v8] λv9 h=>
   bnd (fG [(0,1),(1,1)] [.str [],.str []] [(0,v7),(1,v9)]) λv10=>
   aS h 2 (.ptr 0 1 0 2) v10 λ_ h=>
   bnd (aG h 2 (.ptr 0 1 0 2)) λv12=>
   out (.agg [S (itoa nq),S (aA dq)]) v12 h:=by
  intro _;simp(disch:=omega) [e1,e2,hg0];refine cd i1 ?_;simp(disch:=omega) [e2,hg0];refine cd i2 ?_;simp;exact nh rfl rfl
 by_cases hc0:c<0
 .have hcg : -c=(g:Int):=aa;refine fE (l:=[I g]) (h:=[(1,.vars [.d (.str []),.d (.str [])])]) (λq=>by simp(disch:=omega) [hc0,hcg]) ?_;exact tail ()
 .have hcg:c=(g:Int):=aa;subst hcg;refine fE (l:=[I g]) (h:=[(1,.vars [.d (.str []),.d (.str [])])]) (λq=>by simp[hc0]) ?_;exact tail ()
def qL(K:Nat)(x:Q):Prop:=ay x.1.natAbs<=K∧ay x.2<=K
theorem Ud{n:Int}{K:Nat}(h1:ay n.natAbs<=K)(h2:ay d<=K):qL K (fD n d):=
 ⟨Z1 (iq (Uc n d).1) h1,Z1 (iq (Uc n d).2) h2⟩
theorem qL.mono{K:Nat}(h:qL K x)(hl:K<=L):qL L x:=⟨Z1 h.1 hl,Z1 h.2 hl⟩
theorem Lu(hz:ay z.natAbs<=k)(hw:ay w.natAbs<=k):ay (z+w).natAbs<=k+1:=
 Z1 (iq (Xz z w)) (we hz hw)
theorem tW:ay (z*w).natAbs<=ay z.natAbs+ay w.natAbs:=by rw[Zl];exact wd
theorem ag0{a b:Q}{K:Nat}(ha:qL K a)(hb:qL L b):qL (K+L+1) (dZ a b):=by
 refine Ud (Lu ?_ ?_) ?_
 .have:=tW (z:=a.1) (w:=(b.2:Int));rw[Int.natAbs_natCast]at this;have:=ha.1;have:=hb.2;omega
 .have:=tW (z:=b.1) (w:=(a.2:Int));rw[Int.natAbs_natCast]at this;have:=hb.1;have:=ha.2;omega
 .have:=wd (a:=a.2) (b:=b.2);have:=ha.2;have:=hb.2;omega
theorem KT{a b:Q}{K:Nat}(ha:qL K a)(hb:qL L b):qL (K+L) (ik a b):=by
 refine Ud ?_ ?_
 .have:=tW (z:=a.1) (w:=b.1);have:=ha.1;have:=hb.1;omega
 .have:=wd (a:=a.2) (b:=b.2);have:=ha.2;have:=hb.2;omega
theorem agZ{a b:Q}(ha:gE a)(hb:gE b):gE (dZ a b):=G2 _ (Yk ha.1 hb.1)
theorem KS{a b:Q}(ha:gE a)(hb:gE b):gE (ik a b):=G2 _ (Yk ha.1 hb.1)
theorem ab5(hw0:0<w)(hz:ay z.natAbs<900000)(hw:ay w.natAbs<900000):Ds F.jh [S (itoa z),S (itoa w)] (.tup [S (itoa (z/w)),S (itoa (z%w)),I 0]):=by obtain⟨m,rfl⟩:∃m:Nat,w=m:=⟨w.toNat,aa⟩;rw[o8];exact Jo aa hz (by simpa using hw)
theorem Ua{n d:Int}(hd:d≠0)(hn:ay n.natAbs<800000)(hd2:ay d.natAbs<800000):Ds F.om [S (itoa n),S (itoa d)] (.agg (qT (js n d))):=by
 apply alp;have sg0:=tJ d
 have tail:∀(n:Int)(d:Nat),0<d->ay n.natAbs<800000->ay d<800000 ->
   bp DA.p [(1,.vars [.d (.str []),.d (.str [])])] (.fn F.uR [] []) [S (itoa n),S (aA d)] λv6 h=>
  bnd (jY .neq v6 (.d (.str [49]))) λv7=>
  jn (λl8 h=>
   bnd (fG [(0,1),(1,1)] [.str [],.str []] [(0,(ge l8 0)),(1,(ge l8 1))]) λv10=>
   aS h 2 (.ptr 0 1 0 2) v10 λ_ h=>
   bnd (aG h 2 (.ptr 0 1 0 2)) λv12=>
   out (.agg (qT (fD n d))) v12 h) λq9=>
   aQ v7 (
    bp DA.p h (.fn F.jh [] []) [S (itoa n),v6] λv13 h=>
    ext v13 0 λv14=>
    ext v13 1 λv15=>
    ext v13 2 λv16=>
    bp DA.p h (.fn F.jh [] []) [S (aA d),v6] λv17 h=>
    ext v17 0 λv18=>
    ext v17 1 λv19=>
    ext v17 2 λv20=>
    q9 [v14,v18] h) (
    q9 [S (itoa n),S (aA d)] h):=by
  intro n d hd hn hd2;have gc:=V2 (z:=n) (w:=(d:Int)) aa (by simpa using Nat.lt_trans hd2 au);rw[o8,Int.natAbs_natCast]at gc;have⟨g,hgg⟩:=bD (Nat.gcd n.natAbs d);have hg:0<g:=by rw[hgg];exact W7 _ hd
  have hgd:g<=d:=Xk hd (by rw[hgg];exact Nat.gcd_dvd_right ..);have eq:fD n d=(n/(g:Int),d/g):=by unfold fD;rw[<-hgg]
  rw[<-hgg]at gc;rw[eq];have ng:ay g<900000:=Ze (iq hgd) aa;have d1:=Jo (z:=n) hg aa ng;have d2:=zw (a:=d) hg aa ng;simp;refine cd gc ?_;by_cases h1:g=1
  .subst h1;rw[og];simp;refine fE (l:=[S (itoa n),S (aA d)]) (h:=[(1,.vars [.d (.str []),.d (.str [])])]) (λq=>by simp) ?_;simp;refine nh ac ac
  .have h49:¬aA g=[49]:=λh=>h1 (yy (h.trans og.symm))
   simp[h49];apply cx;simp[h49];refine cd d1 ?_;simp;refine cd d2 ?_;simp;exact nh rfl rfl
 simp[om];refine cd sg0 ?_;by_cases hneg:d<0
 .have s1:eS d = -1:=by unfold eS;rw[iN hd,ip hneg]
  rw[s1];have hd3:ay (-d).natAbs<800000:=by rw[X0];exact hd2
  have n1:=Dg (z:=n) aa;have n2:=Dg (z:=d) aa;have e:js n d=fD (-n) d.natAbs:=ip hneg;have ed:itoa (-d)=aA d.natAbs:=by rw[show -d=((d.natAbs:Nat):Int) by omega,o8]
  rw[e];rw[ed]at n2;simp;apply cx;simp;refine cd n1 ?_;simp;refine cd n2 ?_;have:=tail (-n) d.natAbs aa (by rw[X0];exact hn) hd2;simpa using this
 .have s1:eS d=1:=by unfold eS;rw[iN hd,iN hneg]
  rw[s1];have e:js n d=fD n d.natAbs:=iN hneg;have ed:itoa d=aA d.natAbs:=by conv=>lhs;rw[show d=((d.natAbs:Nat):Int) by omega,o8]
  rw[e,ed];simp;apply cx;simp;have:=tail n d.natAbs aa hn hd2;simpa using this
theorem IS(a:Q):Ds F.qS [.agg (qT a)] (.tup [I (if iw a.1<=9 then a.1 else 0),I (if ay a.2<=9 then a.2 else 0),B (decide (iw a.1<=9)&&decide (ay a.2<=9))]):=by
 apply alr;have l1:=Uu a.1;have l2:=Uu (a.2:Int);have e:iw (a.2:Int)=ay a.2:=by unfold iw;rw[iN aa,Int.natAbs_natCast];rfl
 rw[o8,e]at l2;simp[qS,qT];refine cd l1 ?_;by_cases h1:iw a.1<=9
 .rw[ip h1,ip h1,decide_eq_true h1];simp;refine cd l2 ?_;by_cases h2:ay a.2<=9
  .rw[ip h2,ip h2,decide_eq_true h2];simp;exact nZ rfl rfl rfl
  .rw[iN h2,iN h2,decide_eq_false h2];simp;exact nZ rfl rfl rfl
 .rw[iN h1,iN h1,decide_eq_false h1];simp;refine cd l2 ?_;by_cases h2:ay a.2<=9
  .rw[ip h2,ip h2,decide_eq_true h2];simp;exact nZ rfl rfl rfl
  .rw[iN h2,iN h2,decide_eq_false h2];simp;exact nZ rfl rfl rfl
theorem aiX(n:Int)(hd:0<d):(fD n d).1*(d:Int)=n*((fD n d).2:Int)∧0<(fD n d).2:=by
 have⟨g,hg⟩:=bD (Nat.gcd n.natAbs d);have hg0:0<g:=by rw[hg];exact W7 _ hd
 have⟨d',hd'⟩:g∣d:=by rw[hg];exact Nat.gcd_dvd_right ..
 have⟨n',hn'⟩:(g:Int)∣n:=Em (by rw[hg];exact Wj ..)
 have e1:(fD n d).1=n':=by
  simp only[fD,<-hg];rw[hn'];exact Int.mul_ediv_cancel_left _ aa
 have e2:(fD n d).2=d':=by
  simp only[fD,<-hg];rw[hd'];exact Yd _ hg0
 rw[e1,e2];refine⟨?_,?_⟩
 .rw[hn',hd',Int.natCast_mul,<-Int.mul_assoc,Yi n' g]
 .rcases Zd d' with h|h
  .rw[h]at hd';omega
  .exact h
theorem aiU{n:Int}(h:0<d):js n (d:Int)=fD n d:=by rfl
theorem Ue{n:Int}(hd:0<d)(hn:ay n.natAbs<800000)(hd2:ay d<800000):Ds F.om [S (itoa n),S (aA d)] (.agg (qT (fD n d))):=by have:=Ua (n:=n) (d:=(d:Int)) aa hn cU;trivial
theorem Pb(hz:ay z.natAbs<400000)(hb:ay b<400000):Ds F.gy [S (itoa z),S (aA b)] (S (itoa (z*b))):=by grind[xc,o8]
theorem Fh(h:Hp)(s t:bB):bY h [.agg [S s,S t]]=Wf ([.agg [S s,S t]],h):=by rfl
theorem Fi{a:Q}(h1:iw a.1<=9)(h2:ay a.2<=9):a.1.natAbs<1000000000∧a.2<1000000000:=
 ⟨vB h1,Z0 (eT _) (Z2 au h2)⟩
theorem WI{a b:Q}(ha:gE a)(hb:gE b)(la:qL 100000 a)(lb:qL 100000 b):Ds F.wI [.agg (qT a),.agg (qT b)] (.agg (qT (ik a b))):=by
 apply alx;have⟨la1,la2⟩:=la;have⟨lb1,lb2⟩:=lb;have b1:=IS a;have b2:=IS b;have m1:=xc (z:=a.1) (w:=b.1) aa aa;have m2:=Cj (a:=a.2) (b:=b.2) aa aa;have n1:=tW (z:=a.1) (w:=b.1);have n2:=wd (a:=a.2) (b:=b.2);have hd:0<a.2*b.2:=Yk ha.1 hb.1
 have lw:Ds F.om [S (itoa (a.1*b.1)),S (aA (a.2*b.2))] (.agg (qT (ik a b))):=Ue (n:=a.1*b.1) hd aa aa;have ff:(a.1*b.1).natAbs<9223372036854775807->a.2*b.2<9223372036854775807->Ds F.sJ [I (a.1*b.1),I (a.2*b.2:Nat)] (.agg (qT (ik a b))):=λh1 h2=>WH hd h1 h2
 have⟨x,y,hxy⟩:∃x y,qT (ik a b)=[S x,S y]:=⟨_,_,rfl⟩;rw[hxy]at lw ff ⊢;simp only[qT]at b1 b2 ⊢
 have tail:∀u:Unit,bp DA.p [(1,.vars [S (itoa a.1),S (aA a.2)]),(1,.vars [S (itoa b.1),S (aA b.2)]),(1,.vars [.d (.str []),.d (.str [])])] (.fn F.gy [] []) [S (itoa a.1),S (itoa b.1)] λv15 h=>
  bnd (ii 1 (.ptr 0 1 0 2)) λv16=>
  bnd (ld1 h v16) λv17=>
  bnd (ii 1 (.ptr 1 1 0 2)) λv18=>
  bnd (ld1 h v18) λv19=>
  bp DA.p h (.fn F.gy [] []) [v17,v19] λv20 h=>
  bp DA.p h (.fn F.om [] []) [v15,v20] λv21 h=>
  aS h 2 (.ptr 2 1 0 2) v21 λ_ h=>
  bnd (aG h 2 (.ptr 2 1 0 2)) λv23=>
  out (.agg [S x,S y]) v23 h:=by
  intro _;simp;refine cd m1 ?_;simp;refine cd m2 ?_;simp;refine cd lw ?_;simp;exact nh rfl rfl
 simp[wI];refine cd b1 ?_ (Fh ..);cases g1:decide (iw a.1<=9)&&decide (ay a.2<=9)with
 | false=>
  simp_all[cx]
 | true=>
  simp only[Z7,dT]at g1;have⟨s1,s2⟩:=Fi g1.1 g1.2;rw[ip g1.1,ip g1.2];simp;apply cx;simp;refine cd b2 ?_ (Fh ..);cases g2:decide (iw b.1<=9)&&decide (ay b.2<=9)with
  | false=>
   simp_all
  | true=>
   simp only[Z7,dT]at g2;have⟨s3,s4⟩:=Fi g2.1 g2.2;rw[ip g2.1,ip g2.2];have p1:(a.1*b.1).natAbs<1000000000*1000000000:=by rw[Zl];exact Yg s1 s3
   have p2:a.2*b.2<1000000000*1000000000:=Yg s2 s4;have e2:(a.2:Int)*(b.2:Int)=((a.2*b.2:Nat):Int):=ac;have ff:=ff aa aa;have⟨N,hN⟩:=bZ (a.1*b.1);rw[hN]at p1 ff;generalize a.2*b.2=D at *;simp(disch:=try exact cj)[e2,hN];refine cd ff ?_;simp[nh]
theorem MS{a b:Q}(ha:gE a)(hb:gE b)(la:qL 100000 a)(lb:qL 100000 b):Ds F.qf [.agg (qT a),.agg (qT b)] (.agg (qT (dZ a b))):=by
 apply alA;have⟨la1,la2⟩:=la;have⟨lb1,lb2⟩:=lb;have b1:=IS a;have b2:=IS b;have m1:=Pb (z:=a.1) (b:=b.2) aa aa;have m2:=Pb (z:=b.1) (b:=a.2) aa aa;have m3:=Cj (a:=a.2) (b:=b.2) aa aa;have n1:=tW (z:=a.1) (w:=(b.2:Int));have n2:=tW (z:=b.1) (w:=(a.2:Int))
 have n3:=wd (a:=a.2) (b:=b.2);rw[Int.natAbs_natCast]at n1 n2;have n4:ay (a.1*b.2+b.1*a.2).natAbs<=200000+1:=Lu aa aa;have ad:=zx (z:=a.1*b.2) (w:=b.1*a.2) aa aa;have hd:0<a.2*b.2:=Yk ha.1 hb.1
 have lw:Ds F.om [S (itoa (a.1*b.2+b.1*a.2)),S (aA (a.2*b.2))] (.agg (qT (dZ a b))):=Ue hd aa aa;have ff:(a.1*b.2+b.1*a.2).natAbs<9223372036854775807->a.2*b.2<9223372036854775807->Ds F.sJ [I (a.1*b.2+b.1*a.2),I (a.2*b.2:Nat)] (.agg (qT (dZ a b))):=λh1 h2=>WH hd h1 h2
 by_cases one:a.2=1∧b.2=1
 .have ad1:=zx (z:=a.1) (w:=b.1) aa aa
  have eq:dZ a b=(a.1+b.1,1):=by
   unfold dZ;rw[one.1,one.2];rw[aiW ac];simp
  rw[eq];have t1:qT a=[S (itoa a.1),S [49]]:=by unfold qT;rw[one.1,og]
  have t2:qT b=[S (itoa b.1),S [49]]:=by unfold qT;rw[one.2,og]
  have t3:qT (a.1+b.1,1)=[S (itoa (a.1+b.1)),S [49]]:=by unfold qT;rw[og]
  rw[t1,t2,t3];simp[qf];refine cd ad1 ?_;simp[nh]
 have⟨x,y,hxy⟩:∃x y,qT (dZ a b)=[S x,S y]:=⟨_,_,rfl⟩;rw[hxy]at lw ff ⊢;simp only[qT]at b1 b2 ⊢
 have tail:∀u:Unit,bp DA.p [(1,.vars [S (itoa a.1),S (aA a.2)]),(1,.vars [S (itoa b.1),S (aA b.2)]),(1,.vars [.d (.str []),.d (.str [])])] (.fn F.gy [] []) [S (itoa a.1),S (aA b.2)] λv30 h=>
   bnd (ii 0 (.ptr 1 1 0 2)) λv31=>
   bnd (ld1 h v31) λv32=>
   bnd (ii 1 (.ptr 0 1 0 2)) λv33=>
   bnd (ld1 h v33) λv34=>
   bp DA.p h (.fn F.gy [] []) [v32,v34] λv35 h=>
   bp DA.p h (.fn F.ji [] []) [v30,v35] λv36 h=>
   bnd (ii 1 (.ptr 0 1 0 2)) λv37=>
   bnd (ld1 h v37) λv38=>
   bnd (ii 1 (.ptr 1 1 0 2)) λv39=>
   bnd (ld1 h v39) λv40=>
   bp DA.p h (.fn F.gy [] []) [v38,v40] λv41 h=>
   bp DA.p h (.fn F.om [] []) [v36,v41] λv42 h=>
   aS h 2 (.ptr 2 1 0 2) v42 λ_ h=>
   bnd (aG h 2 (.ptr 2 1 0 2)) λv44=>
   out (.agg [S x,S y]) v44 h:=by
  intro _;simp;refine cd m1 ?_;simp;refine cd m2 ?_;simp;refine cd ad ?_;simp;refine cd m3 ?_;simp;refine cd lw ?_;simp;exact nh rfl rfl
 have MT:¬(aA a.2=[49]∧aA b.2=[49]):=λh=>one ⟨yy (h.1.trans og.symm),yy (h.2.trans og.symm)⟩
 have walk:∀u:Unit,bnd (aG [(1,.vars [S (itoa a.1),S (aA a.2)]),(1,.vars [S (itoa b.1),S (aA b.2)]),(1,.vars [.d (.str []),.d (.str [])])] 2 (.ptr 0 1 0 2)) λv19=>
  bp DA.p [(1,.vars [S (itoa a.1),S (aA a.2)]),(1,.vars [S (itoa b.1),S (aA b.2)]),(1,.vars [.d (.str []),.d (.str [])])] (.fn F.qS [] []) [v19] λv20 h=>
  ext v20 0 λv21=>
  ext v20 1 λv22=>
  ext v20 2 λv23=>
  jn (λl24 h=>
   bnd (ii 0 (.ptr 0 1 0 2)) λv26=>
   bnd (ld1 h v26) λv27=>
   bnd (ii 1 (.ptr 1 1 0 2)) λv28=>
   bnd (ld1 h v28) λv29=>
   bp DA.p h (.fn F.gy [] []) [v27,v29] λv30 h=>
   bnd (ii 0 (.ptr 1 1 0 2)) λv31=>
   bnd (ld1 h v31) λv32=>
   bnd (ii 1 (.ptr 0 1 0 2)) λv33=>
   bnd (ld1 h v33) λv34=>
   bp DA.p h (.fn F.gy [] []) [v32,v34] λv35 h=>
   bp DA.p h (.fn F.ji [] []) [v30,v35] λv36 h=>
   bnd (ii 1 (.ptr 0 1 0 2)) λv37=>
   bnd (ld1 h v37) λv38=>
   bnd (ii 1 (.ptr 1 1 0 2)) λv39=>
   bnd (ld1 h v39) λv40=>
   bp DA.p h (.fn F.gy [] []) [v38,v40] λv41 h=>
   bp DA.p h (.fn F.om [] []) [v36,v41] λv42 h=>
   aS h 2 (.ptr 2 1 0 2) v42 λ_ h=>
   bnd (aG h 2 (.ptr 2 1 0 2)) λv44=>
   out (.agg [S x,S y]) v44 h) λq25=>
   aQ v23 (
    bnd (aG h 2 (.ptr 1 1 0 2)) λv45=>
    bp DA.p h (.fn F.qS [] []) [v45] λv46 h=>
    ext v46 0 λv47=>
    ext v46 1 λv48=>
    ext v46 2 λv49=>
    aQ v49 (
     bnd (aD .mul v21 v48) λv50=>
     bnd (aD .mul v47 v22) λv51=>
     bnd (aD .add v50 v51) λv52=>
     bnd (aD .mul v22 v48) λv53=>
     bp DA.p h (.fn F.sJ [] []) [v52,v53] λv54 h=>
     aS h 2 (.ptr 2 1 0 2) v54 λ_ h=>
     bnd (aG h 2 (.ptr 2 1 0 2)) λv56=>
     out (.agg [S x,S y]) v56 h) (
     q25 [] h)) (
    q25 [] h):=by
  intro _;simp;refine cd b1 ?_ (Fh ..);cases g1:decide (iw a.1<=9)&&decide (ay a.2<=9)with
  | false=>
   simp_all[cx]
  | true=>
   simp only[Z7,dT]at g1;have⟨s1,s2⟩:=Fi g1.1 g1.2;rw[ip g1.1,ip g1.2];simp;apply cx;simp;refine cd b2 ?_ (Fh ..);cases g2:decide (iw b.1<=9)&&decide (ay b.2<=9)with
   | false=>
    simp_all
   | true=>
    simp only[Z7,dT]at g2;have⟨s3,s4⟩:=Fi g2.1 g2.2;rw[ip g2.1,ip g2.2];have p1:(a.1*b.2).natAbs<1000000000*1000000000:=by rw[Zl,Int.natAbs_natCast];exact Yg s1 s4
    have p3:(b.1*a.2).natAbs<1000000000*1000000000:=by rw[Zl,Int.natAbs_natCast];exact Yg s3 s2
    have p2:a.2*b.2<1000000000*1000000000:=Yg s2 s4;have e2:(a.2:Int)*(b.2:Int)=((a.2*b.2:Nat):Int):=ac;have ff:=ff aa aa;have⟨N,hN⟩:∃N,a.1*(b.2:Int)=N:=⟨_,rfl⟩;have⟨M,hM⟩:∃M,b.1*(a.2:Int)=M:=⟨_,rfl⟩;rw[hN]at p1 ff;rw[hM]at p3 ff;generalize a.2*b.2=D at *;simp(disch:=try exact cj)[e2,hN,hM];refine cd ff ?_
    simp[nh]
 by_cases c1:aA a.2=[49]
 .have c2:¬aA b.2=[49]:=λh=>MT ⟨c1,h⟩
  simp_all[qf]
 simp_all[qf]
theorem WG(a:Q):Ds F.wH [.agg (qT a)] (I (eS a.1)):=by apply alt;simp[wH,qT];refine cd (tJ a.1) ?_;exact df rfl
theorem afF(z:Int):eS z=0↔z=0:=by
 unfold eS;constructor
 .intro h;split at h
  .assumption
  .split at h<;>omega
 .intro h;rw[ip h]
theorem SQ{a b:bB}{c:Int}{h:Hp}:out (.tup [.agg [S a,S b],I c]) (.tup [.agg [S a,S b],I c]) h:=⟨h,by simp[bW,bY,norm]⟩
theorem alH{n d:Int}(hd:d≠0)(hn:ay n.natAbs<800000)(hd2:ay d.natAbs<800000):Ds F.By [S (itoa n),S (itoa d)] (.tup [.agg (qT (js n d)),I 0]):=by
 apply alv;have sg0:=tJ d;have hs:¬eS d=0:=λh=>hd ((afF _).1 h)
 have lw:=Ua hd hn hd2;have⟨x,y,hxy⟩:∃x y,qT (js n d)=[S x,S y]:=⟨_,_,rfl⟩;rw[hxy]at lw ⊢;generalize eS d=sb at *;simp[By];refine cd sg0 ?_;simp[hs];refine cd lw ?_;simp;exact SQ
theorem Lt(h1 : -9223372036854775808<z)(h2:z<9223372036854775808):ay z.natAbs<=19:=ef aa au
theorem MR{n d:Int}(hd:d≠0)(h1 : -9223372036854775808<n)(h2:n<9223372036854775808)(h3 : -9223372036854775808<d)(h4:d<9223372036854775808):Ds F.sL [I n,I d] (.tup [.agg (qT (js n d)),I 0]):=by apply alu;have nw:=alH (n:=n) hd (Ze (Lt h1 h2) au) (Ze (Lt h3 h4) au);have⟨x,y,hxy⟩:∃x y,qT (js n d)=[S x,S y]:=⟨_,_,rfl⟩;rw[hxy]at nw ⊢;simp[sL];refine cd (kq h1 h2) ?_;simp;refine cd (kq h3 h4) ?_;simp;refine cd nw ?_;simp;exact SQ
@[simp] theorem arp (f:α->D)(l:List α)(KK:Nat->Option (Nat×Nat))(cs:bA)(r:List (Nat×V))(off sz:Nat):
  H8 (Wf (off,sz)) KK cs (ai f l) r=if 1=sz∧off+1<=RW cs then qU KK (cs.take off++[ai f l]++cs.drop (off+1)) r else Vc:=id rfl
theorem apU(s:bB):Ds F.lE [S s] (S (fu s)):=by apply O8;simp[lE];refine cd (Cu s) ?_;simp<;>exact d9 rfl
theorem QX(a b:bB)(ha:RW a<1000000000)(hb:RW b<1000000000):Ds F.vt [.agg [S a,S b]] (B (vA a&&decide (RW b<=30))):=by
 apply aff;simp[vt];refine cd (apU a) ?_;have hl:RW (fu a)<=RW a:=by unfold fu;split<;>simp
 by_cases h1:RW (fu a)<=30
 .have h1':(RW (fu a):Int)<=30:=aa;by_cases h2:RW b<=30
  .have h2':(RW b:Int)<=30:=aa;simp[h1',h2']<;>exact eG (by grind[vA])
  .have h2':¬(RW b:Int)<=30:=aa;simp[h1',h2']<;>exact eG ae
 .have h1':¬(RW (fu a):Int)<=30:=aa;simp[h1']<;>exact eG (by simp[vA,h1])
def E6(x:Tx):Bool:=vA x.1&&decide (x.2.length<=30)
def qz:List Tx->Int
 |[]=>0
 |x::q=>cond (jW x.1 x.2).isSome (cond (E6 x) (qz q) 4) 2
theorem QS{s:List Tx}(hN:RW s<1000000000)(hl:∀x∈s,x.1.length<1000000000∧x.2.length<1000000000)(k:KL):∀(q a:List Tx),a++q=s->(qz q=0->k (.exit 0) [] [ah])->(qz q≠0->∀h,k .ret [I (qz q)] h) ->
  lp (FC DA (de bb s) (I (RW s))) [0] [ah] [I (RW a)] [ah] k
 | []=>by
  intro a ha h0 h1;simp at ha;subst ha;apply aL;simp[FC];exact h0 rfl
 | x::q=>by
  intro a ha h0 h1;have DQ:RW a<RW s:=by subst ha;simp
  have hx:nth ([],[]) s (RW a)=x:=by subst ha;simp
  have hxl:=hl x ae;have e1:=λh:Hp=>kX bb dV s h (k:=.i64) (i:=(RW a:Int)) aa aa
  have e2:=λh:Hp=>kV bb dV ([],[]) s h DQ
  simp[hx,Int.toNat_natCast]at e1 e2;have ih:=QS hN hl k q (a++[x]) ae;apply aL;simp(disch:=try exact cj)[FC,e1,e2,bb];refine cd (N2 x.1 x.2 hxl.1 hxl.2) ?_;cases g3:(jW x.1 x.2).isSome with
  | false=>
   simp only[qz,g3,cond_false]at h1;simp[g3]
   grind
  | true=>
   simp[g3];refine cd (QX x.1 x.2 hxl.1 hxl.2) ?_;cases g1:E6 x with
   | false=>
    simp only[qz,g3,g1,cond_true,cond_false]at h1;rw[show(vA x.1&&decide (x.2.length<=30))=SM from g1];simp
    grind
   | true=>
    simp only[qz,g3,g1,cond_true]at h0 h1;have:=ih h0 h1;rw[show(vA x.1&&decide (x.2.length<=30))=Th from g1];simp(disch:=omega) [clean,fA,gY,im,fC,dl]
    simp_all
def xL(n:Nat)(s:List Tx):Int:=if RW s=n then qz s else 5
theorem QR{s:List Tx}(hl:∀x∈s,x.1.length<1000000000∧x.2.length<1000000000)(hs:RW s<1000000000):Ds F.tG [ai di p,de bb s] (I (xL (RW p) s)):=by
 have lp':bf (ai di p)=Wf (I (RW p)):=rfl;have ls':bf (de bb s)=Wf (I (RW s)):=rfl;apply afn;by_cases h1:RW s=RW p
 .have h1':((RW s:Int)=(RW p:Int))=True:=eq_true aa;have e:xL (RW p) s=qz s:=ip h1;rw[e];simp[tG,lp',ls',h1'];refine lo (QS hs hl _ s [] rfl (λg=>?_) (λg h=>?_))
  .simp_all
  simp
 .have h1':¬((RW s:Int)=(RW p:Int)):=aa;have e:xL (RW p) s=5:=iN h1;rw[e];simp[tG,lp',ls',h1']<;>exact df rfl
def FE(p:aw)(s:List Tx):Int:=if d8 p=0 then xL (RW p) s else d8 p
theorem afy{s:List Tx}(hp:RW p<1000000000)(hl:∀x∈s,x.1.length<1000000000∧x.2.length<1000000000)(hs:RW s<1000000000):Ds F.vw [ai di p,de bb s] (I (FE p s)):=by
 apply afv;simp[vw];refine cd (AG hp) ?_;by_cases h:d8 p=0
 .have e:FE p s=xL (RW p) s:=ip h;rw[e];simp[h];refine cd (QR hl hs) ?_;simp<;>exact df rfl
 .have e:FE p s=d8 p:=iN h;rw[e];simp[h]<;>exact df rfl
variable{h:Hp}{a:V}{r:aw}
theorem M9(k:KL):∀(q q' p p':aw),RW p=RW p'->RW q=RW q'->RW (p++q)<1000000000->(q=q'->k (.exit 0) [] [])->(q≠q'->k .ret [B SM] []) ->
  lp (CE DA (ai di (p++q)) (ai di (p'++q')) (I (RW (p++q)))) [] [] [I (RW p)] [] k
 | []=>by
  intro q' p p' hp hq hN h0 h1;have:q'=[]:=Zo hq.symm;subst this;apply aL;simp[CE];exact h0 rfl
 | x::q=>by
  intro q' p p' hp hq hN h0 h1;cases q' with
  |nil=>simp at hq
  |cons y q'=>
  simp at hq hN;apply aL;have hy:nth 0 (p'++y::q') (RW p)=y:=by rw[hp];simp
  have e1:bq [] 1 (ai di (p'++y::q')) (.d (.int .i64 (RW p:Int)))=Wf (.dptr ((p'++y::q').map di) (RW p)):=ui di _ [] rfl dE;have e2:=UT (p'++y::q') [] (j:=RW p) dE;rw[hy]at e2;simp(disch:=try exact cj)[CE,e1,e2];by_cases h:x=y
  .subst h;simp(disch:=omega) [];have:=M9 k q q' (p++[x]) (p'++[x]) (by simp[hp]) hq dE (λg=>h0 (by rw[g])) (λg=>h1 (by simpa using g));simpa using this
  .simp[h];exact h1 (by simp[h])
theorem XH{x:aw}(hx:RW x<1000000000)(hy:RW y<1000000000):Ds F.vk [ai di x,ai di y] (B (decide (x=y))):=by
 apply aeH;by_cases h:RW x=RW y
 .simp[vk,h];rw[<-h];refine lo (M9 _ x y [] [] rfl h (by simpa using hx) (λg=>?_) (λg=>?_))
  .simp;exact eG (by simp[g])
  .simp;exact eG (by simp[g])
 .simp[vk,h];exact eG (by simp;intro e;exact h (by rw[e]))
theorem WS{α:Type}(f:α->bF){n:Nat}(hf:∀x,RW (f x)=n)(x:α):∀(l:List α)(j:Nat),j<RW l->(l.flatMap f).take (j*n)++f x++(l.flatMap f).drop (j*n+n)=(l.set j x).flatMap f
 |[],j,h=>by simp at h
 | y::l,0,h=>by
  simp only[Wc,List.take_zero,List.nil_append,Zh,Xy,List.set_cons_zero];rw[Wv (hf y)]
 | y::l,j+1,h=>by
  have ih:=WS f hf x l j (by simpa using h);have e1:(j+1)*n=RW (f y)+j*n:=by rw[hf,X3,Nat.add_comm]
  simp only[Xy,List.set_cons_succ];rw[<-ih,e1,Xl,List.take_length_add_append,List.drop_length_add_append,List.append_assoc,List.append_assoc,List.append_assoc]
def tx(x:Q):Tx:=(itoa x.1,aA x.2)
def aW(s:List Q):V:=de bb (s.map tx)
theorem Sp(h:ay z.natAbs<=400):rd (itoa z)=Wf z:=by
 rw[Sq,Bl,HB];have hl:RW (aA z.natAbs)=ay z.natAbs:=fp _ _;have hc:=Eo z.natAbs;have hh:=nA z.natAbs;simp only[iJ,Z7,Y4,Xg,decide_eq_false_iff_not]at hc;have⟨⟨h1,h2⟩,h3⟩:=hc;have MT:=DG z.natAbs
 have hcond:¬((aA z.natAbs).headD 0=48∧(1<RW (aA z.natAbs)∨decide (z<0)=Th)):=by
  rintro⟨g1,g2⟩;have g3:¬1<RW (aA z.natAbs):=λg=>by rcases h3 with h3|h3<;>contradiction
  rcases g2 with g2|g2
  .exact g3 g2
  .have g4:RW (aA z.natAbs)=1:=by have:=nj z.natAbs;omega
   have⟨c,hc⟩:=List.length_eq_one_iff.1 g4;rw[hc]at g1;simp only[List.headD_cons]at g1;subst g1;have:=yB.1 hc;simp[dT]at g2;omega
 rw[ip ⟨aa,MT,hcond,h2⟩,hh];by_cases hz:z<0
 .rw[ip (decide_eq_true hz)];congr 1;omega
 .rw[iN (by simpa using hz)];congr 1;omega
theorem Gd(hx:gE x)(hl:qL 30 x):jW (tx x).1 (tx x).2=Wf x:=by
 unfold jW tx;have h2:=Sp (z:=(x.2:Int)) (by rw[Int.natAbs_natCast];have:=hl.2;omega);rw[o8]at h2;rw[Sp (by have:=hl.1;omega)];simp only[h2];have h0:(0:Int)<x.2:=by have:=hx.1;omega
 rw[ip ⟨h0,by rw[Int.natAbs_natCast];exact hx.2⟩,Int.natAbs_natCast]
theorem Qc(hl:qL 30 x):E6 (tx x)=Th:=by unfold E6 vA tx;simp only[Bl];have h1:RW (aA x.1.natAbs)=ay x.1.natAbs:=fp _ _;have h2:RW (aA x.2)=ay x.2:=fp _ _;rw[h1,h2];have:=hl.1;have:=hl.2;simp;omega
def jN(s:List Q):Prop:=∀x∈s,gE x∧qL 30 x
theorem JK:∀{s:List Q},jN s->qz (s.map tx)=0
 |[],_=>rfl
 | x::s,h=>by
  have⟨h1,h2⟩:=h x ac;simp[Zv,qz];rw[Gd h1 h2,Qc h2,JK λy hy=>h y (by simp[hy])];rfl
theorem ER{K:Nat}(hl:qL K x):(tx x).1.length<=K+1∧(tx x).2.length<=K:=by
 unfold tx itoa;have h1:RW (aA x.1.natAbs)=ay x.1.natAbs:=fp _ _;have h2:RW (aA x.2)=ay x.2:=fp _ _;have:=hl.1;have:=hl.2;simp only;constructor
 .split
  .simp;omega
  .omega
 .omega
theorem aos(hx:gE x)(hl:qL 30 x):Ds F.ut [.agg (qT x)] (I 0):=by have⟨l1,l2⟩:=ER hl;have:=N2 (tx x).1 (tx x).2 aa aa;rw[Gd hx hl]at this;exact this
theorem afD(hl:qL 30 x):Ds F.vt [.agg (qT x)] (B Th):=by
 have⟨l1,l2⟩:=ER hl;have:=QX (tx x).1 (tx x).2 aa aa
 rwa [show(vA (tx x).1&&decide ((tx x).2.length<=30))=Th from Qc hl]at this
theorem aor(hs:jN s)(hp:RW s<1000000):Ds F.tG [ai di p,aW s] (I (if RW s=RW p then 0 else 5)):=by
 have:=QR (p:=p) (s:=s.map tx) (λx hx=>by
  obtain⟨y,hy,rfl⟩:=Zw.1 hx;have⟨l1,l2⟩:=ER (hs y hy).2;omega) dE
 unfold xL at this;rw[List.length_map,JK hs]at this;exact this
theorem GJ(h1 : -9223372036854775808<z)(h2:z<9223372036854775808):Ds F.tF [I z] (.agg (qT (z,1))):=by apply afi;simp[qT,og];simp[tF];refine cd (kq h1 h2) ?_;simp;exact nh rfl rfl
theorem HA{h:Hp}{s:Nat}(hg:h[s]?=Wf (e,.data 2 (l.flatMap bb) ex fr))(hn:RW l=n)(hc:c<n)(k:iK):bq h 2 (.ref s e 0 n n (n*2)) (.d (.int k (c:Int)))=Wf (.ptr s e (c*2) (n*2)):=by have Rg:=jy bb dV l;simp only[bq,ig hg];rw[ip ⟨by rw[Rg,hn],aa,aa⟩];simp
theorem L0{h:Hp}{s:Nat}(hg:h[s]?=Wf (e,.data 2 (l.flatMap bb) ex fr))(hn:RW l=n)(hc:c<n):aG h 2 (.ptr s e (c*2) (n*2))=Wf (.agg [S (nth ([],[]) l c).1,S (nth ([],[]) l c).2]):=by have:=IN bb dV ([],[]) l (j:=c) aa;simp only[aG,ig hg];rw[ip (by rw[jy bb dV,hn]),this];rfl
theorem Fb{h:Hp}{s:Nat}(hg:h[s]?=Wf (e,.data 2 (l.flatMap bb) ex SM))(hn:RW l=n)(hc:c<n)(x:Tx):st h 2 (.ptr s e (c*2) (n*2)) (.agg [S x.1,S x.2])=Wf (h.set s (e,.data 2 ((l.set c x).flatMap bb) ex SM)):=by
 have hfs:=WS bb dV x l c aa;have Rg:=jy bb dV l;have Fm:c*2+2<=RW (l.flatMap bb):=by rw[Rg];omega
 rw[<-hfs];simp only[bb,st,jj,ig hg,iT,List.length_cons,List.length_nil,dY,dS,norm,bP,true_and];rw[ip ⟨by rw[Rg,hn],Fm⟩]
def gK:Tx:=([],[])
theorem agH(n:Nat):dF n [D.str [],D.str []]=(So n gK).flatMap bb:=by
 induction n with
 |zero=>rfl
 |succ n ih=>rw[List.replicate_succ,Xy,<-ih];rfl
theorem TN{s n e:Nat}{b:Bk}{h:Hp}{k:bH}{u:PU k}(hs:h[s]?=Wf (e,b))(hn:n<1000000000)(hk:k (.ref s (e+1) 0 n n (n*2)) (h.set s (e+1,.data 2 ((So n gK).flatMap bb) Th SM))) :
  rh (fS s 32 [.str [],.str []] h (I n) (I n)) k u:=by unfold rh fS;simp only;rw[ip ⟨aa,Int.le_refl _,ac,aa,aa⟩];simp only[new,hs,Int.toNat_natCast,agH,List.length_cons,List.length_nil];have:=jy bb dV (So n gK);rw[Y6]at this;rw[this];exact hk
theorem Q4{α:Type}(a b:α):∀(i r:Nat),(So i a++So (r+1) b).set i a=So (i+1) a++So r b
 |0,r=>by simp[List.replicate_succ]
 | i+1,r=>by
  rw[List.replicate_succ,List.cons_append,List.set_cons_succ,Q4 a b i r,<-List.cons_append,<-List.replicate_succ]
def zT:Tx:=tx (0,1)
def hz(h:Hp)(l:List Tx):Hp:=h++[(1,.data 2 (l.flatMap bb) Th SM)]
theorem DL(h:Hp)(l:List Tx):(hz h l)[RW h]?=Wf (1,.data 2 (l.flatMap bb) Th SM):=by simp[hz]
theorem MD(h:Hp)(l l':List Tx):(hz h l).set (RW h) (1,.data 2 (l'.flatMap bb) Th SM)=hz h l':=by simp[hz]
theorem OW{h:Hp}{n:Nat}(hn:n<1000000)(k:KL)(h0:Hp)(hh:RW h0=RW h+1):∀(r i:Nat),i+r=n->k (.exit 0) [] (hz h (So n zT)) ->
  lp (Fv DA (RW h) (.ref (RW h) 1 0 n n (n*2)) (I n)) [] h0 [I i] (hz h (So i zT++So r gK)) k
 | 0,i,hi,hk=>by
  have h1:¬(i:Int)<(n:Int):=aa;have h2:i=n:=aa;subst h2;apply aL;simp[Fv,h1];exact hk
 | r+1,i,hi,hk=>by
  have h1:(i:Int)<(n:Int):=aa;have nb:=GJ (z:=0) aa aa;have hl:RW (So i zT++So (r+1) gK)=n:=by simp;omega
  have e1:=HA (DL h (So i zT++So (r+1) gK)) hl (c:=i) aa .i64;have e2:=Fb (DL h (So i zT++So (r+1) gK)) hl (c:=i) aa zT;rw[MD,Q4]at e2;have Rg:RW (hz h (So (i+1) zT++So r gK))=RW h0:=by simp[hz,hh]
  apply aL;simp[Fv,h1];refine cd nb ?_;have e3:st (hz h (So i zT++So (r+1) gK)) 2 (V.ptr (RW h) 1 (i*2) (n*2)) (.agg (qT (0,1)))=Wf (hz h (So (i+1) zT++So r gK)):=e2;simp(disch:=omega) [e1,e3,Rg];have:=OW hn k h0 hh r (i+1) aa hk;simpa using this
theorem abx{h:Hp}(hu:(h.all λx=>cg (RW h) x.2)=Th)(hn:n<1000000):CI Y F.xz [I n] h (.new 2 ((So n zT).flatMap bb) Th n n) h:=by
 apply ae1;have hl:bf (.ref (RW h) 1 0 n n (n*2))=Wf (I n):=rfl;simp[xz];refine TN (e:=0) (b:=.none) ac aa ?_;have e0:(h++[(0,Bk.none)]).set (RW h) (0+1,.data 2 ((So n gK).flatMap bb) Th SM)=hz h (So 0 zT++So n gK):=by simp[hz]
 rw[e0];simp[hl];refine lo (OW hn _ _ (by simp[hz]) n 0 aa ?_);simp;have hfl:=jy bb dV (So n zT);rw[Y6]at hfl;refine⟨by simp[hz],?_,.inr (.inr (.inl ⟨RW h,1,n,n,2,(So n zT).flatMap bb,true,by rw[hfl],Z8 _,?_,rfl⟩))⟩
 .exact hu
 .simp[hz,aH]
theorem QC{h:Hp}{s:Nat}(hg:h[s]?=Wf (e,.data 2 (l.flatMap bb) ex fr))(hn:RW l=n):bW h (.ref s e 0 n n (n*2))=Wf (de bb l,h.set s (e,.data 2 (l.flatMap bb) ex Th)):=by have Rg:=jy bb dV l;simp only[bW,dS,ig hg];rw[ip ⟨by rw[Rg,hn],Z8 _,by rw[Rg,hn];omega⟩];rw[Yz,Zy (by rw[Rg,hn];exact Z8 _)];subst hn;rfl
theorem wh(n:Nat)(l:bF)(H:Hp):cL 1 [aR] [(0,.d (.sl n l))] H=Wf ([.sl n l],H):=by simp[cL,dF,dY,dS]
theorem G6(n:Nat)(l:bF)(n':Nat)(l':bF)(H:Hp):cL 2 [aR] [(0,.d (.sl n l)),(1,.d (.sl n' l'))] H=Wf ([.sl n l,.sl n' l'],H):=by simp[cL,dF,dY,dS]
theorem Dq(x:Q)(H:Hp):cL 1 [D.str [],D.str []] [(0,.agg (qT x))] H=Wf (bb (tx x),H):=by simp[cL,dF,dY,dS,qT,bb,tx]
theorem ajb(x y:Q)(H:Hp):cL 2 [D.str [],D.str []] [(0,.agg (qT x)),(1,.agg (qT y))] H=Wf (bb (tx x)++bb (tx y),H):=by simp[cL,dF,dY,dS,qT,bb,tx]
def nV(r:aw):Bool:=r.all λx=>decide (-1000<=x)&&decide (x<=1000)
def tX(n:Nat):cM->Int
 |[]=>0
 |r::m=>if RW r≠n then 5 else if nV r=Th then tX n m else 4
theorem TI{r:aw}(hN:RW r<1000000000000)(k:KL):∀(q a:aw),a++q=r->(nV q=Th->k (.exit 2) [] [])->(nV q=SM->k .ret [I 4] []) ->
  lp (GX DA (ai di r) (I (RW r))) [] [] [I (RW a)] [] k
 | []=>by
  intro a ha h0 h1;subst ha;apply aL;simp[GX];exact h0 rfl
 | x::q=>by
  intro a ha h0 h1;subst ha;simp at hN;apply aL;simp(disch:=try exact cj)[GX];by_cases h:(1000:Int)<x
  .simp[h];exact h1 (by simp[nV];omega)
  .by_cases h2:x < -1000
   .simp(disch:=omega) [h,h2];exact h1 (by simp[nV];omega)
   .simp(disch:=omega) [h,h2];have:=TI (r:=a++x::q) dE k q (a++[x]) ac (λg=>h0 ?_) (λg=>h1 ?_)
    .simpa using this
    .simp[nV]at g ⊢;exact⟨⟨aa,aa⟩,g⟩
    .simp only[nV,List.all_cons,Xg]at g ⊢;exact .inr g
theorem TG{p:aw}(hp:RW p<1000000000000)(k:KL):∀(q a:cM),RW (a++q)<1000000000 ->
  (tX (RW p) q=0->k (.exit 0) [] [])->(tX (RW p) q≠0->k .ret [I (tX (RW p) q)] []) ->
  lp (Dl DA (ai di p) (bh (a++q)) (I (RW (a++q)))) [] [] [I (RW a)] [] k
 | []=>by
  intro a hN h0 h1;apply aL;simp[Dl];exact h0 rfl
 | r::q=>by
  intro a hN h0 h1;simp at hN;apply aL;simp only[tX]at h0 h1;by_cases g:RW r=RW p
  .have g':(RW r:Int)=(RW p:Int):=aa;rw[iN (by simpa using g)]at h0 h1;simp(disch:=try exact cj)[Dl,g'];rw[<-g'];refine lo (TI (r:=r) aa _ r [] rfl (λgg=>?_) (λgg=>?_))
   .rw[ip gg]at h0 h1;have:=TG hp k q (a++[r]) dE h0 h1;simp(disch:=omega) [];simp at this ⊢;exact this
   .rw[iN (by simp[gg])]at h1;simp;exact h1 aa
  .have g':¬(RW r:Int)=(RW p:Int):=aa;rw[ip g]at h1;simp(disch:=try exact cj)[Dl,g'];exact h1 aa
def oc(p:aw)(m:cM):Int:=if d8 p=0 then tX (RW p) m else d8 p
theorem aiC{m:cM}(hp:RW p<1000000000)(hm:RW m<1000000000):Ds F.AW [ai di p,bh m] (I (oc p m)):=by
 apply aiB;simp[AW];refine cd (AG hp) ?_;by_cases h:d8 p=0
 .have e:oc p m=tX (RW p) m:=ip h;rw[e];simp[h];refine lo (TG aa _ m [] (by simpa using hm) (λg=>?_) (λg=>?_))
  .rw[g];simp
  .simp
 .have e:oc p m=d8 p:=iN h;rw[e];simp[h]<;>exact df rfl
theorem TM{r:aw}(hp:RW p<1000000000):Ds F.yd [ai di p,ai di r] (I (oc p [r])):=by
 apply aiA;have hli:∀H,cL 1 [aR] [(0,ai di r)] H=Wf ([row r],H):=λH=>wh ..
 simp[yd,hli];refine cd (v:=I (oc p [r])) (aiC (m:=[r]) hp ac) ?_;simp<;>exact df rfl
theorem aip{r:aw}(hp:d8 p=0)(hl:RW r=RW p)(hs:nV r=Th):oc p [r]=0:=by unfold oc;rw[ip hp];simp[tX,hl,hs]
theorem Kn(a:List α)(y x:α)(q:List α):(a++y::q).set (RW a) x=a++x::q:=by
 induction a with
 |nil=>rfl
 |cons z a ih=>simp
def fB(r:aw):List Q:=r.map λx=>(x,1)
def fJ(K:Nat)(s:List Q):Prop:=∀x∈s,gE x∧qL K x
def iV(k:Q):List Q->List Q->List Q
 |x::o,y::s=>dZ x (ik y k)::iV k o s
 |_,_=>[]
def m8:List Q->List (List Q)->List Q->List Q
 |o,s::l,k::f=>m8 (iV k o s) l f
 |o,_,_=>o
theorem zg(k:Q):∀(o s:List Q),RW o=RW s->RW (iV k o s)=RW s
 |[],[],_=>rfl
 |x::o,y::s,h=>by simp[iV,zg k o s ae]
 |[],_::_,h=>by simp at h
 |_::_,[],h=>by rfl
theorem IZ{Ko Ks Kk:Nat}{k:Q}(hk:gE k)(lk:qL Kk k):∀{o s:List Q},fJ Ko o->fJ Ks s->fJ (Ko+(Ks+Kk)+1) (iV k o s)
 | x::o,y::s,ho,hs,z,hz=>by
  simp only[iV,Zx]at hz;rcases hz with rfl|hz
  .have⟨h1,h2⟩:=ho x ac;have⟨h3,h4⟩:=hs y ac
   simp_all[agZ,KS,ag0,KT]
  .exact IZ hk lk (λw hw=>ho w ae) (λw hw=>hs w ae) z hz
 |[],[],_,_,z,hz=>by trivial
 |[],_::_,_,_,z,hz=>by trivial
 |_::_,[],_,_,z,hz=>by trivial
theorem pV(d:β)(f:α->β)(a:List α)(x:α)(q:List α):nth d ((a++x::q).map f) (RW a)=f x:=by
 have:nth d (a.map f++f x::q.map f) (RW (a.map f))=f x:=by simp[-List.length_map]
 grind
def bQ(s:List Q):D:=.sl (RW (s.map tx)) ((s.map tx).flatMap bb)
theorem E5(s:List Q):V.d (bQ s)=aW s:=rfl
theorem Bc(s:List Q):bf (aW s)=Wf (I (RW s)):=by simp[aW]
@[simp]theorem aqI(s:List Q):norm (bQ s)=bQ s:=rfl
def qQ(l:List Tx):Hp:=[(1,.data 2 (l.flatMap bb) Th SM),ah]
theorem Qh{s fs:List Q}{k:Q}{i:Nat}(hi:i<RW fs)(hki:nth ([],[]) (fs.map tx) i=tx k)(hf:RW fs<1000000)(hN:RW s<1000000){Ko Ks Kk:Nat}(hk:gE k)(lk:qL Kk k)
  (b1:Ko<=100000) (b2:Ks+Kk<=100000) (h0:List Tx) (kk:KL):∀(q a oq a':List Q),a++q=s->RW a'=RW a->RW oq=RW q->fJ Ko oq->fJ Ks q->kk (.exit 2) [] (qQ ((a'++iV k oq q).map tx)) ->
  lp (CG DA (aW fs) (.ref 0 1 0 (RW s) (RW s) (RW s*2)) (I i) (aW s) (I (RW s))) [1] (qQ h0) [I (RW a)] (qQ ((a'++oq).map tx)) kk
 | [],a,oq,a',ha,h1,h2,ho,hs,hkk=>by
  simp at ha h2;subst ha;subst h2;apply aL;simp[CG]
  grind[iV]
 |x::q,a,[],a',ha,h1,h2,ho,hs,hkk=>by simp at h2
 | x::q,a,y::oq,a',ha,h1,h2,ho,hs,hkk=>by
  have DQ:RW a<RW s:=by subst ha;simp
  have⟨o1,o2⟩:=ho y ac;have⟨s1,s2⟩:=hs x ac;have Rg:RW ((a'++y::oq).map tx)=RW s:=by subst ha;simp at h2 ⊢;omega
  have mul:=WI s1 hk (s2.mono aa) (lk.mono aa);have add:=MS o1 (KS s1 hk) (o2.mono b1) ((KT s2 lk).mono aa);have g1:(RW a:Int)<(RW s:Int):=aa;have hx:nth ([],[]) (s.map tx) (RW a)=tx x:=by subst ha;exact pV ..
  have hy:nth ([],[]) ((a'++y::oq).map tx) (RW a)=tx y:=by rw[<-h1];exact pV ..
  have i1:=λh:Hp=>kX bb dV (s.map tx) h (k:=.i64) (i:=(RW a:Int)) aa ae
  have i2:=λh:Hp=>kV bb dV ([],[]) (s.map tx) h (j:=RW a) ae
  have j1:=λh:Hp=>kX bb dV (fs.map tx) h (k:=.i64) (i:=(i:Int)) aa ae
  have j2:=λh:Hp=>kV bb dV ([],[]) (fs.map tx) h (j:=i) ae
  simp only[hx,hki,Int.toNat_natCast]at i1 i2 j1 j2
  let D0:Bk:=.data 2 (((a'++y::oq).map tx).flatMap bb) Th SM
  have e1:=λz=>HA (h:=[(1,D0),(1,z)]) (s:=0) (e:=1) rfl Rg (c:=RW a) DQ .i64
  have e2:=λz=>L0 (h:=[(1,D0),(1,z)]) (s:=0) (e:=1) rfl Rg (c:=RW a) DQ
  have e3:=λz=>Fb (h:=[(1,D0),(1,z)]) (s:=0) (e:=1) rfl Rg (c:=RW a) DQ (tx (dZ y (ik x k)))
  have es:((a'++y::oq).map tx).set (RW a) (tx (dZ y (ik x k)))=((a'++[dZ y (ik x k)])++oq).map tx:=by
   have:=Kn (a'.map tx) (tx y) (tx (dZ y (ik x k))) (oq.map tx);rw[List.length_map,h1]at this;simpa using this
  simp only[hy,es]at e2 e3;have mul':Ds F.wI [.agg [S (tx x).1,S (tx x).2],.agg [S (tx k).1,S (tx k).2]] (.agg (qT (ik x k))):=mul;have add':Ds F.qf [.agg [S (tx y).1,S (tx y).2],.agg (qT (ik x k))] (.agg (qT (dZ y (ik x k)))):=add
  have e3':∀z,st [(1,D0),(1,z)] 2 (V.ptr 0 1 (RW a*2) (RW s*2)) (.agg (qT (dZ y (ik x k))))=Wf [(1,.data 2 ((((a'++[dZ y (ik x k)])++oq).map tx).flatMap bb) Th SM),(1,z)]:=λz=>e3 z
  have ih:=Qh hi hki hf hN hk lk b1 b2 h0 kk q (a++[x]) oq (a'++[dZ y (ik x k)]) ae ae ae (λw hw=>ho w ae) (λw hw=>hs w ae) (by grind[iV]);apply aL
  show CG DA (aW fs) _ _ (aW s) _ _ [(1,D0),ah] _
  simp[CG,aW,i1,i2,j1,j2,e1,e2,e3',g1,bb];refine cd mul' ?_;simp;refine cd add' ?_ aN;simp(disch:=omega) [e1,e3',qQ,clean,fA,gY,im,offB,fC,dl,show Nat.beq 1 0=SM from rfl]
  simp_all[qQ,aW]
theorem Qg{n:Nat}{fs:List Q}(hf:RW fs<1000000)(hN:n<1000000){Ks Kk:Nat}(b2:Ks+Kk<=90000)(h0:List Tx)(kk:KL):∀(l a:List (List Q))(q f:List Q)(o:List Q)(Ko:Nat),f++q=fs->RW f=RW a->RW l=RW q->Ko+RW l*(Ks+Kk+1)<=100000 ->
  (RW o)=n->fJ Ko o->(∀s∈l,RW s=n∧fJ Ks s)->fJ Kk q->kk (.exit 0) [] (qQ ((m8 o l q).map tx)) ->
  lp (Fz DA (aW fs) (.ref 0 1 0 n n (n*2)) (ai bQ (a++l)) (I (RW (a++l)))) [1] (qQ h0) [I (RW a)] (qQ (o.map tx)) kk
 | [],a,q,f,o,Ko,hfq,h1,h2,b1,hn,ho,hl,hq,hkk=>by
  apply aL;simp[Fz]
  grind[m8]
 |s::l,a,[],f,o,Ko,hfq,h1,h2,b1,hn,ho,hl,hq,hkk=>by simp at h2
 | s::l,a,k::q,f,o,Ko,hfq,h1,h2,b1,hn,ho,hl,hq,hkk=>by
  have⟨s1,s2⟩:=hl s ac;have⟨k1,k2⟩:=hq k ac;have hLl:(RW l+1)*(Ks+Kk+1)=RW l*(Ks+Kk+1)+(Ks+Kk+1):=X3 ..;rw[List.length_cons,hLl]at b1;have hb:RW (a++s::l)<1000000:=by simp at h2 ⊢;subst hfq;simp at hf;omega
  have g1:(RW a:Int)<(RW (a++s::l):Int):=by simp;omega
  have i1:=λh:Hp=>mn bQ (a++s::l) h (k:=.i64) (i:=(RW a:Int)) aa g1
  have i2:=λh:Hp=>mS bQ [] (a++s::l) h (j:=RW a) ac
  have hnt:nth [] (a++s::l) (RW a)=s:=ac;simp only[hnt,Int.toNat_natCast]at i1 i2;have hlv:=Bc s;have hki:nth ([],[]) (fs.map tx) (RW a)=tx k:=by rw[<-hfq,<-h1];exact pV ..
  have hi:RW a<RW fs:=by rw[<-hfq];simp;omega
  simp only[E5]at i2;apply aL;have⟨L,hLe⟩:∃L,L=RW (a++s::l):=⟨_,rfl⟩;rw[<-hLe]at g1 ⊢;simp[Fz,i1,i2,g1,hlv,E5];subst s1;refine lo (Qh hi hki hf hN k1 k2 (Ko:=Ko) (Ks:=Ks) aa aa (o.map tx) _ s [] o [] rfl rfl hn ho s2 ?_)
  have ih:=Qg hf hN b2 h0 kk l (a++[s]) q (f++[k]) (iV k o s) (Ko+(Ks+Kk)+1) ae ae ae aa (zg k o s hn) (IZ k1 k2 ho s2) (λt ht=>hl t ae) (λt ht=>hq t ae) cU;simp(disch:=omega) [qQ,clean,fA,gY,im,offB,fC,dl,show Nat.beq 1 0=SM from rfl];have hL:RW (a++[s]++l)=L:=by rw[hLe];simp
  simp_all[qQ]
def gC(n:Nat)(l:List (List Q))(f:List Q):List Q:=m8 (So n (0,1)) l f
theorem JO{Ks Kk:Nat}:∀{l:List (List Q)}{f o:List Q}{Ko:Nat},fJ Ko o->(∀s∈l,fJ Ks s)->fJ Kk f->fJ (Ko+RW l*(Ks+Kk+1)) (m8 o l f)
 |[],f,o,Ko,ho,_,_=>by grind[m8]
 |s::l,[],o,Ko,ho,hl,hf=>λx hx=>⟨(ho x cU).1,(ho x cU).2.mono aa⟩
 | s::l,k::f,o,Ko,ho,hl,hf=>by
  have⟨k1,k2⟩:=hf k ac;have:=JO (l:=l) (f:=f) (IZ k1 k2 ho (hl s ac)) (λt ht=>hl t ae) (λt ht=>hf t ae)
  have e:Ko+RW (s::l)*(Ks+Kk+1)=Ko+(Ks+Kk)+1+RW l*(Ks+Kk+1):=by
   rw[List.length_cons,X3];omega
  rw[e];exact this
theorem u5:∀{l:List (List Q)}{f o:List Q},(∀s∈l,RW s=RW o)->RW (m8 o l f)=RW o
 |[],f,o,_=>by simp[m8]
 |s::l,[],o,_=>by rfl
 | s::l,k::f,o,h=>by
  have e:=zg k o s (h s ac).symm;have hs:=h s ac;have:=u5 (l:=l) (f:=f) (o:=iV k o s) (λt ht=>by grind)
  grind[m8]
theorem EI(n:Nat):fJ 1 (So n (0,1)):=λx hx=>by
 have:=List.eq_of_mem_replicate hx;subst this;exact⟨⟨au,au⟩,ef au au,ef au au⟩
theorem JN{n:Nat}{l:List (List Q)}{fs:List Q}{Ks Kk:Nat}(hN:n<1000000)(hf:RW fs<1000000)(Rg:RW l=RW fs)(b2:Ks+Kk<=90000)(b1:1+RW l*(Ks+Kk+1)<=100000)
  (hl:∀s∈l,RW s=n∧fJ Ks s) (hq:fJ Kk fs):Ds F.rT [I n,ai bQ l,aW fs] (aW (gC n l fs)):=by
 apply afd;have zi:=abx (h:=[ah,ah]) (n:=n) rfl hN;have hfl:=jy bb dV (So n zT);rw[Y6]at hfl;have hz:(So n ((0,1):Q)).map tx=So n zT:=by simp[zT]
 have hl':RW ((gC n l fs).map tx)=n:=by
  rw[List.length_map];unfold gC;rw[u5 (λs hs=>by grind)];simp
 have sn:=QC (h:=qQ ((gC n l fs).map tx)) (s:=0) (e:=1) (n:=n) rfl hl';have ll:bf (ai bQ l)=Wf (I (RW l)):=rfl;simp[rT];refine ij (jQ (e:=0) (b:=.none) zi rfl ?_);rw[hfl];simp[ll]
 have so:=Qg (n:=n) (fs:=fs) hf hN b2 (So n zT) (aV [(Exit.exit 0,λl3 h=>out (aW (gC n l fs)) (V.ref 0 1 0 n n (n*2)) h)]) l [] fs [] (So n (0,1)) 1 rfl rfl Rg b1 ac (EI n) hl hq (by
  simp;exact⟨_,sn⟩)
 rw[hz]at so;trivial
theorem Vz{g:fI}{p:Tx->Bool}(l:List Tx)(hp:∀x∈l,CP Y g [.agg [S x.1,S x.2]] (B (p x)))(hN:RW l<1000000)(k:KL):∀(q a:List Tx),a++q=l ->
  (gn p q = -1->k (.exit 0) [] [])->(∀i:Nat,gn p q=i->k .ret [I (RW a+i:Nat)] []) ->
  lp (Fp DA (de bb l) (.fn g [] []) (I (RW l))) [] [] [I (RW a)] [] k
 | [],a=>by
  intro ha h0 _;simp at ha;subst ha;apply aL;simp[Fp];exact h0 rfl
 | x::q,a=>by
  intro ha h0 h1;have DQ:RW a<RW l:=by subst ha;simp
  have e3:nth ([],[]) l (RW a)=x:=by subst ha;simp
  have e1:=kX bb dV l [] (k:=.i64) (i:=(RW a:Int)) aa aa;have e2:=kV bb dV ([],[]) l [] DQ;rw[e3]at e2;rw[Int.toNat_natCast]at e1;apply aL;simp(disch:=omega) [Fp,e1,e2,bb];refine Oa (fs:=[]) (args:=[.agg [S x.1,S x.2]]) (cs:=[]) (hp x ae) rfl ?_;simp
  refine Oj (λh=>?_) (λh=>?_)<;>try simp(disch:=try exact cj)[h]
  .have e:gn p (x::q)=(0:Nat):=by simp[gn,List.findIdx?_cons,h]
   grind
  .have:=Vz l hp hN k q (a++[x]) ae (λe=>h0 ?_) (λi e=>?_)
   .simp_all
   .grind[gn]
   .have:=h1 (i+1) ?_
    .simpa[Xl,Nat.add_comm 1 i]using this
    grind[gn]
theorem ZR{g:fI}{p:Tx->Bool}(l:List Tx)(hN:RW l<1000000)(hp:∀x∈l,CP Y g [.agg [S x.1,S x.2]] (B (p x))):Ds F.xv [de bb l,.fn g [] []] (B (l.any p)):=by
 apply aeK;simp[xv];refine cd (v:=I (gn p l)) (aeB ?_) ?_ ?_
 .have ls':bf (de bb l)=Wf (I (RW l)):=rfl;simp[Cy,ls'];refine lo (Vz l hp hN _ l [] rfl (λe=>?_) (λi e=>?_))
  .simp[e]
  .simp[e]
 .simp;have:=HG p l;have e:decide (0<=gn p l)=l.any p:=by rw[X8];simpa using this
  simp_all
 rfl
theorem VA{g:fI}{p:Tx->Bool}(l:List Tx)(hp:∀x∈l,CP Y g [.agg [S x.1,S x.2]] (B (p x)))(hN:RW l<1000000)(k:KL):∀(q a:List Tx),a++q=l ->
  (gn p q = -1->k (.exit 0) [] [])->(∀i:Nat,gn p q=i->k .ret [I (RW a+i:Nat)] []) ->
  lp (Fs DA (de bb l) (.fn g [] []) (I (RW l))) [] [] [I (RW a)] [] k
 | [],a=>by
  intro ha h0 _;simp at ha;subst ha;apply aL;simp[Fs];exact h0 rfl
 | x::q,a=>by
  intro ha h0 h1;have DQ:RW a<RW l:=by subst ha;simp
  have e3:nth ([],[]) l (RW a)=x:=by subst ha;simp
  have e1:=kX bb dV l [] (k:=.i64) (i:=(RW a:Int)) aa aa;have e2:=kV bb dV ([],[]) l [] DQ;rw[e3]at e2;rw[Int.toNat_natCast]at e1;apply aL;simp(disch:=omega) [Fs,e1,e2,bb];refine Oa (fs:=[]) (args:=[.agg [S x.1,S x.2]]) (cs:=[]) (hp x ae) rfl ?_;simp
  refine Oj (λh=>?_) (λh=>?_)<;>try simp(disch:=try exact cj)[h]
  .have e:gn p (x::q)=(0:Nat):=by simp[gn,List.findIdx?_cons,h]
   grind
  .have:=VA l hp hN k q (a++[x]) ae (λe=>h0 ?_) (λi e=>?_)
   .simp_all
   .grind[gn]
   .have:=h1 (i+1) ?_
    .simpa[Xl,Nat.add_comm 1 i]using this
    grind[gn]
theorem aoa{g:fI}{p:Tx->Bool}(l:List Tx)(hN:RW l<1000000)(hp:∀x∈l,CP Y g [.agg [S x.1,S x.2]] (B (p x))):Ds F.z8 [de bb l,.fn g [] []] (B (l.any p)):=by
 apply aeM;simp[z8];refine cd (v:=I (gn p l)) (aeD ?_) ?_ ?_
 .have ls':bf (de bb l)=Wf (I (RW l)):=rfl;simp[Cz,ls'];refine lo (VA l hp hN _ l [] rfl (λe=>?_) (λi e=>?_))
  .simp[e]
  .simp[e]
 .simp;have:=HG p l;have e:decide (0<=gn p l)=l.any p:=by rw[X8];simpa using this
  simp_all
 rfl
def wY(n:Nat):List (List Q)->Int
 |[]=>0
 |s::l=>if RW s=n then wY n l else 5
theorem aas{p:aw}(hp:RW p<1000000000)(k:KL):∀(q a:List (List Q)),RW (a++q)<1000000->(∀s∈q,jN s∧RW s<1000000) ->
  (wY (RW p) q=0->k (.exit 0) [] [])->(wY (RW p) q≠0->k .ret [I (wY (RW p) q)] []) ->
  lp (FD DA (ai di p) (ai bQ (a++q)) (I (RW (a++q)))) [] [] [I (RW a)] [] k
 | []=>by
  intro a hN hs h0 h1;apply aL;simp[FD];exact h0 rfl
 | s::q=>by
  intro a hN hs h0 h1;have⟨s1,s2⟩:=hs s ac;have ck:=aor (p:=p) s1 s2;have g1:(RW a:Int)<(RW (a++s::q):Int):=by simp;omega
  have i1:=mn bQ (a++s::q) [] (k:=.i64) (i:=(RW a:Int)) aa g1;have i2:=mS bQ [] (a++s::q) [] (j:=RW a) ac;have hnt:nth [] (a++s::q) (RW a)=s:=ac;rw[hnt]at i2;rw[Int.toNat_natCast]at i1;apply aL;simp only[wY]at h0 h1;have⟨L,hLe⟩:∃L,L=RW (a++s::q):=⟨_,rfl⟩;rw[<-hLe]at g1 ⊢;simp[FD,i1,i2,g1,E5]
  refine cd ck ?_ aN;by_cases g:RW s=RW p
  .rw[ip g]at h0 h1 ⊢;have:=aas hp k q (a++[s]) ae (λt ht=>hs t ae) h0 h1;simp(disch:=omega) [];have e:RW (a++[s]++q)=L:=by rw[hLe];simp
   simp_all
  .rw[iN g]at h1 ⊢;simp
   grind
theorem N3{l:List (List Q)}(hp:RW p<1000000000)(hl:RW l<1000000)(hs:∀s∈l,jN s∧RW s<1000000):Ds F.vv [ai di p,ai bQ l] (I (if d8 p=0 then wY (RW p) l else d8 p)):=by
 apply afw;simp[vv];refine cd (AG hp) ?_;by_cases h:d8 p=0
 .rw[ip h];simp[h];refine lo (aas hp _ l [] cU hs (λg=>?_) (λg=>?_))
  .rw[g];simp
  .simp
 .rw[iN h];simp[h]<;>exact df rfl
theorem IR{n:Nat}:∀{l:List (List Q)},(∀s∈l,RW s=n)->wY n l=0
 |[],_=>rfl
 |s::l,h=>by rw[wY,ip (h s ac)];exact IR λt ht=>h t ae
theorem agD(hl:qL 30 x):Ds F.xB [.agg (qT x)] (B SM):=by apply afh;simp[xB,qT];refine cd (afD hl) ?_ aN;simp<;>exact eG rfl
theorem abb(l:List α):(l.any λ_=>SM)=SM:=by induction l<;>simp_all
theorem zQ(s:List Q)(h:Hp):bW h (aW s)=Wf (aW s,h):=by rfl
theorem agC(hs:jN s)(hN:RW s<1000000):Ds F.Ac [aW s] (.tup [aW s,I 0]):=by
 apply afg
 have:=ZR (g:=F.xB) (p:=λ_=>SM) (s.map tx) ae (λx hx=>by
  obtain⟨y,hy,rfl⟩:=Zw.1 hx;exact agD (hs y hy).2)
 rw[abb]at this;simp[Ac];refine cd this ?_ aN;simp;simp[fR,zQ]
theorem aoe(hx:gE x)(hl:qL 30 x):Ds F.xD [.agg (qT x)] (B SM):=by apply afu;simp[xD,qT];refine cd (aos hx hl) ?_ aN;simp<;>exact eG rfl
theorem aod{l:List (List Q)}(hp:d8 p=0)(hN:RW p<1000000)(hf:RW fs<1000)(Rg:RW l=RW fs)(hl:∀s∈l,RW s=RW p∧jN s)(hq:jN fs)(hr:jN (gC (RW p) l fs)):
  Ds F.Ai [ai di p,ai bQ l,aW fs] (.tup [aW (gC (RW p) l fs),I 0]):=by
 apply afs;have ca:=N3 (p:=p) (l:=l) aa aa (λs hs=>⟨(hl s hs).2,ae⟩);rw[ip hp,IR λs hs=>(hl s hs).1]at ca
 have cf:=aoa (g:=F.xD) (p:=λ_=>SM) (fs.map tx) ae (λx hx=>by
  obtain⟨y,hy,rfl⟩:=Zw.1 hx;exact aoe (hq y hy).1 (hq y hy).2)
 rw[abb]at cf;have su:=JN (n:=RW p) (l:=l) (fs:=fs) (Ks:=30) (Kk:=30) hN aa Rg aa aa hl hq;have rs:=agC hr (by grind[gC,u5]);have l1:bf (ai bQ l)=Wf (I (RW l)):=rfl;have l2:=Bc fs;have l3:bf (ai di p)=Wf (I (RW p)):=rfl;have g1:((RW fs:Int)=(RW l:Int))=True:=eq_true aa;simp[Ai];refine cd ca ?_
 simp[l1,l2,g1];refine cd cf ?_ aN;simp[l3];refine cd su ?_ aN;simp;refine cd rs ?_ aN;simp;simp[fR,zQ]
theorem ah1(z:Int)(h1 : -1000000000000000000<z)(h2:z<1000000000000000000):gE (z,1)∧qL 30 (z,1):=
 ⟨⟨ac,ac⟩,Z1 (Lt aa aa) au,ef ac au⟩
theorem Q6{k:Q}(hp:d8 p=0)(hN:RW p<1000000)(hl:RW s=RW p)(hs:jN s)(hk:gE k∧qL 30 k)(hr:jN (gC (RW p) [s] [k])):
  Ds F.vu [ai di p,aW s,.agg (qT k)] (.tup [aW (gC (RW p) [s] [k]),I 0]):=by
 apply afp;have cb:=aod (p:=p) (l:=[s]) (fs:=[k]) hp hN ac rfl (λt ht=>by grind) (λx hx=>by grind) hr;have l1:∀H,cL 1 [aR] [(0,aW s)] H=Wf ([bQ s],H):=λH=>wh ..
 have l2:∀H,cL 1 [D.str [],D.str []] [(0,.agg [S (itoa k.1),S (aA k.2)])] H=Wf (bb (tx k),H):=λH=>Dq k H
 simp[vu,qT,l1,l2];refine cd (v:=.tup [aW (gC (RW p) [s] [k]),I 0]) cb ?_ aN;simp;simp[fR,zQ]
theorem acF{y:Q}(h:tx x=tx y):x=y:=by unfold tx at h;simp only[Z5]at h;exact Prod.ext (DF h.1) (yy h.2)
theorem aii(x y:Q):pz [.str [],.str []] .neq (.agg [S (tx x).1,S (tx x).2]) (.agg [S (tx y).1,S (tx y).2])=Wf (B (!decide (x=y))):=by
 have:((tx x).1 == (tx y).1&&((tx x).2 == (tx y).2&&Th))=decide (x=y):=by
  rw[X8];simp only[Z7,beq_iff_eq,dT,and_true];exact⟨λh=>acF (Prod.ext h.1 h.2),λh=>by subst h;exact⟨rfl,rfl⟩⟩
 simp only[pz,pj,yO,this]
theorem XI{s t:List Q}(hN:RW s<1000000)(k:KL):∀(q r a b:List Q),a++q=s->b++r=t->RW a=RW b->RW q=RW r->(q=r->k (.exit 0) [] [])->(q≠r->k .ret [B SM] []) ->
  lp (CB DA (aW s) (aW t) (I (RW s))) [] [] [I (RW a)] [] k
 | [],r,a,b,ha,hb,hab,hqr,h0,h1=>by
  simp at ha;subst ha
  have:r=[]:=by cases r with
   |nil=>rfl
   |cons y r=>simp at hqr
  apply aL;simp[CB];exact h0 this.symm
 |x::q,[],a,b,ha,hb,hab,hqr,h0,h1=>by simp at hqr
 | x::q,y::r,a,b,ha,hb,hab,hqr,h0,h1=>by
  have DQ:RW a<RW s:=by subst ha;simp
  have hbl:RW a<RW t:=by subst hb;simp;omega
  have hx:nth ([],[]) (s.map tx) (RW a)=tx x:=by subst ha;exact pV ..
  have hy:nth ([],[]) (t.map tx) (RW a)=tx y:=by subst hb;rw[hab];exact pV ..
  have i1:=kX bb dV (s.map tx) [] (k:=.i64) (i:=(RW a:Int)) aa dE;have i2:=kV bb dV ([],[]) (s.map tx) [] (j:=RW a) (by simpa using DQ);have j1:=kX bb dV (t.map tx) [] (k:=.i64) (i:=(RW a:Int)) aa dE;have j2:=kV bb dV ([],[]) (t.map tx) [] (j:=RW a) (by simpa using hbl)
  have g1:(RW a:Int)<(RW s:Int):=aa;have e:=aii x y;simp only[hx,hy,Int.toNat_natCast,bb,Zv,Yp]at i1 i2 j1 j2;apply aL;by_cases hxy:x=y
  .subst hxy;have ih:=XI hN k q r (a++[x]) (b++[x]) (by simpa using ha) (by simpa using hb) (by simp[hab]) (by simpa using hqr) (λe=>h0 (by rw[e])) (λe=>h1 (by simpa using e));rw[show(!decide (x=x))=SM by simp]at e;simp(disch:=omega) [CB,aW,i1,i2,j1,j2,g1,e];simpa[aW]using ih
  .rw[show(!decide (x=y))=Th by simp[hxy]]at e;simp[CB,aW,i1,i2,j1,j2,g1,e];exact h1 (by simp[hxy])
theorem aeZ(hN:RW s<1000000):Ds F.xr [aW s,aW t] (B (decide (s=t))):=by
 have l1:=Bc s;have l2:=Bc t;apply aeG;by_cases h:RW s=RW t
 .have g:((RW s:Int)=(RW t:Int))=True:=eq_true aa;simp[xr,l1,l2,g]
  have:=XI (s:=s) (t:=t) hN (aV [(Exit.exit 0,λl5 h=>out (B (decide (s=t))) (V.d (D.bool Th)) h),(Exit.ret,λl5 h=>out (B (decide (s=t))) (ge l5 0) h)]) s t [] [] rfl rfl rfl h (λg=>by
   simp;exact eG (by simp[g])) (λg=>by
   simp;exact eG (by simp[g]))
  apply lo;exact this
 .have g:¬((RW s:Int)=(RW t:Int)):=aa;have:¬s=t:=λe=>h (by rw[e])
  simp[xr,l1,l2,g]<;>exact eG (by simp[this])
theorem ami(hN:RW s<1000000):Ds F.Ah [aW s,aW t] (B (decide (s=t))):=by apply afq;have se:=aeZ (s:=s) (t:=t) hN;simp[Ah];refine cd se ?_ (by simp[bY,bW,aW,de]);simp<;>exact eG rfl
structure Tg where
 iv:aw
 num:bB
 den:bB
 deriving DecidableEq
def fh(t:Tg):bF:=[row t.iv,.str t.num,.str t.den]
theorem rL(t:Tg):RW (fh t)=3:=rfl
def dL(l:List Tg):V:=de fh l
def fM:Tg:=⟨[],[],[]⟩
def qn(t:Tg):Prop:=RW t.num<1000000∧RW t.den<1000000∧RW t.iv<1000000
def nS(t:Tg):Int:=match jW t.num t.den with
 |none=>2
 |some q=>if q.1<=0 then 3 else if 30<RW t.num∨30<RW t.den then 4 else 0
def zI(p:aw)(t:Tg):Int:=if oc p [t.iv]=0 then nS t else oc p [t.iv]
def pn(p:aw):List Tg->Int
 |[]=>0
 |t::l=>if zI p t=0 then pn p l else zI p t
def nE(p:aw)(l:List Tg):Int:=if d8 p=0 then(if RW l<=60 then pn p l else 4)else d8 p
theorem JC{n d:bB}(h:jW n d=Wf q):n=itoa q.1∧d=aA q.2:=by
 unfold jW at h;cases h1:rd n with
 |none=>rw[h1]at h;cases h
 | some x=>
  cases h2:rd d with
  |none=>rw[h1,h2]at h;cases h
  | some y=>
   rw[h1,h2]at h;simp only at h;split at h
   .rename_i hc;obtain rfl:=Option.some.inj h;refine⟨(Gb h1).1,?_⟩;rw[(Gb h2).1];unfold itoa;rw[iN aa]
   .cases h
theorem adq{n d:bB}(h:jW n d=Wf q):Ds F.wH [.agg [S n,S d]] (I (eS q.1)):=by obtain⟨rfl,rfl⟩:=JC h;exact WG q
theorem adr{n d:bB}(h:jW n d=Wf q)(hq:0<q.1):Ds F.lE [S n] (S n):=by
 obtain⟨rfl,rfl⟩:=JC h
 have e:itoa q.1=aA q.1.toNat:=by
  unfold itoa;rw[iN aa];congr 1;omega
 rw[e];exact OI _
theorem Q1:eS z<=0↔z<=0:=by unfold eS;split<;>first|omega|(split<;>omega)
theorem PO{l:List Tg}{a q:List Tg}{t:Tg}(e:l=a++t::q):nth fM l (RW a)=t:=by rw[e];simp
theorem YK{p:aw}(hp:RW p<1000000){l:List Tg}(hl:RW l<1000000)(hs:∀t∈l,qn t)(u v:Bk)(K:KL):∀(q a:List Tg),l=a++q->(pn p q=0->K (.exit 0) [] [ah,ah])->(∀h,pn p q≠0->K .ret [I (pn p q)] h) ->
  lp (IJ DA (ai di p) (dL l) (I (RW l))) [0,1] [(0,u),(0,v)] [I (RW a)] [ah,ah] K
 | [],a,e,k0,k1=>by
  simp[Zn]at e;subst e;apply aL;have PJ:¬((RW l:Int)<(RW l:Int)):=aa;simp only[IJ];simp[PJ];exact k0 rfl
 | t::q,a,e,k0,k1=>by
  apply aL;have PJ:((RW a:Int)<(RW l:Int)):=by rw[e];simp;omega
  have DQ:RW a<RW l:=aa;have ht:=hs t (by rw[e];simp);have i1:∀h:Hp,bq h 3 (dL l) (I (RW a))=Wf (.dptr (l.flatMap fh) (RW a*3)):=λh=>kX fh rL l h (k:=.i64) (i:=(RW a:Int)) aa PJ
  have i2:∀h:Hp,aG h 3 (.dptr (l.flatMap fh) (RW a*3))=Wf (.agg [ai di t.iv,S t.num,S t.den]):=λh=>by
   have:=kV fh rL fM l h DQ;rw[PO e]at this;exact this
  have mc:=TM (p:=p) (r:=t.iv) aa;have fc:=N2 t.num t.den (by have:=ht.1;omega) (by have:=ht.2.1;omega);have okr:okV (ai di t.iv)=Th:=rfl;simp only[pn]at k0 k1;simp only[IJ];simp[PJ,i1,i2,okr];refine cd mc ?_ aN;by_cases g1:oc p [t.iv]=0
  .have ete:zI p t=nS t:=ip g1;simp[g1];refine cd fc ?_ aN;cases hq:jW t.num t.den with
   | none=>
    have e2:nS t=2:=by simp[nS,hq]
    rw[ete,e2,iN au]at k1;simp;exact k1 _ au
   | some y=>
    simp;refine cd (adq hq) ?_ aN;by_cases g2:y.1<=0
    .have e2:nS t=3:=by simp[nS,hq,g2]
     rw[ete,e2,iN au]at k1;have g3:=Q1.2 g2;simp[g3];exact k1 _ au
    .have g3:¬eS y.1<=0:=λh=>g2 (Q1.1 h)
     simp[g3];refine cd (adr hq aa) ?_ aN;have s1:fv (S t.num)=Wf (I (RW t.num)):=rfl;have s2:fv (S t.den)=Wf (I (RW t.den)):=rfl;by_cases h1:30<RW t.num
     .have e2:nS t=4:=by simp[nS,hq,g2,h1]
      rw[ete,e2,iN au]at k1;have h1':(RW t.num:Int)>30:=aa;simp[s1,s2,h1'];exact k1 _ au
     .have h1':¬(RW t.num:Int)>30:=aa;by_cases h2:30<RW t.den
      .have e2:nS t=4:=by simp[nS,hq,g2,h2]
       rw[ete,e2,iN au]at k1;have h2':(RW t.den:Int)>30:=aa;simp[s1,s2,h1',h2'];exact k1 _ au
      .have h2':¬(RW t.den:Int)>30:=aa;have e2:nS t=0:=by simp[nS,hq,g2,h1,h2]
       rw[ete,e2,ip rfl]at k0 k1;have ih:=YK hp hl hs u v K q (a++[t]) (by rw[e];simp) k0 k1;have e4:((RW (a++[t]):Nat):Int)=(RW a:Int)+1:=ac;rw[e4]at ih;simp(disch:=try exact cj)[s1,s2,h1',h2'];exact⟨rfl,lo ih⟩
  .have ete:zI p t=oc p [t.iv]:=iN g1;rw[ete,iN g1]at k1;simp[g1];exact k1 _ g1
theorem amH(hp:RW p<1000000){l:List Tg}(hl:RW l<1000000)(hs:∀t∈l,qn t):Ds F.BP [ai di p,dL l] (I (nE p l)):=by
 apply anS;have a1:=AG (p:=p) aa;have l1:bf (dL l)=Wf (I (RW l)):=rfl;unfold nE;simp only[BP];simp;refine cd a1 ?_;by_cases h:d8 p=0
 .by_cases h2:RW l<=60
  .have h2':¬(RW l:Int)>60:=aa;simp[h,l1,h2',h2];refine lo (YK hp hl hs _ _ _ l [] rfl (λe0=>?_) (λh' e0=>?_))
   .show out (I (if d8 p=0 then if RW l<=60 then pn p l else 4 else d8 p)) (V.d (D.int iK.i64 0)) _
    rw[ip h,ip h2,e0];exact df rfl
   .show out (I (if d8 p=0 then if RW l<=60 then pn p l else 4 else d8 p)) (I (pn p l)) _
    rw[ip h,ip h2];exact df rfl
  .have h2':(RW l:Int)>60:=aa;simp[h,l1,h2',h2]
 .simp[h]
theorem Q9(K:KL):∀(q q' a a':aw),RW a=RW a'->RW q=RW q'->RW (a++q)<1000000->(q=q'->K (.exit 0) [] [])->(q≠q'->K .ret [B SM] []) ->
  lp (FN DA (ai di (a++q)) (ai di (a'++q'))) [] [] [I (RW a)] [] K
 | [],[],a,a',e1,e2,h1,k0,k1=>by
  apply aL;have PJ:¬((RW a:Int)<(RW (a++[]):Int)):=ac;have l1:bf (ai di (a++[]))=Wf (I (RW (a++[]))):=rfl;simp only[FN];simp[l1,PJ];exact k0 rfl
 |[],_::_,a,a',e1,e2,h1,k0,k1=>by simp at e2
 |_::_,[],a,a',e1,e2,h1,k0,k1=>by simp at e2
 | x::q,y::q',a,a',e1,e2,h1,k0,k1=>by
  apply aL;have PJ:((RW a:Int)<(RW (a++x::q):Int)):=by simp;omega
  have DQ:RW a<1000000:=by simp at h1;omega
  have l1:bf (ai di (a++x::q))=Wf (I (RW (a++x::q))):=rfl;have p1:bq [] 1 (ai di (a++x::q)) (I (RW a))=Wf (.dptr ((a++x::q).map di) (RW a)):=uh di a x q _ _
  have p2:ld1 [] (.dptr ((a++x::q).map di) (RW a))=Wf (I x):=by
   rw[nr di (a++x::q) _ ac];simp only[Zf (Z8 _),Y7,Y8];rfl
  have p3:bq [] 1 (ai di (a'++y::q')) (I (RW a))=Wf (.dptr ((a'++y::q').map di) (RW a)):=by rw[e1];exact uh di a' y q' _ _
  have p4:ld1 [] (.dptr ((a'++y::q').map di) (RW a))=Wf (I y):=by
   rw[e1,nr di (a'++y::q') _ ac];simp only[Zf (Z8 _),Y7,Y8];rfl
  simp only[FN];by_cases e:x=y
  .subst e;have ih:=Q9 K q q' (a++[x]) (a'++[x]) (by simp[e1]) (by simpa using e2) (by simpa using h1) (λg=>k0 (by rw[g])) (λg=>k1 (λg2=>g (by simpa using g2)));have e4:((RW (a++[x]):Nat):Int)=(RW a:Int)+1:=ac;rw[e4,List.append_assoc,List.append_assoc]at ih;simp(disch:=try exact cj)[l1,PJ,p1,p2,p3,p4];exact lo ih
  .simp(disch:=try exact cj)[l1,PJ,p1,p2,p3,p4,e];exact k1 (λg=>e (by simpa using(List.cons.inj g).1))
theorem agk{x:aw}(hx:RW x<1000000):Ds F.Av [ai di x,ai di y] (B (decide (x=y))):=by
 apply age;have l1:bf (ai di x)=Wf (I (RW x)):=rfl;have l2:bf (ai di y)=Wf (I (RW y)):=rfl;simp only[Av];by_cases e:RW x=RW y
 .have e':(RW x:Int)=(RW y:Int):=aa
  have:=Q9 (aV [((.exit 0),λl5 h=>out (B (decide (x=y))) (.d (.bool Th)) h),(.ret,λl5 h=>out (B (decide (x=y))) (ge l5 0) h)]) x y [] [] rfl e (by simpa using hx)
   (λg=>eG (by simp[g])) (λg=>eG (by simp[g]))
  simp[l1,l2,e'];exact lo (by simpa using this)
 .have e':¬(RW x:Int)=(RW y:Int):=aa;simp[l1,l2,e'];exact eG (by simp;intro g;exact e (by rw[g]))
theorem apd(a b c d:bB):pz [.str [],.str []] .eql (.agg [S a,S b]) (.agg [S c,S d])=Wf (B (decide (a=c)&&decide (b=d))):=by by_cases h1:a=c<;>by_cases h2:b=d<;>simp[pz,pj,yO,h1,h2]
theorem JE(a q:List Tg)(t:Tg)(h:Hp):bq h 3 (dL (a++t::q)) (I (RW a))=Wf (.dptr ((a++t::q).flatMap fh) (RW a*3)):=kX fh rL _ h (k:=.i64) (i:=(RW a:Int)) aa dE
theorem JD(a q:List Tg)(t:Tg)(h:Hp):aG h 3 (.dptr ((a++t::q).flatMap fh) (RW a*3))=Wf (.agg [ai di t.iv,S t.num,S t.den]):=by have:=kV fh rL fM (a++t::q) h (j:=RW a) ac;rw[PO rfl]at this;exact this
theorem M2(z:Int)(hb:0<b):z.fdiv (-(b:Int))=(-z)/(b:Int)∧z.fmod (-(b:Int)) = -((-z)%(b:Int)):=by
 have e:z.fdiv (-(b:Int))=(-z)/(b:Int):=by
  rw[<-Int.fdiv_eq_ediv_of_nonneg (-z) (by omega:(0:Int)<=(b:Int)),<-Int.neg_fdiv_neg (-z) (b:Int),V5]
 refine⟨e,?_⟩;rw[Int.fmod_def,e];have:=Int.mul_ediv_add_emod (-z) (b:Int)
 grind
theorem WV(x y:Int)(hy:y≠0):(x.fdiv y).natAbs<=x.natAbs:=by
 by_cases h:0<y
 .rw[Int.fdiv_eq_ediv_of_nonneg _ aa];exact Int.natAbs_ediv_le_natAbs ..
 .have⟨b,hb⟩:∃b:Nat,b=y.natAbs:=⟨_,rfl⟩;have e:y = -(b:Int):=aa;rw[e,(M2 x (b:=b) aa).1]
  grind[Int.natAbs_ediv_le_natAbs]
theorem amD(hb:0<b)(hz:ay z.natAbs<900000)(hbd:ay b<900000):
   bp DA.p [] (.fn F.ic [] []) [S (itoa z)] λv7 h=>
   ext v7 0 λv8=>
   ext v7 1 λv9=>
   bp DA.p h (.fn F.ic [] []) [S (itoa (-(b:Int)))] λv10 h=>
   ext v10 0 λv11=>
   ext v10 1 λv12=>
   bp DA.p h (.fn F.re [] []) [v9,v12] λv13 h=>
   ext v13 0 λv14=>
   ext v13 1 λv15=>
   ext v13 2 λv16=>
   bnd (aD .neq v16 (.d (.int .i64 0))) λv17=>
   aQ v17 (
    out (.tup [S (itoa ((-z)/b)),S (itoa (-((-z)%b))),I 0]) (.tup [(.d (.str [])),(.d (.str [])),v16]) h) (
    bnd (jB .neq v8 v11) λv18=>
    gd v18 Th h (λq=>q v15 h) λv19 h=>
    gd v18 Th h (λq=>bnd (jY .neq v19 (.d (.str [48]))) λv=>q v h) λv20 h=>
    bnd (kP v18 v20 (.d (.bool SM))) λv21=>
    jn (λl22 h=>
     bnd (jB .neq v8 v11) λv24=>
     bp DA.p h (.fn F.jg [] []) [v24,(ge l22 0)] λv25 h=>
     bp DA.p h (.fn F.jg [] []) [v11,(ge l22 1)] λv26 h=>
     out (.tup [S (itoa ((-z)/b)),S (itoa (-((-z)%b))),I 0]) (.tup [v25,v26,(.d (.int .i64 0))]) h) λq23=>
     aQ v21 (
      bp DA.p h (.fn F.qi [] []) [v14,(.d (.str [49]))] λv27 h=>
      bp DA.p h (.fn F.rb [] []) [v12,v15] λv28 h=>
      ext v28 0 λv29=>
      ext v28 1 λv30=>
      q23 [v27,v29] h) (
      q23 [v14,v15] h)):=by
 have hq:ay (z.natAbs/b)<=ay z.natAbs:=iq (Yv ..);have hr:z.natAbs%b<b:=Y5 _ hb;have hr2:ay (z.natAbs%b)<=ay b:=iq aa;have eb:∀x y:Bool,jB .neq (B x) (B y)=Wf (B (x !=y)):=λ_ _=>rfl
 have sb:=vd (-(b:Int));rw[decide_eq_true (by omega : -(b:Int)<0),show(-(b:Int)).natAbs=b by omega]at sb;simp;refine cd (vd z) ?_;simp;refine cd sb ?_;simp;refine cd (Ik (a:=z.natAbs) hb aa aa) ?_;by_cases hneg:z<0
 .have ez : -z=(z.natAbs:Int):=aa;rw[decide_eq_true hneg];simp[eb];refine fE (l:=[S (aA (z.natAbs/b)),S (aA (z.natAbs%b))]) (h:=[]) (λq=>by rfl) ?_;simp[eb];refine cd (mi SM (n:=z.natAbs/b) aa) ?_;simp;refine cd (mi Th (n:=z.natAbs%b) aa) ?_;refine pS ?_ ?_
  .rw[ez,<-Int.natCast_ediv];rfl
  .rw[ez,<-Int.natCast_emod];rfl
 .have ez : -z = -(z.natAbs:Int):=aa;have⟨d1,d2⟩:=Ij (a:=z.natAbs) hb;rw[<-ez]at d1 d2;rw[decide_eq_false hneg];by_cases h0:z.natAbs%b=0
  .rw[ip h0]at d1 d2;rw[h0,mq];simp[eb];refine fE (l:=[S (aA (z.natAbs/b)),S [48]]) (h:=[]) (λq=>by rfl) ?_;simp[eb];refine cd (mi Th (n:=z.natAbs/b) aa) ?_;simp;have j0:=mi Th (n:=0) ae;rw[mq]at j0;refine cd j0 ?_;refine pS ?_ ?_
   .rw[d1];rfl
   .rw[d2];rfl
  .rw[iN h0]at d1 d2;have h48:¬aA (z.natAbs%b)=[48]:=λh=>h0 (yB.1 h)
   have ad:=NJ (a:=z.natAbs/b) (b:=1) aa (by simp[x9]);rw[show aA 1=[49] by decide+kernel]at ad;simp[eb,h48];apply cx;simp[h48];refine cd ad ?_;simp;refine cd (Iy (a:=b) (b:=z.natAbs%b) aa aa) ?_;simp[eb];have hq1:ay (z.natAbs/b+1)<=900000+1:=we aa (by simp[x9])
   refine cd (mi Th (n:=z.natAbs/b+1) aa) ?_;simp;refine cd (mi Th (n:=b-z.natAbs%b) (Ze (iq (Nat.sub_le ..)) aa)) ?_;refine pS ?_ ?_
   .rw[d1];rfl
   .rw[d2];rfl
theorem ab4(hb:0<b)(hz:ay z.natAbs<900000)(hbd:ay b<900000):Ds F.jh [S (itoa z),S (itoa (-(b:Int)))] (.tup [S (itoa ((-z)/b)),S (itoa (-((-z)%b))),I 0]):=by
 apply O7;have l1:=yj z 18 au;have l2:=yj (-(b:Int)) 18 au;have tl:=amD hb hz hbd
 have h48:¬itoa (-(b:Int))=[48]:=λh=>by
  have:=DF (h.trans (show[48]=itoa 0 by decide+kernel));omega
 simp[jh,h48];refine cd l1 ?_;by_cases h1:iw z<=18
 .rw[ip h1];by_cases h2:iw (-(b:Int))<=18
  .rw[ip h2]at l2;simp;apply cx;simp;refine cd l2 ?_;have b1:=vB h1;have b2:=vB h2;simp only[Nat.reducePow]at b1 b2;have hbz:¬(-(b:Int))=0:=aa;have eb:∀x y:Bool,jB .neq (B x) (B y)=Wf (B (x !=y)):=λ_ _=>rfl
   have⟨n,hn⟩:=bD (z.natAbs);rw[<-hn]at b1;have hq:n/b<=n:=Yv ..;have hr:n%b<b:=Y5 _ hb;have ym:(-(b:Int))<0:=aa;by_cases hneg:z<0
   .have ez:z = -(n:Int):=aa;have q1:z.tdiv (-(b:Int))=((n/b:Nat):Int):=by rw[ez,Int.neg_tdiv,Int.tdiv_neg,V5,Zs aa,<-Int.natCast_ediv]
    have q2:z.tmod (-(b:Int)) = -((n%b:Nat):Int):=by rw[ez,Int.neg_tmod,Int.tmod_neg,Zt aa,<-Int.natCast_emod]
    have d1:(-z)/(b:Int)=((n/b:Nat):Int):=by rw[ez,V5,<-Int.natCast_ediv]
    have d2:(-z)%(b:Int)=((n%b:Nat):Int):=by rw[ez,V5,<-Int.natCast_emod]
    have⟨q,hqq⟩:=bD (n/b);have⟨r,hrr⟩:=bD (n%b);rw[<-hqq]at q1 d1 hq;rw[<-hrr]at q2 d2 hr
    have fin:∀h:Hp,bp DA.p h (V.fn F.iW [] []) [I q] λv45 h=>
      bp DA.p h (V.fn F.iW [] []) [I (-(r:Int))] λv46 h=>out (V.tup [S (itoa ((-z)/(b:Int))),S (itoa (-((-z)%(b:Int)))),I 0]) (V.tup [v45,v46,V.d (D.int iK.i64 0)]) h:=by
     intro h;simp;refine cd (kq (z:=(q:Int)) aa aa) ?_;simp;refine cd (kq (z:=-(r:Int)) aa aa) ?_;refine pS ?_ ?_
     .rw[d1]
     .rw[d2]
    by_cases h0:r=0
    .subst h0;simp only[Int.natCast_zero,Int.neg_zero]at q2 fin;simp(disch:=try exact cj)[q1,q2,hbz];refine fE (l:=[I q,I 0]) (h:=[]) (λq=>by rfl) ?_;exact fin []
    .have r0:¬(-(r:Int))=0:=aa;have r1:(-(r:Int))<0:=aa;simp(disch:=try exact cj)[q1,q2,r0,r1,ym,eb,hbz];refine fE (l:=[I q,I (-(r:Int))]) (h:=[]) (λq=>by simp(disch:=omega) [r0,r1,ym,eb]) ?_;exact fin []
   .have ez:z=(n:Int):=aa;have⟨d1,d2⟩:=Ij (a:=n) hb;rw[<-ez]at d1 d2;have q1:z.tdiv (-(b:Int)) = -((n/b:Nat):Int):=by rw[ez,Int.tdiv_neg,Zs aa,<-Int.natCast_ediv]
    have q2:z.tmod (-(b:Int))=((n%b:Nat):Int):=by rw[ez,Int.tmod_neg,Zt aa,<-Int.natCast_emod]
    have⟨q,hqq⟩:=bD (n/b);have⟨r,hrr⟩:=bD (n%b);rw[<-hqq]at q1 d1 hq;rw[<-hrr]at q2 d1 d2 hr;by_cases h0:r=0
    .rw[ip h0]at d1 d2;subst h0;simp only[Int.natCast_zero]at q2;simp(disch:=try exact cj)[q1,q2,hbz];refine fE (l:=[I (-(q:Int)),I 0]) (h:=[]) (λq=>by rfl) ?_;simp;refine cd (kq (z:=-(q:Int)) aa aa) ?_;simp;refine cd (kq (z:=0) aa aa) ?_;refine pS ?_ ?_
     .rw[d1]
     grind
    .rw[iN h0]at d1 d2;have r0:¬((r:Int))=0:=aa;have r1:¬(r:Int)<0:=aa;simp(disch:=try exact cj)[q1,q2,r0,r1,ym,eb,hbz];refine fE (l:=[I (-(q:Int)-1),I ((r:Int) + -(b:Int))]) (h:=[]) (λq=>by simp(disch:=omega) [r0,r1,ym]) ?_;simp;refine cd (kq (z:=-(q:Int)-1) aa aa) ?_;simp
     refine cd (kq (z:=(r:Int) + -(b:Int)) aa aa) ?_
     grind[pS]
  .rw[iN h2]at l2;simp;apply cx;simp;refine cd l2 ?_;trivial
 simp_all[iN,cx]
theorem Pd(hw0:w≠0)(hz:ay z.natAbs<900000)(hw:ay w.natAbs<900000):Ds F.jh [S (itoa z),S (itoa w)] (.tup [S (itoa (z.fdiv w)),S (itoa (z.fmod w)),I 0]):=by
 by_cases h:0<w
 .rw[Int.fdiv_eq_ediv_of_nonneg _ aa,Int.fmod_eq_emod_of_nonneg _ aa]
  grind[ab5]
 .have⟨b,hb⟩:∃b:Nat,b=w.natAbs:=⟨_,rfl⟩;have e:w = -(b:Int):=aa;rw[<-hb]at hw;rw[e,(M2 z (b:=b) aa).1,(M2 z (b:=b) aa).2];exact ab4 aa hz hw
theorem ab2(hz:ay z.natAbs<999999)(hw:ay w.natAbs<999999):Ds F.zt [S (itoa z),S (itoa w)] (S (itoa (z-w))):=by apply abM;simp[zt];refine cd (Dg aa) ?_;simp;refine cd (zx hz ae) ?_;exact d9 (by rw[Int.sub_eq_add_neg])
end Go.Vm
