/- Lemmas. -/
import Derived.Test.YthjogmhfdpaaaabGreatDoorQDcY
set_option linter.unusedVariables false
set_option linter.unusedSimpArgs false
open Option renaming some->Wf,none->Vc
open Bool renaming true->Th,false->SM
open Go renaming FuncId->fI,IntKind->iK
open List renaming replicate->So,length->RW
namespace Go.Vm
open Go Go.Am Go.Big
variable{z w:Int}{b k c d n g L e:Nat}{p y:aw}{α β:Type}{l:List Tx}{ex fr:Bool}
theorem vI{w:Nat}(h:iy z<=w):z.natAbs<10^w:=by
 have:ay z.natAbs<=w:=by unfold iy at h;omega
 exact Z0 (eW _) (Z2 am this)
theorem kw(h1 : -9223372036854775808<z)(h2:z<9223372036854775808):Ds F.iX [I z] (S (itoa z)):=by apply Pm;simp[iX];refine cd (HO h1 h2) ?_;exact eA rfl
theorem wq{a:Nat}(ha:ay a<=k)(hb:ay b<=k):ay (a+b)<=k+1:=by have h1:a<10^k:=Z0 (eW a) (Z2 am ha);have h2:b<10^k:=Z0 (eW b) (Z2 am hb);exact eC (by rw[Nat.pow_succ];omega) aa
theorem aql(hz:ay z.natAbs<999999)(hw:ay w.natAbs<999999): 
  bp DA.p [] (.fn F.ie [] []) [S (itoa z)] λv6 h=>
  ext v6 0 λv7=>
  ext v6 1 λv8=>
  bp DA.p h (.fn F.ie [] []) [S (itoa w)] λv9 h=>
  ext v9 0 λv10=>
  ext v9 1 λv11=>
  bnd (jE .eql v7 v10) λv12=>
  aQ v12 (
   bp DA.p h (.fn F.qt [] []) [v8,v11] λv13 h=>
   bp DA.p h (.fn F.jh [] []) [v7,v13] λv14 h=>
   out (S (itoa (z+w))) v14 h) (
   bp DA.p h (.fn F.pD [] []) [v8,v11] λv15 h=>
   bnd (aD .lss v15 (.d (.int .i64 0))) λv16=>
   jn (λl17 h=>
    bp DA.p h (.fn F.rC [] []) [(ge l17 1),(ge l17 2)] λv19 h=>
    ext v19 0 λv20=>
    ext v19 1 λv21=>
    bp DA.p h (.fn F.jh [] []) [(ge l17 0),v20] λv22 h=>
    out (S (itoa (z+w))) v22 h) λq18=>
    aQ v16 (
     q18 [v10,v11,v8] h) (
     q18 [v7,v8,v11] h)):=by
 simp;refine cd (vm z) ?_;simp;refine cd (vm w) ?_;have eb:jE .eql (B (decide (z<0))) (B (decide (w<0)))=Wf (B (decide (z<0) == decide (w<0))):=rfl;simp[eb];by_cases hs:(z<0↔w<0)
 .simp[hs];refine cd (NU (a:=z.natAbs) (b:=w.natAbs) aa aa) ?_;simp;have hk:ay (z.natAbs+w.natAbs)<=999999:=wq aa aa;refine cd (mG (decide (z<0)) (n:=z.natAbs+w.natAbs) aa) ?_;apply eA;congr 1;unfold sg;by_cases h:z<0
  .simp[h];omega
  .simp[h];omega
 .simp[hs];refine cd (IP (a:=z.natAbs) (b:=w.natAbs) aa aa) ?_;simp;by_cases PJ:z.natAbs<w.natAbs
  .have hc:Big.cmp z.natAbs w.natAbs<0:=by rw[En PJ];decide
   refine fE (l:=[B (decide (w<0)),S (aA w.natAbs),S (aA z.natAbs)]) (h:=[]) (λq=>by simp[hc]) ?_;simp;refine cd (IJ (a:=w.natAbs) (b:=z.natAbs) aa aa) ?_;simp;refine cd (mG (decide (w<0)) (n:=w.natAbs-z.natAbs) (Zf (ir (Nat.sub_le ..)) aa)) ?_;apply eA;congr 1;unfold sg;by_cases h:w<0
   .simp[h];omega
   .simp[h];omega
  ·have hc:¬Big.cmp z.natAbs w.natAbs<0:=by
    rcases Nat.eq_or_lt_of_not_lt PJ with h|h
    .rw[h,cmp_eq];decide
    .rw[Eo h];decide
   refine fE (l:=[B (decide (z<0)),S (aA z.natAbs),S (aA w.natAbs)]) (h:=[]) (λq=>by simp[hc]) ?_;simp;refine cd (IJ (a:=z.natAbs) (b:=w.natAbs) aa aa) ?_;simp;refine cd (mG (decide (z<0)) (n:=z.natAbs-w.natAbs) (Zf (ir (Nat.sub_le ..)) aa)) ?_;apply eA;congr 1;unfold sg;by_cases h:z<0
   .simp[h];omega
   .simp[h];omega
theorem zI(hz:ay z.natAbs<999999)(hw:ay w.natAbs<999999):Ds F.jj [S (itoa z),S (itoa w)] (S (itoa (z+w))):=by
 apply acd;have l1:=yx z 18 am;have l2:=yx w 18 am;have tl:=aql hz hw;simp[jj];refine cd l1 ?_;by_cases h1:iy z<=18
 .rw[ip h1];simp;by_cases h2:iy w<=18
  .rw[ip h2]at l2;apply cg;simp;refine cd l2 ?_;have b1:=vI h1;have b2:=vI h2;simp only[Nat.reducePow]at b1 b2;have⟨m,hm⟩:=bZ (z+w);rw[hm];simp(disch:=try exact cC)[hm];refine cd (kw (z:=m) aa aa) ?_;exact eA rfl
  .rw[iN h2]at l2;apply cg;simp;refine cd l2 ?_;simp;simpa using tl
 .rw[iN h1];simp;apply cg;simp;simpa using tl
theorem xj(hz:ay z.natAbs<400000)(hw:ay w.natAbs<400000):Ds F.gv [S (itoa z),S (itoa w)] (S (itoa (z*w))):=by
 apply ab5;have l1:=yx z 9 am;have l2:=yx w 9 am;have dm:=ZQ (a:=z.natAbs) (b:=w.natAbs) aa aa
 have hk:ay (z.natAbs*w.natAbs)<1000000:=by
  have h1:=eW z.natAbs;have h2:=eW w.natAbs;have h3:z.natAbs*w.natAbs<10^(ay z.natAbs+ay w.natAbs):=by rw[Yr];exact Yf h1 h2
  have:=eC h3 (by have:=nF z.natAbs;omega);omega
 have e:sg (decide (z<0) !=decide (w<0)) (z.natAbs*w.natAbs)=z*w:=by
  unfold sg;by_cases h1:z<0<;>by_cases h2:w<0
  .simp[h1,h2];rw[Xh aa,Xh aa,Int.neg_mul_neg]
  .simp[h1,h2];rw[Xh aa,Xb aa,Int.neg_mul,V3]
  .simp[h1,h2];rw[Xb aa,Xh aa,Int.mul_neg,V3]
  .simp[h1,h2];rw[Xb aa,Xb aa]
 have eb:jE .neq (B (decide (z<0))) (B (decide (w<0)))=Wf (B (decide (z<0) !=decide (w<0))):=rfl;have jo:=mG (decide (z<0) !=decide (w<0)) hk;rw[e]at jo
 have tail:∀u:Unit,bp DA.p [] (.fn F.ie [] []) [S (itoa z)] λv6 h=>
  ext v6 0 λv7=>
  ext v6 1 λv8=>
  bp DA.p h (.fn F.ie [] []) [S (itoa w)] λv9 h=>
  ext v9 0 λv10=>
  ext v9 1 λv11=>
  bnd (jE .neq v7 v10) λv12=>
  bp DA.p h (.fn F.uO [] []) [v8,v11] λv13 h=>
  bp DA.p h (.fn F.jh [] []) [v12,v13] λv14 h=>
  out (S (itoa (z*w))) v14 h:=by
  intro _;simp;refine cd (vm z) ?_;simp;refine cd (vm w) ?_;simp[eb];refine cd dm ?_;simp;refine cd jo ?_;exact eA rfl
 simp[gv];refine cd l1 ?_;by_cases h1:iy z<=9
 .rw[ip h1];simp;by_cases h2:iy w<=9
  .rw[ip h2]at l2;apply cg;simp;refine cd l2 ?_;have b1:=vI h1;have b2:=vI h2
   have hmb:(z*w).natAbs<1000000000000000000:=by
    rw[Zl];exact Yf b1 b2
   have⟨m,hm⟩:=bZ (z*w);rw[hm]at hmb ⊢;simp(disch:=try exact cC)[hm];refine cd (kw (z:=m) aa aa) ?_;exact eA rfl
  .rw[iN h2]at l2;apply cg;simp;refine cd l2 ?_;simp;simpa using tail ()
 .rw[iN h1];simp;apply cg;simp;simpa using tail ()
theorem pu(n:Nat):itoa (n:Int)=aA n:=by rfl
theorem af2(n:Nat):eU (n:Int)=if n=0 then 0 else 1:=by
 unfold eU;by_cases h:n=0
 .simp[h]
 .rw[iN aa,iN aa,iN h]
theorem Q7(n:Nat):Ds F.kR [S (aA n)] (I (if n=0 then 0 else 1)):=by
 have:=tT (n:Int)
 grind[pu,af2]
theorem JC{a:Nat}(ha:ay a<1000000)(hb:ay b<1000000):Ds F.u7 [S (aA a),S (aA b)] (I (Big.cmp a b)):=by
 apply aca;have s1:=Q7 a;have s2:=Q7 b;simp[u7];by_cases h1:a=0
 .rw[ip h1]at s1;by_cases h2:b=0
  .rw[ip h2]at s2;refine cd s1 ?_;simp;refine cd s2 ?_;simp;refine cd (Ag a) ?_;simp;refine cd (Ag b) ?_;simp;refine fE (l:=[S (aA a),S (aA b)]) (h:=[]) (λq=>by rfl) ?_;simp;refine cd (IP ha hb) ?_;simp
  .rw[iN h2]at s2;refine cd s1 ?_;simp;refine cd s2 ?_;simp;exact df (En aa).symm
 .rw[iN h1]at s1;by_cases h2:b=0
  .rw[ip h2]at s2;refine cd s1 ?_;simp;refine cd s2 ?_;simp;exact df (Eo aa).symm
  .rw[iN h2]at s2;refine cd s1 ?_;simp;refine cd s2 ?_;simp;refine cd (Ag a) ?_;simp;refine cd (Ag b) ?_;simp;refine fE (l:=[S (aA a),S (aA b)]) (h:=[]) (λq=>by rfl) ?_;simp;refine cd (IP ha hb) ?_;simp
theorem Iv{a:Nat}(hb:0<b):(-(a:Int))/(b:Int)=(if a%b=0 then -((a/b:Nat):Int)else -((a/b+1:Nat):Int))∧(-(a:Int))%(b:Int)=(if a%b=0 then 0 else((b-a%b:Nat):Int)):=by
 have h1:=Xo a b;have h2:=Y7 a hb;generalize a%b=r at *;generalize a/b=q at *;by_cases h:r=0
 .subst h;simp only[iT]
  have e:(-(a:Int))=(b:Int)*(-(q:Int)):=by
   rw[Int.mul_neg,<-Int.natCast_mul];congr 1;omega
  rw[e];exact⟨Int.mul_ediv_cancel_left _ aa,Int.mul_emod_right _ _⟩
 .simp only[iN h]
  have e:(-(a:Int))=((b-r:Nat):Int)+(b:Int)*(-((q+1:Nat):Int)):=by
   have:(a:Int)=(b:Int)*q+r:=by rw[<-Int.natCast_mul];omega
   rw[this,Int.mul_neg,Int.natCast_add,V2];omega
  have l1:(0:Int)<=((b-r:Nat):Int):=aa;have l2:((b-r:Nat):Int)<(b:Int):=aa;rw[e];constructor
  .rw[Int.add_mul_ediv_left _ _ aa,Int.ediv_eq_zero_of_lt l1 l2,Xa]
  .rw[Int.add_mul_emod_self_left,Int.emod_eq_of_lt l1 l2]
theorem yl:ay 1=1:=dw
theorem p9{a b a' b':bA}{c:Int}{h:Hp}(e1:a'=a)(e2:b'=b):out (.tup [S a,S b,I c]) (.tup [S a',S b',I c]) h:=by simp_all[oj]
theorem amY(hb:0<b)(hz:ay z.natAbs<900000)(hbd:ay b<900000):
   bp DA.p [] (.fn F.ie [] []) [S (itoa z)] λv7 h=>
   ext v7 0 λv8=>
   ext v7 1 λv9=>
   bp DA.p h (.fn F.ie [] []) [S (aA b)] λv10 h=>
   ext v10 0 λv11=>
   ext v10 1 λv12=>
   bp DA.p h (.fn F.rE [] []) [v9,v12] λv13 h=>
   ext v13 0 λv14=>
   ext v13 1 λv15=>
   ext v13 2 λv16=>
   bnd (aD .neq v16 (.d (.int .i64 0))) λv17=>
   aQ v17 (
    out (.tup [S (itoa (z/b)),S (itoa (z%b)),I 0]) (.tup [(.d (.str [])),(.d (.str [])),v16]) h) (
    bnd (jE .neq v8 v11) λv18=>
    gd v18 Th h (λq=>q v15 h) λv19 h=>
    gd v18 Th h (λq=>bnd (j7 .neq v19 (.d (.str [48]))) λv=>q v h) λv20 h=>
    bnd (kU v18 v20 (.d (.bool SM))) λv21=>
    jn (λl22 h=>
     bnd (jE .neq v8 v11) λv24=>
     bp DA.p h (.fn F.jh [] []) [v24,(ge l22 0)] λv25 h=>
     bp DA.p h (.fn F.jh [] []) [v11,(ge l22 1)] λv26 h=>
     out (.tup [S (itoa (z/b)),S (itoa (z%b)),I 0]) (.tup [v25,v26,(.d (.int .i64 0))]) h) λq23=>
     aQ v21 (
      bp DA.p h (.fn F.qt [] []) [v14,(.d (.str [49]))] λv27 h=>
      bp DA.p h (.fn F.rC [] []) [v12,v15] λv28 h=>
      ext v28 0 λv29=>
      ext v28 1 λv30=>
      q23 [v27,v29] h) (
      q23 [v14,v15] h)):=by
 have hq:ay (z.natAbs/b)<=ay z.natAbs:=ir (Yv ..);have hr:z.natAbs%b<b:=Y7 _ hb;have hr2:ay (z.natAbs%b)<=ay b:=ir aa
 have eb:jE .neq (B (decide (z<0))) (B SM)=Wf (B (decide (z<0))):=by
  show Wf (B (decide (z<0) !=SM))=_
  rw[Bool.bne_false]
 simp;refine cd (vm z) ?_;simp;refine cd (Ag b) ?_;simp;refine cd (Iw (a:=z.natAbs) hb aa aa) ?_;by_cases hneg:z<0
 .have ez:z = -(z.natAbs:Int):=aa;have⟨d1,d2⟩:=Iv (a:=z.natAbs) hb;rw[<-ez]at d1 d2;rw[decide_eq_true hneg]at eb ⊢;by_cases h0:z.natAbs%b=0
  .rw[ip h0]at d1 d2;rw[h0,k9];simp[eb];refine fE (l:=[S (aA (z.natAbs/b)),S [48]]) (h:=[]) (λq=>by rfl) ?_;simp[eb];refine cd (mG Th (n:=z.natAbs/b) aa) ?_;simp;have j0:=mG SM (n:=0) ae;rw[k9]at j0;refine cd j0 ?_;refine p9 ?_ ?_
   .rw[d1];rfl
   .rw[d2];rfl
  .rw[iN h0]at d1 d2;have h48:¬aA (z.natAbs%b)=[48]:=λh=>h0 (yN.1 h)
   have ad:=NU (a:=z.natAbs/b) (b:=1) aa (by simp[yl]);rw[show aA 1=[49] by decide+kernel]at ad;simp[eb,h48];apply cg;simp[h48];refine cd ad ?_;simp;refine cd (IJ (a:=b) (b:=z.natAbs%b) aa aa) ?_;simp[eb];have hq1:ay (z.natAbs/b+1)<=900000+1:=wq aa (by simp[yl])
   refine cd (mG Th (n:=z.natAbs/b+1) aa) ?_;simp;refine cd (mG SM (n:=b-z.natAbs%b) (Zf (ir (Nat.sub_le ..)) aa)) ?_;refine p9 ?_ ?_
   .rw[d1];rfl
   .rw[d2];rfl
 .rw[decide_eq_false hneg]at eb ⊢;simp[eb];refine fE (l:=[S (aA (z.natAbs/b)),S (aA (z.natAbs%b))]) (h:=[]) (λq=>by rfl) ?_;simp[eb];refine cd (mG SM (n:=z.natAbs/b) aa) ?_;simp;refine cd (mG SM (n:=z.natAbs%b) aa) ?_;have ez:z=(z.natAbs:Int):=aa;refine p9 ?_ ?_
  .rw[ez,<-Int.natCast_ediv];rfl
  .rw[ez,<-Int.natCast_emod];rfl
theorem JB(hb:0<b)(hz:ay z.natAbs<900000)(hbd:ay b<900000):Ds F.ji [S (itoa z),S (aA b)] (.tup [S (itoa (z/b)),S (itoa (z%b)),I 0]):=by
 apply Pn;have l1:=yx z 18 am;have l2:=ajq b 18 am;have tl:=amY hb hz hbd;have h48:¬aA b=[48]:=λh=>by grind[yN]
 simp[ji,h48];refine cd l1 ?_;by_cases h1:iy z<=18
 .rw[ip h1];by_cases h2:ay b<=18
  .rw[ip h2]at l2;simp;apply cg;simp;refine cd l2 ?_;have b1:=vI h1;have b2:b<10^18:=Z0 (eW b) (Z2 am h2);simp only[Nat.reducePow]at b1 b2;have hbz:¬(b:Int)=0:=aa;have⟨n,hn⟩:=bD (z.natAbs);rw[<-hn]at b1;have hq:n/b<=n:=Yv ..;have hr:n%b<b:=Y7 _ hb;by_cases hneg:z<0
   .have ez:z = -(n:Int):=aa;have⟨d1,d2⟩:=Iv (a:=n) hb;rw[<-ez]at d1 d2;have q1:z.tdiv (b:Int) = -((n/b:Nat):Int):=by rw[ez,Int.neg_tdiv,Zs aa,<-Int.natCast_ediv]
    have q2:z.tmod (b:Int) = -((n%b:Nat):Int):=by rw[ez,Int.neg_tmod,Zt aa,<-Int.natCast_emod]
    have⟨q,hqq⟩:=bD (n/b);have⟨r,hrr⟩:=bD (n%b);rw[<-hqq]at q1 d1 hq;rw[<-hrr]at q2 d1 d2 hr;by_cases h0:r=0
    .rw[ip h0]at d1 d2;rw[h0]at q2;simp(disch:=try exact cC)[q1,q2];refine fE (l:=[I (-(q:Int)),I 0]) (h:=[]) (λq=>by rfl) ?_;simp;refine cd (kw (z:=-(q:Int)) aa aa) ?_;simp;refine cd (kw (z:=0) aa aa) ?_;refine p9 ?_ ?_
     .rw[d1]
     .rw[d2]
    .rw[iN h0]at d1 d2;have r0:¬(-(r:Int))=0:=aa;have r1:(-(r:Int))<0:=aa;have r2:¬(b:Int)<0:=aa;have eb:∀x y:Bool,jE .neq (B x) (B y)=Wf (B (x !=y)):=λ_ _=>rfl
     simp(disch:=try exact cC)[q1,q2,r0,r1,r2,eb];refine fE (l:=[I (-(q:Int)-1),I (-(r:Int)+b)]) (h:=[]) (λq=>by simp(disch:=omega) [r0,r1,r2]) ?_;simp;refine cd (kw (z:=-(q:Int)-1) aa aa) ?_;simp;refine cd (kw (z:=-(r:Int)+b) aa aa) ?_
     grind[p9]
   .have ez:z=(n:Int):=aa;have q1:z.tdiv (b:Int)=((n/b:Nat):Int):=by rw[ez,Zs aa,<-Int.natCast_ediv]
    have q2:z.tmod (b:Int)=((n%b:Nat):Int):=by rw[ez,Zt aa,<-Int.natCast_emod]
    have d1:z/(b:Int)=((n/b:Nat):Int):=by rw[ez,<-Int.natCast_ediv]
    have d2:z%(b:Int)=((n%b:Nat):Int):=by rw[ez,<-Int.natCast_emod]
    have⟨q,hqq⟩:=bD (n/b);have⟨r,hrr⟩:=bD (n%b);rw[<-hqq]at q1 d1 hq;rw[<-hrr]at q2 d2 hr;have r1:¬((r:Int))<0:=aa;have r2:¬(b:Int)<0:=aa;have eb:∀x y:Bool,jE .neq (B x) (B y)=Wf (B (x !=y)):=λ_ _=>rfl
    have fin:∀h:Hp,bp DA.p h (V.fn F.iX [] []) [I q] λv45 h=>
      bp DA.p h (V.fn F.iX [] []) [I r] λv46 h=>out (V.tup [S (itoa (z/(b:Int))),S (itoa (z%(b:Int))),I 0]) (V.tup [v45,v46,V.d (D.int iK.i64 0)]) h:=by
     intro h;simp;refine cd (kw (z:=q) aa aa) ?_;simp;refine cd (kw (z:=r) aa aa) ?_;refine p9 ?_ ?_
     .rw[d1]
     .rw[d2]
    by_cases h0:r=0
    .rw[h0]at q2 fin;simp(disch:=try exact cC)[q1,q2];refine fE (l:=[I q,I 0]) (h:=[]) (λq=>by rfl) ?_;exact fin []
    .have r0:¬(r:Int)=0:=aa;simp(disch:=try exact cC)[q1,q2,r0,r1,r2,eb];refine fE (l:=[I q,I r]) (h:=[]) (λq=>by rfl) ?_;exact fin []
  .rw[iN h2]at l2;simp;apply cg;simp;refine cd l2 ?_;trivial
 simp_all[iN,cg]
theorem an1{a:Nat}(ha0:0<a)(hb0:0<b)(ha:ay a<400000)(hb:ay b<400000):Ds F.BW [S (aA a),S (aA b)] (S (aA (Nat.lcm a b))):=by
 apply anL;have h1:¬aA a=[48]:=λh=>by have:=yN.1 h;omega
 have h2:¬aA b=[48]:=λh=>by have:=yN.1 h;omega
 have hg:0<Nat.gcd a b:=Nat.gcd_pos_of_pos_left _ ha0;have hgl:Nat.gcd a b<=a:=Nat.gcd_le_left _ ha0;have hq:ay (a/Nat.gcd a b)<=ay a:=ir (Yv ..);simp[BW,h1,h2];refine cd (WV aa aa) ?_;simp;refine cd (Iw (a:=a) (b:=Nat.gcd a b) hg aa (by have:=ir hgl;omega)) ?_;simp
 refine cd (ZQ (a:=a/Nat.gcd a b) (b:=b) aa aa) ?_;apply eA;congr 1;rw[Nat.lcm,Zq,<-Nat.mul_div_assoc _ (Wj a b),Zq]
theorem OV(n:Nat):Ds F.lK [S (aA n)] (S (aA n)):=by
 have:=Cg (n:Int)
 rwa [pu,Int.natAbs_natCast]at this
theorem acj{a:Nat}(ha0:0<a)(hb0:0<b)(ha:ay a<400000)(hb:ay b<400000):Ds F.xh [S (aA a),S (aA b)] (S (aA (Nat.lcm a b))):=by apply ab6;simp[xh];refine cd (OV a) ?_;simp;refine cd (OV b) ?_;simp;refine cd (an1 ha0 hb0 ha hb) ?_;exact eA rfl
theorem ahT(h:z.natAbs<9223372036854775808):Ds F.vj [S (itoa z),I 10,I 64] (.tup [I z,.d (.pl .nilIface)]):=by
 have key:∀n:Nat,n<9223372036854775808->(aA n)≠[]∧(aA n).all nM=Th∧RW (aA n)<=1000∧iu 0 (aA n)=n:=by
  intro n hn;have hd:=nI n;have hc:=Et n
  have hl:RW (aA n)<=1000:=by
   have:=eC (n:=n) (d:=19) aa am;rw[aA,fq];omega
  simp only[iL,Z7]at hc
  have hall:(aA n).all nM=Th:=by
   rw[<-hc.1.2];congr 1;funext c;exact digit_eq c
  exact⟨DL n,hall,hl,by rw[Iq,hd]⟩
 have ho:Y.X.orc F.vj [.string ⟨⟨itoa z⟩⟩,.int .i64 10,.int .i64 64]=Wf (.tuple #[.int .i64 z,.nilIface]):=by
  have e:∀a,Y.X.orc F.vj a=GA a:=λa=>rfl
  rw[e];have⟨k1,k2,k3,k4⟩:=key _ h;unfold GA;simp only;rw[ip ⟨trivial,trivial⟩];by_cases hz:z<0
  .have e1:itoa z=45::aA z.natAbs:=by unfold itoa;rw[ip hz]
   rw[e1];simp only;rw[ip ⟨k1,k2,k3,by rw[k4];exact h⟩,k4,show(-((z.natAbs:Nat):Int))=z by omega]
  .have e1:itoa z=aA z.natAbs:=by unfold itoa;rw[iN hz]
   rw[e1];have hh:=yM z.natAbs;have ez:((z.natAbs:Nat):Int)=z:=aa;generalize aA z.natAbs=L at *
   have fin:(if L≠[]∧L.all nM=Th∧RW L<=1000∧iu 0 L<9223372036854775808 then Wf (Value.tuple #[.int .i64 (iu 0 L),.nilIface])else Vc)=Wf (Value.tuple #[.int .i64 z,.nilIface]):=by
    rw[ip ⟨k1,k2,k3,by rw[k4];exact h⟩,k4,ez]
   split
   .rename_i l hl;exact absurd rfl hh
   .exact fin
 exact CP.orc ho (by intro x hx;simp only[Zy,Y4,or_false]at hx;rcases hx with rfl|rfl|rfl<;>rfl) rfl
theorem Kd(h:z.natAbs<9223372036854775808):Ds F.uY [S (itoa z)] (.tup [I z,B Th]):=by apply ab1;simp[uY];refine cd (ahT h) ?_;simp[GU];exact fR rfl rfl
def oN(s:Nat)(h:Hp)(v:V)(d:ax):Prop:=∀h':Hp,RW h'=RW h->(∀j,j≠s->h'[j]?=h[j]?)->qz h' v d∧∃h2,bQ h' v=Wf (aj u6 d,h2)
theorem oN.now{s:Nat}{h:Hp}{v:V}{d:ax}(r:oN s h v d):qz h v d:=(r h rfl λ_ _=>rfl).1
theorem oN.step{s:Nat}{h h2:Hp}{v:V}{d:ax}(r:oN s h v d)(hl:RW h2=RW h)(hs:∀j,j≠s->h2[j]?=h[j]?):oN s h2 v d:=
 λh' h1 h3=>r h' (h1.trans hl) λj hj=>(h3 j hj).trans (hs j hj)
theorem oN.new{s t e N m:Nat}{h:Hp}(DB:s≠t)(hg:h[t]?=Wf (e,.data 1 ((bE N m).map u6) Th SM))(hm:m<Z^N):oN s h (.ref t e 0 (RW (aI Z m)) N N) (aI Z m):=λh' hl ho=>by
 have:=Jj (h:=h') (cap:=N) ((ho t (Ne.symm DB)).trans hg) (iU ..).symm (jd hm);rw[uC hm]at this;have sn:=vq (h:=h') ((ho t (Ne.symm DB)).trans hg) (iU ..).symm (len:=RW (aI Z m)) (cap:=N) (jd hm) (Z8 _);rw[uC hm]at sn;exact⟨this,_,sn⟩
theorem and_one{n:Int}(h0:0<=n)(h1:n<9223372036854775808):aD .and (I n) (I 1)=Wf (I (n%2)):=by
 obtain⟨m,rfl⟩:∃m:Nat,n=m:=⟨n.toNat,aa⟩
 have hb:(BitVec.ofInt 64 (m:Int)&&&BitVec.ofInt 64 1).toNat=m%2:=by
  rw[BitVec.toNat_and]
  have e1:(BitVec.ofInt 64 (m:Int)).toNat=m:=by
   rw[BitVec.toNat_ofInt];omega
  have e2:(BitVec.ofInt 64 (1:Int)).toNat=1:=am;rw[e1,e2,Nat.and_one_is_mod]
 simp only[aD,iR,ne_eq,not_true_eq_false,iF,jt,dL]
 show Wf (V.d (.int .i64 (iK.wrap .i64 ((BitVec.ofInt 64 (m:Int)&&&BitVec.ofInt 64 1).toNat:Int))))=_
 rw[hb,Cr aa aa];rfl
theorem ahy(k:KL):∀(n A Bv:Nat)(o p:V)(h:Hp)(R:Nat),A*Bv^n=R->0<A->0<Bv->R<Z^2000->n<100000->RW h=3->NV h->oN 2 h o (aI Z A)->oN 1 h p (aI Z Bv) ->
  (∀o' h' h2,RW h'=3->bQ h' o'=Wf (aj u6 (aI Z R),h2)->NV h'->k (.exit 1) [o'] h')->∀h0:Hp,RW h0=3->lp (Eh DA) [] h0 [o,p,I n] h k:=by
 intro n
 induction n using Nat.strongRecOn with
 | ind n ih=>
  intro A Bv o p h R hR hA hB hlim hn Rg hnv ro rp hk h0 hl0;apply aL;by_cases hz:n=0
  .subst hz;simp[Eh];rw[Nat.pow_zero,Y1]at hR;subst hR;have⟨h2,hs2⟩:=(ro h rfl λ_ _=>rfl).2;exact hk o h h2 Rg hs2 hnv
  have hpos:(n:Int)>0:=aa
  have hBR:Bv<=R:=by
   rw[<-hR];exact Z1 (Nat.le_of_eq (Nat.pow_one Bv).symm) (Z1 (Z2 hB aa) (Nat.le_mul_of_pos_left _ hA))
  have hAR:A<=R:=by rw[<-hR];exact Zc _ (Xr hB)
  have dA:RW (aI Z A)<=2000:=jd aa;have dB:RW (aI Z Bv)<=2000:=jd aa;have and1:=and_one (n:=(n:Int)) aa aa;have e2:((n:Int)/2^(1:Int).toNat)=((n/2:Nat):Int):=ac
  have sh:aD .shr (I n) (.d (.int .u64 1))=Wf (I (n/2:Nat)):=by
   rw[afW aa aa,e2]
  have hn2:n/2<n:=aa
  -- what a product gives
  have times:∀(h:Hp)(v w:V)(a b s:Nat),RW h=3->NV h->s<3->qz h v (aI Z a)->qz h w (aI Z b)->RW (aI Z a)<=2000->RW (aI Z b)<=2000->∀q:bG,
    (∀o' h',RW h'=3->NV h'->(∀j,j≠s->h'[j]?=h[j]?)->(∀t,t≠s->oN t h' o' (aI Z (a*b)))->q o' h')->eQ DA.i h (V.fn F.rt [] []) [v,w] s q:=by
   intro h v w a b s hl hv hs r1 r2 d1 d2 q hq;have⟨N,hN⟩:=bD (RW (aI Z a)+RW (aI Z b));have tk:=JM (h:=h) (hv.all _) r1 (jc cW a) r2 (jc cW b) aa aa hN;rw[kS cW,kS cW]at tk;have hs3:s<RW h:=aa;have hm:a*b<Z^N:=by rw[hN,Yr];exact Yf (wu a) (wu b)
   refine jS (e:=h[s].1) (b:=h[s].2) tk (List.getElem?_eq_getElem hs3) ?_;rw[List.length_map,iU];have gs:(h.set s (h[s].1+1,.data 1 ((bE N (a*b)).map u6) Th SM))[s]?=Wf (h[s].1+1,.data 1 ((bE N (a*b)).map u6) Th SM):=by simp[hs3]
   have os:∀j,j≠s->(h.set s (h[s].1+1,.data 1 ((bE N (a*b)).map u6) Th SM))[j]?=h[j]?:=λj hj=>by rw[List.getElem?_set_ne (Ne.symm hj)]
   exact hq _ _ (by simp[hl]) (hv.upd gs os) os (λt ht=>oN.new ht gs hm)
  have fin:∀(A' B':Nat)(o' p':V)(h':Hp),A'*B'^(n/2)=R->0<A'->0<B'->RW h'=3->NV h'->oN 2 h' o' (aI Z A')->oN 1 h' p' (aI Z B')->rl (lp (Eh DA) [] h0 [o',p',I ((n:Int)/2)] h') k .mk:=by
   intro A' B' o' p' h' e1 e2 e3 e4 e5 e6 e7;rw[show((n:Int)/2)=((n/2:Nat):Int) by omega];exact ih (n/2) hn2 A' B' o' p' h' R e1 e2 e3 hlim aa e4 e5 e6 e7 hk h0 hl0
  have hdm:=Xo n 2;simp(disch:=omega) [Eh,hpos];apply cg;simp[and1];by_cases hod:(n:Int)%2=1
  .have hod':n%2=1:=aa
   have eR:A*Bv*(Bv*Bv)^(n/2)=R:=by
    rw[<-hR]
    conv=>rhs;rw[<-hdm,hod',Yr,Wc,Nat.pow_one]
    rw[Nat.pow_two,Nat.mul_assoc,Zq Bv]
   apply cg;simp[hod];refine ii (times h o p A Bv 1 Rg hnv aa ro.now rp.now dA dB _ λo' h' l1 v1 s1 r1=>?_);have rp1:=rp.step (l1.trans Rg.symm) s1;have ro1:=r1 2 aa;simp;apply cg;by_cases h1:(n:Int)>1
   .simp[h1];refine ii (times h' p p Bv Bv 2 l1 v1 aa rp1.now rp1.now dB dB _ λp' h'' l2 v2 s2 r2=>?_);have ro2:=ro1.step (l2.trans l1.symm) s2;simp(disch:=omega) [sh];exact fin _ _ o' p' h'' eR (Yk hA hB) (Yk hB hB) l2 v2 ro2 (r2 1 aa)
   .have hn1:n=1:=aa;simp(disch:=omega) [h1,sh];refine fin (A*Bv) Bv o' p h' ?_ (Yk hA hB) hB l1 v1 ro1 rp1;rw[<-eR];subst hn1;simp
  .have hod':n%2=0:=aa
   have eR:A*(Bv*Bv)^(n/2)=R:=by
    rw[<-hR]
    conv=>rhs;rw[<-hdm,hod',Nat.add_zero,Wc]
    rw[Nat.pow_two]
   apply cg;simp[hod];apply cg;have h1:(n:Int)>1:=aa;simp[h1];refine ii (times h p p Bv Bv 2 Rg hnv aa rp.now rp.now dB dB _ λp' h'' l2 v2 s2 r2=>?_);have ro2:=ro.step (l2.trans Rg.symm) s2;simp(disch:=omega) [sh];exact fin _ _ o p' h'' eR hA (Yk hB hB) l2 v2 ro2 (r2 1 aa)
theorem U5(h:n<18446744073709551616):Ds F.yu [.d (.int .u64 n)] (I (cQ n)):=by apply ai2;simp[yu];refine cd (Mf h) ?_;simp<;>exact df rfl
theorem HP:aA 2=[50]:=dw
theorem ov:aA 1=[49]:=dw
theorem apv:Ds F.BZ [S [50]] (I 2):=by apply anV;have h:=Kc (n:=2) aa;rw[HP]at h;have h2:=Mf (n:=2) aa;rw[show cQ 2=2 by rfl]at h2;simp[BZ];refine cd h ?_;simp;refine cd h2 ?_;simp
theorem PI{K:Nat}(h:n/3+1<=K):2^n<10^K:=by
 have h1:2^n=8^(n/3)*2^(n%3):=by
  rw[show(8:Nat)=2^3 from rfl,<-Wc,<-Yr,Xo]
 have h2:8^(n/3)<=10^(n/3):=Nat.pow_le_pow_left am _
 have h3:2^(n%3)<=4:=by
  have:n%3<3:=Y7 _ am;exact Z1 (Z2 am (show n%3<=2 by omega)) am
 have h4:10^(n/3+1)<=10^K:=Z2 am h;have h5:=Zr h2 h3
 grind
theorem aiD{K:Nat}(h:n/3+1<=K)(hK:0<K):ay (2^n)<=K:=eC (PI h) hK
theorem ac4{K:Nat}(h:n/3+1<=K):2^n<Z^K:=Z0 (PI h) (Nat.pow_le_pow_left am _)
theorem Gx(hn:n<=4000):2^n<Z^2000∧ay (2^n)<=2000:=
 ⟨ac4 (K:=2000) aa,aiD (K:=2000) aa aa⟩
theorem an0(hn:n<=4000):Ds F.wZ [S [50],I n] (.tup [S (aA (2^n)),I 0]):=by
 apply anH;by_cases h0:n=0
 .simp_all[ov,wZ,fR]
 have g1:¬(n:Int)=0:=aa;have g2:¬(n:Int)<0:=aa;have g3:¬(n:Int)>66439:=aa;have n1:¬([50]:bA)=[49]:=am;have n2:¬([50]:bA)=[48]:=am;have ct:=tc (h:=[ah,ah,ah]) rfl (n:=2) (cap:=1) dw dw;rw[HP]at ct;have⟨p1,p2⟩:=Gx hn
 have hli:∀h:Hp,cI 1 [D.int .u64 0] [(0,V.d (D.int .u64 1))] h=Wf ([u6 1],h):=λh=>by rfl
 simp(disch:=omega) [wZ,g1,g2,n1,n2];refine cd apv ?_;simp[g3,hli];refine ii (jS (e:=0) (b:=.none) ct rfl ?_);rw[List.length_map,iU];simp
 have nv:NV [(1,.data 1 ((bE 1 2).map u6) Th SM),ah,ah]:=by
  intro j x hj b';rcases Wr.2 ⟨j,hj⟩with hm;simp only[Zy,Y4,or_false]at hm;rcases hm with rfl|rfl|rfl<;>rfl
 refine lo (ahy _ n 1 2 (aj u6 [1]) _ [(1,.data 1 ((bE 1 2).map u6) Th SM),ah,ah] (2^n) (by rw[W0]) am am p1 aa rfl nv ?_ ?_ (λo' h' h2 hl hr hv=>?_) _ rfl)
 .intro h' _ _;rw[show aI Z 1=[1] by rfl];simp[Jk]
 .exact oN.new (s:=1) (t:=0) am rfl am
 .have hl1:¬(ay (2^n):Int)>20000:=aa;have lt:=sN (2^n);have tx:=zV (n:=2^n) (Zf (jd p1) am);generalize 2^n=m at *;simp;refine rF (by simp only[bY,hr];rfl) tx ?_
  simp_all[fR]
theorem Lj(hn:n<=4000):Ds F.uZ [S [50],I n] (.tup [S (aA (2^n)),I 0]):=by apply ab3;have sp:=Ag 2;rw[HP]at sp;have g2:¬(n:Int)<0:=aa;have g3:¬(n:Int)>4000:=aa;have⟨p1,p2⟩:=Gx hn;have q:((4000:Int).tdiv 1)=4000:=am;simp[uZ,g2];refine cd sp ?_;simp[g3,q];refine cd (an0 hn) ?_;simp;refine cd (akC _) ?_;simp[fR]
def uJ(unit two:Nat):Nat->Nat->Nat->Nat->Option Nat
 |0,_,_,out=>Wf out
 | r+1,low,high,out=>
  cond (Nat.ble two (low*low/unit)) (uJ unit two r (low*low/unit/2) ((high*high/unit+1)/2+1) (out+out+1))
   (cond (Nat.ble two (high*high/unit+1)) Vc (uJ unit two r (low*low/unit) (high*high/unit+1) (out+out)))
def qp(p n more:Nat):Option Nat:=uJ (2^more) (2^more+2^more) n (p*2^(more-(cQ p-1))) (p*2^(more-(cQ p-1))) (cQ p-1)
def Iy:Option Nat->V
 |some v=>.tup [S (aA v),B Th]
 |none=>.tup [S [],B SM]
theorem zJ{a:Nat}(ha:ay a<999999)(hb:ay b<999999):Ds F.jj [S (aA a),S (aA b)] (S (aA (a+b))):=by have:=zI (z:=(a:Int)) (w:=(b:Int)) cU cU;trivial
theorem Ct{a:Nat}(ha:ay a<400000)(hb:ay b<400000):Ds F.gv [S (aA a),S (aA b)] (S (aA (a*b))):=by have:=xj (z:=(a:Int)) (w:=(b:Int)) cU cU;trivial
theorem zH{a:Nat}(h0:0<b)(ha:ay a<900000)(hb:ay b<900000):Ds F.ji [S (aA a),S (aA b)] (.tup [S (aA (a/b)),S (aA (a%b)),I 0]):=by grind[JB,pu]
theorem wn{a:Nat}:ay (a*b)<=ay a+ay b:=by
 have h3:a*b<10^(ay a+ay b):=by rw[Yr];exact Yf (eW a) (eW b)
 exact eC h3 (by grind[nF])
theorem aaq{a:Nat}:decide (0<=Big.cmp a b)=Nat.ble b a:=by grind[Nat.ble_eq,En,cmp_eq,Eo]
theorem aiF(h:ay n<=k):ay (n+n+1)<=k+1:=by have h1:n<10^k:=Z0 (eW n) (Z2 am h);exact eC aa aa
theorem ZI{unit two N W:Nat}(hu:2<=unit)(htwo:two=unit+unit)(hW:ay two<=W)(hW2:W<100000)(hN:N<100000)(k:KL):∀(r i low high out:Nat),i+r=N->low<=high->high<two->ay out<=W+i ->
  (∀v,uJ unit two r low high out=Wf v->ay v<=W+N->k (.exit 0) [S (aA v)] [])->(uJ unit two r low high out=Vc->k .ret [S [],B SM] []) ->
  lp (FH DA (S (aA unit)) (S (aA two)) (I N)) [] [] [S (aA low),S (aA high),S (aA out),I i] [] k
 | 0,i,low,high,out,hi,hlh,hht,ho,h0,h1=>by
  have hiN:¬(i:Int)<(N:Int):=aa;apply aL;simp[FH,hiN];exact h0 out rfl aa
 | r+1,i,low,high,out,hi,hlh,hht,ho,h0,h1=>by
  have hiN:(i:Int)<(N:Int):=aa;have ih:=ZI hu htwo hW hW2 hN k r (i+1);have u1:ay unit<=W:=Z1 (ir aa) hW;have u2:ay low<=W:=Z1 (ir aa) hW;have u3:ay high<=W:=Z1 (ir aa) hW;have m1:=Ct (a:=low) (b:=low) aa aa;have m2:=Ct (a:=high) (b:=high) aa aa
  have w1:ay (low*low)<=W+W:=Z1 wn aa;have w2:ay (high*high)<=W+W:=Z1 wn aa;have d1:=zH (a:=low*low) (b:=unit) aa aa aa;have d2:=zH (a:=high*high) (b:=unit) aa aa aa;have lowle:low*low/unit<=high*high/unit:=Nat.div_le_div_right (Zr hlh hlh)
  have hi4:high*high/unit+4<=4*unit:=by
   have e1:high*high<=(2*unit-1)*(2*unit-1):=Zr aa aa
   have e2:(2*unit-1)*(2*unit-1)+4*unit=4*unit*unit+1:=by
    have⟨x,hx⟩:∃x,unit=x+1:=⟨unit-1,aa⟩;subst hx;rw[show 2*(x+1)-1=2*x+1 by omega];simp only[Nat.add_mul,Zm,Y1,W0,Nat.mul_assoc,Y3 x 2];omega
   have e3:high*high<(4*unit-3)*unit:=by
    rw[Nat.sub_mul];have:4*unit*unit≥3*unit:=Zu _ aa;omega
   have:=(Xf aa).2 e3;omega
  have eqF:uJ unit two (r+1) low high out=cond (Nat.ble two (low*low/unit)) (uJ unit two r (low*low/unit/2) ((high*high/unit+1)/2+1) (out+out+1))
   (cond (Nat.ble two (high*high/unit+1)) Vc (uJ unit two r (low*low/unit) (high*high/unit+1) (out+out))):=rfl
  rw[eqF]at h0 h1;generalize low*low/unit=L1 at *;generalize high*high/unit=H0 at *;have t2:ay (two+two)<=W+1:=wq hW hW;have v1:ay L1<=W+1:=Z1 (ir aa) t2;have v2:ay H0<=W+1:=Z1 (ir aa) t2;have v3:ay (H0+1)<=W+1:=Z1 (ir aa) t2;have a1:=zJ (a:=H0) (b:=1) aa (by simp[yl]);rw[ov]at a1
  have a2:=zJ (a:=out) (b:=out) aa aa;have vo:ay (out+out)<=W+i+1:=wq ho ho;have a3:=zJ (a:=out+out) (b:=1) aa (by simp[yl]);rw[ov]at a3;have c1:=JC (a:=L1) (b:=two) aa aa;have c2:=JC (a:=H0+1) (b:=two) aa aa;have g1:=aaq (a:=L1) (b:=two);have g2:=aaq (a:=H0+1) (b:=two)
  have d3:=zH (a:=L1) (b:=2) aa aa (by rw[show ay 2=1 by decide+kernel];omega);have d4:=zH (a:=H0+1) (b:=2) aa aa (by rw[show ay 2=1 by decide+kernel];omega);rw[HP]at d3 d4;have v4:ay ((H0+1)/2)<=W+1:=Z1 (ir aa) t2;have a4:=zJ (a:=(H0+1)/2) (b:=1) aa (by simp[yl]);rw[ov]at a4
  generalize Big.cmp L1 two=C1 at *;generalize Big.cmp (H0+1) two=C2 at *;apply aL;simp[FH,hiN];apply cg;simp;refine cd m1 ?_;simp;refine cd d1 ?_;simp;refine cd m2 ?_;simp;refine cd d2 ?_;simp;refine cd a1 ?_;simp;refine cd a2 ?_;simp;apply cg;simp;refine cd c1 ?_;simp;apply cg;cases q1:Nat.ble two L1 with
  | true=>
   rw[q1]at g1 h0 h1;simp only[cond_true]at h0 h1;have g1':0<=C1:=by simpa using g1
   have b1:two<=L1:=Nat.le_of_ble_eq_true q1;simp[g1'];refine cd a3 ?_;simp;refine cd d3 ?_;simp;refine cd d4 ?_;simp;refine cd a4 ?_;simp(disch:=omega) [];have:=ih (L1/2) ((H0+1)/2+1) (out+out+1) aa aa aa (aiF ho) h0 h1;trivial
  | false=>
   rw[q1]at g1 h0 h1;simp only[cond_false]at h0 h1;have g1':¬0<=C1:=by simpa using g1
   simp[g1'];refine cd c2 ?_;simp;cases q2:Nat.ble two (H0+1)with
   | true=>
    rw[q2]at g2 h1;have g2':0<=C2:=by simpa using g2
    simp_all
   | false=>
    rw[q2]at g2 h0 h1;simp only[cond_false]at h0 h1;have g2':¬0<=C2:=by simpa using g2
    have b2:¬two<=H0+1:=λh=>by simp_all[Nat.ble_eq_true_of_le]
    simp(disch:=omega) [g2'];have:=ih L1 (H0+1) (out+out) aa aa aa aa h0 h1;trivial
theorem ahW(v:Nat)(h:Hp):out (Iy (Wf v)) (.tup [S (aA v),B Th]) h:=fR rfl rfl
theorem ahX(h:Hp):out (Iy Vc) (.tup [S [],B SM]) h:=fR rfl rfl
theorem am7{p more:Nat}(hp:2<=p)(hp2:p<1000000)(hm1:30<=more)(hm:more<=4000)(hn:n<=4000):Ds F.size_digits [I p,I n,I more] (Iy (qp p n more)):=by
 apply afG;have⟨hk0,hpk,hk1⟩:=GZ (n:=p) aa
 have hk2:cQ p<=20:=by
  rcases Zi 20 (cQ p)with h|h
  .have:2^20<=2^(cQ p-1):=Z2 am aa;omega
  .exact h
 have⟨kk,hkk⟩:=bD (cQ p-1);have⟨mk,hmk⟩:=bD (more-kk);have e1:((cQ p:Nat):Int)-1=(kk:Int):=aa;have e2:(more:Int)-(kk:Int)=(mk:Int):=aa;have hcv:iK.wrap .u64 (p:Int)=(p:Int):=abT aa aa;have lb:=U5 (n:=p) aa;have pw:=Lj hm;have pw2:=Lj (n:=mk) aa;have b1:=(Gx hm).2
 have b2:=(Gx (n:=mk) aa).2;have ad:=zJ (a:=2^more) (b:=2^more) aa aa;have op:=LD (n:=p) aa;have ok:=LD (n:=kk) aa;have np:ay p<=6:=eC aa am;have nk:ay kk<=2:=eC aa am;have ml:=Ct (a:=p) (b:=2^mk) aa aa;have b3:ay (2^more+2^more)<=2000+1:=wq b1 b1
 have PJ:p*2^mk<2^more+2^more:=by
  have h1:p*2^mk<2^cQ p*2^mk:=(Nat.mul_lt_mul_right (Xr am)).2 hpk;rw[<-Yr,show cQ p+mk=more+1 by omega,Nat.pow_succ]at h1;omega
 have hu:2<=2^more:=by
  have:2^1<=2^more:=Z2 am aa;omega
 have eF:qp p n more=uJ (2^more) (2^more+2^more) n (p*2^mk) (p*2^mk) kk:=by
  unfold qp;rw[<-hkk,<-hmk]
 rw[eF];generalize 2^more=unit at *;generalize 2^mk=pm at *;generalize p*pm=low at *;simp[size_digits,hcv];refine cd lb ?_;simp(disch:=omega) [e1];refine cd pw ?_;simp;refine cd ad ?_;simp(disch:=omega) [e2];refine cd pw2 ?_;simp;refine cd op ?_;simp;refine cd ml ?_;simp;refine cd ok ?_;simp
 refine lo (ZI hu rfl (W:=2001) b3 aa (N:=n) aa _ n 0 low low kk aa (Z8 _) PJ aa (λv hv _=>?_) (λhv=>?_))
 .simp_all[ahW]
 simp_all[ahX]
def Bi(p n:Nat):Option Nat:=if p=2 then Wf (2^n)else qp p n (n+64)
theorem ajj{p v:Nat}(hp:2<=p)(hp2:p<1000000)(hn:n<=3900)(hv:Bi p n=Wf v):Ds F.xN [I p,I n] (S (aA v)):=by
 apply afE;unfold Bi at hv;by_cases h2:p=2
 .rw[ip h2]at hv;simp only[Z9]at hv;have e:((p:Int)=2):=aa;have pw:=Lj (n:=n) aa;rw[hv]at pw;simp[xN,e];refine cd pw ?_;simp[eA]
 .rw[iN h2]at hv;have e:¬((p:Int)=2):=aa;have dg:=am7 (p:=p) (n:=n) (more:=n+64) hp hp2 aa aa aa;rw[hv]at dg;have⟨m,hm⟩:=bD (n+64);rw[<-hm]at dg;have e3:(n:Int)+64=(m:Int):=aa;simp(disch:=omega) [xN,e,e3];refine lo (aL ?_);simp[Q5];refine cd dg ?_;simp[Iy,eA]
abbrev Q:=Int×Nat
variable{s fs t:List Q}{x q:Q}
def gC(x:Q):Prop:=0<x.2∧Nat.gcd x.1.natAbs x.2=1
def qT(x:Q):bq:=[S (itoa x.1),S (aA x.2)]
def fD(n:Int)(d:Nat):Q:=(n/(Nat.gcd n.natAbs d:Nat),d/Nat.gcd n.natAbs d)
def d9(a b:Q):Q:=fD (a.1*b.2+b.1*a.2) (a.2*b.2)
def il(a b:Q):Q:=fD (a.1*b.1) (a.2*b.2)
def jp(a:Q):Q:=(-a.1,a.2)
def ju(n d:Int):Q:=if d<0 then fD (-n) d.natAbs else fD n d.natAbs
theorem Er{n:Int}(h:g∣n.natAbs):(g:Int)∣n:=Int.natAbs_dvd_natAbs.1 (by simpa using h)
theorem Hb(n:Int)(hd:0<d):gC (fD n d):=by
 have hg:0<Nat.gcd n.natAbs d:=W7 _ hd;have⟨g,hgg⟩:=bD (Nat.gcd n.natAbs d);have h1:g∣n.natAbs:=by rw[hgg];exact Wj ..
 have h2:g∣d:=by rw[hgg];exact Nat.gcd_dvd_right ..
 unfold fD;rw[<-hgg]at hg ⊢;refine⟨V4 (Xk hd h2) hg,?_⟩
 have e:(n/(g:Int)).natAbs=n.natAbs/g:=by
  rw[Int.natAbs_ediv_of_dvd (Er h1),Int.natAbs_natCast]
 simp only[e];rw[Nat.gcd_div h1 h2,<-hgg,Nat.div_self hg]
theorem ajf{n:Int}(h:Nat.gcd n.natAbs d=1):fD n d=(n,d):=by unfold fD;rw[h];simp
theorem Uu(n:Int)(d:Nat):(fD n d).1.natAbs<=n.natAbs∧(fD n d).2<=d:=by
 have⟨g,hgg⟩:=bD (Nat.gcd n.natAbs d);have h1:g∣n.natAbs:=by rw[hgg];exact Wj ..
 unfold fD;rw[<-hgg];constructor
 .simp only;rw[Int.natAbs_ediv_of_dvd (Er h1),Int.natAbs_natCast];exact Yv ..
 .exact Yv ..
theorem aii(k:KL)(h:Hp)(h0:Hp)(hl:RW h=RW h0):∀(m:Nat)(a b:Int),b.natAbs<=m->a.natAbs<9223372036854775807->b.natAbs<9223372036854775807 ->
  (∀c:Int,c.natAbs=Nat.gcd a.natAbs b.natAbs->k (.exit 0) [I c] h)->lp (D2 DA) [] h0 [I a,I b] h k:=by
 intro m
 induction m with
 | zero=>
  intro a b hb ha hb2 hk;have hb0:b=0:=aa;subst hb0;apply aL;simp[D2];exact hk a ac
 | succ m ih=>
  intro a b hb ha hb2 hk;apply aL;by_cases hb0:b=0
  .subst hb0;simp[D2];exact hk a ac
  ·have hr:(a.tmod b).natAbs<b.natAbs:=by
    rw[Int.natAbs_tmod];exact Y7 _ aa
   have e:Nat.gcd b.natAbs (a.tmod b).natAbs=Nat.gcd a.natAbs b.natAbs:=by
    rw[Int.natAbs_tmod,V7,<-Nat.gcd_rec,V7]
   simp[D2,hb0,hl];exact ih b (a.tmod b) aa aa aa (λc hc=>hk c (hc.trans e))
theorem nD{a b a' b':bA}{h:Hp}(e1:a'=a)(e2:b'=b):out (.agg [S a,S b]) (.agg [S a',S b']) h:=by subst e1;subst e2;exact⟨h,by simp[bQ,bY,norm]⟩
theorem XA{n:Int}(hd:0<d)(hn:n.natAbs<9223372036854775807)(hd2:d<9223372036854775807):Ds F.sX [I n,I d] (.agg (qT (fD n d))):=by
 apply alI;have⟨g,hgg⟩:=bD (Nat.gcd n.natAbs d);have hg:0<g:=by rw[hgg];exact W7 _ hd
 have h1:g∣n.natAbs:=by rw[hgg];exact Wj ..
 have h2:g∣d:=by rw[hgg];exact Nat.gcd_dvd_right ..
 have hgd:g<=d:=Xk hd h2;have e1:n.tdiv (g:Int)=n/(g:Int):=Int.tdiv_eq_ediv_of_dvd (Er h1);have e2:(d:Int).tdiv (g:Int)=((d/g:Nat):Int):=by rw[Zs aa,<-Int.natCast_ediv]
 have e3:(n/(g:Int)).natAbs<=n.natAbs:=by
  rw[Int.natAbs_ediv_of_dvd (Er h1),Int.natAbs_natCast];exact Yv ..
 have e4:d/g<=d:=Yv ..;have eq:qT (fD n d)=[S (itoa (n/(g:Int))),S (aA (d/g))]:=by unfold qT fD;rw[<-hgg]
 rw[eq];generalize n/(g:Int)=nq at *;generalize d/g=dq at *;have i1:=HO (z:=nq) aa aa;have i2:=HO (z:=(dq:Int)) aa aa;rw[pu]at i2;have hg0:¬(g:Int)=0:=aa;simp[sX];refine lo (aii _ _ _ rfl (d:Int).natAbs n d (Z8 _) hn aa (λc hc=>?_));rw[Int.natAbs_natCast,<-hgg]at hc;simp
 have tail:∀u:Unit,bnd (aD .quo (I n) (I g)) λv6=>
   bp DA.p [(1,.vars [.d (.str []),.d (.str [])])] (.fn F.strconv_Itoa [] []) [v6] λv7 h=>
   bnd (aD .quo (I d) (I g)) λv8=>
   bp DA.p h (.fn F.strconv_Itoa [] []) [v8] λv9 h=>
   bnd (fG [(0,1),(1,1)] [.str [],.str []] [(0,v7),(1,v9)]) λv10=>
   aS h 2 (.ptr 0 1 0 2) v10 λ_ h=>
   bnd (aG h 2 (.ptr 0 1 0 2)) λv12=>
   out (.agg [S (itoa nq),S (aA dq)]) v12 h:=by
  intro _;simp(disch:=omega) [e1,e2,hg0];refine cd i1 ?_;simp(disch:=omega) [e2,hg0];refine cd i2 ?_;simp;exact nD rfl rfl
 by_cases hc0:c<0
 .have hcg : -c=(g:Int):=aa;refine fE (l:=[I g]) (h:=[(1,.vars [.d (.str []),.d (.str [])])]) (λq=>by simp(disch:=omega) [hc0,hcg]) ?_;exact tail ()
 .have hcg:c=(g:Int):=aa;subst hcg;refine fE (l:=[I g]) (h:=[(1,.vars [.d (.str []),.d (.str [])])]) (λq=>by simp[hc0]) ?_;exact tail ()
def qL(K:Nat)(x:Q):Prop:=ay x.1.natAbs<=K∧ay x.2<=K
theorem Uv{n:Int}{K:Nat}(h1:ay n.natAbs<=K)(h2:ay d<=K):qL K (fD n d):=
 ⟨Z1 (ir (Uu n d).1) h1,Z1 (ir (Uu n d).2) h2⟩
theorem qL.mono{K:Nat}(h:qL K x)(hl:K<=L):qL L x:=⟨Z1 h.1 hl,Z1 h.2 hl⟩
theorem LO(hz:ay z.natAbs<=k)(hw:ay w.natAbs<=k):ay (z+w).natAbs<=k+1:=
 Z1 (ir (Xz z w)) (wq hz hw)
theorem ub:ay (z*w).natAbs<=ay z.natAbs+ay w.natAbs:=by rw[Zl];exact wn
theorem ahi{a b:Q}{K:Nat}(ha:qL K a)(hb:qL L b):qL (K+L+1) (d9 a b):=by
 refine Uv (LO ?_ ?_) ?_
 .have:=ub (z:=a.1) (w:=(b.2:Int));rw[Int.natAbs_natCast]at this;have:=ha.1;have:=hb.2;omega
 .have:=ub (z:=b.1) (w:=(a.2:Int));rw[Int.natAbs_natCast]at this;have:=hb.1;have:=ha.2;omega
 .have:=wn (a:=a.2) (b:=b.2);have:=ha.2;have:=hb.2;omega
theorem K9{a b:Q}{K:Nat}(ha:qL K a)(hb:qL L b):qL (K+L) (il a b):=by
 refine Uv ?_ ?_
 .have:=ub (z:=a.1) (w:=b.1);have:=ha.1;have:=hb.1;omega
 .have:=wn (a:=a.2) (b:=b.2);have:=ha.2;have:=hb.2;omega
theorem ahh{a b:Q}(ha:gC a)(hb:gC b):gC (d9 a b):=Hb _ (Yk ha.1 hb.1)
theorem K8{a b:Q}(ha:gC a)(hb:gC b):gC (il a b):=Hb _ (Yk ha.1 hb.1)
theorem acl(hw0:0<w)(hz:ay z.natAbs<900000)(hw:ay w.natAbs<900000):Ds F.ji [S (itoa z),S (itoa w)] (.tup [S (itoa (z/w)),S (itoa (z%w)),I 0]):=by obtain⟨m,rfl⟩:∃m:Nat,w=m:=⟨w.toNat,aa⟩;rw[pu];exact JB aa hz (by simpa using hw)
theorem Us{n d:Int}(hd:d≠0)(hn:ay n.natAbs<800000)(hd2:ay d.natAbs<800000):Ds F.oC [S (itoa n),S (itoa d)] (.agg (qT (ju n d))):=by
 apply alJ;have sg0:=tT d
 have tail:∀(n:Int)(d:Nat),0<d->ay n.natAbs<800000->ay d<800000 ->
   bp DA.p [(1,.vars [.d (.str []),.d (.str [])])] (.fn F.u5 [] []) [S (itoa n),S (aA d)] λv6 h=>
  bnd (j7 .neq v6 (.d (.str [49]))) λv7=>
  jn (λl8 h=>
   bnd (fG [(0,1),(1,1)] [.str [],.str []] [(0,(ge l8 0)),(1,(ge l8 1))]) λv10=>
   aS h 2 (.ptr 0 1 0 2) v10 λ_ h=>
   bnd (aG h 2 (.ptr 0 1 0 2)) λv12=>
   out (.agg (qT (fD n d))) v12 h) λq9=>
   aQ v7 (
    bp DA.p h (.fn F.ji [] []) [S (itoa n),v6] λv13 h=>
    ext v13 0 λv14=>
    ext v13 1 λv15=>
    ext v13 2 λv16=>
    bp DA.p h (.fn F.ji [] []) [S (aA d),v6] λv17 h=>
    ext v17 0 λv18=>
    ext v17 1 λv19=>
    ext v17 2 λv20=>
    q9 [v14,v18] h) (
    q9 [S (itoa n),S (aA d)] h):=by
  intro n d hd hn hd2;have gc:=WU (z:=n) (w:=(d:Int)) aa (by simpa using Nat.lt_trans hd2 am);rw[pu,Int.natAbs_natCast]at gc;have⟨g,hgg⟩:=bD (Nat.gcd n.natAbs d);have hg:0<g:=by rw[hgg];exact W7 _ hd
  have hgd:g<=d:=Xk hd (by rw[hgg];exact Nat.gcd_dvd_right ..);have eq:fD n d=(n/(g:Int),d/g):=by unfold fD;rw[<-hgg]
  rw[<-hgg]at gc;rw[eq];have ng:ay g<900000:=Zf (ir hgd) aa;have d1:=JB (z:=n) hg aa ng;have d2:=zH (a:=d) hg aa ng;simp;refine cd gc ?_;by_cases h1:g=1
  .subst h1;rw[ov];simp;refine fE (l:=[S (itoa n),S (aA d)]) (h:=[(1,.vars [.d (.str []),.d (.str [])])]) (λq=>by simp) ?_;simp;refine nD ac ac
  .have h49:¬aA g=[49]:=λh=>h1 (yL (h.trans ov.symm))
   simp[h49];apply cg;simp[h49];refine cd d1 ?_;simp;refine cd d2 ?_;simp;exact nD rfl rfl
 simp[oC];refine cd sg0 ?_;by_cases hneg:d<0
 .have s1:eU d = -1:=by unfold eU;rw[iN hd,ip hneg]
  rw[s1];have hd3:ay (-d).natAbs<800000:=by rw[X0];exact hd2
  have n1:=Do (z:=n) aa;have n2:=Do (z:=d) aa;have e:ju n d=fD (-n) d.natAbs:=ip hneg;have ed:itoa (-d)=aA d.natAbs:=by rw[show -d=((d.natAbs:Nat):Int) by omega,pu]
  rw[e];rw[ed]at n2;simp;apply cg;simp;refine cd n1 ?_;simp;refine cd n2 ?_;have:=tail (-n) d.natAbs aa (by rw[X0];exact hn) hd2;simpa using this
 .have s1:eU d=1:=by unfold eU;rw[iN hd,iN hneg]
  rw[s1];have e:ju n d=fD n d.natAbs:=iN hneg;have ed:itoa d=aA d.natAbs:=by conv=>lhs;rw[show d=((d.natAbs:Nat):Int) by omega,pu]
  rw[e,ed];simp;apply cg;simp;have:=tail n d.natAbs aa hn hd2;simpa using this
theorem I9(a:Q):Ds F.rb [.agg (qT a)] (.tup [I (if iy a.1<=9 then a.1 else 0),I (if ay a.2<=9 then a.2 else 0),B (decide (iy a.1<=9)&&decide (ay a.2<=9))]):=by
 apply alL;have l1:=UM a.1;have l2:=UM (a.2:Int);have e:iy (a.2:Int)=ay a.2:=by unfold iy;rw[iN aa,Int.natAbs_natCast];rfl
 rw[pu,e]at l2;simp[rb,qT];refine cd l1 ?_;by_cases h1:iy a.1<=9
 .rw[ip h1,ip h1,decide_eq_true h1];simp;refine cd l2 ?_;by_cases h2:ay a.2<=9
  .rw[ip h2,ip h2,decide_eq_true h2];simp;exact oj rfl rfl rfl
  .rw[iN h2,iN h2,decide_eq_false h2];simp;exact oj rfl rfl rfl
 .rw[iN h1,iN h1,decide_eq_false h1];simp;refine cd l2 ?_;by_cases h2:ay a.2<=9
  .rw[ip h2,ip h2,decide_eq_true h2];simp;exact oj rfl rfl rfl
  .rw[iN h2,iN h2,decide_eq_false h2];simp;exact oj rfl rfl rfl
theorem ajg(n:Int)(hd:0<d):(fD n d).1*(d:Int)=n*((fD n d).2:Int)∧0<(fD n d).2:=by
 have⟨g,hg⟩:=bD (Nat.gcd n.natAbs d);have hg0:0<g:=by rw[hg];exact W7 _ hd
 have⟨d',hd'⟩:g∣d:=by rw[hg];exact Nat.gcd_dvd_right ..
 have⟨n',hn'⟩:(g:Int)∣n:=Er (by rw[hg];exact Wj ..)
 have e1:(fD n d).1=n':=by
  simp only[fD,<-hg];rw[hn'];exact Int.mul_ediv_cancel_left _ aa
 have e2:(fD n d).2=d':=by
  simp only[fD,<-hg];rw[hd'];exact Yc _ hg0
 rw[e1,e2];refine⟨?_,?_⟩
 .rw[hn',hd',Int.natCast_mul,<-Int.mul_assoc,Yi n' g]
 .rcases Ze d' with h|h
  .rw[h]at hd';omega
  .exact h
theorem ajd{n:Int}(h:0<d):ju n (d:Int)=fD n d:=by rfl
theorem Uw{n:Int}(hd:0<d)(hn:ay n.natAbs<800000)(hd2:ay d<800000):Ds F.oC [S (itoa n),S (aA d)] (.agg (qT (fD n d))):=by have:=Us (n:=n) (d:=(d:Int)) aa hn cU;trivial
theorem Pp(hz:ay z.natAbs<400000)(hb:ay b<400000):Ds F.gv [S (itoa z),S (aA b)] (S (itoa (z*b))):=by grind[xj,pu]
theorem Fo(h:Hp)(s t:bA):bY h [.agg [S s,S t]]=Wf ([.agg [S s,S t]],h):=by rfl
theorem Fp{a:Q}(h1:iy a.1<=9)(h2:ay a.2<=9):a.1.natAbs<1000000000∧a.2<1000000000:=
 ⟨vI h1,Z0 (eW _) (Z2 am h2)⟩
theorem XB{a b:Q}(ha:gC a)(hb:gC b)(la:qL 100000 a)(lb:qL 100000 b):Ds F.wN [.agg (qT a),.agg (qT b)] (.agg (qT (il a b))):=by
 apply alR;have⟨la1,la2⟩:=la;have⟨lb1,lb2⟩:=lb;have b1:=I9 a;have b2:=I9 b;have m1:=xj (z:=a.1) (w:=b.1) aa aa;have m2:=Ct (a:=a.2) (b:=b.2) aa aa;have n1:=ub (z:=a.1) (w:=b.1);have n2:=wn (a:=a.2) (b:=b.2);have hd:0<a.2*b.2:=Yk ha.1 hb.1
 have lw:Ds F.oC [S (itoa (a.1*b.1)),S (aA (a.2*b.2))] (.agg (qT (il a b))):=Uw (n:=a.1*b.1) hd aa aa;have ff:(a.1*b.1).natAbs<9223372036854775807->a.2*b.2<9223372036854775807->Ds F.sX [I (a.1*b.1),I (a.2*b.2:Nat)] (.agg (qT (il a b))):=λh1 h2=>XA hd h1 h2
 have⟨x,y,hxy⟩:∃x y,qT (il a b)=[S x,S y]:=⟨_,_,rfl⟩;rw[hxy]at lw ff ⊢;simp only[qT]at b1 b2 ⊢
 have tail:∀u:Unit,bp DA.p [(1,.vars [S (itoa a.1),S (aA a.2)]),(1,.vars [S (itoa b.1),S (aA b.2)]),(1,.vars [.d (.str []),.d (.str [])])] (.fn F.gv [] []) [S (itoa a.1),S (itoa b.1)] λv15 h=>
  bnd (ik 1 (.ptr 0 1 0 2)) λv16=>
  bnd (ld1 h v16) λv17=>
  bnd (ik 1 (.ptr 1 1 0 2)) λv18=>
  bnd (ld1 h v18) λv19=>
  bp DA.p h (.fn F.gv [] []) [v17,v19] λv20 h=>
  bp DA.p h (.fn F.oC [] []) [v15,v20] λv21 h=>
  aS h 2 (.ptr 2 1 0 2) v21 λ_ h=>
  bnd (aG h 2 (.ptr 2 1 0 2)) λv23=>
  out (.agg [S x,S y]) v23 h:=by
  intro _;simp;refine cd m1 ?_;simp;refine cd m2 ?_;simp;refine cd lw ?_;simp;exact nD rfl rfl
 simp[wN];refine cd b1 ?_ (Fo ..);cases g1:decide (iy a.1<=9)&&decide (ay a.2<=9)with
 | false=>
  simp_all[cg]
 | true=>
  simp only[Z7,dT]at g1;have⟨s1,s2⟩:=Fp g1.1 g1.2;rw[ip g1.1,ip g1.2];simp;apply cg;simp;refine cd b2 ?_ (Fo ..);cases g2:decide (iy b.1<=9)&&decide (ay b.2<=9)with
  | false=>
   simp_all
  | true=>
   simp only[Z7,dT]at g2;have⟨s3,s4⟩:=Fp g2.1 g2.2;rw[ip g2.1,ip g2.2];have p1:(a.1*b.1).natAbs<1000000000*1000000000:=by rw[Zl];exact Yf s1 s3
   have p2:a.2*b.2<1000000000*1000000000:=Yf s2 s4;have e2:(a.2:Int)*(b.2:Int)=((a.2*b.2:Nat):Int):=ac;have ff:=ff aa aa;have⟨N,hN⟩:=bZ (a.1*b.1);rw[hN]at p1 ff;generalize a.2*b.2=D at *;simp(disch:=try exact cC)[e2,hN];refine cd ff ?_;simp[nD]
theorem M8{a b:Q}(ha:gC a)(hb:gC b)(la:qL 100000 a)(lb:qL 100000 b):Ds F.qn [.agg (qT a),.agg (qT b)] (.agg (qT (d9 a b))):=by
 apply alU;have⟨la1,la2⟩:=la;have⟨lb1,lb2⟩:=lb;have b1:=I9 a;have b2:=I9 b;have m1:=Pp (z:=a.1) (b:=b.2) aa aa;have m2:=Pp (z:=b.1) (b:=a.2) aa aa;have m3:=Ct (a:=a.2) (b:=b.2) aa aa;have n1:=ub (z:=a.1) (w:=(b.2:Int));have n2:=ub (z:=b.1) (w:=(a.2:Int))
 have n3:=wn (a:=a.2) (b:=b.2);rw[Int.natAbs_natCast]at n1 n2;have n4:ay (a.1*b.2+b.1*a.2).natAbs<=200000+1:=LO aa aa;have ad:=zI (z:=a.1*b.2) (w:=b.1*a.2) aa aa;have hd:0<a.2*b.2:=Yk ha.1 hb.1
 have lw:Ds F.oC [S (itoa (a.1*b.2+b.1*a.2)),S (aA (a.2*b.2))] (.agg (qT (d9 a b))):=Uw hd aa aa;have ff:(a.1*b.2+b.1*a.2).natAbs<9223372036854775807->a.2*b.2<9223372036854775807->Ds F.sX [I (a.1*b.2+b.1*a.2),I (a.2*b.2:Nat)] (.agg (qT (d9 a b))):=λh1 h2=>XA hd h1 h2
 by_cases one:a.2=1∧b.2=1
 .have ad1:=zI (z:=a.1) (w:=b.1) aa aa
  have eq:d9 a b=(a.1+b.1,1):=by
   unfold d9;rw[one.1,one.2];rw[ajf ac];simp
  rw[eq];have t1:qT a=[S (itoa a.1),S [49]]:=by unfold qT;rw[one.1,ov]
  have t2:qT b=[S (itoa b.1),S [49]]:=by unfold qT;rw[one.2,ov]
  have t3:qT (a.1+b.1,1)=[S (itoa (a.1+b.1)),S [49]]:=by unfold qT;rw[ov]
  rw[t1,t2,t3];simp[qn];refine cd ad1 ?_;simp[nD]
 have⟨x,y,hxy⟩:∃x y,qT (d9 a b)=[S x,S y]:=⟨_,_,rfl⟩;rw[hxy]at lw ff ⊢;simp only[qT]at b1 b2 ⊢
 have tail:∀u:Unit,bp DA.p [(1,.vars [S (itoa a.1),S (aA a.2)]),(1,.vars [S (itoa b.1),S (aA b.2)]),(1,.vars [.d (.str []),.d (.str [])])] (.fn F.gv [] []) [S (itoa a.1),S (aA b.2)] λv30 h=>
   bnd (ik 0 (.ptr 1 1 0 2)) λv31=>
   bnd (ld1 h v31) λv32=>
   bnd (ik 1 (.ptr 0 1 0 2)) λv33=>
   bnd (ld1 h v33) λv34=>
   bp DA.p h (.fn F.gv [] []) [v32,v34] λv35 h=>
   bp DA.p h (.fn F.jj [] []) [v30,v35] λv36 h=>
   bnd (ik 1 (.ptr 0 1 0 2)) λv37=>
   bnd (ld1 h v37) λv38=>
   bnd (ik 1 (.ptr 1 1 0 2)) λv39=>
   bnd (ld1 h v39) λv40=>
   bp DA.p h (.fn F.gv [] []) [v38,v40] λv41 h=>
   bp DA.p h (.fn F.oC [] []) [v36,v41] λv42 h=>
   aS h 2 (.ptr 2 1 0 2) v42 λ_ h=>
   bnd (aG h 2 (.ptr 2 1 0 2)) λv44=>
   out (.agg [S x,S y]) v44 h:=by
  intro _;simp;refine cd m1 ?_;simp;refine cd m2 ?_;simp;refine cd ad ?_;simp;refine cd m3 ?_;simp;refine cd lw ?_;simp;exact nD rfl rfl
 have MT:¬(aA a.2=[49]∧aA b.2=[49]):=λh=>one ⟨yL (h.1.trans ov.symm),yL (h.2.trans ov.symm)⟩
 have walk:∀u:Unit,bnd (aG [(1,.vars [S (itoa a.1),S (aA a.2)]),(1,.vars [S (itoa b.1),S (aA b.2)]),(1,.vars [.d (.str []),.d (.str [])])] 2 (.ptr 0 1 0 2)) λv19=>
  bp DA.p [(1,.vars [S (itoa a.1),S (aA a.2)]),(1,.vars [S (itoa b.1),S (aA b.2)]),(1,.vars [.d (.str []),.d (.str [])])] (.fn F.rb [] []) [v19] λv20 h=>
  ext v20 0 λv21=>
  ext v20 1 λv22=>
  ext v20 2 λv23=>
  jn (λl24 h=>
   bnd (ik 0 (.ptr 0 1 0 2)) λv26=>
   bnd (ld1 h v26) λv27=>
   bnd (ik 1 (.ptr 1 1 0 2)) λv28=>
   bnd (ld1 h v28) λv29=>
   bp DA.p h (.fn F.gv [] []) [v27,v29] λv30 h=>
   bnd (ik 0 (.ptr 1 1 0 2)) λv31=>
   bnd (ld1 h v31) λv32=>
   bnd (ik 1 (.ptr 0 1 0 2)) λv33=>
   bnd (ld1 h v33) λv34=>
   bp DA.p h (.fn F.gv [] []) [v32,v34] λv35 h=>
   bp DA.p h (.fn F.jj [] []) [v30,v35] λv36 h=>
   bnd (ik 1 (.ptr 0 1 0 2)) λv37=>
   bnd (ld1 h v37) λv38=>
   bnd (ik 1 (.ptr 1 1 0 2)) λv39=>
   bnd (ld1 h v39) λv40=>
   bp DA.p h (.fn F.gv [] []) [v38,v40] λv41 h=>
   bp DA.p h (.fn F.oC [] []) [v36,v41] λv42 h=>
   aS h 2 (.ptr 2 1 0 2) v42 λ_ h=>
   bnd (aG h 2 (.ptr 2 1 0 2)) λv44=>
   out (.agg [S x,S y]) v44 h) λq25=>
   aQ v23 (
    bnd (aG h 2 (.ptr 1 1 0 2)) λv45=>
    bp DA.p h (.fn F.rb [] []) [v45] λv46 h=>
    ext v46 0 λv47=>
    ext v46 1 λv48=>
    ext v46 2 λv49=>
    aQ v49 (
     bnd (aD .mul v21 v48) λv50=>
     bnd (aD .mul v47 v22) λv51=>
     bnd (aD .add v50 v51) λv52=>
     bnd (aD .mul v22 v48) λv53=>
     bp DA.p h (.fn F.sX [] []) [v52,v53] λv54 h=>
     aS h 2 (.ptr 2 1 0 2) v54 λ_ h=>
     bnd (aG h 2 (.ptr 2 1 0 2)) λv56=>
     out (.agg [S x,S y]) v56 h) (
     q25 [] h)) (
    q25 [] h):=by
  intro _;simp;refine cd b1 ?_ (Fo ..);cases g1:decide (iy a.1<=9)&&decide (ay a.2<=9)with
  | false=>
   simp_all[cg]
  | true=>
   simp only[Z7,dT]at g1;have⟨s1,s2⟩:=Fp g1.1 g1.2;rw[ip g1.1,ip g1.2];simp;apply cg;simp;refine cd b2 ?_ (Fo ..);cases g2:decide (iy b.1<=9)&&decide (ay b.2<=9)with
   | false=>
    simp_all
   | true=>
    simp only[Z7,dT]at g2;have⟨s3,s4⟩:=Fp g2.1 g2.2;rw[ip g2.1,ip g2.2];have p1:(a.1*b.2).natAbs<1000000000*1000000000:=by rw[Zl,Int.natAbs_natCast];exact Yf s1 s4
    have p3:(b.1*a.2).natAbs<1000000000*1000000000:=by rw[Zl,Int.natAbs_natCast];exact Yf s3 s2
    have p2:a.2*b.2<1000000000*1000000000:=Yf s2 s4;have e2:(a.2:Int)*(b.2:Int)=((a.2*b.2:Nat):Int):=ac;have ff:=ff aa aa;have⟨N,hN⟩:∃N,a.1*(b.2:Int)=N:=⟨_,rfl⟩;have⟨M,hM⟩:∃M,b.1*(a.2:Int)=M:=⟨_,rfl⟩;rw[hN]at p1 ff;rw[hM]at p3 ff;generalize a.2*b.2=D at *;simp(disch:=try exact cC)[e2,hN,hM];refine cd ff ?_
    simp[nD]
 by_cases c1:aA a.2=[49]
 .have c2:¬aA b.2=[49]:=λh=>MT ⟨c1,h⟩
  simp_all[qn]
 simp_all[qn]
theorem WZ(a:Q):Ds F.wM [.agg (qT a)] (I (eU a.1)):=by apply alN;simp[wM,qT];refine cd (tT a.1) ?_;exact df rfl
theorem afZ(z:Int):eU z=0↔z=0:=by
 unfold eU;constructor
 .intro h;split at h
  .assumption
  .split at h<;>omega
 .intro h;rw[ip h]
theorem Tb{a b:bA}{c:Int}{h:Hp}:out (.tup [.agg [S a,S b],I c]) (.tup [.agg [S a,S b],I c]) h:=⟨h,by simp[bQ,bY,norm]⟩
theorem al4{n d:Int}(hd:d≠0)(hn:ay n.natAbs<800000)(hd2:ay d.natAbs<800000):Ds F.BK [S (itoa n),S (itoa d)] (.tup [.agg (qT (ju n d)),I 0]):=by
 apply alP;have sg0:=tT d;have hs:¬eU d=0:=λh=>hd ((afZ _).1 h)
 have lw:=Us hd hn hd2;have⟨x,y,hxy⟩:∃x y,qT (ju n d)=[S x,S y]:=⟨_,_,rfl⟩;rw[hxy]at lw ⊢;generalize eU d=sb at *;simp[BK];refine cd sg0 ?_;simp[hs];refine cd lw ?_;simp;exact Tb
theorem LN(h1 : -9223372036854775808<z)(h2:z<9223372036854775808):ay z.natAbs<=19:=eC aa am
theorem M7{n d:Int}(hd:d≠0)(h1 : -9223372036854775808<n)(h2:n<9223372036854775808)(h3 : -9223372036854775808<d)(h4:d<9223372036854775808):Ds F.sY [I n,I d] (.tup [.agg (qT (ju n d)),I 0]):=by apply alO;have nw:=al4 (n:=n) hd (Zf (LN h1 h2) am) (Zf (LN h3 h4) am);have⟨x,y,hxy⟩:∃x y,qT (ju n d)=[S x,S y]:=⟨_,_,rfl⟩;rw[hxy]at nw ⊢;simp[sY];refine cd (kw h1 h2) ?_;simp;refine cd (kw h3 h4) ?_;simp;refine cd nw ?_;simp;exact Tb
@[simp] theorem arR (f:α->D)(l:List α)(KK:Nat->Option (Nat×Nat))(cs:bq)(r:List (Nat×V))(off sz:Nat):
  Ik (Wf (off,sz)) KK cs (aj f l) r=if 1=sz∧off+1<=RW cs then rc KK (cs.take off++[aj f l]++cs.drop (off+1)) r else Vc:=id rfl
theorem aqn(s:bA):Ds F.lK [S s] (S (fu s)):=by apply Po;simp[lK];refine cd (CK s) ?_;simp<;>exact eA rfl
theorem Q8(a b:bA)(ha:RW a<1000000000)(hb:RW b<1000000000):Ds F.vB [.agg [S a,S b]] (B (vH a&&decide (RW b<=30))):=by
 apply afA;simp[vB];refine cd (aqn a) ?_;have hl:RW (fu a)<=RW a:=by unfold fu;split<;>simp
 by_cases h1:RW (fu a)<=30
 .have h1':(RW (fu a):Int)<=30:=aa;by_cases h2:RW b<=30
  .have h2':(RW b:Int)<=30:=aa;simp[h1',h2']<;>exact fp (by grind[vH])
  .have h2':¬(RW b:Int)<=30:=aa;simp[h1',h2']<;>exact fp ae
 .have h1':¬(RW (fu a):Int)<=30:=aa;simp[h1']<;>exact fp (by simp[vH,h1])
def Fb(x:Tx):Bool:=vH x.1&&decide (x.2.length<=30)
def qG:List Tx->Int
 |[]=>0
 |x::q=>cond (jY x.1 x.2).isSome (cond (Fb x) (qG q) 4) 2
theorem Q3{s:List Tx}(hN:RW s<1000000000)(hl:∀x∈s,x.1.length<1000000000∧x.2.length<1000000000)(k:KL):∀(q a:List Tx),a++q=s->(qG q=0->k (.exit 0) [] [ah])->(qG q≠0->∀h,k .ret [I (qG q)] h) ->
  lp (FI DA (de bb s) (I (RW s))) [0] [ah] [I (RW a)] [ah] k
 | []=>by
  intro a ha h0 h1;simp at ha;subst ha;apply aL;simp[FI];exact h0 rfl
 | x::q=>by
  intro a ha h0 h1;have DQ:RW a<RW s:=by subst ha;simp
  have hx:nth ([],[]) s (RW a)=x:=by subst ha;simp
  have hxl:=hl x ae;have e1:=λh:Hp=>lX bb dZ s h (k:=.i64) (i:=(RW a:Int)) aa aa
  have e2:=λh:Hp=>lV bb dZ ([],[]) s h DQ
  simp[hx,Int.toNat_natCast]at e1 e2;have ih:=Q3 hN hl k q (a++[x]) ae;apply aL;simp(disch:=try exact cC)[FI,e1,e2,bb];refine cd (Od x.1 x.2 hxl.1 hxl.2) ?_;cases g3:(jY x.1 x.2).isSome with
  | false=>
   simp only[qG,g3,cond_false]at h1;simp[g3]
   grind
  | true=>
   simp[g3];refine cd (Q8 x.1 x.2 hxl.1 hxl.2) ?_;cases g1:Fb x with
   | false=>
    simp only[qG,g3,g1,cond_true,cond_false]at h1;rw[show(vH x.1&&decide (x.2.length<=30))=SM from g1];simp
    grind
   | true=>
    simp only[qG,g3,g1,cond_true]at h0 h1;have:=ih h0 h1;rw[show(vH x.1&&decide (x.2.length<=30))=Th from g1];simp(disch:=omega) [clean,fK,gZ,iq,fC,dl]
    simp_all
def xW(n:Nat)(s:List Tx):Int:=if RW s=n then qG s else 5
theorem Q2{s:List Tx}(hl:∀x∈s,x.1.length<1000000000∧x.2.length<1000000000)(hs:RW s<1000000000):Ds F.tS [aj di p,de bb s] (I (xW (RW p) s)):=by
 have lp':bh (aj di p)=Wf (I (RW p)):=rfl;have ls':bh (de bb s)=Wf (I (RW s)):=rfl;apply afI;by_cases h1:RW s=RW p
 .have h1':((RW s:Int)=(RW p:Int))=True:=eq_true aa;have e:xW (RW p) s=qG s:=ip h1;rw[e];simp[tS,lp',ls',h1'];refine lo (Q3 hs hl _ s [] rfl (λg=>?_) (λg h=>?_))
  .simp_all
  simp
 .have h1':¬((RW s:Int)=(RW p:Int)):=aa;have e:xW (RW p) s=5:=iN h1;rw[e];simp[tS,lp',ls',h1']<;>exact df rfl
def FK(p:aw)(s:List Tx):Int:=if ef p=0 then xW (RW p) s else ef p
theorem afS{s:List Tx}(hp:RW p<1000000000)(hl:∀x∈s,x.1.length<1000000000∧x.2.length<1000000000)(hs:RW s<1000000000):Ds F.vF [aj di p,de bb s] (I (FK p s)):=by
 apply afP;simp[vF];refine cd (AR hp) ?_;by_cases h:ef p=0
 .have e:FK p s=xW (RW p) s:=ip h;rw[e];simp[h];refine cd (Q2 hl hs) ?_;simp<;>exact df rfl
 .have e:FK p s=ef p:=iN h;rw[e];simp[h]<;>exact df rfl
variable{h:Hp}{a:V}{r:aw}
theorem YA(k:KL):∀(q q' p p':aw),RW p=RW p'->RW q=RW q'->RW (p++q)<1000000000->(q=q'->k (.exit 0) [] [])->(q≠q'->k .ret [B SM] []) ->
  lp (FA DA (aj di (p++q)) (aj di (p'++q')) (I (RW (p++q)))) [] [] [I (RW p)] [] k
 | []=>by
  intro q' p p' hp hq hN h0 h1;have:q'=[]:=Zn hq.symm;subst this;apply aL;simp[FA];exact h0 rfl
 | x::q=>by
  intro q' p p' hp hq hN h0 h1;cases q' with
  |nil=>simp at hq
  |cons y q'=>
  simp at hq hN;apply aL;have hy:nth 0 (p'++y::q') (RW p)=y:=by rw[hp];simp
  have e1:bC [] 1 (aj di (p'++y::q')) (.d (.int .i64 (RW p:Int)))=Wf (.dptr ((p'++y::q').map di) (RW p)):=sQ di _ [] rfl dG;have e2:=Mh (p'++y::q') [] (j:=RW p) dG;rw[hy]at e2;simp(disch:=try exact cC)[FA,e1,e2];by_cases h:x=y
  .subst h;simp(disch:=omega) [];have:=YA k q q' (p++[x]) (p'++[x]) (by simp[hp]) hq dG (λg=>h0 (by rw[g])) (λg=>h1 (by simpa using g));simpa using this
  .simp[h];exact h1 (by simp[h])
theorem XZ{x:aw}(hx:RW x<1000000000)(hy:RW y<1000000000):Ds F.vu [aj di x,aj di y] (B (decide (x=y))):=by
 apply ae1;by_cases h:RW x=RW y
 .simp[vu,h];rw[<-h];refine lo (YA _ x y [] [] rfl h (by simpa using hx) (λg=>?_) (λg=>?_))
  .simp;exact fp (by simp[g])
  .simp;exact fp (by simp[g])
 .simp[vu,h];exact fp (by simp;intro e;exact h (by rw[e]))
theorem XL{α:Type}(f:α->bF){n:Nat}(hf:∀x,RW (f x)=n)(x:α):∀(l:List α)(j:Nat),j<RW l->(l.flatMap f).take (j*n)++f x++(l.flatMap f).drop (j*n+n)=(l.set j x).flatMap f
 |[],j,h=>by simp at h
 | y::l,0,h=>by
  simp only[Wb,List.take_zero,List.nil_append,Zh,Xy,List.set_cons_zero];rw[Wv (hf y)]
 | y::l,j+1,h=>by
  have ih:=XL f hf x l j (by simpa using h);have e1:(j+1)*n=RW (f y)+j*n:=by rw[hf,X3,Nat.add_comm]
  simp only[Xy,List.set_cons_succ];rw[<-ih,e1,Xl,List.take_length_add_append,List.drop_length_add_append,List.append_assoc,List.append_assoc,List.append_assoc]
def tx(x:Q):Tx:=(itoa x.1,aA x.2)
def aX(s:List Q):V:=de bb (s.map tx)
theorem SD(h:ay z.natAbs<=400):rd (itoa z)=Wf z:=by
 rw[SE,Bw,HN];have hl:RW (aA z.natAbs)=ay z.natAbs:=fq _ _;have hc:=Et z.natAbs;have hh:=nI z.natAbs;simp only[iL,Z7,Y6,Xg,decide_eq_false_iff_not]at hc;have⟨⟨h1,h2⟩,h3⟩:=hc;have MT:=DL z.natAbs
 have hcond:¬((aA z.natAbs).headD 0=48∧(1<RW (aA z.natAbs)∨decide (z<0)=Th)):=by
  rintro⟨g1,g2⟩;have g3:¬1<RW (aA z.natAbs):=λg=>by rcases h3 with h3|h3<;>contradiction
  rcases g2 with g2|g2
  .exact g3 g2
  .have g4:RW (aA z.natAbs)=1:=by have:=nF z.natAbs;omega
   have⟨c,hc⟩:=List.length_eq_one_iff.1 g4;rw[hc]at g1;simp only[List.headD_cons]at g1;subst g1;have:=yN.1 hc;simp[dT]at g2;omega
 rw[ip ⟨aa,MT,hcond,h2⟩,hh];by_cases hz:z<0
 .rw[ip (decide_eq_true hz)];congr 1;omega
 .rw[iN (by simpa using hz)];congr 1;omega
theorem Gl(hx:gC x)(hl:qL 30 x):jY (tx x).1 (tx x).2=Wf x:=by
 unfold jY tx;have h2:=SD (z:=(x.2:Int)) (by rw[Int.natAbs_natCast];have:=hl.2;omega);rw[pu]at h2;rw[SD (by have:=hl.1;omega)];simp only[h2];have h0:(0:Int)<x.2:=by have:=hx.1;omega
 rw[ip ⟨h0,by rw[Int.natAbs_natCast];exact hx.2⟩,Int.natAbs_natCast]
theorem Qq(hl:qL 30 x):Fb (tx x)=Th:=by unfold Fb vH tx;simp only[Bw];have h1:RW (aA x.1.natAbs)=ay x.1.natAbs:=fq _ _;have h2:RW (aA x.2)=ay x.2:=fq _ _;rw[h1,h2];have:=hl.1;have:=hl.2;simp;omega
def jq(s:List Q):Prop:=∀x∈s,gC x∧qL 30 x
theorem JX:∀{s:List Q},jq s->qG (s.map tx)=0
 |[],_=>rfl
 | x::s,h=>by
  have⟨h1,h2⟩:=h x ac;simp[Zv,qG];rw[Gl h1 h2,Qq h2,JX λy hy=>h y (by simp[hy])];rfl
theorem EU{K:Nat}(hl:qL K x):(tx x).1.length<=K+1∧(tx x).2.length<=K:=by
 unfold tx itoa;have h1:RW (aA x.1.natAbs)=ay x.1.natAbs:=fq _ _;have h2:RW (aA x.2)=ay x.2:=fq _ _;have:=hl.1;have:=hl.2;simp only;constructor
 .split
  .simp;omega
  .omega
 .omega
theorem aoQ(hx:gC x)(hl:qL 30 x):Ds F.uB [.agg (qT x)] (I 0):=by have⟨l1,l2⟩:=EU hl;have:=Od (tx x).1 (tx x).2 aa aa;rw[Gl hx hl]at this;exact this
theorem afX(hl:qL 30 x):Ds F.vB [.agg (qT x)] (B Th):=by
 have⟨l1,l2⟩:=EU hl;have:=Q8 (tx x).1 (tx x).2 aa aa
 rwa [show(vH (tx x).1&&decide ((tx x).2.length<=30))=Th from Qq hl]at this
theorem aoP(hs:jq s)(hp:RW s<1000000):Ds F.tS [aj di p,aX s] (I (if RW s=RW p then 0 else 5)):=by
 have:=Q2 (p:=p) (s:=s.map tx) (λx hx=>by
  obtain⟨y,hy,rfl⟩:=Zw.1 hx;have⟨l1,l2⟩:=EU (hs y hy).2;omega) dG
 unfold xW at this;rw[List.length_map,JX hs]at this;exact this
theorem GO(h1 : -9223372036854775808<z)(h2:z<9223372036854775808):Ds F.tR [I z] (.agg (qT (z,1))):=by apply afD;simp[qT,ov];simp[tR];refine cd (kw h1 h2) ?_;simp;exact nD rfl rfl
theorem HK{h:Hp}{s:Nat}(hg:h[s]?=Wf (e,.data 2 (l.flatMap bb) ex fr))(hn:RW l=n)(hc:c<n)(k:iK):bC h 2 (.ref s e 0 n n (n*2)) (.d (.int k (c:Int)))=Wf (.ptr s e (c*2) (n*2)):=by have Rg:=jB bb dZ l;simp only[bC,ij hg];rw[ip ⟨by rw[Rg,hn],aa,aa⟩];simp
theorem Mi{h:Hp}{s:Nat}(hg:h[s]?=Wf (e,.data 2 (l.flatMap bb) ex fr))(hn:RW l=n)(hc:c<n):aG h 2 (.ptr s e (c*2) (n*2))=Wf (.agg [S (nth ([],[]) l c).1,S (nth ([],[]) l c).2]):=by have:=I5 bb dZ ([],[]) l (j:=c) aa;simp only[aG,ij hg];rw[ip (by rw[jB bb dZ,hn]),this];rfl
theorem Fj{h:Hp}{s:Nat}(hg:h[s]?=Wf (e,.data 2 (l.flatMap bb) ex SM))(hn:RW l=n)(hc:c<n)(x:Tx):st h 2 (.ptr s e (c*2) (n*2)) (.agg [S x.1,S x.2])=Wf (h.set s (e,.data 2 ((l.set c x).flatMap bb) ex SM)):=by
 have hfs:=XL bb dZ x l c aa;have Rg:=jB bb dZ l;have Fm:c*2+2<=RW (l.flatMap bb):=by rw[Rg];omega
 rw[<-hfs];simp only[bb,st,jk,ij hg,iT,List.length_cons,List.length_nil,d8,dX,norm,bP,true_and];rw[ip ⟨by rw[Rg,hn],Fm⟩]
def gH:Tx:=([],[])
theorem agZ(n:Nat):dI n [D.str [],D.str []]=(So n gH).flatMap bb:=by
 induction n with
 |zero=>rfl
 |succ n ih=>rw[List.replicate_succ,Xy,<-ih];rfl
theorem Ua{s n e:Nat}{b:Bk}{h:Hp}{k:bG}{u:PU k}(hs:h[s]?=Wf (e,b))(hn:n<1000000000)(hk:k (.ref s (e+1) 0 n n (n*2)) (h.set s (e+1,.data 2 ((So n gH).flatMap bb) Th SM))) :
  rh (fS s 32 [.str [],.str []] h (I n) (I n)) k u:=by unfold rh fS;simp only;rw[ip ⟨aa,Int.le_refl _,ac,aa,aa⟩];simp only[new,hs,Int.toNat_natCast,agZ,List.length_cons,List.length_nil];have:=jB bb dZ (So n gH);rw[Y8]at this;rw[this];exact hk
theorem Rh{α:Type}(a b:α):∀(i r:Nat),(So i a++So (r+1) b).set i a=So (i+1) a++So r b
 |0,r=>by simp[List.replicate_succ]
 | i+1,r=>by
  rw[List.replicate_succ,List.cons_append,List.set_cons_succ,Rh a b i r,<-List.cons_append,<-List.replicate_succ]
def zT:Tx:=tx (0,1)
def hz(h:Hp)(l:List Tx):Hp:=h++[(1,.data 2 (l.flatMap bb) Th SM)]
theorem DU(h:Hp)(l:List Tx):(hz h l)[RW h]?=Wf (1,.data 2 (l.flatMap bb) Th SM):=by simp[hz]
theorem MQ(h:Hp)(l l':List Tx):(hz h l).set (RW h) (1,.data 2 (l'.flatMap bb) Th SM)=hz h l':=by simp[hz]
theorem O9{h:Hp}{n:Nat}(hn:n<1000000)(k:KL)(h0:Hp)(hh:RW h0=RW h+1):∀(r i:Nat),i+r=n->k (.exit 0) [] (hz h (So n zT)) ->
  lp (FC DA (RW h) (.ref (RW h) 1 0 n n (n*2)) (I n)) [] h0 [I i] (hz h (So i zT++So r gH)) k
 | 0,i,hi,hk=>by
  have h1:¬(i:Int)<(n:Int):=aa;have h2:i=n:=aa;subst h2;apply aL;simp[FC,h1];exact hk
 | r+1,i,hi,hk=>by
  have h1:(i:Int)<(n:Int):=aa;have nb:=GO (z:=0) aa aa;have hl:RW (So i zT++So (r+1) gH)=n:=by simp;omega
  have e1:=HK (DU h (So i zT++So (r+1) gH)) hl (c:=i) aa .i64;have e2:=Fj (DU h (So i zT++So (r+1) gH)) hl (c:=i) aa zT;rw[MQ,Rh]at e2;have Rg:RW (hz h (So (i+1) zT++So r gH))=RW h0:=by simp[hz,hh]
  apply aL;simp[FC,h1];refine cd nb ?_;have e3:st (hz h (So i zT++So (r+1) gH)) 2 (V.ptr (RW h) 1 (i*2) (n*2)) (.agg (qT (0,1)))=Wf (hz h (So (i+1) zT++So r gH)):=e2;simp(disch:=omega) [e1,e3,Rg];have:=O9 hn k h0 hh r (i+1) aa hk;simpa using this
theorem abM{h:Hp}(hu:(h.all λx=>cj (RW h) x.2)=Th)(hn:n<1000000):CI Y F.xK [I n] h (.new 2 ((So n zT).flatMap bb) Th n n) h:=by
 apply afl;have hl:bh (.ref (RW h) 1 0 n n (n*2))=Wf (I n):=rfl;simp[xK];refine Ua (e:=0) (b:=.none) ac aa ?_;have e0:(h++[(0,Bk.none)]).set (RW h) (0+1,.data 2 ((So n gH).flatMap bb) Th SM)=hz h (So 0 zT++So n gH):=by simp[hz]
 rw[e0];simp[hl];refine lo (O9 hn _ _ (by simp[hz]) n 0 aa ?_);simp;have hfl:=jB bb dZ (So n zT);rw[Y8]at hfl;refine⟨by simp[hz],?_,.inr (.inr (.inl ⟨RW h,1,n,n,2,(So n zT).flatMap bb,true,by rw[hfl],Z8 _,?_,rfl⟩))⟩
 .exact hu
 .simp[hz,aH]
theorem QO{h:Hp}{s:Nat}(hg:h[s]?=Wf (e,.data 2 (l.flatMap bb) ex fr))(hn:RW l=n):bQ h (.ref s e 0 n n (n*2))=Wf (de bb l,h.set s (e,.data 2 (l.flatMap bb) ex Th)):=by have Rg:=jB bb dZ l;simp only[bQ,dX,ij hg];rw[ip ⟨by rw[Rg,hn],Z8 _,by rw[Rg,hn];omega⟩];rw[Yz,Zx (by rw[Rg,hn];exact Z8 _)];subst hn;rfl
theorem uk(n:Nat)(l:bF)(H:Hp):cI 1 [aW] [(0,.d (.sl n l))] H=Wf ([.sl n l],H):=by simp[cI,dI,d8,dX]
theorem Hh(n:Nat)(l:bF)(n':Nat)(l':bF)(H:Hp):cI 2 [aW] [(0,.d (.sl n l)),(1,.d (.sl n' l'))] H=Wf ([.sl n l,.sl n' l'],H):=by simp[cI,dI,d8,dX]
theorem Dw(x:Q)(H:Hp):cI 1 [D.str [],D.str []] [(0,.agg (qT x))] H=Wf (bb (tx x),H):=by simp[cI,dI,d8,dX,qT,bb,tx]
theorem aju(x y:Q)(H:Hp):cI 2 [D.str [],D.str []] [(0,.agg (qT x)),(1,.agg (qT y))] H=Wf (bb (tx x)++bb (tx y),H):=by simp[cI,dI,d8,dX,qT,bb,tx]
def oe(r:aw):Bool:=r.all λx=>decide (-1000<=x)&&decide (x<=1000)
def uf(n:Nat):cN->Int
 |[]=>0
 |r::m=>if RW r≠n then 5 else if oe r=Th then uf n m else 4
theorem TY{r:aw}(hN:RW r<1000000000000)(k:KL):∀(q a:aw),a++q=r->(oe q=Th->k (.exit 2) [] [])->(oe q=SM->k .ret [I 4] []) ->
  lp (G6 DA (aj di r) (I (RW r))) [] [] [I (RW a)] [] k
 | []=>by
  intro a ha h0 h1;subst ha;apply aL;simp[G6];exact h0 rfl
 | x::q=>by
  intro a ha h0 h1;subst ha;simp at hN;apply aL;simp(disch:=try exact cC)[G6];by_cases h:(1000:Int)<x
  .simp[h];exact h1 (by simp[oe];omega)
  .by_cases h2:x < -1000
   .simp(disch:=omega) [h,h2];exact h1 (by simp[oe];omega)
   .simp(disch:=omega) [h,h2];have:=TY (r:=a++x::q) dG k q (a++[x]) ac (λg=>h0 ?_) (λg=>h1 ?_)
    .simpa using this
    .simp[oe]at g ⊢;exact⟨⟨aa,aa⟩,g⟩
    .simp only[oe,List.all_cons,Xg]at g ⊢;exact .inr g
theorem TX{p:aw}(hp:RW p<1000000000000)(k:KL):∀(q a:cN),RW (a++q)<1000000000 ->
  (uf (RW p) q=0->k (.exit 0) [] [])->(uf (RW p) q≠0->k .ret [I (uf (RW p) q)] []) ->
  lp (Dq DA (aj di p) (bf (a++q)) (I (RW (a++q)))) [] [] [I (RW a)] [] k
 | []=>by
  intro a hN h0 h1;apply aL;simp[Dq];exact h0 rfl
 | r::q=>by
  intro a hN h0 h1;simp at hN;apply aL;simp only[uf]at h0 h1;by_cases g:RW r=RW p
  .have g':(RW r:Int)=(RW p:Int):=aa;rw[iN (by simpa using g)]at h0 h1;simp(disch:=try exact cC)[Dq,g'];rw[<-g'];refine lo (TY (r:=r) aa _ r [] rfl (λgg=>?_) (λgg=>?_))
   .rw[ip gg]at h0 h1;have:=TX hp k q (a++[r]) dG h0 h1;simp(disch:=omega) [];simp at this ⊢;exact this
   .rw[iN (by simp[gg])]at h1;simp;exact h1 aa
  .have g':¬(RW r:Int)=(RW p:Int):=aa;rw[ip g]at h1;simp(disch:=try exact cC)[Dq,g'];exact h1 aa
def ot(p:aw)(m:cN):Int:=if ef p=0 then uf (RW p) m else ef p
theorem aiV{m:cN}(hp:RW p<1000000000)(hm:RW m<1000000000):Ds F.Be [aj di p,bf m] (I (ot p m)):=by
 apply aiU;simp[Be];refine cd (AR hp) ?_;by_cases h:ef p=0
 .have e:ot p m=uf (RW p) m:=ip h;rw[e];simp[h];refine lo (TX aa _ m [] (by simpa using hm) (λg=>?_) (λg=>?_))
  .rw[g];simp
  .simp
 .have e:ot p m=ef p:=iN h;rw[e];simp[h]<;>exact df rfl
theorem T9{r:aw}(hp:RW p<1000000000):Ds F.yp [aj di p,aj di r] (I (ot p [r])):=by
 apply aiT;have hli:∀H,cI 1 [aW] [(0,aj di r)] H=Wf ([row r],H):=λH=>uk ..
 simp[yp,hli];refine cd (v:=I (ot p [r])) (aiV (m:=[r]) hp ac) ?_;simp<;>exact df rfl
theorem aiJ{r:aw}(hp:ef p=0)(hl:RW r=RW p)(hs:oe r=Th):ot p [r]=0:=by unfold ot;rw[ip hp];simp[uf,hl,hs]
theorem KE(a:List α)(y x:α)(q:List α):(a++y::q).set (RW a) x=a++x::q:=by
 induction a with
 |nil=>rfl
 |cons z a ih=>simp
def fB(r:aw):List Q:=r.map λx=>(x,1)
def fJ(K:Nat)(s:List Q):Prop:=∀x∈s,gC x∧qL K x
def iW(k:Q):List Q->List Q->List Q
 |x::o,y::s=>d9 x (il y k)::iW k o s
 |_,_=>[]
def nA:List Q->List (List Q)->List Q->List Q
 |o,s::l,k::f=>nA (iW k o s) l f
 |o,_,_=>o
theorem zw(k:Q):∀(o s:List Q),RW o=RW s->RW (iW k o s)=RW s
 |[],[],_=>rfl
 |x::o,y::s,h=>by simp[iW,zw k o s ae]
 |[],_::_,h=>by simp at h
 |_::_,[],h=>by rfl
theorem Jg{Ko Ks Kk:Nat}{k:Q}(hk:gC k)(lk:qL Kk k):∀{o s:List Q},fJ Ko o->fJ Ks s->fJ (Ko+(Ks+Kk)+1) (iW k o s)
 | x::o,y::s,ho,hs,z,hz=>by
  simp only[iW,Zy]at hz;rcases hz with rfl|hz
  .have⟨h1,h2⟩:=ho x ac;have⟨h3,h4⟩:=hs y ac
   simp_all[ahh,K8,ahi,K9]
  .exact Jg hk lk (λw hw=>ho w ae) (λw hw=>hs w ae) z hz
 |[],[],_,_,z,hz=>by trivial
 |[],_::_,_,_,z,hz=>by trivial
 |_::_,[],_,_,z,hz=>by trivial
theorem qd(d:β)(f:α->β)(a:List α)(x:α)(q:List α):nth d ((a++x::q).map f) (RW a)=f x:=by
 have:nth d (a.map f++f x::q.map f) (RW (a.map f))=f x:=by simp[-List.length_map]
 grind
def bX(s:List Q):D:=.sl (RW (s.map tx)) ((s.map tx).flatMap bb)
theorem Fa(s:List Q):V.d (bX s)=aX s:=rfl
theorem Bo(s:List Q):bh (aX s)=Wf (I (RW s)):=by simp[aX]
@[simp]theorem aq8(s:List Q):norm (bX s)=bX s:=rfl
def qY(l:List Tx):Hp:=[(1,.data 2 (l.flatMap bb) Th SM),ah]
theorem Qv{s fs:List Q}{k:Q}{i:Nat}(hi:i<RW fs)(hki:nth ([],[]) (fs.map tx) i=tx k)(hf:RW fs<1000000)(hN:RW s<1000000){Ko Ks Kk:Nat}(hk:gC k)(lk:qL Kk k)
  (b1:Ko<=100000) (b2:Ks+Kk<=100000) (h0:List Tx) (kk:KL):∀(q a oq a':List Q),a++q=s->RW a'=RW a->RW oq=RW q->fJ Ko oq->fJ Ks q->kk (.exit 2) [] (qY ((a'++iW k oq q).map tx)) ->
  lp (CU DA (aX fs) (.ref 0 1 0 (RW s) (RW s) (RW s*2)) (I i) (aX s) (I (RW s))) [1] (qY h0) [I (RW a)] (qY ((a'++oq).map tx)) kk
 | [],a,oq,a',ha,h1,h2,ho,hs,hkk=>by
  simp at ha h2;subst ha;subst h2;apply aL;simp[CU]
  grind[iW]
 |x::q,a,[],a',ha,h1,h2,ho,hs,hkk=>by simp at h2
 | x::q,a,y::oq,a',ha,h1,h2,ho,hs,hkk=>by
  have DQ:RW a<RW s:=by subst ha;simp
  have⟨o1,o2⟩:=ho y ac;have⟨s1,s2⟩:=hs x ac;have Rg:RW ((a'++y::oq).map tx)=RW s:=by subst ha;simp at h2 ⊢;omega
  have mul:=XB s1 hk (s2.mono aa) (lk.mono aa);have add:=M8 o1 (K8 s1 hk) (o2.mono b1) ((K9 s2 lk).mono aa);have g1:(RW a:Int)<(RW s:Int):=aa;have hx:nth ([],[]) (s.map tx) (RW a)=tx x:=by subst ha;exact qd ..
  have hy:nth ([],[]) ((a'++y::oq).map tx) (RW a)=tx y:=by rw[<-h1];exact qd ..
  have i1:=λh:Hp=>lX bb dZ (s.map tx) h (k:=.i64) (i:=(RW a:Int)) aa ae
  have i2:=λh:Hp=>lV bb dZ ([],[]) (s.map tx) h (j:=RW a) ae
  have j1:=λh:Hp=>lX bb dZ (fs.map tx) h (k:=.i64) (i:=(i:Int)) aa ae
  have j2:=λh:Hp=>lV bb dZ ([],[]) (fs.map tx) h (j:=i) ae
  simp only[hx,hki,Int.toNat_natCast]at i1 i2 j1 j2
  let D0:Bk:=.data 2 (((a'++y::oq).map tx).flatMap bb) Th SM
  have e1:=λz=>HK (h:=[(1,D0),(1,z)]) (s:=0) (e:=1) rfl Rg (c:=RW a) DQ .i64
  have e2:=λz=>Mi (h:=[(1,D0),(1,z)]) (s:=0) (e:=1) rfl Rg (c:=RW a) DQ
  have e3:=λz=>Fj (h:=[(1,D0),(1,z)]) (s:=0) (e:=1) rfl Rg (c:=RW a) DQ (tx (d9 y (il x k)))
  have es:((a'++y::oq).map tx).set (RW a) (tx (d9 y (il x k)))=((a'++[d9 y (il x k)])++oq).map tx:=by
   have:=KE (a'.map tx) (tx y) (tx (d9 y (il x k))) (oq.map tx);rw[List.length_map,h1]at this;simpa using this
  simp only[hy,es]at e2 e3;have mul':Ds F.wN [.agg [S (tx x).1,S (tx x).2],.agg [S (tx k).1,S (tx k).2]] (.agg (qT (il x k))):=mul;have add':Ds F.qn [.agg [S (tx y).1,S (tx y).2],.agg (qT (il x k))] (.agg (qT (d9 y (il x k)))):=add
  have e3':∀z,st [(1,D0),(1,z)] 2 (V.ptr 0 1 (RW a*2) (RW s*2)) (.agg (qT (d9 y (il x k))))=Wf [(1,.data 2 ((((a'++[d9 y (il x k)])++oq).map tx).flatMap bb) Th SM),(1,z)]:=λz=>e3 z
  have ih:=Qv hi hki hf hN hk lk b1 b2 h0 kk q (a++[x]) oq (a'++[d9 y (il x k)]) ae ae ae (λw hw=>ho w ae) (λw hw=>hs w ae) (by grind[iW]);apply aL
  show CU DA (aX fs) _ _ (aX s) _ _ [(1,D0),ah] _
  simp[CU,aX,i1,i2,j1,j2,e1,e2,e3',g1,bb];refine cd mul' ?_;simp;refine cd add' ?_ aM;simp(disch:=omega) [e1,e3',qY,clean,fK,gZ,iq,offB,fC,dl,show Nat.beq 1 0=SM from rfl]
  simp_all[qY,aX]
theorem Qu{n:Nat}{fs:List Q}(hf:RW fs<1000000)(hN:n<1000000){Ks Kk:Nat}(b2:Ks+Kk<=90000)(h0:List Tx)(kk:KL):∀(l a:List (List Q))(q f:List Q)(o:List Q)(Ko:Nat),f++q=fs->RW f=RW a->RW l=RW q->Ko+RW l*(Ks+Kk+1)<=100000 ->
  (RW o)=n->fJ Ko o->(∀s∈l,RW s=n∧fJ Ks s)->fJ Kk q->kk (.exit 0) [] (qY ((nA o l q).map tx)) ->
  lp (FF DA (aX fs) (.ref 0 1 0 n n (n*2)) (aj bX (a++l)) (I (RW (a++l)))) [1] (qY h0) [I (RW a)] (qY (o.map tx)) kk
 | [],a,q,f,o,Ko,hfq,h1,h2,b1,hn,ho,hl,hq,hkk=>by
  apply aL;simp[FF]
  grind[nA]
 |s::l,a,[],f,o,Ko,hfq,h1,h2,b1,hn,ho,hl,hq,hkk=>by simp at h2
 | s::l,a,k::q,f,o,Ko,hfq,h1,h2,b1,hn,ho,hl,hq,hkk=>by
  have⟨s1,s2⟩:=hl s ac;have⟨k1,k2⟩:=hq k ac;have hLl:(RW l+1)*(Ks+Kk+1)=RW l*(Ks+Kk+1)+(Ks+Kk+1):=X3 ..;rw[List.length_cons,hLl]at b1;have hb:RW (a++s::l)<1000000:=by simp at h2 ⊢;subst hfq;simp at hf;omega
  have g1:(RW a:Int)<(RW (a++s::l):Int):=by simp;omega
  have i1:=λh:Hp=>mH bX (a++s::l) h (k:=.i64) (i:=(RW a:Int)) aa g1
  have i2:=λh:Hp=>mZ bX [] (a++s::l) h (j:=RW a) ac
  have hnt:nth [] (a++s::l) (RW a)=s:=ac;simp only[hnt,Int.toNat_natCast]at i1 i2;have hlv:=Bo s;have hki:nth ([],[]) (fs.map tx) (RW a)=tx k:=by rw[<-hfq,<-h1];exact qd ..
  have hi:RW a<RW fs:=by rw[<-hfq];simp;omega
  simp only[Fa]at i2;apply aL;have⟨L,hLe⟩:∃L,L=RW (a++s::l):=⟨_,rfl⟩;rw[<-hLe]at g1 ⊢;simp[FF,i1,i2,g1,hlv,Fa];subst s1;refine lo (Qv hi hki hf hN k1 k2 (Ko:=Ko) (Ks:=Ks) aa aa (o.map tx) _ s [] o [] rfl rfl hn ho s2 ?_)
  have ih:=Qu hf hN b2 h0 kk l (a++[s]) q (f++[k]) (iW k o s) (Ko+(Ks+Kk)+1) ae ae ae aa (zw k o s hn) (Jg k1 k2 ho s2) (λt ht=>hl t ae) (λt ht=>hq t ae) cU;simp(disch:=omega) [qY,clean,fK,gZ,iq,offB,fC,dl,show Nat.beq 1 0=SM from rfl];have hL:RW (a++[s]++l)=L:=by rw[hLe];simp
  simp_all[qY]
def gA(n:Nat)(l:List (List Q))(f:List Q):List Q:=nA (So n (0,1)) l f
theorem J2{Ks Kk:Nat}:∀{l:List (List Q)}{f o:List Q}{Ko:Nat},fJ Ko o->(∀s∈l,fJ Ks s)->fJ Kk f->fJ (Ko+RW l*(Ks+Kk+1)) (nA o l f)
 |[],f,o,Ko,ho,_,_=>by grind[nA]
 |s::l,[],o,Ko,ho,hl,hf=>λx hx=>⟨(ho x cU).1,(ho x cU).2.mono aa⟩
 | s::l,k::f,o,Ko,ho,hl,hf=>by
  have⟨k1,k2⟩:=hf k ac;have:=J2 (l:=l) (f:=f) (Jg k1 k2 ho (hl s ac)) (λt ht=>hl t ae) (λt ht=>hf t ae)
  have e:Ko+RW (s::l)*(Ks+Kk+1)=Ko+(Ks+Kk)+1+RW l*(Ks+Kk+1):=by
   rw[List.length_cons,X3];omega
  rw[e];exact this
theorem vi:∀{l:List (List Q)}{f o:List Q},(∀s∈l,RW s=RW o)->RW (nA o l f)=RW o
 |[],f,o,_=>by simp[nA]
 |s::l,[],o,_=>by rfl
 | s::l,k::f,o,h=>by
  have e:=zw k o s (h s ac).symm;have hs:=h s ac;have:=vi (l:=l) (f:=f) (o:=iW k o s) (λt ht=>by grind)
  grind[nA]
theorem EL(n:Nat):fJ 1 (So n (0,1)):=λx hx=>by
 have:=List.eq_of_mem_replicate hx;subst this;exact⟨⟨am,am⟩,eC am am,eC am am⟩
theorem J0{n:Nat}{l:List (List Q)}{fs:List Q}{Ks Kk:Nat}(hN:n<1000000)(hf:RW fs<1000000)(Rg:RW l=RW fs)(b2:Ks+Kk<=90000)(b1:1+RW l*(Ks+Kk+1)<=100000)
  (hl:∀s∈l,RW s=n∧fJ Ks s) (hq:fJ Kk fs):Ds F.r8 [I n,aj bX l,aX fs] (aX (gA n l fs)):=by
 apply afy;have zi:=abM (h:=[ah,ah]) (n:=n) rfl hN;have hfl:=jB bb dZ (So n zT);rw[Y8]at hfl;have hz:(So n ((0,1):Q)).map tx=So n zT:=by simp[zT]
 have hl':RW ((gA n l fs).map tx)=n:=by
  rw[List.length_map];unfold gA;rw[vi (λs hs=>by grind)];simp
 have sn:=QO (h:=qY ((gA n l fs).map tx)) (s:=0) (e:=1) (n:=n) rfl hl';have ll:bh (aj bX l)=Wf (I (RW l)):=rfl;simp[r8];refine ii (jS (e:=0) (b:=.none) zi rfl ?_);rw[hfl];simp[ll]
 have so:=Qu (n:=n) (fs:=fs) hf hN b2 (So n zT) (aU [(Exit.exit 0,λl3 h=>out (aX (gA n l fs)) (V.ref 0 1 0 n n (n*2)) h)]) l [] fs [] (So n (0,1)) 1 rfl rfl Rg b1 ac (EL n) hl hq (by
  simp;exact⟨_,sn⟩)
 rw[hz]at so;trivial
theorem VR{g:fI}{p:Tx->Bool}(l:List Tx)(hp:∀x∈l,CP Y g [.agg [S x.1,S x.2]] (B (p x)))(hN:RW l<1000000)(k:KL):∀(q a:List Tx),a++q=l ->
  (fL p q = -1->k (.exit 0) [] [])->(∀i:Nat,fL p q=i->k .ret [I (RW a+i:Nat)] []) ->
  lp (Fu DA (de bb l) (.fn g [] []) (I (RW l))) [] [] [I (RW a)] [] k
 | [],a=>by
  intro ha h0 _;simp at ha;subst ha;apply aL;simp[Fu];exact h0 rfl
 | x::q,a=>by
  intro ha h0 h1;have DQ:RW a<RW l:=by subst ha;simp
  have e3:nth ([],[]) l (RW a)=x:=by subst ha;simp
  have e1:=lX bb dZ l [] (k:=.i64) (i:=(RW a:Int)) aa aa;have e2:=lV bb dZ ([],[]) l [] DQ;rw[e3]at e2;rw[Int.toNat_natCast]at e1;apply aL;simp(disch:=omega) [Fu,e1,e2,bb];refine Om (fs:=[]) (args:=[.agg [S x.1,S x.2]]) (cs:=[]) (hp x ae) rfl ?_;simp
  refine OA (λh=>?_) (λh=>?_)<;>try simp(disch:=try exact cC)[h]
  .have e:fL p (x::q)=(0:Nat):=by simp[fL,List.findIdx?_cons,h]
   grind
  .have:=VR l hp hN k q (a++[x]) ae (λe=>h0 ?_) (λi e=>?_)
   .simp_all
   .grind[fL]
   .have:=h1 (i+1) ?_
    .simpa[Xl,Nat.add_comm 1 i]using this
    grind[fL]
theorem aai{g:fI}{p:Tx->Bool}(l:List Tx)(hN:RW l<1000000)(hp:∀x∈l,CP Y g [.agg [S x.1,S x.2]] (B (p x))):Ds F.xF [de bb l,.fn g [] []] (B (l.any p)):=by
 apply ae3;simp[xF];refine cd (v:=I (fL p l)) (aeT ?_) ?_ ?_
 .have ls':bh (de bb l)=Wf (I (RW l)):=rfl;simp[CO,ls'];refine lo (VR l hp hN _ l [] rfl (λe=>?_) (λi e=>?_))
  .simp[e]
  .simp[e]
 .simp;have:=DR p l;have e:decide (0<=fL p l)=l.any p:=by rw[Yh];simpa using this
  simp_all
 rfl
theorem VS{g:fI}{p:Tx->Bool}(l:List Tx)(hp:∀x∈l,CP Y g [.agg [S x.1,S x.2]] (B (p x)))(hN:RW l<1000000)(k:KL):∀(q a:List Tx),a++q=l ->
  (fL p q = -1->k (.exit 0) [] [])->(∀i:Nat,fL p q=i->k .ret [I (RW a+i:Nat)] []) ->
  lp (Fx DA (de bb l) (.fn g [] []) (I (RW l))) [] [] [I (RW a)] [] k
 | [],a=>by
  intro ha h0 _;simp at ha;subst ha;apply aL;simp[Fx];exact h0 rfl
 | x::q,a=>by
  intro ha h0 h1;have DQ:RW a<RW l:=by subst ha;simp
  have e3:nth ([],[]) l (RW a)=x:=by subst ha;simp
  have e1:=lX bb dZ l [] (k:=.i64) (i:=(RW a:Int)) aa aa;have e2:=lV bb dZ ([],[]) l [] DQ;rw[e3]at e2;rw[Int.toNat_natCast]at e1;apply aL;simp(disch:=omega) [Fx,e1,e2,bb];refine Om (fs:=[]) (args:=[.agg [S x.1,S x.2]]) (cs:=[]) (hp x ae) rfl ?_;simp
  refine OA (λh=>?_) (λh=>?_)<;>try simp(disch:=try exact cC)[h]
  .have e:fL p (x::q)=(0:Nat):=by simp[fL,List.findIdx?_cons,h]
   grind
  .have:=VS l hp hN k q (a++[x]) ae (λe=>h0 ?_) (λi e=>?_)
   .simp_all
   .grind[fL]
   .have:=h1 (i+1) ?_
    .simpa[Xl,Nat.add_comm 1 i]using this
    grind[fL]
theorem aox{g:fI}{p:Tx->Bool}(l:List Tx)(hN:RW l<1000000)(hp:∀x∈l,CP Y g [.agg [S x.1,S x.2]] (B (p x))):Ds F.Ak [de bb l,.fn g [] []] (B (l.any p)):=by
 apply ae5;simp[Ak];refine cd (v:=I (fL p l)) (aeV ?_) ?_ ?_
 .have ls':bh (de bb l)=Wf (I (RW l)):=rfl;simp[CQ,ls'];refine lo (VS l hp hN _ l [] rfl (λe=>?_) (λi e=>?_))
  .simp[e]
  .simp[e]
 .simp;have:=DR p l;have e:decide (0<=fL p l)=l.any p:=by rw[Yh];simpa using this
  simp_all
 rfl
def xc(n:Nat):List (List Q)->Int
 |[]=>0
 |s::l=>if RW s=n then xc n l else 5
theorem aaH{p:aw}(hp:RW p<1000000000)(k:KL):∀(q a:List (List Q)),RW (a++q)<1000000->(∀s∈q,jq s∧RW s<1000000) ->
  (xc (RW p) q=0->k (.exit 0) [] [])->(xc (RW p) q≠0->k .ret [I (xc (RW p) q)] []) ->
  lp (FJ DA (aj di p) (aj bX (a++q)) (I (RW (a++q)))) [] [] [I (RW a)] [] k
 | []=>by
  intro a hN hs h0 h1;apply aL;simp[FJ];exact h0 rfl
 | s::q=>by
  intro a hN hs h0 h1;have⟨s1,s2⟩:=hs s ac;have ck:=aoP (p:=p) s1 s2;have g1:(RW a:Int)<(RW (a++s::q):Int):=by simp;omega
  have i1:=mH bX (a++s::q) [] (k:=.i64) (i:=(RW a:Int)) aa g1;have i2:=mZ bX [] (a++s::q) [] (j:=RW a) ac;have hnt:nth [] (a++s::q) (RW a)=s:=ac;rw[hnt]at i2;rw[Int.toNat_natCast]at i1;apply aL;simp only[xc]at h0 h1;have⟨L,hLe⟩:∃L,L=RW (a++s::q):=⟨_,rfl⟩;rw[<-hLe]at g1 ⊢;simp[FJ,i1,i2,g1,Fa]
  refine cd ck ?_ aM;by_cases g:RW s=RW p
  .rw[ip g]at h0 h1 ⊢;have:=aaH hp k q (a++[s]) ae (λt ht=>hs t ae) h0 h1;simp(disch:=omega) [];have e:RW (a++[s]++q)=L:=by rw[hLe];simp
   simp_all
  .rw[iN g]at h1 ⊢;simp
   grind
theorem Oe{l:List (List Q)}(hp:RW p<1000000000)(hl:RW l<1000000)(hs:∀s∈l,jq s∧RW s<1000000):Ds F.vE [aj di p,aj bX l] (I (if ef p=0 then xc (RW p) l else ef p)):=by
 apply afQ;simp[vE];refine cd (AR hp) ?_;by_cases h:ef p=0
 .rw[ip h];simp[h];refine lo (aaH hp _ l [] cU hs (λg=>?_) (λg=>?_))
  .rw[g];simp
  .simp
 .rw[iN h];simp[h]<;>exact df rfl
theorem I8{n:Nat}:∀{l:List (List Q)},(∀s∈l,RW s=n)->xc n l=0
 |[],_=>rfl
 |s::l,h=>by rw[xc,ip (h s ac)];exact I8 λt ht=>h t ae
theorem agV(hl:qL 30 x):Ds F.xM [.agg (qT x)] (B SM):=by apply afC;simp[xM,qT];refine cd (afX hl) ?_ aM;simp<;>exact fp rfl
theorem abo(l:List α):(l.any λ_=>SM)=SM:=by induction l<;>simp_all
theorem z8(s:List Q)(h:Hp):bQ h (aX s)=Wf (aX s,h):=by rfl
theorem agU(hs:jq s)(hN:RW s<1000000):Ds F.Ap [aX s] (.tup [aX s,I 0]):=by
 apply afB
 have:=aai (g:=F.xM) (p:=λ_=>SM) (s.map tx) ae (λx hx=>by
  obtain⟨y,hy,rfl⟩:=Zw.1 hx;exact agV (hs y hy).2)
 rw[abo]at this;simp[Ap];refine cd this ?_ aM;simp;simp[fR,z8]
theorem aoD(hx:gC x)(hl:qL 30 x):Ds F.xO [.agg (qT x)] (B SM):=by apply afO;simp[xO,qT];refine cd (aoQ hx hl) ?_ aM;simp<;>exact fp rfl
theorem aoC{l:List (List Q)}(hp:ef p=0)(hN:RW p<1000000)(hf:RW fs<1000)(Rg:RW l=RW fs)(hl:∀s∈l,RW s=RW p∧jq s)(hq:jq fs)(hr:jq (gA (RW p) l fs)):
  Ds F.Aw [aj di p,aj bX l,aX fs] (.tup [aX (gA (RW p) l fs),I 0]):=by
 apply afN;have ca:=Oe (p:=p) (l:=l) aa aa (λs hs=>⟨(hl s hs).2,ae⟩);rw[ip hp,I8 λs hs=>(hl s hs).1]at ca
 have cf:=aox (g:=F.xO) (p:=λ_=>SM) (fs.map tx) ae (λx hx=>by
  obtain⟨y,hy,rfl⟩:=Zw.1 hx;exact aoD (hq y hy).1 (hq y hy).2)
 rw[abo]at cf;have su:=J0 (n:=RW p) (l:=l) (fs:=fs) (Ks:=30) (Kk:=30) hN aa Rg aa aa hl hq;have rs:=agU hr (by grind[gA,vi]);have l1:bh (aj bX l)=Wf (I (RW l)):=rfl;have l2:=Bo fs;have l3:bh (aj di p)=Wf (I (RW p)):=rfl;have g1:((RW fs:Int)=(RW l:Int))=True:=eq_true aa;simp[Aw];refine cd ca ?_
 simp[l1,l2,g1];refine cd cf ?_ aM;simp[l3];refine cd su ?_ aM;simp;refine cd rs ?_ aM;simp;simp[fR,z8]
theorem ail(z:Int)(h1 : -1000000000000000000<z)(h2:z<1000000000000000000):gC (z,1)∧qL 30 (z,1):=
 ⟨⟨ac,ac⟩,Z1 (LN aa aa) am,eC ac am⟩
theorem Rj{k:Q}(hp:ef p=0)(hN:RW p<1000000)(hl:RW s=RW p)(hs:jq s)(hk:gC k∧qL 30 k)(hr:jq (gA (RW p) [s] [k])):
  Ds F.vC [aj di p,aX s,.agg (qT k)] (.tup [aX (gA (RW p) [s] [k]),I 0]):=by
 apply afK;have cb:=aoC (p:=p) (l:=[s]) (fs:=[k]) hp hN ac rfl (λt ht=>by grind) (λx hx=>by grind) hr;have l1:∀H,cI 1 [aW] [(0,aX s)] H=Wf ([bX s],H):=λH=>uk ..
 have l2:∀H,cI 1 [D.str [],D.str []] [(0,.agg [S (itoa k.1),S (aA k.2)])] H=Wf (bb (tx k),H):=λH=>Dw k H
 simp[vC,qT,l1,l2];refine cd (v:=.tup [aX (gA (RW p) [s] [k]),I 0]) cb ?_ aM;simp;simp[fR,z8]
theorem ac0{y:Q}(h:tx x=tx y):x=y:=by unfold tx at h;simp only[Z5]at h;exact Prod.ext (By h.1) (yL h.2)
theorem aiC(x y:Q):pJ [.str [],.str []] .neq (.agg [S (tx x).1,S (tx x).2]) (.agg [S (tx y).1,S (tx y).2])=Wf (B (!decide (x=y))):=by
 have:((tx x).1 == (tx y).1&&((tx x).2 == (tx y).2&&Th))=decide (x=y):=by
  rw[Yh];simp only[Z7,beq_iff_eq,dT,and_true];exact⟨λh=>ac0 (Prod.ext h.1 h.2),λh=>by subst h;exact⟨rfl,rfl⟩⟩
 simp only[pJ,pB,yZ,this]
theorem YB{s t:List Q}(hN:RW s<1000000)(k:KL):∀(q r a b:List Q),a++q=s->b++r=t->RW a=RW b->RW q=RW r->(q=r->k (.exit 0) [] [])->(q≠r->k .ret [B SM] []) ->
  lp (CR DA (aX s) (aX t) (I (RW s))) [] [] [I (RW a)] [] k
 | [],r,a,b,ha,hb,hab,hqr,h0,h1=>by
  simp at ha;subst ha
  have:r=[]:=by cases r with
   |nil=>rfl
   |cons y r=>simp at hqr
  apply aL;simp[CR];exact h0 this.symm
 |x::q,[],a,b,ha,hb,hab,hqr,h0,h1=>by simp at hqr
 | x::q,y::r,a,b,ha,hb,hab,hqr,h0,h1=>by
  have DQ:RW a<RW s:=by subst ha;simp
  have hbl:RW a<RW t:=by subst hb;simp;omega
  have hx:nth ([],[]) (s.map tx) (RW a)=tx x:=by subst ha;exact qd ..
  have hy:nth ([],[]) (t.map tx) (RW a)=tx y:=by subst hb;rw[hab];exact qd ..
  have i1:=lX bb dZ (s.map tx) [] (k:=.i64) (i:=(RW a:Int)) aa dG;have i2:=lV bb dZ ([],[]) (s.map tx) [] (j:=RW a) (by simpa using DQ);have j1:=lX bb dZ (t.map tx) [] (k:=.i64) (i:=(RW a:Int)) aa dG;have j2:=lV bb dZ ([],[]) (t.map tx) [] (j:=RW a) (by simpa using hbl)
  have g1:(RW a:Int)<(RW s:Int):=aa;have e:=aiC x y;simp only[hx,hy,Int.toNat_natCast,bb,Zv,Yq]at i1 i2 j1 j2;apply aL;by_cases hxy:x=y
  .subst hxy;have ih:=YB hN k q r (a++[x]) (b++[x]) (by simpa using ha) (by simpa using hb) (by simp[hab]) (by simpa using hqr) (λe=>h0 (by rw[e])) (λe=>h1 (by simpa using e));rw[show(!decide (x=x))=SM by simp]at e;simp(disch:=omega) [CR,aX,i1,i2,j1,j2,g1,e];simpa[aX]using ih
  .rw[show(!decide (x=y))=Th by simp[hxy]]at e;simp[CR,aX,i1,i2,j1,j2,g1,e];exact h1 (by simp[hxy])
theorem afj(hN:RW s<1000000):Ds F.xD [aX s,aX t] (B (decide (s=t))):=by
 have l1:=Bo s;have l2:=Bo t;apply ae0;by_cases h:RW s=RW t
 .have g:((RW s:Int)=(RW t:Int))=True:=eq_true aa;simp[xD,l1,l2,g]
  have:=YB (s:=s) (t:=t) hN (aU [(Exit.exit 0,λl5 h=>out (B (decide (s=t))) (V.d (D.bool Th)) h),(Exit.ret,λl5 h=>out (B (decide (s=t))) (ge l5 0) h)]) s t [] [] rfl rfl rfl h (λg=>by
   simp;exact fp (by simp[g])) (λg=>by
   simp;exact fp (by simp[g]))
  apply lo;exact this
 .have g:¬((RW s:Int)=(RW t:Int)):=aa;have:¬s=t:=λe=>h (by rw[e])
  simp[xD,l1,l2,g]<;>exact fp (by simp[this])
theorem amE(hN:RW s<1000000):Ds F.Av [aX s,aX t] (B (decide (s=t))):=by apply afL;have se:=afj (s:=s) (t:=t) hN;simp[Av];refine cd se ?_ (by simp[bY,bQ,aX,de]);simp<;>exact fp rfl
structure Tg where
 iv:aw
 num:bA
 den:bA
 deriving DecidableEq
def fx(t:Tg):bF:=[row t.iv,.str t.num,.str t.den]
theorem tF(t:Tg):RW (fx t)=3:=rfl
def dY(l:List Tg):V:=de fx l
def nm:Tg:=⟨[],[],[]⟩
def oM(t:Tg):Prop:=RW t.num<1000000∧RW t.den<1000000∧RW t.iv<1000000
def nZ(t:Tg):Int:=match jY t.num t.den with
 |none=>2
 |some q=>if q.1<=0 then 3 else if 30<RW t.num∨30<RW t.den then 4 else 0
def zU(p:aw)(t:Tg):Int:=if ot p [t.iv]=0 then nZ t else ot p [t.iv]
def pC(p:aw):List Tg->Int
 |[]=>0
 |t::l=>if zU p t=0 then pC p l else zU p t
def mK(p:aw)(l:List Tg):Int:=if ef p=0 then(if RW l<=60 then pC p l else 4)else ef p
theorem JO{n d:bA}(h:jY n d=Wf q):n=itoa q.1∧d=aA q.2:=by
 unfold jY at h;cases h1:rd n with
 |none=>rw[h1]at h;cases h
 | some x=>
  cases h2:rd d with
  |none=>rw[h1,h2]at h;cases h
  | some y=>
   rw[h1,h2]at h;simp only at h;split at h
   .rename_i hc;obtain rfl:=Option.some.inj h;refine⟨(Gj h1).1,?_⟩;rw[(Gj h2).1];unfold itoa;rw[iN aa]
   .cases h
theorem adH{n d:bA}(h:jY n d=Wf q):Ds F.wM [.agg [S n,S d]] (I (eU q.1)):=by obtain⟨rfl,rfl⟩:=JO h;exact WZ q
theorem adI{n d:bA}(h:jY n d=Wf q)(hq:0<q.1):Ds F.lK [S n] (S n):=by
 obtain⟨rfl,rfl⟩:=JO h
 have e:itoa q.1=aA q.1.toNat:=by
  unfold itoa;rw[iN aa];congr 1;omega
 rw[e];exact OV _
theorem Rc:eU z<=0↔z<=0:=by unfold eU;split<;>first|omega|(split<;>omega)
theorem JP{l:List Tg}{a q:List Tg}{t:Tg}(e:l=a++t::q):nth nm l (RW a)=t:=by rw[e];simp
theorem ZE{p:aw}(hp:RW p<1000000){l:List Tg}(hl:RW l<1000000)(hs:∀t∈l,oM t)(u v:Bk)(K:KL):∀(q a:List Tg),l=a++q->(pC p q=0->K (.exit 0) [] [ah,ah])->(∀h,pC p q≠0->K .ret [I (pC p q)] h) ->
  lp (IW DA (aj di p) (dY l) (I (RW l))) [0,1] [(0,u),(0,v)] [I (RW a)] [ah,ah] K
 | [],a,e,k0,k1=>by
  simp[Zo]at e;subst e;apply aL;have PJ:¬((RW l:Int)<(RW l:Int)):=aa;simp only[IW];simp[PJ];exact k0 rfl
 | t::q,a,e,k0,k1=>by
  apply aL;have PJ:((RW a:Int)<(RW l:Int)):=by rw[e];simp;omega
  have DQ:RW a<RW l:=aa;have ht:=hs t (by rw[e];simp);have i1:∀h:Hp,bC h 3 (dY l) (I (RW a))=Wf (.dptr (l.flatMap fx) (RW a*3)):=λh=>lX fx tF l h (k:=.i64) (i:=(RW a:Int)) aa PJ
  have i2:∀h:Hp,aG h 3 (.dptr (l.flatMap fx) (RW a*3))=Wf (.agg [aj di t.iv,S t.num,S t.den]):=λh=>by
   have:=lV fx tF nm l h DQ;rw[JP e]at this;exact this
  have mc:=T9 (p:=p) (r:=t.iv) aa;have fc:=Od t.num t.den (by have:=ht.1;omega) (by have:=ht.2.1;omega);have okr:okV (aj di t.iv)=Th:=rfl;simp only[pC]at k0 k1;simp only[IW];simp[PJ,i1,i2,okr];refine cd mc ?_ aM;by_cases g1:ot p [t.iv]=0
  .have ete:zU p t=nZ t:=ip g1;simp[g1];refine cd fc ?_ aM;cases hq:jY t.num t.den with
   | none=>
    have e2:nZ t=2:=by simp[nZ,hq]
    rw[ete,e2,iN am]at k1;simp;exact k1 _ am
   | some y=>
    simp;refine cd (adH hq) ?_ aM;by_cases g2:y.1<=0
    .have e2:nZ t=3:=by simp[nZ,hq,g2]
     rw[ete,e2,iN am]at k1;have g3:=Rc.2 g2;simp[g3];exact k1 _ am
    .have g3:¬eU y.1<=0:=λh=>g2 (Rc.1 h)
     simp[g3];refine cd (adI hq aa) ?_ aM;have s1:fv (S t.num)=Wf (I (RW t.num)):=rfl;have s2:fv (S t.den)=Wf (I (RW t.den)):=rfl;by_cases h1:30<RW t.num
     .have e2:nZ t=4:=by simp[nZ,hq,g2,h1]
      rw[ete,e2,iN am]at k1;have h1':(RW t.num:Int)>30:=aa;simp[s1,s2,h1'];exact k1 _ am
     .have h1':¬(RW t.num:Int)>30:=aa;by_cases h2:30<RW t.den
      .have e2:nZ t=4:=by simp[nZ,hq,g2,h2]
       rw[ete,e2,iN am]at k1;have h2':(RW t.den:Int)>30:=aa;simp[s1,s2,h1',h2'];exact k1 _ am
      .have h2':¬(RW t.den:Int)>30:=aa;have e2:nZ t=0:=by simp[nZ,hq,g2,h1,h2]
       rw[ete,e2,ip rfl]at k0 k1;have ih:=ZE hp hl hs u v K q (a++[t]) (by rw[e];simp) k0 k1;have e4:((RW (a++[t]):Nat):Int)=(RW a:Int)+1:=ac;rw[e4]at ih;simp(disch:=try exact cC)[s1,s2,h1',h2'];exact⟨rfl,lo ih⟩
  .have ete:zU p t=ot p [t.iv]:=iN g1;rw[ete,iN g1]at k1;simp[g1];exact k1 _ g1
theorem ZD(hp:RW p<1000000){l:List Tg}(hl:RW l<1000000)(hs:∀t∈l,oM t):Ds F.zk [aj di p,dY l] (I (mK p l)):=by
 apply aof;have a1:=AR (p:=p) aa;have l1:bh (dY l)=Wf (I (RW l)):=rfl;unfold mK;simp only[zk];simp;refine cd a1 ?_;by_cases h:ef p=0
 .by_cases h2:RW l<=60
  .have h2':¬(RW l:Int)>60:=aa;simp[h,l1,h2',h2];refine lo (ZE hp hl hs _ _ _ l [] rfl (λe0=>?_) (λh' e0=>?_))
   .show out (I (if ef p=0 then if RW l<=60 then pC p l else 4 else ef p)) (V.d (D.int iK.i64 0)) _
    rw[ip h,ip h2,e0];exact df rfl
   .show out (I (if ef p=0 then if RW l<=60 then pC p l else 4 else ef p)) (I (pC p l)) _
    rw[ip h,ip h2];exact df rfl
  .have h2':(RW l:Int)>60:=aa;simp[h,l1,h2',h2]
 .simp[h]
theorem apF(a b c d:bA):pJ [.str [],.str []] .eql (.agg [S a,S b]) (.agg [S c,S d])=Wf (B (decide (a=c)&&decide (b=d))):=by by_cases h1:a=c<;>by_cases h2:b=d<;>simp[pJ,pB,yZ,h1,h2]
theorem CE(a q:List Tg)(t:Tg)(h:Hp):bC h 3 (dY (a++t::q)) (I (RW a))=Wf (.dptr ((a++t::q).flatMap fx) (RW a*3)):=lX fx tF _ h (k:=.i64) (i:=(RW a:Int)) aa dG
theorem CB(a q:List Tg)(t:Tg)(h:Hp):aG h 3 (.dptr ((a++t::q).flatMap fx) (RW a*3))=Wf (.agg [aj di t.iv,S t.num,S t.den]):=by have:=lV fx tF nm (a++t::q) h (j:=RW a) ac;rw[JP rfl]at this;exact this
theorem adG(a q:List Tg)(t:Tg)(h:Hp):ld1 h (.dptr ((a++t::q).flatMap fx) (RW a*3))=Wf (aj di t.iv):=
 ajP fx tF nm (a++t::q) h (j:=RW a) (o:=0) (x:=row t.iv) ac aa (by rw[JP rfl];rfl)
theorem Ni(z:Int)(hb:0<b):z.fdiv (-(b:Int))=(-z)/(b:Int)∧z.fmod (-(b:Int)) = -((-z)%(b:Int)):=by
 have e:z.fdiv (-(b:Int))=(-z)/(b:Int):=by
  rw[<-Int.fdiv_eq_ediv_of_nonneg (-z) (by omega:(0:Int)<=(b:Int)),<-Int.neg_fdiv_neg (-z) (b:Int),V3]
 refine⟨e,?_⟩;rw[Int.fmod_def,e];have:=Int.mul_ediv_add_emod (-z) (b:Int)
 grind
theorem XN(x y:Int)(hy:y≠0):(x.fdiv y).natAbs<=x.natAbs:=by
 by_cases h:0<y
 .rw[Int.fdiv_eq_ediv_of_nonneg _ aa];exact Int.natAbs_ediv_le_natAbs ..
 .have⟨b,hb⟩:∃b:Nat,b=y.natAbs:=⟨_,rfl⟩;have e:y = -(b:Int):=aa;rw[e,(Ni x (b:=b) aa).1]
  grind[Int.natAbs_ediv_le_natAbs]
theorem amX(hb:0<b)(hz:ay z.natAbs<900000)(hbd:ay b<900000):
   bp DA.p [] (.fn F.ie [] []) [S (itoa z)] λv7 h=>
   ext v7 0 λv8=>
   ext v7 1 λv9=>
   bp DA.p h (.fn F.ie [] []) [S (itoa (-(b:Int)))] λv10 h=>
   ext v10 0 λv11=>
   ext v10 1 λv12=>
   bp DA.p h (.fn F.rE [] []) [v9,v12] λv13 h=>
   ext v13 0 λv14=>
   ext v13 1 λv15=>
   ext v13 2 λv16=>
   bnd (aD .neq v16 (.d (.int .i64 0))) λv17=>
   aQ v17 (
    out (.tup [S (itoa ((-z)/b)),S (itoa (-((-z)%b))),I 0]) (.tup [(.d (.str [])),(.d (.str [])),v16]) h) (
    bnd (jE .neq v8 v11) λv18=>
    gd v18 Th h (λq=>q v15 h) λv19 h=>
    gd v18 Th h (λq=>bnd (j7 .neq v19 (.d (.str [48]))) λv=>q v h) λv20 h=>
    bnd (kU v18 v20 (.d (.bool SM))) λv21=>
    jn (λl22 h=>
     bnd (jE .neq v8 v11) λv24=>
     bp DA.p h (.fn F.jh [] []) [v24,(ge l22 0)] λv25 h=>
     bp DA.p h (.fn F.jh [] []) [v11,(ge l22 1)] λv26 h=>
     out (.tup [S (itoa ((-z)/b)),S (itoa (-((-z)%b))),I 0]) (.tup [v25,v26,(.d (.int .i64 0))]) h) λq23=>
     aQ v21 (
      bp DA.p h (.fn F.qt [] []) [v14,(.d (.str [49]))] λv27 h=>
      bp DA.p h (.fn F.rC [] []) [v12,v15] λv28 h=>
      ext v28 0 λv29=>
      ext v28 1 λv30=>
      q23 [v27,v29] h) (
      q23 [v14,v15] h)):=by
 have hq:ay (z.natAbs/b)<=ay z.natAbs:=ir (Yv ..);have hr:z.natAbs%b<b:=Y7 _ hb;have hr2:ay (z.natAbs%b)<=ay b:=ir aa;have eb:∀x y:Bool,jE .neq (B x) (B y)=Wf (B (x !=y)):=λ_ _=>rfl
 have sb:=vm (-(b:Int));rw[decide_eq_true (by omega : -(b:Int)<0),show(-(b:Int)).natAbs=b by omega]at sb;simp;refine cd (vm z) ?_;simp;refine cd sb ?_;simp;refine cd (Iw (a:=z.natAbs) hb aa aa) ?_;by_cases hneg:z<0
 .have ez : -z=(z.natAbs:Int):=aa;rw[decide_eq_true hneg];simp[eb];refine fE (l:=[S (aA (z.natAbs/b)),S (aA (z.natAbs%b))]) (h:=[]) (λq=>by rfl) ?_;simp[eb];refine cd (mG SM (n:=z.natAbs/b) aa) ?_;simp;refine cd (mG Th (n:=z.natAbs%b) aa) ?_;refine p9 ?_ ?_
  .rw[ez,<-Int.natCast_ediv];rfl
  .rw[ez,<-Int.natCast_emod];rfl
 .have ez : -z = -(z.natAbs:Int):=aa;have⟨d1,d2⟩:=Iv (a:=z.natAbs) hb;rw[<-ez]at d1 d2;rw[decide_eq_false hneg];by_cases h0:z.natAbs%b=0
  .rw[ip h0]at d1 d2;rw[h0,k9];simp[eb];refine fE (l:=[S (aA (z.natAbs/b)),S [48]]) (h:=[]) (λq=>by rfl) ?_;simp[eb];refine cd (mG Th (n:=z.natAbs/b) aa) ?_;simp;have j0:=mG Th (n:=0) ae;rw[k9]at j0;refine cd j0 ?_;refine p9 ?_ ?_
   .rw[d1];rfl
   .rw[d2];rfl
  .rw[iN h0]at d1 d2;have h48:¬aA (z.natAbs%b)=[48]:=λh=>h0 (yN.1 h)
   have ad:=NU (a:=z.natAbs/b) (b:=1) aa (by simp[yl]);rw[show aA 1=[49] by decide+kernel]at ad;simp[eb,h48];apply cg;simp[h48];refine cd ad ?_;simp;refine cd (IJ (a:=b) (b:=z.natAbs%b) aa aa) ?_;simp[eb];have hq1:ay (z.natAbs/b+1)<=900000+1:=wq aa (by simp[yl])
   refine cd (mG Th (n:=z.natAbs/b+1) aa) ?_;simp;refine cd (mG Th (n:=b-z.natAbs%b) (Zf (ir (Nat.sub_le ..)) aa)) ?_;refine p9 ?_ ?_
   .rw[d1];rfl
   .rw[d2];rfl
theorem ack(hb:0<b)(hz:ay z.natAbs<900000)(hbd:ay b<900000):Ds F.ji [S (itoa z),S (itoa (-(b:Int)))] (.tup [S (itoa ((-z)/b)),S (itoa (-((-z)%b))),I 0]):=by
 apply Pn;have l1:=yx z 18 am;have l2:=yx (-(b:Int)) 18 am;have tl:=amX hb hz hbd
 have h48:¬itoa (-(b:Int))=[48]:=λh=>by
  have:=By (h.trans (show[48]=itoa 0 by decide+kernel));omega
 simp[ji,h48];refine cd l1 ?_;by_cases h1:iy z<=18
 .rw[ip h1];by_cases h2:iy (-(b:Int))<=18
  .rw[ip h2]at l2;simp;apply cg;simp;refine cd l2 ?_;have b1:=vI h1;have b2:=vI h2;simp only[Nat.reducePow]at b1 b2;have hbz:¬(-(b:Int))=0:=aa;have eb:∀x y:Bool,jE .neq (B x) (B y)=Wf (B (x !=y)):=λ_ _=>rfl
   have⟨n,hn⟩:=bD (z.natAbs);rw[<-hn]at b1;have hq:n/b<=n:=Yv ..;have hr:n%b<b:=Y7 _ hb;have ym:(-(b:Int))<0:=aa;by_cases hneg:z<0
   .have ez:z = -(n:Int):=aa;have q1:z.tdiv (-(b:Int))=((n/b:Nat):Int):=by rw[ez,Int.neg_tdiv,Int.tdiv_neg,V3,Zs aa,<-Int.natCast_ediv]
    have q2:z.tmod (-(b:Int)) = -((n%b:Nat):Int):=by rw[ez,Int.neg_tmod,Int.tmod_neg,Zt aa,<-Int.natCast_emod]
    have d1:(-z)/(b:Int)=((n/b:Nat):Int):=by rw[ez,V3,<-Int.natCast_ediv]
    have d2:(-z)%(b:Int)=((n%b:Nat):Int):=by rw[ez,V3,<-Int.natCast_emod]
    have⟨q,hqq⟩:=bD (n/b);have⟨r,hrr⟩:=bD (n%b);rw[<-hqq]at q1 d1 hq;rw[<-hrr]at q2 d2 hr
    have fin:∀h:Hp,bp DA.p h (V.fn F.iX [] []) [I q] λv45 h=>
      bp DA.p h (V.fn F.iX [] []) [I (-(r:Int))] λv46 h=>out (V.tup [S (itoa ((-z)/(b:Int))),S (itoa (-((-z)%(b:Int)))),I 0]) (V.tup [v45,v46,V.d (D.int iK.i64 0)]) h:=by
     intro h;simp;refine cd (kw (z:=(q:Int)) aa aa) ?_;simp;refine cd (kw (z:=-(r:Int)) aa aa) ?_;refine p9 ?_ ?_
     .rw[d1]
     .rw[d2]
    by_cases h0:r=0
    .subst h0;simp only[Int.natCast_zero,Int.neg_zero]at q2 fin;simp(disch:=try exact cC)[q1,q2,hbz];refine fE (l:=[I q,I 0]) (h:=[]) (λq=>by rfl) ?_;exact fin []
    .have r0:¬(-(r:Int))=0:=aa;have r1:(-(r:Int))<0:=aa;simp(disch:=try exact cC)[q1,q2,r0,r1,ym,eb,hbz];refine fE (l:=[I q,I (-(r:Int))]) (h:=[]) (λq=>by simp(disch:=omega) [r0,r1,ym,eb]) ?_;exact fin []
   .have ez:z=(n:Int):=aa;have⟨d1,d2⟩:=Iv (a:=n) hb;rw[<-ez]at d1 d2;have q1:z.tdiv (-(b:Int)) = -((n/b:Nat):Int):=by rw[ez,Int.tdiv_neg,Zs aa,<-Int.natCast_ediv]
    have q2:z.tmod (-(b:Int))=((n%b:Nat):Int):=by rw[ez,Int.tmod_neg,Zt aa,<-Int.natCast_emod]
    have⟨q,hqq⟩:=bD (n/b);have⟨r,hrr⟩:=bD (n%b);rw[<-hqq]at q1 d1 hq;rw[<-hrr]at q2 d1 d2 hr;by_cases h0:r=0
    .rw[ip h0]at d1 d2;subst h0;simp only[Int.natCast_zero]at q2;simp(disch:=try exact cC)[q1,q2,hbz];refine fE (l:=[I (-(q:Int)),I 0]) (h:=[]) (λq=>by rfl) ?_;simp;refine cd (kw (z:=-(q:Int)) aa aa) ?_;simp;refine cd (kw (z:=0) aa aa) ?_;refine p9 ?_ ?_
     .rw[d1]
     grind
    .rw[iN h0]at d1 d2;have r0:¬((r:Int))=0:=aa;have r1:¬(r:Int)<0:=aa;simp(disch:=try exact cC)[q1,q2,r0,r1,ym,eb,hbz];refine fE (l:=[I (-(q:Int)-1),I ((r:Int) + -(b:Int))]) (h:=[]) (λq=>by simp(disch:=omega) [r0,r1,ym]) ?_;simp;refine cd (kw (z:=-(q:Int)-1) aa aa) ?_;simp
     refine cd (kw (z:=(r:Int) + -(b:Int)) aa aa) ?_
     grind[p9]
  .rw[iN h2]at l2;simp;apply cg;simp;refine cd l2 ?_;trivial
 simp_all[iN,cg]
theorem Pq(hw0:w≠0)(hz:ay z.natAbs<900000)(hw:ay w.natAbs<900000):Ds F.ji [S (itoa z),S (itoa w)] (.tup [S (itoa (z.fdiv w)),S (itoa (z.fmod w)),I 0]):=by
 by_cases h:0<w
 .rw[Int.fdiv_eq_ediv_of_nonneg _ aa,Int.fmod_eq_emod_of_nonneg _ aa]
  grind[acl]
 .have⟨b,hb⟩:∃b:Nat,b=w.natAbs:=⟨_,rfl⟩;have e:w = -(b:Int):=aa;rw[<-hb]at hw;rw[e,(Ni z (b:=b) aa).1,(Ni z (b:=b) aa).2];exact ack aa hz hw
theorem aci(hz:ay z.natAbs<999999)(hw:ay w.natAbs<999999):Ds F.zF [S (itoa z),S (itoa w)] (S (itoa (z-w))):=by apply ab0;simp[zF];refine cd (Do aa) ?_;simp;refine cd (zI hz ae) ?_;exact eA (by rw[Int.sub_eq_add_neg])
end Go.Vm
