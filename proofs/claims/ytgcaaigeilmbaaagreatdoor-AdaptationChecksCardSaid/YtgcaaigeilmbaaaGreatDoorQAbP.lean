/- Lemmas. -/
import Derived.Test.YtgcaaigeilmbaaaGreatDoorQAbE
import Derived.ProofKit
import Derived.OpenShut
import Derived.Deep.DeepHandedRow
import Derived.Deep.Matrix
import Derived.Lib.LaidTab
import Derived.Test.YtgcaaigeilmbaaaGreatDoorTie
import Derived.Test.YtgcaaigeilmbaaaGreatDoorCards
set_option linter.unusedVariables false
set_option linter.unusedSimpArgs false
namespace Go.Vm
open Go Go.Am Go.Big
variable{j n m i e by_ cap fuel o:Nat}{α:Type}{f:Nat->Int}{clr:LnQ}{h h1:Hp}{d y u:D}{k:IntKind}{cs ds:LdQ}{p:LiQ}{ch:List LLQ}{wn wd:LuQ}{vs:LvQ}{t:TypeId}
def NP(j:Nat):IntKind:=if 6<=j∧j<51 then .i8 else if 73<=j∧j<119 then .i8 else .u8
def plD(f:Nat->Int)(j:Nat):D:=.int (NP j) (f j)
def S6(f:Nat->Int):LwQ:=(List.range 68).map fun j=>.d (plD f j)
def plB(f:Nat->Int):Nat×Bk:=(1,.vars (S6 f))
structure Ab(f:Nat->Int):Prop where
 u:∀j<120,NP j=.u8->0<=f j∧f j<=255
 s:∀j<120,NP j=.i8->-128<=f j∧f j<=127
theorem oF(h:(j<6∨51<=j)∧(j<73∨119<=j)):NP j=.u8:=by unfold NP;rw[if_neg aa,if_neg aa]
theorem uy(h:(6<=j∧j<51)∨(73<=j∧j<119)):NP j=.i8:=by
 unfold NP;by_cases g:6<=j∧j<51
 .rw[if_pos g]
 .rw[if_neg g,if_pos aa]
theorem om(g:Nat->α)(h:j<n):((List.range n).map g)[j]?=some (g j):=by simp[h]
theorem QA(g:Nat->α)(h:j+m<=n):cut ((List.range n).map g) j m=some ((List.range m).map fun i=>g (j+i)):=by
 simp only[cut,List.length_map,Yo];rw[if_pos h];congr 1;apply List.ext_getElem
 .grind
 simp
theorem aan{H:Hp}(hj:j<68):ld1 (plB f::H) (.ptr 0 1 j 68)=some (.d (plD f j)):=by grind[aj,plB,S6,ld1]
theorem aam{H:Hp}(hj:j+m<=68):ldA (plB f::H) m (.ptr 0 1 j 68)=some (.agg ((List.range m).map fun i=>.d (plD f (j+i)))):=by grind[aj,plB,S6,ldA,QA]
def ntF(f:Nat->Int)(i:Nat):Nat:=1+(f (1+i)).toNat%3
def rwF(f:Nat->Int)(j:Nat):LiQ:=[(f j).tmod 9,(f (j+1)).tmod 9,(f (j+2)).tmod 9]
def chF(f:Nat->Int)(i:Nat):LLQ:=(List.range (ntF f i)).map fun k=>rwF f (6+i*9+k*3)
theorem ZS(f:Nat->Int)(j:Nat):(rwF f j).length=3∧bdR 8 (rwF f j):=by
 refine⟨rfl,fun x hx=>?_⟩
 have h:∀z:Int,-8<=z.tmod 9∧z.tmod 9<=8:=fun z=>by
  have h1:=Xa z (b:=9) AF
  have h2 : -9<z.tmod 9:=by
   rcases Int.le_total 0 z with h|h
   .grind
   .have e:z.tmod 9 = -((-z).tmod 9):=by rw[Int.neg_tmod,Int.neg_neg]
    grind
  omega
 simp only[rwF,Zs,Ye,or_false]at hx;rcases hx with rfl|rfl|rfl<;>exact h _
def IE:Acc:=⟨5,0,1,.none⟩
def m1H(f:Nat->Int)(s1 s2 s3 s4 s5 s6 s7 s8 s9:Nat×Bk):Hp:=[plB f,s1,s2,s3,s4,s5,s6,s7,s8,s9]
def chC(f:Nat->Int)(i n:Nat):LdQ:=(List.range n).map fun k=>row (rwF f (6+i*9+k*3))
theorem abp(f:Nat->Int)(i n:Nat):chC f i (n+1)=chC f i n++[row (rwF f (6+i*9+n*3))]:=by simp[chC,Yp]
theorem aaL{f:Nat->Int}(P:Ab f){i:Nat}(hi:i<5){s1 s2 s3 s6 s7 s8 s9:Nat×Bk}(b1:offB [4] s1.2=true)(b2:offB [4] s2.2=true)(b3:offB [4] s3.2=true)(b6:offB [4] s6.2=true)(b7:offB [4] s7.2=true)(b8:offB [4] s8.2=true)(b9:offB [4] s9.2=true)
  (K:KL) (hK:K (.exit 2) [IE.v (ntF f i) (chC f i (ntF f i))] (m1H f s1 s2 s3 nnQ (IE.b (ntF f i) (chC f i (ntF f i))) s6 s7 s8 s9)) :
  ∀(m k:Nat),k+m=ntF f i ->
  lp (Ee (CX Y) (.ptr 0 1 0 68) (I i) (I (ntF f i))) [4] (m1H f s1 s2 s3 nnQ nnQ s6 s7 s8 s9) [IE.v k (chC f i k),I k] (m1H f s1 s2 s3 nnQ (IE.b k (chC f i k)) s6 s7 s8 s9) K
 | 0,k,hk=>by
  have ek:ntF f i=k:=aa;rw[ek]at hK ⊢;refine AJ ?_;simp[Ee];exact hK
 | m+1,k,hk=>by
  have h3:ntF f i<=3:=by have:=Yt (f (1+i)).toNat (show 0<3 by decide);unfold ntF;omega
  have ih:=aaL P hi (s1:=s1) (s2:=s2) (s3:=s3) (s6:=s6) (s7:=s7) (s8:=s8) (s9:=s9) b1 b2 b3 b6 b7 b8 b9 K hK m (k+1) aa;rw[abp]at ih;obtain⟨j,hj⟩:=nmQ (6+i*9+k*3);have hjl:j+3<=51:=aa;have k0:plD f j=.int .i8 (f j):=by unfold plD;rw[uy aa]
  have k1:plD f (j+1)=.int .i8 (f (j+1)):=by unfold plD;rw[uy aa]
  have k2:plD f (j+2)=.int .i8 (f (j+2)):=by unfold plD;rw[uy aa]
  have q0:=P.s j aa (uy aa);have q1:=P.s (j+1) aa (uy aa);have q2:=P.s (j+2) aa (uy aa)
  have r1:ldA (m1H f s1 s2 s3 nnQ (IE.b k (chC f i k)) s6 s7 s8 s9) 3 (.ptr 0 1 j 68)=some (.agg [.d (.int .i8 (f j)),.d (.int .i8 (f (j+1))),.d (.int .i8 (f (j+2)))]):=by
   have:=aam (f:=f) (H:=[s1,s2,s3,nnQ,IE.b k (chC f i k),s6,s7,s8,s9]) (j:=j) (m:=3) aa;rw[<-k0,<-k1,<-k2];exact this
  have r1':=(wV _ _ _ _ _ _).symm.trans r1;have c1:(chC f i k).length=k*1:=by simp[chC]
  have g:(k:Int)<ntF f i:=aa;have g5:(i:Int)<5:=aa;have gk3:(k:Int)<3:=aa;have rb:=ZS f j;obtain⟨x,hx⟩:=nmQ (f j);obtain⟨y,hy⟩:=nmQ (f (j+1));obtain⟨z,hz⟩:=nmQ (f (j+2));have er:rwF f j=[x.tmod 9,y.tmod 9,z.tmod 9]:=by rw[hx,hy,hz];rfl
  rw[<-hj,er]at ih;rw[<-hx,<-hy,<-hz]at r1 r1';rw[<-hx]at q0;rw[<-hy]at q1;rw[<-hz]at q2;have al:∀(q:kkQ)(u:PU q),rh (alD 4 1 [.int .i8 0,.int .i8 0,.int .i8 0] (m1H f s1 s2 s3 nnQ (IE.b k (chC f i k)) s6 s7 s8 s9)) q u=q (.ptr 4 1 0 3) (m1H f s1 s2 s3 (1,.data 1 [.int .i8 0,.int .i8 0,.int .i8 0] true false) (IE.b k (chC f i k)) s6 s7 s8 s9):=fun _ _=>rfl
  have sd:∀(q:kkQ)(u:PU q),rh (stD (m1H f s1 s2 s3 (1,.data 1 [.int .i8 0,.int .i8 0,.int .i8 0] true false) (IE.b k (chC f i k)) s6 s7 s8 s9) 3 (.ptr 4 1 0 3) (.agg [.d (.int .i8 x),.d (.int .i8 y),.d (.int .i8 z)])) q u=q .junk (m1H f s1 s2 s3 (1,.data 1 [.int .i8 x,.int .i8 y,.int .i8 z] true false) (IE.b k (chC f i k)) s6 s7 s8 s9):=fun _ _=>rfl
  have t0:ld1 (m1H f s1 s2 s3 (1,.data 1 [.int .i8 x,.int .i8 y,.int .i8 z] true false) (IE.b k (chC f i k)) s6 s7 s8 s9) (.ptr 4 1 0 3)=some (.d (.int .i8 x)):=rfl;have t1:ld1 (m1H f s1 s2 s3 (1,.data 1 [.int .i8 x,.int .i8 y,.int .i8 z] true false) (IE.b k (chC f i k)) s6 s7 s8 s9) (.ptr 4 1 1 3)=some (.d (.int .i8 y)):=rfl
  have t2:ld1 (m1H f s1 s2 s3 (1,.data 1 [.int .i8 x,.int .i8 y,.int .i8 z] true false) (IE.b k (chC f i k)) s6 s7 s8 s9) (.ptr 4 1 2 3)=some (.d (.int .i8 z)):=rfl;have t0':=(wW _ _ _ _ _).symm.trans t0;have t1':=(wW _ _ _ _ _).symm.trans t1;have t2':=(wW _ _ _ _ _).symm.trans t2
  have li3:∀H,BS 3 [D.int IntKind.i64 0] [(0,I (x.tmod 9)),(1,I (y.tmod 9)),(2,I (z.tmod 9))] H=some ([di (x.tmod 9),di (y.tmod 9),di (z.tmod 9)],H):=fun H=>by
   rfl
  have li1:∀H,BS 1 [nPQ] [(0,.d (.sl 3 [di (x.tmod 9),di (y.tmod 9),di (z.tmod 9)]))] H=some ([row [x.tmod 9,y.tmod 9,z.tmod 9]],H):=fun H=>by
   rfl
  refine AJ ?_;simp(disch:=try exact zN)[Ee,g,g5,gk3,<-hj,r1,r1',al,sd,t0,t0',t1,t1',t2,t2',li3,li1];refine D7 IE (L:=k) (k:=1) (cells:=chC f i k) (cs:=[row [x.tmod 9,y.tmod 9,z.tmod 9]]) aa rfl c1 rfl rfl (fun t e=>by cases e) aa AF ?_;have g2:biI .add (I k) (.d (.int .i64 1))=some (I ((k+1:Nat):Int)):=LO aa
  show bnd _ _
  rw[g2]
  have b0:offB [4] (plB f).2=true:=by
   have:∀(l:LnQ),dp [4] (l.map fun j=>V.d (plD f j))=true:=fun l=>by
    induction l with
    |nil=>rfl
    |cons x l ih=>trivial
   exact this _
  have o5:∀L c,offB [4] (IE.b L c).2=true:=fun L c=>Du _ _ _ _ rfl
  have o5':∀L c,E4 [4] (IE.v L c)=true:=fun L c=>Io _ _ _ _ rfl
  refine⟨?_,?_⟩
  .simp only[clean,dp,o5',m1H,List.set_cons_succ,List.set_cons_zero,FK,b0,b1,b2,b3,b6,b7,b8,b9,o5,Im,Yj,Yv,W7,IE];rfl
  trivial
def nlF(f:Nat->Int)(n:Nat):Nat:=1+(f 67).toNat/2^n%2
def lkF(f:Nat->Int)(n k:Nat):Lk:=((f (51+n*4+k*2)).tmod (ntF f n),(f (51+n*4+k*2+1)).tmod (ntF f (n+1)))
def lkL(f:Nat->Int)(n:Nat):List Lk:=(List.range (nlF f n)).map (lkF f n)
def ccC(f:Nat->Int)(n:Nat):LdQ:=(List.range n).map fun i=>qb (chF f i)
theorem abv(f:Nat->Int)(n:Nat):ccC f (n+1)=ccC f n++[qb (chF f n)]:=by simp[ccC,Yp]
def llC(f:Nat->Int)(n:Nat):LdQ:=(List.range n).map fun i=>lkD (lkL f i)
theorem aaR(f:Nat->Int)(n:Nat):llC f (n+1)=llC f n++[lkD (lkL f n)]:=by simp[llC,Yp]
def ID:Acc:=⟨6,0,1,.none⟩
def J2:Acc:=⟨8,0,2,.none⟩
def N5:Acc:=⟨9,0,1,.none⟩
def wB(f:Nat->Int)(i j:Nat):Nat×Bk:=(1,.vars [.ref 2 1 0 3 3 3,ID.v i (ccC f i),N5.v j (llC f j)])
def prB:Nat×Bk:=(1,.data 1 [di 2,di 3,di 5] true false)
def HN(f:Nat->Int)(n k:Nat):LdQ:=(List.range k).flatMap fun k=>lkC (lkF f n k)
theorem XG(f:Nat->Int)(n k:Nat):HN f n (k+1)=HN f n k++lkC (lkF f n k):=by simp[HN,Yp]
theorem QC(f:Nat->Int)(i:Nat):1<=ntF f i∧ntF f i<=3:=by grind[ntF]
theorem VN(f:Nat->Int)(i:Nat):1<=nlF f i∧nlF f i<=2:=by grind[nlF]
theorem Rn(f:Nat->Int)(clr:LnQ):offB clr (plB f).2=true:=by
 have:∀(l:LnQ),dp clr (l.map fun j=>V.d (plD f j))=true:=fun l=>by
  induction l with
  |nil=>rfl
  |cons x l ih=>trivial
 rfl
theorem Q1(f:Nat->Int)(h2:d9 clr 2=true)(h6:d9 clr 6=true)(h9:d9 clr 9=true):offB clr (wB f i j).2=true:=by grind[E4,wB,offB,dp,Io,ID,N5]
theorem aaK{f:Nat->Int}(P:Ab f){n:Nat}(hn:n<4){s1 s4 s5 s9:Nat×Bk}(b1:offB [7] s1.2=true)(b4:offB [7] s4.2=true)(b5:offB [7] s5.2=true)(b9:offB [7] s9.2=true){cv:V}(hcv:fL cv=some (I (ntF f (n+1))))
  (K:KL) (hK:K (.exit 4) [J2.v (nlF f n) (HN f n (nlF f n))] (m1H f s1 prB (wB f (n+2) n) s4 s5 (ID.b (n+2) (ccC f (n+2))) nnQ (J2.b (nlF f n) (HN f n (nlF f n))) s9)) :
  ∀(m k:Nat),k+m=nlF f n ->
  lp (Ed (CX Y) (.ptr 0 1 0 68) (.ptr 3 1 0 3) (I (n+1:Nat)) cv (I (nlF f n))) [7] (m1H f s1 prB (wB f (n+2) n) s4 s5 (ID.b (n+2) (ccC f (n+2))) nnQ nnQ s9) [J2.v k (HN f n k),I k]
   (m1H f s1 prB (wB f (n+2) n) s4 s5 (ID.b (n+2) (ccC f (n+2))) nnQ (J2.b k (HN f n k)) s9) K
 | 0,k,hk=>by
  have ek:nlF f n=k:=aa;rw[ek]at hK ⊢;refine AJ ?_;simp[Ed];exact hK
 | m+1,k,hk=>by
  obtain⟨l0,l2⟩:=VN f n;obtain⟨n0,n3⟩:=QC f n;obtain⟨m0,m3⟩:=QC f (n+1);have ih:=aaK P hn (s1:=s1) (s4:=s4) (s5:=s5) (s9:=s9) b1 b4 b5 b9 hcv K hK m (k+1) aa;rw[XG]at ih;obtain⟨j,hj⟩:=nmQ (51+n*4+k*2);have hjl:j+2<=67:=aa;have k0:plD f j=.int .u8 (f j):=by unfold plD;rw[oF aa]
  have k1:plD f (j+1)=.int .u8 (f (j+1)):=by unfold plD;rw[oF aa]
  have q0:=P.u j aa (oF aa);have q1:=P.u (j+1) aa (oF aa)
  have r1:ldA (m1H f s1 prB (wB f (n+2) n) s4 s5 (ID.b (n+2) (ccC f (n+2))) nnQ (J2.b k (HN f n k)) s9) 2 (.ptr 0 1 j 68)=some (.agg [.d (.int .u8 (f j)),.d (.int .u8 (f (j+1)))]):=by
   have:=aam (f:=f) (H:=[s1,prB,wB f (n+2) n,s4,s5,ID.b (n+2) (ccC f (n+2)),nnQ,J2.b k (HN f n k),s9]) (j:=j) (m:=2) aa;rw[<-k0,<-k1];exact this
  have r1':=(wV _ _ _ _ _ _).symm.trans r1;have c1:(HN f n k).length=k*2:=by unfold HN;rw[CB (fun k=>lkC (lkF f n k)) (n:=2) (fun _=>rfl)];simp
  have g:(k:Int)<nlF f n:=aa;have gn4:(n:Int)<4:=aa;have gk2:(k:Int)<2:=aa;have gn:((n:Int)+1)-1=(n:Int):=aa;obtain⟨x,hx⟩:=nmQ (f j);obtain⟨y,hy⟩:=nmQ (f (j+1));have el:lkF f n k=(x.tmod (ntF f n),y.tmod (ntF f (n+1))):=by unfold lkF;rw[<-hj,hx,hy]
  rw[el]at ih;rw[<-hx,<-hy]at r1 r1';rw[<-hx]at q0;rw[<-hy]at q1;obtain⟨s8,hs8⟩:∃s,s=J2.b k (HN f n k):=⟨_,rfl⟩;obtain⟨v8,hv8⟩:∃s,s=J2.v k (HN f n k):=⟨_,rfl⟩;rw[<-hs8]at r1 r1'
  have fin:∀(s7:Nat×Bk)(q:kkQ)(u:PU q),q (J2.v (k+1) (HN f n k++lkC (x.tmod (ntF f n),y.tmod (ntF f (n+1))))) (m1H f s1 prB (wB f (n+2) n) s4 s5 (ID.b (n+2) (ccC f (n+2))) s7 (J2.b (k+1) (HN f n k++lkC (x.tmod (ntF f n),y.tmod (ntF f (n+1))))) s9) ->
    rh (apV false 8 2 16 v8 (.d (.sl 1 [di (x.tmod (ntF f n)),di (y.tmod (ntF f (n+1)))])) (m1H f s1 prB (wB f (n+2) n) s4 s5 (ID.b (n+2) (ccC f (n+2))) s7 s8 s9)) q u:=fun s7 q u hq=>by
   rw[hs8,hv8];exact D7 J2 (L:=k) (k:=1) (cells:=HN f n k) (cs:=lkC (x.tmod (ntF f n),y.tmod (ntF f (n+1)))) aa rfl c1 rfl rfl (fun t e=>by cases e) aa AF hq
  obtain⟨s6,hs6⟩:∃s,s=ID.b (n+2) (ccC f (n+2)):=⟨_,rfl⟩;obtain⟨v6,hv6⟩:∃s,s=ID.v (n+2) (ccC f (n+2)):=⟨_,rfl⟩;obtain⟨s3,hs3⟩:∃s,s=wB f (n+2) n:=⟨_,rfl⟩;have b3:offB [7] s3.2=true:=by rw[hs3];exact Q1 f rfl rfl rfl
  have b6:offB [7] s6.2=true:=by rw[hs6];exact Du _ _ _ _ rfl
  have r3:∀s7,ld1 (m1H f s1 prB s3 s4 s5 s6 s7 s8 s9) (.ptr 3 1 1 3)=some v6:=fun s7=>by rw[hs3,hv6];rfl
  have r3':=fun s7=>(wW _ _ _ _ _).symm.trans (r3 s7)
  have hv:v6=.ref 6 1 0 (n+2) (n+2) (n+2):=by
   have:(ccC f (n+2)).length=n+2:=by simp[ccC]
   rw[hv6];simp only[Acc.v,ID,this]
  have r6:∀s7,∃w,ixV (m1H f s1 prB s3 s4 s5 s6 s7 s8 s9) 1 v6 (I n)=some w∧ld1 (m1H f s1 prB s3 s4 s5 s6 s7 s8 s9) w=some (.d (qb (chF f n))):=fun s7=>by
   have hs:(m1H f s1 prB s3 s4 s5 s6 s7 s8 s9)[6]?=some (1,.data 1 ((List.range (n+2)).map fun i=>qb (chF f i)) false false):=by rw[hs6];rfl
   have x1:=ixB (f:=fun i=>qb (chF f i)) hs (n:=n+2) mR (i:=n) aa .i64;have x2:=ldB (f:=fun i=>qb (chF f i)) 0 hs (n:=n+2) mR (i:=n) aa;have e:nth 0 (List.range (n+2)) n=n:=by rw[dM _ _ _ mR];simp
   grind
  have lmx:fL (.d (qb (chF f n)))=some (I (ntF f n)):=by rw[vp];simp[chF]
  rw[<-hs6,<-hs3]at fin r1 r1' ih;rw[<-hs8,<-hv8,<-hs6,<-hs3];have al:∀(q:kkQ)(u:PU q),rh (alD 7 1 [.int .u8 0,.int .u8 0] (m1H f s1 prB s3 s4 s5 s6 nnQ s8 s9)) q u=q (.ptr 7 1 0 2) (m1H f s1 prB s3 s4 s5 s6 (1,.data 1 [.int .u8 0,.int .u8 0] true false) s8 s9):=fun _ _=>rfl
  have sd:∀(q:kkQ)(u:PU q),rh (stD (m1H f s1 prB s3 s4 s5 s6 (1,.data 1 [.int .u8 0,.int .u8 0] true false) s8 s9) 2 (.ptr 7 1 0 2) (.agg [.d (.int .u8 x),.d (.int .u8 y)])) q u=q .junk (m1H f s1 prB s3 s4 s5 s6 (1,.data 1 [.int .u8 x,.int .u8 y] true false) s8 s9):=fun _ _=>rfl
  obtain⟨s7,hs7⟩:∃s:Nat×Bk,s=(1,.data 1 [.int .u8 x,.int .u8 y] true false):=⟨_,rfl⟩;have t0:ld1 (m1H f s1 prB s3 s4 s5 s6 s7 s8 s9) (.ptr 7 1 0 2)=some (.d (.int .u8 x)):=by rw[hs7];rfl
  have t1:ld1 (m1H f s1 prB s3 s4 s5 s6 s7 s8 s9) (.ptr 7 1 1 2)=some (.d (.int .u8 y)):=by rw[hs7];rfl
  have t0':=(wW _ _ _ _ _).symm.trans t0;have t1':=(wW _ _ _ _ _).symm.trans t1;rw[<-hs7]at sd;obtain⟨w,w1,w2⟩:=r6 s7;obtain⟨p,hp⟩:∃p:Int,p=ntF f n:=⟨_,rfl⟩;obtain⟨o,ho⟩:∃p:Int,p=ntF f (n+1):=⟨_,rfl⟩;have p0:p≠0:=aa;have o0:o≠0:=aa;rw[<-hp]at lmx fin ih;rw[<-ho]at hcv fin ih
  have bl:bld [(0,1),(1,1)] [.int .i64 0,.int .i64 0] [(0,I (x.tmod p)),(1,I (y.tmod o))]=some (.agg [I (x.tmod p),I (y.tmod o)]):=rfl
  have li1:∀H,BS 1 [D.int IntKind.i64 0,D.int IntKind.i64 0] [(0,.agg [I (x.tmod p),I (y.tmod o)])] H=some ([di (x.tmod p),di (y.tmod o)],H):=fun H=>by
   rfl
  refine AJ ?_;simp(disch:=try exact zN)[Ed,g,gn,gn4,gk2,<-hj,r1,r1',al,sd,t0,t0',t1,t1',r3,r3',w1,w2,lmx,hcv,p0,o0,li1];refine fin _ _ .mk ?_;have g2:biI .add (I k) (.d (.int .i64 1))=some (I ((k+1:Nat):Int)):=LO aa
  show bnd _ _
  rw[g2];have o8:∀L c,offB [7] (J2.b L c).2=true:=fun L c=>Du _ _ _ _ rfl
  have o8':∀L c,E4 [7] (J2.v L c)=true:=fun L c=>Io _ _ _ _ rfl
  have bp:offB [7] prB.2=true:=rfl;refine⟨?_,?_⟩
  .simp only[clean,dp,o8',m1H,FK,Rn,bp,b1,b3,b4,b5,b6,b9,o8,Im,Yj,Yv,W7];rfl
  trivial
theorem afX{a:Nat}(h:a<256):biI .and (.d (.int .u8 a)) (.d (.int .u8 1))=some (.d (.int .u8 ((a%2:Nat):Int))):=by
 have ea:(BitVec.ofInt 8 (a:Int)).toNat=a:=by simp[BitVec.toNat_ofInt];omega
 have eb:(BitVec.ofInt 8 (1:Int)).toNat=1:=AF;have e:(BitVec.ofInt 8 (a:Int)&&&BitVec.ofInt 8 1).toNat=a%2:=by rw[BitVec.toNat_and,ea,eb,Nat.and_one_is_mod]
 show Fi (some (Value.int .u8 (IntKind.wrap .u8 ((BitVec.ofInt 8 (a:Int)&&&BitVec.ofInt 8 1).toNat:Int))))=_
 rw[e,wrap_u8' aa aa];rfl
def m0K(f:Nat->Int)(z:Nat×Bk)(i:Nat):Hp:=m1H f z prB (wB f i (i-1)) nnQ nnQ (ID.b i (ccC f i)) nnQ nnQ (N5.b (i-1) (llC f (i-1)))
theorem ac6(f:Nat->Int)(i:Nat):D.sl (ntF f i) (chC f i (ntF f i))=qb (chF f i):=by simp only[qb,chF,List.length_map,Yo,Yg];rfl
theorem aaS(f:Nat->Int)(n:Nat):D.sl (nlF f n) (HN f n (nlF f n))=lkD (lkL f n):=by simp[lkD,lkL,HN,List.flatMap_map]
theorem aaM{f:Nat->Int}(P:Ab f){z:Nat×Bk}{N:Nat}(hN:N<=5)(b1:∀c,offB c z.2=true)(K:KL)(hK:K (.exit 0) [] (m0K f z N)) :
  ∀(m i:Nat),i+m=N ->
  lp (Ef (CX Y) (.ptr 0 1 0 68) (.ptr 3 1 0 3) (I N)) [4,5,7,8] (m0K f z 0) [I i] (m0K f z i) K
 | 0,i,hi=>by
  have ei:N=i:=aa;rw[ei]at hK ⊢;refine AJ ?_;simp[Ef];exact hK
 | m+1,i,hi=>by
  obtain⟨n0,n3⟩:=QC f i;have ih:=aaM P hN b1 K hK m (i+1) aa;have hi5:i<5:=aa;have g:(i:Int)<N:=aa;have g5:(i:Int)<5:=aa;have k1:plD f (1+i)=.int .u8 (f (1+i)):=by unfold plD;rw[oF aa]
  have q1:=P.u (1+i) aa (oF aa)
  have ra:∀s1 s2 s3 s4 s5 s6 s7 s8 s9,ld1 (m1H f s1 s2 s3 s4 s5 s6 s7 s8 s9) (.ptr 0 1 (1+i) 68)=some (.d (.int .u8 (f (1+i)))):=fun s1 s2 s3 s4 s5 s6 s7 s8 s9=>by
   rw[<-k1];exact aan aa
  have ra':=fun s1 s2 s3 s4 s5 s6 s7 s8 s9=>(wW _ _ _ _ _).symm.trans (ra s1 s2 s3 s4 s5 s6 s7 s8 s9)
  have tm:(f (1+i)).tmod 3=(f (1+i))%3:=Y3 q1.1;have en:1+(f (1+i))%3=((ntF f i:Nat):Int):=by unfold ntF;omega
  have q1':0<=f (1+i)%3∧f (1+i)%3<=2:=aa;have l1:=fun s1 s2 s3 s6 s7 s8 s9 b1 b2 b3 b6 b7 b8 b9 K hK=>aaL P hi5 (s1:=s1) (s2:=s2) (s3:=s3) (s6:=s6) (s7:=s7) (s8:=s8) (s9:=s9) b1 b2 b3 b6 b7 b8 b9 K hK (ntF f i) 0 aa
  obtain⟨s6,hs6⟩:∃s,s=ID.b i (ccC f i):=⟨_,rfl⟩;obtain⟨v6,hv6⟩:∃s,s=ID.v i (ccC f i):=⟨_,rfl⟩;obtain⟨s9,hs9⟩:∃s,s=N5.b (i-1) (llC f (i-1)):=⟨_,rfl⟩;obtain⟨s3,hs3⟩:∃s,s=wB f i (i-1):=⟨_,rfl⟩;have eH:m0K f z i=m1H f z prB s3 nnQ nnQ s6 nnQ nnQ s9:=by rw[hs3,hs6,hs9];rfl
  have c5:(chC f i (ntF f i)).length=ntF f i*1:=by simp[chC]
  obtain⟨v5,hv5⟩:∃v,v=IE.v (ntF f i) (chC f i (ntF f i)):=⟨_,rfl⟩;obtain⟨s5,hs5⟩:∃v,v=IE.b (ntF f i) (chC f i (ntF f i)):=⟨_,rfl⟩;have lv5:fL v5=some (I (ntF f i)):=by rw[hv5];exact Tl ..
  obtain⟨fr5,td⟩:=GP IE (h:=m1H f z prB s3 nnQ s5 s6 nnQ nnQ s9) (L:=ntF f i) (c:=chC f i (ntF f i)) (by rw[hs5];rfl) c5;rw[if_neg aa,ac6,<-hv5]at td;obtain⟨s5',hs5'⟩:∃s:Nat×Bk,s=(IE.e+1,.data IE.n (chC f i (ntF f i)) false fr5):=⟨_,rfl⟩
  have td':toD (m1H f z prB s3 nnQ s5 s6 nnQ nnQ s9) v5=some (qb (chF f i),m1H f z prB s3 nnQ s5' s6 nnQ nnQ s9):=by rw[td,hs5'];rfl
  have li5:=M2 td' (by rw[hv5];exact Ht ..);have r6:ld1 (m1H f z prB s3 nnQ s5 s6 nnQ nnQ s9) (.ptr 3 1 1 3)=some v6:=by rw[hs3,hv6];rfl
  have r6':=(wW _ _ _ _ _).symm.trans r6;have cc:(ccC f i).length=i*1:=by simp[ccC]
  obtain⟨v6',hv6'⟩:∃v,v=ID.v (i+1) (ccC f (i+1)):=⟨_,rfl⟩;obtain⟨s6',hs6'⟩:∃v,v=ID.b (i+1) (ccC f (i+1)):=⟨_,rfl⟩;obtain⟨s3',hs3'⟩:∃s,s=wB f (i+1) (i-1):=⟨_,rfl⟩
  have ap6:∀(q:kkQ)(u:PU q),q v6' (m1H f z prB s3 nnQ s5' s6' nnQ nnQ s9)->rh (apV false 6 1 24 v6 (.d (.sl 1 [qb (chF f i)])) (m1H f z prB s3 nnQ s5' s6 nnQ nnQ s9)) q u:=fun q u hq=>by
   rw[hv6,hs6];refine D7 ID (L:=i) (k:=1) (cells:=ccC f i) (cs:=[qb (chF f i)]) aa rfl cc rfl rfl (fun t e=>by cases e) aa AF ?_;rw[<-abv,<-hv6'];rw[hs6']at hq;exact hq
  have sd6:∀(q:kkQ)(u:PU q),rh (stD (m1H f z prB s3 nnQ s5' s6' nnQ nnQ s9) 1 (.ptr 3 1 1 3) v6') q u=q .junk (m1H f z prB s3' nnQ s5' s6' nnQ nnQ s9):=fun q u=>by
   rw[hs3,hs3',hv6'];rfl
  have o3:∀clr,d9 clr 2=true->d9 clr 6=true->d9 clr 9=true->offB clr s3.2=true:=fun clr h2 h6 h9=>by rw[hs3];exact Q1 f h2 h6 h9
  have o6:∀clr,offB clr s6.2=true:=fun clr=>by rw[hs6];exact Du _ _ _ _ rfl
  have o9:∀clr,offB clr s9.2=true:=fun clr=>by rw[hs9];exact Du _ _ _ _ rfl
  have o6':∀clr,offB clr s6'.2=true:=fun clr=>by rw[hs6'];rfl
  have o5':∀clr,offB clr s5'.2=true:=fun clr=>by rw[hs5'];rfl
  have g2:biI .add (I i) (.d (.int .i64 1))=some (I ((i+1:Nat):Int)):=LO aa;have e0:∀s s5 s6 s7 s8 s9,aL [4,5,7,8] 0 (m0K f z 0) (m1H f z prB s nnQ s5 s6 s7 s8 s9)=m1H f z prB s nnQ nnQ s6 nnQ nnQ s9:=fun s s5 s6 s7 s8 s9=>rfl
  have bp:∀clr,offB clr prB.2=true:=fun _=>rfl
  rw[eH];refine AJ ?_;simp[Ef,g];refine AN ?_;simp(disch:=try exact zN)[g5,ra,ra',tm,en];refine lo (l1 _ _ _ _ _ _ _ (b1 _) (bp _) (o3 _ rfl rfl rfl) (o6 _) rfl rfl (o9 _) _ ?_);rw[<-hv5,<-hs5];simp[r6,r6',li5];refine ap6 _ .mk ?_;by_cases h0:i=0
  .subst h0;simp[sd6];refine⟨?_,?_⟩
   .have o3':∀clr,d9 clr 2=true->d9 clr 6=true->d9 clr 9=true->offB clr s3'.2=true:=fun clr h2 h6 h9=>by rw[hs3'];exact Q1 f h2 h6 h9
    simp only[clean,dp,m1H,FK,Rn,bp,b1,o3' [4,5,7,8] rfl rfl rfl,o5',o6',o9,Im,Yj,Yv,W7];rfl
   .rw[e0];rw[hs3',hs6',hs9];exact ih
  .obtain⟨n,rfl⟩:∃n,i=n+1:=⟨i-1,aa⟩;have gz:¬((n+1:Nat):Int)=0:=aa;obtain⟨l0,l2⟩:=VN f n;have k67:plD f 67=.int .u8 (f 67):=by unfold plD;rw[oF aa]
   have q67:=P.u 67 aa (oF aa);obtain⟨mm,hmm⟩:∃mm:Nat,f 67=mm:=⟨(f 67).toNat,aa⟩
   have rb:ld1 (m1H f z prB s3' nnQ s5' s6' nnQ nnQ s9) (.ptr 0 1 67 68)=some (.d (.int .u8 mm)):=by
    rw[<-hmm,<-k67];exact aan aa
   have rb':=(wW _ _ _ _ _).symm.trans rb;have gn:((n:Int)+1)-1=(n:Int):=aa;have sh:biI .shr (.d (.int .u8 mm)) (I n)=some (.d (.int .u8 ((mm/2^n:Nat):Int))):=OS (by show n<=8;omega);have hlt:mm/2^n<256:=Yx (Yk _ _) aa;have an:=afX hlt;have hcst:((mm/2^n:Nat):Int)=(mm:Int)/2^n:=mR
   have an':biI .and (.d (.int .u8 ((mm:Int)/2^n))) (.d (.int .u8 1))=some (.d (.int .u8 ((mm/2^n%2:Nat):Int))):=by rw[<-hcst];exact an
   obtain⟨r2,hr2⟩:∃r2:Int,r2=((mm/2^n%2:Nat):Int):=⟨_,rfl⟩
   have en2:(1:Int)+((mm/2^n%2:Nat):Int)=((nlF f n:Nat):Int):=by
    unfold nlF;rw[hmm,Int.toNat_natCast];omega
   have hm2:=Yt (mm/2^n) (show 0<2 by decide);rw[<-hr2]at an' en2;have hr2b:0<=r2∧r2<=1:=aa;obtain⟨v9,hv9⟩:∃s,s=N5.v n (llC f n):=⟨_,rfl⟩;have hs9':s9=N5.b n (llC f n):=hs9;have hs3n:s3'=wB f (n+2) n:=hs3';have hs6n:s6'=ID.b (n+2) (ccC f (n+2)):=hs6'
   have l2:=fun K hK=>aaK P (n:=n) aa (s1:=z) (s4:=nnQ) (s5:=s5') (s9:=s9) (b1 _) rfl (o5' _) (o9 _) lv5 K hK (nlF f n) 0 aa
   rw[<-hs3n,<-hs6n]at l2;have c8:(HN f n (nlF f n)).length=nlF f n*2:=by unfold HN;rw[CB (fun k=>lkC (lkF f n k)) (n:=2) (fun _=>rfl)];simp
   obtain⟨v8,hv8⟩:∃v,v=J2.v (nlF f n) (HN f n (nlF f n)):=⟨_,rfl⟩;obtain⟨s8,hs8⟩:∃v,v=J2.b (nlF f n) (HN f n (nlF f n)):=⟨_,rfl⟩;rw[<-hv8,<-hs8]at l2;obtain⟨fr8,td8⟩:=GP J2 (h:=m1H f z prB s3' nnQ s5' s6' nnQ s8 s9) (L:=nlF f n) (c:=HN f n (nlF f n)) (by rw[hs8];rfl) c8;rw[if_neg aa,aaS,<-hv8]at td8
   obtain⟨s8',hs8'⟩:∃s:Nat×Bk,s=(J2.e+1,.data J2.n (HN f n (nlF f n)) false fr8):=⟨_,rfl⟩;have td8':toD (m1H f z prB s3' nnQ s5' s6' nnQ s8 s9) v8=some (lkD (lkL f n),m1H f z prB s3' nnQ s5' s6' nnQ s8' s9):=by rw[td8,hs8'];rfl
   have li8:=M2 td8' (by rw[hv8];exact Ht ..);have r9:ld1 (m1H f z prB s3' nnQ s5' s6' nnQ s8 s9) (.ptr 3 1 2 3)=some v9:=by rw[hs3',hv9];rfl
   have r9':=(wW _ _ _ _ _).symm.trans r9;have cl:(llC f n).length=n*1:=by simp[llC]
   obtain⟨v9',hv9'⟩:∃v,v=N5.v (n+1) (llC f (n+1)):=⟨_,rfl⟩;obtain⟨s9',hs9'2⟩:∃v,v=N5.b (n+1) (llC f (n+1)):=⟨_,rfl⟩;obtain⟨s3'',hs3''⟩:∃s,s=wB f (n+2) (n+1):=⟨_,rfl⟩
   have ap9:∀(q:kkQ)(u:PU q),q v9' (m1H f z prB s3' nnQ s5' s6' nnQ s8' s9')->rh (apV false 9 1 24 v9 (.d (.sl 1 [lkD (lkL f n)])) (m1H f z prB s3' nnQ s5' s6' nnQ s8' s9)) q u:=fun q u hq=>by
    rw[hv9,hs9'];refine D7 N5 (L:=n) (k:=1) (cells:=llC f n) (cs:=[lkD (lkL f n)]) aa rfl cl rfl rfl (fun t e=>by cases e) aa AF ?_;rw[<-aaR,<-hv9'];rw[hs9'2]at hq;exact hq
   have sd9:∀(q:kkQ)(u:PU q),rh (stD (m1H f z prB s3' nnQ s5' s6' nnQ s8' s9') 1 (.ptr 3 1 2 3) v9') q u=q .junk (m1H f z prB s3'' nnQ s5' s6' nnQ s8' s9'):=fun q u=>by
    rw[hs3n,hs3'',hv9'];rfl
   simp(disch:=try exact zN)[sd6,gz,rb,rb',gn,sh,an',en2];refine lo (l2 _ ?_);simp[r9,r9',li8];refine ap9 _ .mk ?_;simp(disch:=try exact zN)[sd9];have o3':∀clr,d9 clr 2=true->d9 clr 6=true->d9 clr 9=true->offB clr s3''.2=true:=fun clr h2 h6 h9=>by rw[hs3''];exact Q1 f h2 h6 h9
   have o8':∀clr,offB clr s8'.2=true:=fun clr=>by rw[hs8'];rfl
   have o9':∀clr,offB clr s9'.2=true:=fun clr=>by rw[hs9'2];rfl
   refine⟨?_,?_⟩
   .simp only[clean,dp,m1H,FK,Rn,bp,b1,o3' [4,5,7,8] rfl rfl rfl,o5',o6',o8',o9',Im,Yj,Yv,W7];rfl
   .rw[e0];rw[hs3'',hs6',hs9'2];have e1:((n+1+1:Nat):Int)=(n:Int)+1+1:=aa;trivial
theorem aaw{h2 h3:Hp}{a b c va vb vc:V}(ha:cX h a=some (va,h1))(hb:cX h1 b=some (vb,h2))(hc:cX h2 c=some (vc,h3)):out (.agg [va,vb,vc]) (.agg [a,b,c]) h:=
 ⟨h3,by simp_all[cX,AT]⟩
def BW(f:Nat->Int):Nat:=1+(f 0).toNat%5
def Gg(f:Nat->Int):List LLQ:=(List.range (BW f)).map (chF f)
def IQ(f:Nat->Int):List (List Lk):=(List.range (BW f-1)).map (lkL f)
theorem XE(P:Ab f):CP Y F.De [.agg (S6 f)] (.agg (wkC [2,3,5] (Gg f) (IQ f))):=by
 refine K9 ?_;have k0:plD f 0=.int .u8 (f 0):=by unfold plD;rw[oF aa]
 have q0:=P.u 0 aa (oF aa);have tm:(f 0).tmod 5=(f 0)%5:=Y3 q0.1;have en:1+(f 0)%5=((BW f:Nat):Int):=by unfold BW;omega
 have hN:1<=BW f∧BW f<=5:=by have:=Yt (f 0).toNat (show 0<5 by decide);unfold BW;omega
 have q0':0<=f 0%5∧f 0%5<=4:=aa;obtain⟨z,hz⟩:∃z:Nat×Bk,z=(1,.vars [.d nPQ,.d nPQ,.d nPQ]):=⟨_,rfl⟩
 have bx:∀(q:kkQ)(u:PU q),rh (oR 0 (.agg (S6 f)) [nnQ,nnQ,nnQ,nnQ,nnQ,nnQ,nnQ,nnQ,nnQ,nnQ]) q u=q (.ptr 0 1 0 68) [plB f,nnQ,nnQ,nnQ,nnQ,nnQ,nnQ,nnQ,nnQ,nnQ]:=fun q u=>by
  have hl:(S6 f).length=68:=by simp[S6]
  rfl
 have a1:∀(q:kkQ)(u:PU q),rh (alV 1 [.d nPQ,.d nPQ,.d nPQ] [plB f,nnQ,nnQ,nnQ,nnQ,nnQ,nnQ,nnQ,nnQ,nnQ]) q u=q (.ptr 1 1 0 3) (m1H f z nnQ nnQ nnQ nnQ nnQ nnQ nnQ nnQ):=fun q u=>by rw[hz];rfl
 have l2:∀(q:kkQ)(u:PU q),rh (mA 2 3 [.int .i64 0] [(0,(.d (.int .i64 2))),(1,(.d (.int .i64 3))),(2,(.d (.int .i64 5)))] (m1H f z nnQ nnQ nnQ nnQ nnQ nnQ nnQ nnQ)) q u=q (.ref 2 1 0 3 3 3) (m1H f z prB nnQ nnQ nnQ nnQ nnQ nnQ nnQ):=fun _ _=>rfl
 have a3:∀(q:kkQ)(u:PU q),rh (alV 3 [.d nPQ,.d nPQ,.d nPQ] (m1H f z prB nnQ nnQ nnQ nnQ nnQ nnQ nnQ)) q u=q (.ptr 3 1 0 3) (m1H f z prB (1,.vars [.d nPQ,.d nPQ,.d nPQ]) nnQ nnQ nnQ nnQ nnQ nnQ):=fun _ _=>rfl
 have s3:∀(q:kkQ)(u:PU q),rh (stD (m1H f z prB (1,.vars [.d nPQ,.d nPQ,.d nPQ]) nnQ nnQ nnQ nnQ nnQ nnQ) 3 (.ptr 3 1 0 3) (.agg [.ref 2 1 0 3 3 3,.d nPQ,.d nPQ])) q u=q .junk (m0K f z 0):=fun _ _=>rfl
 have r0:ld1 (m0K f z 0) (.ptr 0 1 0 68)=some (.d (.int .u8 (f 0))):=by rw[<-k0];exact aan aa
 have r0':=(wW _ _ _ _ _).symm.trans r0;have cc:(ccC f (BW f)).length=BW f*1:=by simp[ccC]
 have cl:(llC f (BW f-1)).length=(BW f-1)*1:=by simp[llC]
 obtain⟨v6,hv6⟩:∃v,v=ID.v (BW f) (ccC f (BW f)):=⟨_,rfl⟩;obtain⟨v9,hv9⟩:∃v,v=N5.v (BW f-1) (llC f (BW f-1)):=⟨_,rfl⟩;have k6:okV v6=true:=by rw[hv6];obtain⟨m,hm⟩:∃m,BW f=m+1:=⟨BW f-1,aa⟩;rw[hm];rfl
 have k9:okV v9=true:=by rw[hv9];cases(BW f-1)<;>rfl
 obtain⟨s6,hs6⟩:∃s,s=ID.b (BW f) (ccC f (BW f)):=⟨_,rfl⟩;obtain⟨s9,hs9⟩:∃s,s=N5.b (BW f-1) (llC f (BW f-1)):=⟨_,rfl⟩;have e3:wB f (BW f) (BW f-1)=(1,.vars [.ref 2 1 0 3 3 3,v6,v9]):=by rw[hv6,hv9];rfl
 have t2:∀x s6 s9,toD (m1H f x prB (1,.vars [.ref 2 1 0 3 3 3,v6,v9]) nnQ nnQ s6 nnQ nnQ s9) (.ref 2 1 0 3 3 3)=some (row [2,3,5],m1H f x (1,.data 1 [di 2,di 3,di 5] true true) (1,.vars [.ref 2 1 0 3 3 3,v6,v9]) nnQ nnQ s6 nnQ nnQ s9):=fun _ _ _=>rfl
 have t6:∀x y s9,∃s6',toD (m1H f x y (1,.vars [.ref 2 1 0 3 3 3,v6,v9]) nnQ nnQ s6 nnQ nnQ s9) v6=some (.sl (BW f) (ccC f (BW f)),m1H f x y (1,.vars [.ref 2 1 0 3 3 3,v6,v9]) nnQ nnQ s6' nnQ nnQ s9):=fun x y s9=>by
  obtain⟨fr,td⟩:=GP ID (h:=m1H f x y (1,.vars [.ref 2 1 0 3 3 3,v6,v9]) nnQ nnQ s6 nnQ nnQ s9) (L:=BW f) (c:=ccC f (BW f)) (by rw[hs6];rfl) cc;rw[if_neg aa,<-hv6]at td;exact⟨_,td⟩
 have t9:∀x y s6,∃s9',toD (m1H f x y (1,.vars [.ref 2 1 0 3 3 3,v6,v9]) nnQ nnQ s6 nnQ nnQ s9) v9=some (.sl (BW f-1) (llC f (BW f-1)),m1H f x y (1,.vars [.ref 2 1 0 3 3 3,v6,v9]) nnQ nnQ s6 nnQ nnQ s9'):=fun x y s6=>by
  obtain⟨fr,td⟩:=GP N5 (h:=m1H f x y (1,.vars [.ref 2 1 0 3 3 3,v6,v9]) nnQ nnQ s6 nnQ nnQ s9) (L:=BW f-1) (c:=llC f (BW f-1)) (by rw[hs9];rfl) cl;rw[<-hv9]at td;by_cases h:BW f-1=0
  .grind
  .rw[if_neg h]at td;exact⟨_,td⟩
 have key:∀x:Nat×Bk,out (.agg (wkC [2,3,5] (Gg f) (IQ f))) (.agg [.ref 2 1 0 3 3 3,v6,v9]) (m1H f x prB (1,.vars [.ref 2 1 0 3 3 3,v6,v9]) nnQ nnQ s6 nnQ nnQ s9):=fun x=>by
  obtain⟨s6',h6⟩:=t6 x (1,.data 1 [di 2,di 3,di 5] true true) s9;obtain⟨s9',h9⟩:=t9 x (1,.data 1 [di 2,di 3,di 5] true true) s6'
  have ec:V.d (.sl (BW f) (ccC f (BW f)))=lst qb (Gg f):=by
   simp only[lst,Gg,List.length_map,Yo,Yg];rfl
  have el:V.d (.sl (BW f-1) (llC f (BW f-1)))=lst lkD (IQ f):=by
   simp only[lst,IQ,List.length_map,Yo,Yg];rfl
  have sv:∀(v:V)(H H':Hp)(d:D),((∃y,v=.d y)∨∃s e o l c t,v=.ref s e o l c t)->toD H v=some (d,H')->cX H v=some (.d d,H'):=fun v H H' d hv ht=>by
   rcases hv with⟨y,rfl⟩|⟨s,e,o,l,c,t,rfl⟩
   .simp only[toD,Z9,Z8]at ht
    simp_all
   grind[cX]
  have e:=aaw (sv _ _ _ _ (.inr ⟨_,_,_,_,_,_,rfl⟩) (t2 x s6 s9)) (sv v6 _ _ _ (by rw[hv6];exact Ht ..) h6) (sv v9 _ _ _ (by rw[hv9];exact Ht ..) h9);rw[ec,el]at e;exact e
 have main:=aaM P (z:=z) hN.2 (fun c=>by rw[hz];rfl) (exK [(Exit.exit 0,fun l12 h=>
  bnd (ldA h 3 (.ptr 3 1 0 3)) fun v13=>
  stD h 3 (.ptr 1 1 0 3) v13 fun _ h=>
  bnd (ldA h 3 (.ptr 1 1 0 3)) fun v15=>
  out (.agg (wkC [2,3,5] (Gg f) (IQ f))) v15 h)]) (by
  have eH:m0K f z (BW f)=m1H f z prB (1,.vars [.ref 2 1 0 3 3 3,v6,v9]) nnQ nnQ s6 nnQ nnQ s9:=by
   unfold m0K;rw[e3,hs6,hs9]
  rw[eH];have l3:ldA (m1H f z prB (1,.vars [.ref 2 1 0 3 3 3,v6,v9]) nnQ nnQ s6 nnQ nnQ s9) 3 (.ptr 3 1 0 3)=some (.agg [.ref 2 1 0 3 3 3,v6,v9]):=rfl
  have sd:st (m1H f z prB (1,.vars [.ref 2 1 0 3 3 3,v6,v9]) nnQ nnQ s6 nnQ nnQ s9) 3 (.ptr 1 1 0 3) (.agg [.ref 2 1 0 3 3 3,v6,v9])=some (m1H f (1,.vars [.ref 2 1 0 3 3 3,v6,v9]) prB (1,.vars [.ref 2 1 0 3 3 3,v6,v9]) nnQ nnQ s6 nnQ nnQ s9):=by
   have hg:aj (m1H f z prB (1,.vars [.ref 2 1 0 3 3 3,v6,v9]) nnQ nnQ s6 nnQ nnQ s9) 1 1=.vars [.d nPQ,.d nPQ,.d nPQ]:=by rw[hz];rfl
   have ha:([V.ref 2 1 0 3 3 3,v6,v9].all okV)=true:=by simp only[List.all_cons,List.all_nil,k6,k9,xM,Yj]
   show(if([V.ref 2 1 0 3 3 3,v6,v9]:LwQ).length=3 then sto _ 1 1 0 3 [V.ref 2 1 0 3 3 3,v6,v9]else none)=_
   rw[if_pos (show([V.ref 2 1 0 3 3 3,v6,v9]:LwQ).length=3 from rfl)];unfold sto;rw[hg];simp only[];rw[if_pos ⟨rfl,mR,ha⟩];rfl
  have l1:ldA (m1H f (1,.vars [.ref 2 1 0 3 3 3,v6,v9]) prB (1,.vars [.ref 2 1 0 3 3 3,v6,v9]) nnQ nnQ s6 nnQ nnQ s9) 3 (.ptr 1 1 0 3)=some (.agg [.ref 2 1 0 3 3 3,v6,v9]):=rfl
  grind[Dv,xl,stD]) (BW f) 0 aa
 simp(disch:=try exact zN)[De,bx,a1,l2,a3,s3,r0,r0',tm,en];exact main
theorem aa7(x:Q):CP Y F.FM [.agg (qT x)] (.agg (qT ((x.1.natAbs:Nat),x.2))):=by
 refine Ph ?_;have ab:=Ou x.1;have e:itoa ((x.1.natAbs:Nat):Int)=AI x.1.natAbs:=by simp[itoa]
 have eq1:qT ((x.1.natAbs:Nat),x.2)=[S (AI x.1.natAbs),S (AI x.2)]:=by simp only[qT,e]
 rw[eq1];simp[FM,qT];refine cd ab ?_;simp;simp[EI]
def plC(f:Nat->Int):LwQ:=(List.range 120).map fun j=>.d (plD f j)
def plZ(f:Nat->Int):Nat×Bk:=(1,.vars (plC f))
theorem aff{H:Hp}(hj:j<120):ld1 (plZ f::H) (.ptr 0 1 j 120)=some (.d (plD f j)):=by grind[aj,plZ,plC,ld1]
theorem Rm{H:Hp}(hj:j+m<=120):ldA (plZ f::H) m (.ptr 0 1 j 120)=some (.agg ((List.range m).map fun i=>.d (plD f (j+i)))):=by grind[aj,plZ,plC,ldA,QA]
def cnF(f:Nat->Int)(i:Nat):Nat:=1+(f (68+i)).toNat%3
def cdF(f:Nat->Int)(i:Nat):LLQ:=(List.range (cnF f i)).map fun k=>rwF f (73+i*9+k*3)
def J1:Acc:=⟨4,0,1,.none⟩
def MH:Acc:=⟨5,0,1,.none⟩
def m2H(f:Nat->Int)(s1 s2 s3 s4 s5:Nat×Bk):Hp:=[plZ f,s1,s2,s3,s4,s5]
def cdC(f:Nat->Int)(i n:Nat):LdQ:=(List.range n).map fun k=>row (rwF f (73+i*9+k*3))
theorem abt(f:Nat->Int)(i n:Nat):cdC f i (n+1)=cdC f i n++[row (rwF f (73+i*9+n*3))]:=by simp[cdC,Yp]
theorem VG(f:Nat->Int)(clr:LnQ):offB clr (plZ f).2=true:=by
 have:∀(l:LnQ),dp clr (l.map fun j=>V.d (plD f j))=true:=fun l=>by
  induction l with
  |nil=>rfl
  |cons x l ih=>trivial
 rfl
theorem abn(f:Nat->Int)(i:Nat):1<=cnF f i∧cnF f i<=3:=by grind[cnF]
theorem aeG{f:Nat->Int}(P:Ab f){i:Nat}(hi:i<5){s1 s2 s5:Nat×Bk}(b1:offB [3] s1.2=true)(b2:offB [3] s2.2=true)(b5:offB [3] s5.2=true)
  (K:KL) (hK:K (.exit 2) [J1.v (cnF f i) (cdC f i (cnF f i))] (m2H f s1 s2 nnQ (J1.b (cnF f i) (cdC f i (cnF f i))) s5)) :
  ∀(m k:Nat),k+m=cnF f i ->
  lp (Eb (CX Y) (.ptr 0 1 0 120) (I i)) [3] (m2H f s1 s2 nnQ nnQ s5) [J1.v k (cdC f i k),I k] (m2H f s1 s2 nnQ (J1.b k (cdC f i k)) s5) K:=by
 have k1:plD f (68+i)=.int .u8 (f (68+i)):=by unfold plD;rw[oF aa]
 have q1:=P.u (68+i) aa (oF aa)
 have ra:∀s1 s2 s3 s4 s5,ld1 (m2H f s1 s2 s3 s4 s5) (.ptr 0 1 (68+i) 120)=some (.d (.int .u8 (f (68+i)))):=fun s1 s2 s3 s4 s5=>by
  rw[<-k1];exact aff aa
 have ra':=fun s1 s2 s3 s4 s5=>(wW _ _ _ _ _).symm.trans (ra s1 s2 s3 s4 s5)
 have tm5:(i:Int).tmod 5=(i:Int):=by rw[Y3 aa,Int.emod_eq_of_lt aa aa]
 have tm:(f (68+i)).tmod 3=(f (68+i))%3:=Y3 q1.1;have en:1+(f (68+i))%3=((cnF f i:Nat):Int):=by unfold cnF;omega
 have q1':0<=f (68+i)%3∧f (68+i)%3<=2:=aa;have g5:(i:Int)<5:=aa;intro m
 induction m with
 | zero=>
  intro k hk;have ek:cnF f i=k:=aa;rw[ek]at hK en;refine AJ ?_;simp(disch:=try exact zN)[Eb,tm5,g5,ra,ra',tm,en];exact hK
 | succ m ihm=>
  intro k hk;obtain⟨h1,h3⟩:=abn f i;have ih:=ihm (k+1) aa;rw[abt]at ih;obtain⟨j,hj⟩:=nmQ (73+i*9+k*3);have hjl:j+3<=118:=aa;have k0:plD f j=.int .i8 (f j):=by unfold plD;rw[uy aa]
  have k1:plD f (j+1)=.int .i8 (f (j+1)):=by unfold plD;rw[uy aa]
  have k2:plD f (j+2)=.int .i8 (f (j+2)):=by unfold plD;rw[uy aa]
  have q0:=P.s j aa (uy aa);have q1:=P.s (j+1) aa (uy aa);have q2:=P.s (j+2) aa (uy aa)
  have r1:ldA (m2H f s1 s2 nnQ (J1.b k (cdC f i k)) s5) 3 (.ptr 0 1 j 120)=some (.agg [.d (.int .i8 (f j)),.d (.int .i8 (f (j+1))),.d (.int .i8 (f (j+2)))]):=by
   have:=Rm (f:=f) (H:=[s1,s2,nnQ,J1.b k (cdC f i k),s5]) (j:=j) (m:=3) aa;rw[<-k0,<-k1,<-k2];exact this
  have r1':=(wV _ _ _ _ _ _).symm.trans r1;have c1:(cdC f i k).length=k*1:=by simp[cdC]
  have g:(k:Int)<cnF f i:=aa;have gk3:(k:Int)<3:=aa;obtain⟨x,hx⟩:=nmQ (f j);obtain⟨y,hy⟩:=nmQ (f (j+1));obtain⟨z,hz⟩:=nmQ (f (j+2));have er:rwF f j=[x.tmod 9,y.tmod 9,z.tmod 9]:=by rw[hx,hy,hz];rfl
  rw[<-hj,er]at ih;rw[<-hx,<-hy,<-hz]at r1 r1';rw[<-hx]at q0;rw[<-hy]at q1;rw[<-hz]at q2;obtain⟨s4,hs4⟩:∃s,s=J1.b k (cdC f i k):=⟨_,rfl⟩;obtain⟨v4,hv4⟩:∃s,s=J1.v k (cdC f i k):=⟨_,rfl⟩
  have fin:∀(s3:Nat×Bk)(q:kkQ)(u:PU q),q (J1.v (k+1) (cdC f i k++[row [x.tmod 9,y.tmod 9,z.tmod 9]])) (m2H f s1 s2 s3 (J1.b (k+1) (cdC f i k++[row [x.tmod 9,y.tmod 9,z.tmod 9]])) s5) ->
    rh (apV false 4 1 24 v4 (.d (.sl 1 [row [x.tmod 9,y.tmod 9,z.tmod 9]])) (m2H f s1 s2 s3 s4 s5)) q u:=fun s3 q u hq=>by
   rw[hs4,hv4];exact D7 J1 (L:=k) (k:=1) (cells:=cdC f i k) (cs:=[row [x.tmod 9,y.tmod 9,z.tmod 9]]) aa rfl c1 rfl rfl (fun t e=>by cases e) aa AF hq
  rw[<-hs4]at r1 r1' ⊢;rw[<-hv4];have al:∀(q:kkQ)(u:PU q),rh (alD 3 1 [.int .i8 0,.int .i8 0,.int .i8 0] (m2H f s1 s2 nnQ s4 s5)) q u=q (.ptr 3 1 0 3) (m2H f s1 s2 (1,.data 1 [.int .i8 0,.int .i8 0,.int .i8 0] true false) s4 s5):=fun _ _=>rfl
  have sd:∀(q:kkQ)(u:PU q),rh (stD (m2H f s1 s2 (1,.data 1 [.int .i8 0,.int .i8 0,.int .i8 0] true false) s4 s5) 3 (.ptr 3 1 0 3) (.agg [.d (.int .i8 x),.d (.int .i8 y),.d (.int .i8 z)])) q u=q .junk (m2H f s1 s2 (1,.data 1 [.int .i8 x,.int .i8 y,.int .i8 z] true false) s4 s5):=fun _ _=>rfl
  have t0:ld1 (m2H f s1 s2 (1,.data 1 [.int .i8 x,.int .i8 y,.int .i8 z] true false) s4 s5) (.ptr 3 1 0 3)=some (.d (.int .i8 x)):=rfl;have t1:ld1 (m2H f s1 s2 (1,.data 1 [.int .i8 x,.int .i8 y,.int .i8 z] true false) s4 s5) (.ptr 3 1 1 3)=some (.d (.int .i8 y)):=rfl;have t2:ld1 (m2H f s1 s2 (1,.data 1 [.int .i8 x,.int .i8 y,.int .i8 z] true false) s4 s5) (.ptr 3 1 2 3)=some (.d (.int .i8 z)):=rfl
  have t0':=(wW _ _ _ _ _).symm.trans t0;have t1':=(wW _ _ _ _ _).symm.trans t1;have t2':=(wW _ _ _ _ _).symm.trans t2
  have li3:∀H,BS 3 [D.int IntKind.i64 0] [(0,I (x.tmod 9)),(1,I (y.tmod 9)),(2,I (z.tmod 9))] H=some ([di (x.tmod 9),di (y.tmod 9),di (z.tmod 9)],H):=fun H=>by
   rfl
  have li1:∀H,BS 1 [nPQ] [(0,.d (.sl 3 [di (x.tmod 9),di (y.tmod 9),di (z.tmod 9)]))] H=some ([row [x.tmod 9,y.tmod 9,z.tmod 9]],H):=fun H=>by
   rfl
  refine AJ ?_;simp(disch:=try exact zN)[Eb,tm5,g,g5,gk3,ra,ra',tm,en,<-hj,r1,r1',al,sd,t0,t0',t1,t1',t2,t2',li3,li1];refine fin _ _ .mk ?_;have g2:biI .add (I k) (.d (.int .i64 1))=some (I ((k+1:Nat):Int)):=LO aa
  show bnd _ _
  rw[g2];have o4:∀L c,offB [3] (J1.b L c).2=true:=fun L c=>Du _ _ _ _ rfl
  have o4':∀L c,E4 [3] (J1.v L c)=true:=fun L c=>Io _ _ _ _ rfl
  refine⟨?_,?_⟩
  .simp only[clean,dp,o4',m2H,FK,VG,b1,b2,b5,o4,Im,Yj,Yv,W7];rfl
  trivial
def wF(f:Nat->Int):Q:=(((frq (f 118) (f 119).toNat).1.natAbs:Nat),(frq (f 118) (f 119).toNat).2)
def adF(f:Nat->Int):Ad where
 p:=[2,3,5]
 ch:=Gg f
 lk:=IQ f
 cd:=(List.range (BW f)).map (cdF f)
 w:=wF f
def ccD(f:Nat->Int)(n:Nat):LdQ:=(List.range n).map fun i=>qb (cdF f i)
theorem abu(f:Nat->Int)(n:Nat):ccD f (n+1)=ccD f n++[qb (cdF f n)]:=by simp[ccD,Yp]
def adR(f:Nat->Int)(i:Nat):Nat×Bk:=(1,.vars [lst di [2,3,5],lst qb (Gg f),lst lkD (IQ f),MH.v i (ccD f i),S (itoa (wF f).1),S (AI (wF f).2)])
theorem Wl(f:Nat->Int)(h5:d9 clr 5=true):offB clr (adR f i).2=true:=by
 have e1:E4 clr (lst di [2,3,5])=true:=rfl;have e2:E4 clr (lst qb (Gg f))=true:=rfl;have e3:E4 clr (lst lkD (IQ f))=true:=rfl
 simp_all[adR,offB,dp,Im,Io,MH]
def m0H(f:Nat->Int)(z:Nat×Bk)(i:Nat):Hp:=m2H f z (adR f i) nnQ nnQ (MH.b i (ccD f i))
theorem ac9(f:Nat->Int)(i:Nat):D.sl (cnF f i) (cdC f i (cnF f i))=qb (cdF f i):=by simp only[qb,cdF,List.length_map,Yo,Yg];rfl
theorem UH(f:Nat->Int):1<=BW f∧BW f<=5:=by grind[BW]
theorem aaJ{f:Nat->Int}(P:Ab f){z:Nat×Bk}(b1:∀c,offB c z.2=true)(K:KL)(hK:K (.exit 0) [] (m0H f z (BW f))) :
  ∀(m i:Nat),i+m=BW f ->
  lp (Ec (CX Y) (.ptr 0 1 0 120) (.ptr 2 1 0 6)) [3,4] (m0H f z 0) [I i] (m0H f z i) K
 | 0,i,hi=>by
  have ei:BW f=i:=aa;rw[ei]at hK;have rc:ld1 (m0H f z i) (.ptr 2 1 1 6)=some (lst qb (Gg f)):=rfl;have lc:fL (lst qb (Gg f))=some (I i):=by rw[<-ei];simp[Gg]
  refine AJ ?_;simp[Ec,rc,lc];exact hK
 | m+1,i,hi=>by
  obtain⟨c1,c5⟩:=UH f;obtain⟨n0,n3⟩:=abn f i;have ih:=aaJ P b1 K hK m (i+1) aa;have hi5:i<5:=aa;have rc:ld1 (m0H f z i) (.ptr 2 1 1 6)=some (lst qb (Gg f)):=rfl;have lc:fL (lst qb (Gg f))=some (I (BW f)):=by simp[Gg]
  have g:(i:Int)<BW f:=aa;obtain⟨s5,hs5⟩:∃s,s=MH.b i (ccD f i):=⟨_,rfl⟩;obtain⟨v5,hv5⟩:∃s,s=MH.v i (ccD f i):=⟨_,rfl⟩;obtain⟨s2,hs2⟩:∃s,s=adR f i:=⟨_,rfl⟩;have eH:m0H f z i=m2H f z s2 nnQ nnQ s5:=by rw[hs2,hs5];rfl
  have l1:=fun K hK=>aeG P hi5 (s1:=z) (s2:=s2) (s5:=s5) (b1 _) (by rw[hs2];exact Wl f rfl) (by rw[hs5];exact Du _ _ _ _ rfl) K hK (cnF f i) 0 aa
  have c4:(cdC f i (cnF f i)).length=cnF f i*1:=by simp[cdC]
  obtain⟨v4,hv4⟩:∃v,v=J1.v (cnF f i) (cdC f i (cnF f i)):=⟨_,rfl⟩;obtain⟨s4,hs4⟩:∃v,v=J1.b (cnF f i) (cdC f i (cnF f i)):=⟨_,rfl⟩;rw[<-hv4,<-hs4]at l1;obtain⟨fr,td⟩:=GP J1 (h:=m2H f z s2 nnQ s4 s5) (L:=cnF f i) (c:=cdC f i (cnF f i)) (by rw[hs4];rfl) c4;rw[if_neg aa,ac9,<-hv4]at td
  obtain⟨s4',hs4'⟩:∃s:Nat×Bk,s=(J1.e+1,.data J1.n (cdC f i (cnF f i)) false fr):=⟨_,rfl⟩;have td':toD (m2H f z s2 nnQ s4 s5) v4=some (qb (cdF f i),m2H f z s2 nnQ s4' s5):=by rw[td,hs4'];rfl
  have li4:=M2 td' (by simp_all[Ht]);have r3:ld1 (m2H f z s2 nnQ s4 s5) (.ptr 2 1 3 6)=some v5:=by rw[hs2,hv5];rfl
  have r3':=(wW _ _ _ _ _).symm.trans r3;have cc:(ccD f i).length=i*1:=by simp[ccD]
  obtain⟨v5',hv5'⟩:∃v,v=MH.v (i+1) (ccD f (i+1)):=⟨_,rfl⟩;obtain⟨s5',hs5'⟩:∃v,v=MH.b (i+1) (ccD f (i+1)):=⟨_,rfl⟩;obtain⟨s2',hs2'⟩:∃s,s=adR f (i+1):=⟨_,rfl⟩
  have ap5:∀(q:kkQ)(u:PU q),q v5' (m2H f z s2 nnQ s4' s5')->rh (apV false 5 1 24 v5 (.d (.sl 1 [qb (cdF f i)])) (m2H f z s2 nnQ s4' s5)) q u:=fun q u hq=>by
   rw[hv5,hs5];refine D7 MH (L:=i) (k:=1) (cells:=ccD f i) (cs:=[qb (cdF f i)]) aa rfl cc rfl rfl (fun t e=>by cases e) aa AF ?_;rw[<-abu,<-hv5'];rw[hs5']at hq;exact hq
  have sd5:∀(q:kkQ)(u:PU q),rh (stD (m2H f z s2 nnQ s4' s5') 1 (.ptr 2 1 3 6) v5') q u=q .junk (m2H f z s2' nnQ s4' s5'):=fun q u=>by
   rw[hs2,hs2',hv5'];rfl
  have g2:biI .add (I i) (.d (.int .i64 1))=some (I ((i+1:Nat):Int)):=LO aa;refine AJ ?_;simp[Ec,rc,lc,g];rw[eH];refine lo (l1 _ ?_);simp[r3,r3',li4];refine ap5 _ .mk ?_;simp(disch:=try exact zN)[sd5];have o2:offB [3,4] s2'.2=true:=by rw[hs2'];exact Wl f rfl
  have o5:offB [3,4] s5'.2=true:=by rw[hs5'];exact Du _ _ _ _ rfl
  refine⟨?_,?_⟩
  .simp only[clean,dp,m2H,FK,VG,b1,o2,o5,Im,Yj,Yv,W7];rfl
  .have e0:∀s4,aL [3,4] 0 (m0H f z 0) (m2H f z s2' nnQ s4 s5')=m2H f z s2' nnQ nnQ s5':=fun s=>rfl
   rw[e0,hs2',hs5'];exact ih
theorem aeN(a:Int)(b:Nat):okQ (frq a b)∧(frq a b).1.natAbs<=40∧(frq a b).2<=12:=by
 have hd:=TM b;have r1 : -41<a.tmod 41:=Int.lt_tmod_of_pos a AF;have r2:=Xa a (b:=41) AF;refine⟨acE aa,?_,?_⟩
 .unfold frq zt;rw[if_neg aa]
  show(a.tmod 41/(Nat.gcd _ _:Nat):Int).natAbs<=40
  grind[Int.natAbs_ediv_le_natAbs]
 .unfold frq zt;rw[if_neg aa]
  show(Jh b).natAbs/_<=12
  exact Zq (Yk _ _) aa
theorem aav{v:V}{x:D}{a b c e:D}(ha:norm a=a)(hb:norm b=b)(hc:norm c=c)(hd:norm d=d)(he:norm e=e)(hs:cX h v=some (.d x,h1)):
  out (.agg [.d a,.d b,.d c,.d x,.d d,.d e]) (.agg [.d a,.d b,.d c,v,.d d,.d e]) h:=
 ⟨h1,by simp_all[cX,AT]⟩
theorem XD(P:Ab f):CP Y F.Dc [.agg (plC f)] (.agg (adC (adF f))):=by
 refine K8 ?_;obtain⟨c1,c5⟩:=UH f;have mk:=XE P;have k118:plD f 118=.int .i8 (f 118):=by unfold plD;rw[uy aa]
 have k119:plD f 119=.int .u8 (f 119):=by unfold plD;rw[oF aa]
 have q118:=P.s 118 aa (uy aa);have q119:=P.u 119 aa (oF aa);obtain⟨b,hb⟩:∃b:Nat,f 119=b:=⟨(f 119).toNat,aa⟩;have fr:=PX (a:=f 118) (b:=b) q118 aa;have fa:=aa7 (frq (f 118) b);have ew:wF f=((((frq (f 118) b).1.natAbs:Nat):Int),(frq (f 118) b).2):=by unfold wF;rw[hb,Int.toNat_natCast]
 rw[<-ew]at fa;obtain⟨z,hz⟩:∃z:Nat×Bk,z=(1,.vars [.d nPQ,.d nPQ,.d nPQ,.d nPQ,.d (.str []),.d (.str [])]):=⟨_,rfl⟩
 have bx:∀(q:kkQ)(u:PU q),rh (oR 0 (.agg (plC f)) [nnQ,nnQ,nnQ,nnQ,nnQ,nnQ]) q u=q (.ptr 0 1 0 120) [plZ f,nnQ,nnQ,nnQ,nnQ,nnQ]:=fun q u=>by
  have hl:(plC f).length=120:=by simp[plC]
  rfl
 have a1:∀(q:kkQ)(u:PU q),rh (alV 1 [.d nPQ,.d nPQ,.d nPQ,.d nPQ,.d (.str []),.d (.str [])] [plZ f,nnQ,nnQ,nnQ,nnQ,nnQ]) q u=q (.ptr 1 1 0 6) (m2H f z nnQ nnQ nnQ nnQ):=fun q u=>by rw[hz];rfl
 have l68:ldA (m2H f z nnQ nnQ nnQ nnQ) 68 (.ptr 0 1 0 120)=some (.agg (S6 f)):=by
  have:=Rm (f:=f) (H:=[z,nnQ,nnQ,nnQ,nnQ]) (j:=0) (m:=68) aa;simp only[Y9]at this;exact this
 have l2:ldA (m2H f z nnQ nnQ nnQ nnQ) 2 (.ptr 0 1 118 120)=some (.agg [.d (.int .i8 (f 118)),.d (.int .u8 b)]):=by
  have:=Rm (f:=f) (H:=[z,nnQ,nnQ,nnQ,nnQ]) (j:=118) (m:=2) aa;rw[<-hb,<-k118,<-k119];exact this
 have l68':=(wV _ _ _ _ _ _).symm.trans l68;have l2':=(wV _ _ _ _ _ _).symm.trans l2
 have bl:bld [(0,3),(3,1),(4,2)] [nPQ,nPQ,nPQ,nPQ,.str [],.str []] [(0,.agg (wkC [2,3,5] (Gg f) (IQ f))),(2,.agg (qT (wF f)))]=some (.agg [lst di [2,3,5],lst qb (Gg f),lst lkD (IQ f),.d nPQ,S (itoa (wF f).1),S (AI (wF f).2)]):=rfl
 have a2:∀(q:kkQ)(u:PU q),rh (alV 2 [.d nPQ,.d nPQ,.d nPQ,.d nPQ,.d (.str []),.d (.str [])] (m2H f z nnQ nnQ nnQ nnQ)) q u=q (.ptr 2 1 0 6) (m2H f z (1,.vars [.d nPQ,.d nPQ,.d nPQ,.d nPQ,.d (.str []),.d (.str [])]) nnQ nnQ nnQ):=fun _ _=>rfl
 have s2:∀(q:kkQ)(u:PU q),rh (stD (m2H f z (1,.vars [.d nPQ,.d nPQ,.d nPQ,.d nPQ,.d (.str []),.d (.str [])]) nnQ nnQ nnQ) 6 (.ptr 2 1 0 6) (.agg [lst di [2,3,5],lst qb (Gg f),lst lkD (IQ f),.d nPQ,S (itoa (wF f).1),S (AI (wF f).2)])) q u=q .junk (m0H f z 0):=fun _ _=>rfl
 have cc:(ccD f (BW f)).length=BW f*1:=by simp[ccD]
 obtain⟨v5,hv5⟩:∃v,v=MH.v (BW f) (ccD f (BW f)):=⟨_,rfl⟩;obtain⟨s5,hs5⟩:∃s,s=MH.b (BW f) (ccD f (BW f)):=⟨_,rfl⟩;have k5:okV v5=true:=by rw[hv5];obtain⟨m,hm⟩:∃m,BW f=m+1:=⟨BW f-1,aa⟩;rw[hm];rfl
 have main:=aaJ P (z:=z) (fun c=>by rw[hz];rfl) (exK [(Exit.exit 0,fun l13 h=>
  bnd (ldA h 6 (.ptr 2 1 0 6)) fun v14=>
  stD h 6 (.ptr 1 1 0 6) v14 fun _ h=>
  bnd (ldA h 6 (.ptr 1 1 0 6)) fun v16=>
  out (.agg (adC (adF f))) v16 h)]) (by
  obtain⟨A,hA⟩:∃A:LwQ,A=[lst di [2,3,5],lst qb (Gg f),lst lkD (IQ f),v5,S (itoa (wF f).1),S (AI (wF f).2)]:=⟨_,rfl⟩
  have eH:m0H f z (BW f)=m2H f z (1,.vars A) nnQ nnQ s5:=by
   unfold m0H adR;rw[hA,hv5,hs5]
  rw[eH];have hl:A.length=6:=by rw[hA];rfl
  have ha:A.all okV=true:=by rw[hA];simp only[List.all_cons,List.all_nil,k5,Yj];rfl
  have l6:∀x,ldA (m2H f x (1,.vars A) nnQ nnQ s5) 6 (.ptr 2 1 0 6)=some (.agg A):=fun x=>by rw[hA];rfl
  have sd:st (m2H f z (1,.vars A) nnQ nnQ s5) 6 (.ptr 1 1 0 6) (.agg A)=some (m2H f (1,.vars A) (1,.vars A) nnQ nnQ s5):=by
   have hg:aj (m2H f z (1,.vars A) nnQ nnQ s5) 1 1=.vars [.d nPQ,.d nPQ,.d nPQ,.d nPQ,.d (.str []),.d (.str [])]:=by rw[hz];rfl
   show(if A.length=6 then sto _ 1 1 0 6 A else none)=_
   rw[if_pos hl];unfold sto;rw[hg];simp only[];rw[if_pos ⟨rfl,by grind,ha⟩];rw[hl];simp[aM,m2H]
  have l1:ldA (m2H f (1,.vars A) (1,.vars A) nnQ nnQ s5) 6 (.ptr 1 1 0 6)=some (.agg A):=by rw[hA];rfl
  simp only[Dv,l6,xl,stD,sd,l1];obtain⟨fr5,td⟩:=GP MH (h:=m2H f (1,.vars A) (1,.vars A) nnQ nnQ s5) (L:=BW f) (c:=ccD f (BW f)) (by rw[hs5];rfl) cc;rw[if_neg aa,<-hv5]at td
  have sv:cX (m2H f (1,.vars A) (1,.vars A) nnQ nnQ s5) v5=some (.d (.sl (BW f) (ccD f (BW f))),(m2H f (1,.vars A) (1,.vars A) nnQ nnQ s5).set MH.s (MH.e+1,.data MH.n (ccD f (BW f)) false fr5)):=by
   obtain⟨m,hm⟩:∃m,BW f=m+1:=⟨BW f-1,aa⟩;have hr:∃s e o l c t,v5=.ref s e o l c t:=by rw[hv5,hm];exact⟨_,_,_,_,_,_,rfl⟩
   obtain⟨s,e,o,l,c,t,hr⟩:=hr;rw[hr]at td ⊢;simp only[cX,td]
  have ec:V.d (.sl (BW f) (ccD f (BW f)))=lst qb (adF f).cd:=by
   simp only[lst,adF,List.length_map,Yo,Yg];rfl
  have o:=aav (a:=row [2,3,5]) (b:=.sl (Gg f).length ((Gg f).map qb)) (c:=.sl (IQ f).length ((IQ f).map lkD)) (d:=.str (itoa (wF f).1)) (e:=.str (AI (wF f).2)) rfl rfl rfl rfl rfl sv;rw[ec]at o;rw[hA];rw[hA]at o;exact o) (BW f) 0 aa
 simp[Dc,bx,a1,l68,l68'];refine cd mk ?_ (by rfl);simp[l2,l2'];refine cd fr ?_;simp;refine cd fa ?_ (by rfl);simp[bl,a2,s2];exact main
theorem V9(f:Nat->Int)(i:Nat):(chF f i).length=ntF f i:=by simp[chF]
theorem ae1(P:Ab f):dX (adF f):=by
 obtain⟨c1,c5⟩:=UH f;obtain⟨w1,w2,w3⟩:=aeN (f 118) (f 119).toNat
 have hch:∀c∈Gg f,(1<=c.length∧c.length<=3)∧∀r∈c,r.length=3∧bdR 8 r:=fun c hc=>by
  grind[Gg,QC,chF,ZS]
 have hcd:∀c∈(adF f).cd,(1<=c.length∧c.length<=3)∧∀r∈c,r.length=3∧bdR 8 r:=fun c hc=>by
  grind[adF,abn,cdF,ZS]
 have hlk:∀l∈IQ f,1<=l.length∧l.length<=2:=fun l hl=>by
  grind[IQ,VN,lkL]
 have lch:(Gg f).length=BW f:=by simp[Gg]
 have llk:(IQ f).length=BW f-1:=by simp[IQ]
 refine ⟨acX.hp,⟨by show(IQ f).length+1=(Gg f).length;omega,by show(Gg f).length<=64;omega,fun c hc=>(hch c hc).2,fun c hc=>by have:=(hch c hc).1;omega,fun l hl=>by have:=hlk l hl;omega,fun i hi=>?_⟩,fun l hl=>(hlk l hl).1,fun c hc=>(hch c hc).1.1,by show(Gg f).length<=5;omega,
  by show((List.range (BW f)).map (cdF f)).length=(Gg f).length;grind,fun l hl=>by grind,fun l hl=>(hcd l hl).2,⟨⟨w1.1,by show Nat.gcd (((frq (f 118) (f 119).toNat).1.natAbs:Nat):Int).natAbs _=1;rw[Int.natAbs_natCast];exact w1.2⟩,Int.natCast_nonneg _,by show(((frq (f 118) (f 119).toNat).1.natAbs:Nat):Int)<=1000;omega,by show(frq (f 118) (f 119).toNat).2<=1000;omega⟩⟩
 have hi':i<BW f-1:=by rw[<-llk];exact hi
 show(nth [] (IQ f) i).all (M1 (nth [] (Gg f) i).length (nth [] (Gg f) (i+1)).length)=true
 unfold IQ Gg;rw[fJ _ _ hi',fJ _ _ (show i<BW f by omega),fJ _ _ (show i+1<BW f by omega),V9,V9];refine Z3.2 fun x hx=>?_
 simp only[lkL,Zi,Zb]at hx;obtain⟨k,hk,rfl⟩:=hx;have hk2:=(VN f i).2;have n1:=QC f i;have n2:=QC f (i+1);have q1:=P.u (51+i*4+k*2) aa (oF aa);have q2:=P.u (51+i*4+k*2+1) aa (oF aa);refine qg.2 ⟨⟨Int.tmod_nonneg _ q1.1,Xa _ aa⟩,Int.tmod_nonneg _ q2.1,Xa _ aa⟩
theorem abL{s0 e0 s k:Nat}{b:Bk}(hg:aj h s0 e0=.data 1 [] true false)(hk:0<k)(hc:cs.length=k)(hs:h[s]?=some (e,b))(hb:k*by_<=140737488355328)(q:kkQ):
  apV false s 1 by_ (.ref s0 e0 0 0 0 0) (.d (.sl k cs)) h q=q (.ref s (e+1) 0 k k k) (h.set s (e+1,.data 1 cs false false)):=by
 unfold apV;simp only[cellsOf];rw[if_pos aa];unfold apC;rw[if_neg aa];simp only[hg];rw[if_pos ⟨trivial,rfl,Z5 _,mR,aa⟩,if_neg aa,if_pos (by grind)]
 grind[new]
theorem We{s s':Nat}{X:LdQ}(hg:aj h s e=.data 1 X false false)(hX:X.length=n)(hb:(n+1)*by_<=140737488355328)(q:kkQ):
  apV false s' 1 by_ (.ref s e 0 n n n) (.d (.sl 1 [y])) h q=q (.ref s e 0 (n+1) (n+1) (n+1)) (aM h s e (.data 1 (X++[y]) false false)):=by
 show apC false s' 1 by_ (.ref s e 0 n n n) 1 [y] h q=_
 unfold apC;rw[if_neg AF];simp only[hg];rw[if_pos ⟨trivial,hX.symm,Z5 _,aa,rfl⟩,if_neg aa,if_pos hb];simp only[Zt,if_false,Bool.or_self];rw[if_pos ⟨aa,by grind⟩]
 grind
variable{a:Ad}
structure Chg where
 how:Nat
 at_:Nat
 row:LiQ
 n:LuQ
 d:LuQ
variable{c:Chg}
def cgC(c:Chg):LwQ:=[.d (.int .u8 c.how),.d (.int .u8 c.at_),lst di c.row,S c.n,S c.d]
def N2(c:Chg):Nat×Bk:=(1,.vars (cgC c))
def Nk(cd:List LLQ)(c:Chg):List (LLQ×Bool):=match c.how%7 with
 |0=>(cd.map fun x=>(x,false)).tail
 |1=>(cd.map fun x=>(x,false)).set (c.at_%cd.length) ([],false)
 |2=>(cd.map fun x=>(x,false)).set (c.at_%cd.length) (List.replicate 21 [],true)
 |3=>(cd.map fun x=>(x,false)).set (c.at_%cd.length) (nth [] cd (c.at_%cd.length)++[c.row],false)
 |_=>cd.map fun x=>(x,false)
def Mz(a:Ad)(c:Chg):Ag:=⟨if c.how%7=5 then a.p++[4]else a.p,a.ch,a.lk,Nk a.cd c,if c.how%7=4 then c.n else itoa a.w.1,if c.how%7=4 then c.d else AI a.w.2⟩
abbrev cgH(a:Ad)(c:Chg)(v:V)(s2 s3 s4 s5 s6 s7 s8 s9 s10 s11:Nat×Bk):Hp:=[(1,.vars [lst di a.p,lst qb a.ch,lst lkD a.lk,v,S (itoa a.w.1),S (AI a.w.2)]),(1,.vars [.d (.int .u8 c.how),.d (.int .u8 c.at_),lst di c.row,S c.n,S c.d]),s2,s3,s4,s5,s6,s7,s8,s9,s10,s11]
abbrev zA:Nat×Bk:=(1,.vars [.d nPQ,.d nPQ,.d nPQ,.d nPQ,S [],S []])
theorem Nj{H:Hp}{lk:List (List Lk)}{cd:List (LLQ×Bool)}{X:LdQ}{k off:Nat}(hg:aj H 4 1=.data 1 X false false)(hn:n=X.length)(hc:k<=cap)(hb:off+k<=X.length)(hX:(X.drop off).take k=cd.map cnD)(hk:k=cd.length):
  out (.agg (agC ⟨p,ch,lk,cd,wn,wd⟩)) (.agg [lst di p,lst qb ch,lst lkD lk,.ref 4 1 off k cap n,S wn,S wd]) H:=by
 refine⟨aM H 4 1 (.data 1 X false true),?_⟩
 have ht:toD H (.ref 4 1 off k cap n)=some (.sl k (cd.map cnD),aM H 4 1 (.data 1 X false true)):=by
  simp only[toD,hg];rw[if_pos ⟨hn,hc,aa⟩,X9,hX]
 have e:lst cnD cd=.d (.sl k (cd.map cnD)):=by rw[hk];rfl
 simp[cX,AT,ht,agC,e]
theorem ac8{H H1 H2:Hp}{lk:List (List Lk)}{cd:List (LLQ×Bool)}{k:Nat}(h1:toD H (.ref 10 1 0 k k k)=some (row p,H1))(h2:toD H1 (.ref 4 1 0 n n n)=some (.sl cd.length (cd.map cnD),H2)):
  out (.agg (agC ⟨p,ch,lk,cd,wn,wd⟩)) (.agg [.ref 10 1 0 k k k,lst qb ch,lst lkD lk,.ref 4 1 0 n n n,S wn,S wd]) H:=by refine⟨H2,?_⟩;have e1:lst cnD cd=.d (.sl cd.length (cd.map cnD)):=rfl;have e2:lst di p=.d (row p):=rfl;simp[cX,AT,h1,h2,agC,e1,e2]
theorem Vi{H:Hp}{s:Nat}{X:LdQ}(hg:aj H s e=.data 1 X false false)(hn:X.length=n):toD H (.ref s e 0 n n n)=some (.sl n X,aM H s e (.data 1 X false true)):=by simp only[toD,hg];rw[if_pos ⟨hn.symm,Z5 _,aa⟩,Y0,Zd aa]
theorem Vr{X:LdQ}{h':Hp}{v:V}(h0:aj h 4 1=.data 1 X false false)(ht:eA h [v]=some ([u],h'))(hg:aj h' 4 1=.data 1 X false false)(hn:n=X.length)(hi:i<n):
  stX (.data 1 X false false) h 4 1 i n [v]=some (aM h' 4 1 (.data 1 (X.set i u) false false)):=by
 show sto h 4 1 i n [v]=_
 simp only[sto,h0,ht,hg];rw[if_pos ⟨trivial,hn,bW⟩]
 have e:X.take i++[u]++X.drop (i + [u].length)=X.set i u:=by
  rw[X7,if_pos aa];simp
 rw[e]
theorem XY{a:Ad}(h0:0<a.cd.length)(hN:a.cd.length<1000000)(hr:c.row.length<=8)(hh:c.how<256)(ha:c.at_<256)(hp:0<a.p.length)(hp2:a.p.length<1000)(hcd:∀x∈a.cd,x.length<1000000)(hne:∀x∈a.cd,0<x.length):
  CP Y F.CG [.agg (adC a),.agg (cgC c)] (.agg (agC (Mz a c))):=by
 refine JM ?_;obtain⟨n,hn⟩:=nmQ (a.cd.length);obtain⟨X,hX⟩:=nmQ (a.cd.map qb);have Xl:X.length=n:=by rw[hX,hn,List.length_map]
 have eX:lst qb a.cd=.d (.sl n X):=by rw[hn,hX];rfl
 have a4:∀(q:kkQ)(u:PU q),rh (apV false 4 1 24 (.ref 3 1 0 0 0 0) (.d (.sl n X)) (cgH a c (.d (.sl n X)) zA (1,.data 1 [] true false) nnQ nnQ nnQ nnQ nnQ nnQ nnQ nnQ)) q u=q (.ref 4 1 0 n n n) (cgH a c (.d (.sl n X)) zA (1,.data 1 [] true false) (1,.data 1 X false false) nnQ nnQ nnQ nnQ nnQ nnQ nnQ):=fun q u=>
  abL rfl aa Xl rfl aa q
 have ln:fL (.ref 4 1 0 n n n)=some (I n):=rfl;obtain⟨i,hi⟩:=nmQ (c.at_%n);have hin:i<n:=by rw[hi];exact Yt _ aa
 have m1:biI .rem (I c.at_) (I n)=some (I (i:Nat)):=by
  have h1:¬(n:Int)=0:=aa;have h2:(c.at_:Int).tmod n=(i:Int):=by rw[Y3 aa];omega
  simp(disch:=try exact zN)[h1,h2]
 obtain⟨z,hz⟩:=nmQ (c.how%7);have z7:z<7:=aa
 have m7:biI .rem (.d (.int .u8 c.how)) (.d (.int .u8 7))=some (.d (.int .u8 (z:Int))):=by
  simp[Y3,hz]
 have li0:∀(z:D)(h:Hp),BS 0 [z] [] h=some ([],h):=fun _ _=>rfl
 obtain⟨G,hG⟩:=nmQ (Mz a c);rw[<-hG];simp(disch:=try exact zN)[CG,li0,adC,cgC,eX,a4,ln,m1,m7];refine AN ?_;have okl:∀{α:Type}(f:α->D)(l:List α),okV (lst f l)=true:=fun _ _=>rfl
 obtain⟨L,hL⟩:=nmQ (a.cd.map fun x=>(x,false))
 have XL:X=L.map cnD:=by rw[hX,hL,Yg];rfl
 have Ll:L.length=n:=by rw[hL,hn,List.length_map]
 have Xi:X[i]?=some (qb (nth [] a.cd i)):=by
  have hl:i<a.cd.length:=aa;rw[hX,List.getElem?_map,List.getElem?_eq_getElem hl]
  grind[dM]
 rcases(by omega:z=0∨z=1∨z=2∨z=3∨z=4∨z=5∨z=6)with rfl|rfl|rfl|rfl|rfl|rfl|rfl
 ·have s0:slV (cgH a c (.d (.sl n X)) zA (1,.data 1 [] true false) (1,.data 1 X false false) nnQ nnQ nnQ nnQ nnQ nnQ nnQ) 1 (.ref 4 1 0 n n n) (some (I 1)) none=some (.ref 4 1 1 (n-1) (n-1) n):=by
   have:(1:Int)<=n:=aa;simp[slV,aj,boV,this,Xl]
  have eG:G=⟨a.p,a.ch,a.lk,L.tail,itoa a.w.1,AI a.w.2⟩:=by rw[hG,hL];unfold Mz Nk;rw[<-hz];rfl
  simp(disch:=try exact zN);refine AN ?_;simp(disch:=try exact zN)[s0,okl];rw[eG];exact Nj (X:=X) rfl Xl.symm (Z5 _) aa (by rw[Zd bW,XL,<-List.map_drop,List.drop_one]) bW
 .have eG:G=⟨a.p,a.ch,a.lk,L.set i ([],false),itoa a.w.1,AI a.w.2⟩:=by rw[hG,hL,hi,hn];unfold Mz Nk;rw[<-hz];rfl
  simp(disch:=try exact zN);refine AN ?_;simp(disch:=try exact zN);refine AN ?_;simp(disch:=try exact zN)[Xl,okl];rw[eG];exact Nj (X:=X.set i (.sl 0 [])) rfl (by simp[Xl]) (Z5 _) (by simp[Xl]) (by rw[Y0,Zd (by simp[Xl]),XL,List.map_set];rfl) (by simp[Ll])
 .have eG:G=⟨a.p,a.ch,a.lk,L.set i (List.replicate 21 [],true),itoa a.w.1,AI a.w.2⟩:=by rw[hG,hL,hi,hn];unfold Mz Nk;rw[<-hz];rfl
  obtain⟨u,hu⟩:∃u:D,u=cnD (List.replicate 21 [],true):=⟨_,rfl⟩
  have t5:stX (.data 1 X false false) (cgH a c (.d (.sl n X)) zA (1,.data 1 [] true false) (1,.data 1 X false false) (1,.data 1 (List.replicate 21 nPQ) true false) nnQ nnQ nnQ nnQ nnQ nnQ) 4 1 i n [.ref 5 1 0 21 21 21]=some (cgH a c (.d (.sl n X)) zA (1,.data 1 [] true false) (1,.data 1 (X.set i u) false false) (1,.data 1 (List.replicate 21 nPQ) true true) nnQ nnQ nnQ nnQ nnQ nnQ):=
   Vr (h':=cgH a c (.d (.sl n X)) zA (1,.data 1 [] true false) (1,.data 1 X false false) (1,.data 1 (List.replicate 21 nPQ) true true) nnQ nnQ nnQ nnQ nnQ nnQ) rfl (by rw[hu];rfl) rfl Xl.symm hin
  simp only[List.reduceReplicate]at t5;simp(disch:=try exact zN);refine AN ?_;simp(disch:=try exact zN);refine AN ?_;simp(disch:=try exact zN);refine AN ?_;simp(disch:=try exact zN)[Xl,okl,t5];rw[eG]
  exact Nj (X:=X.set i u) rfl (by simp[Xl]) (Z5 _) (by simp[Xl]) (by rw[Y0,Zd (by simp[Xl]),XL,List.map_set,hu]) (by simp[Ll])
 .have eG:G=⟨a.p,a.ch,a.lk,L.set i (nth [] a.cd i++[c.row],false),itoa a.w.1,AI a.w.2⟩:=by rw[hG,hL,hi,hn];unfold Mz Nk;rw[<-hz];rfl
  simp(disch:=try exact zN);refine AN ?_;simp(disch:=try exact zN);refine AN ?_;simp(disch:=try exact zN);refine AN ?_;simp(disch:=try exact zN);refine AN ?_;obtain⟨m,hm⟩:=nmQ ((nth [] a.cd i).length);obtain⟨R,hR⟩:=nmQ ((nth [] a.cd i).map row)
  have Rl:R.length=m:=by rw[hR,hm,List.length_map]
  have mem:nth [] a.cd i∈a.cd:=by
   rw[dM [] a.cd i aa];exact Xq _
  have m0:0<m:=by rw[hm];exact hne _ mem
  have mN:m<1000000:=by rw[hm];exact hcd _ mem
  have hiX:i<X.length:=aa
  have xi:X[i]'hiX=.sl m R:=by
   rw[List.getElem?_eq_getElem hiX]at Xi;rw[Option.some.inj Xi,hm,hR];rfl
  have sp6:∀k:Prop,sp (cgH a c (.d (.sl n X)) zA (1,.data 1 [] true false) (1,.data 1 X false false) nnQ (1,.data 1 [] true false) nnQ nnQ nnQ nnQ nnQ) (.ref 6 1 0 0 0 0) [.ptr 1 1 0 5] k=k:=fun _=>rfl
  have a7:∀(q:kkQ)(u:PU q),rh (apV false 7 1 24 (.ref 6 1 0 0 0 0) (.d (.sl m R)) (cgH a c (.d (.sl n X)) zA (1,.data 1 [] true false) (1,.data 1 X false false) nnQ (1,.data 1 [] true false) nnQ nnQ nnQ nnQ nnQ)) q u=q (.ref 7 1 0 m m m) (cgH a c (.d (.sl n X)) zA (1,.data 1 [] true false) (1,.data 1 X false false) nnQ (1,.data 1 [] true false) (1,.data 1 R false false) nnQ nnQ nnQ nnQ):=fun q u=>
   abL rfl m0 Rl rfl aa q
  have sm1:∀k:Prop,sm (cgH a c (.d (.sl n X)) zA (1,.data 1 [] true false) (1,.data 1 X false false) nnQ (1,.data 1 [] true false) (1,.data 1 R false false) nnQ nnQ nnQ nnQ) (.ptr 1 1 0 5) (.ptr 1 1 2 5) k=k:=fun _=>rfl
  have li1:∀H,BS 1 [nPQ] [(0,lst di c.row)] H=some ([row c.row],H):=fun _=>rfl
  have a8:∀(q:kkQ)(u:PU q),rh (apV false 8 1 24 (.ref 7 1 0 m m m) (.d (.sl 1 [row c.row])) (cgH a c (.d (.sl n X)) zA (1,.data 1 [] true false) (1,.data 1 X false false) nnQ (1,.data 1 [] true false) (1,.data 1 R false false) nnQ nnQ nnQ nnQ)) q u=q (.ref 7 1 0 (m+1) (m+1) (m+1)) (cgH a c (.d (.sl n X)) zA (1,.data 1 [] true false) (1,.data 1 X false false) nnQ (1,.data 1 [] true false) (1,.data 1 (R++[row c.row]) false false) nnQ nnQ nnQ nnQ):=fun q u=>
   We rfl Rl aa q
  have t7:stX (.data 1 X false false) (cgH a c (.d (.sl n X)) zA (1,.data 1 [] true false) (1,.data 1 X false false) nnQ (1,.data 1 [] true false) (1,.data 1 (R++[row c.row]) false false) nnQ nnQ nnQ nnQ) 4 1 i n [.ref 7 1 0 (m+1) (m+1) (m+1)]=some (cgH a c (.d (.sl n X)) zA (1,.data 1 [] true false) (1,.data 1 (X.set i (.sl (m+1) (R++[row c.row]))) false false) nnQ (1,.data 1 [] true false) (1,.data 1 (R++[row c.row]) false true) nnQ nnQ nnQ nnQ):=
   Vr (h':=cgH a c (.d (.sl n X)) zA (1,.data 1 [] true false) (1,.data 1 X false false) nnQ (1,.data 1 [] true false) (1,.data 1 (R++[row c.row]) false true) nnQ nnQ nnQ nnQ) rfl (by
    have hg:aj (cgH a c (.d (.sl n X)) zA (1,.data 1 [] true false) (1,.data 1 X false false) nnQ (1,.data 1 [] true false) (1,.data 1 (R++[row c.row]) false false) nnQ nnQ nnQ nnQ) 7 1=.data 1 (R++[row c.row]) false false:=rfl;simp only[eA,toD,hg];rw[if_pos ⟨by simp[Rl],Z5 _,by simp[Rl]⟩,Y0,Zd (by simp[Rl])]
    rfl) rfl Xl.symm hin
  simp(disch:=try exact zN)[Xl,li0,okl,sp6,xi,a7,sm1,li1,a8,t7];rw[eG];exact Nj (X:=X.set i (.sl (m+1) (R++[row c.row]))) rfl (by simp[Xl]) (Z5 _) (by simp[Xl]) (by rw[Y0,Zd (by simp[Xl]),XL,List.map_set,hm,hR];simp[cnD]) (by simp[Ll])
 .have eG:G=⟨a.p,a.ch,a.lk,L,c.n,c.d⟩:=by rw[hG,hL];unfold Mz Nk;rw[<-hz];rfl
  simp(disch:=try exact zN);refine AN ?_;simp(disch:=try exact zN);refine AN ?_;simp(disch:=try exact zN);refine AN ?_;simp(disch:=try exact zN);refine AN ?_;simp(disch:=try exact zN);refine AN ?_;simp(disch:=try exact zN)[okl];rw[eG]
  exact Nj (X:=X) rfl Xl.symm (Z5 _) aa (by rw[Y0,Zd aa,XL]) Ll.symm
 .have eG:G=⟨a.p++[4],a.ch,a.lk,L,itoa a.w.1,AI a.w.2⟩:=by rw[hG,hL];unfold Mz Nk;rw[<-hz];rfl
  simp(disch:=try exact zN);refine AN ?_;simp(disch:=try exact zN);refine AN ?_;simp(disch:=try exact zN);refine AN ?_;simp(disch:=try exact zN);refine AN ?_;simp(disch:=try exact zN);refine AN ?_;simp(disch:=try exact zN);refine AN ?_
  obtain⟨k,hk⟩:=nmQ (a.p.length);obtain⟨P,hP⟩:=nmQ (a.p.map di);have Pl:P.length=k:=by rw[hP,hk,List.length_map]
  have pe:lst di a.p=.d (.sl k P):=by rw[hP,hk];rfl
  have a10:∀(q:kkQ)(u:PU q),rh (apV false 10 1 8 (.ref 9 1 0 0 0 0) (lst di a.p) (cgH a c (.d (.sl n X)) zA (1,.data 1 [] true false) (1,.data 1 X false false) nnQ nnQ nnQ nnQ (1,.data 1 [] true false) nnQ nnQ)) q u=q (.ref 10 1 0 k k k) (cgH a c (.d (.sl n X)) zA (1,.data 1 [] true false) (1,.data 1 X false false) nnQ nnQ nnQ nnQ (1,.data 1 [] true false) (1,.data 1 P false false) nnQ):=fun q u=>by
   rw[pe];exact abL rfl aa Pl rfl aa q
  have l4:∀H,BS 1 [D.int IntKind.i64 0] [(0,V.d (D.int IntKind.i64 4))] H=some ([di 4],H):=fun _=>rfl
  have a11:∀(q:kkQ)(u:PU q),rh (apV false 11 1 8 (.ref 10 1 0 k k k) (.d (.sl 1 [di 4])) (cgH a c (.d (.sl n X)) zA (1,.data 1 [] true false) (1,.data 1 X false false) nnQ nnQ nnQ nnQ (1,.data 1 [] true false) (1,.data 1 P false false) nnQ)) q u=q (.ref 10 1 0 (k+1) (k+1) (k+1)) (cgH a c (.d (.sl n X)) zA (1,.data 1 [] true false) (1,.data 1 X false false) nnQ nnQ nnQ nnQ (1,.data 1 [] true false) (1,.data 1 (P++[di 4]) false false) nnQ):=fun q u=>
   We rfl Pl aa q
  simp(disch:=try exact zN)[li0,okl,a10,l4,a11];rw[eG];have h1:D.sl (k+1) (P++[di 4])=row (a.p++[4]):=by simp[row,hP,hk]
  have h2:D.sl n X=.sl L.length (L.map cnD):=by rw[Ll,XL]
  refine ac8 (p:=a.p++[4]) (cd:=L) ((Vi (X:=P++[di 4]) rfl (by simp[Pl])).trans (by rw[h1])) ((Vi (X:=X) rfl Xl).trans (by rw[h2]))
 .have eG:G=⟨a.p,a.ch,a.lk,L,itoa a.w.1,AI a.w.2⟩:=by rw[hG,hL];unfold Mz Nk;rw[<-hz];rfl
  simp(disch:=try exact zN);refine AN ?_;simp(disch:=try exact zN);refine AN ?_;simp(disch:=try exact zN);refine AN ?_;simp(disch:=try exact zN);refine AN ?_;simp(disch:=try exact zN);refine AN ?_;simp(disch:=try exact zN);refine AN ?_
  simp(disch:=try exact zN)[okl];rw[eG];exact Nj (X:=X) rfl Xl.symm (Z5 _) aa (by rw[Y0,Zd aa,XL]) Ll.symm
theorem ac7{a:Ad}(G:dX a)(hr:c.row.length<=8)(hn:c.n.length<=13)(hd:c.d.length<=13):Af (Mz a c):=by
 obtain⟨hin,hp0⟩:=Ei G.hp;have hN:=hin.2.1;have h5:=G.five;have hl:=G.wk.len;have hc:=G.cl;have q:=G.qL;have aeJ:=Lm q;simp only[tx]at aeJ
 have base:∀x∈a.cd.map (fun x=>(x,false)),x.1.length<=21∧(x.2=true->20<x.1.length):=fun x hx=>by
  obtain⟨y,hy,rfl⟩:=Zi.1 hx;have:=G.cn y hy;exact⟨by show y.length<=21;omega,mR⟩
 have all:∀x∈Nk a.cd c,x.1.length<=21∧(x.2=true->20<x.1.length):=fun x hx=>by
  unfold Nk at hx;split at hx
  .exact base x (List.mem_of_mem_tail hx)
  .rcases Yu hx with h|rfl
   .exact base x h
   .simp
  .rcases Yu hx with h|rfl
   .exact base x h
   .simp
  .rcases Yu hx with h|rfl
   .exact base x h
   .have hi:c.at_%a.cd.length<a.cd.length:=Yt _ aa;have hm:nth [] a.cd (c.at_%a.cd.length)∈a.cd:=by rw[dM [] a.cd _ hi];exact Xq _
    have:=G.cn _ hm;simp;omega
  .exact base x hx
 have len:(Nk a.cd c).length<=a.cd.length:=by
  unfold Nk;split<;>simp
 refine⟨?_,fun x hx=>?_,?_,fun l hl=>?_,?_,fun x hx=>?_,fun x hx=>(all x hx).2,?_,?_,?_⟩
 .unfold Mz;simp only;split
  .simp;omega
  .omega
 .have:=G.wk.cs x hx;omega
 .show a.ch.length<1000000;omega
 .have:=G.wk.ls l hl;omega
 .show a.lk.length<1000000;omega
 .have:=(all x hx).1;omega
 .show(Nk a.cd c).length<1000000;omega
 .unfold Mz;simp only;split<;>omega
 .unfold Mz;simp only;split<;>omega
theorem UM(P:Ab f)(hh:c.how<256)(hat:c.at_<256):CP Y F.AS [.agg (plC f),.agg (cgC c)] (B true):=by
 refine GR ?_;have mk:=XD P;have G:=ae1 P;obtain⟨a,ha⟩:=nmQ (adF f);rw[<-ha]at mk G
 have bx:∀(q:kkQ)(u:PU q),rh (oR 0 (.agg (plC f)) [nnQ,nnQ,nnQ]) q u=q (.ptr 0 1 0 120) [plZ f,nnQ,nnQ]:=fun q u=>by
  have hl:(plC f).length=120:=by simp[plC]
  rfl
 have bx2:∀(q:kkQ)(u:PU q),rh (oR 1 (.agg (cgC c)) [plZ f,nnQ,nnQ]) q u=q (.ptr 1 1 0 5) [plZ f,N2 c,nnQ]:=fun _ _=>rfl
 have l120:ldA [plZ f,N2 c,nnQ] 120 (.ptr 0 1 0 120)=some (.agg (plC f)):=by
  have:=Rm (f:=f) (H:=[N2 c,nnQ]) (j:=0) (m:=120) aa;simp only[Y9]at this;exact this
 have l120':=(wV _ _ _ _ _ _).symm.trans l120;have l5:ldA [plZ f,N2 c,nnQ] 5 (.ptr 1 1 0 5)=some (.agg (cgC c)):=rfl;have l5':=(wV _ _ _ _ _ _).symm.trans l5;have r2:ld1 [plZ f,N2 c,nnQ] (.ptr 1 1 2 5)=some (lst di c.row):=rfl;have r3:ld1 [plZ f,N2 c,nnQ] (.ptr 1 1 3 5)=some (S c.n):=rfl;have r4:ld1 [plZ f,N2 c,nnQ] (.ptr 1 1 4 5)=some (S c.d):=rfl
 have r2':=(wW _ _ _ _ _).symm.trans r2;have r3':=(wW _ _ _ _ _).symm.trans r3;have r4':=(wW _ _ _ _ _).symm.trans r4;have lr:fL (lst di c.row)=some (I c.row.length):=rfl;have ln:sy (S c.n)=some (I c.n.length):=rfl;have ld:sy (S c.d)=some (I c.d.length):=rfl
 have sp1:∀H,AT H [.agg (plC f)]=some ([.agg (plC f)],H):=fun H=>by
  rfl
 by_cases g1:8<c.row.length
 .have g1':(8:Int)<c.row.length:=aa;simp[AS,bx,bx2];refine cd Gf ?_;simp[r2,r2',lr,g1'];refine cd Gf ?_;simp
 have g1':¬(8:Int)<c.row.length:=aa;by_cases g2:13<c.n.length
 .have g2':(13:Int)<c.n.length:=aa;simp[AS,bx,bx2];refine cd Gf ?_;simp[r2,r2',lr,g1',r3,r3',ln,g2'];refine cd Gf ?_;simp
 have g2':¬(13:Int)<c.n.length:=aa;by_cases g3:13<c.d.length
 .have g3':(13:Int)<c.d.length:=aa;simp[AS,bx,bx2];refine cd Gf ?_;simp[r2,r2',lr,g1',r3,r3',ln,g2',r4,r4',ld,g3'];refine cd Gf ?_;simp
 have g3':¬(13:Int)<c.d.length:=aa;have K:=ac7 G (c:=c) aa aa aa;have h5:=G.five;have hcl:=G.cl;have hlen:=G.wk.len;obtain⟨hin,hp0⟩:=Ei G.hp;have h61:=hin.2.1;have ch:=XY (a:=a) (c:=c) aa aa aa hh hat aa aa (fun x hx=>by have:=G.cn x hx;omega) (fun x hx=>(G.cn x hx).1);obtain⟨g,hg⟩:=nmQ (Mz a c)
 rw[<-hg]at ch K
 have sp2:∀H,AT H [.agg (adC a),.agg (cgC c)]=some ([.agg (adC a),.agg (cgC c)],H):=fun H=>by
  rfl
 have sp3:∀H,AT H [.agg (agC g),.d nPQ]=some ([.agg (agC g),.d (.sl 0 [])],H):=fun H=>by
  rfl
 have sp4:∀H,AT H [.agg (agC g),.d nPQ,.d nPQ]=some ([.agg (agC g),.d (.sl 0 []),.d (.sl 0 [])],H):=fun H=>by
  rfl
 have a1:∀(q:kkQ)(u:PU q),rh (alV 2 [.d nPQ,.d nPQ,.d nPQ,.d nPQ,.d (.str []),.d (.str [])] [plZ f,N2 c,nnQ]) q u=q (.ptr 2 1 0 6) [plZ f,N2 c,(1,.vars [.d nPQ,.d nPQ,.d nPQ,.d nPQ,.d (.str []),.d (.str [])])]:=fun _ _=>rfl
 have sd:∀(q:kkQ)(u:PU q),rh (stD [plZ f,N2 c,(1,.vars [.d nPQ,.d nPQ,.d nPQ,.d nPQ,.d (.str []),.d (.str [])])] 6 (.ptr 2 1 0 6) (.agg (agC g))) q u=q .junk [plZ f,N2 c,agB g]:=fun _ _=>rfl
 obtain⟨H,hH⟩:∃H:Hp,H=[plZ f,N2 c,agB g]:=⟨_,rfl⟩;have l6:ldA H 6 (.ptr 2 1 0 6)=some (.agg (agC g)):=by rw[hH];rfl
 have l6':=(wV _ _ _ _ _ _).symm.trans l6;rw[<-hH]at sd;simp[AS,bx,bx2];refine cd Gf ?_;simp[r2,r2',lr,g1',r3,r3',ln,g2',r4,r4',ld,g3',l120,l120'];refine cd mk ?_ (sp1 _);simp[l5,l5'];refine cd ch ?_ (sp2 _);simp[a1,sd,l6,l6'];refine cd (abP K) ?_;simp[l6,l6'];refine cd (G6 K) ?_;by_cases ne:agE g=0
 .simp[ne]
 simp[ne,l6,l6'];refine cd (YC K ne _ _) ?_;simp[l6,l6'];refine cd (U5 K ne _ 0 0) ?_;simp[l6,l6'];refine cdx (sp3 _) (T2 K ne) ?_;simp[l6,l6'];refine cd (U6 K ne) ?_;simp[l6,l6'];refine cd (YB K ne) ?_;simp[l6,l6'];refine cdx (sp3 _) (T4 K ne) ?_;simp[l6,l6'];refine cdx (sp3 _) (T5 K ne) ?_
 have afl:fL (.d (.sl 0 []))=some (I 0):=rfl;simp[l6,l6',afl];refine cdx (sp4 _) (R3 K ne) ?_;simp
mutual
def WD(w:World):D->Value->Prop
 |.int k n,v=>v=.int k n
 |.bool b,v=>v=.bool b
 |.str s,v=>v=.string ⟨⟨s⟩⟩
 |.pl u,v=>v=u∧plain u=true∧okCell u=true
 | .sl len cells,v=>(len=0∧cells=[]∧(v=.slice none 0 0∨∃a,v=.slice (some a) 0 0)) ∨
   ∃ c o cap n cs e fz,v=.slice (some ⟨c,o,none⟩) len cap∧len<=cap∧0<n∧cells.length=len*n ∧
    w.heap[c]?=some (.cells cs e fz)∧o+cells.length<=cs.size∧WDs w cells ((cs.toList.drop o).take cells.length)
def WDs(w:World):LdQ->LvQ->Prop
 |[],l=>l=[]
 |x::xs,l=>∃v vs,l=v::vs∧WD w x v∧WDs w xs vs
end
structure Ly(w:World)(φ:au)(F:Nat->Prop)(H:AH):Prop where
 rel:ak X φ H w
 wf:WF H
 fr:∀c,F c->c<H.n∧∃x,H.get c=some x∧x.st=1
 ro:∀c x,H.get c=some x->x.wr=false
 top:∀b p,φ b=some p->b<H.n
 pg:∃p,φ FZ=some p
structure dE(φ:au)(F:Nat->Prop)(H:AH)(φ':au)(F':Nat->Prop)(H':AH):Prop where
 n:H.n<=H'.n
 le:PLe φ φ'
 fm:∀c,F c->F' c
 keep:∀c,c<H.n->H'.get c=H.get c
theorem dE.refl(φ:au)(F:Nat->Prop)(H:AH):dE φ F H φ F H:=⟨Z5 _,PLe.refl _,fun _ h=>h,fun _ _=>rfl⟩
theorem dE.trans{φ φ1 φ2:au}{F F1 F2:Nat->Prop}{H H1 H2:AH}(a:dE φ F H φ1 F1 H1)(b:dE φ1 F1 H1 φ2 F2 H2):dE φ F H φ2 F2 H2:=
 ⟨Zq a.n b.n,a.le.trans b.le,fun c h=>b.fm c (a.fm c h),fun c h=>by rw[b.keep c (Zv h a.n),a.keep c h]⟩
theorem dE.leF{φ φ':au}{F F':Nat->Prop}{H H':AH}{w:World}(L:Ly w φ F H)(a:dE φ F H φ' F' H'):LeF F F' H H':=
 ⟨a.fm,fun c hc=>a.keep c (L.fr c hc).1,fun c x hx h0=>⟨x,by grind[keep,AH.get_lt],h0⟩⟩
def roB(b n:Nat)(cells:LvQ):Blk:={cells,st:=1,wr:=false,fam:=b,start:=0,shared:=false,exact:=true,esz:=n,ver:=1}
theorem Ly.push{w:World}{φ:au}{F:Nat->Prop}{H:AH}(L:Ly w φ F H){c o n:Nat}{us vs:LvQ}{cs:Array Value}{e:TypeId}{fz:Nat×Nat}(hh:w.heap[c]?=some (.cells cs e fz))
  (hlen:us.length=vs.length) (ho:o+us.length<=cs.size) (hvs:vs=(cs.toList.drop o).take us.length) (hr:af φ us vs) :
  Ly w (eT φ H.n ⟨c,o,us.length,n,cs.size,true⟩) (fun x=>F x∨x=H.n) (H.push (roB H.n n us)) ∧
  dE φ F H (eT φ H.n ⟨c,o,us.length,n,cs.size,true⟩) (fun x=>F x∨x=H.n) (H.push (roB H.n n us)):=by
 have hnone:φ H.n=none:=by
  cases hq:φ H.n with
  |none=>rfl
  |some p=>have:=L.top _ p hq;omega
 have hle:PLe φ (eT φ H.n ⟨c,o,us.length,n,cs.size,true⟩):=PLe.add hnone;have hn:(H.push (roB H.n n us)).n=H.n+1:=rfl;have old:∀b,b<H.n->(H.push (roB H.n n us)).get b=H.get b:=fun b hb=>AH.get_push aa
 have new:(H.push (roB H.n n us)).get H.n=some (roB H.n n us):=AH.get_push_new H _
 have ro:∀b x,(H.push (roB H.n n us)).get b=some x->x.wr=false:=fun b x hx=>by
  rcases Zx b H.n with h|h
  .grind[ro]
  .have hb:b=H.n:=by have:=AH.get_lt hx;omega
   subst hb;rw[new]at hx;cases hx;rfl
 refine ⟨⟨⟨fun g hg=>?_,fun b p hp=>?_,fun b p x i v hp hx h1 hv=>?_,fun b p x i hp hx h1 hi=>?_,fun b b' p p' x x' _ _ hx hx' _ _ _ _=>.inl ⟨ro b x hx,ro b' x' hx'⟩⟩,?_,fun b hb=>?_,ro,fun b p hp=>?_,L.pg.imp fun p hp=>hle _ p hp⟩,
  ⟨aa,hle,fun x h=>.inl h,old⟩⟩
 .obtain⟨p,hp,h1⟩:=L.rel.glob g hg;exact⟨p,hle g p hp,h1⟩
 .by_cases hb:b=H.n
  .subst hb;rw[aD]at hp;cases hp;exact⟨_,cs,e,fz,new,by simp[roB],rfl,rfl,rfl,hh,rfl,ho⟩
  .rw[aN hb]at hp;obtain⟨x,r⟩:=L.rel.dom b p hp
   grind[top]
 .by_cases hb:b=H.n
  .subst hb;rw[aD]at hp;cases hp;rw[new]at hx;cases hx;obtain⟨v',h1,h2⟩:=hr.at (i:=i) hv
   grind[ag.mono,cell_of_heap]
  .rw[aN hb]at hp;rw[old b (L.top b p hp)]at hx;obtain⟨v',h2,h3⟩:=L.rel.cell b p x i v hp hx h1 hv
   grind[ag.mono]
 .grind
 .refine⟨by simp[AH.push,L.wf.len],fun b x hx=>?_⟩;rcases Zx b H.n with h|h
  .rw[old b h]at hx;exact L.wf.fam b x hx
  .have hb:b=H.n:=by have:=AH.get_lt hx;omega
   subst hb;rw[new]at hx;cases hx;trivial
 .rcases hb with hb|rfl
  .obtain⟨h1,x,h2,h3⟩:=L.fr b hb;exact⟨aa,x,by grind,h3⟩
  .exact⟨aa,_,new,rfl⟩
 .by_cases hb:b=H.n
  .omega
  .rw[aN hb]at hp;have:=L.top b p hp;omega
mutual
theorem lay{w:World}:∀(d:D)(v:Value){φ:au}{F:Nat->Prop}{H:AH},Ly w φ F H->WD w d v ->
  ∃φ' F' H' u,Ly w φ' F' H'∧dE φ F H φ' F' H'∧ag φ' u v∧RD F' H' d u
 |.int k n,v,φ,F,H,L,h=>⟨φ,F,H,v,L,dE.refl ..,by simp only[WD]at h;subst h;rfl,h⟩
 |.bool b,v,φ,F,H,L,h=>⟨φ,F,H,v,L,dE.refl ..,by simp only[WD]at h;subst h;rfl,h⟩
 |.str s,v,φ,F,H,L,h=>⟨φ,F,H,v,L,dE.refl ..,by simp only[WD]at h;subst h;rfl,h⟩
 |.pl u,v,φ,F,H,L,h=>⟨φ,F,H,v,L,dE.refl ..,by grind[WD,ag.of_plain],h⟩
 | .sl len cells,v,φ,F,H,L,h=>by
  simp only[WD]at h;rcases h with⟨rfl,rfl,rfl|⟨a,rfl⟩⟩|⟨c,o,cap,n,cs,e,fz,rfl,hlc,hn,hlen,hh,ho,hds⟩
  .exact⟨φ,F,H,.slice none 0 0,L,dE.refl ..,rfl,.inl ⟨rfl,rfl,.inl rfl⟩⟩
  .obtain⟨p,hp⟩:=L.pg;obtain⟨x,_,_,_,hx,h0,_⟩:=L.rel.dom _ _ hp;exact⟨φ,F,H,.slice (some ⟨FZ,0,none⟩) 0 0,L,dE.refl ..,⟨a,0,rfl,.inr ⟨rfl,rfl,rfl,rfl,p,hp⟩⟩,.inl ⟨rfl,rfl,.inr ⟨_,_,_,rfl,x,hx,h0⟩⟩⟩
  .obtain⟨φ1,F1,H1,us,L1,E1,r1,d1⟩:=lays cells _ L hds;have hl:us.length=cells.length:=by have:=d1.length;omega
   obtain⟨L2,E2⟩:=L1.push (us:=us) (n:=n) (o:=o) hh (by grind) aa (by rw[hl]) r1;refine⟨_,_,_,.slice (some ⟨H1.n,0,none⟩) len cap,L2,E1.trans E2,?_,?_⟩
   .refine⟨⟨c,o,none⟩,cap,rfl,.inl ⟨rfl,rfl,_,aD ..,rfl,rfl,.inl rfl⟩⟩
   .have new:(H1.push (roB H1.n n us)).get H1.n=some (roB H1.n n us):=AH.get_push_new H1 _;by_cases h0:len=0
    .subst h0;exact .inl ⟨rfl,Zo aa,.inr ⟨_,_,_,rfl,_,new,by simp[roB]⟩⟩
    .refine .inr ⟨H1.n,0,cap,us,n,rfl,aa,hlc,hn,hlen,.inr rfl,?_,RDs.mono (E2.leF L1) _ _ d1,_,new,.inl rfl⟩;rw[bP new rfl (by show 0+cells.length<=us.length;omega)]
     show some ((us.drop 0).take cells.length)=_
     grind
theorem lays{w:World}:∀(ds:LdQ)(vs:LvQ){φ:au}{F:Nat->Prop}{H:AH},Ly w φ F H->WDs w ds vs ->
  ∃φ' F' H' us,Ly w φ' F' H'∧dE φ F H φ' F' H'∧af φ' us vs∧RDs F' H' ds us
 |[],vs,φ,F,H,L,h=>⟨φ,F,H,[],L,dE.refl ..,by trivial,rfl⟩
 | d::ds,vs,φ,F,H,L,h=>by
  simp only[WDs]at h;obtain⟨v,vs,rfl,h1,h2⟩:=h;obtain⟨φ1,F1,H1,u,L1,E1,r1,d1⟩:=lay d v L h1;obtain⟨φ2,F2,H2,us,L2,E2,r2,d2⟩:=lays ds vs L1 h2;exact⟨φ2,F2,H2,u::us,L2,E1.trans E2,⟨v,vs,rfl,ag.mono E2.le u v r1,r2⟩,⟨u,us,rfl,RD.mono (E2.leF L1) _ _ d1,d2⟩⟩
end
def rV:Nat->List Blk
 |0=>[]
 |n+1=>Lj::rV n
theorem kI:∀(n i:Nat)(x:Blk),(rV n)[i]?=some x->x=Lj
 |0,_,_,h=>by trivial
 |n+1,0,x,h=>by grind[rV]
 |n+1,i+1,x,h=>kI n i x (by trivial)
def fI:LvQ:=[.int .u64 1,.int .u64 10,.int .u64 100,.int .u64 1000,.int .u64 10000,.int .u64 100000,.int .u64 1000000,.int .u64 10000000,.int .u64 100000000,.int .u64 1000000000,.int .u64 10000000000,.int .u64 100000000000,
 .int .u64 1000000000000,.int .u64 10000000000000,.int .u64 100000000000000,.int .u64 1000000000000000,.int .u64 10000000000000000,.int .u64 100000000000000000,.int .u64 1000000000000000000,.int .u64 10000000000000000000]
def nP(w:World):Prop:=∃cs e fz,w.heap[FZ]?=some (.cells cs e fz)∧20<=cs.size∧fI=cs.toList.take 20
def H00:AH:=⟨FZ,rV FZ⟩
theorem tu{b:Nat}{x:Blk}(h:H00.get b=some x):x=Lj:=by
 unfold AH.get at h;split at h
 .exact kI _ _ _ h
 .trivial
theorem start{w:World}(hp:nP w):∃φ F H,Ly w φ F H∧GV Y F H:=by
 obtain⟨cs,e,fz,hh,hsz,hcs⟩:=hp
 let φ:au:=fun b=>if b=FZ then some ⟨FZ,0,20,1,cs.size,true⟩else none
 let H:AH:=H00.push (roB FZ 1 fI)
 have hn:H.n=FZ+1:=rfl;have new:H.get FZ=some (roB FZ 1 fI):=AH.get_push_new H00 _
 have old:∀{b x},b≠FZ->H.get b=some x->x=Lj:=fun{b x} hb hx=>by
  grind[H00,AH.get_push,tu]
 have hφ:∀{b p},φ b=some p->b=FZ∧p=⟨FZ,0,20,1,cs.size,true⟩:=fun{b p} h=>by
  grind
 have ro:∀b x,H.get b=some x->x.wr=false:=fun b x hx=>by
  by_cases hb:b=FZ
  .subst hb;rw[new]at hx;cases hx;rfl
  .rw[old hb hx];rfl
 have L:Ly w φ (· = FZ) H:=by
  refine⟨⟨fun g hg=>?_,fun b p hp=>?_,fun b p x i v hp hx h1 hv=>?_,fun b p x i hp hx h1 hi=>?_,fun b b' p p' x x' _ _ hx hx' _ _ _ _=>.inl ⟨ro b x hx,ro b' x' hx'⟩⟩,?_,?_,ro,fun b p hp=>?_,⟨⟨FZ,0,20,1,cs.size,true⟩,by rfl⟩⟩
  .have:g=FZ:=by simpa[X]using hg
   exact⟨⟨FZ,0,20,1,cs.size,true⟩,by grind,this.symm,rfl⟩
  .grind[roB]
  .obtain⟨rfl,rfl⟩:=hφ hp;rw[new]at hx;cases hx;have hv':fI[i]?=some v:=hv;refine⟨v,?_,?_⟩
   .grind[cell_of_heap]
   .have hm:v∈fI:=Zf hv';have:fI.all plain=true:=rfl
    grind[ag.of_plain]
  .grind
  .refine⟨by rfl,fun b x hx=>?_⟩;by_cases hb:b=FZ
   .subst hb;rw[new]at hx;cases hx;trivial
   .rw[old hb hx];exact Zg _
  .rintro c rfl;exact⟨aa,_,new,rfl⟩
  .grind
 refine⟨φ,_,H,L,fun g cs' hg=>?_⟩
 have hgp:g=FZ∧cs'=uj:=by
  simp only[Y]at hg;split at hg
  .simp_all
  .cases hg
 obtain⟨rfl,rfl⟩:=hgp;refine⟨Za _,rfl,fI,?_,?_⟩
 .rfl
 simp[uj,fI,RDs,RD]
open Go.ChangeShapes Go.WideShapes Go.ChangeAt Go.RowKit
variable{HH:Type}{enc:TypeId×Value->HH}{P:Program}{w:World}{base:Nat}{held:Bool}
theorem lG{a:Addr}{v:Value}(h:w.cell? a=some v):∃cs e fz,w.heap[a.block]?=some (.cells cs e fz)∧a.spot=none∧cs[a.off]?=some v:=by
 unfold World.cell? at h;split at h
 .rename_i c e fz hc;split at h
  .cases h
  .rename_i hs;refine⟨c,e,fz,hc,?_,h⟩;cases hq:a.spot with
   |none=>rfl
   |some s=>rw[hq]at hs;simp at hs
 .cases h
theorem addr_add(a:Addr)(hs:a.spot=none)(i:Nat):a.add i=⟨a.block,a.off+i,none⟩:=by
 unfold Addr.add;split
 .rename_i h;subst h;cases a;simp at hs ⊢;exact hs
 .rfl
theorem js{a:Addr}(h:∀i v,vs[i]?=some v->w.cell? (a.add i)=some v)(hp:0<vs.length):
  ∃cs e fz,w.heap[a.block]?=some (.cells cs e fz)∧a.spot=none∧a.off+vs.length<=cs.size∧vs=(cs.toList.drop a.off).take vs.length:=by
 obtain⟨v0,h0⟩:∃v,vs[0]?=some v:=⟨vs[0],by simp[hp]⟩;obtain⟨cs,e,fz,hc,hs,_⟩:=lG (h 0 v0 h0);have ha0:a.add 0=a:=by unfold Addr.add;simp
 rw[ha0]at hc hs
 have at_:∀i v,vs[i]?=some v->cs[a.off+i]?=some v:=fun i v hv=>by
  obtain⟨cs',e',fz',hc',_,hv'⟩:=lG (h i v hv);rw[addr_add a hs]at hc' hv';simp only at hc' hv';rw[hc]at hc';cases hc';exact hv'
 have hle:a.off+vs.length<=cs.size:=by
  have hl:=at_ (vs.length-1) vs[vs.length-1] (by rw[List.getElem?_eq_getElem]);have:=(Array.getElem?_eq_some_iff.1 hl).1;omega
 refine⟨cs,e,fz,hc,hs,hle,?_⟩;apply Zh;intro i;by_cases hi:i<vs.length
 .rw[List.getElem?_take_of_lt hi,List.getElem?_drop];have:=at_ i vs[i] (by rw[List.getElem?_eq_getElem hi]);rw[List.getElem?_eq_getElem hi];simpa using this.symm
 .rw[List.getElem?_eq_none aa,List.getElem?_eq_none bW]
inductive Sh where
 |int (k:IntKind)
 |bool
 |str
 |sl (e:Sh)
 |ar (n:Nat) (e:Sh)
 |st (fs:List Sh)
variable{s:Sh}
mutual
/-- A type has a shape. -/
def Typ(P:Program):Sh->TypeId->Prop
 |.int k,t=>P.underlying t=some (.int k)∧P.cellsOf t=1
 |.bool,t=>P.underlying t=some .bool∧P.cellsOf t=1
 |.str,t=>P.underlying t=some .string∧P.cellsOf t=1
 |.sl e,t=>∃u,P.underlying t=some (.slice u)∧P.cellsOf t=1∧0<P.cellsOf u∧Typ P e u
 |.ar n e,t=>∃u,P.underlying t=some (.array n u)∧P.cellsOf t=n*P.cellsOf u∧Typ P e u
 |.st fs,t=>∃l:List Field,P.underlying t=some (.struct l.toArray)∧oZ P fs l 0 (P.cellsOf t)
def oZ(P:Program):List Sh->List Field->Nat->Nat->Prop
 |[],l,o,n=>l=[]∧o=n
 |s::ss,l,o,n=>∃f r,l=f::r∧f.offset=o∧Typ P s f.type∧oZ P ss r (o+P.cellsOf f.type) n
end
mutual
/-- Cells of a shape. -/
def Dat:Sh->LdQ->Prop
 |.int k,ds=>∃n,ds=[.int k n]∧(Lit.int k n).wf=true
 |.bool,ds=>∃b,ds=[.bool b]
 |.str,ds=>∃s:LuQ,ds=[.str s]∧s.length<=maxLen
 |.sl e,ds=>∃xs:List LdQ,ds=[.sl xs.length xs.flatten]∧∀x∈xs,Dat e x
 |.ar n e,ds=>∃xs:List LdQ,ds=xs.flatten∧xs.length=n∧∀x∈xs,Dat e x
 |.st ss,ds=>ae4 ss ds
def ae4:List Sh->LdQ->Prop
 |[],ds=>ds=[]
 |s::ss,ds=>∃a b,ds=a++b∧Dat s a∧ae4 ss b
end
theorem WDs.append:∀{a b:LdQ}{u v:LvQ},WDs w a u->WDs w b v->WDs w (a++b) (u++v)
 |[],b,u,v,h,h2=>by grind[WDs]
 | x::a,b,u,v,h,h2=>by
  simp only[WDs]at h;obtain⟨y,u,rfl,h0,h1⟩:=h;exact⟨y,u++v,rfl,h0,h1.append h2⟩
theorem WDs.len:∀{a:LdQ}{u:LvQ},WDs w a u->a.length=u.length
 |[],u,h=>by grind[WDs]
 | x::a,u,h=>by
  simp only[WDs]at h;obtain⟨y,u,rfl,_,h1⟩:=h;simp[h1.len]
theorem dK{α:Type}(C:Nat->List α)(n:Nat):∀m,(∀i,i<m->(C i).length=n)->((List.range m).flatMap C).length=m*n∧∀i j,i<m->j<n->((List.range m).flatMap C)[i*n+j]?=(C i)[j]?
 |0,_=>⟨mR,fun i j hi=>by omega⟩
 | m+1,h=>by
  obtain⟨h1,h2⟩:=dK C n m fun i hi=>h i aa
  have e:(List.range (m+1)).flatMap C=(List.range m).flatMap C++C m:=by simp[Yp]
  rw[e];refine⟨by rw[Zy,h1,h m aa,X6],fun i j hi hj=>?_⟩;by_cases him:i<m
  .rw[List.getElem?_append_left,h2 i j him hj];rw[h1]
   calc i*n+j<i*n+n:=aa
    _=(i+1)*n:=by rw[X6]
    _<=m*n:=Zw n him
  .obtain rfl:i=m:=aa
   simp_all
theorem fD(C:Nat->LvQ)(X:Nat->LdQ):∀m,(∀i,i<m->WDs w (X i) (C i))->WDs w ((List.range m).flatMap X) ((List.range m).flatMap C)
 |0,_=>rfl
 | m+1,h=>by
  simp only[Yp,List.flatMap_append,List.flatMap_cons,List.flatMap_nil,Yf];exact(fD C X m fun i hi=>h i aa).append (h m aa)
theorem nS{a:Addr}{len:Nat}(hn:0<n)(hl:len<=cap)(hlen:vs.length=cap*n)(h:∀i v,vs[i]?=some v->w.cell? (a.add i)=some v)(hd:WDs w ds (vs.take (len*n)))(hds:ds.length=len*n):WD w (.sl len ds) (.slice (some a) len cap):=by
 simp only[WD];by_cases h0:cap=0
 .have e:len=0:=aa
  simp_all
 .have hpos:0<vs.length:=by rw[hlen];exact Yi aa hn
  have hle2:len*n<=vs.length:=by rw[hlen];exact Zw n hl
  obtain⟨cs,e,fz,hc,hs,hle,hvs⟩:=js h hpos;refine .inr ⟨a.block,a.off,cap,n,cs,e,fz,?_,hl,hn,hds,hc,aa,?_⟩
  .cases a;grind
  grind
def Opn(enc:TypeId×Value->HH)(P:Program)(w:World)(base:Nat)(held:Bool)(s:Sh):Prop:=
 ∀(t:TypeId)(fuel:Nat)(cs:LvQ)(x:DataW HH×List MemPlace),Typ P s t->DataW.trod enc P w base (fun _=>true) held fuel t cs=some x->cs.length=P.cellsOf t∧∃ds,Dat s ds∧WDs w ds cs
theorem jU[Inhabited α]{p:Nat->α->Prop}(h:∀i,i<m->∃x,p i x):∃f:Nat->α,∀i,i<m->p i (f i):=
 ⟨fun i=>if hi:i<m then Classical.choose (h i hi)else default,fun i hi=>by
  grind⟩
theorem ul(ih:Opn enc P w base held s):Opn enc P w base held (.sl s):=by
 intro t fuel cs x ht h;simp only[Typ]at ht;obtain⟨u,hu,hc1,hcu,hs⟩:=ht;rcases Deep.open_slice hu h with⟨rfl,_⟩|⟨a,len,cap,m,n,Dd,Pl,rfl,_,hlc,_,hm,_,hx⟩
 .exact⟨by grind,[.sl 0 []],⟨[],rfl,fun x hx=>by cases hx⟩,_,_,rfl,.inl ⟨rfl,rfl,.inl rfl⟩,rfl⟩
 .simp only[if_true]at hm;subst hm;obtain⟨C,hC⟩:=jU (α:=LvQ) hx
  obtain ⟨E,hE⟩:=jU (α:=LdQ) (p:=fun i e=>Dat s e∧WDs w e (C i)) (m:=m) fun i hi=>by
   obtain⟨_,ds,h1,h2⟩:=ih _ _ _ _ hs (hC i hi).2
   grind
  have hCl:∀i,i<m->(C i).length=P.cellsOf u:=fun i hi=>(World.cells?_some (hC i hi).1).2.1
  obtain⟨hl1,hl2⟩:=dK C (P.cellsOf u) m hCl;have hEl:∀i,i<m->(E i).length=P.cellsOf u:=fun i hi=>by rw[(hE i hi).2.len,hCl i hi]
  refine⟨by grind,[.sl ((List.range len).map E).length ((List.range len).map E).flatten],⟨_,rfl,fun x hx=>?_⟩,_,_,rfl,?_,rfl⟩
  .simp only[Zi,Zb]at hx;obtain⟨i,hi,rfl⟩:=hx;exact(hE i aa).1
  .rw[List.length_map,Yo,<-List.flatMap_def];refine nS (vs:=(List.range m).flatMap C) hcu hlc hl1 (fun i v hv=>?_) ?_ (dK E (P.cellsOf u) len fun i hi=>hEl i aa).1
   .have hi:=(List.getElem?_eq_some_iff.1 hv).1;rw[hl1]at hi;have hdm:=X4 i (P.cellsOf u);have hmod:=Yt i hcu;have hdiv:i/P.cellsOf u<m:=W0 (by grind);have e:i=i/P.cellsOf u*P.cellsOf u+i%P.cellsOf u:=by rw[Y5];exact hdm.symm
    have:=(World.cells?_some (hC _ hdiv).1).2.2 (i%P.cellsOf u) hmod
    grind[Addr.add_add]
   ·have e:((List.range m).flatMap C).take (len*P.cellsOf u)=(List.range len).flatMap C:=by
     have e1:List.range m=List.range len++(List.range (m-len)).map (len + ·):=by
      conv=>lhs;rw[show m=len+(m-len) by omega,List.range_add]
     rw[e1,List.flatMap_append,X3];exact(dK C (P.cellsOf u) len fun i hi=>hCl i aa).1
    rw[e];exact fD C E len fun i hi=>(hE i aa).2
theorem um(ih:Opn enc P w base held s):Opn enc P w base held (.ar n s):=by
 intro t fuel cs x ht h;simp only[Typ]at ht;obtain⟨u,hu,hct,hs⟩:=ht;obtain⟨xs,m,_,_,hl,hxl,hx⟩:=DataW.trod_array hu h
 let C:Nat->LvQ:=fun i=>(cs.drop (i*P.cellsOf u)).take (P.cellsOf u)
 obtain ⟨E,hE⟩:=jU (α:=LdQ) (p:=fun i e=>Dat s e∧WDs w e (C i)) (m:=n) fun i hi=>by
  have:=hx i hi;rw[List.getElem?_eq_getElem aa]at this;obtain⟨_,ds,h1,h2⟩:=ih _ _ _ _ hs this
  grind
 refine⟨hl,((List.range n).map E).flatten,⟨_,rfl,mR,fun x hx=>?_⟩,?_⟩
 .grind
 .rw[<-List.flatMap_def]
  have e:∀m,m<=n->cs.take (m*P.cellsOf u)=(List.range m).flatMap C:=by
   intro m
   induction m with
   |zero=>simp
   | succ m ihm=>
    intro hm;rw[X6,List.take_add,ihm aa];simp[Yp,C]
  have:=e n (Z5 _);rw[Zd aa]at this
  grind[fD]
mutual
theorem opn:∀s:Sh,Opn enc P w base held s
 | .int k=>by
  intro t fuel cs x ht h;simp only[Typ]at ht;obtain⟨n,rfl,_,hw⟩:=DataW.trod_int ht.1 h;exact⟨by grind,[.int k n],⟨n,rfl,hw⟩,_,_,rfl,rfl,rfl⟩
 | .bool=>by
  intro t fuel cs x ht h;simp only[Typ]at ht;obtain⟨b,rfl,_⟩:=DataW.trod_bool ht.1 h;exact⟨by grind,[.bool b],⟨b,rfl⟩,_,_,rfl,rfl,rfl⟩
 | .str=>by
  intro t fuel cs x ht h;simp only[Typ]at ht;obtain⟨s,rfl,_,hs⟩:=DataW.trod_string ht.1 h;exact⟨by grind,[.str s.data.toList],⟨_,rfl,by trivial⟩,_,_,rfl,rfl,rfl⟩
 |.sl e=>ul (opn e)
 |.ar n e=>um (opn e)
 | .st ss=>by
  intro t fuel cs x ht h;simp only[Typ]at ht;obtain⟨l,hu,hl⟩:=ht;obtain⟨xs,m,_,_,hcl,hxl,hx⟩:=DataW.trod_struct hu h;refine⟨hcl,?_⟩
  have:=wz ss (l:=l) (o:=0) (n:=P.cellsOf t) (fuel:=m) (cs:=cs) hl hcl fun f hf=>by
   obtain⟨i,hi⟩:=List.getElem?_of_mem hf;have h1:=hx i f (by grind)
   grind
  trivial
theorem wz:∀(ss:List Sh){l:List Field}{o n fuel:Nat}{cs:LvQ},oZ P ss l o n->cs.length=n ->
  (∀f∈l,∃x,DataW.trod enc P w base (fun _=>true) held fuel f.type ((cs.drop f.offset).take (P.cellsOf f.type))=some x)->∃ds,ae4 ss ds∧WDs w ds (cs.drop o)
 | [],l,o,n,fuel,cs,ht,hl,h=>by
  simp only[oZ]at ht;refine⟨[],rfl,?_⟩;rw[Ys aa];rfl
 | s::ss,l,o,n,fuel,cs,ht,hl,h=>by
  simp only[oZ]at ht;obtain⟨f,r,rfl,rfl,h1,h2⟩:=ht;obtain⟨x,hx⟩:=h f mR;obtain⟨_,a,ha,wa⟩:=opn s _ _ _ _ h1 hx;obtain⟨b,hb,wb⟩:=wz ss h2 hl fun g hg=>h g (by grind)
  refine⟨a++b,⟨a,b,rfl,ha,hb⟩,?_⟩
  have e:cs.drop f.offset=(cs.drop f.offset).take (P.cellsOf f.type)++cs.drop (f.offset+P.cellsOf f.type):=by
   rw[<-List.drop_drop,X8]
  grind[WDs.append]
end
inductive Ar where
 |one (x:D)
 |many (xs:LdQ)
def Ar.v:Ar->V
 |.one x=>.d x
 |.many xs=>.agg (xs.map .d)
def WA(w:World):Ar->Value->Prop
 |.one x,v=>WD w x v
 |.many xs,v=>∃ws,v=.agg ⟨ws⟩∧WDs w xs ws
def WAs(w:World):List Ar->LvQ->Prop
 |[],l=>l=[]
 |x::xs,l=>∃v vs,l=v::vs∧WA w x v∧WAs w xs vs
theorem po{F1:Nat->Prop}{H1:AH}(φ0:LnQ)(h0:Hp):∀(ds:LdQ)(us:LvQ),RDs F1 H1 ds us->RVs φ0 F1 H1 h0 (ds.map .d) us
 |[],us,h=>by trivial
 | d::ds,us,h=>by
  simp only[RDs]at h;obtain⟨u,us,rfl,h1,h2⟩:=h;exact⟨u,us,rfl,h1,po φ0 h0 ds us h2⟩
def RAs(F:Nat->Prop)(H:AH)(rs:List Ar)(us:LvQ):Prop:=∀φ0 h0,RVs φ0 F H h0 (rs.map Ar.v) us
theorem uw:∀(rs:List Ar)(vs:LvQ){φ:au}{F:Nat->Prop}{H:AH},Ly w φ F H->WAs w rs vs ->
  ∃φ' F' H' us,Ly w φ' F' H'∧dE φ F H φ' F' H'∧af φ' us vs∧RAs F' H' rs us
 |[],vs,φ,F,H,L,h=>⟨φ,F,H,[],L,dE.refl ..,by trivial,fun _ _=>rfl⟩
 | .one x::rs,vs,φ,F,H,L,h=>by
  simp only[WAs,WA]at h;obtain⟨v,vs,rfl,h1,h2⟩:=h;obtain⟨φ1,F1,H1,u,L1,E1,r1,d1⟩:=lay x v L h1;obtain⟨φ2,F2,H2,us,L2,E2,r2,d2⟩:=uw rs vs L1 h2;exact⟨φ2,F2,H2,u::us,L2,E1.trans E2,⟨v,vs,rfl,ag.mono E2.le u v r1,r2⟩,fun φ0 h0=>⟨u,us,rfl,RD.mono (E2.leF L1) _ _ d1,d2 φ0 h0⟩⟩
 | .many xs::rs,vs,φ,F,H,L,h=>by
  simp only[WAs,WA]at h;obtain⟨v,vs,rfl,⟨ws,rfl,h1⟩,h2⟩:=h;obtain⟨φ1,F1,H1,us1,L1,E1,r1,d1⟩:=lays xs ws L h1;obtain⟨φ2,F2,H2,us,L2,E2,r2,d2⟩:=uw rs vs L1 h2;exact⟨φ2,F2,H2,.agg ⟨us1⟩::us,L2,E1.trans E2,⟨_,vs,rfl,⟨ws,rfl,af.mono E2.le _ _ r1⟩,r2⟩,fun φ0 h0=>⟨_,us,rfl,⟨us1,rfl,po φ0 h0 _ _ (RDs.mono (E2.leF L1) _ _ d1)⟩,d2 φ0 h0⟩⟩
theorem jV{f:FuncId}{rs:List Ar}{b:Bool}{w:World}(hc:CP Y f (rs.map Ar.v) (.d (.bool b)))(hw:WAs w rs vs)(hp:nP w)(h0:∀u,Y.X.orc f u=none:=by exact fun _=>rfl):
  Calls X.P f vs.toArray w fun e w'=>e=.returned (.bool b)∧w'.os=w.os∧w'.output=w.output∧w.heap.size<=w'.heap.size∧∀c,c<w.heap.size->w'.heap[c]?=w.heap[c]?:=by
 obtain⟨φ,F,H,L,g⟩:=start hp;obtain⟨φ1,F1,H1,us,L1,E1,r1,d1⟩:=uw rs vs L hw;obtain⟨n,wv,H2,F2,hcall,hn,_,_,_,_,_,_,_,hr⟩:=xu vOk hc F1 H1 us L1.wf L1.fr (g.mono (E1.leF L)) d1
 have hv:wv=.bool b:=by
  have:=hr [] [];simpa only[RV,RD]using this
 subst hv;refine(lH uo hcall L1.rel (args':=vs.toArray) r1 h0).mono ?_;rintro e w' ⟨φ',v',rfl,h1,h2,h3,h4⟩;have hv':v'=.bool b:=(ag.of_plain (.bool b) rfl v').1 h1;subst hv';refine⟨rfl,h3.os,h3.out,h3.size,fun c hc=>h3.frame c hc ?_⟩;rintro⟨b',p,x,_,_,hx,_,hwr⟩
 grind[Ly.ro]
theorem mS{v:Value}{x:DataW HH×List MemPlace}(ht:Typ P s t)(h:DataW.trod enc P w base (fun _=>true) held fuel t v.cells.toList=some x)(hv:∃cs,v=.agg cs):
  ∃ds,Dat s ds∧WA w (.many ds) v:=by obtain⟨hl,ds,h1,h2⟩:=opn s _ _ _ _ ht h;obtain⟨cs,rfl⟩:=hv;exact⟨ds,h1,cs.toList,rfl,h2⟩
theorem gQ{P:Program}{W:World}{base:Nat}{fs:Array Field}{v:Value}(ht:P.underlying t=some (.struct fs))(h:Value.okWide P W .any base t v):∃cs,v=.agg cs:=by grind[Value.okWide]
theorem qU{f:α->LdQ}(q:α->Prop)(hs:∀ds,Dat s ds->∃a,ds=f a∧q a)(h:Dat (.sl s) [d]):∃l:List α,d=.sl l.length (l.flatMap f)∧∀a∈l,q a:=by
 simp only[Dat,List.cons.injEq,and_true]at h;obtain⟨xs,rfl,hx⟩:=h
 have:∀xs:List LdQ,(∀x∈xs,Dat s x)->∃l:List α,xs=l.map f∧∀a∈l,q a:=by
  intro xs
  induction xs with
  |nil=>simp
  | cons x xs ih=>
   intro h;obtain⟨n,rfl,hn⟩:=hs x (h x mR);obtain⟨zs,rfl,hz⟩:=ih fun y hy=>h y (by grind)
   exact⟨n::zs,rfl,fun m hm=>by grind⟩
 obtain⟨l,rfl,hl⟩:=this xs hx;exact⟨l,by rw[List.length_map,<-List.flatMap_def],hl⟩
def nQ(W W':World):Prop:=W'.os=W.os∧W'.output=W.output∧W.heap.size<=W'.heap.size∧∀c,c<W.heap.size->W'.heap[c]?=W.heap[c]?
variable{H:Type}{enc:TypeId×Value->H}{P:Program}
theorem nQ.but{W W':World}(h:nQ W W')(may:MemPlace->Prop):W.keptBut W' may:=by
 refine⟨h.1,h.2.1,fun i hi=>?_⟩;rw[h.2.2.2 i hi];cases hq:W.heap[i]? with
 |none=>simp
 |some o=>cases o<;>simp
theorem WX{f:Func}{s:ChangeSpec}{apart fresh handsOn again:Bool}{W W':World}{args:Array Value}{v:Value}{ds gs:List (DataW H)}{before pa pv:List MemPlace}
  (hW:DataW.Whole enc P f.params.toList s.vars apart W args.toList ds gs before)
  (hres:∀(b:Nat)(sp:Nat->Bool)(hd:Bool),DataW.TrodAll enc P W' b sp hd f.resultTypes.toList (v.resultList f.resultTypes.size) (s.fn H (ds++gs)).results [])
  (hargs:∀sp:Nat->Bool,(∀p∈before,sp p.block=true)->DataW.TrodAll enc P W' 0 sp true f.params.toList args.toList (s.fn H (ds++gs)).args pa)
  (hvars:∀sp:Nat->Bool,(∀p∈before,sp p.block=true)->DataW.TrodVars enc P W' sp s.vars (s.fn H (ds++gs)).vars pv)
  (hps:before=pa++pv) (hk:nQ W W')
  (hok:∀(j:Nat)(t:TypeId)(r:Value),f.resultTypes[j]?=some t->(v.resultList f.resultTypes.size)[j]?=some r->Value.okWide P W' .any 0 t r) :
  s.post enc P f apart fresh handsOn again W args v W':=by
 have hold:∀p∈before,(fun b=>decide (b<W.heap.size)) p.block=true:=fun p hp=>by simpa using hW.lt p hp
 have hlt:=hW.lt;refine⟨ds,gs,before,[],pa,pv,hW,hres _ _ _,hargs _ hold,hvars _ hold,World.keptBut_mono (fun p hp=>⟨hp,?_⟩) (hk.but (· ∈ before)),fun _=>?_⟩
 .rw[hps,Y6]at hp;exact Or.inr hp
 .obtain⟨_,_,_,_,_,hz,hn⟩:=hW;refine⟨hok,_,_,([]++pa)++pv,⟨[]++pa,pv,trodAll_append (hargs _ (fun _ _=>rfl)) (hres _ _ _),hvars _ (fun _ _=>rfl),rfl,?_,?_⟩,?_⟩
  .intro b off hp;have hp':MemPlace.cell b off∈before:=by rw[hps];simpa using hp
   have hb:b<W.heap.size:=hlt _ hp';have:=hz b off hp';simp only[World.frozen?]at this ⊢;rw[hk.2.2.2 b hb];exact this
  .intro ha;have:=hn ha;rw[hps]at this;simpa using this
  .intro p hp _;rw[hps];simpa using hp
theorem eW(hl:laidOutB P=true){W W':World}(hk:nQ W W'){sp:Nat->Bool}:∀{ts:List TypeId}{vs:LvQ}{ds:List (DataW H)}{ps:List MemPlace},(∀t∈ts,P.readableRec t=true∧t<P.types.size) ->
  DataW.TrodAll enc P W 0 (fun _=>true) true ts vs ds ps->(∀p∈ps,p.block<W.heap.size)->(∀p∈ps,sp p.block=true)->DataW.TrodAll enc P W' 0 sp true ts vs ds ps
 | [],vs,ds,ps,_,h,_,_=>by
  obtain⟨rfl,rfl,rfl⟩:=trodAll_nil h;exact trodAll_mk0
 | t::ts,vs,ds,ps,hr,h,hlt,hsp=>by
  obtain⟨v,vs',d,ds',p,q,rfl,rfl,rfl,h1,h2⟩:=trodAll_cons h;refine trodAll_cons_mk (WideElems.Trod_stays hl (hr t mR).1 (hr t mR).2 h1 (fun x hx=>?_) fun x hx=>hsp x (by simp[hx])) (eW hl hk (fun u hu=>hr u (by simp[hu])) h2 (fun x hx=>hlt x (by simp[hx])) fun x hx=>hsp x (by simp[hx]));have hb:=hlt x (by simp[hx]);cases x with
  | cell b off=>
   simp only[World.sameAt,World.cell?];rw[hk.2.2.2 b hb]
  |map b=>exact hk.2.2.2 b hb
theorem ig{P:Program}{w:World}:∀{l:List (String×DataW Unit)}{ps:List MemPlace},DataW.LaidVars P w l ps->∀n d,(n,d)∈l ->
  ∃g t cs fuel p,P.globalNamed n=some g∧(P.globals[g]?).map (·.type)=some t∧w.var? P n=some cs∧DataW.trod (fun _=>()) P w 0 (fun _=>true) false fuel t cs.toList=some (d,p)
 |[],_,_,_,_,hm=>by cases hm
 | (n',d')::r,ps,h,n,d,hm=>by
  obtain⟨g,t,cs,fuel,p,q,h1,h2,h3,h4,h5,_⟩:=h;rcases Zs.1 hm with e|e
  .cases e;exact⟨g,t,cs,fuel,p,h1,h2,h3,h4⟩
  .exact ig h5 n d e
def ui:LiQ:=[1,10,100,1000,10000,100000,1000000,10000000,100000000,1000000000,10000000000,100000000000,1000000000000,10000000000000,100000000000000,1000000000000000,10000000000000000,100000000000000000,1000000000000000000,10000000000000000000]
theorem uh{P:Program}{W:World}{name:String}{t e:TypeId}(hg:P.globalNamed name=some FZ)(hty:(P.globals[FZ]?).map (·.type)=some t)(ht:P.underlying t=some (.array 20 e))(he:P.underlying e=some (.int .u64))(hce:P.cellsOf e=1)(hct:P.cellsOf t=20)
  {l:List (String×DataW Unit)} (hm:(name,Lib.tabData .u64 ui)∈l) (h:laidMet P l W):nP W:=by
 obtain⟨ps,hv,_⟩:=h;obtain⟨g',t',cs,fuel,p,hg',ht',hvar,hd⟩:=ig hv _ _ hm;obtain rfl:=Option.some.inj (hg.symm.trans hg');obtain rfl:=Option.some.inj (hty.symm.trans ht')
 have tab:Lib.TabIs P W name .u64 ui:=by
  unfold Lib.TabIs;rw[hvar,<-Lib.cells_of_tab ht he hce hct hd]
 have hpv:∀i v,fI[i]?=some v->W.cell? ((⟨FZ,0,none⟩:Addr).add i)=some v:=by
  intro i v hv;have hi:i<20:=(List.getElem?_eq_some_iff.1 hv).1;rw[addr_add _ rfl];have h1:=tab.cell hg i hi;simp only[Y9];rw[h1];have h2:fI=ui.map fun z=>Value.int .u64 z:=rfl
  rw[h2,List.getElem?_map,Z6]at hv;obtain⟨z,hz,rfl⟩:=hv;simp[hz]
 obtain⟨cs,e,fz,h1,_,h2,h3⟩:=js (w:=W) (a:=⟨FZ,0,none⟩) (vs:=fI) hpv AF;exact⟨cs,e,fz,h1,by simpa[fI]using h2,by simpa[fI]using h3⟩
open Go.Proofs Go.Proofs.YtgcaaigeilmbaaaGreatDoor
theorem zI:Tryz.prog.globalNamed "internal/strconv.uint64pow10" = some FZ:=by kernel_rfl
theorem qB:(Tryz.prog.globals[FZ]?).map (·.type)=some 246:=AG
theorem tS:Tryz.prog.underlying 246=some (.array 20 180):=AG
theorem tR:Tryz.prog.underlying 180=some (.int .u64):=AG
theorem qX:Tryz.prog.cellsOf 180=1:=AG
theorem qY:Tryz.prog.cellsOf 246=20:=AG
mutual
/-- Has a type a shape? -/
def iG(P:Program):Sh->TypeId->Bool
 | .int k,t=>(match P.underlying t with
  |some (.int k')=>decide (k'=k)
  |_=>false)&&Nat.beq (P.cellsOf t) 1
 | .bool,t=>(match P.underlying t with
  |some .bool=>true
  |_=>false)&&Nat.beq (P.cellsOf t) 1
 | .str,t=>(match P.underlying t with
  |some .string=>true
  |_=>false)&&Nat.beq (P.cellsOf t) 1
 | .sl e,t=>(match P.underlying t with
  |some (.slice u)=>Nat.beq (P.cellsOf t) 1&&Nat.blt 0 (P.cellsOf u)&&iG P e u
  |_=>false)
 | .ar n e,t=>(match P.underlying t with
  |some (.array m u)=>Nat.beq m n&&Nat.beq (P.cellsOf t) (n*P.cellsOf u)&&iG P e u
  |_=>false)
 | .st fs,t=>(match P.underlying t with
  |some (.struct l)=>iU P fs l.toList 0 (P.cellsOf t)
  |_=>false)
def iU(P:Program):List Sh->List Field->Nat->Nat->Bool
 |[],l,o,n=>l.isEmpty&&Nat.beq o n
 | s::ss,l,o,n=>(match l with
  |[]=>false
  |f::r=>Nat.beq f.offset o&&iG P s f.type&&iU P ss r (o+P.cellsOf f.type) n)
end
mutual
theorem gN{P:Program}:∀{s:Sh}{t:TypeId},iG P s t=true->Typ P s t
 | .int k,t,h=>by
  simp only[iG,Z7]at h;obtain⟨h1,h2⟩:=h;split at h1
  .rename_i h3;obtain rfl:=of_decide_eq_true h1;exact⟨h3,Z2 h2⟩
  .cases h1
 | .bool,t,h=>by
  simp only[iG,Z7]at h;obtain⟨h1,h2⟩:=h;split at h1
  .rename_i h3;exact⟨h3,Z2 h2⟩
  .cases h1
 | .str,t,h=>by
  simp only[iG,Z7]at h;obtain⟨h1,h2⟩:=h;split at h1
  .rename_i h3;exact⟨h3,Z2 h2⟩
  .cases h1
 | .sl e,t,h=>by
  simp only[iG]at h;split at h
  .rename_i u h3;simp only[Z7]at h;obtain⟨⟨h1,h2⟩,h4⟩:=h;exact⟨u,h3,Z2 h1,by have:=h2;simp[Nat.blt]at this;omega,gN h4⟩
  .cases h
 | .ar n e,t,h=>by
  simp only[iG]at h;split at h
  .rename_i m u h3;simp only[Z7]at h;obtain⟨⟨h1,h2⟩,h4⟩:=h;obtain rfl:=Z2 h1;exact⟨u,h3,Z2 h2,gN h4⟩
  .cases h
 | .st fs,t,h=>by
  simp only[iG]at h;split at h
  .rename_i l h3;exact⟨l.toList,by rw[h3],mV h⟩
  .cases h
theorem mV{P:Program}:∀{ss:List Sh}{l:List Field}{o n:Nat},iU P ss l o n=true->oZ P ss l o n
 | [],l,o,n,h=>by
  simp only[iU,Z7,List.isEmpty_iff]at h;exact⟨h.1,Z2 h.2⟩
 |s::ss,[],o,n,h=>by simp[iU]at h
 | s::ss,f::r,o,n,h=>by
  simp only[iU,Z7]at h;obtain⟨⟨h1,h2⟩,h3⟩:=h;exact⟨f,r,rfl,Z2 h1,gN h2,mV h3⟩
end
def tY:Sh:=.st [.int .u8,.ar 5 (.int .u8),.ar 5 (.ar 3 (.ar 3 (.int .i8))),.ar 4 (.ar 2 (.ar 2 (.int .u8))),.int .u8]
def ZJ:Sh:=.st [tY,.ar 5 (.int .u8),.ar 5 (.ar 3 (.ar 3 (.int .i8))),.st [.int .i8,.int .u8]]
def Flt(k:IntKind)(n:Nat)(ds:LdQ):Prop:=ds.length=n∧∀d∈ds,∃z,d=.int k z∧(Lit.int k z).wf=true
theorem HO(h:Dat (.int k) ds):Flt k 1 ds:=by obtain⟨n,rfl,hw⟩:=h;exact⟨rfl,fun d hd=>⟨n,by simpa using hd,hw⟩⟩
theorem Tz{k:IntKind}{m:Nat}:∀xs:List LdQ,(∀x∈xs,Flt k m x)->Flt k (xs.length*m) xs.flatten
 |[],_=>⟨mR,fun d hd=>by simp at hd⟩
 | x::xs,h=>by
  obtain⟨a1,a2⟩:=h x mR;obtain⟨b1,b2⟩:=Tz xs fun y hy=>h y (by simp[hy])
  refine⟨by rw[List.flatten_cons,Zy,a1,b1,List.length_cons,X6];omega,fun d hd=>?_⟩;rw[List.flatten_cons]at hd;rcases Y6.1 hd with hd|hd
  .exact a2 d hd
  .exact b2 d hd
theorem dk{e:Sh}(he:∀ds,Dat e ds->Flt k m ds)(h:Dat (.ar n e) ds):Flt k (n*m) ds:=by obtain⟨xs,rfl,hl,hx⟩:=h;rw[<-hl];exact Tz xs fun x hm=>he x (hx x hm)
def Kdn(o:Nat)(ds:LdQ):Prop:=∀j,j<ds.length->∃z,ds[j]?=some (.int (NP (o+j)) z)∧(Lit.int (NP (o+j)) z).wf=true
theorem dN(h:Flt k n ds)(hk:∀j<n,NP (o+j)=k):Kdn o ds:=fun j hj=>by
 obtain⟨z,e,hw⟩:=h.2 ds[j] (Xq hj);rw[hk j (by have:=h.1;omega)];exact⟨z,by rw[List.getElem?_eq_getElem hj,e],hw⟩
theorem cC{a b:LdQ}(ha:Kdn o a)(hl:a.length=n)(hb:Kdn (o+n) b):Kdn o (a++b):=fun j hj=>by
 rw[Zy]at hj;by_cases h:j<a.length
 .obtain⟨z,e,hw⟩:=ha j h;exact⟨z,by rw[List.getElem?_append_left h,e],hw⟩
 .obtain⟨z,e,hw⟩:=hb (j-a.length) aa;rw[show o+n+(j-a.length)=o+j by omega]at e hw;exact⟨z,by rw[List.getElem?_append_right aa,e],hw⟩
def ivD:D->Int
 |.int _ z=>z
 |_=>0
theorem wf_u8{n:Int}(h:(Lit.int .u8 n).wf=true):0<=n∧n<=255:=by simp only[Lit.wf,Z7,decide_eq_true_eq]at h;exact h
theorem wf_i8{n:Int}(h:(Lit.int .i8 n).wf=true): -128<=n∧n<=127:=by simp only[Lit.wf,Z7,decide_eq_true_eq]at h;exact h
theorem wf_i64{n:Int}(h:(Lit.int .i64 n).wf=true): -9223372036854775808<=n∧n<=9223372036854775807:=by simp only[Lit.wf,Z7,decide_eq_true_eq]at h;exact h
theorem abi(h:Dat ZJ ds):∃f:Nat->Int,Ab f∧ds.map V.d=plC f:=by
 obtain⟨a,b,rfl,h1,h2⟩:=h;obtain⟨a1,b1,rfl,q1,r1⟩:=h1;obtain⟨a2,b2,rfl,q2,r2⟩:=r1;obtain⟨a3,b3,rfl,q3,r3⟩:=r2;obtain⟨a4,b4,rfl,q4,r4⟩:=r3;obtain⟨a5,b5,rfl,q5,rfl⟩:=r4;obtain⟨a6,b6,rfl,q6,r6⟩:=h2;obtain⟨a7,b7,rfl,q7,r7⟩:=r6;obtain⟨a8,b8,rfl,q8,rfl⟩:=r7;obtain⟨a9,b9,rfl,q9,r9⟩:=q8;obtain⟨a0,b0,rfl,q0,rfl⟩:=r9;have f1:=HO q1;have f2:Flt .u8 (5*1) a2:=dk (fun _ h=>HO h) q2
 have f3:Flt .i8 (5*(3*(3*1))) a3:=dk (fun _ h=>dk (fun _ h=>dk (fun _ h=>HO h) h) h) q3;have f4:Flt .u8 (4*(2*(2*1))) a4:=dk (fun _ h=>dk (fun _ h=>dk (fun _ h=>HO h) h) h) q4;have f5:=HO q5;have f6:Flt .u8 (5*1) a6:=dk (fun _ h=>HO h) q6
 have f7:Flt .i8 (5*(3*(3*1))) a7:=dk (fun _ h=>dk (fun _ h=>dk (fun _ h=>HO h) h) h) q7;have f9:=HO q9;have f0:=HO q0
 have K:Kdn 0 ((a1++(a2++(a3++(a4++(a5++[])))))++(a6++(a7++((a9++(a0++[]))++[])))):=by
  refine cC (n:=68) (cC (dN f1 fun j hj=>oF aa) f1.1 (cC (dN f2 fun j hj=>oF aa) f2.1 (cC (dN f3 fun j hj=>uy aa) f3.1 (cC (dN f4 fun j hj=>oF aa) f4.1 (cC (dN f5 fun j hj=>oF aa) f5.1 fun j hj=>by simp at hj))))) ?_
   (cC (dN f6 fun j hj=>oF aa) f6.1 (cC (dN f7 fun j hj=>uy aa) f7.1 (cC (n:=2) (cC (dN f9 fun j hj=>uy aa) f9.1 (cC (dN f0 fun j hj=>oF aa) f0.1 fun j hj=>by simp at hj)) ?_ fun j hj=>by simp at hj)))
  .simp only[Zy,f1.1,f2.1,f3.1,f4.1,f5.1,List.length_nil]
  .simp only[Zy,f9.1,f0.1,List.length_nil]
 have L:((a1++(a2++(a3++(a4++(a5++[])))))++(a6++(a7++((a9++(a0++[]))++[])))).length=120:=by
  simp only[Zy,f1.1,f2.1,f3.1,f4.1,f5.1,f6.1,f7.1,f9.1,f0.1,List.length_nil]
 generalize(a1++(a2++(a3++(a4++(a5++[])))))++(a6++(a7++((a9++(a0++[]))++[])))=ds at K L
 have key:∀j,j<120->ds[j]?=some (plD (fun j=>ivD (ds.getD j (.bool true))) j)∧(Lit.int (NP j) (ivD (ds.getD j (.bool true)))).wf=true:=fun j hj=>by
  obtain⟨z,e,hw⟩:=K j aa;rw[Y9]at e hw;have ez:ivD (ds.getD j (.bool true))=z:=by rw[Z4,e];rfl
  exact⟨by rw[e];show _=some (D.int (NP j) (ivD (ds.getD j (.bool true))));rw[ez],by rw[ez];exact hw⟩
 refine⟨fun j=>ivD (ds.getD j (.bool true)),⟨fun j hj hk=>?_,fun j hj hk=>?_⟩,?_⟩
 .have:=(key j hj).2;rw[hk]at this;exact wf_u8 this
 .have:=(key j hj).2;rw[hk]at this;exact wf_i8 this
 .apply Zh;intro j;by_cases hj:j<120
  .rw[List.getElem?_map,(key j hj).1];unfold plC;rw[om _ hj];rfl
  .rw[List.getElem?_eq_none bW,List.getElem?_eq_none (by simp[plC];omega)]
def wC(x:Int):Prop:=-9223372036854775808<=x∧x<=9223372036854775807
abbrev mY:Sh:=.sl (.int .i64)
theorem sR(h:Dat mY [d]):∃l:LiQ,d=row l∧∀x∈l,wC x:=by
 obtain ⟨l,rfl,hl⟩:=qU (f:=fun n=>[di n]) wC (fun ds h=>by
  obtain⟨n,e,hw⟩:=h;exact⟨n,e,wf_i64 hw⟩) h
 exact⟨l,by simp only[row,List.map_eq_flatMap],hl⟩
def zu:DataW Unit->Value
 |.lit (.int k n)=>.int k n
 |_=>undef
def tV:DataW Unit->Array Value
 |.agg l=>(l.map zu).toArray
 |_=>#[]
def xf:DataW Unit->Value
 |.iface _ (.ptr (.agg [.lit (.string l)]))=>.string ⟨l.toArray⟩
 |_=>undef
def pn(cs:Array Value):Obj->Obj
 |.cells _ t frozen=>.cells cs t frozen
 |o=>o
noncomputable def fM(os:Os):World:=
 let w0:=World.holding Tryz.prog os ⟨#[.cells #[xf Rows.laid_strconv_ErrSyntax] 255,.cells #[xf Rows.laid_strconv_ErrRange] 255],#[],[]⟩
 let low:=(World.settled Tryz.prog os).heap.size
 {w0 with heap:=((((w0.heap.modify 0 (pn #[.iface 253 (.pointer (some ⟨low,0,none⟩))])).modify 1 (pn #[.iface 253 (.pointer (some ⟨low+1,0,none⟩))])).modify 2 (pn (tV Rows.laid_internal_strconv_uint64pow10))).modify 3 (pn (tV Rows.laid_math_bits_deBruijn32tab))).modify 4 (pn (tV Rows.laid_math_bits_deBruijn64tab))}
theorem sS(h:Dat (.st [.int .u8,.int .u8,mY,.st [.str,.str]]) ds):∃c:Chg,c.how<256∧c.at_<256∧ds.map V.d=cgC c:=by
 obtain⟨a,b,rfl,⟨n,rfl,hn⟩,a1,b1,rfl,⟨m,rfl,hm⟩,a2,b2,rfl,h2,a3,b3,rfl,⟨a4,b4,rfl,⟨s,rfl,hs⟩,a5,b5,rfl,⟨t,rfl,ht⟩,rfl⟩,rfl⟩:=h
 obtain ⟨d,rfl,h2⟩:∃d,a2=[d]∧Dat mY [d]:=by
  obtain⟨xs,rfl,h⟩:=h2;exact⟨_,rfl,xs,rfl,h⟩
 obtain⟨r,rfl,hr⟩:=sR h2;have u1:=wf_u8 hn;have u2:=wf_u8 hm;refine⟨⟨n.toNat,m.toNat,r,s,t⟩,by show n.toNat<256;omega,by show m.toNat<256;omega,?_⟩;simp only[cgC,Int.toNat_of_nonneg u1.1,Int.toNat_of_nonneg u2.1];rfl
end Go.Vm
