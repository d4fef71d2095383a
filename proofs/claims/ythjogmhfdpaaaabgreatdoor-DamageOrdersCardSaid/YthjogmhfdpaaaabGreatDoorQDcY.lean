/- Lemmas. -/
import Derived.Test.YthjogmhfdpaaaabGreatDoorQDcX
set_option linter.unusedVariables false
set_option linter.unusedSimpArgs false
open Option renaming some->Wf,none->Vc
open Bool renaming true->Th,false->SM
open Go renaming IntKind->iK
open List renaming replicate->So,length->RW
namespace Go.Vm
open Go Go.Am Go.Big
variable{j n2 w k q cap len N a b d c:Nat}{ol' DH:ax}{α:Type}{z:Int}
section
variable{H:Hp}{p7 p8 pa0 pb0 pb1:V}{n i:Nat}{L lD lB x0 x1 x2 y0 y1 D v hi:Nat}
theorem alk(G:Gs Z L lD lB x0 x1 x2 y0 y1 D v hi)(hy1Z:y1<Z)(hhi:hi<Z*Z)(hn:2<=n)(hnb:n<Z)(hib:i<Z)
  (a1:bC H 1 p7 (I ((i:Int)+(n:Int)-2))=Wf pa0) (a2:ld1 H pa0=Wf (U x0)) (b1:bC H 1 p8 (I ((n:Int)-2))=Wf pb0) (b2:ld1 H pb0=Wf (U y0))
  (c1:bC H 1 p8 (I ((n:Int)-1))=Wf pb1) (c2:ld1 H pb1=Wf (U y1)) (k:KL) (h0:Hp) (hh:RW h0=RW H) :
  ∀(N g r:Nat),g<=N->g*y1+r=hi->D/v<=g->(∀g':Nat,D/v<=g'->g'*v<D+v->g'<Z->k (.exit 4) [U g'] H) ->
  lp (uM DA p7 p8 (I n) (I i)) [] h0 [U g,U r] H k:=by
 intro N
 induction N with
 | zero=>
  intro g r hg0 he hq hk;have hZ:Z=1000000000:=rfl;simp only[hZ]at hhi hnb hib;have hg:g=0:=aa;have hr:r=hi:=by rw[hg]at he;omega
  have hnear:g*v<D+v:=by have:=G.pos;rw[hg,Wb];omega
  have hgZ:g<Z:=by rw[hg];decide
  have g0:¬(1000000000:Int)<=(g:Int):=aa;have p0:(g:Int)*(y0:Int)=0:=by rw[hg];simp
  have hx0:=G.hx0;simp[hZ]at hx0;clear he;apply aL;by_cases g1:(r:Int)<1000000000
  .have g3:¬(r:Int)*1000000000+x0<0:=aa;simp(disch:=omega) [uM,a1,a2,b1,b2,g0,g1,p0,g3];exact hk g hq hnear hgZ
  .simp[uM,a1,a2,b1,b2,g0,g1];exact hk g hq hnear hgZ
 | succ N ih=>
  intro g r hgN he hq hk;rcases Ze g with hg0|hgp
  .exact ih g r aa he hq hk
  obtain⟨g,rfl⟩:∃g',g=g'+1:=⟨g-1,aa⟩;have hZ:Z=1000000000:=rfl;simp only[hZ]at hhi hnb hib;have hrb:r<=hi:=aa
  have hgb:g+1<=hi:=by
   have:=Z4 (g+1) G.hy1;omega
  have he2:g*y1+(r+y1)=hi:=by rw[X3]at he;omega
  have hx0:=G.hx0;have hy0:=G.hy0;have go:D/v<=g->lp (uM DA p7 p8 (I n) (I i)) [] h0 [U g,U (r+y1:Nat)] H k:=λhq2=>ih g (r+y1) aa he2 hq2 hk
  have⟨p,hp⟩:=bD ((g+1)*y0);have hpi:((g:Int)+1)*(y0:Int)=(p:Int):=by rw[hp];simp
  by_cases g1:(1000000000:Int)<=(g:Int)+1
  .have hq2:=G.far (g:=g+1) (by simp only[hZ];omega);have g1':=g1;have:=go aa;apply aL;simp(disch:=omega) [uM,g1',c1,c2,hh];simpa using this
  have g1':=g1;by_cases g2:(r:Int)<1000000000
  .have hpb:p<=1000000000*1000000000:=by rw[hp];exact Zr aa aa
   by_cases g3:(r:Int)*1000000000+x0<p
   .have hq2:=G.over he (by rw[<-hp];simp[hZ];omega);have g3':=g3;have:=go aa;apply aL;simp(disch:=omega) [uM,a1,a2,b1,b2,g1',g2,hpi,g3',c1,c2,hh];simpa using this
   .have hn1:=G.near he (by simp[hZ];omega) (by rw[<-hp];intro h;have:=h.2;simp[hZ]at this;omega);have g3':=g3;apply aL;simp(disch:=omega) [uM,a1,a2,b1,b2,g1',g2,hpi,g3',c1,c2,hh];exact hk (g+1) hq hn1 (by simp[hZ];omega)
  .have g2':=g2;have hn1:=G.near he (by simp[hZ];omega) (λh=>by have:=h.1;simp[hZ]at this;omega);apply aL;simp[uM,a1,a2,b1,b2,g1',g2',c1,c2,hh];exact hk (g+1) hq hn1 (by simp[hZ];omega)
end
theorem Sp{Pc:ax}:∀(i:Nat)(h0 h:Hp),RW h=RW h0->(∀j,fC Pc (i+j)=SM->∀x,h[j]?=Wf x->∃b,h0[j]?=Wf (x.1,b)∧x.2=.none)->dl Pc i h0 h=h
 | _,[],h,hl,_=>by
  have:h=[]:=Zn (by simpa using hl);subst this;rfl
 |i,x0::h0,[],hl,_=>by simp at hl
 | i,x0::h0,x::h,hl,hs=>by
  rw[C5,Sp (i+1) h0 h (by simpa using hl) (λj hj y hy=>hs (j+1) (by rw[show i+(j+1)=i+1+j by omega];exact hj) y hy)];by_cases hc:fC Pc i=Th
  .rw[ip hc]
  .rw[iN hc];have⟨b,h1,h2⟩:=hs 0 (by simpa using hc) x rfl;simp[List.getElem?_cons_zero,Z9]at h1;rw[h1];simp only;rw[<-h2]
theorem LC{Pc:ax}:∀(i:Nat)(h:Hp),(∀x∈h,offB Pc x.2=Th)->iq Pc i h=Th
 |_,[],_=>rfl
 | i,x::h,hs=>by
  rw[GM,hs x ac,LC (i+1) h λy hy=>hs y (by simp[hy])];simp
def dH(g:Hp)(sa:Nat)(exa:Bool)(al ol:ax):Hp:=sP (sP g 4 1 Th ol) sa 1 exa al
structure rK(g:Hp)(sa:Nat)(bl:ax):Prop where
 len:RW g=9
 sa:sa<2
 b:g[2]?=Wf (1,.data 1 (bl.map u6) Th SM)
 c5:g[5]?=Wf ah
 c6:g[6]?=Wf ah
 off:∀x∈g,offB [5,6] x.2=Th
 und:(g.all λx=>cj 9 x.2)=Th
variable{g:Hp}{sa:Nat}{exa:Bool}{al ol bl:ax}
theorem N4(G:rK g sa bl):RW (dH g sa exa al ol)=9:=by simp[dH,G.len]
theorem N6(G:rK g sa bl):(dH g sa exa al ol)[sa]?=Wf (1,.data 1 (al.map u6) exa SM):=qJ (by have:=G.sa;simp[G.len];omega)
theorem N5(G:rK g sa bl):(dH g sa exa al ol)[2]?=Wf (1,.data 1 (bl.map u6) Th SM):=by have:=G.sa;rw[dH,sP,List.getElem?_set_ne aa,sP,List.getElem?_set_ne aa,G.b]
theorem N3(G:rK g sa bl):(dH g sa exa al ol)[4]?=Wf (1,.data 1 (ol.map u6) Th SM):=by have:=G.sa;rw[dH,sP,List.getElem?_set_ne aa];exact qJ (by rw[G.len];decide)
theorem aac(hj:j=5∨j=6)(G:rK g sa bl):(dH g sa exa al ol)[j]?=Wf ah:=by
 have:=G.sa;rw[dH,sP,List.getElem?_set_ne aa,sP,List.getElem?_set_ne aa];rcases hj with rfl|rfl
 .exact G.c5
 .exact G.c6
theorem aoj(G:rK g sa bl):(dH g sa exa al ol).set 4 (1,.data 1 (ol'.map u6) Th SM)=dH g sa exa al ol':=by have:=G.sa;rw[dH,sP,V6 _ _ aa];simp[dH,sP]
theorem aab(G:rK g sa bl):∀x∈dH g sa exa al ol,offB [5,6] x.2=Th:=by
 intro x hx;rcases Yj hx with h|h
 .rcases Yj h with h|h
  .exact G.off x h
  .rw[h];rfl
 .rw[h];rfl
theorem aaa(G:rK g sa bl){ex':Bool}:dl [5,6] 0 (dH g sa ex' DH ol') (dH g sa exa al ol)=dH g sa exa al ol:=by
 refine Sp 0 _ _ (by rw[N4 G,N4 G]) λj hj x hx=>?_
 have hj2:j=5∨j=6:=by
  simp only[Zh,TK,air,X8,beq_lit]at hj;by_cases h5:j=5
  .exact .inl h5
  .by_cases h6:j=6
   .exact .inr h6
   .exfalso;simp[Ne.symm h5,Ne.symm h6]at hj
 rw[aac hj2 G]at hx;cases hx;exact⟨.none,aac hj2 G,rfl⟩
theorem aok(G:rK g sa bl){n:Nat}(hbl:RW bl=n+1):zz (λt=>∃l,t=sP (sP g 4 1 Th ol) sa 1 exa l) (.ref 2 1 0 n (n+1) (n+1)) (bl.take n):=by
 have e1:RW (bl.take n)=n:=by simp;omega
 refine⟨by rw[e1];rfl,?_⟩;rintro t i ⟨l,rfl⟩ hi;have hb:=N5 (exa:=exa) (al:=l) (ol:=ol) G;refine⟨.ptr 2 1 i (n+1),?_,?_⟩
 .have:=qk hb hbl.symm (len:=n) (cap:=n+1) (i:=(i:Int)) aa aa .i64
  rwa [Int.toNat_natCast]at this
 .rw[LG aa];exact um hb hbl.symm aa
theorem amL{l:ax}{n:Nat}(h:RW l=n+2):l.drop n=[nth 0 l n,nth 0 l (n+1)]:=by rw[Yw aa,Yw aa,Y9 aa,gN _ _ _ aa,gN _ _ _ aa]
theorem alo{al db:ax}{i:Nat}(hsa:bL Z al)(hsb:bL Z db)(hdl:RW db=n2+2)(hi:i+RW db<RW al)(hy:0<nth 0 db (n2+1))(hD:val Z (al.drop i)<Z*val Z db):
  Gs Z (Z^n2) (val Z ((al.drop i).take n2)) (val Z (db.take n2)) (nth 0 al (i+n2)) (nth 0 al (i+n2+1)) (nth 0 al (i+n2+2)) (nth 0 db n2) (nth 0 db (n2+1)) (val Z (al.drop i)) (val Z db) (nth 0 al (i+n2+2)*Z+nth 0 al (i+n2+1)):=by
 have hvb:=jH (B:=Z) cL hsb
 have hDlt:val Z (al.drop i)<Z^(n2+3):=by
  rw[Nat.pow_succ,Zq (Z^(n2+2)),<-hdl];exact Nat.lt_trans hD (Nat.mul_lt_mul_of_pos_left hvb cL)
 have htop:val Z (al.drop (i+n2+3))=0:=by
  rw[show i+n2+3=i+(n2+3) by omega,<-List.drop_drop];exact PV cL hDlt
 have e1:=rP (B:=Z) (al.drop i) n2 ae;rw[List.drop_drop,u9 al (i+n2),u9 al (i+n2+1),u9 al (i+n2+1+1),htop,Nat.mul_zero]at e1;simp only[Nat.add_zero]at e1;have e2:=rP (B:=Z) db n2 aa;rw[amL hdl]at e2;have l1:=jH (B:=Z) cL ((hsa.drop i).take n2);have l2:=jH (B:=Z) cL (hsb.take n2)
 rw[Zp,Yp ae]at l1;rw[Zp,Yp aa]at l2;refine⟨cL,?_,?_,l1,l2,hsa.getD cL _,hsb.getD cL _,hy,hD⟩
 .rw[e1]
  show _=val Z ((al.drop i).take n2)+Z^n2*(al.getD (i+n2) 0+Z*(al.getD (i+n2+2) 0*Z+al.getD (i+n2+1) 0))
  grind
 trivial
variable{g:Hp}{sa:Nat}{exa:Bool}{bl db:ax}{n M m A:Nat}
theorem ZH(G:rK g sa bl)(hdb:bl.take n=db)(hbl:RW bl=n+1)(hsb:bL Z db)(hn:2<=n)(hnb:n<Z)(hM:M=m+n)(hMb:M<100000000)(hy:0<nth 0 db (n-1))(al0 ol0:ax)(k:KL) :
  ∀(i:Nat)(al ol:ax),i<=m->RW al=M->RW ol=m->bL Z al->bL Z ol->val Z (al.drop i)<val Z db->val Z al+val Z db*val Z ol=A->(∀j,j<i->nth 0 ol j=0) ->
  (∀DH ol',RW DH=M->RW ol'=m->bL Z DH->bL Z ol'->val Z DH<val Z db->val Z DH+val Z db*val Z ol'=A->k (.exit 2) [] (dH g sa exa DH ol')) ->
  lp (BU DA (.ref sa 1 0 M M M) (.ref 2 1 0 n (n+1) (n+1)) (I n) (.ref 4 1 0 m m m)) [5,6] (dH g sa exa al0 ol0) [I ((i:Int)-1)] (dH g sa exa al ol) k
 | 0,al,ol,hi,DQ,hol,hsa,hso,hD,hA,hz,hk=>by
  apply aL;simp[BU]
  grind
 | i+1,al,ol,hi,DQ,hol,hsa,hso,hD,hA,hz,hk=>by
  have hdl:RW db=n:=by rw[<-hdb];simp;omega
  have⟨n2,hn2⟩:∃n2,n=n2+2:=⟨n-2,aa⟩;have hZ:Z=1000000000:=rfl
  have hD2:val Z (al.drop i)<Z*val Z db:=by
   rw[u9];have h1:=hsa.getD cL i;have h2:=Z4 Z hD;rw[Nat.mul_succ]at h2;omega
  have Gq:=alo (i:=i) hsa hsb (n2:=n2) aa aa (by rw[show n2+1=n-1 by omega];exact hy) hD2;have e0:((i+1:Nat):Int)-1=(i:Int):=aa;have⟨x0,hx0⟩:=bZ (nth 0 al (i+n2));have⟨x1,hx1⟩:=bZ (nth 0 al (i+n2+1));have⟨x2,hx2⟩:=bZ (nth 0 al (i+n2+2));have⟨y0,hy0⟩:=bZ (nth 0 db n2);have⟨y1,hy1⟩:=bZ (nth 0 db (n2+1))
  have hx1Z:x1<Z:=by rw[<-hx1];exact hsa.getD cL _
  have hx2Z:x2<Z:=by rw[<-hx2];exact hsa.getD cL _
  have hy1Z:y1<Z:=by rw[<-hy1];exact hsb.getD cL _
  rw[hx0,hx1,hx2,hy0,hy1]at Gq;have⟨hi_,hhi⟩:=bZ (x2*Z+x1);rw[hhi]at Gq
  have hhib:hi_<Z*Z:=by
   have:=Zu Z (show x2+1<=Z by omega);rw[Nat.add_mul]at this;omega
  have nb:∀j,j<n->nth 0 bl j=nth 0 db j:=λj hj=>by rw[<-hdb,LG hj]
  have rA:=λ(j:Nat)(hj:j<M)=>qk (N6 (exa:=exa) (al:=al) (ol:=ol) G) DQ.symm (len:=M) (cap:=M) (i:=(j:Int)) aa aa .i64
  have lA:=λ(j:Nat)(hj:j<M)=>um (N6 (exa:=exa) (al:=al) (ol:=ol) G) DQ.symm (j:=j) aa
  have rB:=λ(j:Nat)(hj:j<n)=>qk (N5 (exa:=exa) (al:=al) (ol:=ol) G) hbl.symm (len:=n) (cap:=n+1) (i:=(j:Int)) aa aa .i64
  have lB:=λ(j:Nat)(hj:j<n)=>um (N5 (exa:=exa) (al:=al) (ol:=ol) G) hbl.symm (j:=j) aa
  simp[Int.toNat_natCast]at rA rB;have a0:=rA (i+n2) aa;have a0l:=lA (i+n2) aa;have a1:=rA (i+n2+1) aa;have a1l:=lA (i+n2+1) aa;have a2:=rA (i+n2+2) aa;have a2l:=lA (i+n2+2) aa;have b0:=rB n2 aa;have b0l:=lB n2 aa;have b1:=rB (n2+1) aa;have b1l:=lB (n2+1) aa;rw[hx0]at a0l;rw[hx1]at a1l;rw[hx2]at a2l
  rw[nb _ aa,hy0]at b0l;rw[nb _ aa,hy1]at b1l;have s0:((i+n2:Nat):Int)=(i:Int)+(n:Int)-2:=aa;have s1:((i+n2+1:Nat):Int)=(i:Int)+(n:Int)-1:=aa;have s2:((i+n2+2:Nat):Int)=(i:Int)+(n:Int):=aa;have t0:((n2:Nat):Int)=(n:Int)-2:=aa;have t1:((n2+1:Nat):Int)=(n:Int)-1:=aa;rw[s0]at a0;rw[s1]at a1;rw[s2]at a2;rw[t0]at b0;rw[t1]at b1
  have hy1p:0<y1:=Gq.hy1;have e3:(x2:Int)*1000000000+(x1:Int)=(hi_:Int):=by simp[hZ]at hhi;omega
  have⟨q0,hq0⟩:=bZ (hi_/y1);have⟨r0,hr0⟩:=bZ (hi_%y1);have e4:(hi_:Int)/(y1:Int)=(q0:Int):=by rw[<-hq0];simp
  have e5:(hi_:Int)%(y1:Int)=(r0:Int):=by rw[<-hr0];simp
  have hdm:q0*y1+r0=hi_:=by rw[<-hq0,<-hr0,Zq];exact Xo hi_ y1
  have hq0b:q0<=hi_:=by rw[<-hq0];exact Yv ..
  have hn0:¬((y1:Int)=0):=aa;have fst:=Gq.first
  rw[hq0]at fst;apply aL;rw[e0];simp(disch:=omega) [BU,a1,a1l,a2,a2l,b1,b1l,e3,hn0,Zt,Zs,e4,e5];refine lo (alk Gq hy1Z hhib hn hnb aa a0 a0l b0 b0l b1 b1l _ _ rfl q0 q0 r0 (Z8 _) hdm fst λg' hg1 hg2 hg3=>?_);simp only[pA];have hl9:RW (sP g 4 1 Th ol)=9:=by simp[G.len]
  have hu:((sP g 4 1 Th ol).all λx=>cj (RW (sP g 4 1 Th ol)) x.2)=Th:=by rw[hl9];exact AI G.und
  have hsa2:sa<RW (sP g 4 1 Th ol):=by rw[hl9];have:=G.sa;omega
  have rd:=aok (exa:=exa) (ol:=ol) G hbl;rw[hdb]at rd;have⟨w,hw⟩:=bZ ((gz g' i db (RW db+1) 0 0 0 al).1);have⟨l1,hl1⟩:=bZ ((gz g' i db (RW db+1) 0 0 0 al).2);have⟨l2,hl2⟩:=bZ (m9 i db (RW db+1) 0 0 l1);have⟨⟨k1,k2⟩,k3,k4⟩:=am5 (i:=i) hsa hsb aa hg3 hD2 hg2 hg1 hw hl1 hl2
  have tk:=Qm (Fr:=i) (g:=g') (tot:=M) hu hsa2 rd hsb hg3 aa aa DQ hsa;rw[hw,hl1]at tk;have bk:=aa9 (Fr:=i) (tot:=M) (l:=l1) hu hsa2 rd hsb aa aa aa k2;rw[hl2]at bk;have hvs:=λq=>zK (B:=Z) ol i q aa
  have hz0:ol.getD i 0=0:=hz i aa
  have go:∀(q:Nat)(l:ax),bL Z l->RW l=RW al->l.take i=al.take i->q=val Z (al.drop i)/val Z db->val Z (l.drop i)=val Z (al.drop i)%val Z db ->
    lp (BU DA (.ref sa 1 0 M M M) (.ref 2 1 0 n (n+1) (n+1)) (I n) (.ref 4 1 0 m m m)) [5,6] (dH g sa exa al0 ol0) [I ((i:Int)-1)] (dH g sa exa l (ol.set i q)) k:=by
   intro q l c1 c2 c3 c4 c5;have hvp:=Gq.pos;have hqZ:q<Z:=by rw[c4];exact(Xf hvp).2 hD2
   refine ZH G hdb hbl hsb hn hnb hM hMb hy al0 ol0 k i l (ol.set i q) aa aa ae c1 (hso.set hqZ) (by rw[c5];exact Y7 _ hvp) ?_ (λj hj=>by rw[LH aa];exact hz j aa) hk;have h1:=hvs q;rw[hz0,Nat.mul_zero,Nat.add_zero]at h1;have h2:=rP (B:=Z) l i aa;have h3:=rP (B:=Z) al i aa
   have h4:=Xo (val Z (al.drop i)) (val Z db);rw[<-c4,<-c5]at h4;rw[c3]at h2;rw[h1,h2,<-hA,h3,<-h4,Zm,Zm,Y3 (val Z db) (Z^i)];omega
  clear hk hA hz;have r4:=λl=>qk (N3 (exa:=exa) (al:=l) (ol:=ol) G) hol.symm (len:=m) (cap:=m) (i:=(i:Int)) aa aa .i64
  have r5:=λl=>Ac (N3 (exa:=exa) (al:=l) (ol:=ol) G) hol.symm (j:=i) aa
  simp only[aoj G,Int.toNat_natCast]at r4 r5;refine gG tk ?_ ac;rw[show sP (sP g 4 1 Th ol) sa 1 exa l1=dH g sa exa l1 ol from rfl];rcases Ze w with w0|wp
  .have⟨d1,d2,d3,d4,d5⟩:=k3 w0;have gg:=go g' l1 d1 d2 d3 d4 d5;have w1:¬0<w:=aa;have r6:=r5 l1 g';have r7:=r4 l1;simp only[jn];simp(disch:=omega) [w1,r7,r6];refine⟨?_,?_⟩
   .rw[clean,LC 0 _ (aab G)];rfl
   .rw[aaa G];exact gg
  .have⟨d1,d2,d3,dg,d4,d5⟩:=k4 wp;have gg:=go (g'-1) l2 d1 d2 d3 d4 d5;have⟨g2,hg2'⟩:=bZ (g'-1);rw[hg2']at gg;have e6:(g':Int)-1=(g2:Int):=aa;have hg2Z:(g2:Int)<18446744073709551616:=by simp[hZ]at hg3;omega
   have r6:=r5 l2 g2;have r7:=r4 l2;simp only[jn];simp(disch:=omega) [wp,e6];refine ii (gG bk ?_ ac);rw[show sP (sP g 4 1 Th ol) sa 1 exa l2=dH g sa exa l2 ol from rfl];simp(disch:=omega) [r7,r6];refine⟨?_,?_⟩
   .rw[clean,LC 0 _ (aab G)];rfl
   .rw[aaa G];exact gg
theorem Ng{n:Nat}(h:n<Z^w):bE (w+1) n=bE w n++[0]:=by
 have h1:bL Z (bE w n++[0]):=(If w n).snoc cL
 grind[Ih,Px,D3,List.length_append,iU]
theorem amh{n:Nat}(h:n<Z^w):f9 (bE w n)=aI Z n:=by rw[<-uI cW (If w n),D3 w n h]
theorem uC{n:Nat}(h:n<Z^w):(bE w n).take (RW (aI Z n))=aI Z n:=by grind[amh,JU]
theorem wu(n:Nat):n<Z^(RW (aI Z n)):=(rj cW).1 (Z8 _)
theorem jd{n:Nat}(h:n<Z^k):RW (aI Z n)<=k:=(rj cW).2 h
theorem U9{n:Nat}(h:Z^k<=n):k<RW (aI Z n):=by grind[rj,cW]
theorem ZK{n:Nat}(h:0<n):Z^(RW (aI Z n)-1)<=n:=by
 rcases Zi n (Z^(RW (aI Z n)-1))with h1|h1
 .have:=jd h1
  grind[Z]
 omega
theorem PW{n:Nat}(h:RW (aI Z n)=k+1):Z^k*nth 0 (aI Z n) k<=n∧n<Z^k*(nth 0 (aI Z n) k+1)∧0<nth 0 (aI Z n) k:=by
 have e:=rP (B:=Z) (aI Z n) k aa;rw[kS cW,Yw aa,Y9 aa]at e;have hn:nth 0 (aI Z n) k=(aI Z n)[k]:=gN _ _ _ aa;rw[<-hn]at e;simp[val,Nat.mul_zero,Nat.add_zero]at e;have l:=jH (B:=Z) cL ((jc cW n).take k);rw[Zp,Yp aa]at l
 refine⟨aa,ae,?_⟩;rcases Ze (nth 0 (aI Z n) k)with h0|h0
 .rw[h0,Nat.mul_zero,Nat.add_zero]at e;have:=jd (n:=n) (k:=k) aa;omega
 omega
theorem amw{y f:Nat}(h:RW (aI Z q)=k+1)(hy:nth 0 (aI Z q) k=y)(hf:Z/(y+1)=f)(hk:1<=k):0<f∧f<Z∧q*f<Z^(k+1):=by
 have⟨h1,h2,h3⟩:=PW h;rw[hy]at h1 h2 h3;have hyZ:y<Z:=by rw[<-hy];exact(jc cW q).getD cL k
 have hf0:0<f:=by rw[<-hf];exact V4 aa aa
 have hfy:f*(y+1)<=Z:=by rw[<-hf];exact Wh ..
 refine⟨hf0,?_,?_⟩
 .have:=Z4 f (show 2<=y+1 by omega);omega
 .have h4:q*f<Z^k*(y+1)*f:=Nat.mul_lt_mul_of_pos_right h2 hf0;have h5:Z^k*(y+1)*f=Z^k*(f*(y+1)):=by rw[Nat.mul_assoc,Zq (y+1)]
  have h6:=Z4 (Z^k) hfy;rw[Nat.pow_succ];omega
theorem Ql{l:ax}(h:bL Z l):l.take (RW (aI Z (val Z l)))=aI Z (val Z l):=by grind[uI,cW,JU]
theorem af6{α:Type}{l:List α}{i:Nat}{x:α}(h:l[i]?=Wf x):l.set i x=l:=by
 refine Ye λj=>?_
 by_cases hj:j=i
 .grind
 .rw[List.getElem?_set_ne (Ne.symm hj)]
variable{P Q n p f M W9 sa:Nat}{exa:Bool}{hA:Hp}
theorem ZG(hn:RW (aI Z Q)=n)(h2:2<=n)(hp:RW (aI Z P)=p)(hnp:n<=p)(hpb:p<10000000)(f0:0<f)(fZ:f<Z)(fQ:Q*f<Z^n)(hVe:W9=P*f)(hM:RW (aI Z W9)+1=M)(hMp:p<M)
  (A9:RW hA=9) (Au:(hA.all λx=>cj 9 x.2)=Th) (Ao:∀x∈hA,offB [5,6] x.2=Th) (A2:hA[2]?=Wf ah) (A4:hA[4]?=Wf ah) (A5:hA[5]?=Wf ah) (A6:hA[6]?=Wf ah) (sa2:sa<2) (Aa:hA[sa]?=Wf (1,.data 1 ((bE M W9).map u6) exa SM)) :
  eQ DA.i hA (V.fn F.uL [] []) [aj u6 (aI Z Q),V.d (D.int iK.u64 ↑f)] 2
      λv10 h=>
      bnd (bh v10) λv11=>
       lp (NK DA (aj u6 (aI Z P))) [] h [.ref sa 1 0 M M M] h
        (aU
         [(Exit.exit 0,λl12 h=>
           bnd (bh (ge l12 0)) λv13=>
            bnd (aD BinOp.sub v13 v11) λv14=>
             fS 4 8 [D.int iK.u64 0] h v14 v14 λv15 h=>
              bnd (bh (ge l12 0)) λv16=>
               bnd (aD BinOp.sub v16 v11) λv17=>
                bnd (aD BinOp.sub v17 (V.d (D.int iK.i64 1))) λv18=>
                 lp (BU DA (ge l12 0) v10 v11 v15) [5,6] h [v18] h
                  (aU
                   [(Exit.exit 2,λl19 h=>
                     eQ DA.i h (V.fn F.kD [] []) [ge l12 0] 7 λv20 h=>
                      bp DA.p h (V.fn F.wW [] [])
                       [v20,V.d (D.int iK.u64 ↑f)] λv21 h=>
                       ext v21 0 λv22=>
                        ext v21 1 λv23=>
                         eQ DA.i h (V.fn F.kD [] []) [v15] 8 λv24 h=>
                          out (V.tup [aj u6 (aI Z (P/Q)),aj u6 (aI Z (P%Q))])
                           (V.tup [v24,v22]) h)]))]):=by
 have hQ1:Z^(n-1)<=Q:=by
  rw[<-hn];apply ZK;rcases Ze Q with h|h
  .subst h;rw[show(aI Z 0).length=0 from rfl]at hn;omega
  .exact h
 have hQf:RW (aI Z (Q*f))=n:=by
  have h1:=jd fQ;have h3:=U9 (n:=Q*f) (k:=n-1) (Z1 hQ1 (Zc Q f0));omega
 have hQfs:Q*f<Z^(n+1):=Z0 fQ (Z2 cL aa);have sc:=Ri (h:=hA) (t0:=aj u6 (aI Z Q)) (da:=aI Z Q) (f:=f) (N:=n+1) ae fZ f0 (Jk _ _) (jc cW Q) aa aa;rw[kS cW,hQf]at sc;refine jS (e:=0) (b:=.none) sc A2 ?_;have hbl:RW (bE (n+1) (Q*f))=n+1:=iU ..
 have hdb:(bE (n+1) (Q*f)).take n=aI Z (Q*f):=by
  have:=uC hQfs
  rwa [hQf]at this
 have⟨bl,hble⟩:=bZ (bE (n+1) (Q*f));rw[hble]at hbl hdb;rw[hble,List.length_map,hbl];have⟨g,hg⟩:=bZ (hA.set 2 (0+1,.data 1 (bl.map u6) Th SM));rw[hg]
 have G:rK g sa bl:=by
  rw[<-hg];refine⟨ae,sa2,ae,ae,ae,λx hx=>?_,?_⟩
  .rcases Yj hx with h|h
   .grind
   .rw[h];rfl
  .exact AI (s:=2) (e:=1) Au
 have g4:g[4]?=Wf ah:=by rw[<-hg];simp[A4]
 have ga:g[sa]?=Wf (1,.data 1 ((bE M W9).map u6) exa SM):=by rw[<-hg,List.getElem?_set_ne aa];exact Aa
 have hMp1:M<=p+2:=by
  have:W9<Z^(p+1):=by
   rw[hVe,Nat.pow_succ];have:=wu P;rw[hp]at this;exact Nat.mul_lt_mul_of_lt_of_lt this fZ
  have:=jd this;omega
 have⟨m,hm⟩:∃m,M=m+n:=⟨M-n,aa⟩;have lP:bh (aj u6 (aI Z P))=Wf (I (RW (aI Z P))):=rfl;have c1:¬((M:Int)<=(RW (aI Z P):Int)):=aa;have c2:(M:Int)-(n:Int)=(m:Int):=aa;simp;refine lo (aL ?_);simp(disch:=omega) [NK,lP,c1,c2,g4]
 have hd:g.set 4 (1,Bk.data 1 (So m (D.int iK.u64 0)) Th SM)=dH g sa exa (bE M W9) (So m 0):=by
  have e1:(So m (D.int iK.u64 0))=(So m 0).map u6:=by simp[u6]
  have e2:(sP g 4 1 Th (So m 0))[sa]?=Wf (1,.data 1 ((bE M W9).map u6) exa SM):=by
   rw[sP,List.getElem?_set_ne aa];exact ga
  show _=(sP g 4 1 Th (So m 0)).set sa (1,.data 1 ((bE M W9).map u6) exa SM)
  rw[af6 e2,e1];rfl
 rw[hd]
 have hWlt:W9<Z^(m+(n-1)):=by
  have:=wu W9
  rwa [show(aI Z W9).length=m+(n-1) by omega]at this
 have hWM:W9<Z^M:=Z0 hWlt (Z2 cL aa);have hQfv:val Z (aI Z (Q*f))=Q*f:=kS cW _;have hZ:Z=1000000000:=rfl
 refine lo (ZH (A:=W9) (n:=n) (M:=M) (m:=m) G hdb hbl (jc cW _) h2 aa hm aa (PW (n:=Q*f) (k:=n-1) aa).2.2 _ _ _ m (bE M W9) (So m 0) (Z8 _) (iU ..) ac (If M W9) (λx hx=>by grind) ?_ (by grind[JD,D3]) (λj hj=>by grind[gN]) λDH ol' q1 q2 q3 q4 q5 q6=>?_)
 .have e1:=rP (B:=Z) (bE M W9) m (by grind[iU]);rw[D3 _ _ hWM]at e1;rw[Yr]at hWlt;rw[hQfv];have h3:Z^m*val Z ((bE M W9).drop m)<Z^m*Z^(n-1):=aa;have h4:=Xd h3;have h5:=Zc Q f0;omega
 .simp only[pA];rw[hQfv]at q5 q6
  have hQ0:0<Q:=by
   have:=Xr (n:=n-1) cL;omega
  have hQf0:0<Q*f:=Yk hQ0 f0
  have hq:val Z ol'=P/Q:=by
   have:(P*f)/(Q*f)=val Z ol':=by
    rw[<-hVe,<-q6,X9 _ _ hQf0,W6 q5,Zh]
   rw[<-this,Nat.mul_div_mul_right _ _ f0]
  have hr:val Z DH=f*(P%Q):=by
   have:(P*f)%(Q*f)=val Z DH:=by
    rw[<-hVe,<-q6,Xe,X6 q5]
   rw[<-this,Nat.mul_mod_mul_right,Zq]
  have l9:RW (dH g sa exa DH ol')=9:=N4 G;have hu:((dH g sa exa DH ol').all λx=>cj (RW (dH g sa exa DH ol')) x.2)=Th:=by rw[l9];exact AI (AI G.und)
  have ha:=N6 (exa:=exa) (al:=DH) (ol:=ol') G;have tr:=zQ hu ha q1.symm (len:=M) (cap:=M) (Z8 _) aa (Z8 _);have hta:f9 (DH.take M)=aI Z (val Z DH):=by rw[Zx aa,uI cW q3]
  rw[hta]at tr;refine gG tr ?_ ac
  have hla:RW (aI Z (val Z DH))<=M:=by
   have:=jH (B:=Z) cL q3;rw[q1]at this;exact jd this
  have sn:=vq ha q1.symm (len:=RW (aI Z (val Z DH))) (cap:=M) hla (Z8 _);have htk:=Ql q3;rw[htk]at sn;have⟨h1,hh1⟩:=bZ ((dH g sa exa DH ol').set sa (1,.data 1 (DH.map u6) exa Th));rw[hh1]at sn;have sm:=QQ (a:=val Z DH) (n:=f) aa f0 aa
  refine rF (u:=.mk) (ds:=[aj u6 (aI Z (val Z DH)),U f]) (h':=h1) (by simp_all[bY]) sm ?_;rw[show fk (.tup [gY (val Z DH/f),U (val Z DH%f:Nat)])=SM from rfl];have h1o:h1[4]?=Wf (1,.data 1 (ol'.map u6) Th SM):=by rw[<-hh1,List.getElem?_set_ne aa];exact N3 G
  have h1u:(h1.all λx=>cj (RW h1) x.2)=Th:=by
   have e:RW h1=9:=by rw[<-hh1,Yu,l9]
   rw[e,<-hh1,Zz];intro x hx;rcases Yj hx with h|h
   .grind
   .rw[h];rfl
  have tr2:=zQ h1u h1o q2.symm (len:=m) (cap:=m) (Z8 _) aa (Z8 _);have hto:f9 (ol'.take m)=aI Z (P/Q):=by rw[Zx aa,<-hq,uI cW q4]
  rw[hto]at tr2
  show ext _ 0 _
  simp;refine ii (gG tr2 ?_ ac)
  have hlo:RW (aI Z (P/Q))<=m:=by
   have:=jH (B:=Z) cL q4;rw[q2,hq]at this;exact jd this
  have sn2:=vq h1o q2.symm (len:=RW (aI Z (P/Q))) (cap:=m) hlo (Z8 _);have htk2:=Ql q4;rw[hq]at htk2;rw[htk2]at sn2;have hrr:val Z DH/f=P%Q:=by rw[hr,Yc _ f0]
  rw[hrr];exact fR sn2 (aev _ _ _)
theorem aqe{s s' e e' L n k Nd tot:Nat}{b':Bk}{old cs:bF}{fr:Bool}{h:Hp}{q:bG}{u:PU q}(hg:h[s]?=Wf (e,.data n old Th fr))(hs':h[s']?=Wf (e',b'))(ht:tot=L*n)(Fd:RW old=L*n)(hcs:RW cs=k*n)(hb:(L+k)*Nd<=140737488355328)
  (h0:k=0->q (.ref s e 0 L L tot) h) (h1:0<k->q (.ref s' (e'+1) 0 (L+k) (L+k) (L*n+RW cs)) (h.set s' (e'+1,.data n (old++cs) SM SM))):rh (cV SM s' n Nd (.ref s e 0 L L tot) (.d (.sl k cs)) h) q u:=by
 unfold rh cV;simp only[cellsOf];rw[ip hcs];unfold kK;by_cases hk:k=0
 .grind
 .rw[iN hk];simp only[ij hg];rw[ip ⟨trivial,aa,Z8 _,aa,hcs⟩,iN aa,ip hb];simp[iT,new,hs',Yz];rw[Zx aa];exact h1 aa
theorem ON{s s' e len cap:Nat}{old:ax}{x:Nat}{ex:Bool}{h:Hp}{q:bG}{u:PU q}(hg:h[s]?=Wf (e,.data 1 (old.map u6) ex SM))(Fd:RW old=cap)(hl:len<cap)
  (hq:q (.ref s e 0 (len+1) cap cap) (h.set s (e,.data 1 ((old.take len++[x]++old.drop (len+1)).map u6) ex SM))):rh (cV SM s' 1 8 (.ref s e 0 len cap cap) (.d (.sl 1 [u6 x])) h) q u:=by
 unfold rh cV;simp only[cellsOf];rw[ip ac];unfold kK;rw[iN aa];simp only[ij hg];rw[ip ⟨trivial,ae,aa,ae,ac⟩,ip aa]
 simp_all
theorem abm{s s' e e' cap:Nat}{b':Bk}{old:ax}{x:Nat}{h:Hp}{q:bG}{u:PU q}(hg:h[s]?=Wf (e,.data 1 (old.map u6) Th SM))(hs':h[s']?=Wf (e',b'))(Fd:RW old=cap)(hb:cap<1000000000000)
  (hq:q (.ref s' (e'+1) 0 (cap+1) (cap+1) (cap+1)) (h.set s' (e'+1,.data 1 ((old++[x]).map u6) SM SM))):rh (cV SM s' 1 8 (.ref s e 0 cap cap cap) (.d (.sl 1 [u6 x])) h) q u:=by
 refine aqe (L:=cap) (old:=old.map u6) hg hs' aa ae rfl aa (λh=>by omega) λ_=>?_
 simp[Y1,List.length_singleton];rw[show old.map u6++[u6 x]=(old++[x]).map u6 by simp];exact hq
theorem am4{P Q:Nat}(h2:2<=RW (aI Z Q))(Fm:RW (aI Z Q)<=RW (aI Z P))(hb:RW (aI Z P)<10000000):Ds F.zc [gY P,gY Q] (.tup [gY (P/Q),gY (P%Q)]):=by
 apply anr;have⟨k,hk⟩:∃k,RW (aI Z Q)=k+1:=⟨RW (aI Z Q)-1,aa⟩;have⟨y,hy⟩:=bZ (nth 0 (aI Z Q) k);have⟨f,hf⟩:=bZ (Z/(y+1));have⟨f0,fZ,fQ⟩:=amw hk hy hf aa;have hZ:Z=1000000000:=rfl;have hyZ:y<Z:=by rw[<-hy];exact(jc cW Q).getD cL k
 have hyb:y<1000000000:=by simp[hZ]at hyZ;omega
 have⟨n,hn⟩:=bZ (RW (aI Z Q));have⟨p,hp⟩:=bZ (RW (aI Z P));have e1:=λh:Hp=>mH u6 (aI Z Q) h (k:=.i64) (i:=(k:Int)) aa aa
 have e2:=λh:Hp=>yB (aI Z Q) h (j:=k) aa
 rw[hy]at e2;simp[Int.toNat_natCast]at e1;have e3:(RW (aI Z Q):Int)-1=(k:Int):=aa
 have e4:(1000000000:Int)/((y:Int)+1)=(f:Int):=by
  rw[<-hf,hZ];simp
 have y0:¬((y:Int)+1=0):=aa;have lQ:bh (gY Q)=Wf (I (RW (aI Z Q))):=rfl;have lP:bh (gY P)=Wf (I (RW (aI Z P))):=rfl;simp(disch:=omega) [zc,lQ,e3,ahO,e1,e2,y0,Zs,e4];have⟨W9,hW⟩:=bZ (P*f)
 have hP1:Z^(p-1)<=P:=by
  rw[<-hp];apply ZK;rcases Ze P with h|h
  .subst h;have h0:RW (aI Z 0)=0:=rfl;omega
  .exact h
 have hW1:p-1<RW (aI Z W9):=U9 (by rw[<-hW];exact Z1 hP1 (Zc P f0))
 have hW2:W9<Z^(p+1):=by
  rw[<-hW,Nat.pow_succ];have:=wu P;rw[hp]at this;exact Nat.mul_lt_mul_of_lt_of_lt this fZ
 have hW3:=jd hW2
 have hli:∀h:Hp,cI 1 [D.int .u64 0] [(0,V.d (D.int iK.u64 0))] h=Wf ([u6 0],h):=λh=>by
  rfl
 have sc:=Ri (h:=[ah,ah,ah,ah,ah,ah,ah,ah,ah]) (t0:=aj u6 (aI Z P)) (da:=aI Z P) (f:=f) (N:=p+1) rfl fZ f0 (Jk _ _) (jc cW P) aa aa;rw[kS cW,hW]at sc;refine ii (jS (e:=0) (b:=.none) sc rfl ?_);simp[hli];have hNl:RW (bE (p+1) W9)=p+1:=iU ..
 rcases Zi (RW (aI Z W9)) (p+1)with hc|hc
 .have hl:RW (aI Z W9)=p:=aa;have hWp:W9<Z^p:=by have:=wu W9;rwa [hl]at this
  have hcell:(bE (p+1) W9).take p++[0]++(bE (p+1) W9).drop (p+1)=bE (p+1) W9:=by
   rw[Y9 aa,Ng hWp,X7 (iU ..),Zo]
  rw[hl,hNl];refine ON (x:=0) (ex:=true) rfl hNl aa ?_;rw[hcell];refine ZG (M:=p+1) (exa:=true) hn aa hp aa aa f0 fZ ae hW.symm aa aa rfl rfl ?_ rfl rfl rfl rfl aa rfl;intro x hx;simp only[List.set_cons_zero,Zy,Y4,or_false]at hx
  rcases hx with rfl|rfl|rfl|rfl|rfl|rfl|rfl|rfl|rfl<;>rfl
 .have hl:RW (aI Z W9)=p+1:=aa;have hcell:bE (p+1) W9++[0]=bE (p+2) W9:=(Ng hW2).symm;rw[hl,hNl];refine abm (x:=0) (e':=0) (b':=.none) rfl rfl hNl aa ?_;rw[hcell];refine ZG (M:=p+2) (exa:=false) hn aa hp aa aa f0 fZ ae hW.symm aa aa rfl rfl ?_ rfl rfl rfl rfl aa rfl;intro x hx
  simp only[List.set_cons_zero,List.set_cons_succ,Zy,Y4,or_false]at hx;rcases hx with rfl|rfl|rfl|rfl|rfl|rfl|rfl|rfl|rfl<;>rfl
@[simp]theorem asD(a:Acc)(n:Nat)(c:bF):a.v (n+1) c=.ref a.s (a.e+1) 0 (n+1) (n+1) (RW c):=id rfl
@[simp]theorem asE(a:Acc)(n:Nat)(c:bF):a.b (n+1) c=(a.e+1,.data a.n c SM SM):=id rfl
theorem uT(k:Nat):Z^k=10^(9*k):=by rw[Wc];rfl
theorem al9{n:Nat}(h2:n<18446744073709551616):Ds F.yT [U n,I 10] (S (aA n)):=by
 apply ak2;have jz:=nF n;have hd2:ay n<=20:=eC aa aa;have hn:=eW n;by_cases hs:(n:Int)<100
 .simp(disch:=omega) [yT,hs];refine cd (QP (n:=n) aa) ?_;exact eA rfl
 .have hn0:0<n:=aa;have hit:aA n=cJ n (ay n):=rfl;have hlo:=Bb n hn0;generalize ay n=d at *
  obtain ⟨mid,post,hm,hp,hcell⟩:∃mid post:bF,RW mid=d∧RW post=24-d∧So 24 (D.int .u8 0)=[]++(mid++post):=by
   refine⟨So d (.int .u8 0),So (24-d) (.int .u8 0),ac,ac,?_⟩;rw[List.replicate_append_replicate,show d+(24-d)=24 by omega];rfl
  simp[yT,hs];refine cd (TI hlo hn jz h2) ?_;simp only[So]at hcell;rw[hcell];rw[show[(1,Bk.data 1 ([]++(mid++post)) Th SM),ah]=cH ([]++(mid++post))from rfl];rw[Kt dG d rfl aa];simp;refine gG (h':=cH ([]++((cJ n d).map u8++post))) (XP (pre:=[]) rfl hm aa aa hn h2) ?_ ac
  rw[Kt (by simp[fq];omega) d rfl aa];simp;rw[N7 (bs:=cJ n d) (by simp[fq];omega) aa (by simp[fq,List.take_append,Zx]) (by simp[fq])];rw[hit]
  try simp
  exact eA rfl
theorem al8{n:Nat}(h:n<18446744073709551616):Ds F.Ab [U n,I 10] (S (aA n)):=by apply ad3;simp[Ab];refine cd (al9 h) ?_;exact eA rfl
theorem AZ{n:Nat}(h:n<18446744073709551616):Ds F.rD [U n] (S (aA n)):=by apply anJ;simp[rD];refine cd (al8 h) ?_;exact eA rfl
theorem Iq:∀(l:bA)(a:Nat),iu a l=eM a l
 |[],_=>rfl
 |c::l,a=>Iq l _
theorem digit_eq(c:UInt8):nM c=iA c:=by simp[nM,iA];rw[Yh];simp
theorem ahS{n:Nat}(h:n<10000000000000000000):Ds F.xy [S (aA n),I 10,I 64] (.tup [U n,.d (.pl .nilIface)]):=by
 have hd:=nI n;have hc:=Et n
 have hl:RW (aA n)<=1000:=by
  have:=eC (n:=n) (d:=19) aa am;rw[aA,fq];omega
 simp only[iL,Z7]at hc
 have hall:(aA n).all nM=Th:=by
  rw[<-hc.1.2];congr 1;funext c;exact digit_eq c
 have ho:Y.X.orc F.xy [.string ⟨⟨aA n⟩⟩,.int .i64 10,.int .i64 64]=Wf (.tuple #[.int .u64 n,.nilIface]):=by
  have e:∀a,Y.X.orc F.xy a=C7 a:=λa=>by
   show(match Nat.beq F.xy F.xy with|true=>C7 a|false=>Vc)=_
   rw[Xs]
  rw[e];unfold C7;simp only;rw[ip ⟨trivial,trivial,DL n,hall,hl,by rw[Iq,hd];exact h⟩,Iq,hd]
 exact CP.orc ho (by intro x hx;simp[Zy,Y4,or_false]at hx;rcases hx with rfl|rfl|rfl<;>rfl) rfl
theorem Kc{n:Nat}(h:n<10000000000000000000):Ds F.wY [S (aA n)] (.tup [U n,B Th]):=by apply anF;simp[wY];refine cd (ahS h) ?_;simp[GU];exact fR (tM _ _) rfl
theorem sN(n:Nat):fv (S (aA n))=Wf (I (ay n)):=by
 show Wf (I (RW (aA n)))=_
 rw[aA,fq]
theorem Ja(a b:Nat):Ds F.rz [S (aA a),S (aA b)] (if ay a<=18∧ay b<=18 then .tup [U a,U b,B Th]else .tup [U 0,U 0,B SM]):=by
 apply anB;have la:=sN a;have lb:=sN b;by_cases h1:18<ay a
 .rw[iN aa];simp(disch:=omega) [rz,la,lb,h1];exact oj (tM _ _) (tM _ _) rfl
 by_cases h2:18<ay b
 .rw[iN aa];simp(disch:=omega) [rz,la,lb,h1,h2];exact oj (tM _ _) (tM _ _) rfl
 .rw[ip aa];have ha:a<10000000000000000000:=by have:=eW a;have:=Z2 (n:=10) am (show ay a<=18 by omega);omega
  have hb:b<10000000000000000000:=by have:=eW b;have:=Z2 (n:=10) am (show ay b<=18 by omega);omega
  simp(disch:=omega) [rz,la,lb,h1,h2];refine cd (Kc ha) ?_;simp;refine cd (Kc hb) ?_;simp;exact oj (tM _ _) (tM _ _) rfl
theorem aae(l:bA)(h:Hp)(k:bG):oG (S l) h k=k (aj u8 l) h:=rfl
variable{h:Hp}
theorem aaf{C0:Nat}(l:bA)(hl:RW l<=9)(hd:l.all iA=Th)(k:KL)(h0 H:Hp)(hh:RW h0=RW H):∀(q p:bA),p++q=l->k (.exit 2) [U (eM 0 l:Nat)] H ->
  lp (IG DA (RW h) (aj u8 l) (I (RW l))) [] h0 [U (eM 0 p:Nat),I (RW p)] H k
 | []=>by
  intro p hp hk;simp at hp;subst hp;apply aL;simp[IG];exact hk
 | c::q=>by
  intro p hp hk;have DP:RW p<RW l:=by subst hp;simp
  have hc:nth 0 l (RW p)=c:=by subst hp;simp
  have hcd:iA c=Th:=by
   rw[Zz]at hd;exact hd c (by subst hp;simp)
  rw[ql]at hcd
  have hpd:p.all iA=Th:=by
   rw[Zz]at hd ⊢;exact λx hx=>hd x (by subst hp;simp[hx])
  have e1:=λh:Hp=>mH u8 l h (k:=.i64) (i:=(RW p:Int)) aa aa
  have e2:=λh:Hp=>mZ u8 0 l h (j:=RW p) DP
  rw[hc]at e2;simp only[Int.toNat_natCast]at e1;have hb:=BD p 0 hpd
  have hb2:eM 0 p<1000000000:=by
   have:=Z2 (n:=10) am (show RW p<=8 by omega);omega
  have e3:eM 0 (p++[c])=10*eM 0 p+(c.toNat-48):=by
   rw[MU];simp only[eM,List.foldl_cons,List.foldl_nil];omega
  have ih:=aaf (C0:=C0) l hl hd k h0 H hh q (p++[c]) (by simpa using hp) hk;rw[e3]at ih;have⟨t,ht⟩:=bZ (eM 0 p);rw[ht]at ih hb2 ⊢;have e4:(10:Int)*(t:Int)+((c.toNat:Int)-48)=((10*t+(c.toNat-48):Nat):Int):=aa;have⟨t2,ht2⟩:=bZ (10*t+(c.toNat-48));rw[ht2]at ih e4;have hcb:=hcd.1;have hcb2:=hcd.2;apply aL
  simp(disch:=omega) [IG,e1,e2,u8,e4];simpa[hh]using ih
def kE(h:Hp)(l:ax):Hp:=h++[(1,.data 1 (l.map u6) Th SM),ah,ah]
theorem aag(h:Hp)(l:ax):(kE h l)[RW h]?=Wf (1,.data 1 (l.map u6) Th SM):=by simp[kE]
theorem aos(h:Hp)(l l':ax):(kE h l).set (RW h) (1,.data 1 (l'.map u6) Th SM)=kE h l':=by simp[kE]
@[simp]theorem aot(h:Hp)(l:ax):RW (kE h l)=RW h+3:=by simp[kE]
theorem aor(T:bA)(cap:Nat)(hL:RW T<9000000000)(k:KL)(h0:Hp)(hh:RW h0=RW h+3):∀(w n:Nat)(E:Int)(d:ax),(0<w->E=w)->(w=0->E<=0)->-20<=E->T.take w=cJ n w->w<=RW T->RW d+(w+8)/9<=cap->cap<1000000000000->n<10^w->bL Z d ->
  (∀d':ax,bL Z d'->RW d'<=cap->val Z d'=val Z d+Z^(RW d)*n->k (.exit 0) [.ref (RW h) 1 0 (RW d') cap cap] (kE h (d'++So (cap-RW d') 0))) ->
  lp (IH DA (RW h) (S T)) [] h0 [.ref (RW h) 1 0 (RW d) cap cap,I E] (kE h (d++So (cap-RW d) 0)) k:=by
 intro w
 induction w using Nat.strongRecOn with
 | _ w ih=>
  intro n E d hE1 hE0 hEl hT hwT hw hcap hn hs hk;by_cases h0w:w=0
  .subst h0w;have hE:=hE0 rfl;have g:¬0<E:=aa;simp at hn;subst hn;apply aL;simp[IH,g];exact hk d hs aa ac
  .obtain rfl:=hE1 aa
   obtain ⟨v,u,hv1,hv9,hvw,hu,huv⟩:∃v u:Nat,1<=v∧v<=9∧w=u+v∧jQ Th 0 ((w:Int)-9)=u∧(u=0∨v=9):=by
    by_cases h9:w<=9
    .exact⟨w,0,aa,h9,aa,by simp[jQ];omega,.inl rfl⟩
    .exact⟨9,w-9,aa,aa,aa,by simp[jQ];omega,.inr rfl⟩
   have hD:=IM v u n;rw[<-hvw]at hD;have hlu:=fq u (n/10^v)
   have e1:(T.take w).drop u=cJ (n%10^v) v:=by
    rw[hT,hD,Wv hlu];have:=IL v (n%10^v) (n/10^v);rw[Xp]at this;exact this
   have e2:T.take u=cJ (n/10^v) u:=by
    have:T.take u=(T.take w).take u:=by rw[List.take_take,Yp aa]
    rw[this,hT,hD,X7 hlu]
   have hp:0<10^v:=Xr am;have hm:=Y7 n hp
   have hZv:10^v<=Z:=by
    have:10^v<=10^9:=Z2 am hv9;exact this
   have hnu:n/10^v<10^u:=Wm (by rw[hvw,Nat.add_comm,Yr]at hn;exact hn)
   have hval:n%10^v+Z*(n/10^v)=n:=by
    have:=Xp n (10^v);rcases huv with rfl|rfl
    .rw[Nat.pow_zero]at hnu;have h3:n/10^v=0:=Nat.lt_one_iff.1 hnu;rw[h3]at this ⊢;simpa using this
    .exact this
   have hdc:RW d<cap:=aa
   have ihh:=ih u aa (n/10^v) ((w:Int)-9) (d++[n%10^v]) (λh=>by rcases huv with h1|h1<;>omega) (λh=>by omega) aa e2 aa dG hcap hnu (hs.snoc (Z0 hm hZv)) (λd' h1 h2 h3=>hk d' h1 h2 (by
    rw[h3,Px,List.length_append,List.length_singleton,Nat.pow_succ,Nat.mul_assoc,Xl,<-Zm,hval]))
   have hr:=HV v (n%10^v) hm;have hall:=Ei v (n%10^v);have hlv:=fq v (n%10^v)
   have esl:nB (S T) (Wf (I u)) (Wf (I w))=Wf (S (cJ (n%10^v) v)):=by
    rw[Kr u w rfl rfl aa hwT,<-e1,List.drop_take]
   have⟨r,hre⟩:=bZ (n%10^v);rw[hre]at esl hr hall hlv ihh;generalize cJ r v=L at *
   have hli:∀h:Hp,cI 1 [D.int .u64 0] [(0,U r)] h=Wf ([u6 r],h):=λh=>by
    simp[cI,dI,d8,dX,u6]
   have hcell:(d++So (cap-RW d) 0).take (RW d)++[r]++(d++So (cap-RW d) 0).drop (RW d+1)=(d++[r])++So (cap-RW (d++[r])) 0:=by
    rw[X7 rfl]
    have:So (cap-RW d) 0=0::So (cap-RW d-1) 0:=by
     rw[<-List.replicate_succ];congr 1;omega
    rw[this,<-List.drop_drop,Wv rfl];rw[show cap-RW d-1=cap-RW (d++[r]) by simp;omega];simp
   have hcl:RW (d++So (cap-RW d) 0)=cap:=by simp;omega
   have aH:=aag h (d++So (cap-RW d) 0);have gp:0<(w:Int):=aa;clear hk ih hval;apply aL;simp(disch:=omega) [IH,gp,gk,hu,esl];rw[aae];simp;refine lo (aaf (C0:=0) L aa hall _ _ _ rfl L [] rfl ?_);rw[hr];simp[hli];refine ON aH hcl hdc ?_;rw[hcell,aos];simp(disch:=try exact cC)[hh];simpa using ihh
theorem Sk{s Nd:Nat}{z:D}{h:Hp}{i e:Nat}{b:Bk}{k:bG}{u:PU k}(hs:h[s]?=Wf (e,b))(hb:(Nd:Int)*i<=281474976710656)(h1:(i:Int)<=9223372036854775807)
  (hk:k (.ref s (e+1) 0 0 i i) (h.set s (e+1,.data 1 (So i z) Th SM))):rh (fS s Nd [z] h (.d (.int .i64 0)) (.d (.int .i64 i))) k u:=by unfold rh;simp only[fS];rw[ip ⟨Int.le_refl _,aa,ac,hb,h1⟩];simp only[new,hs,K4,Y8,Int.toNat_natCast];exact hk
theorem tc(hu:(h.all λx=>cj (RW h) x.2)=Th){n:Nat}(hb:ay n<900000000)(hcap:cap=ay n/9+1):
  CI Y F.mL [S (aA n)] h (.new 1 ((bE cap n).map u6) Th (RW (aI Z n)) cap) h:=by
 apply anz;have hl:=sN n;have hlT:RW (aA n)=ay n:=by rw[aA,fq]
 have e1:((ay n:Nat):Int)/9+1=(cap:Int):=aa
 have e3:(h++[(1,Bk.data 1 (So cap (D.int iK.u64 0)) Th SM),ah,ah])=kE h ([]++So (cap-RW ([]:ax)) 0):=by
  simp[kE,u6]
 have e4:(h++[(0,Bk.none),(0,Bk.none),(0,Bk.none)]).set (RW h) (1,Bk.data 1 (So cap (D.int iK.u64 0)) Th SM)=kE h ([]++So (cap-RW ([]:ax)) 0):=by
  simp[kE,u6]
 have hcap2:cap<1000000000000:=aa;simp(disch:=omega) [mL,hl,Zs,e1];refine Sk (e:=0) (b:=.none) ac aa aa ?_;simp[hl]
 try rw[e4]
 try rw[e3]
 refine lo (aor (aA n) cap aa _ _ (aot ..) (ay n) n (ay n) [] (λ_=>rfl) (λh=>by have:=nF n;omega) aa (by rw[<-hlT,Xj];rw[hlT];rfl) aa dG hcap2 (eW n) (λx hx=>by cases hx) λd hs hdl hv=>?_);simp only[pA];have hv':val Z d=n:=by rw[hv];simp[val]
 have⟨o,ho⟩:=bZ (d++So (cap-RW d) 0);have hol:RW o=cap:=by rw[<-ho];simp;omega
 have hos:bL Z o:=by
  rw[<-ho];exact hs.append λx hx=>by rw[Ww]at hx;rw[hx.2];exact cL
 have hov:val Z o=n:=by rw[<-ho,acp,hv']
 rw[ho];have hfix:o=bE cap n:=by rw[<-hov,<-hol];exact Ih o hos
 have hu2:((kE h o).all λx=>cj (RW (kE h o)) x.2)=Th:=by
  have hm:(h.all λx=>cj (RW (kE h o)) x.2)=Th:=OR ac hu;rw[kE,Yo,<-kE,hm];rfl
 have htk:o.take (RW d)=d:=by rw[<-ho,X7 rfl]
 have tr:=zQ hu2 (aag h o) hol.symm (len:=RW d) (cap:=cap) (Z8 _) hcap2 hdl;rw[htk,<-uI cW hs,hv']at tr;refine gG tr ?_ ac;rw[<-hfix];refine⟨by simp[kE],by simpa using hu,.inr (.inr (.inl ⟨RW h,1,_,cap,1,o.map u6,true,by simp[hol],Z8 _,by simp[aH,kE],rfl⟩))⟩
variable{h:Hp}{s e tot:Nat}{l:bA}{ex fr:Bool}
theorem MJ(hg:h[s]?=Wf (e,.data 1 (l.map u8) ex fr))(ht:tot=RW l){i:Int}(h0:0<=i)(h1:i<len)(k:iK):bC h 1 (.ref s e 0 len cap tot) (.d (.int k i))=Wf (.ptr s e i.toNat tot):=by grind[bC,ij]
theorem Vf(hg:h[s]?=Wf (e,.data 1 (l.map u8) ex fr))(ht:tot=RW l)(hj:j<RW l):ld1 h (.ptr s e j tot)=Wf (.d (u8 (nth 0 l j))):=by
 have e1:tot=RW (l.map u8):=by simp[ht]
 grind[ld1,ij,gN]
theorem QD(hg:h[s]?=Wf (e,.data 1 (l.map u8) ex SM))(ht:tot=RW l)(hj:j<RW l)(x:UInt8):st h 1 (.ptr s e j tot) (.d (u8 x))=Wf (h.set s (e,.data 1 ((l.set j x).map u8) ex SM)):=by
 have e1:(l.map u8).take j++[u8 x]++(l.map u8).drop (j+1)=(l.set j x).map u8:=by
  rw[Wx,Yg,ip ae];simp
 simp only[st,iT,jk,ij hg,d8,dX];rw[ip ⟨trivial,ae,ae⟩];simp only[bP,List.length_singleton];rw[<-e1];rfl
theorem ap8{s' cap len:Nat}{x:UInt8}{q:bG}{u:PU q}(hg:h[s]?=Wf (e,.data 1 (l.map u8) ex SM))(Fd:RW l=cap)(hl:len<cap)
  (hq:q (.ref s e 0 (len+1) cap cap) (h.set s (e,.data 1 ((l.take len++[x]++l.drop (len+1)).map u8) ex SM))):rh (cV SM s' 1 1 (.ref s e 0 len cap cap) (.d (.sl 1 [u8 x])) h) q u:=by
 unfold rh cV;simp only[cellsOf];rw[ip ac];unfold kK;rw[iN aa];simp only[ij hg];rw[ip ⟨trivial,ae,aa,ae,ac⟩,ip aa]
 simp_all
def s8(h:Hp)(s e:Nat)(ex:Bool)(l:bA):Hp:=h.set s (e,.data 1 (l.map u8) ex SM)
theorem Rt{h:Hp}{s e:Nat}{ex:Bool}{l:bA}(hs:s<RW h):(s8 h s e ex l)[s]?=Wf (e,.data 1 (l.map u8) ex SM):=by simp[s8,hs]
theorem Rr{h:Hp}{s e:Nat}{ex:Bool}{l l':bA}:(s8 h s e ex l).set s (e,.data 1 (l'.map u8) ex SM)=s8 h s e ex l':=by simp[s8]
@[simp]theorem aqI{h:Hp}{s e:Nat}{ex:Bool}{l:bA}:RW (s8 h s e ex l)=RW h:=by simp[s8]
theorem TW{l:bA}{m n:Nat}{v:UInt8}(hm:m<RW l):nth 0 (l.set m v) n=if m=n then v else nth 0 l n:=by grind[nth]
theorem agR{h:Hp}{s e tot:Nat}{ex:Bool}(hs:s<RW h){L:Nat}(hL:L<=tot)(htb:tot<1000000000000)(l0:bA)(k:KL)(h0:Hp)(hh:RW h0=RW h):
  ∀(r i:Nat)(l:bA),L<=2*i+r->2*i<=L+1->RW l=tot->(∀m,m<L->(m<i∨L-1-m<i)->nth 0 l m=nth 0 l0 (L-1-m))->(∀m,m<L->i<=m->i<=L-1-m->nth 0 l m=nth 0 l0 m)->(∀m,L<=m->nth 0 l m=nth 0 l0 m) ->
  (∀l':bA,RW l'=tot->(∀m,m<L->nth 0 l' m=nth 0 l0 (L-1-m))->(∀m,L<=m->nth 0 l' m=nth 0 l0 m)->k (.exit 0) [] (s8 h s e ex l')) ->
  lp (CM DA (RW h) (.ref s e 0 L cap tot)) [] h0 [I i,I ((L:Int)-1-i)] (s8 h s e ex l) k:=by
 intro r
 induction r with
 | zero=>
  intro i l hr hi hl h1 h2 h3 hk;apply aL;have g:¬((i:Int)<(L:Int)-1-i):=aa;simp[CM,g];exact hk l hl (λm hm=>h1 m hm aa) h3
 | succ r ih=>
  intro i l hr hi hl h1 h2 h3 hk;by_cases g:i+i+1<L
  .have⟨j,hj⟩:=bZ (L-1-i);have g':((i:Int)<(L:Int)-1-i):=aa;have ej:(L:Int)-1-i=(j:Int):=aa;have hgt:=Rt (e:=e) (ex:=ex) (l:=l) hs;have a1:=MJ hgt hl.symm (len:=L) (cap:=cap) (i:=(j:Int)) aa aa .i64;have a2:=Vf hgt hl.symm (j:=j) aa;have b1:=MJ hgt hl.symm (len:=L) (cap:=cap) (i:=(i:Int)) aa aa .i64
   have b2:=Vf hgt hl.symm (j:=i) aa;have b3:=QD hgt hl.symm (j:=i) aa (nth 0 l j);rw[Rr]at b3;have hgt2:=Rt (e:=e) (ex:=ex) (l:=l.set i (nth 0 l j)) hs;have c1:=MJ hgt2 (by simpa using hl.symm) (len:=L) (cap:=cap) (i:=(j:Int)) aa aa .i64;have c3:=QD hgt2 (by simpa using hl.symm) (j:=j) dG (nth 0 l i);rw[Rr]at c3
   simp[Int.toNat_natCast]at a1 b1 c1
   have nn:∀m,nth 0 ((l.set i (nth 0 l j)).set j (nth 0 l i)) m=if j=m then nth 0 l i else if i=m then nth 0 l j else nth 0 l m:=λm=>by
    rw[TW dG,TW aa]
   have ihh:=ih (i+1) ((l.set i (nth 0 l j)).set j (nth 0 l i)) aa aa (by simpa using hl) (λm hm hc=>by
    rw[nn];by_cases e1:j=m
    .rw[ip e1,h2 i aa (Z8 _) aa];congr 1;omega
    .rw[iN e1];by_cases e2:i=m
     .rw[ip e2,h2 j aa aa aa];congr 1;omega
     .rw[iN e2];exact h1 m hm aa) (λm hm hc hc2=>by
    rw[nn,iN aa,iN aa];exact h2 m hm aa aa) (λm hm=>by
    rw[nn,iN aa,iN aa];exact h3 m hm) hk
   have e2:(j:Int)-1=(L:Int)-1-((i+1:Nat):Int):=aa;rw[<-e2]at ihh;clear hk ih;apply aL;rw[ej]at g' ⊢;simp(disch:=try exact cC)[CM,g',a1,a2,b1,b2,b3,c1,c3];simpa[hh]using ihh
  .apply aL;have g':¬((i:Int)<(L:Int)-1-i):=aa;simp[CM,g']
   exact hk l hl (λm hm=>by
    by_cases hc:m<i∨L-1-m<i
    .exact h1 m hm hc
    .rw[h2 m hm aa aa];congr 1;omega) h3
theorem amB{x y:bA}(hl:RW x=RW y)(h:∀c,c<RW x->nth 0 x c=nth 0 y c):x=y:=by grind[Wl,gN]
theorem agS{h:Hp}(hu:(h.all λx=>cj (RW h) x.2)=Th){s e tot:Nat}{ex:Bool}(hs:s<RW h){L:Nat}(hL:L<=tot)(htb:tot<1000000000000){l:bA}(hl:RW l=tot):
  CI Y F.vr [.ref s e 0 L cap tot] (s8 h s e ex l) (.tup []) (s8 h s e ex ((l.take L).reverse++l.drop L)):=by
 apply aeM;simp(disch:=omega) [vr];have e1:(L:Int)-1=(L:Int)-1-((0:Nat):Int):=aa;rw[e1]
 have:=agR (h:=h) (s:=s) (e:=e) (ex:=ex) hs (cap:=cap) hL htb l (aU [(.exit 0,λl3 h_1=>fA (RW (s8 h s e ex l)) (.tup []) (s8 h s e ex ((l.take L).reverse++l.drop L)) (.tup []) h_1)]) (s8 h s e ex l) ac L 0 l aa aa hl (λm hm hc=>by omega) (λm _ _ _=>rfl) (λm _=>rfl) λl' hl' h1 h2=>by
  have hE:l'=(l.take L).reverse++l.drop L:=by
   refine amB ae λc hc=>?_
   by_cases hcL:c<L
   .rw[h1 c hcL,gN _ _ _ aa,gN _ _ _ ae]
    grind
   .rw[h2 c aa,gN _ _ _ aa,gN _ _ _ ae]
    grind
  subst hE;simp only[pA];refine⟨(Zx ac).symm,?_,.inl ⟨rfl,rfl⟩⟩;rw[Zz]at hu ⊢;intro x hx;rcases Yj hx with h|h
  .simpa using hu x h
  .rw[h];rfl
 trivial
def tH(l:bA):Hp:=[(1,.data 1 (l.map u8) Th SM),ah,ah]
theorem Qp(l:bA):(tH l)[0]?=Wf (1,.data 1 (l.map u8) Th SM):=rfl
@[simp]theorem aqv(l:bA):RW (tH l)=3:=rfl
theorem Qo(l l':bA):(tH l).set 0 (1,.data 1 (l'.map u8) Th SM)=tH l':=rfl
theorem P3{p:ax}{i N:Nat}(hi:i<RW p)(hp:RW p<100000000)(hN:N<1000000000000)(k:KL)(h0:Hp)(hh:RW h0=3):∀(w j x:Nat)(bs:bA),
  (i+1<RW p∧j+w=9∨¬i+1<RW p∧j+w<=9∧x<10^w∧(0<w->10^(w-1)<=x))->x<1000000000->RW bs+w<=N ->
  k (.exit 2) [.ref 0 1 0 (RW bs+w) N N] (tH (bs++(cJ x w).reverse++So (N-(RW bs+w)) 0)) ->
  lp (zb DA (aj u6 p) (I i)) [] h0 [.ref 0 1 0 (RW bs) N N,U x,I j] (tH (bs++So (N-RW bs) 0)) k
 | 0,j,x,bs=>by
  intro hc hx hb hk;have lp':bh (aj u6 p)=Wf (I (RW p)):=rfl;apply aL;rcases hc with⟨g1,g2⟩|⟨g1,g2,g3,g4⟩
  .have g5:¬((j:Int)<9):=aa
   simp_all[zb,cJ]
  .have x0:x=0:=by simpa using g3
   subst x0;have g1':¬((i:Int)+1<(RW p:Int)):=aa;by_cases g5:(j:Int)<9
   .simp(disch:=omega) [zb,g5,lp',g1']
    grind[cJ]
   simp_all[zb,cJ]
 | w+1,j,x,bs=>by
  intro hc hx hb hk;have lp':bh (aj u6 p)=Wf (I (RW p)):=rfl;have g5:(j:Int)<9:=aa;have hdg:u8 (dg (x%10))=.int .u8 (48+((x%10:Nat):Int)):=ES (Y7 _ am);have⟨m,hm⟩:=bZ (x%10);have⟨d,hd⟩:=bZ (x/10);have e1:(x:Int)%10=(m:Int):=aa;have e2:(x:Int)/10=(d:Int):=aa;rw[hm]at hdg
  have hdec:(cJ x (w+1)).reverse=dg m::(cJ d w).reverse:=by rw[cJ,hd,hm];simp
  have ih:=P3 hi hp hN k h0 hh w (j+1) d (bs++[dg m]) (by
   rcases hc with⟨g1,g2⟩|⟨g1,g2,g3,g4⟩
   .exact .inl ⟨g1,aa⟩
   .refine .inr ⟨g1,aa,?_,λhw=>?_⟩
    .omega
    .have:=g4 aa;rw[<-hd,Xt am,<-Nat.pow_succ,show(w-1).succ=w+1-1 by omega];omega) aa ae (by
   grind)
  have hcell:(bs++So (N-RW bs) 0).take (RW bs)++[dg m]++(bs++So (N-RW bs) 0).drop (RW bs+1)=(bs++[dg m])++So (N-RW (bs++[dg m])) 0:=by
   rw[X7 rfl]
   have:So (N-RW bs) (0:UInt8)=0::So (N-RW bs-1) 0:=by
    rw[<-List.replicate_succ];congr 1;omega
   rw[this,<-List.drop_drop,Wv rfl];rw[show N-RW bs-1=N-RW (bs++[dg m]) by grind];simp
  have hcl:RW (bs++So (N-RW bs) 0)=N:=by simp;omega
  have hli:∀h:Hp,cI 1 [D.int .u8 0] [(0,.d (.int .u8 (48+(m:Int))))] h=Wf ([u8 (dg m)],h):=λh=>by
   simp_all[cI,dI,d8,dX]
  have hx0:¬i+1<RW p->0<(x:Int):=λh=>by
   grind
  clear hk;apply aL;by_cases g1:(i:Int)+1<(RW p:Int)
  .simp(disch:=omega) [zb,g5,lp',g1,Zt,Zs,e1,e2,hli];refine ap8 (Qp _) hcl aa ?_;rw[hcell];simp only[Qo];simp(disch:=try exact cC)[Zt,Zs,e2]
   simp_all
  .have g3:=hx0 aa;simp(disch:=omega) [zb,g5,lp',g1,g3,Zt,Zs,e1,e2,hli];refine ap8 (Qp _) hcl aa ?_;rw[hcell];simp only[Qo];simp(disch:=try exact cC)[Zt,Zs,e2]
   simp_all
theorem aon{l:bA}{L:Nat}(hl:RW l=N)(hL:L<=N):nP (tH l) (.ref 0 1 0 L N N)=Wf (S (l.take L)):=by simp only[nP,cellsOf,tH,aH];simp[hl,hL,<-List.map_take,Oy]
def iM(p:ax)(i:Nat):bA:=if i<RW p then(cJ (val Z (p.take i)) (9*i)).reverse else(aA (val Z p)).reverse
theorem PH{p:ax}(hp:bL Z p)(MT:p≠[])(i:Nat)(hi:i<=RW p):RW (iM p i)<=9*RW p:=by
 unfold iM;split
 .simp[fq];omega
 .have h1:=jH (B:=Z) cL hp;rw[uT]at h1;have:=eC h1 (by have:=Xn.2 MT;omega);simp[aA,fq];exact this
theorem ac1{p:ax}(hp:bL Z p)(hn:oO p){i:Nat}(hi:i<RW p):
  ∃w,(i+1<RW p∧0+w=9∨¬i+1<RW p∧0+w<=9∧nth 0 p i<10^w∧(0<w->10^(w-1)<=nth 0 p i))∧iM p (i+1)=iM p i++(cJ (nth 0 p i) w).reverse:=by
 have⟨x,hx⟩:=bZ (nth 0 p i);have hxZ:x<Z:=by rw[<-hx];exact hp.getD cL i
 have hv:=Pw (B:=Z) p hi;rw[show p.getD i 0=x from hx]at hv;have hlow:=jH (B:=Z) cL (hp.take i);rw[Zp,Yp aa]at hlow;rw[uT]at hlow hv;have⟨r,hr⟩:=bZ (val Z (p.take i));rw[hr]at hlow hv;rw[hx];by_cases hl:i+1<RW p
 .refine⟨9,.inl ⟨hl,rfl⟩,?_⟩;have hpp:0<10^(9*i):=Xr am;rw[iM,ip hl,iM,ip hi,hr,hv,show 9*(i+1)=9+9*i by omega,IM,X9 _ _ hpp,W6 hlow,Zh,IL,List.reverse_append]
 .have hip:i+1=RW p:=aa
  have hx0:0<x:=by
   have MT:p≠[]:=λe=>by rw[e]at hi;simp at hi
   have:=hn MT;rw[List.getLast_eq_getElem]at this;rw[<-hx,gN _ _ _ hi];have e:RW p-1=i:=aa;simp only[e]at this;omega
  refine⟨ay x,.inr ⟨hl,?_,eW x,λ_=>Bb x hx0⟩,?_⟩
  .have:ay x<=9:=eC (by simp only[Z]at hxZ;omega) am;omega
  .rw[iM,iN hl,iM,ip hi,hr]
   have hval:val Z p=r+10^(9*i)*x:=by
    have:p.take (i+1)=p:=Zx aa;rw[<-hv,this]
   rw[hval,akK hx0 hlow,List.reverse_append];rfl
theorem P7{p:ax}(hp:bL Z p)(hn:oO p)(MT:p≠[])(DP:RW p<100000000)(k:KL)(h0:Hp)(hh:RW h0=3){N:Nat}(hN:N=9*RW p) :
  ∀(r i:Nat),i+r=RW p->k (.exit 0) [.ref 0 1 0 (RW (iM p (RW p))) N N] (tH (iM p (RW p)++So (N-RW (iM p (RW p))) 0)) ->
  lp (ID DA (aj u6 p) (aj u6 p) (I (RW p))) [] h0 [.ref 0 1 0 (RW (iM p i)) N N,I i] (tH (iM p i++So (N-RW (iM p i)) 0)) k
 | 0,i=>by
  intro hi hk;have:i=RW p:=aa;subst this;apply aL;simp[ID];exact hk
 | r+1,i=>by
  intro hi hk;have hil:i<RW p:=aa;have⟨w,hw,DB⟩:=ac1 hp hn hil;have ih:=P7 hp hn MT DP k h0 hh hN r (i+1) aa hk;have hlen2:=PH hp MT (i+1) aa;rw[DB]at ih hlen2;have hlw:RW (iM p i++(cJ (nth 0 p i) w).reverse)=RW (iM p i)+w:=by simp[fq]
  rw[hlw]at ih hlen2;have e1:=λh:Hp=>mH u6 p h (k:=.i64) (i:=(i:Int)) aa aa
  have e2:=λh:Hp=>yB p h (j:=i) hil
  simp only[Int.toNat_natCast]at e1;have hxZ:nth 0 p i<1000000000:=by have:=hp.getD cL i;simp only[Z]at this;exact this
  apply aL;simp(disch:=omega) [ID,e1,e2];refine lo (P3 hil DP aa _ _ rfl w 0 (nth 0 p i) (iM p i) hw hxZ aa ?_);simp(disch:=try exact cC)[hh];simpa using ih
theorem k9:aA 0=[48]:=by rw[aA,show ay 0=1 by unfold ay;simp];rfl
theorem zV{n:Nat}(hb:RW (aI Z n)<100000000):Ds F.nN [gY n] (S (aA n)):=by
 apply ani;have⟨p,hp⟩:=bZ (aI Z n);have hs:bL Z p:=by rw[<-hp];exact jc cW n
 have hno:oO p:=by rw[<-hp];exact ND cW n
 have hv:val Z p=n:=by rw[<-hp];exact kS cW n
 rw[gY,hp];rw[hp]at hb;have lP:bh (aj u6 p)=Wf (I (RW p)):=rfl;by_cases MT:p=[]
 .subst MT;have:n=0:=by rw[<-hv];rfl
  subst this;simp[nN,lP];exact eA k9.symm
 .have hpos:=Xn.2 MT;have⟨N,hN⟩:=bD (9*RW p);have e9:(9:Int)*(RW p:Int)=(N:Int):=aa;have g1:¬((RW p:Int)=0):=aa;have g2:¬(RW p=0):=aa;have t0:iM p 0=[]:=by rw[iM,ip hpos];simp[cJ,val]
  have tl:iM p (RW p)=(aA n).reverse:=by rw[iM,iN aa,hv]
  have hln:=PH hs MT (RW p) (Z8 _);rw[tl,List.length_reverse]at hln;simp(disch:=omega) [nN,lP,g1,g2,MT,e9];refine Sk (e:=0) (b:=.none) rfl aa aa ?_;simp[lP]
  have hz:[(1,Bk.data 1 (So N (D.int iK.u8 0)) Th SM),ah,ah]=tH (iM p 0++So (N-RW (iM p 0)) 0):=by
   rw[t0];simp[tH,u8]
  have main:=P7 hs hno MT hb (aU [(.exit 0,λl7 h=>
   eQ DA.i h (.fn F.vr [] []) [(ge l7 0)] 2 λv8 h=>
   bnd (nP h (ge l7 0)) λv9=>
   out (S (aA n)) v9 h)]) (tH (iM p 0++So (N-RW (iM p 0)) 0)) rfl hN (RW p) 0 aa (by
   simp only[pA,tl,List.length_reverse,WR];have⟨l,hl⟩:=bZ ((aA n).reverse++So (N-RW (aA n)) 0);have hll:RW l=N:=by rw[<-hl];simp;omega
   rw[hl];have rv:=agS (h:=tH l) rfl (s:=0) (e:=1) (ex:=true) ac (L:=RW (aA n)) (cap:=N) (tot:=N) aa aa hll
   have hl2:(l.take (RW (aA n))).reverse++l.drop (RW (aA n))=aA n++So (N-RW (aA n)) 0:=by
    rw[<-hl,X7 ac,Wv ac,List.reverse_reverse]
   rw[hl2]at rv;refine gG rv ?_ ac
   show bnd (nP (tH _) _) _
   rw[aon dG aa,X7 rfl];exact eA rfl)
  rw[t0]at main hz;rw[hz];exact main
theorem aar(a b:ax)(hab:RW a=RW b)(hs:RW a<1000000000)(k:KL):∀i:Nat,i<=RW a->(yc a b i=0->k (.exit 0) [] [])->(yc a b i≠0->k .ret [I (yc a b i)] []) ->
  lp (BV DA (aj u6 a) (aj u6 b)) [] [] [I ((i:Int)-1)] [] k
 | 0,_,h0,_=>by
  apply aL;simp[BV];exact h0 rfl
 | i+1,hi,h0,h1=>by
  have e1:=λh:Hp=>mH u6 a h (k:=.i64) (i:=(i:Int)) aa aa
  have e2:=λh:Hp=>yB a h (j:=i) aa
  have e3:=λh:Hp=>mH u6 b h (k:=.i64) (i:=(i:Int)) aa aa
  have e4:=λh:Hp=>yB b h (j:=i) aa
  simp[Int.toNat_natCast]at e1 e3;have⟨x,hx⟩:=bZ (nth 0 a i);have⟨y,hy⟩:=bZ (nth 0 b i);rw[hx]at e2;rw[hy]at e4;simp only[yc,show a.getD i 0=x from hx,show b.getD i 0=y from hy]at h0 h1;have ei:((i+1:Nat):Int)-1=(i:Int):=aa;apply aL;rw[ei];by_cases g1:x<y
  .have g1':(x:Int)<(y:Int):=aa;rw[ip g1]at h1;simp[BV,e1,e2,e3,e4,g1'];exact h1 am
  .rw[iN g1]at h0 h1;have g1':¬(x:Int)<(y:Int):=aa;by_cases g2:y<x
   .have g2':(y:Int)<(x:Int):=aa;rw[ip g2]at h1;simp[BV,e1,e2,e3,e4,g1',g2'];exact h1 am
   .have g2':¬(y:Int)<(x:Int):=aa;rw[iN g2]at h0 h1;have:=aar a b hab hs k i aa h0 h1;simp(disch:=omega) [BV,e1,e2,e3,e4,g1',g2'];simpa using this
theorem aoJ(ha:RW (aI Z a)<1000000000)(hb:RW (aI Z b)<1000000000):Ds F.wX [gY a,gY b] (I (cmp a b)):=by
 apply ant;have la:bh (gY a)=Wf (I (RW (aI Z a))):=rfl;have lb:bh (gY b)=Wf (I (RW (aI Z b))):=rfl;by_cases hl:RW (aI Z a)=RW (aI Z b)
 .have ho:=Ti cL (jc cW a) (jc cW b) (RW (aI Z a)) (Z8 _) aa;rw[Xj,hl,Xj,kS cW,kS cW,<-hl]at ho;have hli:(RW (aI Z a):Int)=(RW (aI Z b):Int):=aa;simp(disch:=omega) [wX,la,lb,hl];refine lo (show lp _ _ _ _ _ _ from ?_);rw[<-hli]
  refine aar (aI Z a) (aI Z b) hl ha _ _ (Z8 _) (λh0=>?_) (λh0=>?_)
  .simp[pA];exact df (by rw[<-ho,h0])
  .simp[Im,Io,WR];exact df (by rw[ho])
 .have hli:¬(RW (aI Z a):Int)=(RW (aI Z b):Int):=aa;rcases Zi (RW (aI Z a)) (RW (aI Z b)) with h|h
  .have:=Oa cW (m:=a) (n:=b) h;have e:cmp a b = -1:=by simp[cmp,this]
   have e2:jQ SM 1 (jQ Th (-1) ((RW (aI Z a):Int)-(RW (aI Z b):Int))) = -1:=by simp[jQ];omega
   simp(disch:=omega) [wX,la,lb,hl,gk,e2];exact df (by rw[e])
  .have:=Oa cW (m:=b) (n:=a) aa;have e:cmp a b=1:=by unfold cmp;rw[iN aa,ip this]
   have e2:jQ SM 1 (jQ Th (-1) ((RW (aI Z a):Int)-(RW (aI Z b):Int)))=1:=by simp[jQ];omega
   simp(disch:=omega) [wX,la,lb,hl,gk,e2];exact df (by rw[e])
theorem vp(h:Hp)(l:bA):bQ h (S l)=Wf (S l,h):=rfl
theorem ZJ{n:Nat}(h:ay n<=d)(hd:d<90000000):RW (aI Z n)<100000000:=by have h1:=eW n;have h2:n<Z^d:=Z0 h1 (by rw[uT];exact Z2 am aa);have:=jd h2;omega
theorem Iw(hb:0<b)(ha:ay a<1000000)(hbd:ay b<1000000):Ds F.rE [S (aA a),S (aA b)] (.tup [S (aA (a/b)),S (aA (a%b)),I 0]):=by
 apply anO
 have MT:¬aA b=[48]:=by
  rw[<-k9];intro e;have:=RT (eM 0) e;rw[nI,nI]at this;omega
 have hla:=ZJ (V9 ha) am;have hlb:=ZJ (V9 hbd) am;have bo:=Ja a b;simp[rE,MT];by_cases h18:ay a<=18∧ay b<=18
 .rw[ip h18]at bo;have ha2:a<1000000000000000000:=by have:=eW a;have:=Z2 (n:=10) am h18.1;omega
  refine cd bo ?_;have⟨q,hq⟩:=bZ (a/b);have⟨r,hr⟩:=bZ (a%b);have hqa:q<=a:=by rw[<-hq];exact Yv ..
  have hra:r<=a:=by rw[<-hr];exact Nat.mod_le ..
  have e1:(a:Int)/(b:Int)=(q:Int):=by rw[<-hq];simp
  have e2:(a:Int)%(b:Int)=(r:Int):=by rw[<-hr];simp
  have hb0:¬((b:Int)=0):=aa;have hb0':¬(b=0):=aa;rw[hq,hr];simp(disch:=try exact cC)[hb0,hb0',Zs,Zt,e1,e2];refine cd (AZ (n:=q) aa) ?_;simp[hb0,hb0',Zs,Zt,e1,e2];refine cd (AZ (n:=r) aa) ?_;exact oj (vp _ _) (vp _ _) rfl
 .rw[iN h18]at bo;refine cd bo ?_;have⟨ca,hca⟩:=bD (ay a/9+1);have⟨cb,hcb⟩:=bD (ay b/9+1);have ltA:a<Z^ca:=Z0 (eW a) (by rw[uT];exact Z2 am aa);have uj:b<Z^cb:=Z0 (eW b) (by rw[uT];exact Z2 am aa)
  have cA:=tc (h:=[ah,ah]) rfl (n:=a) aa hca;have lA:RW (bE ca a)=ca:=iU ..;have lB:RW (bE cb b)=cb:=iU ..;have cB:=tc (h:=[(1,.data 1 ((bE ca a).map u6) Th SM),ah]) rfl (n:=b) aa hcb;simp;refine ii (jS (e:=0) (b:=.none) cA rfl ?_);rw[List.length_map,lA];simp
  refine ii (jS (e:=0) (b:=.none) cB rfl ?_);rw[List.length_map,lB];simp;have sA:=vq (h:=[(1,.data 1 ((bE ca a).map u6) Th SM),(1,.data 1 ((bE cb b).map u6) Th SM)]) (s:=0) rfl lA.symm (len:=RW (aI Z a)) (cap:=ca) (jd ltA) (Z8 _)
  have sB:=vq (h:=[(1,.data 1 ((bE ca a).map u6) Th Th),(1,.data 1 ((bE cb b).map u6) Th SM)]) (s:=1) rfl lB.symm (len:=RW (aI Z b)) (cap:=cb) (jd uj) (Z8 _);rw[uC ltA]at sA;rw[uC uj]at sB;simp[List.set_cons_zero,List.set_cons_succ]at sA sB
  have sAB:bY [(1,.data 1 ((bE ca a).map u6) Th SM),(1,.data 1 ((bE cb b).map u6) Th SM)] [.ref 0 1 0 (RW (aI Z a)) ca ca,.ref 1 1 0 (RW (aI Z b)) cb cb]=Wf ([gY a,gY b],[(1,.data 1 ((bE ca a).map u6) Th Th),(1,.data 1 ((bE cb b).map u6) Th Th)]):=by
   simp only[bY,sA,sB];rfl
  refine rF sAB (aoJ (a:=a) (b:=b) aa aa) ?_;rw[show fk (I (cmp a b))=Th from rfl,ip rfl];by_cases hab:a<b
  .have hc:cmp a b = -1:=by simp[cmp,hab]
   rw[W6 hab,X6 hab,k9];simp[hc];exact oj (vp _ _) (vp _ _) rfl
  .have hc:¬cmp a b<0:=by unfold cmp;rw[iN hab];split<;>decide
   have Rg:RW (aI Z b)<=RW (aI Z a):=by
    rcases Zi (RW (aI Z a)) (RW (aI Z b)) with h|h
    .exact absurd (Oa cW h) hab
    .exact h
   have lq:RW (aI Z (a/b))<100000000:=by
    have:a/b<=a:=Yv ..;have:=jd (Zf this ltA);omega
   have lr:RW (aI Z (a%b))<100000000:=by
    have:a%b<=a:=Nat.mod_le ..;have:=jd (Zf this ltA);omega
   by_cases h1:RW (aI Z b)=1
   .have hbZ:b<Z:=by have:=wu b;rw[h1,Nat.pow_one]at this;exact this
    have⟨cb',hcb'⟩:∃c,cb=c+1:=⟨cb-1,aa⟩;have hn0:nth 0 (bE cb b) 0=b:=by rw[hcb',bE];simp[nth,X6 hbZ]
    have r1:=qk (h:=[(1,.data 1 ((bE ca a).map u6) Th SM),(1,.data 1 ((bE cb b).map u6) Th SM)]) (s:=1) rfl lB.symm (len:=1) (cap:=cb) (i:=0) aa aa .i64;have r2:=um (h:=[(1,.data 1 ((bE ca a).map u6) Th SM),(1,.data 1 ((bE cb b).map u6) Th SM)]) (s:=1) rfl lB.symm (j:=0) aa;rw[hn0]at r2
    have r1':bC [(1,Bk.data 1 ((bE ca a).map u6) Th SM),(1,.data 1 ((bE cb b).map u6) Th SM)] 1 (.ref 1 1 0 1 cb cb) (I 0)=Wf (.ptr 1 1 0 cb):=r1;simp[hc,h1,r1',r2];refine rF (ds:=[gY a,U b]) (h':=[(1,.data 1 ((bE ca a).map u6) Th Th),(1,.data 1 ((bE cb b).map u6) Th SM)]) (by simp only[bY,sA,tM];rfl) (QQ (a:=a) (n:=b) aa hb aa) ?_
    rw[show fk (.tup [gY (a/b),U (a%b:Nat)])=SM from rfl];simp;refine cd (args:=[gY (a/b)]) (zV lq) ?_ (by simp[bY,gY]);simp;refine cd (AZ (n:=a%b) (by have:=Y7 a hb;simp[Z]at hbZ;omega)) ?_;exact oj (vp _ _) (vp _ _) rfl
   ·have h0:RW (aI Z b)≠0:=λe=>by
     have:=wu b;rw[e]at this;simp at this;omega
    have h1i:¬(RW (aI Z b):Int)=1:=aa;simp[hc,h1,h1i];refine rF sAB (am4 (P:=a) (Q:=b) aa Rg (by have:=jd ltA;omega)) ?_;rw[show fk (.tup [gY (a/b),gY (a%b)])=SM from rfl];simp;refine cd (args:=[gY (a/b)]) (zV lq) ?_ (by simp[bY,gY]);simp;refine cd (args:=[gY (a%b)]) (zV lr) ?_ (by simp[bY,gY])
    exact oj (vp _ _) (vp _ _) rfl
def fu(s:bA):bA:=if s.headD 0=45 then s.tail else s
def mq(s:bA):Bool:=decide (s.headD 0=45)
def rd(s:bA):Option Int:=if(fu s).length<=400 then qM s else Vc
theorem SE(s:bA):rd s=if(fu s).length<=400∧fu s≠[]∧¬((fu s).headD 0=48∧(1<RW (fu s)∨mq s=Th))∧(fu s).all iA=Th then Wf (if mq s=Th then -(eM 0 (fu s):Int)else(eM 0 (fu s):Int))else Vc:=by
 unfold rd qM
 have hcan:∀t:bA,iL t=Th↔t≠[]∧t.all iA=Th∧¬(1<RW t∧t.headD 0=48):=λt=>by
  simp[iL,and_assoc];intro _ _;constructor
  .rintro(h|h) g
   .omega
   omega
  .intro h;by_cases g:1<RW t
   .grind
   .exact .inl aa
 by_cases h:s.headD 0=45
 .have e1:fu s=s.tail:=by unfold fu;rw[ip h]
  have e2:mq s=Th:=by unfold mq;simpa using h
  rw[e1,e2,ip h];generalize s.tail=t;by_cases h1:RW t<=400
  .simp only[h1,iT,true_and,hcan];by_cases h2:t≠[]∧¬(t.headD 0=48∧(1<RW t∨True))∧t.all iA=Th
   .grind
   .rw[iN h2,iN];rintro⟨⟨a,b,c⟩,d⟩;refine h2 ⟨a,λx=>?_,b⟩;by_cases g:1<RW t
    .grind
    .apply d;cases t with
     |nil=>trivial
     | cons y t=>
      grind
  grind
 .have e1:fu s=s:=by unfold fu;rw[iN h]
  have e2:mq s=SM:=by unfold mq;simpa using h
  grind
theorem ag9{s:bA}(h:rd s=Wf z):z.natAbs<10^400:=by
 rw[SE]at h;split at h
 .rename_i hc;simp only[Z9]at h;have hi:=BD (fu s) 0 hc.2.2.2;have:eM 0 (fu s)<10^400:=Z0 hi (by set_option exponentiation.threshold 1000 in rw[Zh,W0];exact Z2 am hc.1)
  have hz:z.natAbs=eM 0 (fu s):=by
   rw[<-h];split<;>simp
  rw[hz];exact this
 .cases h
def jY(a b:bA):Option (Int×Nat):=match rd a,rd b with
 |some n,Wf d=>if 0<d∧Nat.gcd n.natAbs d.natAbs=1 then Wf (n,d.natAbs)else Vc
 |_,_=>Vc
theorem ir(h:a<=b):ay a<=ay b:=eC (Zf h (eW b)) (nF b)
theorem alB(k:KL):∀(b a:Nat),ay a<1000000->ay b<1000000->k (.exit 0) [S (aA (Nat.gcd a b))] []->lp (II DA) [] [] [S (aA a),S (aA b)] [] k:=by
 intro b
 induction b using Nat.strongRecOn with
 | _ b ih=>
  intro a ha hb hk;by_cases h0:b=0
  .subst h0;rw[Nat.gcd_zero_right]at hk;apply aL;rw[k9];simp[II];exact hk
  .have hbp:0<b:=aa
   have MT:¬aA b=[48]:=by
    rw[<-k9];intro e;have:=RT (eM 0) e;rw[nI,nI]at this;omega
   have hm:=Y7 a hbp
   have hk2:=ih (a%b) hm b hb (Zf (ir (V9 hm)) hb) (by
    rw[V7 b,<-Nat.gcd_rec,V7 b];exact hk)
   apply aL;simp[II,MT];refine cd (Iw hbp ha hb) ?_;simp;exact hk2
theorem WV(ha:ay a<1000000)(hb:ay b<1000000):Ds F.zd [S (aA a),S (aA b)] (S (aA (Nat.gcd a b))):=by apply anM;simp[zd];refine lo (alB _ b a ha hb ?_);simp;exact eA rfl
theorem alA(k:KL):∀(b a:Nat),a<1000000000000000000->b<1000000000000000000->k (.exit 0) [I (Nat.gcd a b:Nat)] []->lp (EO DA) [] [] [I a,I b] [] k:=by
 intro b
 induction b using Nat.strongRecOn with
 | _ b ih=>
  intro a ha hb hk;by_cases h0:(b:Int)=0
  .have:b=0:=aa;subst this;rw[Nat.gcd_zero_right]at hk;apply aL;simp[EO];exact hk
  .have hbp:0<b:=aa;have hm:=Y7 a hbp
   have hk2:=ih (a%b) hm b hb aa (by
    rw[V7 b,<-Nat.gcd_rec,V7 b];exact hk)
   have h0':¬b=0:=aa;have e2:(a:Int)%(b:Int)=((a%b:Nat):Int):=ac;have⟨r,hr⟩:=bZ (a%b);rw[hr]at hk2 e2;apply aL;simp[EO,h0,h0',Zt,e2];exact hk2
theorem alz(ha:a<1000000000000000000)(hb:b<1000000000000000000):Ds F.zE [I a,I b] (I (Nat.gcd a b:Nat)):=by apply abZ;simp[zE];refine lo (alA _ b a ha hb ?_);simp only[pA];exact df rfl
theorem LD{n:Nat}(h:n<9223372036854775808):Ds F.iX [I n] (S (aA n)):=by
 apply Pm;simp[iX];have e:itoa (n:Int)=aA n:=by unfold itoa;rw[iN aa];rfl
 refine cd (HO (z:=n) aa aa) ?_;rw[e]
 try simp(disch:=try exact cC)
 exact eA rfl
theorem UL(a:Nat):Ds F.kh [S (aA a),I 18] (if ay a<=18 then .tup [I a,B Th]else .tup [I 0,B SM]):=by
 apply Jw;have la:=sN a;by_cases h:18<ay a
 .rw[iN aa];simp(disch:=omega) [kh,la,h];exact fR rfl rfl
 .rw[ip aa];have ap:=OK (n:=a) (nF a) aa (eW a);have en:pI .eql (.d (.pl .nilIface)) (.d (.pl .nilIface))=Wf (.d (.bool Th)):=rfl;simp(disch:=omega) [kh,la,h];refine cd (args:=[S (aA a)]) ap ?_;simp[en];exact fR rfl rfl
theorem CK(s:bA):Ds F.ie [S s] (.tup [B (mq s),S (fu s)]):=by
 apply abY;cases s with
 | nil=>
  simp[ie];exact fR rfl rfl
 | cons c t=>
  have hix:fF (S (c::t)) (.d (.int .i64 0))=Wf (.d (.int .u8 c.toNat)):=rfl;by_cases h:c=45
  .subst h;have e:((45:UInt8).toNat:Int)=45:=rfl;simp(disch:=try exact cC)[ie,hix,e];exact fR rfl rfl
  .have e:¬(c.toNat:Int)=45:=λg=>h (by apply UInt8.toNat.inj;simpa using(by omega:c.toNat=45))
   have e1:fu (c::t)=c::t:=by simp[fu,h]
   have e2:mq (c::t)=SM:=by simp[mq,h]
   rw[e1,e2];simp[ie,hix,e];exact fR rfl rfl
theorem aaD(l:bA)(hl:RW l<1000000000)(k:KL):∀(q p:bA),p++q=l->(q.all iA=Th->k (.exit 0) [] [])->(q.all iA=SM->k .ret [B SM] [])->lp (BX DA (aj u8 l) (I (RW l))) [] [] [I (RW p)] [] k
 | []=>by
  intro p hp h0 h1;simp at hp;subst hp;apply aL;simp[BX];exact h0 rfl
 | c::q=>by
  intro p hp h0 h1;have DP:RW p<RW l:=by subst hp;simp
  have hc:nth 0 l (RW p)=c:=by subst hp;simp
  have e1:=λh:Hp=>mH u8 l h (k:=.i64) (i:=(RW p:Int)) aa aa
  have e2:=λh:Hp=>mZ u8 0 l h (j:=RW p) DP
  rw[hc]at e2;simp[Int.toNat_natCast]at e1;have ih:=aaD l hl k q (p++[c]) (by simpa using hp);apply aL;by_cases g1:(c.toNat:Int)<48
  .have g3:iA c=SM:=by rw[Bool.eq_false_iff];intro h;rw[ql]at h;omega
   simp(disch:=omega) [BX,e1,e2,u8,g1];exact h1 (by simp[g3])
  .by_cases g2:(57:Int)<c.toNat
   .have g3:iA c=SM:=by rw[Bool.eq_false_iff];intro h;rw[ql]at h;omega
    simp(disch:=omega) [BX,e1,e2,u8,g1,g2];exact h1 (by simp[g3])
   .have g3:iA c=Th:=by rw[ql];omega
    have:=ih (λh=>h0 (by simp[g3];simpa using h)) (λh=>h1 (by simp[List.all_cons,h,V8]));simp(disch:=omega) [BX,e1,e2,u8,g1,g2];simpa using this
theorem ao1(l:bA)(hl:RW l<1000000000):Ds F.BY [S l] (B (iL l)):=by
 apply anS;unfold BY
 show oG (S l) _ _
 rw[aae];have lL:fv (S l)=Wf (I (RW l)):=rfl;simp;refine lo (aaD l hl _ l [] rfl (λe=>?_) (λe=>?_))
 .simp only[pA];cases l with
  | nil=>
   simp[lL];exact fp (by simp[iL])
  | cons c t=>
   have hix:fF (S (c::t)) (.d (.int .i64 0))=Wf (.d (.int .u8 c.toNat)):=rfl;cases t with
   | nil=>
    simp[lL];exact fp (by simp[iL]at e ⊢;exact e)
   | cons d t=>
    have⟨N,hN⟩:∃N,RW (c::d::t)=N:=⟨_,rfl⟩;have hN2:2<=N:=by rw[<-hN];simp only[List.length_cons];omega
    rw[hN]at lL;have g2:(1:Int)<(N:Int):=aa;have g3:¬(N:Int)=1:=aa;by_cases h:c=48
    .subst h;have e48:((48:UInt8).toNat:Int)=48:=rfl;simp[lL,g2,g3,hix,e48];exact fp (by simp[iL])
    .have e48:¬(c.toNat:Int)=48:=λg=>h (by apply UInt8.toNat.inj;simpa using(by omega:c.toNat=48))
     simp[lL,g2,g3,hix,e48]
     exact fp (by
      have:iL (c::d::t)=Th:=by simp only[iL,e];simp[h]
      exact this.symm)
 .simp only[Im,Io];exact fp (by simp[iL,e,V8,Bool.false_and])
theorem aoR(l:bA)(hl:RW l<1000000000):Ds F.ze [S l] (I (if iL l=Th∧RW l<=400 then 0 else 2)):=by
 apply anR;have lL:fv (S l)=Wf (I (RW l)):=rfl;have⟨N,hN⟩:=bZ (RW l);rw[hN]at lL ⊢;simp[ze];refine cd (ao1 l hl) ?_;cases hc:iL l with
 | false=>
  simp<;>exact df ac
 | true=>
  by_cases h:(400:Int)<N
  .simp[lL,h]<;>exact df (by rw[iN aa])
  .have h2:Th=Th∧N<=400:=⟨rfl,aa⟩;simp[lL,h]<;>exact df (by rw[ip h2.2])
theorem ag8(s:bA):(rd s).isSome=(!(mq s&&decide (fu s=[48]))&&(iL (fu s)&&decide (RW (fu s)<=400))):=by
 unfold rd qM mq fu;by_cases h45:s.headD 0=45
 .simp only[h45,iT];have⟨t,ht⟩:=bZ (s.tail);rw[ht];by_cases hl:RW t<=400
  .by_cases h48:t=[48]
   .simp[h48]
   .cases hc:iL t<;>simp[hl,h48]
  .simp[hl]
 .simp only[h45,iF];by_cases hl:RW s<=400
  .cases hc:iL s<;>simp[hl]
  .simp[hl]
theorem aaw(s:bA)(hs:RW s<1000000000):Ds F.xi [S s] (I (if(rd s).isSome then 0 else 2)):=by
 apply acb
 have hT:RW (fu s)<1000000000:=by
  unfold fu;split
  .have:RW s.tail=RW s-1:=List.length_tail;omega
  .exact hs
 rw[ag8];simp[xi];refine cd (CK s) ?_;have hck:=aoR (fu s) hT;have⟨t,ht⟩:=bZ (fu s);rw[ht]at hck ⊢;have⟨c4,hc4⟩:∃c4,(iL t&&decide (RW t<=400))=c4:=⟨_,rfl⟩
 have hck2:Ds F.ze [S t] (I (if c4=Th then 0 else 2)):=by
  have:(if iL t=Th∧RW t<=400 then(0:Int)else 2)=if c4=Th then 0 else 2:=by
   rw[<-hc4];by_cases h:iL t=Th∧RW t<=400
   .rw[ip h];simp[h]
   .rw[iN h];rw[iN (by simpa using h)]
  rw[<-this];exact hck
 rw[hc4];cases hn:mq s with
 | true=>
  by_cases h3:t=[48]
  .simp[h3]<;>exact df ac
  .simp[h3];refine cd hck2 ?_;cases c4 with
   |true=>simp[h3]<;>exact df (by simp[h3])
   |false=>simp[h3]<;>exact df (by simp[h3])
 | false=>
  simp;refine cd hck2 ?_;cases c4 with
  |true=>simp<;>exact df ac
  |false=>simp<;>exact df ac
theorem Bw(z:Int):fu (itoa z)=aA z.natAbs:=by
 unfold itoa fu;split
 .simp
 .rw[iN (yM _)]
theorem Cg(z:Int):Ds F.lK [S (itoa z)] (S (aA z.natAbs)):=by apply Po;have:=CK (itoa z);rw[Bw]at this;simp[lK];refine cd this ?_;simp<;>exact eA rfl
def eU(z:Int):Int:=if z=0 then 0 else if z<0 then -1 else 1
theorem tT(z:Int):Ds F.kR [S (itoa z)] (I (eU z)):=by
 apply ab2;by_cases h0:z=0
 .subst h0;have e:itoa 0=[48]:=k9;rw[e];simp[kR]<;>exact df rfl
 ·have MT:¬itoa z=[48]:=by
   intro e;have h1:=SF z;have h2:=SF 0;rw[show itoa 0=[48]from k9,<-e,h1]at h2;exact h0 (Option.some.inj h2)
  by_cases hn:z<0
  .have e:itoa z=45::aA z.natAbs:=by unfold itoa;rw[ip hn]
   have hix:fF (S (itoa z)) (.d (.int .i64 0))=Wf (.d (.int .u8 45)):=by rw[e];rfl
   simp[kR,MT,hix]<;>exact df (by simp[eU,h0,hn])
  .have e:itoa z=aA z.natAbs:=by unfold itoa;rw[iN hn]
   obtain ⟨c,t,hct⟩:∃c t,aA z.natAbs=c::t:=by
    cases h:aA z.natAbs with
    |nil=>exact absurd h (DL _)
    |cons c t=>exact⟨c,t,rfl⟩
   have hhd:=yM z.natAbs;rw[hct]at hhd;have hix:fF (S (itoa z)) (.d (.int .i64 0))=Wf (.d (.int .u8 c.toNat)):=by rw[e,hct];rfl
   have hc:¬(c.toNat:Int)=45:=λg=>hhd (by apply UInt8.toNat.inj;simpa using(by omega:c.toNat=45))
   simp[kR,MT,hix,hc]<;>exact df (by simp[eU,h0,hn])
theorem WU{w:Int}(hz:ay z.natAbs<1000000)(hw:ay w.natAbs<1000000):Ds F.u5 [S (itoa z),S (itoa w)] (S (aA (Nat.gcd z.natAbs w.natAbs))):=by
 apply ab7;have l1:=UL z.natAbs;have l2:=UL w.natAbs;have gg:=WV hz hw;simp[u5];refine cd (Cg z) ?_;simp;refine cd (Cg w) ?_;simp;by_cases h1:ay z.natAbs<=18
 .rw[ip h1]at l1;refine cd l1 ?_;simp;by_cases h2:ay w.natAbs<=18
  .rw[ip h2]at l2;apply cg;simp;refine cd l2 ?_;have b1:z.natAbs<1000000000000000000:=by have:=eW z.natAbs;have:=Z2 (n:=10) am h1;omega
   have b2:w.natAbs<1000000000000000000:=by have:=eW w.natAbs;have:=Z2 (n:=10) am h2;omega
   have gi:=alz b1 b2
   have gb:Nat.gcd z.natAbs w.natAbs<9223372036854775808:=by
    rcases Ze w.natAbs with h|h
    .rw[h,Nat.gcd_zero_right];omega
    .have:=Nat.gcd_le_right z.natAbs h;omega
   generalize Nat.gcd z.natAbs w.natAbs=G at *;generalize z.natAbs=a at *;generalize w.natAbs=b at *;simp;refine cd gi ?_;simp;refine cd (LD gb) ?_;exact eA rfl
  .rw[iN h2]at l2;apply cg;simp;refine cd l2 ?_;simp;refine cd gg ?_;exact eA rfl
 .rw[iN h1]at l1;refine cd l1 ?_;simp;refine cd (u:=.mk) gg ?_;exact eA rfl
theorem Gj{s:bA}(h:rd s=Wf z):s=itoa z∧ay z.natAbs<1000000:=by
 have hb:=ag9 h;unfold rd at h;split at h
 .exact⟨ahb h,by have:=eC hb am;omega⟩
 .cases h
theorem ahc(a b:bA):(jY a b).isSome=match rd a,rd b with
  |some n,Wf d=>decide (0<d∧Nat.gcd n.natAbs d.natAbs=1)
  |_,_=>SM:=by
 unfold jY;cases rd a<;>cases rd b<;>simp
 split<;>simp_all
theorem Od(a b:bA)(ha:RW a<1000000000)(hb:RW b<1000000000):Ds F.uB [.agg [S a,S b]] (I (if(jY a b).isSome then 0 else 2)):=by
 apply alS;have ca:=aaw a ha;have cb:=aaw b hb;rw[ahc];simp[uB];refine cd ca ?_;cases hra:rd a with
 | none=>
  simp;apply cg;simp<;>exact df rfl
 | some z=>
  cases hrb:rd b with
  | none=>
   rw[hrb]at cb;simp;apply cg;simp;refine cd cb ?_;simp<;>exact df rfl
  | some w=>
   rw[hrb]at cb;have⟨ea,na⟩:=Gj hra;have⟨eb,nb⟩:=Gj hrb;subst ea;subst eb;have sg:=tT w;have gg:=WU na nb;simp;apply cg;simp;refine cd cb ?_;simp;refine cd sg ?_;by_cases hw:0<w
   .have hs:¬eU w<=0:=by unfold eU;rw[iN aa,iN aa];decide
    simp[hs];apply cg;simp;refine cd gg ?_;by_cases hg:Nat.gcd z.natAbs w.natAbs=1
    .have e1:aA 1=[49]:=by rw[aA,show ay 1=1 by unfold ay;simp];rfl
     rw[show aA (Nat.gcd z.natAbs w.natAbs)=[49] by rw[hg,e1]];simp<;>exact df (by simp[hw];exact hg)
    ·have e1:¬aA (Nat.gcd z.natAbs w.natAbs)=[49]:=by
      intro e;have:=RT (eM 0) e;rw[nI]at this;exact hg this
     simp[e1]<;>exact df (by simp[hw,hg])
   .have hs:eU w<=0:=by unfold eU;split;decide;rw[ip aa];decide
    simp[hs];apply cg;simp[hs]<;>exact df (by simp[hw])
def SU(n:Nat):Nat->Nat->Bool
 |0,_=>Th
 |k+1,d=>if n%d=0 then SM else SU n k (d+1)
def yb(n:Int):Bool:=decide (2<=n)&&decide (n<=97)&&SU n.toNat (n.toNat-2) 2
def vH(s:bA):Bool:=decide (RW (fu s)<=30)
abbrev Tx:=bA×bA
def bb(x:Tx):bF:=[.str x.1,.str x.2]
theorem dZ(x:Tx):RW (bb x)=2:=rfl
def CJ(n:Nat):Nat->Nat->Bool
 |0,_=>Th
 |r+1,d=>if d*d<=n then(if n%d=0 then SM else CJ n r (d+1))else Th
theorem aej:∀n:Fin 98,2<=n.val->CJ n.val 10 2=yb n.val:=dw
theorem QF(n:Nat)(hn:n<=97)(k:KL):∀(r d:Nat),2<=d->d+r=12->(CJ n r d=Th->k (.exit 0) [] [])->(CJ n r d=SM->k .ret [B SM] []) ->
  lp (AQ DA (I n)) [] [] [I d] [] k
 | 0,d,hd,hr,h0,h1=>by
  have:d=12:=aa;subst this;have g:¬((12:Nat):Int)*((12:Nat):Int)<=(n:Int):=aa;have g2:¬(144:Int)<=(n:Int):=aa;apply aL;simp[AQ,g,g2];exact h0 rfl
 | r+1,d,hd,hr,h0,h1=>by
  have ih:=QF n hn k r (d+1) aa aa;have hd12:d<=12:=aa;have⟨s,hs⟩:=bZ (d*d);have hsb:s<=144:=by rw[<-hs];exact Zr hd12 hd12
  have e1:(d:Int)*(d:Int)=(s:Int):=by rw[<-hs];simp
  rw[CJ,hs]at h0 h1;apply aL;by_cases g:s<=n
  .have g':(s:Int)<=(n:Int):=aa;rw[ip g]at h0 h1;have hd0:¬((d:Int)=0):=aa;have hd0':¬(d=0):=aa;have⟨m,hm⟩:=bZ (n%d);have e2:(n:Int)%(d:Int)=(m:Int):=by rw[<-hm];simp
   rw[hm]at h0 h1;by_cases h:m=0
   .have h':(m:Int)=0:=aa;rw[ip h]at h1;simp(disch:=omega) [AQ,e1,g',hd0,hd0',Zt,e2,h',h];exact h1 rfl
   .have h':¬(m:Int)=0:=aa;rw[iN h]at h0 h1;have:=ih h0 h1;simp(disch:=omega) [AQ,e1,g',hd0,hd0',Zt,e2,h',h];simpa using this
  .have g':¬(s:Int)<=(n:Int):=aa;rw[iN g]at h0;simp(disch:=omega) [AQ,e1,g'];exact h0 rfl
theorem akL(n:Int):Ds F.vW [I n] (B (yb n)):=by
 apply ahr;by_cases h1:n<2
 .simp[vW,h1]<;>exact fp (by simp[yb];omega)
 by_cases h2:97<n
 .simp[vW,h1,h2]<;>exact fp (by simp[yb];omega)
 obtain⟨m,rfl⟩:∃m:Nat,n=m:=⟨n.toNat,aa⟩;have ha:=aej ⟨m,aa⟩ dG;simp only at ha;simp[vW,h1,h2];refine lo (QF m aa _ 10 2 aa rfl (λe=>?_) (λe=>?_))
 .simp[pA];exact fp (by rw[<-ha,e])
 .simp only[Im,Io];exact fp (by rw[<-ha,e])
def Li(prev:Option Int)(x:Int):Bool:=match prev with|some y=>decide (y<x)|none=>Th
def qO:Option Int->aw->Int
 |_,[]=>0
 |prev,x::q=>cond (yb x) (cond (Li prev x) (qO (Wf x) q) 6) 25
theorem SZ(k:KL):∀(q a:aw),RW (a++q)<1000000000->(qO a.getLast? q=0->k (.exit 1) [] [])->(qO a.getLast? q≠0->k .ret [I (qO a.getLast? q)] []) ->
  lp (Gw DA (aj di (a++q)) (aj di (a++q)) (I (RW (a++q)))) [] [] [I (RW a)] [] k
 | []=>by
  intro a hN h0 h1;apply aL;simp[Gw];exact h0 rfl
 | x::q=>by
  intro a hN h0 h1;simp at hN;have ih:=SZ k q (a++[x]) dG;rw[List.getLast?_concat]at ih;apply aL;simp(disch:=try exact cC)[Gw];refine cd (akL x) ?_;by_cases hp:yb x=Th
  .rcases List.eq_nil_or_concat a with rfl|⟨b,y,rfl⟩
   .simp only[qO,hp,List.getLast?_nil,Li,cond_true]at h0 h1;simp[hp];have:=ih h0 h1;simpa using this
   .rw[List.concat_eq_append]at *;have hny:nth 0 (b++[y]++x::q) (RW b)=y:=by rw[List.append_assoc];simp
    rw[List.getLast?_concat]at h0 h1;simp only[qO,hp,Li,cond_true]at h0 h1;have eI:∀h:Hp,bC h 1 (aj di (b++[y]++x::q)) (.d (.int .i64 (RW b:Int)))=Wf (.dptr ((b++[y]++x::q).map di) (RW b)):=λh=>sQ di _ h rfl ac
    have eL:∀h:Hp,ld1 h (.dptr ((b++[y]++x::q).map di) (RW b))=Wf (.d (di y)):=λh=>by
     have:=Mh (b++[y]++x::q) h (j:=RW b) ac;rw[hny]at this;exact this
    have hA:b++[y]++[x]++q=b++[y]++x::q:=ac;have hn:RW (b++[y])=RW b+1:=ac;have hn2:RW (b++[y]++[x])=RW b+1+1:=ac;rw[hA,hn2]at ih;rw[hn]at hN ⊢;generalize b++[y]++x::q=A at *;generalize (RW b)=m at *;have e':((m+1:Nat):Int)-1=(m:Int):=aa;have hl0:(0:Int)<((m+1:Nat):Int):=aa;have⟨m1,hm1⟩:=bD (m+1);rw[<-hm1]at e' hl0 ih ⊢
    by_cases hyx:y<x
    .have g1:¬x<=y:=aa;rw[show decide (y<x)=Th by simpa using hyx]at h0 h1;simp only[cond_true]at h0 h1;have:=ih h0 h1;simp(disch:=omega) [hp,e',hl0,eI,eL,g1];simpa using this
    .have g1:x<=y:=aa;rw[show decide (y<x)=SM by simpa using hyx]at h1;simp only[cond_false]at h1;simp(disch:=omega) [hp,e',hl0,eI,eL,g1];simpa using h1
  .have hpf:yb x=SM:=by simpa using hp
   simp only[qO,hpf,cond_false]at h1;simp[hpf];simpa using h1
def ef(p:aw):Int:=if RW p=0 then 13 else if 6<RW p then 4 else qO Vc p
theorem AR{p:aw}(hN:RW p<1000000000):Ds F.o6 [aj di p] (I (ef p)):=by
 apply ahs;have lp':bh (aj di p)=Wf (I (RW p)):=rfl;by_cases h1:(RW p:Int)=0
 .have e:ef p=13:=by unfold ef;exact ip aa
  have hnil:p=[]:=Yd.1 aa;rw[e];subst hnil;simp[o6]<;>exact df rfl
 have h1':¬RW p=0:=aa;have MT:¬p=[]:=λe=>h1' (by rw[e];rfl)
 by_cases h2:(6:Int)<RW p
 .have e:ef p=4:=by unfold ef;exact(iN h1').trans (ip aa)
  rw[e];simp[o6,lp',h1,h2,MT]<;>exact df rfl
 have e:ef p=qO Vc p:=by unfold ef;exact(iN h1').trans (iN aa)
 unfold o6;rw[e]
 have main:=SZ (aU [((.exit 1),λl6 h=>out (I (qO Vc p)) (.d (.int .i64 0)) h),(.ret,λl6 h=>out (I (qO Vc p)) (ge l6 0) h)]) p [] (by simpa using hN) (λg=>by
  simp[List.getLast?_nil]at g;simp[pA];exact df g.symm) (λg=>by
  simp only[List.getLast?_nil]at g ⊢;simp only[Im,Io];exact df rfl)
 simp[lp',h1,h2,MT];exact main
theorem ZQ(ha:ay a<1000000)(hb:ay b<1000000):Ds F.uO [S (aA a),S (aA b)] (S (aA (a*b))):=by
 apply anK;have la:=sN a;have lb:=sN b;have bo:=Ja a b;by_cases h18:(ay a:Int)+(ay b:Int)<=18
 .rw[ip ⟨aa,aa⟩]at bo
  have hm:a*b<1000000000000000000:=by
   have h1:=eW a;have h2:=eW b;have h3:a*b<10^ay a*10^ay b:=Yf h1 h2;rw[<-Yr]at h3;have h4:10^(ay a+ay b)<=10^18:=Z2 am aa;exact Z0 h3 h4
  have⟨m,hmm⟩:=bZ (a*b);have e1:(a:Int)*(b:Int)=(m:Int):=by rw[<-hmm];simp
  rw[hmm]at hm ⊢;simp(disch:=try exact cC)[uO,la,lb,h18];refine cd bo ?_;simp(disch:=try exact cC)[e1];refine cd (AZ (n:=m) aa) ?_;exact eA rfl
 .have⟨ca,hca⟩:=bD (ay a/9+1);have⟨cb,hcb⟩:=bD (ay b/9+1);have ltA:a<Z^ca:=Z0 (eW a) (by rw[uT];exact Z2 am aa);have uj:b<Z^cb:=Z0 (eW b) (by rw[uT];exact Z2 am aa)
  have cA:=tc (h:=[ah,ah,ah]) rfl (n:=a) aa hca;have lA:RW (bE ca a)=ca:=iU ..;have lB:RW (bE cb b)=cb:=iU ..;have cB:=tc (h:=[(1,.data 1 ((bE ca a).map u6) Th SM),ah,ah]) rfl (n:=b) aa hcb;simp(disch:=try exact cC)[uO,la,lb,h18];refine ii (jS (e:=0) (b:=.none) cA rfl ?_)
  rw[List.length_map,lA];simp;refine ii (jS (e:=0) (b:=.none) cB rfl ?_);rw[List.length_map,lB];simp;have rA:=Jj (h:=[(1,.data 1 ((bE ca a).map u6) Th SM),(1,.data 1 ((bE cb b).map u6) Th SM),ah]) (s:=0) (e:=1) (len:=RW (aI Z a)) (cap:=ca) (ex:=true) (fr:=false) rfl lA.symm (jd ltA)
  have rB:=Jj (h:=[(1,.data 1 ((bE ca a).map u6) Th SM),(1,.data 1 ((bE cb b).map u6) Th SM),ah]) (s:=1) (e:=1) (len:=RW (aI Z b)) (cap:=cb) (ex:=true) (fr:=false) rfl lB.symm (jd uj);rw[uC ltA]at rA;rw[uC uj]at rB;have dA:=jd ltA;have dB:=jd uj;have⟨N,hN⟩:=bD (RW (aI Z a)+RW (aI Z b))
  have tp:=JM (h:=[(1,.data 1 ((bE ca a).map u6) Th SM),(1,.data 1 ((bE cb b).map u6) Th SM),ah]) rfl rA (jc cW a) rB (jc cW b) aa aa hN
  have ltM:a*b<Z^N:=by
   rw[hN,Yr];have h1:=jH cL (jc cW a);have h2:=jH cL (jc cW b);rw[kS cW]at h1 h2;exact Yf h1 h2
  rw[kS cW,kS cW]at tp;have lM:RW (bE N (a*b))=N:=iU ..;refine ii (jS (e:=0) (b:=.none) tp rfl ?_);rw[List.length_map,lM];simp
  have sM:=vq (h:=[(1,.data 1 ((bE ca a).map u6) Th SM),(1,.data 1 ((bE cb b).map u6) Th SM),(1,.data 1 ((bE N (a*b)).map u6) Th SM)]) (s:=2) rfl lM.symm (len:=RW (aI Z (a*b))) (cap:=N) (jd ltM) (Z8 _);rw[uC ltM]at sM;simp only[List.set_cons_zero,List.set_cons_succ]at sM
  have sMs:bY [(1,.data 1 ((bE ca a).map u6) Th SM),(1,.data 1 ((bE cb b).map u6) Th SM),(1,.data 1 ((bE N (a*b)).map u6) Th SM)] [.ref 2 1 0 (RW (aI Z (a*b))) N N]=Wf ([gY (a*b)],[(1,.data 1 ((bE ca a).map u6) Th SM),(1,.data 1 ((bE cb b).map u6) Th SM),(1,.data 1 ((bE N (a*b)).map u6) Th Th)]):=by
   simp only[bY,sM];rfl
  refine rF sMs (zV (n:=a*b) (by have:=jd ltM;omega)) ?_;rw[show fk (S (aA (a*b)))=Th from rfl,ip rfl];exact eA rfl
theorem Ai{B:Nat}{a b:ax}(ha:bL B a)(hb:bL B b):bL B (a++b):=by
 intro x hx;rcases Xc.1 hx with h|h
 .exact ha x h
 .exact hb x h
theorem Ah(k:Nat):bL Z (So k 0):=by intro x hx;rw[List.eq_of_mem_replicate hx];exact cL
theorem EP(k:Nat)(l:ax):val Z (l++So k 0)=val Z l:=by
 rw[val_append]
 have:val Z (So k 0)=0:=by
  induction k with
  |zero=>rfl
  |succ k ih=>rw[List.replicate_succ];exact(RT (λx=>0+Z*x) ih).trans (by rw[Nat.mul_zero])
 rw[this,Nat.mul_zero,Nat.add_zero]
theorem aoY{ce x B:Nat}(hB:2<=B)(h3:x+q*B*ce=a+b)(l1:a<q)(l2:b<q):x=a+b:=by
 rcases Ze ce with h|h
 .subst h;rw[Nat.mul_zero,Nat.add_zero]at h3;exact h3
 .have h1:=Z4 (q*B) h;have h2:=Z4 q hB;omega
theorem ap1{A D:ax}{n:Nat}(hA:RW A=n)(hD:RW D=n)(sA:bL Z A)(sD:bL Z D)(va:val Z A=a)(vb:val Z D=b):
  val Z (m9 0 D (RW D+1) 0 0 (A++[0]))=a+b∧bL Z (m9 0 D (RW D+1) 0 0 (A++[0]))∧RW (m9 0 D (RW D+1) 0 0 (A++[0]))=n+1:=by
 have sA0:bL Z (A++[0]):=Ai sA (Ah 1);have⟨h1,h2,ce,h3⟩:=OJ (Fr:=0) sD (RW D+1) 0 0 (A++[0]) dG aa sA0;have e1:D.drop (0+(RW D+1))=[]:=Y9 aa;have e2:val Z (A++[0])=a:=by rw[show([0]:ax)=So 1 0 from rfl,EP,va]
 have e0:val Z ([]:ax)=0:=rfl;rw[e1,e2,e0]at h3;have l1:=jH cL sA;have l2:=jH cL sD;rw[va,hA]at l1;rw[vb,hD]at l2;have hl:RW (m9 0 D (RW D+1) 0 0 (A++[0]))=n+1:=by rw[h1.1];simp[hA]
 refine⟨?_,h2,hl⟩;rw[hD]at h3 ⊢;have h2Z:=cW;generalize val Z (m9 0 D (n+1) 0 0 (A++[0]))=x at *;simp only[Yz,vb,Nat.add_zero,Zh,Nat.pow_zero,W0,Nat.pow_succ]at h3;exact aoY h2Z h3 l1 l2
theorem agY(k:Nat):dI k [D.int .u64 0]=(So k 0).map u6:=by
 induction k with
 |zero=>rfl
 |succ k ih=>rw[List.replicate_succ,Zv,<-ih];rfl
theorem ajq(a w:Nat)(hw:w<=18):Ds F.kh [S (aA a),I w] (if ay a<=w then .tup [I a,B Th]else .tup [I 0,B SM]):=by
 apply Jw;have la:=sN a;by_cases h:(w:Int)<ay a
 .rw[iN aa];simp[kh,la,h];exact fR rfl rfl
 .rw[ip aa];have ap:=OK (n:=a) (nF a) aa (eW a);have en:pI .eql (.d (.pl .nilIface)) (.d (.pl .nilIface))=Wf (.d (.bool Th)):=rfl;simp[kh,la,h];refine cd (args:=[S (aA a)]) ap ?_;simp[en];exact fR rfl rfl
theorem Ag(a:Nat):Ds F.ie [S (aA a)] (.tup [B SM,S (aA a)]):=by have h:=CK (aA a);have e1:mq (aA a)=SM:=decide_eq_false (yM a);have e2:fu (aA a)=aA a:=iN (yM a);rw[e1,e2]at h;exact h
theorem akC(s:bA):Ds F.jh [B SM,S s] (S s):=by apply Pk;simp[jh]<;>exact eA rfl
theorem ap7{n:Nat}(h1:1<=w)(h2:w<=17)(hn:n<10^w):Ds F.wH [S (45::cJ n w)] (.tup [I (-(n:Int)),.d (.pl .nilIface)]):=by
 apply VU;have hl:=NS w n;have PJ:=IK w n;have hh:=MR w n hn;have he:=ZP n w;have hD:=IN w n;have hn17:n<10^17:=Z0 hn (Z2 am h2);simp only[Nat.reducePow]at hn17;generalize cJ n w=L at *;generalize pE n w=l at *;have Rg:RW L=w:=by rw[hD];simpa using hl
 have hi:fF (S (45::L)) (.d (.int .i64 0))=Wf (.d (.int .u8 45)):=by simp[fF]
 have hlw:fv (S (45::L))=Wf (I (w+1:Nat)):=by rw[Hq];simp[Rg]
 have hsl:nB (S (45::L)) (Wf (.d (.int .i64 1))) Vc=Wf (S L):=by
  have:(1:Int)<=(RW L:Int)+1:=aa;simp[nB,eG,this]
 have hl2:fv (S L)=Wf (I w):=by rw[Hq,Rg]
 simp(disch:=omega) [wH,hlw,hi]
 have hcv:∀(k:bG),oG (S L) [] k=k (aj f8 l) []:=by
  intro k
  have:V.d (.sl (RW L) (L.map λb=>.int .u8 b.toNat))=aj f8 l:=by
   unfold aj;rw[Rg,hl,<-he];rfl
  simp only[oG,this]
 refine fE (l:=[S L]) (h:=[]) (λq=>?_) ?_
 .simp(disch:=omega) [hsl,hl2]
 show oG (S L) [] _
 rw[hcv];simp;refine lo (OL _ _ rfl l [] 0 dG PJ ac ?_);simp[hi,hh];refine fE (l:=[I (-(n:Int))]) (h:=[]) (λq=>?_) ?_
 .simp(disch:=omega) [hh]
 exact⟨[],by simp[bQ,bY,norm]⟩
theorem ap6{n:Nat}(h1:1<=w)(h2:w<=17)(hn:n<10^w):Ds F.strconv_Atoi [S (45::cJ n w)] (.tup [I (-(n:Int)),.d (.pl .nilIface)]):=by apply Qw;simp[strconv_Atoi];refine cd (ap7 h1 h2 hn) ?_;simp[GU];exact⟨[],by simp[bQ,bY,norm]⟩
def iy(z:Int):Nat:=ay z.natAbs+if z<0 then 1 else 0
theorem U4(z:Int):fv (S (itoa z))=Wf (I (iy z)):=by
 rw[Hq];unfold itoa iy;split
 .simp[aA,fq]
 .simp[aA,fq]
theorem abc(h:iy z<=18):Ds F.strconv_Atoi [S (itoa z)] (.tup [I z,.d (.pl .nilIface)]):=by
 unfold iy at h;by_cases hz:z<0
 .rw[ip hz]at h;have:=ap6 (n:=z.natAbs) (w:=ay z.natAbs) (nF _) aa (eW _);rw[show(-(z.natAbs:Int))=z by omega]at this;unfold itoa;rw[ip hz];exact this
 .rw[iN hz]at h;have:=OK (n:=z.natAbs) (w:=ay z.natAbs) (nF _) aa (eW _);rw[show((z.natAbs:Nat):Int)=z by omega]at this;unfold itoa;rw[iN hz];exact this
theorem yx(z:Int)(w:Nat)(hw:w<=18):Ds F.kh [S (itoa z),I w] (if iy z<=w then .tup [I z,B Th]else .tup [I 0,B SM]):=by
 apply Jw;have la:=U4 z;by_cases h:(w:Int)<iy z
 .rw[iN aa];simp[kh,la,h];exact fR rfl rfl
 .rw[ip aa];have ap:=abc (z:=z) aa;have en:pI .eql (.d (.pl .nilIface)) (.d (.pl .nilIface))=Wf (.d (.bool Th)):=rfl;simp[kh,la,h];refine cd (args:=[S (itoa z)]) ap ?_;simp[en];exact fR rfl rfl
theorem UM(z:Int):Ds F.wL [S (itoa z)] (if iy z<=9 then .tup [I z,B Th]else .tup [I 0,B SM]):=by
 apply alK;have la:=U4 z;by_cases h:(9:Int)<iy z
 .rw[iN aa];simp[wL,la,h];exact fR rfl rfl
 .rw[ip aa];have ap:=abc (z:=z) aa;have en:pI .eql (.d (.pl .nilIface)) (.d (.pl .nilIface))=Wf (.d (.bool Th)):=rfl;simp[wL,la,h];refine cd (args:=[S (itoa z)]) ap ?_;simp[en];exact fR rfl rfl
theorem HN(z:Int):mq (itoa z)=decide (z<0):=by
 unfold itoa;split
 .rename_i h;simp[mq,h]
 .rename_i h;have:=yM z.natAbs;unfold mq;rw[decide_eq_false this,decide_eq_false h]
theorem vm(z:Int):Ds F.ie [S (itoa z)] (.tup [B (decide (z<0)),S (aA z.natAbs)]):=by have h:=CK (itoa z);rw[HN,Bw]at h;exact h
theorem yL(h:aA a=aA b):a=b:=by
 have:=RT (eM 0) h
 rwa [nI,nI]at this
theorem By{a b:Int}(h:itoa a=itoa b):a=b:=by
 have h1:=RT fu h;have h2:=RT mq h;rw[Bw,Bw]at h1;rw[HN,HN]at h2;have h3:=yL h1;have h4:(a<0)↔(b<0):=by simpa using h2
 omega
theorem yN{n:Nat}:aA n=[48]↔n=0:=by
 constructor
 .intro h;exact yL (a:=n) (b:=0) (h.trans k9.symm)
 .rintro rfl;exact k9
def sg(b:Bool)(n:Nat):Int:=if b then -(n:Int)else n
theorem mG(b:Bool){n:Nat}(hn9:ay n<1000000):Ds F.jh [B b,S (aA n)] (S (itoa (sg b n))):=by
 apply Pk;cases b with
 | false=>
  have:itoa (sg SM n)=aA n:=by simp[sg,itoa]
  rw[this];simp[jh]<;>exact eA rfl
 | true=>
  by_cases hn:n=0
  .subst hn;have e0:itoa (sg Th 0)=[48]:=k9;simp[jh,k9]<;>exact eA e0.symm
  .have h0:¬aA n=[48]:=λh=>hn (yN.1 h)
   have:itoa (sg Th n)=45::aA n:=by
    unfold itoa sg;rw[ip rfl,ip aa];simp
   rw[this];have hl:RW (aA n)=ay n:=fq _ _;have ha:j7 .add (.d (.str [45])) (S (aA n))=Wf (S (45::aA n)):=apz [45] (aA n) (by rw[hl];simp;omega);simp[jh,h0,ha]<;>exact eA rfl
theorem Do(hz:ay z.natAbs<1000000):Ds F.rO [S (itoa z)] (S (itoa (-z))):=by
 apply ab4;simp[rO];refine cd (vm z) ?_;simp;have:=mG (!decide (z<0)) hz
 have e:sg (!decide (z<0)) z.natAbs = -z:=by
  unfold sg;by_cases h:z<0
  .simp[h];omega
  .simp[h];omega
 rw[e]at this;refine cd this ?_;exact eA rfl
def bS(n:Nat):Nat:=RW (aI Z n)
theorem IZ{n:Nat}:bS n=ay n/9+1∨bS n+1=ay n/9+1:=by
 unfold bS;have h1:RW (aI Z n)<=ay n/9+1:=(rj cW).2 (Z0 (eW n) (by rw[uT];exact Z2 am aa))
 have h2:ay n<=9*RW (aI Z n)∨n=0:=by
  rcases Ze n with h|h
  .omega
  .left;have h3:n<Z^(RW (aI Z n)):=(rj cW).1 (Z8 _);rw[uT]at h3;refine eC h3 ?_;rcases Ze (RW (aI Z n)) with h4|h4
   .grind
   .omega
 rcases h2 with h2|rfl
 .omega
 .have:ay 0=1:=dw;omega
theorem LX(n:Nat):n<Z^bS n:=(rj cW).1 (Z8 _)
theorem Ie(n:Nat):bE (bS n) n=aI Z n:=by
 have:=uC (LX n)
 rwa [Zx (by rw[iU];exact Z8 _)]at this
theorem Ib{n:Nat}(h:bS n+1=c):bE c n=aI Z n++[0]:=by rw[<-h,Ng (LX n),Ie]
theorem abn{s t n c:Nat}{h:Hp}{q:bG}{u:PU q}(DB:s≠t)(hg:h[s]?=Wf (1,.data 1 ((bE c n).map u6) Th SM))(ht:h[t]?=Wf ah)(hL:bS n=c∨bS n+1=c)(hc:c<1000000)
  (hq:∀s' e' ex h',RW h'=RW h->h'[s']?=Wf (e',.data 1 ((aI Z n++[0]).map u6) ex SM)->(s'=s∨s'=t)->(∀j,j≠s'->h'[j]?=h[j]?)->q (.ref s' e' 0 (bS n+1) (bS n+1) (bS n+1)) h') :
  rh (cV SM t 1 8 (.ref s 1 0 (bS n) c c) (.d (.sl 1 [u6 0])) h) q u:=by
 have hl:=gD hg;have hl2:=gD ht;rcases hL with hL|hL
 .subst hL;rw[Ie]at hg;refine abm hg ht rfl aa ?_;exact hq t 1 SM _ ac ae (.inr rfl) (λj hj=>by rw[List.getElem?_set_ne (Ne.symm hj)])
 .rw[Ib hL]at hg;have Rg:RW (aI Z n)=bS n:=rfl;refine ON (x:=0) hg ae aa ?_;rw[<-hL];refine hq s 1 Th _ ac ?_ (.inl rfl) (λj hj=>by rw[List.getElem?_set_ne (Ne.symm hj)])
  have e1:(aI Z n++[0]).take (bS n)++[0]++(aI Z n++[0]).drop (bS n+1)=aI Z n++[0]:=by
   rw[<-Rg,W5,Y9 ac,Zo]
  grind
theorem abk{s t n c k:Nat}{h:Hp}{q:bG}{u:PU q}(DB:s≠t)(hg:h[s]?=Wf (1,.data 1 ((bE c n).map u6) Th SM))(ht:h[t]?=Wf ah)(hL:bS n=c∨bS n+1=c)(hc:c+k<1000000)
  (hq:∀t1 s' h',RW h'=RW h->(s'=s∨s'=t)->(∀j,j≠s'->h'[j]?=h[j]?)->(∃(e':Nat)(l:ax)(ex:Bool),h'[s']?=Wf (e',.data 1 (l.map u6) ex SM)) ->
   (∀P:Hp->Prop,(∀g,P g->g[s']?=h'[s']?)->zz P t1 (aI Z n++So k 0))->q t1 h') :
  rh (qw SM t 1 8 [.int .u64 0] (.ref s 1 0 (bS n) c c) (I (k:Nat)) h) q u:=by
 have hl:=gD hg;have hl2:=gD ht;have Rg:RW (aI Z n)=bS n:=rfl;unfold rh qw;simp only;rw[ip ⟨aa,aa⟩];unfold kK;simp only[Int.toNat_natCast]
 have rdOf:∀{s' e' len cap tot:Nat}{l:ax}{ex:Bool}{h':Hp},h'[s']?=Wf (e',.data 1 (l.map u6) ex SM)->tot=RW l->len<=tot->l.take len=aI Z n++So k 0 ->
   ∀P:Hp->Prop,(∀g,P g->g[s']?=h'[s']?)->zz P (.ref s' e' 0 len cap tot) (aI Z n++So k 0):=by
  intro s' e' len cap tot l ex h' hg' htot Fm htk P hP;refine⟨?_,λg i hg2 hi=>?_⟩
  .have:RW (aI Z n++So k 0)=len:=by rw[<-htk,Zp];omega
   simp_all
  .have:=(Jj (h:=g) (cap:=cap) ((hP g hg2).trans hg') htot Fm).2 [] i ae
   grind
 by_cases hk:k=0
 .rw[ip hk,ip aa];subst hk;refine hq _ s h rfl (.inl rfl) (λ_ _=>rfl) ⟨_,_,_,hg⟩ ?_;refine rdOf hg (iU ..).symm aa ?_;rw[List.replicate_zero,Zo];rcases hL with hL|hL
  .rw[<-hL,Ie,<-Rg,Xj]
  .rw[Ib hL,<-Rg,W5]
 .rw[iN hk,agY];simp only[ij hg];rw[ip ⟨trivial,by simp[iU],aa,by simp[iU],ac⟩];by_cases hin:bS n+k<=c
  .rw[ip hin];have hk1:k=1:=aa;subst hk1;have hL2:bS n+1=c:=aa;simp only[Bool.or_self,Zg,iF,bP]
   have e1:((bE c n).map u6).take (0+bS n*1)++(So 1 0).map u6++((bE c n).map u6).drop (0+(bS n+1)*1)=(aI Z n++[0]).map u6:=by
    rw[Ib hL2,Zh,Zh,Y1,Y1,<-Rg];simp[<-List.map_take,<-List.map_drop]
   rw[e1];refine hq _ s _ ac (.inl rfl) (λj hj=>by rw[List.getElem?_set_ne (Ne.symm hj)]) ⟨1,aI Z n++[0],true,ae⟩ ?_;refine rdOf (l:=aI Z n++[0]) (ex:=true) ae ae aa ?_
   grind
  .rw[iN hin,ip aa];simp only[iT,new,ht]
   have e1:(((bE c n).map u6).drop 0).take (bS n*1)++(So k 0).map u6=(aI Z n++So k 0).map u6:=by
    rw[Yz,Y1,<-List.map_take,Yn];congr 2;rcases hL with hL|hL
    .rw[<-hL,Ie,<-Rg,Xj]
    .rw[Ib hL,<-Rg,W5]
   rw[e1];have e2:bS n*1+RW ((So k 0).map u6)=bS n+k:=ac;rw[e2];refine hq _ t _ ac (.inr rfl) (λj hj=>by rw[List.getElem?_set_ne (Ne.symm hj)]) ⟨1,aI Z n++So k 0,false,ae⟩ ?_;refine rdOf (l:=aI Z n++So k 0) (ex:=false) ae ae aa ?_
   grind[Zx]
def NV(h:Hp):Prop:=∀(j:Nat)(x:Nat×Bk),h[j]?=Wf x->∀b,cj b x.2=Th
theorem NV.all{h:Hp}(hn:NV h)(b:Nat):(h.all λx=>cj b x.2)=Th:=by rw[Zz];intro x hx;have⟨j,hj⟩:=Wr.1 hx;exact hn j x hj b
theorem NV.upd{h h':Hp}(hn:NV h){s e:Nat}{l:ax}{ex fr:Bool}(hs:h'[s]?=Wf (e,.data 1 (l.map u6) ex fr))(ho:∀j,j≠s->h'[j]?=h[j]?):NV h':=by
 intro j x hj b;by_cases e1:j=s
 .subst e1;rw[hs]at hj;cases hj;rfl
 .rw[ho j e1]at hj;exact hn j x hj b
theorem set_same{α:Type}{l:List α}{i:Nat}{x:α}(h:l[i]?=Wf x):l.set i x=l:=by
 apply Ye;intro j;by_cases e:i=j
 .grind
 .rw[List.getElem?_set_ne e]
theorem Rq{h:Hp}{s e:Nat}{ex:Bool}{l:ax}(hs:h[s]?=Wf (e,.data 1 (l.map u6) ex SM)):sP h s e ex l=h:=set_same hs
theorem Qn{h:Hp}{s e n m:Nat}{ex:Bool}{L:ax}{w:V}(hn:NV h)(PJ:s<RW h)(h3:RW L=n)(b1:val Z L=m)(b2:bL Z L)(hm:n<1000000)(kk:V->V)(hkk:∀h':Hp,out w (kk (S (aA m))) h'){sl:Nat} :
  eQ DA.i (sP h s e ex L) (V.fn F.kD [] []) [.ref s e 0 n n n] sl λv22 h=>
    bp DA.p h (V.fn F.nN [] []) [v22] λv23 h=>out w (kk v23) h:=by
 have nv:NV (sP h s e ex L):=hn.upd (qJ PJ) (λj hj=>by grind[sP]);have tr:=zQ (h:=sP h s e ex L) (nv.all _) (s:=s) (e:=e) (ex:=ex) (fr:=false) (qJ PJ) h3.symm (len:=n) (cap:=n) (Z8 _) aa (Z8 _);have ht:f9 (L.take n)=aI Z m:=by rw[Zx aa,<-b1,uI cW b2]
 rw[ht]at tr;refine gG tr ?_ ac;have lt:m<Z^n:=by rw[<-b1,<-h3];exact jH cL b2
 have hl:RW (aI Z m)<=n:=(rj cW).2 lt;have sM:=vq (h:=sP h s e ex L) (s:=s) (e:=e) (ex:=ex) (fr:=false) (qJ PJ) h3.symm (len:=RW (aI Z m)) (cap:=n) hl (Z8 _)
 have ht2:L.take (RW (aI Z m))=aI Z m:=by
  have e:f9 L=aI Z m:=by rw[<-ht,Zx aa]
  have⟨z,hz⟩:=PS L;rw[e]at hz;rw[hz];exact W5 ..
 rw[ht2]at sM;refine rF (u:=.mk) (by simp only[bY,sM];rfl) (zV (n:=m) aa) ?_
 grind
theorem NU(ha:ay a<1000000)(hb:ay b<1000000):Ds F.qt [S (aA a),S (aA b)] (S (aA (a+b))):=by
 apply anX;have bo:=Ja a b;by_cases h18:ay a<=18∧ay b<=18
 .rw[ip h18]at bo;have g3:10^ay a<=10^18:=Z2 am h18.1;have g4:10^ay b<=10^18:=Z2 am h18.2;have b1:a<1000000000000000000:=Z0 (eW a) g3;have b2:b<1000000000000000000:=Z0 (eW b) g4;simp[qt];refine cd bo ?_;have⟨m,hm⟩:=bZ (a+b);have em:(a:Int)+(b:Int)=(m:Int):=aa
  rw[hm];simp(disch:=try exact cC)[em];refine cd (AZ (n:=m) aa) ?_;exact eA rfl
 rw[iN h18]at bo;have⟨ca,hca⟩:=bD (ay a/9+1);have⟨cb,hcb⟩:=bD (ay b/9+1);have cA:=tc (h:=[ah,ah,ah,ah,ah,ah]) rfl (n:=a) aa hca;have cB:=tc (h:=[(1,.data 1 ((bE ca a).map u6) Th SM),ah,ah,ah,ah,ah]) rfl (n:=b) aa hcb
 have LA:bS a=ca∨bS a+1=ca:=by rw[hca];exact IZ
 have LB:bS b=cb∨bS b+1=cb:=by rw[hcb];exact IZ
 have hli:∀h:Hp,cI 1 [D.int .u64 0] [(0,V.d (D.int .u64 0))] h=Wf ([u6 0],h):=λh=>by rfl
 have main:∀(p q cp cq sp sq:Nat)(h:Hp),p+q=a+b->bS q<=bS p->cp<200000->cq<200000->(bS p=cp∨bS p+1=cp)->(bS q=cq∨bS q+1=cq)->sp<2->sq<2->sp≠sq->RW h=6->NV h ->
   h[sp]?=Wf (1,.data 1 ((bE cp p).map u6) Th SM)->h[sq]?=Wf (1,.data 1 ((bE cq q).map u6) Th SM)->h[2]?=Wf ah->h[3]?=Wf ah ->
   cV SM 2 1 8 (.ref sp 1 0 (bS p) cp cp) (.d (.sl 1 [u6 0])) h λv15 h=>
   bnd (bh v15) λv16=>
   bnd (aD .sub v16 (.d (.int .i64 1))) λv17=>
   bnd (bh (.ref sq 1 0 (bS q) cq cq)) λv18=>
   bnd (aD .sub v17 v18) λv19=>
   qw SM 3 1 8 [.int .u64 0] (.ref sq 1 0 (bS q) cq cq) v19 h λv20 h=>
   eQ DA.i h (.fn F.uN [] []) [v15,v20,(.d (.int .i64 0))] 4 λv21 h=>
   eQ DA.i h (.fn F.kD [] []) [v15] 5 λv22 h=>
   bp DA.p h (.fn F.nN [] []) [v22] λv23 h=>
   out (S (aA (a+b))) v23 h:=by
  intro p q cp cq sp sq h hpq Fm hcp hcq LP LQ hsp hsq MT Rg hnv gp gq g2 g3;refine abn (u:=.mk) (t:=2) aa gp g2 LP aa λs' e' ex h1 l1 gs' hs' o1=>?_
  have⟨k,hk⟩:=bD (bS p-bS q);have e1:(bS p:Int)+1-1-(bS q:Int)=(k:Int):=aa;have hr1:bh (.ref s' e' 0 (bS p+1) (bS p+1) (bS p+1))=Wf (I (bS p+1:Nat)):=rfl;have hr2:bh (.ref sq 1 0 (bS q) cq cq)=Wf (I (bS q:Nat)):=rfl
  have hb1:aD .sub (I ((bS p+1:Nat):Int)) (.d (.int .i64 1))=Wf (I (bS p)):=by
   rw[Ca,show(((bS p+1:Nat):Int)-1)=(bS p:Int) by omega,Cr aa aa]
  have hb2:aD .sub (I (bS p:Int)) (I (bS q:Int))=Wf (I k):=by
   rw[Ca,show((bS p:Int)-(bS q:Int))=(k:Int) by omega,Cr aa aa]
  simp only[hr1,hr2,hb1,hb2,bnd];have nv1:=hnv.upd gs' o1;have hqs:sq≠s':=by rcases hs' with rfl|rfl<;>omega
  have h3s:3≠s':=by rcases hs' with rfl|rfl<;>omega
  refine abk (u:=.mk) (t:=3) aa ((o1 sq hqs).trans gq) ((o1 3 h3s).trans g3) LQ aa λt1 s2 h2 l2 hs2 o2 ⟨e2,l2',ex2,g2'⟩ rd=>?_
  have nv2:=nv1.upd g2' o2;have hss:s'≠s2:=by rcases hs2 with rfl|rfl<;>omega
  have gs2:h2[s']?=Wf (e',.data 1 ((aI Z p++[0]).map u6) ex SM):=(o2 s' hss).trans gs';have lt2:s'<RW h2:=gD gs2;have hdl:RW (aI Z q++So k 0)=bS p:=by simp[List.length_append,Y8];show bS q+k=_;omega
  have sD:bL Z (aI Z q++So k 0):=Ai (jc cW q) (Ah _);have vD:val Z (aI Z q++So k 0)=q:=by rw[EP,kS cW]
  have qM:=rd (λt=>∃l,t=sP h2 s' e' ex l) (λg ⟨l,hg⟩=>by grind[sP]);have⟨c1,c2,c3⟩:=ap1 (n:=bS p) rfl hdl (jc cW p) sD (kS cW p) vD;have bk:=aa9 (Fr:=0) (tot:=bS p+1) (l:=aI Z p++[0]) (ex:=ex) (e:=e') (s:=s') (h:=h2) (nv2.all _) lt2 qM sD aa aa (by simp[bS]) (Ai (jc cW p) (Ah 1))
  rw[Rq gs2]at bk;refine gG bk ?_ ac;rw[hpq]at c1;exact Qn nv2 lt2 c3 c1 c2 aa (λv=>v) (λ_=>eA rfl)
 simp[qt];refine cd bo ?_;simp;refine ii (jS (e:=0) (b:=.none) cA rfl ?_);rw[List.length_map,iU];simp;refine ii (jS (e:=0) (b:=.none) cB rfl ?_);rw[List.length_map,iU]
 have nv:NV [(1,.data 1 ((bE ca a).map u6) Th SM),(1,.data 1 ((bE cb b).map u6) Th SM),ah,ah,ah,ah]:=by
  intro j x hj b';rcases Wr.2 ⟨j,hj⟩with hm;simp only[Zy,Y4,or_false]at hm;rcases hm with rfl|rfl|rfl|rfl|rfl|rfl<;>rfl
 by_cases g1:(RW (aI Z a):Int)<(RW (aI Z b):Int)
 .simp[g1];apply cg;simp[hli];exact main b a cb ca 1 0 _ aa (by grind[bS]) aa aa LB LA aa aa aa rfl nv rfl rfl rfl rfl
 .simp[g1];apply cg;simp[hli];exact main a b ca cb 0 1 _ rfl (by grind[bS]) aa aa LA LB aa aa aa rfl nv rfl rfl rfl rfl
theorem U3:∀(s t:bA)(c:Nat),RW s=RW t->s.all iA=Th->t.all iA=Th->Op.bytesLess s t=decide (eM c s<eM c t)
 |[],[],c,_,_,_=>by simp[Op.bytesLess]
 | x::s,y::t,c,hl,hs,ht=>by
  simp[List.length_cons,Nat.add_right_cancel_iff]at hl;simp only[List.all_cons,Z7]at hs ht;have hx:=ql.1 hs.1;have hy:=ql.1 ht.1
  have key:∀(s t:bA)(u v:Nat),RW s=RW t->s.all iA=Th->u<v->eM u s<eM v t:=by
   intro s t u v hl hs h;have h1:=BD s u hs;have h2:=MS t v;rw[<-hl]at h2;have h3:(u+1)*10^(RW s)<=v*10^(RW s):=Zu _ h;omega
  rw[sU,sU];have ey:y<x↔y.toNat<x.toNat:=UInt8.lt_iff_toNat_lt;rcases Nat.lt_trichotomy x.toNat y.toNat with h|h|h
  .have:=key s t (c*10+(x.toNat-48)) (c*10+(y.toNat-48)) hl hs.2 aa
   grind[Op.bytesLess]
  .have e:x=y:=UInt8.toNat_inj.1 h;subst e;rw[<-U3 s t _ hl hs.2 ht.2];simp[Op.bytesLess]
  .have:=key t s (c*10+(y.toNat-48)) (c*10+(x.toNat-48)) hl.symm ht.2 aa;rw[decide_eq_false aa]
   grind[Op.bytesLess]
theorem VJ(n:Nat):(aA n).all iA=Th:=Ei _ _
theorem ajA(h:ay a=ay b):Op.bytesLess (aA a) (aA b)=decide (a<b):=by rw[U3 (aA a) (aA b) 0 (by rw[aA,aA,fq,fq,h]) (VJ _) (VJ _),nI,nI]
theorem TS(h:ay a<ay b):a<b:=by
 rcases Zi a b with g|g
 .exact g
 .have:=ir g;omega
theorem En(h:a<b):Big.cmp a b = -1:=ip h
theorem Eo(h:b<a):Big.cmp a b=1:=(iN aa).trans (ip h)
theorem cmp_eq:Big.cmp a a=0:=(iN aa).trans (iN aa)
theorem IP(ha:ay a<1000000)(hb:ay b<1000000):Ds F.pD [S (aA a),S (aA b)] (I (Big.cmp a b)):=by
 apply anQ;have la:=sN a;have lb:=sN b;by_cases hl:ay a=ay b
 .have h1:=ajA hl;have e1:j7 .lss (S (aA a)) (S (aA b))=Wf (.d (.bool (decide (a<b)))):=by rw[<-h1];rfl
  have e2:j7 .gtr (S (aA a)) (S (aA b))=Wf (.d (.bool (decide (b<a)))):=by
   have h3:(aA a == aA b)=decide (a=b):=by
    rw[Yh];simp[beq_iff_eq,dT];exact⟨yL,λh=>by rw[h]⟩
   have h4:decide (b<a) = !(decide (a<b)||decide (a=b)):=by
    rw[Yh];simp only[dT,Y6,Bool.or_eq_false_iff,decide_eq_false_iff_not];omega
   rw[h4,<-h1,<-h3];rfl
  rw[hl]at la;by_cases g1:a<b
  .simp_all[pD,En]
  .by_cases g2:b<a
   .simp_all[pD,Eo]
   .simp[pD,la,lb,e1,e2,g1,g2]
    grind[df,cmp_eq]
 .have MT:¬((ay a:Int)=(ay b:Int)):=aa;rcases Zi (ay a) (ay b)with h|h
  .have h3:=TS h;have m1:gk Th [.d (.int .i64 (-1)),I ((ay a:Int)-ay b)]=Wf (I (-1)):=by simp[gk,jQ];omega
   have m2:gk SM [.d (.int .i64 1),I (-1)]=Wf (I (-1)):=rfl;simp(disch:=omega) [pD,la,lb,MT,m1,m2]
   grind[df,En]
  .have h3:b<a:=TS aa;have m1:gk Th [.d (.int .i64 (-1)),I ((ay a:Int)-ay b)]=Wf (I ((ay a:Int)-ay b)):=by simp[gk,jQ];omega
   have m2:gk SM [.d (.int .i64 1),I ((ay a:Int)-ay b)]=Wf (I 1):=by simp[gk,jQ];omega
   simp(disch:=omega) [pD,la,lb,MT,m1,m2]
   grind[df,Eo]
theorem Tp:1<Z:=cW
theorem adT{A D:ax}{n:Nat}(hA:RW A=n)(hD:RW D=n)(sA:bL Z A)(sD:bL Z D)(va:val Z A=a)(vb:val Z D=b)(hba:b<=a):
  val Z (gz 1 0 D (RW D+1) 0 0 0 (A++[0])).2=a-b∧bL Z (gz 1 0 D (RW D+1) 0 0 0 (A++[0])).2∧(gz 1 0 D (RW D+1) 0 0 0 (A++[0])).2.length=n+1:=by
 have sA0:bL Z (A++[0]):=Ai sA (Ah 1);have l2:=jH cL sD;rw[vb,hD]at l2
 obtain ⟨h1,h2,h3,h4⟩:=JV (g:=1) (Fr:=0) Tp sD (RW D+1) 0 0 0 (A++[0]) dG cL (Zb _) sA0 (by
  rw[Yz,vb,hD,W0,Zh,Nat.pow_succ];exact Z0 l2 (Zc _ cL))
 have e2:val Z (A++[0])=a:=by rw[show([0]:ax)=So 1 0 from rfl,EP,va]
 have hl:(gz 1 0 D (RW D+1) 0 0 0 (A++[0])).2.length=n+1:=by rw[h1.1];simp[hA]
 refine⟨?_,h2,hl⟩;have h5:=jH cL h2;rw[hl]at h5;rw[e2,Yz,vb,hD]at h4;rw[hD]at h3 h5 ⊢;generalize val Z (gz 1 0 D (n+1) 0 0 0 (A++[0])).2=x at *;generalize(gz 1 0 D (n+1) 0 0 0 (A++[0])).1=c at *;simp only[Zh,Nat.add_zero,Nat.pow_zero,W0]at h4;rcases Ze c with h|h
 .subst h;omega
 .have:c=1:=aa;subst this;rw[Y1]at h4;omega
theorem IJ(hba:b<=a)(ha:ay a<1000000):Ds F.rC [S (aA a),S (aA b)] (.tup [S (aA (a-b)),I 0]):=by
 have hb:ay b<1000000:=Zf (ir hba) ha;apply anD;have bo:=Ja a b;have dc:=IP ha hb
 have hc:¬Big.cmp a b<0:=by
  unfold Big.cmp;rw[iN aa];split<;>omega
 have hc2:(-1:Int)<=Big.cmp a b∧Big.cmp a b<=1:=by
  unfold Big.cmp;split
  .omega
  .split<;>omega
 generalize Big.cmp a b=cc at *;simp[rC];refine cd dc ?_;simp[hc];by_cases h18:ay a<=18∧ay b<=18
 .rw[ip h18]at bo;have g3:10^ay a<=10^18:=Z2 am h18.1;have b1:a<1000000000000000000:=Z0 (eW a) g3;refine cd bo ?_;have⟨m,hm⟩:=bZ (a-b);have em:(a:Int)-(b:Int)=(m:Int):=aa;rw[hm];simp(disch:=try exact cC)[em];refine cd (AZ (n:=m) aa) ?_;exact fR rfl rfl
 rw[iN h18]at bo;have⟨ca,hca⟩:=bD (ay a/9+1);have⟨cb,hcb⟩:=bD (ay b/9+1);have cA:=tc (h:=[ah,ah,ah,ah,ah,ah,ah]) rfl (n:=a) aa hca;have LA:bS a=ca∨bS a+1=ca:=by rw[hca];exact IZ
 have LB:bS b=cb∨bS b+1=cb:=by rw[hcb];exact IZ
 have Fm:bS b<=bS a:=(rj cW).2 (Zf hba (LX a));have hli:∀h:Hp,cI 1 [D.int .u64 0] [(0,V.d (D.int .u64 0))] h=Wf ([u6 0],h):=λh=>by simp[cI,dI,d8,dX,u6]
 refine cd bo ?_;simp;refine ii (jS (e:=0) (b:=.none) cA rfl ?_);rw[List.length_map,iU];simp[hli]
 have nv:NV [(1,.data 1 ((bE ca a).map u6) Th SM),ah,ah,ah,ah,ah,ah]:=by
  intro j x hj b';rcases Wr.2 ⟨j,hj⟩with hm;simp only[Zy,Y4,or_false]at hm;rcases hm with rfl|rfl|rfl|rfl|rfl|rfl|rfl<;>rfl
 refine abn (s:=0) (t:=1) (n:=a) (c:=ca) aa rfl rfl LA aa λs1 e1 ex1 h1 l1 g1 hs1 o1=>?_
 have nv1:=nv.upd g1 o1;have k1:∀j,2<=j->h1[j]?=([(1,.data 1 ((bE ca a).map u6) Th SM),ah,ah,ah,ah,ah,ah]:Hp)[j]?:=λj hj=>o1 j aa
 have hr1:bh (.ref s1 e1 0 (bS a+1) (bS a+1) (bS a+1))=Wf (I (bS a+1:Nat)):=rfl
 have hb1:aD .sub (I ((bS a+1:Nat):Int)) (.d (.int .i64 1))=Wf (I (bS a)):=by
  rw[Ca,show(((bS a+1:Nat):Int)-1)=(bS a:Int) by omega,Cr aa aa]
 -- the second number,twice
 have cB:=tc (h:=h1) (nv1.all _) (n:=b) aa hcb;refine ii (u:=.mk) (jS (e:=0) (b:=.none) cB (k1 2 aa) ?_);rw[List.length_map,iU];have l2:RW (h1.set 2 (1,.data 1 ((bE cb b).map u6) Th SM))=7:=by simp[l1]
 have n2:(2:Nat)<RW h1:=by rw[l1];simp
 have g2:(h1.set 2 (1,.data 1 ((bE cb b).map u6) Th SM))[2]?=Wf (1,.data 1 ((bE cb b).map u6) Th SM):=by simp[n2]
 have o2:∀j,j≠2->(h1.set 2 (1,.data 1 ((bE cb b).map u6) Th SM))[j]?=h1[j]?:=λj hj=>by rw[List.getElem?_set_ne (Ne.symm hj)]
 have nv2:=nv1.upd g2 o2;generalize h1.set 2 (1,.data 1 ((bE cb b).map u6) Th SM)=h2 at *
 show bnd (bh (.ref s1 e1 0 (bS a+1) (bS a+1) (bS a+1))) _
 simp only[hr1,hb1,bnd];have cB2:=tc (h:=h2) (nv2.all _) (n:=b) aa hcb;refine ii (u:=.mk) (jS (e:=0) (b:=.none) cB2 ((o2 3 am).trans (k1 3 aa)) ?_);rw[List.length_map,iU];have n3:(3:Nat)<RW h2:=by rw[l2];simp
 have g3:(h2.set 3 (1,.data 1 ((bE cb b).map u6) Th SM))[3]?=Wf (1,.data 1 ((bE cb b).map u6) Th SM):=by simp[n3]
 have o3:∀j,j≠3->(h2.set 3 (1,.data 1 ((bE cb b).map u6) Th SM))[j]?=h2[j]?:=λj hj=>by rw[List.getElem?_set_ne (Ne.symm hj)]
 have nv3:=nv2.upd g3 o3;generalize h2.set 3 (1,.data 1 ((bE cb b).map u6) Th SM)=h3 at *;have⟨k,hk⟩:=bD (bS a-bS b);have hr2:bh (.ref 3 (0+1) 0 (bS b) cb cb)=Wf (I (bS b:Nat)):=rfl
 have hb2:aD .sub (I (bS a:Int)) (I (bS b:Int))=Wf (I k):=by
  rw[Ca,show((bS a:Int)-(bS b:Int))=(k:Int) by omega,Cr aa aa]
 simp only[show bh (V.ref 3 (0+1) 0 (RW (aI Z b)) cb cb)=Wf (I (bS b:Nat))from rfl,hb2];have q2:h3[2]?=Wf (1,.data 1 ((bE cb b).map u6) Th SM):=(o3 2 am).trans g2;have q4:h3[4]?=Wf ah:=((o3 4 am).trans (o2 4 am)).trans (k1 4 aa)
 refine abk (u:=.mk) (s:=2) (t:=4) aa q2 q4 LB aa λt1 s4 h4 l4 hs4 o4 ⟨e4,l4',ex4,g4⟩ rd=>?_
 have nv4:=nv3.upd g4 o4;have hss:s1≠s4:=by rcases hs1 with rfl|rfl<;>rcases hs4 with rfl|rfl<;>omega
 have h12:s1≠2∧s1≠3:=by rcases hs1 with rfl|rfl<;>omega
 have gs:h4[s1]?=Wf (e1,.data 1 ((aI Z a++[0]).map u6) ex1 SM):=(((o4 s1 hss).trans (o3 s1 h12.2)).trans (o2 s1 h12.1)).trans g1;have lt4:=gD gs;have hdl:RW (aI Z b++So k 0)=bS a:=by simp only[List.length_append,Y8];show bS b+k=_;omega
 have sD:bL Z (aI Z b++So k 0):=Ai (jc cW b) (Ah _);have vD:val Z (aI Z b++So k 0)=b:=by rw[EP,kS cW]
 have qM:=rd (λt=>∃l,t=sP h4 s1 e1 ex1 l) (λg ⟨l,hg⟩=>by rw[hg];unfold sP;rw[List.getElem?_set_ne hss]);have⟨c1,c2,c3⟩:=adT (n:=bS a) rfl hdl (jc cW a) sD (kS cW a) vD hba
 have bk:=Qm (g:=1) (Fr:=0) (tot:=bS a+1) (l:=aI Z a++[0]) (ex:=ex1) (e:=e1) (s:=s1) (h:=h4) (nv4.all _) lt4 qM sD Tp (by rw[hdl];omega) aa (by simp[bS]) (Ai (jc cW a) (Ah 1));rw[Rq gs]at bk;refine ii (u:=.mk) (gG bk ?_ ac);exact Qn nv4 lt4 c3 c1 c2 aa (λv=>.tup [v,I 0]) (λ_=>fR rfl rfl)
end Go.Vm
