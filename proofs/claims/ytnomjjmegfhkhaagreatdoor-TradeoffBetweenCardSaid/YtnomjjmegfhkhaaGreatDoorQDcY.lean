/- Lemmas. -/
import Derived.Test.YtnomjjmegfhkhaaGreatDoorQDcX
set_option linter.unusedVariables false
set_option linter.unusedSimpArgs false
namespace Go.Vm
open Go Go.Am Go.Big
variable{j n2 w k q cap len N a b d c:Nat}{ol' al':LnQ}{α:Type}{z:Int}
section
variable{H:Hp}{p7 p8 pa0 pb0 pb1:V}{n i:Nat}{L lD lB x0 x1 x2 y0 y1 D v hi:Nat}
theorem Oz(G:Gs Z L lD lB x0 x1 x2 y0 y1 D v hi)(hy1Z:y1<Z)(hhi:hi<Z*Z)(hn:2<=n)(hnb:n<Z)(hib:i<Z)
  (a1:ixV H 1 p7 (I ((i:Int)+(n:Int)-2))=some pa0) (a2:ld1 H pa0=some (U x0)) (b1:ixV H 1 p8 (I ((n:Int)-2))=some pb0) (b2:ld1 H pb0=some (U y0))
  (c1:ixV H 1 p8 (I ((n:Int)-1))=some pb1) (c2:ld1 H pb1=some (U y1)) (k:KL) (h0:Hp) (hh:h0.length=H.length) :
  ∀(N g r:Nat),g<=N->g*y1+r=hi->D/v<=g->(∀g':Nat,D/v<=g'->g'*v<D+v->g'<Z->k (.exit 4) [U g'] H) ->
  lp (bv (CX Y) p7 p8 (I n) (I i)) [] h0 [U g,U r] H k:=by
 intro N
 induction N with
 | zero=>
  intro g r hg0 he hq hk;have hZ:Z=1000000000:=rfl;simp only[hZ]at hhi hnb hib;have hg:g=0:=aa;have hr:r=hi:=by rw[hg]at he;omega
  have hnear:g*v<D+v:=by have:=G.pos;rw[hg,Wp];omega
  have hgZ:g<Z:=by rw[hg];decide
  have g0:¬(1000000000:Int)<=(g:Int):=aa;have p0:(g:Int)*(y0:Int)=0:=by rw[hg];simp
  have hx0:=G.hx0;simp only[hZ]at hx0;clear he;refine ai ?_;by_cases g1:(r:Int)<1000000000
  .have g3:¬(r:Int)*1000000000+x0<0:=aa;simp(disch:=try exact af)[bv,a1,a2,b1,b2,g0,g1,p0,g3];exact hk g hq hnear hgZ
  .simp[bv,a1,a2,b1,b2,g0,g1];exact hk g hq hnear hgZ
 | succ N ih=>
  intro g r hgN he hq hk;rcases Zb g with hg0|hgp
  .exact ih g r aa he hq hk
  obtain⟨g,rfl⟩:∃g',g=g'+1:=⟨g-1,aa⟩;have hZ:Z=1000000000:=rfl;simp only[hZ]at hhi hnb hib;have hrb:r<=hi:=aa
  have hgb:g+1<=hi:=by
   have:=Z1 (g+1) G.hy1;omega
  have he2:g*y1+(r+y1)=hi:=by rw[Xt]at he;omega
  have hx0:=G.hx0;have hy0:=G.hy0;have go:D/v<=g->lp (bv (CX Y) p7 p8 (I n) (I i)) [] h0 [U g,U (r+y1:Nat)] H k:=λhq2=>ih g (r+y1) aa he2 hq2 hk
  obtain⟨p,hp⟩:=nmQ ((g+1)*y0);have hpi:((g:Int)+1)*(y0:Int)=(p:Int):=by rw[hp];simp
  by_cases g1:(1000000000:Int)<=(g:Int)+1
  .have hq2:=G.far (g:=g+1) (by simp only[hZ];omega);have g1':=g1;have:=go aa;refine ai ?_;simp(disch:=try exact af)[bv,g1',c1,c2,hh];simpa using this
  have g1':=g1;by_cases g2:(r:Int)<1000000000
  .have hpb:p<=1000000000*1000000000:=by rw[hp];exact Zu aa aa
   by_cases g3:(r:Int)*1000000000+x0<p
   .have hq2:=G.over he (by rw[<-hp];simp only[hZ];omega);have g3':=g3;have:=go aa;refine ai ?_;simp(disch:=try exact af)[bv,a1,a2,b1,b2,g1',g2,hpi,g3',c1,c2,hh];simpa using this
   .have hn1:=G.near he (by simp only[hZ];omega) (by rw[<-hp];intro h;have:=h.2;simp only[hZ]at this;omega);have g3':=g3;refine ai ?_;simp(disch:=try exact af)[bv,a1,a2,b1,b2,g1',g2,hpi,g3',c1,c2,hh];exact hk (g+1) hq hn1 (by simp only[hZ];omega)
  .have g2':=g2;have hn1:=G.near he (by simp only[hZ];omega) (λh=>by have:=h.1;simp only[hZ]at this;omega);refine ai ?_;simp[bv,a1,a2,b1,b2,g1',g2',c1,c2,hh];exact hk (g+1) hq hn1 (by simp only[hZ];omega)
end
theorem HI{clr:LnQ}:∀(i:Nat)(h0 h:Hp),h.length=h0.length->(∀j,gZ clr (i+j)=false->∀x,h[j]?=some x->∃b,h0[j]?=some (x.1,b)∧x.2=.none)->aH clr i h0 h=h
 | _,[],h,hl,_=>by
  have:h=[]:=Zi (by simpa using hl);subst this;rfl
 |i,x0::h0,[],hl,_=>by simp at hl
 | i,x0::h0,x::h,hl,hs=>by
  rw[se,HI (i+1) h0 h (by simpa using hl) (λj hj y hy=>hs (j+1) (by rw[show i+(j+1)=i+1+j by omega];exact hj) y hy)];by_cases hc:gZ clr i=true
  .rw[if_pos hc]
  .rw[if_neg hc];obtain⟨b,h1,h2⟩:=hs 0 (by simpa using hc) x rfl;simp only[List.getElem?_cons_zero,Z9]at h1;rw[h1];simp only;rw[<-h2]
theorem Jh{clr:LnQ}:∀(i:Nat)(h:Hp),(∀x∈h,offB clr x.2=true)->qc clr i h=true
 |_,[],_=>rfl
 | i,x::h,hs=>by
  rw[Be,hs x ac,Jh (i+1) h λy hy=>hs y (by simp[hy])];simp
def dH(g:Hp)(sa:Nat)(exa:Bool)(al ol:LnQ):Hp:=sP (sP g 4 1 true ol) sa 1 exa al
structure DvH(g:Hp)(sa:Nat)(bl:LnQ):Prop where
 len:g.length=9
 sa:sa<2
 b:g[2]?=some (1,.data 1 (bl.map u6) true false)
 c5:g[5]?=some nnQ
 c6:g[6]?=some nnQ
 off:∀x∈g,offB [5,6] x.2=true
 und:(g.all λx=>az 9 x.2)=true
variable{g:Hp}{sa:Nat}{exa:Bool}{al ol bl:LnQ}
theorem OO(G:DvH g sa bl):(dH g sa exa al ol).length=9:=by simp[dH,G.len]
theorem aeW(G:DvH g sa bl):(dH g sa exa al ol)[sa]?=some (1,.data 1 (al.map u6) exa false):=r9 (by have:=G.sa;simp[G.len];omega)
theorem aeV(G:DvH g sa bl):(dH g sa exa al ol)[2]?=some (1,.data 1 (bl.map u6) true false):=by have:=G.sa;rw[dH,sP,List.getElem?_set_ne aa,sP,List.getElem?_set_ne aa,G.b]
theorem aeU(G:DvH g sa bl):(dH g sa exa al ol)[4]?=some (1,.data 1 (ol.map u6) true false):=by have:=G.sa;rw[dH,sP,List.getElem?_set_ne aa];exact r9 (by rw[G.len];decide)
theorem agK(hj:j=5∨j=6)(G:DvH g sa bl):(dH g sa exa al ol)[j]?=some nnQ:=by
 have:=G.sa;rw[dH,sP,List.getElem?_set_ne aa,sP,List.getElem?_set_ne aa];rcases hj with rfl|rfl
 .exact G.c5
 .exact G.c6
theorem ace(G:DvH g sa bl):(dH g sa exa al ol).set 4 (1,.data 1 (ol'.map u6) true false)=dH g sa exa al ol':=by have:=G.sa;rw[dH,sP,V8 _ _ aa];simp[dH,sP]
theorem ZM(G:DvH g sa bl):∀x∈dH g sa exa al ol,offB [5,6] x.2=true:=by
 intro x hx;rcases Yk hx with h|h
 .rcases Yk h with h|h
  .exact G.off x h
  .rw[h];rfl
 .rw[h];rfl
theorem MR(G:DvH g sa bl){ex':Bool}:aH [5,6] 0 (dH g sa ex' al' ol') (dH g sa exa al ol)=dH g sa exa al ol:=by
 refine HI 0 _ _ (by rw[OO G,OO G]) λj hj x hx=>?_
 have hj2:j=5∨j=6:=by
  simp only[Zj,ES,Sz,Yc,beq_lit]at hj;by_cases h5:j=5
  .exact .inl h5
  .by_cases h6:j=6
   .exact .inr h6
   .exfalso;simp[Ne.symm h5,Ne.symm h6]at hj
 rw[agK hj2 G]at hx;cases hx;exact⟨.none,agK hj2 G,rfl⟩
theorem agJ(G:DvH g sa bl){n:Nat}(hbl:bl.length=n+1):RdS (λt=>∃l,t=sP (sP g 4 1 true ol) sa 1 exa l) (.ref 2 1 0 n (n+1) (n+1)) (bl.take n):=by
 have e1:(bl.take n).length=n:=by simp;omega
 refine⟨by rw[e1];rfl,?_⟩;rintro t i ⟨l,rfl⟩ hi;have hb:=aeV (exa:=exa) (al:=l) (ol:=ol) G;refine⟨.ptr 2 1 i (n+1),?_,?_⟩
 .have:=CJ hb hbl.symm (len:=n) (cap:=n+1) (i:=(i:Int)) aa aa .i64
  rwa [Int.toNat_natCast]at this
 .rw[ER aa];exact JG hb hbl.symm aa
theorem YR{l:LnQ}{n:Nat}(h:l.length=n+2):l.drop n=[nth 0 l n,nth 0 l (n+1)]:=by rw[Yx aa,Yx aa,Y6 aa,cC _ _ _ aa,cC _ _ _ aa]
theorem agz{al db:LnQ}{i:Nat}(hsa:aE Z al)(hsb:aE Z db)(hdl:db.length=n2+2)(hi:i+db.length<al.length)(hy:0<nth 0 db (n2+1))(hD:val Z (al.drop i)<Z*val Z db):
  Gs Z (Z^n2) (val Z ((al.drop i).take n2)) (val Z (db.take n2)) (nth 0 al (i+n2)) (nth 0 al (i+n2+1)) (nth 0 al (i+n2+2)) (nth 0 db n2) (nth 0 db (n2+1)) (val Z (al.drop i)) (val Z db) (nth 0 al (i+n2+2)*Z+nth 0 al (i+n2+1)):=by
 have hvb:=jN (B:=Z) bE hsb
 have hDlt:val Z (al.drop i)<Z^(n2+3):=by
  rw[Nat.pow_succ,Zo (Z^(n2+2)),<-hdl];exact Nat.lt_trans hD (Nat.mul_lt_mul_of_pos_left hvb bE)
 have htop:val Z (al.drop (i+n2+3))=0:=by
  rw[show i+n2+3=i+(n2+3) by omega,<-List.drop_drop];exact KP bE hDlt
 have e1:=mq (B:=Z) (al.drop i) n2 (by grind);rw[List.drop_drop,qt al (i+n2),qt al (i+n2+1),qt al (i+n2+1+1),htop,Nat.mul_zero]at e1;simp only[Nat.add_zero]at e1;have e2:=mq (B:=Z) db n2 aa;rw[YR hdl]at e2;have l1:=jN (B:=Z) bE ((hsa.drop i).take n2);have l2:=jN (B:=Z) bE (hsb.take n2)
 rw[Zp,Yo (by grind)]at l1;rw[Zp,Yo aa]at l2;refine⟨bE,?_,?_,l1,l2,hsa.getD bE _,hsb.getD bE _,hy,hD⟩
 .rw[e1]
  show _=val Z ((al.drop i).take n2)+Z^n2*(al.getD (i+n2) 0+Z*(al.getD (i+n2+2) 0*Z+al.getD (i+n2+1) 0))
  grind
 trivial
variable{g:Hp}{sa:Nat}{exa:Bool}{bl db:LnQ}{n M m A:Nat}
theorem MQ(G:DvH g sa bl)(hdb:bl.take n=db)(hbl:bl.length=n+1)(hsb:aE Z db)(hn:2<=n)(hnb:n<Z)(hM:M=m+n)(hMb:M<100000000)(hy:0<nth 0 db (n-1))(al0 ol0:LnQ)(k:KL) :
  ∀(i:Nat)(al ol:LnQ),i<=m->al.length=M->ol.length=m->aE Z al->aE Z ol->val Z (al.drop i)<val Z db->val Z al+val Z db*val Z ol=A->(∀j,j<i->nth 0 ol j=0) ->
  (∀al' ol',al'.length=M->ol'.length=m->aE Z al'->aE Z ol'->val Z al'<val Z db->val Z al'+val Z db*val Z ol'=A->k (.exit 2) [] (dH g sa exa al' ol')) ->
  lp (du (CX Y) (.ref sa 1 0 M M M) (.ref 2 1 0 n (n+1) (n+1)) (I n) (.ref 4 1 0 m m m)) [5,6] (dH g sa exa al0 ol0) [I ((i:Int)-1)] (dH g sa exa al ol) k
 | 0,al,ol,hi,hal,hol,hsa,hso,hD,hA,hz,hk=>by
  refine ai ?_;simp[du]
  grind
 | i+1,al,ol,hi,hal,hol,hsa,hso,hD,hA,hz,hk=>by
  have hdl:db.length=n:=by rw[<-hdb];simp;omega
  obtain⟨n2,hn2⟩:∃n2,n=n2+2:=⟨n-2,aa⟩;have hZ:Z=1000000000:=rfl
  have hD2:val Z (al.drop i)<Z*val Z db:=by
   rw[qt];have h1:=hsa.getD bE i;have h2:=Z1 Z hD;rw[Nat.mul_succ]at h2;omega
  have Gq:=agz (i:=i) hsa hsb (n2:=n2) aa aa (by rw[show n2+1=n-1 by omega];exact hy) hD2;have e0:((i+1:Nat):Int)-1=(i:Int):=aa;obtain⟨x0,hx0⟩:=mnQ (nth 0 al (i+n2));obtain⟨x1,hx1⟩:=mnQ (nth 0 al (i+n2+1));obtain⟨x2,hx2⟩:=mnQ (nth 0 al (i+n2+2));obtain⟨y0,hy0⟩:=mnQ (nth 0 db n2);obtain⟨y1,hy1⟩:=mnQ (nth 0 db (n2+1))
  have hx1Z:x1<Z:=by rw[<-hx1];exact hsa.getD bE _
  have hx2Z:x2<Z:=by rw[<-hx2];exact hsa.getD bE _
  have hy1Z:y1<Z:=by rw[<-hy1];exact hsb.getD bE _
  rw[hx0,hx1,hx2,hy0,hy1]at Gq;obtain⟨hi_,hhi⟩:=mnQ (x2*Z+x1);rw[hhi]at Gq
  have hhib:hi_<Z*Z:=by
   have:=Zv Z (show x2+1<=Z by omega);rw[Nat.add_mul]at this;omega
  have nb:∀j,j<n->nth 0 bl j=nth 0 db j:=λj hj=>by rw[<-hdb,ER hj]
  have rA:=λ(j:Nat)(hj:j<M)=>CJ (aeW (exa:=exa) (al:=al) (ol:=ol) G) hal.symm (len:=M) (cap:=M) (i:=(j:Int)) aa aa .i64
  have lA:=λ(j:Nat)(hj:j<M)=>JG (aeW (exa:=exa) (al:=al) (ol:=ol) G) hal.symm (j:=j) aa
  have rB:=λ(j:Nat)(hj:j<n)=>CJ (aeV (exa:=exa) (al:=al) (ol:=ol) G) hbl.symm (len:=n) (cap:=n+1) (i:=(j:Int)) aa aa .i64
  have lB:=λ(j:Nat)(hj:j<n)=>JG (aeV (exa:=exa) (al:=al) (ol:=ol) G) hbl.symm (j:=j) aa
  simp only[Int.toNat_natCast]at rA rB;have a0:=rA (i+n2) aa;have a0l:=lA (i+n2) aa;have a1:=rA (i+n2+1) aa;have a1l:=lA (i+n2+1) aa;have a2:=rA (i+n2+2) aa;have a2l:=lA (i+n2+2) aa;have b0:=rB n2 aa;have b0l:=lB n2 aa;have b1:=rB (n2+1) aa;have b1l:=lB (n2+1) aa;rw[hx0]at a0l;rw[hx1]at a1l;rw[hx2]at a2l
  rw[nb _ aa,hy0]at b0l;rw[nb _ aa,hy1]at b1l;have s0:((i+n2:Nat):Int)=(i:Int)+(n:Int)-2:=aa;have s1:((i+n2+1:Nat):Int)=(i:Int)+(n:Int)-1:=aa;have s2:((i+n2+2:Nat):Int)=(i:Int)+(n:Int):=aa;have t0:((n2:Nat):Int)=(n:Int)-2:=aa;have t1:((n2+1:Nat):Int)=(n:Int)-1:=aa;rw[s0]at a0;rw[s1]at a1;rw[s2]at a2;rw[t0]at b0;rw[t1]at b1
  have hy1p:0<y1:=Gq.hy1;have e3:(x2:Int)*1000000000+(x1:Int)=(hi_:Int):=by simp only[hZ]at hhi;omega
  obtain⟨q0,hq0⟩:=mnQ (hi_/y1);obtain⟨r0,hr0⟩:=mnQ (hi_%y1);have e4:(hi_:Int)/(y1:Int)=(q0:Int):=by rw[<-hq0];simp
  have e5:(hi_:Int)%(y1:Int)=(r0:Int):=by rw[<-hr0];simp
  have hdm:q0*y1+r0=hi_:=by rw[<-hq0,<-hr0,Zo];exact Xm hi_ y1
  have hq0b:q0<=hi_:=by rw[<-hq0];exact Yu ..
  have hn0:¬((y1:Int)=0):=aa;have fst:=Gq.first
  rw[hq0]at fst;refine ai ?_;rw[e0];simp(disch:=try exact af)[du,a1,a1l,a2,a2l,b1,b1l,e3,hn0,Zt,Zr,e4,e5];refine lo (Oz Gq hy1Z hhib hn hnb aa a0 a0l b0 b0l b1 b1l _ _ rfl q0 q0 r0 (Z8 _) hdm fst λg' hg1 hg2 hg3=>?_);simp only[lh]
  have hl9:(sP g 4 1 true ol).length=9:=by simp[G.len]
  have hu:((sP g 4 1 true ol).all λx=>az (sP g 4 1 true ol).length x.2)=true:=by rw[hl9];exact AW G.und
  have hsa2:sa<(sP g 4 1 true ol).length:=by rw[hl9];have:=G.sa;omega
  have rd:=agJ (exa:=exa) (ol:=ol) G hbl;rw[hdb]at rd;obtain⟨w,hw⟩:=mnQ ((jc g' i db (db.length+1) 0 0 0 al).1);obtain⟨l1,hl1⟩:=mnQ ((jc g' i db (db.length+1) 0 0 0 al).2);obtain⟨l2,hl2⟩:=mnQ (qV i db (db.length+1) 0 0 l1);obtain⟨⟨k1,k2⟩,k3,k4⟩:=Ti (i:=i) hsa hsb aa hg3 hD2 hg2 hg1 hw hl1 hl2
  have tk:=KW (at_:=i) (g:=g') (tot:=M) hu hsa2 rd hsb hg3 aa aa hal hsa;rw[hw,hl1]at tk;have bk:=Nh (at_:=i) (tot:=M) (l:=l1) hu hsa2 rd hsb aa aa aa k2;rw[hl2]at bk;have hvs:=λq=>xf (B:=Z) ol i q aa
  have hz0:ol.getD i 0=0:=hz i aa
  have go:∀(q:Nat)(l:LnQ),aE Z l->l.length=al.length->l.take i=al.take i->q=val Z (al.drop i)/val Z db->val Z (l.drop i)=val Z (al.drop i)%val Z db ->
    lp (du (CX Y) (.ref sa 1 0 M M M) (.ref 2 1 0 n (n+1) (n+1)) (I n) (.ref 4 1 0 m m m)) [5,6] (dH g sa exa al0 ol0) [I ((i:Int)-1)] (dH g sa exa l (ol.set i q)) k:=by
   intro q l c1 c2 c3 c4 c5;have hvp:=Gq.pos;have hqZ:q<Z:=by rw[c4];exact(Xc hvp).2 hD2
   refine MQ G hdb hbl hsb hn hnb hM hMb hy al0 ol0 k i l (ol.set i q) aa aa (by grind) c1 (hso.set hqZ) (by rw[c5];exact Yz _ hvp) ?_ (λj hj=>by rw[yr aa];exact hz j aa) hk;have h1:=hvs q;rw[hz0,Nat.mul_zero,Nat.add_zero]at h1;have h2:=mq (B:=Z) l i aa;have h3:=mq (B:=Z) al i aa
   have h4:=Xm (val Z (al.drop i)) (val Z db);rw[<-c4,<-c5]at h4;rw[c3]at h2;rw[h1,h2,<-hA,h3,<-h4,Zl,Zl,Y3 (val Z db) (Z^i)];omega
  clear hk hA hz;have r4:=λl=>CJ (aeU (exa:=exa) (al:=l) (ol:=ol) G) hol.symm (len:=m) (cap:=m) (i:=(i:Int)) aa aa .i64
  have r5:=λl=>RZ (aeU (exa:=exa) (al:=l) (ol:=ol) G) hol.symm (j:=i) aa
  simp only[ace G,Int.toNat_natCast]at r4 r5;refine gP tk ?_ ac;rw[show sP (sP g 4 1 true ol) sa 1 exa l1=dH g sa exa l1 ol from rfl];rcases Zb w with w0|wp
  .obtain⟨d1,d2,d3,d4,d5⟩:=k3 w0;have gg:=go g' l1 d1 d2 d3 d4 d5;have w1:¬0<w:=aa;have r6:=r5 l1 g';have r7:=r4 l1;simp only[jn];simp(disch:=try exact af)[w1,r7,r6];refine⟨?_,?_⟩
   .rw[clean,Jh 0 _ (ZM G)];rfl
   .rw[MR G];exact gg
  .obtain⟨d1,d2,d3,dg,d4,d5⟩:=k4 wp;have gg:=go (g'-1) l2 d1 d2 d3 d4 d5;obtain⟨g2,hg2'⟩:=mnQ (g'-1);rw[hg2']at gg;have e6:(g':Int)-1=(g2:Int):=aa;have hg2Z:(g2:Int)<18446744073709551616:=by simp only[hZ]at hg3;omega
   have r6:=r5 l2 g2;have r7:=r4 l2;simp only[jn];simp(disch:=try exact af)[wp,e6];refine om (gP bk ?_ ac);rw[show sP (sP g 4 1 true ol) sa 1 exa l2=dH g sa exa l2 ol from rfl];simp(disch:=try exact af)[r7,r6];refine⟨?_,?_⟩
   .rw[clean,Jh 0 _ (ZM G)];rfl
   .rw[MR G];exact gg
theorem BI{n:Nat}(h:n<Z^w):bz (w+1) n=bz w n++[0]:=by
 have h1:aE Z (bz w n++[0]):=(uS w n).snoc bE
 grind[Dx,KH,wW,Zq,dj]
theorem YD{n:Nat}(h:n<Z^w):iM (bz w n)=dig Z n:=by rw[<-rF aw (uS w n),wW w n h]
theorem nN{n:Nat}(h:n<Z^w):(bz w n).take (dig Z n).length=dig Z n:=by grind[YD,AP]
theorem wL(n:Nat):n<Z^(dig Z n).length:=(pG aw).1 (Z8 _)
theorem iX{n:Nat}(h:n<Z^k):(dig Z n).length<=k:=(pG aw).2 h
theorem WT{n:Nat}(h:Z^k<=n):k<(dig Z n).length:=by grind[pG,aw]
theorem ZD{n:Nat}(h:0<n):Z^((dig Z n).length-1)<=n:=by
 rcases Zg n (Z^((dig Z n).length-1))with h1|h1
 .have:=iX h1
  grind[Z]
 omega
theorem Pk{n:Nat}(h:(dig Z n).length=k+1):Z^k*nth 0 (dig Z n) k<=n∧n<Z^k*(nth 0 (dig Z n) k+1)∧0<nth 0 (dig Z n) k:=by
 have e:=mq (B:=Z) (dig Z n) k aa;rw[iO aw,Yx aa,Y6 aa]at e;have hn:nth 0 (dig Z n) k=(dig Z n)[k]:=cC _ _ _ aa;rw[<-hn]at e;simp only[val,Nat.mul_zero,Nat.add_zero]at e;have l:=jN (B:=Z) bE ((cE aw n).take k);rw[Zp,Yo aa]at l
 refine⟨aa,by grind,?_⟩;rcases Zb (nth 0 (dig Z n) k)with h0|h0
 .rw[h0,Nat.mul_zero,Nat.add_zero]at e;have:=iX (n:=n) (k:=k) aa;omega
 omega
theorem Tb{y f:Nat}(h:(dig Z q).length=k+1)(hy:nth 0 (dig Z q) k=y)(hf:Z/(y+1)=f)(hk:1<=k):0<f∧f<Z∧q*f<Z^(k+1):=by
 obtain⟨h1,h2,h3⟩:=Pk h;rw[hy]at h1 h2 h3;have hyZ:y<Z:=by rw[<-hy];exact(cE aw q).getD bE k
 have hf0:0<f:=by rw[<-hf];exact Nat.div_pos aa aa
 have hfy:f*(y+1)<=Z:=by rw[<-hf];exact Wl ..
 refine⟨hf0,?_,?_⟩
 .have:=Z1 f (show 2<=y+1 by omega);omega
 .have h4:q*f<Z^k*(y+1)*f:=Nat.mul_lt_mul_of_pos_right h2 hf0;have h5:Z^k*(y+1)*f=Z^k*(f*(y+1)):=by rw[Nat.mul_assoc,Zo (y+1)]
  have h6:=Z1 (Z^k) hfy;rw[Nat.pow_succ];omega
theorem KV{l:LnQ}(h:aE Z l):l.take (dig Z (val Z l)).length=dig Z (val Z l):=by grind[rF,aw,AP]
theorem aa5{α:Type}{l:List α}{i:Nat}{x:α}(h:l[i]?=some x):l.set i x=l:=by
 refine Yh λj=>?_
 by_cases hj:j=i
 .grind
 .rw[List.getElem?_set_ne (Ne.symm hj)]
variable{P Q n p f M W9 sa:Nat}{exa:Bool}{hA:Hp}
theorem Cn(hn:(dig Z Q).length=n)(h2:2<=n)(hp:(dig Z P).length=p)(hnp:n<=p)(hpb:p<10000000)(f0:0<f)(fZ:f<Z)(fQ:Q*f<Z^n)(hVe:W9=P*f)(hM:(dig Z W9).length+1=M)(hMp:p<M)
  (A9:hA.length=9) (Au:(hA.all λx=>az 9 x.2)=true) (Ao:∀x∈hA,offB [5,6] x.2=true) (A2:hA[2]?=some nnQ) (A4:hA[4]?=some nnQ) (A5:hA[5]?=some nnQ) (A6:hA[6]?=some nnQ) (sa2:sa<2) (Aa:hA[sa]?=some (1,.data 1 ((bz M W9).map u6) exa false)) :
  cai (CX Y).i hA (V.fn F.b9 [] []) [lst u6 (dig Z Q),V.d (D.int IntKind.u64 ↑f)] 2
      λv10 h=>
      bnd (aN v10) λv11=>
       lp (kC (CX Y) (lst u6 (dig Z P))) [] h [.ref sa 1 0 M M M] h
        (exK
         [(Exit.exit 0,λl12 h=>
           bnd (aN (ge l12 0)) λv13=>
            bnd (biI BinOp.sub v13 v11) λv14=>
             mkS 4 8 [D.int IntKind.u64 0] h v14 v14 λv15 h=>
              bnd (aN (ge l12 0)) λv16=>
               bnd (biI BinOp.sub v16 v11) λv17=>
                bnd (biI BinOp.sub v17 (V.d (D.int IntKind.i64 1))) λv18=>
                 lp (du (CX Y) (ge l12 0) v10 v11 v15) [5,6] h [v18] h
                  (exK
                   [(Exit.exit 2,λl19 h=>
                     cai (CX Y).i h (V.fn F.ay [] []) [ge l12 0] 7 λv20 h=>
                      cal (CX Y).p h (V.fn F.cX [] [])
                       [v20,V.d (D.int IntKind.u64 ↑f)] λv21 h=>
                       ext v21 0 λv22=>
                        ext v21 1 λv23=>
                         cai (CX Y).i h (V.fn F.ay [] []) [v15] 8 λv24 h=>
                          out (V.tup [lst u6 (dig Z (P/Q)),lst u6 (dig Z (P%Q))])
                           (V.tup [v24,v22]) h)]))]):=by
 have hQ1:Z^(n-1)<=Q:=by
  rw[<-hn];refine ZD ?_;rcases Zb Q with h|h
  .subst h;rw[show(dig Z 0).length=0 from rfl]at hn;omega
  .exact h
 have hQf:(dig Z (Q*f)).length=n:=by
  have h1:=iX fQ;have h3:=WT (n:=Q*f) (k:=n-1) (Z4 hQ1 (Y5 Q f0));omega
 have hQfs:Q*f<Z^(n+1):=Z2 fQ (Z3 bE aa);have sc:=Ep (h:=hA) (t0:=lst u6 (dig Z Q)) (da:=dig Z Q) (f:=f) (N:=n+1) (by grind) fZ f0 (Ru _ _) (cE aw Q) aa aa;rw[iO aw,hQf]at sc;refine gA (e:=0) (b:=.none) sc A2 ?_;have hbl:(bz (n+1) (Q*f)).length=n+1:=dj ..
 have hdb:(bz (n+1) (Q*f)).take n=dig Z (Q*f):=by
  have:=nN hQfs
  rwa [hQf]at this
 obtain⟨bl,hble⟩:=mnQ (bz (n+1) (Q*f));rw[hble]at hbl hdb;rw[hble,List.length_map,hbl];obtain⟨g,hg⟩:=mnQ (hA.set 2 (0+1,.data 1 (bl.map u6) true false));rw[hg]
 have G:DvH g sa bl:=by
  rw[<-hg];refine⟨by grind,sa2,by grind,by grind,by grind,λx hx=>?_,?_⟩
  .rcases Yk hx with h|h
   .grind
   .rw[h];rfl
  .exact AW (s:=2) (e:=1) Au
 have g4:g[4]?=some nnQ:=by rw[<-hg];simp[A4]
 have ga:g[sa]?=some (1,.data 1 ((bz M W9).map u6) exa false):=by rw[<-hg,List.getElem?_set_ne aa];exact Aa
 have hMp1:M<=p+2:=by
  have:W9<Z^(p+1):=by
   rw[hVe,Nat.pow_succ];have:=wL P;rw[hp]at this;exact Nat.mul_lt_mul_of_lt_of_lt this fZ
  have:=iX this;omega
 obtain⟨m,hm⟩:∃m,M=m+n:=⟨M-n,aa⟩;have lP:aN (lst u6 (dig Z P))=some (I (dig Z P).length):=rfl;have c1:¬((M:Int)<=((dig Z P).length:Int)):=aa;have c2:(M:Int)-(n:Int)=(m:Int):=aa;simp;refine lo (ai ?_);simp(disch:=try exact af)[kC,lP,c1,c2,g4]
 have hd:g.set 4 (1,Bk.data 1 (List.replicate m (D.int IntKind.u64 0)) true false)=dH g sa exa (bz M W9) (List.replicate m 0):=by
  have e1:(List.replicate m (D.int IntKind.u64 0))=(List.replicate m 0).map u6:=by simp[u6]
  have e2:(sP g 4 1 true (List.replicate m 0))[sa]?=some (1,.data 1 ((bz M W9).map u6) exa false):=by
   rw[sP,List.getElem?_set_ne aa];exact ga
  show _=(sP g 4 1 true (List.replicate m 0)).set sa (1,.data 1 ((bz M W9).map u6) exa false)
  rw[aa5 e2,e1];rfl
 rw[hd]
 have hWlt:W9<Z^(m+(n-1)):=by
  have:=wL W9
  rwa [show(dig Z W9).length=m+(n-1) by omega]at this
 have hWM:W9<Z^M:=Z2 hWlt (Z3 bE aa);have hQfv:val Z (dig Z (Q*f))=Q*f:=iO aw _;have hZ:Z=1000000000:=rfl
 refine lo (MQ (A:=W9) (n:=n) (M:=M) (m:=m) G hdb hbl (cE aw _) h2 aa hm aa (Pk (n:=Q*f) (k:=n-1) aa).2.2 _ _ _ m (bz M W9) (List.replicate m 0) (Z8 _) (dj ..) ac (uS M W9) (λx hx=>by grind) ?_ (by grind[AI,wW]) (λj hj=>by grind[cC]) λal' ol' q1 q2 q3 q4 q5 q6=>?_)
 .have e1:=mq (B:=Z) (bz M W9) m (by grind[dj]);rw[wW _ _ hWM]at e1;rw[Yr]at hWlt;rw[hQfv];have h3:Z^m*val Z ((bz M W9).drop m)<Z^m*Z^(n-1):=aa;have h4:=Xa h3;have h5:=Y5 Q f0;omega
 .simp only[lh];rw[hQfv]at q5 q6
  have hQ0:0<Q:=by
   have:=Xq (n:=n-1) bE;omega
  have hQf0:0<Q*f:=Yl hQ0 f0
  have hq:val Z ol'=P/Q:=by
   have:(P*f)/(Q*f)=val Z ol':=by
    rw[<-hVe,<-q6,Ye _ _ hQf0,W4 q5,Zj]
   rw[<-this,Nat.mul_div_mul_right _ _ f0]
  have hr:val Z al'=f*(P%Q):=by
   have:(P*f)%(Q*f)=val Z al':=by
    rw[<-hVe,<-q6,Xb,X9 q5]
   rw[<-this,Nat.mul_mod_mul_right,Zo]
  have l9:(dH g sa exa al' ol').length=9:=OO G;have hu:((dH g sa exa al' ol').all λx=>az (dH g sa exa al' ol').length x.2)=true:=by rw[l9];exact AW (AW G.und)
  have ha:=aeW (exa:=exa) (al:=al') (ol:=ol') G;have tr:=tO hu ha q1.symm (len:=M) (cap:=M) (Z8 _) aa (Z8 _);have hta:iM (al'.take M)=dig Z (val Z al'):=by rw[Zx aa,rF aw q3]
  rw[hta]at tr;refine gP tr ?_ ac
  have hla:(dig Z (val Z al')).length<=M:=by
   have:=jN (B:=Z) bE q3;rw[q1]at this;exact iX this
  have sn:=wj ha q1.symm (len:=(dig Z (val Z al')).length) (cap:=M) hla (Z8 _);have htk:=KV q3;rw[htk]at sn;obtain⟨h1,hh1⟩:=mnQ ((dH g sa exa al' ol').set sa (1,.data 1 (al'.map u6) exa true));rw[hh1]at sn;have sm:=Hv (a:=val Z al') (n:=f) aa f0 aa
  refine cdz (u:=.mk) (ds:=[lst u6 (dig Z (val Z al')),U f]) (h':=h1) (by simp_all[aO]) sm ?_;rw[show cI (.tup [pcs (val Z al'/f),U (val Z al'%f:Nat)])=false from rfl];have h1o:h1[4]?=some (1,.data 1 (ol'.map u6) true false):=by rw[<-hh1,List.getElem?_set_ne aa];exact aeU G
  have h1u:(h1.all λx=>az h1.length x.2)=true:=by
   have e:h1.length=9:=by rw[<-hh1,Yt,l9]
   rw[e,<-hh1,Zz];intro x hx;rcases Yk hx with h|h
   .grind
   .rw[h];rfl
  have tr2:=tO h1u h1o q2.symm (len:=m) (cap:=m) (Z8 _) aa (Z8 _);have hto:iM (ol'.take m)=dig Z (P/Q):=by rw[Zx aa,<-hq,rF aw q4]
  rw[hto]at tr2
  show ext _ 0 _
  simp;refine om (gP tr2 ?_ ac)
  have hlo:(dig Z (P/Q)).length<=m:=by
   have:=jN (B:=Z) bE q4;rw[q2,hq]at this;exact iX this
  have sn2:=wj h1o q2.symm (len:=(dig Z (P/Q)).length) (cap:=m) hlo (Z8 _);have htk2:=KV q4;rw[hq]at htk2;rw[htk2]at sn2;have hrr:val Z al'/f=P%Q:=by rw[hr,Nat.mul_div_cancel_left _ f0]
  rw[hrr];exact bU sn2 (Uo _ _ _)
theorem acQ{s s' e e' L n k by_ tot:Nat}{b':Bk}{old cs:LdQ}{fr:Bool}{h:Hp}{q:kkQ}{u:PU q}(hg:h[s]?=some (e,.data n old true fr))(hs':h[s']?=some (e',b'))(ht:tot=L*n)(hold:old.length=L*n)(hcs:cs.length=k*n)(hb:(L+k)*by_<=140737488355328)
  (h0:k=0->q (.ref s e 0 L L tot) h) (h1:0<k->q (.ref s' (e'+1) 0 (L+k) (L+k) (L*n+cs.length)) (h.set s' (e'+1,.data n (old++cs) false false))):rh (apV false s' n by_ (.ref s e 0 L L tot) (.d (.sl k cs)) h) q u:=by
 unfold rh apV;simp only[cellsOf];rw[if_pos hcs];unfold apC;by_cases hk:k=0
 .grind
 .rw[if_neg hk];simp only[ee hg];rw[if_pos ⟨trivial,aa,Z8 _,aa,hcs⟩,if_neg aa,if_pos hb];simp only[if_true,new,hs',Yj];rw[Zx aa];exact h1 aa
theorem O4{s s' e len cap:Nat}{old:LnQ}{x:Nat}{ex:Bool}{h:Hp}{q:kkQ}{u:PU q}(hg:h[s]?=some (e,.data 1 (old.map u6) ex false))(hold:old.length=cap)(hl:len<cap)
  (hq:q (.ref s e 0 (len+1) cap cap) (h.set s (e,.data 1 ((old.take len++[x]++old.drop (len+1)).map u6) ex false))):rh (apV false s' 1 8 (.ref s e 0 len cap cap) (.d (.sl 1 [u6 x])) h) q u:=by
 unfold rh apV;simp only[cellsOf];rw[if_pos ac];unfold apC;rw[if_neg aa];simp only[ee hg];rw[if_pos ⟨trivial,by grind,aa,by grind,ac⟩,if_pos aa]
 simp_all
theorem Rp{s s' e e' cap:Nat}{b':Bk}{old:LnQ}{x:Nat}{h:Hp}{q:kkQ}{u:PU q}(hg:h[s]?=some (e,.data 1 (old.map u6) true false))(hs':h[s']?=some (e',b'))(hold:old.length=cap)(hb:cap<1000000000000)
  (hq:q (.ref s' (e'+1) 0 (cap+1) (cap+1) (cap+1)) (h.set s' (e'+1,.data 1 ((old++[x]).map u6) false false))):rh (apV false s' 1 8 (.ref s e 0 cap cap cap) (.d (.sl 1 [u6 x])) h) q u:=by
 refine acQ (L:=cap) (old:=old.map u6) hg hs' aa (by grind) rfl aa (λh=>by omega) λ_=>?_
 simp only[Yp,List.length_singleton];rw[show old.map u6++[u6 x]=(old++[x]).map u6 by simp];exact hq
theorem OK{P Q:Nat}(h2:2<=(dig Z Q).length)(hle:(dig Z Q).length<=(dig Z P).length)(hb:(dig Z P).length<10000000):CP Y F.dJ [pcs P,pcs Q] (.tup [pcs (P/Q),pcs (P%Q)]):=by
 refine ug ?_;obtain⟨k,hk⟩:∃k,(dig Z Q).length=k+1:=⟨(dig Z Q).length-1,aa⟩;obtain⟨y,hy⟩:=mnQ (nth 0 (dig Z Q) k);obtain⟨f,hf⟩:=mnQ (Z/(y+1));obtain⟨f0,fZ,fQ⟩:=Tb hk hy hf aa;have hZ:Z=1000000000:=rfl;have hyZ:y<Z:=by rw[<-hy];exact(cE aw Q).getD bE k
 have hyb:y<1000000000:=by simp only[hZ]at hyZ;omega
 obtain⟨n,hn⟩:=mnQ ((dig Z Q).length);obtain⟨p,hp⟩:=mnQ ((dig Z P).length);have e1:=λh:Hp=>oO u6 (dig Z Q) h (k:=.i64) (i:=(k:Int)) aa aa
 have e2:=λh:Hp=>Fe (dig Z Q) h (j:=k) aa
 rw[hy]at e2;simp only[Int.toNat_natCast]at e1;have e3:((dig Z Q).length:Int)-1=(k:Int):=aa
 have e4:(1000000000:Int)/((y:Int)+1)=(f:Int):=by
  rw[<-hf,hZ];simp
 have y0:¬((y:Int)+1=0):=aa;have lQ:aN (pcs Q)=some (I (dig Z Q).length):=rfl;have lP:aN (pcs P)=some (I (dig Z P).length):=rfl;simp(disch:=try exact af)[dJ,lQ,e3,aeb,e1,e2,y0,Zr,e4];obtain⟨W9,hW⟩:=mnQ (P*f)
 have hP1:Z^(p-1)<=P:=by
  rw[<-hp];refine ZD ?_;rcases Zb P with h|h
  .subst h;have h0:(dig Z 0).length=0:=rfl;omega
  .exact h
 have hW1:p-1<(dig Z W9).length:=WT (by rw[<-hW];exact Z4 hP1 (Y5 P f0))
 have hW2:W9<Z^(p+1):=by
  rw[<-hW,Nat.pow_succ];have:=wL P;rw[hp]at this;exact Nat.mul_lt_mul_of_lt_of_lt this fZ
 have hW3:=iX hW2
 have hli:∀h:Hp,fJ 1 [D.int .u64 0] [(0,V.d (D.int IntKind.u64 0))] h=some ([u6 0],h):=λh=>by
  rfl
 have sc:=Ep (h:=[nnQ,nnQ,nnQ,nnQ,nnQ,nnQ,nnQ,nnQ,nnQ]) (t0:=lst u6 (dig Z P)) (da:=dig Z P) (f:=f) (N:=p+1) rfl fZ f0 (Ru _ _) (cE aw P) aa aa;rw[iO aw,hW]at sc;refine om (gA (e:=0) (b:=.none) sc rfl ?_);simp[hli];have hNl:(bz (p+1) W9).length=p+1:=dj ..
 rcases Zg (dig Z W9).length (p+1)with hc|hc
 .have hl:(dig Z W9).length=p:=aa;have hWp:W9<Z^p:=by have:=wL W9;rwa [hl]at this
  have hcell:(bz (p+1) W9).take p++[0]++(bz (p+1) W9).drop (p+1)=bz (p+1) W9:=by
   rw[Y6 aa,BI hWp,Yb (dj ..),Zn]
  rw[hl,hNl];refine O4 (x:=0) (ex:=true) rfl hNl aa ?_;rw[hcell];refine Cn (M:=p+1) (exa:=true) hn aa hp aa aa f0 fZ (by grind) hW.symm aa aa rfl rfl ?_ rfl rfl rfl rfl aa rfl;intro x hx;simp only[List.set_cons_zero,Zy,Yv,or_false]at hx
  rcases hx with rfl|rfl|rfl|rfl|rfl|rfl|rfl|rfl|rfl<;>rfl
 .have hl:(dig Z W9).length=p+1:=aa;have hcell:bz (p+1) W9++[0]=bz (p+2) W9:=(BI hW2).symm;rw[hl,hNl];refine Rp (x:=0) (e':=0) (b':=.none) rfl rfl hNl aa ?_;rw[hcell];refine Cn (M:=p+2) (exa:=false) hn aa hp aa aa f0 fZ (by grind) hW.symm aa aa rfl rfl ?_ rfl rfl rfl rfl aa rfl;intro x hx
  simp only[List.set_cons_zero,List.set_cons_succ,Zy,Yv,or_false]at hx;rcases hx with rfl|rfl|rfl|rfl|rfl|rfl|rfl|rfl|rfl<;>rfl
@[simp]theorem afy(a:Acc)(n:Nat)(c:LdQ):a.v (n+1) c=.ref a.s (a.e+1) 0 (n+1) (n+1) c.length:=id rfl
@[simp]theorem afz(a:Acc)(n:Nat)(c:LdQ):a.b (n+1) c=(a.e+1,.data a.n c false false):=id rfl
theorem AB(k:Nat):Z^k=10^(9*k):=by rw[Wc];rfl
theorem OD{n:Nat}(h2:n<18446744073709551616):CP Y F.dX [U n,I 10] (S (ah n)):=by
 refine uQ ?_;have hd1:=lX n;have hd2:ndg n<=20:=dG aa aa;have hn:=cJ n;by_cases hs:(n:Int)<100
 .simp(disch:=try exact af)[dX,hs];refine cd (K4 (n:=n) aa) ?_;exact fA rfl
 .have hn0:0<n:=aa;have hit:ah n=dM n (ndg n):=rfl;have hlo:=Bl n hn0;generalize ndg n=d at *
  obtain ⟨mid,post,hm,hp,hcell⟩:∃mid post:LdQ,mid.length=d∧post.length=24-d∧List.replicate 24 (D.int .u8 0)=[]++(mid++post):=by
   refine⟨List.replicate d (.int .u8 0),List.replicate (24-d) (.int .u8 0),ac,ac,?_⟩;rw[List.replicate_append_replicate,show d+(24-d)=24 by omega];rfl
  simp[dX,hs];refine cd (zt hlo hn hd1 h2) ?_;simp only[List.replicate]at hcell;rw[hcell];rw[show[(1,Bk.data 1 ([]++(mid++post)) true false),nnQ]=cH ([]++(mid++post))from rfl];rw[IV bb d rfl aa];simp;refine gP (h':=cH ([]++((dM n d).map u8++post))) (adj (pre:=[]) rfl hm aa aa hn h2) ?_ ac
  rw[IV (by simp[bi];omega) d rfl aa];simp;rw[OP (bs:=dM n d) (by simp[bi];omega) aa (by simp[bi,List.take_append,Zx]) (by simp[bi])];rw[hit]
  try simp
  exact fA rfl
theorem MB{n:Nat}(h:n<18446744073709551616):CP Y F.gH [U n,I 10] (S (ah n)):=by refine wh ?_;simp[gH];refine cd (OD h) ?_;exact fA rfl
theorem Bf{n:Nat}(h:n<18446744073709551616):CP Y F.jE [U n] (S (ah n)):=by refine J0 ?_;simp[jE];refine cd (MB h) ?_;exact fA rfl
theorem xw:∀(l:LuQ)(a:Nat),pO a l=fL a l
 |[],_=>rfl
 |c::l,a=>xw l _
theorem digit_eq(c:UInt8):oP c=qh c:=by simp only[oP,qh];rw[X5];simp
theorem Sr{n:Nat}(h:n<10000000000000000000):CP Y F.fN [S (ah n),I 10,I 64] (.tup [U n,.d (.pl .nilIface)]):=by
 have hd:=dY n;have hc:=sy n
 have hl:(ah n).length<=1000:=by
  have:=dG (n:=n) (d:=19) aa ae;rw[ah,bi];omega
 simp only[qH,Z7]at hc
 have hall:(ah n).all oP=true:=by
  rw[<-hc.1.2];congr 1;funext c;exact digit_eq c
 have ho:Y.X.orc F.fN [.string ⟨⟨ah n⟩⟩,.int .i64 10,.int .i64 64]=some (.tuple #[.int .u64 n,.nilIface]):=by
  have e:∀a,Y.X.orc F.fN a=LG a:=λa=>by
   show(match Nat.beq F.fN F.fN with|true=>LG a|false=>none)=_
   rw[Xu]
  rw[e];unfold LG;simp only;rw[if_pos ⟨trivial,trivial,wT n,hall,hl,by rw[xw,hd];exact h⟩,xw,hd]
 exact CP.orc ho (by intro x hx;simp only[Zy,Yv,or_false]at hx;rcases hx with rfl|rfl|rfl<;>rfl) rfl
theorem AS{n:Nat}(h:n<10000000000000000000):CP Y F.jh [S (ah n)] (.tup [U n,B true]):=by refine CR ?_;simp[jh];refine cd (Sr h) ?_;simp[Jl];exact bU (zd _ _) rfl
theorem mA(n:Nat):oe (S (ah n))=some (I (ndg n)):=by
 show some (I (ah n).length)=_
 rw[ah,bi]
theorem DL(a b:Nat):CP Y F.fV [S (ah a),S (ah b)] (if ndg a<=18∧ndg b<=18 then .tup [U a,U b,B true]else .tup [U 0,U 0,B false]):=by
 refine FS ?_;have la:=mA a;have lb:=mA b;by_cases h1:18<ndg a
 .rw[if_neg aa];simp(disch:=try exact af)[fV,la,lb,h1];exact jz (zd _ _) (zd _ _) rfl
 by_cases h2:18<ndg b
 .rw[if_neg aa];simp(disch:=try exact af)[fV,la,lb,h1,h2];exact jz (zd _ _) (zd _ _) rfl
 .rw[if_pos aa];have ha:a<10000000000000000000:=by have:=cJ a;have:=Z3 (n:=10) ae (show ndg a<=18 by omega);omega
  have hb:b<10000000000000000000:=by have:=cJ b;have:=Z3 (n:=10) ae (show ndg b<=18 by omega);omega
  simp(disch:=try exact af)[fV,la,lb,h1,h2];refine cd (AS ha) ?_;simp;refine cd (AS hb) ?_;simp;exact jz (zd _ _) (zd _ _) rfl
theorem adq(l:LuQ)(h:Hp)(k:kkQ):cvB (S l) h k=k (lst u8 l) h:=rfl
variable{h:Hp}
theorem ZO{C0:Nat}(l:LuQ)(hl:l.length<=9)(hd:l.all qh=true)(k:KL)(h0 H:Hp)(hh:h0.length=H.length):∀(q p:LuQ),p++q=l->k (.exit 2) [U (fL 0 l:Nat)] H ->
  lp (pJ (CX Y) h.length (lst u8 l) (I l.length)) [] h0 [U (fL 0 p:Nat),I p.length] H k
 | []=>by
  intro p hp hk;simp at hp;subst hp;refine ai ?_;simp[pJ];exact hk
 | c::q=>by
  intro p hp hk;have hpl:p.length<l.length:=by subst hp;simp
  have hc:nth 0 l p.length=c:=by subst hp;simp
  have hcd:qh c=true:=by
   rw[Zz]at hd;exact hd c (by subst hp;simp)
  rw[mi]at hcd
  have hpd:p.all qh=true:=by
   rw[Zz]at hd ⊢;exact λx hx=>hd x (by subst hp;simp[hx])
  have e1:=λh:Hp=>oO u8 l h (k:=.i64) (i:=(p.length:Int)) aa aa
  have e2:=λh:Hp=>eX u8 0 l h (j:=p.length) hpl
  rw[hc]at e2;simp only[Int.toNat_natCast]at e1;have hb:=t6 p 0 hpd
  have hb2:fL 0 p<1000000000:=by
   have:=Z3 (n:=10) ae (show p.length<=8 by omega);omega
  have e3:fL 0 (p++[c])=10*fL 0 p+(c.toNat-48):=by
   rw[uR];simp only[fL,List.foldl_cons,List.foldl_nil];omega
  have ih:=ZO (C0:=C0) l hl hd k h0 H hh q (p++[c]) (by simpa using hp) hk;rw[e3]at ih;obtain⟨t,ht⟩:=mnQ (fL 0 p);rw[ht]at ih hb2 ⊢;have e4:(10:Int)*(t:Int)+((c.toNat:Int)-48)=((10*t+(c.toNat-48):Nat):Int):=aa;obtain⟨t2,ht2⟩:=mnQ (10*t+(c.toNat-48));rw[ht2]at ih e4;have hcb:=hcd.1;have hcb2:=hcd.2;refine ai ?_
  simp(disch:=try exact af)[pJ,e1,e2,u8,e4];simpa[hh]using ih
def cuH(h:Hp)(l:LnQ):Hp:=h++[(1,.data 1 (l.map u6) true false),nnQ,nnQ]
theorem Ra(h:Hp)(l:LnQ):(cuH h l)[h.length]?=some (1,.data 1 (l.map u6) true false):=by simp[cuH]
theorem acj(h:Hp)(l l':LnQ):(cuH h l).set h.length (1,.data 1 (l'.map u6) true false)=cuH h l':=by simp[cuH]
@[simp]theorem ack(h:Hp)(l:LnQ):(cuH h l).length=h.length+3:=by simp[cuH]
theorem ZN(T:LuQ)(cap:Nat)(hL:T.length<9000000000)(k:KL)(h0:Hp)(hh:h0.length=h.length+3):∀(w n:Nat)(E:Int)(d:LnQ),(0<w->E=w)->(w=0->E<=0)->-20<=E->T.take w=dM n w->w<=T.length->d.length+(w+8)/9<=cap->cap<1000000000000->n<10^w->aE Z d ->
  (∀d':LnQ,aE Z d'->d'.length<=cap->val Z d'=val Z d+Z^d.length*n->k (.exit 0) [.ref h.length 1 0 d'.length cap cap] (cuH h (d'++List.replicate (cap-d'.length) 0))) ->
  lp (pK (CX Y) h.length (S T)) [] h0 [.ref h.length 1 0 d.length cap cap,I E] (cuH h (d++List.replicate (cap-d.length) 0)) k:=by
 intro w
 induction w using Nat.strongRecOn with
 | _ w ih=>
  intro n E d hE1 hE0 hEl hT hwT hw hcap hn hs hk;by_cases h0w:w=0
  .subst h0w;have hE:=hE0 rfl;have g:¬0<E:=aa;simp at hn;subst hn;refine ai ?_;simp[pK,g];exact hk d hs aa ac
  .obtain rfl:=hE1 aa
   obtain ⟨v,u,hv1,hv9,hvw,hu,huv⟩:∃v u:Nat,1<=v∧v<=9∧w=u+v∧mx2 true 0 ((w:Int)-9)=u∧(u=0∨v=9):=by
    by_cases h9:w<=9
    .exact⟨w,0,aa,h9,aa,by simp[mx2];omega,.inl rfl⟩
    .exact⟨9,w-9,aa,aa,aa,by simp[mx2];omega,.inr rfl⟩
   have hD:=An v u n;rw[<-hvw]at hD;have hlu:=bi u (n/10^v)
   have e1:(T.take w).drop u=dM (n%10^v) v:=by
    rw[hT,hD,Wh hlu];have:=Al v (n%10^v) (n/10^v);rw[Xn]at this;exact this
   have e2:T.take u=dM (n/10^v) u:=by
    have:T.take u=(T.take w).take u:=by rw[List.take_take,Yo aa]
    rw[this,hT,hD,Yb hlu]
   have hp:0<10^v:=Xq ae;have hm:=Yz n hp
   have hZv:10^v<=Z:=by
    have:10^v<=10^9:=Z3 ae hv9;exact this
   have hnu:n/10^v<10^u:=Wr (by rw[hvw,Nat.add_comm,Yr]at hn;exact hn)
   have hval:n%10^v+Z*(n/10^v)=n:=by
    have:=Xn n (10^v);rcases huv with rfl|rfl
    .rw[Nat.pow_zero]at hnu;have h3:n/10^v=0:=Nat.lt_one_iff.1 hnu;rw[h3]at this ⊢;simpa using this
    .exact this
   have hdc:d.length<cap:=aa
   have ihh:=ih u aa (n/10^v) ((w:Int)-9) (d++[n%10^v]) (λh=>by rcases huv with h1|h1<;>omega) (λh=>by omega) aa e2 aa bb hcap hnu (hs.snoc (Z2 hm hZv)) (λd' h1 h2 h3=>hk d' h1 h2 (by
    rw[h3,KH,Zq,List.length_singleton,Nat.pow_succ,Nat.mul_assoc,Xk,<-Zl,hval]))
   have hr:=xu v (n%10^v) hm;have hall:=w5 v (n%10^v);have hlv:=bi v (n%10^v)
   have esl:slS (S T) (some (I u)) (some (I w))=some (S (dM (n%10^v) v)):=by
    rw[NM u w rfl rfl aa hwT,<-e1,List.drop_take]
   obtain⟨r,hre⟩:=mnQ (n%10^v);rw[hre]at esl hr hall hlv ihh;generalize dM r v=L at *
   have hli:∀h:Hp,fJ 1 [D.int .u64 0] [(0,U r)] h=some ([u6 r],h):=λh=>by
    simp[fJ,iS,kP,toD,u6]
   have hcell:(d++List.replicate (cap-d.length) 0).take d.length++[r]++(d++List.replicate (cap-d.length) 0).drop (d.length+1)=(d++[r])++List.replicate (cap-(d++[r]).length) 0:=by
    rw[Yb rfl]
    have:List.replicate (cap-d.length) 0=0::List.replicate (cap-d.length-1) 0:=by
     rw[<-List.replicate_succ];congr 1;omega
    rw[this,<-List.drop_drop,Wh rfl];rw[show cap-d.length-1=cap-(d++[r]).length by simp;omega];simp
   have hcl:(d++List.replicate (cap-d.length) 0).length=cap:=by simp;omega
   have ax:=Ra h (d++List.replicate (cap-d.length) 0);have gp:0<(w:Int):=aa;clear hk ih hval;refine ai ?_;simp(disch:=try exact af)[pK,gp,mxI,hu,esl];rw[adq];simp;refine lo (ZO (C0:=0) L aa hall _ _ _ rfl L [] rfl ?_);rw[hr];simp[hli];refine O4 ax hcl hdc ?_;rw[hcell,acj];simp(disch:=try exact af)[hh]
   simpa using ihh
theorem Vd{s by_:Nat}{z:D}{h:Hp}{i e:Nat}{b:Bk}{k:kkQ}{u:PU k}(hs:h[s]?=some (e,b))(hb:(by_:Int)*i<=281474976710656)(h1:(i:Int)<=9223372036854775807)
  (hk:k (.ref s (e+1) 0 0 i i) (h.set s (e+1,.data 1 (List.replicate i z) true false))):rh (mkS s by_ [z] h (.d (.int .i64 0)) (.d (.int .i64 i))) k u:=by unfold rh;simp only[mkS];rw[if_pos ⟨Int.le_refl _,aa,ac,hb,h1⟩];simp only[new,hs,EA,Y8,Int.toNat_natCast];exact hk
theorem tC(hu:(h.all λx=>az h.length x.2)=true){n:Nat}(hb:ndg n<900000000)(hcap:cap=ndg n/9+1):
  CI Y F.cY [S (ah n)] h (.new 1 ((bz cap n).map u6) true (dig Z n).length cap) h:=by
 refine GO ?_;have hl:=mA n;have hlT:(ah n).length=ndg n:=by rw[ah,bi]
 have e1:((ndg n:Nat):Int)/9+1=(cap:Int):=aa
 have e3:(h++[(1,Bk.data 1 (List.replicate cap (D.int IntKind.u64 0)) true false),nnQ,nnQ])=cuH h ([]++List.replicate (cap-([]:LnQ).length) 0):=by
  simp[cuH,u6]
 have e4:(h++[(0,Bk.none),(0,Bk.none),(0,Bk.none)]).set h.length (1,Bk.data 1 (List.replicate cap (D.int IntKind.u64 0)) true false)=cuH h ([]++List.replicate (cap-([]:LnQ).length) 0):=by
  simp[cuH,u6]
 have hcap2:cap<1000000000000:=aa;simp(disch:=try exact af)[cY,hl,Zr,e1];refine Vd (e:=0) (b:=.none) ac aa aa ?_;simp[hl]
 try rw[e4]
 try rw[e3]
 refine lo (ZN (ah n) cap aa _ _ (ack ..) (ndg n) n (ndg n) [] (λ_=>rfl) (λh=>by have:=lX n;omega) aa (by rw[<-hlT,Xj];rw[hlT];rfl) aa bb hcap2 (cJ n) (λx hx=>by cases hx) λd hs hdl hv=>?_);simp only[lh];have hv':val Z d=n:=by rw[hv];simp[val]
 obtain⟨o,ho⟩:=mnQ (d++List.replicate (cap-d.length) 0);have hol:o.length=cap:=by rw[<-ho];simp;omega
 have hos:aE Z o:=by
  rw[<-ho];exact hs.append λx hx=>by rw[Wd]at hx;rw[hx.2];exact bE
 have hov:val Z o=n:=by rw[<-ho,aaL,hv']
 rw[ho];have hfix:o=bz cap n:=by rw[<-hov,<-hol];exact Dx o hos
 have hu2:((cuH h o).all λx=>az (cuH h o).length x.2)=true:=by
  have hm:(h.all λx=>az (cuH h o).length x.2)=true:=O5 ac hu;rw[cuH,Y0,<-cuH,hm];rfl
 have htk:o.take d.length=d:=by rw[<-ho,Yb rfl]
 have tr:=tO hu2 (Ra h o) hol.symm (len:=d.length) (cap:=cap) (Z8 _) hcap2 hdl;rw[htk,<-rF aw hs,hv']at tr;refine gP tr ?_ ac;rw[<-hfix];refine⟨by simp[cuH],by simpa using hu,.inr (.inr (.inl ⟨h.length,1,_,cap,1,o.map u6,true,by simp[hol],Z8 _,by simp[ax,cuH],rfl⟩))⟩
variable{h:Hp}{s e tot:Nat}{l:LuQ}{ex fr:Bool}
theorem ix8(hg:h[s]?=some (e,.data 1 (l.map u8) ex fr))(ht:tot=l.length){i:Int}(h0:0<=i)(h1:i<len)(k:IntKind):ixV h 1 (.ref s e 0 len cap tot) (.d (.int k i))=some (.ptr s e i.toNat tot):=by grind[ixV,ee]
theorem ld8(hg:h[s]?=some (e,.data 1 (l.map u8) ex fr))(ht:tot=l.length)(hj:j<l.length):ld1 h (.ptr s e j tot)=some (.d (u8 (nth 0 l j))):=by
 have e1:tot=(l.map u8).length:=by simp[ht]
 grind[ld1,ee,cC]
theorem st8(hg:h[s]?=some (e,.data 1 (l.map u8) ex false))(ht:tot=l.length)(hj:j<l.length)(x:UInt8):st h 1 (.ptr s e j tot) (.d (u8 x))=some (h.set s (e,.data 1 ((l.set j x).map u8) ex false)):=by
 have e1:(l.map u8).take j++[u8 x]++(l.map u8).drop (j+1)=(l.set j x).map u8:=by
  rw[Wz,Yi,if_pos (by grind)];simp
 simp only[st,if_true,sto,ee hg,kP,toD];rw[if_pos ⟨trivial,by grind,by grind⟩];simp only[b6,List.length_singleton];rw[<-e1];rfl
theorem ap8{s' cap len:Nat}{x:UInt8}{q:kkQ}{u:PU q}(hg:h[s]?=some (e,.data 1 (l.map u8) ex false))(hold:l.length=cap)(hl:len<cap)
  (hq:q (.ref s e 0 (len+1) cap cap) (h.set s (e,.data 1 ((l.take len++[x]++l.drop (len+1)).map u8) ex false))):rh (apV false s' 1 1 (.ref s e 0 len cap cap) (.d (.sl 1 [u8 x])) h) q u:=by
 unfold rh apV;simp only[cellsOf];rw[if_pos ac];unfold apC;rw[if_neg aa];simp only[ee hg];rw[if_pos ⟨trivial,by grind,aa,by grind,ac⟩,if_pos aa]
 simp_all
def s8(h:Hp)(s e:Nat)(ex:Bool)(l:LuQ):Hp:=h.set s (e,.data 1 (l.map u8) ex false)
theorem UI{h:Hp}{s e:Nat}{ex:Bool}{l:LuQ}(hs:s<h.length):(s8 h s e ex l)[s]?=some (e,.data 1 (l.map u8) ex false):=by simp[s8,hs]
theorem UH{h:Hp}{s e:Nat}{ex:Bool}{l l':LuQ}:(s8 h s e ex l).set s (e,.data 1 (l'.map u8) ex false)=s8 h s e ex l':=by simp[s8]
@[simp]theorem ah0{h:Hp}{s e:Nat}{ex:Bool}{l:LuQ}:(s8 h s e ex l).length=h.length:=by simp[s8]
theorem VU{l:LuQ}{m n:Nat}{v:UInt8}(hm:m<l.length):nth 0 (l.set m v) n=if m=n then v else nth 0 l n:=by grind[nth]
theorem Vg{h:Hp}{s e tot:Nat}{ex:Bool}(hs:s<h.length){L:Nat}(hL:L<=tot)(htb:tot<1000000000000)(l0:LuQ)(k:KL)(h0:Hp)(hh:h0.length=h.length):
  ∀(r i:Nat)(l:LuQ),L<=2*i+r->2*i<=L+1->l.length=tot->(∀m,m<L->(m<i∨L-1-m<i)->nth 0 l m=nth 0 l0 (L-1-m))->(∀m,m<L->i<=m->i<=L-1-m->nth 0 l m=nth 0 l0 m)->(∀m,L<=m->nth 0 l m=nth 0 l0 m) ->
  (∀l':LuQ,l'.length=tot->(∀m,m<L->nth 0 l' m=nth 0 l0 (L-1-m))->(∀m,L<=m->nth 0 l' m=nth 0 l0 m)->k (.exit 0) [] (s8 h s e ex l')) ->
  lp (dL (CX Y) h.length (.ref s e 0 L cap tot)) [] h0 [I i,I ((L:Int)-1-i)] (s8 h s e ex l) k:=by
 intro r
 induction r with
 | zero=>
  intro i l hr hi hl h1 h2 h3 hk;refine ai ?_;have g:¬((i:Int)<(L:Int)-1-i):=aa;simp[dL,g];exact hk l hl (λm hm=>h1 m hm aa) h3
 | succ r ih=>
  intro i l hr hi hl h1 h2 h3 hk;by_cases g:i+i+1<L
  .obtain⟨j,hj⟩:=mnQ (L-1-i);have g':((i:Int)<(L:Int)-1-i):=aa;have ej:(L:Int)-1-i=(j:Int):=aa;have hgt:=UI (e:=e) (ex:=ex) (l:=l) hs;have a1:=ix8 hgt hl.symm (len:=L) (cap:=cap) (i:=(j:Int)) aa aa .i64;have a2:=ld8 hgt hl.symm (j:=j) aa;have b1:=ix8 hgt hl.symm (len:=L) (cap:=cap) (i:=(i:Int)) aa aa .i64
   have b2:=ld8 hgt hl.symm (j:=i) aa;have b3:=st8 hgt hl.symm (j:=i) aa (nth 0 l j);rw[UH]at b3;have hgt2:=UI (e:=e) (ex:=ex) (l:=l.set i (nth 0 l j)) hs;have c1:=ix8 hgt2 (by simpa using hl.symm) (len:=L) (cap:=cap) (i:=(j:Int)) aa aa .i64;have c3:=st8 hgt2 (by simpa using hl.symm) (j:=j) bb (nth 0 l i);rw[UH]at c3
   simp only[Int.toNat_natCast]at a1 b1 c1
   have nn:∀m,nth 0 ((l.set i (nth 0 l j)).set j (nth 0 l i)) m=if j=m then nth 0 l i else if i=m then nth 0 l j else nth 0 l m:=λm=>by
    rw[VU bb,VU aa]
   have ihh:=ih (i+1) ((l.set i (nth 0 l j)).set j (nth 0 l i)) aa aa (by simpa using hl) (λm hm hc=>by
    rw[nn];by_cases e1:j=m
    .rw[if_pos e1,h2 i aa (Z8 _) aa];congr 1;omega
    .rw[if_neg e1];by_cases e2:i=m
     .rw[if_pos e2,h2 j aa aa aa];congr 1;omega
     .rw[if_neg e2];exact h1 m hm aa) (λm hm hc hc2=>by
    rw[nn,if_neg aa,if_neg aa];exact h2 m hm aa aa) (λm hm=>by
    rw[nn,if_neg aa,if_neg aa];exact h3 m hm) hk
   have e2:(j:Int)-1=(L:Int)-1-((i+1:Nat):Int):=aa;rw[<-e2]at ihh;clear hk ih;refine ai ?_;rw[ej]at g' ⊢;simp(disch:=try exact af)[dL,g',a1,a2,b1,b2,b3,c1,c3];simpa[hh]using ihh
  .refine ai ?_;have g':¬((i:Int)<(L:Int)-1-i):=aa;simp[dL,g']
   exact hk l hl (λm hm=>by
    by_cases hc:m<i∨L-1-m<i
    .exact h1 m hm hc
    .rw[h2 m hm aa aa];congr 1;omega) h3
theorem ait{x y:LuQ}(hl:x.length=y.length)(h:∀c,c<x.length->nth 0 x c=nth 0 y c):x=y:=by grind[Wo,cC]
theorem aba{h:Hp}(hu:(h.all λx=>az h.length x.2)=true){s e tot:Nat}{ex:Bool}(hs:s<h.length){L:Nat}(hL:L<=tot)(htb:tot<1000000000000){l:LuQ}(hl:l.length=tot):
  CI Y F.bQ [.ref s e 0 L cap tot] (s8 h s e ex l) (.tup []) (s8 h s e ex ((l.take L).reverse++l.drop L)):=by
 refine rW ?_;simp(disch:=try exact af)[bQ];have e1:(L:Int)-1=(L:Int)-1-((0:Nat):Int):=aa;rw[e1]
 have:=Vg (h:=h) (s:=s) (e:=e) (ex:=ex) hs (cap:=cap) hL htb l (exK [(.exit 0,λl3 h_1=>od (List.length (s8 h s e ex l)) (.tup []) (s8 h s e ex ((l.take L).reverse++l.drop L)) (.tup []) h_1)]) (s8 h s e ex l) ac L 0 l aa aa hl (λm hm hc=>by omega) (λm _ _ _=>rfl) (λm _=>rfl) λl' hl' h1 h2=>by
  have hE:l'=(l.take L).reverse++l.drop L:=by
   refine ait (by grind) λc hc=>?_
   by_cases hcL:c<L
   .rw[h1 c hcL,cC _ _ _ aa,cC _ _ _ (by grind)]
    grind
   .rw[h2 c aa,cC _ _ _ aa,cC _ _ _ (by grind)]
    grind
  subst hE;simp only[lh];refine⟨(Zx ac).symm,?_,.inl ⟨rfl,rfl⟩⟩;rw[Zz]at hu ⊢;intro x hx;rcases Yk hx with h|h
  .simpa using hu x h
  .rw[h];rfl
 trivial
def tH(l:LuQ):Hp:=[(1,.data 1 (l.map u8) true false),nnQ,nnQ]
theorem T9(l:LuQ):(tH l)[0]?=some (1,.data 1 (l.map u8) true false):=rfl
@[simp]theorem ahS(l:LuQ):(tH l).length=3:=rfl
theorem T8(l l':LuQ):(tH l).set 0 (1,.data 1 (l'.map u8) true false)=tH l':=rfl
theorem Pm{p:LnQ}{i N:Nat}(hi:i<p.length)(hp:p.length<100000000)(hN:N<1000000000000)(k:KL)(h0:Hp)(hh:h0.length=3):∀(w j x:Nat)(bs:LuQ),
  (i+1<p.length∧j+w=9∨¬i+1<p.length∧j+w<=9∧x<10^w∧(0<w->10^(w-1)<=x))->x<1000000000->bs.length+w<=N ->
  k (.exit 2) [.ref 0 1 0 (bs.length+w) N N] (tH (bs++(dM x w).reverse++List.replicate (N-(bs.length+w)) 0)) ->
  lp (dd (CX Y) (lst u6 p) (I i)) [] h0 [.ref 0 1 0 bs.length N N,U x,I j] (tH (bs++List.replicate (N-bs.length) 0)) k
 | 0,j,x,bs=>by
  intro hc hx hb hk;have lp':aN (lst u6 p)=some (I p.length):=rfl;refine ai ?_;rcases hc with⟨g1,g2⟩|⟨g1,g2,g3,g4⟩
  .have g5:¬((j:Int)<9):=aa;simp[dd,g5]
   grind[dM]
  .have x0:x=0:=by simpa using g3
   subst x0;have g1':¬((i:Int)+1<(p.length:Int)):=aa;by_cases g5:(j:Int)<9
   .simp(disch:=try exact af)[dd,g5,lp',g1']
    grind[dM]
   .simp[dd,g5]
    grind[dM]
 | w+1,j,x,bs=>by
  intro hc hx hb hk;have lp':aN (lst u6 p)=some (I p.length):=rfl;have g5:(j:Int)<9:=aa;have hdg:u8 (dg (x%10))=.int .u8 (48+((x%10:Nat):Int)):=Pf (Yz _ ae);obtain⟨m,hm⟩:=mnQ (x%10);obtain⟨d,hd⟩:=mnQ (x/10);have e1:(x:Int)%10=(m:Int):=aa;have e2:(x:Int)/10=(d:Int):=aa;rw[hm]at hdg
  have hdec:(dM x (w+1)).reverse=dg m::(dM d w).reverse:=by rw[dM,hd,hm];simp
  have ih:=Pm hi hp hN k h0 hh w (j+1) d (bs++[dg m]) (by
   rcases hc with⟨g1,g2⟩|⟨g1,g2,g3,g4⟩
   .exact .inl ⟨g1,aa⟩
   .refine .inr ⟨g1,aa,?_,λhw=>?_⟩
    .omega
    .have:=g4 aa;rw[<-hd,Xd ae,<-Nat.pow_succ,show(w-1).succ=w+1-1 by omega];omega) aa (by grind) (by
   grind)
  have hcell:(bs++List.replicate (N-bs.length) 0).take bs.length++[dg m]++(bs++List.replicate (N-bs.length) 0).drop (bs.length+1)=(bs++[dg m])++List.replicate (N-(bs++[dg m]).length) 0:=by
   rw[Yb rfl]
   have:List.replicate (N-bs.length) (0:UInt8)=0::List.replicate (N-bs.length-1) 0:=by
    rw[<-List.replicate_succ];congr 1;omega
   rw[this,<-List.drop_drop,Wh rfl];rw[show N-bs.length-1=N-(bs++[dg m]).length by grind];simp
  have hcl:(bs++List.replicate (N-bs.length) 0).length=N:=by simp;omega
  have hli:∀h:Hp,fJ 1 [D.int .u8 0] [(0,.d (.int .u8 (48+(m:Int))))] h=some ([u8 (dg m)],h):=λh=>by
   simp_all[fJ,iS,kP,toD]
  have hx0:¬i+1<p.length->0<(x:Int):=λh=>by
   grind
  clear hk;refine ai ?_;by_cases g1:(i:Int)+1<(p.length:Int)
  .simp(disch:=try exact af)[dd,g5,lp',g1,Zt,Zr,e1,e2,hli];refine ap8 (T9 _) hcl aa ?_;rw[hcell];simp only[T8];simp(disch:=try exact af)[Zt,Zr,e2]
   simp_all
  .have g3:=hx0 aa;simp(disch:=try exact af)[dd,g5,lp',g1,g3,Zt,Zr,e1,e2,hli];refine ap8 (T9 _) hcl aa ?_;rw[hcell];simp only[T8];simp(disch:=try exact af)[Zt,Zr,e2]
   simp_all
theorem agL{l:LuQ}{L:Nat}(hl:l.length=N)(hL:L<=N):cvT (tH l) (.ref 0 1 0 L N N)=some (S (l.take L)):=by simp only[cvT,cellsOf,tH,ax];simp[hl,hL,<-List.map_take,BU]
def txS(p:LnQ)(i:Nat):LuQ:=if i<p.length then(dM (val Z (p.take i)) (9*i)).reverse else(ah (val Z p)).reverse
theorem Pi{p:LnQ}(hp:aE Z p)(hne:p≠[])(i:Nat)(hi:i<=p.length):(txS p i).length<=9*p.length:=by
 unfold txS;split
 .simp[bi];omega
 .have h1:=jN (B:=Z) bE hp;rw[AB]at h1;have:=dG h1 (by have:=W5.2 hne;omega);simp[ah,bi];exact this
theorem TQ{p:LnQ}(hp:aE Z p)(hn:AC p){i:Nat}(hi:i<p.length):
  ∃w,(i+1<p.length∧0+w=9∨¬i+1<p.length∧0+w<=9∧nth 0 p i<10^w∧(0<w->10^(w-1)<=nth 0 p i))∧txS p (i+1)=txS p i++(dM (nth 0 p i) w).reverse:=by
 obtain⟨x,hx⟩:=mnQ (nth 0 p i);have hxZ:x<Z:=by rw[<-hx];exact hp.getD bE i
 have hv:=xW (B:=Z) p hi;rw[show p.getD i 0=x from hx]at hv;have hlow:=jN (B:=Z) bE (hp.take i);rw[Zp,Yo aa]at hlow;rw[AB]at hlow hv;obtain⟨r,hr⟩:=mnQ (val Z (p.take i));rw[hr]at hlow hv;rw[hx];by_cases hl:i+1<p.length
 .refine⟨9,.inl ⟨hl,rfl⟩,?_⟩;have hpp:0<10^(9*i):=Xq ae;rw[txS,if_pos hl,txS,if_pos hi,hr,hv,show 9*(i+1)=9+9*i by omega,An,Ye _ _ hpp,W4 hlow,Zj,Al,List.reverse_append]
 .have hip:i+1=p.length:=aa
  have hx0:0<x:=by
   have hne:p≠[]:=λe=>by rw[e]at hi;simp at hi
   have:=hn hne;rw[List.getLast_eq_getElem]at this;rw[<-hx,cC _ _ _ hi];have e:p.length-1=i:=aa;simp only[e]at this;omega
  refine⟨ndg x,.inr ⟨hl,?_,cJ x,λ_=>Bl x hx0⟩,?_⟩
  .have:ndg x<=9:=dG (by simp only[Z]at hxZ;omega) ae;omega
  .rw[txS,if_neg hl,txS,if_pos hi,hr]
   have hval:val Z p=r+10^(9*i)*x:=by
    have:p.take (i+1)=p:=Zx aa;rw[<-hv,this]
   rw[hval,SP hx0 hlow,List.reverse_append];rfl
theorem Pn{p:LnQ}(hp:aE Z p)(hn:AC p)(hne:p≠[])(hpl:p.length<100000000)(k:KL)(h0:Hp)(hh:h0.length=3){N:Nat}(hN:N=9*p.length) :
  ∀(r i:Nat),i+r=p.length->k (.exit 0) [.ref 0 1 0 (txS p p.length).length N N] (tH (txS p p.length++List.replicate (N-(txS p p.length).length) 0)) ->
  lp (iY (CX Y) (lst u6 p) (lst u6 p) (I p.length)) [] h0 [.ref 0 1 0 (txS p i).length N N,I i] (tH (txS p i++List.replicate (N-(txS p i).length) 0)) k
 | 0,i=>by
  intro hi hk;have:i=p.length:=aa;subst this;refine ai ?_;simp[iY];exact hk
 | r+1,i=>by
  intro hi hk;have hil:i<p.length:=aa;obtain⟨w,hw,hst⟩:=TQ hp hn hil;have ih:=Pn hp hn hne hpl k h0 hh hN r (i+1) aa hk;have hlen2:=Pi hp hne (i+1) aa;rw[hst]at ih hlen2;have hlw:(txS p i++(dM (nth 0 p i) w).reverse).length=(txS p i).length+w:=by simp[bi]
  rw[hlw]at ih hlen2;have e1:=λh:Hp=>oO u6 p h (k:=.i64) (i:=(i:Int)) aa aa
  have e2:=λh:Hp=>Fe p h (j:=i) hil
  simp only[Int.toNat_natCast]at e1;have hxZ:nth 0 p i<1000000000:=by have:=hp.getD bE i;simp only[Z]at this;exact this
  refine ai ?_;simp(disch:=try exact af)[iY,e1,e2];refine lo (Pm hil hpl aa _ _ rfl w 0 (nth 0 p i) (txS p i) hw hxZ aa ?_);simp(disch:=try exact af)[hh];simpa using ih
theorem dW:ah 0=[48]:=by rw[ah,show ndg 0=1 by unfold ndg;simp];rfl
theorem xg{n:Nat}(hb:(dig Z n).length<100000000):CP Y F.aK [pcs n] (S (ah n)):=by
 refine vK ?_;obtain⟨p,hp⟩:=mnQ (dig Z n);have hs:aE Z p:=by rw[<-hp];exact cE aw n
 have hno:AC p:=by rw[<-hp];exact FP aw n
 have hv:val Z p=n:=by rw[<-hp];exact iO aw n
 rw[pcs,hp];rw[hp]at hb;have lP:aN (lst u6 p)=some (I p.length):=rfl;by_cases hne:p=[]
 .subst hne;have:n=0:=by rw[<-hv];rfl
  subst this;simp[aK,lP];exact fA dW.symm
 .have hpos:=W5.2 hne;obtain⟨N,hN⟩:=nmQ (9*p.length);have e9:(9:Int)*(p.length:Int)=(N:Int):=aa;have g1:¬((p.length:Int)=0):=aa;have g2:¬(p.length=0):=aa;have t0:txS p 0=[]:=by rw[txS,if_pos hpos];simp[dM,val]
  have tl:txS p p.length=(ah n).reverse:=by rw[txS,if_neg aa,hv]
  have hln:=Pi hs hne p.length (Z8 _);rw[tl,List.length_reverse]at hln;simp(disch:=try exact af)[aK,lP,g1,g2,hne,e9];refine Vd (e:=0) (b:=.none) rfl aa aa ?_;simp[lP]
  have hz:[(1,Bk.data 1 (List.replicate N (D.int IntKind.u8 0)) true false),nnQ,nnQ]=tH (txS p 0++List.replicate (N-(txS p 0).length) 0):=by
   rw[t0];simp[tH,u8]
  have main:=Pn hs hno hne hb (exK [(.exit 0,λl7 h=>
   cai (CX Y).i h (.fn F.bQ [] []) [(ge l7 0)] 2 λv8 h=>
   bnd (cvT h (ge l7 0)) λv9=>
   out (S (ah n)) v9 h)]) (tH (txS p 0++List.replicate (N-(txS p 0).length) 0)) rfl hN p.length 0 aa (by
   simp only[lh,tl,List.length_reverse,QK];obtain⟨l,hl⟩:=mnQ ((ah n).reverse++List.replicate (N-(ah n).length) 0);have hll:l.length=N:=by rw[<-hl];simp;omega
   rw[hl];have rv:=aba (h:=tH l) rfl (s:=0) (e:=1) (ex:=true) ac (L:=(ah n).length) (cap:=N) (tot:=N) aa aa hll
   have hl2:(l.take (ah n).length).reverse++l.drop (ah n).length=ah n++List.replicate (N-(ah n).length) 0:=by
    rw[<-hl,Yb ac,Wh ac,List.reverse_reverse]
   rw[hl2]at rv;refine gP rv ?_ ac
   show bnd (cvT (tH _) _) _
   rw[agL bb aa,Yb rfl];exact fA rfl)
  rw[t0]at main hz;rw[hz];exact main
theorem Ip(a b:LnQ)(hab:a.length=b.length)(hs:a.length<1000000000)(k:KL):∀i:Nat,i<=a.length->(Oc a b i=0->k (.exit 0) [] [])->(Oc a b i≠0->k .ret [I (Oc a b i)] []) ->
  lp (cZ (CX Y) (lst u6 a) (lst u6 b)) [] [] [I ((i:Int)-1)] [] k
 | 0,_,h0,_=>by
  refine ai ?_;simp[cZ];exact h0 rfl
 | i+1,hi,h0,h1=>by
  have e1:=λh:Hp=>oO u6 a h (k:=.i64) (i:=(i:Int)) aa aa
  have e2:=λh:Hp=>Fe a h (j:=i) aa
  have e3:=λh:Hp=>oO u6 b h (k:=.i64) (i:=(i:Int)) aa aa
  have e4:=λh:Hp=>Fe b h (j:=i) aa
  simp only[Int.toNat_natCast]at e1 e3;obtain⟨x,hx⟩:=mnQ (nth 0 a i);obtain⟨y,hy⟩:=mnQ (nth 0 b i);rw[hx]at e2;rw[hy]at e4;simp only[Oc,show a.getD i 0=x from hx,show b.getD i 0=y from hy]at h0 h1;have ei:((i+1:Nat):Int)-1=(i:Int):=aa;refine ai ?_;rw[ei];by_cases g1:x<y
  .have g1':(x:Int)<(y:Int):=aa;rw[if_pos g1]at h1;simp[cZ,e1,e2,e3,e4,g1'];exact h1 ae
  .rw[if_neg g1]at h0 h1;have g1':¬(x:Int)<(y:Int):=aa;by_cases g2:y<x
   .have g2':(y:Int)<(x:Int):=aa;rw[if_pos g2]at h1;simp[cZ,e1,e2,e3,e4,g1',g2'];exact h1 ae
   .have g2':¬(y:Int)<(x:Int):=aa;rw[if_neg g2]at h0 h1;have:=Ip a b hab hs k i aa h0 h1;simp(disch:=try exact af)[cZ,e1,e2,e3,e4,g1',g2'];simpa using this
theorem acm(ha:(dig Z a).length<1000000000)(hb:(dig Z b).length<1000000000):CP Y F.cx [pcs a,pcs b] (I (cmp a b)):=by
 refine tv ?_;have la:aN (pcs a)=some (I (dig Z a).length):=rfl;have lb:aN (pcs b)=some (I (dig Z b).length):=rfl;by_cases hl:(dig Z a).length=(dig Z b).length
 .have ho:=P8 bE (cE aw a) (cE aw b) (dig Z a).length (Z8 _) aa;rw[Xj,hl,Xj,iO aw,iO aw,<-hl]at ho;have hli:((dig Z a).length:Int)=((dig Z b).length:Int):=aa;simp(disch:=try exact af)[cx,la,lb,hl];refine lo (show lp _ _ _ _ _ _ from ?_);rw[<-hli]
  refine Ip (dig Z a) (dig Z b) hl ha _ _ (Z8 _) (λh0=>?_) (λh0=>?_)
  .simp only[lh];exact aW (by rw[<-ho,h0])
  .simp only[Ah,Dy,QK];exact aW (by rw[ho])
 .have hli:¬((dig Z a).length:Int)=((dig Z b).length:Int):=aa;rcases Zg (dig Z a).length (dig Z b).length with h|h
  .have:=J3 aw (m:=a) (n:=b) h;have e:cmp a b = -1:=by simp[cmp,this]
   have e2:mx2 false 1 (mx2 true (-1) (((dig Z a).length:Int)-((dig Z b).length:Int))) = -1:=by simp[mx2];omega
   simp(disch:=try exact af)[cx,la,lb,hl,mxI,e2];exact aW (by rw[e])
  .have:=J3 aw (m:=b) (n:=a) aa;have e:cmp a b=1:=by unfold cmp;rw[if_neg aa,if_pos this]
   have e2:mx2 false 1 (mx2 true (-1) (((dig Z a).length:Int)-((dig Z b).length:Int)))=1:=by simp[mx2];omega
   simp(disch:=try exact af)[cx,la,lb,hl,mxI,e2];exact aW (by rw[e])
theorem B7(h:Hp)(l:LuQ):cF h (S l)=some (S l,h):=rfl
theorem Q6{n:Nat}(h:ndg n<=d)(hd:d<90000000):(dig Z n).length<100000000:=by have h1:=cJ n;have h2:n<Z^d:=Z2 h1 (by rw[AB];exact Z3 ae aa);have:=iX h2;omega
theorem xz(hb:0<b)(ha:ndg a<1000000)(hbd:ndg b<1000000):CP Y F.dZ [S (ah a),S (ah b)] (.tup [S (ah (a/b)),S (ah (a%b)),I 0]):=by
 refine BO ?_
 have hne:¬ah b=[48]:=by
  rw[<-dW];intro e;have:=congrArg (fL 0) e;rw[dY,dY]at this;omega
 have hla:=Q6 (Nat.le_of_lt ha) ae;have hlb:=Q6 (Nat.le_of_lt hbd) ae;have bo:=DL a b;simp[dZ,hne];by_cases h18:ndg a<=18∧ndg b<=18
 .rw[if_pos h18]at bo;have ha2:a<1000000000000000000:=by have:=cJ a;have:=Z3 (n:=10) ae h18.1;omega
  refine cd bo ?_;obtain⟨q,hq⟩:=mnQ (a/b);obtain⟨r,hr⟩:=mnQ (a%b);have hqa:q<=a:=by rw[<-hq];exact Yu ..
  have hra:r<=a:=by rw[<-hr];exact Nat.mod_le ..
  have e1:(a:Int)/(b:Int)=(q:Int):=by rw[<-hq];simp
  have e2:(a:Int)%(b:Int)=(r:Int):=by rw[<-hr];simp
  have hb0:¬((b:Int)=0):=aa;have hb0':¬(b=0):=aa;rw[hq,hr];simp(disch:=try exact af)[hb0,hb0',Zr,Zt,e1,e2];refine cd (Bf (n:=q) aa) ?_;simp[hb0,hb0',Zr,Zt,e1,e2];refine cd (Bf (n:=r) aa) ?_;exact jz (B7 _ _) (B7 _ _) rfl
 .rw[if_neg h18]at bo;refine cd bo ?_;obtain⟨ca,hca⟩:=nmQ (ndg a/9+1);obtain⟨cb,hcb⟩:=nmQ (ndg b/9+1);have ltA:a<Z^ca:=Z2 (cJ a) (by rw[AB];exact Z3 ae aa);have ltB:b<Z^cb:=Z2 (cJ b) (by rw[AB];exact Z3 ae aa)
  have cA:=tC (h:=[nnQ,nnQ]) rfl (n:=a) aa hca;have lA:(bz ca a).length=ca:=dj ..;have lB:(bz cb b).length=cb:=dj ..;have cB:=tC (h:=[(1,.data 1 ((bz ca a).map u6) true false),nnQ]) rfl (n:=b) aa hcb;simp;refine om (gA (e:=0) (b:=.none) cA rfl ?_);rw[List.length_map,lA];simp
  refine om (gA (e:=0) (b:=.none) cB rfl ?_);rw[List.length_map,lB];simp;have sA:=wj (h:=[(1,.data 1 ((bz ca a).map u6) true false),(1,.data 1 ((bz cb b).map u6) true false)]) (s:=0) rfl lA.symm (len:=(dig Z a).length) (cap:=ca) (iX ltA) (Z8 _)
  have sB:=wj (h:=[(1,.data 1 ((bz ca a).map u6) true true),(1,.data 1 ((bz cb b).map u6) true false)]) (s:=1) rfl lB.symm (len:=(dig Z b).length) (cap:=cb) (iX ltB) (Z8 _);rw[nN ltA]at sA;rw[nN ltB]at sB;simp only[List.set_cons_zero,List.set_cons_succ]at sA sB
  have sAB:aO [(1,.data 1 ((bz ca a).map u6) true false),(1,.data 1 ((bz cb b).map u6) true false)] [.ref 0 1 0 (dig Z a).length ca ca,.ref 1 1 0 (dig Z b).length cb cb]=some ([pcs a,pcs b],[(1,.data 1 ((bz ca a).map u6) true true),(1,.data 1 ((bz cb b).map u6) true true)]):=by
   simp only[aO,sA,sB];rfl
  refine cdz sAB (acm (a:=a) (b:=b) aa aa) ?_;rw[show cI (I (cmp a b))=true from rfl,if_pos rfl];by_cases hab:a<b
  .have hc:cmp a b = -1:=by simp[cmp,hab]
   rw[W4 hab,X9 hab,dW];simp[hc];exact jz (B7 _ _) (B7 _ _) rfl
  .have hc:¬cmp a b<0:=by unfold cmp;rw[if_neg hab];split<;>decide
   have hlen:(dig Z b).length<=(dig Z a).length:=by
    rcases Zg (dig Z a).length (dig Z b).length with h|h
    .exact absurd (J3 aw h) hab
    .exact h
   have lq:(dig Z (a/b)).length<100000000:=by
    have:a/b<=a:=Yu ..;have:=iX (Ze this ltA);omega
   have lr:(dig Z (a%b)).length<100000000:=by
    have:a%b<=a:=Nat.mod_le ..;have:=iX (Ze this ltA);omega
   by_cases h1:(dig Z b).length=1
   .have hbZ:b<Z:=by have:=wL b;rw[h1,Nat.pow_one]at this;exact this
    obtain⟨cb',hcb'⟩:∃c,cb=c+1:=⟨cb-1,aa⟩;have hn0:nth 0 (bz cb b) 0=b:=by rw[hcb',bz];simp[nth,X9 hbZ]
    have r1:=CJ (h:=[(1,.data 1 ((bz ca a).map u6) true false),(1,.data 1 ((bz cb b).map u6) true false)]) (s:=1) rfl lB.symm (len:=1) (cap:=cb) (i:=0) aa aa .i64;have r2:=JG (h:=[(1,.data 1 ((bz ca a).map u6) true false),(1,.data 1 ((bz cb b).map u6) true false)]) (s:=1) rfl lB.symm (j:=0) aa;rw[hn0]at r2
    have r1':ixV [(1,Bk.data 1 ((bz ca a).map u6) true false),(1,.data 1 ((bz cb b).map u6) true false)] 1 (.ref 1 1 0 1 cb cb) (I 0)=some (.ptr 1 1 0 cb):=r1;simp[hc,h1,r1',r2];refine cdz (ds:=[pcs a,U b]) (h':=[(1,.data 1 ((bz ca a).map u6) true true),(1,.data 1 ((bz cb b).map u6) true false)]) (by simp only[aO,sA,zd];rfl) (Hv (a:=a) (n:=b) aa hb aa) ?_
    rw[show cI (.tup [pcs (a/b),U (a%b:Nat)])=false from rfl];simp;refine cd (args:=[pcs (a/b)]) (xg lq) ?_ (by simp[aO,pcs]);simp;refine cd (Bf (n:=a%b) (by have:=Yz a hb;simp only[Z]at hbZ;omega)) ?_;exact jz (B7 _ _) (B7 _ _) rfl
   ·have h0:(dig Z b).length≠0:=λe=>by
     have:=wL b;rw[e]at this;simp at this;omega
    have h1i:¬((dig Z b).length:Int)=1:=aa;simp[hc,h1,h1i];refine cdz sAB (OK (P:=a) (Q:=b) aa hlen (by have:=iX ltA;omega)) ?_;rw[show cI (.tup [pcs (a/b),pcs (a%b)])=false from rfl];simp;refine cd (args:=[pcs (a/b)]) (xg lq) ?_ (by simp[aO,pcs]);simp;refine cd (args:=[pcs (a%b)]) (xg lr) ?_ (by simp[aO,pcs])
    exact jz (B7 _ _) (B7 _ _) rfl
def rdT(s:LuQ):LuQ:=if s.headD 0=45 then s.tail else s
def rdN(s:LuQ):Bool:=decide (s.headD 0=45)
def rd(s:LuQ):Option Int:=if(rdT s).length<=400 then rdS s else none
theorem ac9(s:LuQ):rd s=if(rdT s).length<=400∧rdT s≠[]∧¬((rdT s).headD 0=48∧(1<(rdT s).length∨rdN s=true))∧(rdT s).all qh=true then some (if rdN s=true then -(fL 0 (rdT s):Int)else(fL 0 (rdT s):Int))else none:=by
 unfold rd rdS
 have hcan:∀t:LuQ,qH t=true↔t≠[]∧t.all qh=true∧¬(1<t.length∧t.headD 0=48):=λt=>by
  simp[qH,and_assoc];intro _ _;constructor
  .rintro(h|h) g
   .omega
   omega
  .intro h;by_cases g:1<t.length
   .grind
   .exact .inl aa
 by_cases h:s.headD 0=45
 .have e1:rdT s=s.tail:=by unfold rdT;rw[if_pos h]
  have e2:rdN s=true:=by unfold rdN;simpa using h
  rw[e1,e2,if_pos h];generalize s.tail=t;by_cases h1:t.length<=400
  .simp only[h1,if_true,true_and,hcan];by_cases h2:t≠[]∧¬(t.headD 0=48∧(1<t.length∨True))∧t.all qh=true
   .grind
   .rw[if_neg h2,if_neg];rintro⟨⟨a,b,c⟩,d⟩;refine h2 ⟨a,λx=>?_,b⟩;by_cases g:1<t.length
    .grind
    .apply d;cases t with
     |nil=>trivial
     | cons y t=>
      grind
  grind
 .have e1:rdT s=s:=by unfold rdT;rw[if_neg h]
  have e2:rdN s=false:=by unfold rdN;simpa using h
  grind
theorem Vj{s:LuQ}(h:rd s=some z):z.natAbs<10^400:=by
 rw[ac9]at h;split at h
 .rename_i hc;simp only[Z9]at h;have hi:=t6 (rdT s) 0 hc.2.2.2;have:fL 0 (rdT s)<10^400:=Z2 hi (by set_option exponentiation.threshold 1000 in rw[Zj,W8];exact Z3 ae hc.1)
  have hz:z.natAbs=fL 0 (rdT s):=by
   rw[<-h];split<;>simp
  rw[hz];exact this
 .cases h
def rdF(a b:LuQ):Option (Int×Nat):=match rd a,rd b with
 |some n,some d=>if 0<d∧Nat.gcd n.natAbs d.natAbs=1 then some (n,d.natAbs)else none
 |_,_=>none
theorem cG(h:a<=b):ndg a<=ndg b:=dG (Ze h (cJ b)) (lX b)
theorem SZ(k:KL):∀(b a:Nat),ndg a<1000000->ndg b<1000000->k (.exit 0) [S (ah (Nat.gcd a b))] []->lp (pL (CX Y)) [] [] [S (ah a),S (ah b)] [] k:=by
 intro b
 induction b using Nat.strongRecOn with
 | _ b ih=>
  intro a ha hb hk;by_cases h0:b=0
  .subst h0;rw[Nat.gcd_zero_right]at hk;refine ai ?_;rw[dW];simp[pL];exact hk
  .have hbp:0<b:=aa
   have hne:¬ah b=[48]:=by
    rw[<-dW];intro e;have:=congrArg (fL 0) e;rw[dY,dY]at this;omega
   have hm:=Yz a hbp
   have hk2:=ih (a%b) hm b hb (Ze (cG (Nat.le_of_lt hm)) hb) (by
    rw[V9 b,<-Nat.gcd_rec,V9 b];exact hk)
   refine ai ?_;simp[pL,hne];refine cd (xz hbp ha hb) ?_;simp;exact hk2
theorem QM(ha:ndg a<1000000)(hb:ndg b<1000000):CP Y F.nA [S (ah a),S (ah b)] (S (ah (Nat.gcd a b))):=by refine GW ?_;simp[nA];refine lo (SZ _ b a ha hb ?_);simp;exact fA rfl
theorem SY(k:KL):∀(b a:Nat),a<1000000000000000000->b<1000000000000000000->k (.exit 0) [I (Nat.gcd a b:Nat)] []->lp (qW (CX Y)) [] [] [I a,I b] [] k:=by
 intro b
 induction b using Nat.strongRecOn with
 | _ b ih=>
  intro a ha hb hk;by_cases h0:(b:Int)=0
  .have:b=0:=aa;subst this;rw[Nat.gcd_zero_right]at hk;refine ai ?_;simp[qW];exact hk
  .have hbp:0<b:=aa;have hm:=Yz a hbp
   have hk2:=ih (a%b) hm b hb aa (by
    rw[V9 b,<-Nat.gcd_rec,V9 b];exact hk)
   have h0':¬b=0:=aa;have e2:(a:Int)%(b:Int)=((a%b:Nat):Int):=ac;obtain⟨r,hr⟩:=mnQ (a%b);rw[hr]at hk2 e2;refine ai ?_;simp[qW,h0,h0',Zt,e2];exact hk2
theorem ab1(ha:a<1000000000000000000)(hb:b<1000000000000000000):CP Y F.rI [I a,I b] (I (Nat.gcd a b:Nat)):=by refine Ky ?_;simp[rI];refine lo (SY _ b a ha hb ?_);simp only[lh];exact aW rfl
theorem Oe{n:Nat}(h:n<9223372036854775808):CP Y F.dK [I n] (S (ah n)):=by
 refine DV ?_;simp[dK];have e:itoa (n:Int)=ah n:=by unfold itoa;rw[if_neg aa];rfl
 refine cd (Dt (z:=n) aa aa) ?_;rw[e]
 try simp(disch:=try exact af)
 exact fA rfl
theorem E6(a:Nat):CP Y F.bF [S (ah a),I 18] (if ndg a<=18 then .tup [I a,B true]else .tup [I 0,B false]):=by
 refine rQ ?_;have la:=mA a;by_cases h:18<ndg a
 .rw[if_neg aa];simp(disch:=try exact af)[bF,la,h];exact bU rfl rfl
 .rw[if_pos aa];have ap:=Kh (n:=a) (lX a) aa (cJ a);have en:biF .eql (.d (.pl .nilIface)) (.d (.pl .nilIface))=some (.d (.bool true)):=rfl;simp(disch:=try exact af)[bF,la,h];refine cd (args:=[S (ah a)]) ap ?_;simp[en];exact bU rfl rfl
theorem rU(s:LuQ):CP Y F.aL [S s] (.tup [B (rdN s),S (rdT s)]):=by
 refine Gj ?_;cases s with
 | nil=>
  simp[aL];exact bU rfl rfl
 | cons c t=>
  have hix:ixS (S (c::t)) (.d (.int .i64 0))=some (.d (.int .u8 c.toNat)):=rfl;by_cases h:c=45
  .subst h;have e:((45:UInt8).toNat:Int)=45:=rfl;simp(disch:=try exact af)[aL,hix,e];exact bU rfl rfl
  .have e:¬(c.toNat:Int)=45:=λg=>h (by apply UInt8.toNat.inj;simpa using(by omega:c.toNat=45))
   have e1:rdT (c::t)=c::t:=by simp[rdT,h]
   have e2:rdN (c::t)=false:=by simp[rdN,h]
   rw[e1,e2];simp[aL,hix,e];exact bU rfl rfl
theorem Iw(l:LuQ)(hl:l.length<1000000000)(k:KL):∀(q p:LuQ),p++q=l->(q.all qh=true->k (.exit 0) [] [])->(q.all qh=false->k .ret [B false] [])->lp (fG (CX Y) (lst u8 l) (I l.length)) [] [] [I p.length] [] k
 | []=>by
  intro p hp h0 h1;simp at hp;subst hp;refine ai ?_;simp[fG];exact h0 rfl
 | c::q=>by
  intro p hp h0 h1;have hpl:p.length<l.length:=by subst hp;simp
  have hc:nth 0 l p.length=c:=by subst hp;simp
  have e1:=λh:Hp=>oO u8 l h (k:=.i64) (i:=(p.length:Int)) aa aa
  have e2:=λh:Hp=>eX u8 0 l h (j:=p.length) hpl
  rw[hc]at e2;simp only[Int.toNat_natCast]at e1;have ih:=Iw l hl k q (p++[c]) (by simpa using hp);refine ai ?_;by_cases g1:(c.toNat:Int)<48
  .have g3:qh c=false:=by rw[Bool.eq_false_iff];intro h;rw[mi]at h;omega
   simp(disch:=try exact af)[fG,e1,e2,u8,g1];exact h1 (by simp[g3])
  .by_cases g2:(57:Int)<c.toNat
   .have g3:qh c=false:=by rw[Bool.eq_false_iff];intro h;rw[mi]at h;omega
    simp(disch:=try exact af)[fG,e1,e2,u8,g1,g2];exact h1 (by simp[g3])
   .have g3:qh c=true:=by rw[mi];omega
    have:=ih (λh=>h0 (by simp[g3];simpa using h)) (λh=>h1 (by simp only[List.all_cons,h,Wa]));simp(disch:=try exact af)[fG,e1,e2,u8,g1,g2];simpa using this
theorem aco(l:LuQ)(hl:l.length<1000000000):CP Y F.iD [S l] (B (qH l)):=by
 refine xU ?_;unfold iD
 show cvB (S l) _ _
 rw[adq];have lL:oe (S l)=some (I l.length):=rfl;simp;refine lo (Iw l hl _ l [] rfl (λe=>?_) (λe=>?_))
 .simp only[lh];cases l with
  | nil=>
   simp[lL];exact iq (by simp[qH])
  | cons c t=>
   have hix:ixS (S (c::t)) (.d (.int .i64 0))=some (.d (.int .u8 c.toNat)):=rfl;cases t with
   | nil=>
    simp[lL];exact iq (by simp[qH]at e ⊢;exact e)
   | cons d t=>
    obtain⟨N,hN⟩:∃N,(c::d::t).length=N:=⟨_,rfl⟩;have hN2:2<=N:=by rw[<-hN];simp only[List.length_cons];omega
    rw[hN]at lL;have g2:(1:Int)<(N:Int):=aa;have g3:¬(N:Int)=1:=aa;by_cases h:c=48
    .subst h;have e48:((48:UInt8).toNat:Int)=48:=rfl;simp[lL,g2,g3,hix,e48];exact iq (by simp[qH])
    .have e48:¬(c.toNat:Int)=48:=λg=>h (by apply UInt8.toNat.inj;simpa using(by omega:c.toNat=48))
     simp[lL,g2,g3,hix,e48]
     exact iq (by
      have:qH (c::d::t)=true:=by simp only[qH,e];simp[h]
      exact this.symm)
 .simp only[Ah,Dy];exact iq (by simp only[qH,e,Wa,Bool.false_and])
theorem Tq(l:LuQ)(hl:l.length<1000000000):CP Y F.kD [S l] (I (if qH l=true∧l.length<=400 then 0 else 2)):=by
 refine CW ?_;have lL:oe (S l)=some (I l.length):=rfl;obtain⟨N,hN⟩:=mnQ (l.length);rw[hN]at lL ⊢;simp[kD];refine cd (aco l hl) ?_;cases hc:qH l with
 | false=>
  simp<;>exact aW ac
 | true=>
  by_cases h:(400:Int)<N
  .simp[lL,h]<;>exact aW (by rw[if_neg aa])
  .have h2:true=true∧N<=400:=⟨rfl,aa⟩;simp[lL,h]<;>exact aW (by rw[if_pos h2.2])
theorem Sl(s:LuQ):(rd s).isSome=(!(rdN s&&decide (rdT s=[48]))&&(qH (rdT s)&&decide ((rdT s).length<=400))):=by
 unfold rd rdS rdN rdT;by_cases h45:s.headD 0=45
 .simp only[h45,if_true];obtain⟨t,ht⟩:=mnQ (s.tail);rw[ht];by_cases hl:t.length<=400
  .by_cases h48:t=[48]
   .simp[h48]
   .cases hc:qH t<;>simp[hl,h48]
  .simp[hl]
 .simp only[h45,if_false];by_cases hl:s.length<=400
  .cases hc:qH s<;>simp[hl]
  .simp[hl]
theorem Iq(s:LuQ)(hs:s.length<1000000000):CP Y F.mX [S s] (I (if(rd s).isSome then 0 else 2)):=by
 refine Gm ?_
 have hT:(rdT s).length<1000000000:=by
  unfold rdT;split
  .have:s.tail.length=s.length-1:=List.length_tail;omega
  .exact hs
 rw[Sl];simp[mX];refine cd (rU s) ?_;have hck:=Tq (rdT s) hT;obtain⟨t,ht⟩:=mnQ (rdT s);rw[ht]at hck ⊢;obtain⟨c4,hc4⟩:∃c4,(qH t&&decide (t.length<=400))=c4:=⟨_,rfl⟩
 have hck2:CP Y F.kD [S t] (I (if c4=true then 0 else 2)):=by
  have:(if qH t=true∧t.length<=400 then(0:Int)else 2)=if c4=true then 0 else 2:=by
   rw[<-hc4];by_cases h:qH t=true∧t.length<=400
   .rw[if_pos h];simp[h]
   .rw[if_neg h];rw[if_neg (by simpa using h)]
  rw[<-this];exact hck
 rw[hc4];cases hn:rdN s with
 | true=>
  by_cases h3:t=[48]
  .simp[h3]<;>exact aW ac
  .simp[h3];refine cd hck2 ?_;cases c4 with
   |true=>simp[h3]<;>exact aW (by simp[h3])
   |false=>simp[h3]<;>exact aW (by simp[h3])
 | false=>
  simp;refine cd hck2 ?_;cases c4 with
  |true=>simp<;>exact aW ac
  |false=>simp<;>exact aW ac
theorem sj(z:Int):rdT (itoa z)=ah z.natAbs:=by
 unfold itoa rdT;split
 .simp
 .rw[if_neg (sk _)]
theorem AA(z:Int):CP Y F.gE [S (itoa z)] (S (ah z.natAbs)):=by refine BZ ?_;have:=rU (itoa z);rw[sj]at this;simp[gE];refine cd this ?_;simp<;>exact fA rfl
def sgn(z:Int):Int:=if z=0 then 0 else if z<0 then -1 else 1
theorem m7(z:Int):CP Y F.c8 [S (itoa z)] (I (sgn z)):=by
 refine IJ ?_;by_cases h0:z=0
 .subst h0;have e:itoa 0=[48]:=dW;rw[e];simp[c8]<;>exact aW rfl
 ·have hne:¬itoa z=[48]:=by
   intro e;have h1:=Lx z;have h2:=Lx 0;rw[show itoa 0=[48]from dW,<-e,h1]at h2;exact h0 (Option.some.inj h2)
  by_cases hn:z<0
  .have e:itoa z=45::ah z.natAbs:=by unfold itoa;rw[if_pos hn]
   have hix:ixS (S (itoa z)) (.d (.int .i64 0))=some (.d (.int .u8 45)):=by rw[e];rfl
   simp[c8,hne,hix]<;>exact aW (by simp[sgn,h0,hn])
  .have e:itoa z=ah z.natAbs:=by unfold itoa;rw[if_neg hn]
   obtain ⟨c,t,hct⟩:∃c t,ah z.natAbs=c::t:=by
    cases h:ah z.natAbs with
    |nil=>exact absurd h (wT _)
    |cons c t=>exact⟨c,t,rfl⟩
   have hhd:=sk z.natAbs;rw[hct]at hhd;have hix:ixS (S (itoa z)) (.d (.int .i64 0))=some (.d (.int .u8 c.toNat)):=by rw[e,hct];rfl
   have hc:¬(c.toNat:Int)=45:=λg=>hhd (by apply UInt8.toNat.inj;simpa using(by omega:c.toNat=45))
   simp[c8,hne,hix,hc]<;>exact aW (by simp[sgn,h0,hn])
theorem QL{w:Int}(hz:ndg z.natAbs<1000000)(hw:ndg w.natAbs<1000000):CP Y F.oR [S (itoa z),S (itoa w)] (S (ah (Nat.gcd z.natAbs w.natAbs))):=by
 refine KD ?_;have l1:=E6 z.natAbs;have l2:=E6 w.natAbs;have gg:=QM hz hw;simp[oR];refine cd (AA z) ?_;simp;refine cd (AA w) ?_;simp;by_cases h1:ndg z.natAbs<=18
 .rw[if_pos h1]at l1;refine cd l1 ?_;simp;by_cases h2:ndg w.natAbs<=18
  .rw[if_pos h2]at l2;refine aC ?_;simp;refine cd l2 ?_;have b1:z.natAbs<1000000000000000000:=by have:=cJ z.natAbs;have:=Z3 (n:=10) ae h1;omega
   have b2:w.natAbs<1000000000000000000:=by have:=cJ w.natAbs;have:=Z3 (n:=10) ae h2;omega
   have gi:=ab1 b1 b2
   have gb:Nat.gcd z.natAbs w.natAbs<9223372036854775808:=by
    rcases Zb w.natAbs with h|h
    .rw[h,Nat.gcd_zero_right];omega
    .have:=Nat.gcd_le_right z.natAbs h;omega
   generalize Nat.gcd z.natAbs w.natAbs=G at *;generalize z.natAbs=a at *;generalize w.natAbs=b at *;simp;refine cd gi ?_;simp;refine cd (Oe gb) ?_;exact fA rfl
  .rw[if_neg h2]at l2;refine aC ?_;simp;refine cd l2 ?_;simp;refine cd gg ?_;exact fA rfl
 .rw[if_neg h1]at l1;refine cd l1 ?_;simp;refine cd (u:=.mk) gg ?_;exact fA rfl
theorem PS{s:LuQ}(h:rd s=some z):s=itoa z∧ndg z.natAbs<1000000:=by
 have hb:=Vj h;unfold rd at h;split at h
 .exact⟨Vk h,by have:=dG hb ae;omega⟩
 .cases h
theorem N2(a b:LuQ):(rdF a b).isSome=match rd a,rd b with
  |some n,some d=>decide (0<d∧Nat.gcd n.natAbs d.natAbs=1)
  |_,_=>false:=by
 unfold rdF;cases rd a<;>cases rd b<;>simp
 split<;>simp_all
theorem Ir(a b:LuQ)(ha:a.length<1000000000)(hb:b.length<1000000000):CP Y F.ib [.agg [S a,S b]] (I (if(rdF a b).isSome then 0 else 2)):=by
 refine BF ?_;have ca:=Iq a ha;have cb:=Iq b hb;rw[N2];simp[ib];refine cd ca ?_;cases hra:rd a with
 | none=>
  simp;refine aC ?_;simp<;>exact aW rfl
 | some z=>
  cases hrb:rd b with
  | none=>
   rw[hrb]at cb;simp;refine aC ?_;simp;refine cd cb ?_;simp<;>exact aW rfl
  | some w=>
   rw[hrb]at cb;obtain⟨ea,na⟩:=PS hra;obtain⟨eb,nb⟩:=PS hrb;subst ea;subst eb;have sg:=m7 w;have gg:=QL na nb;simp;refine aC ?_;simp;refine cd cb ?_;simp;refine cd sg ?_;by_cases hw:0<w
   .have hs:¬sgn w<=0:=by unfold sgn;rw[if_neg aa,if_neg aa];decide
    simp[hs];refine aC ?_;simp;refine cd gg ?_;by_cases hg:Nat.gcd z.natAbs w.natAbs=1
    .have e1:ah 1=[49]:=by rw[ah,show ndg 1=1 by unfold ndg;simp];rfl
     rw[show ah (Nat.gcd z.natAbs w.natAbs)=[49] by rw[hg,e1]];simp<;>exact aW (by simp[hw];exact hg)
    ·have e1:¬ah (Nat.gcd z.natAbs w.natAbs)=[49]:=by
      intro e;have:=congrArg (fL 0) e;rw[dY]at this;exact hg this
     simp[e1]<;>exact aW (by simp[hw,hg])
   .have hs:sgn w<=0:=by unfold sgn;split;decide;rw[if_pos aa];decide
    simp[hs];refine aC ?_;simp[hs]<;>exact aW (by simp[hw])
def P0(n:Nat):Nat->Nat->Bool
 |0,_=>true
 |k+1,d=>if n%d=0 then false else P0 n k (d+1)
def yp(n:Int):Bool:=decide (2<=n)&&decide (n<=97)&&P0 n.toNat (n.toNat-2) 2
def wq(s:LuQ):Bool:=decide ((rdT s).length<=30)
abbrev Tx:=LuQ×LuQ
def bJ(x:Tx):LdQ:=[.str x.1,.str x.2]
theorem cg(x:Tx):(bJ x).length=2:=rfl
def Ul(n:Nat):Nat->Nat->Bool
 |0,_=>true
 |r+1,d=>if d*d<=n then(if n%d=0 then false else Ul n r (d+1))else true
theorem adU:∀n:Fin 98,2<=n.val->Ul n.val 10 2=yp n.val:=aG
theorem Pw(n:Nat)(hn:n<=97)(k:KL):∀(r d:Nat),2<=d->d+r=12->(Ul n r d=true->k (.exit 0) [] [])->(Ul n r d=false->k .ret [B false] []) ->
  lp (jq (CX Y) (I n)) [] [] [I d] [] k
 | 0,d,hd,hr,h0,h1=>by
  have:d=12:=aa;subst this;have g:¬((12:Nat):Int)*((12:Nat):Int)<=(n:Int):=aa;have g2:¬(144:Int)<=(n:Int):=aa;refine ai ?_;simp[jq,g,g2];exact h0 rfl
 | r+1,d,hd,hr,h0,h1=>by
  have ih:=Pw n hn k r (d+1) aa aa;have hd12:d<=12:=aa;obtain⟨s,hs⟩:=mnQ (d*d);have hsb:s<=144:=by rw[<-hs];exact Zu hd12 hd12
  have e1:(d:Int)*(d:Int)=(s:Int):=by rw[<-hs];simp
  rw[Ul,hs]at h0 h1;refine ai ?_;by_cases g:s<=n
  .have g':(s:Int)<=(n:Int):=aa;rw[if_pos g]at h0 h1;have hd0:¬((d:Int)=0):=aa;have hd0':¬(d=0):=aa;obtain⟨m,hm⟩:=mnQ (n%d);have e2:(n:Int)%(d:Int)=(m:Int):=by rw[<-hm];simp
   rw[hm]at h0 h1;by_cases h:m=0
   .have h':(m:Int)=0:=aa;rw[if_pos h]at h1;simp(disch:=try exact af)[jq,e1,g',hd0,hd0',Zt,e2,h',h];exact h1 rfl
   .have h':¬(m:Int)=0:=aa;rw[if_neg h]at h0 h1;have:=ih h0 h1;simp(disch:=try exact af)[jq,e1,g',hd0,hd0',Zt,e2,h',h];simpa using this
  .have g':¬(s:Int)<=(n:Int):=aa;rw[if_neg g]at h0;simp(disch:=try exact af)[jq,e1,g'];exact h0 rfl
theorem Mp(n:Int):CP Y F.jd [I n] (B (yp n)):=by
 refine Cv ?_;by_cases h1:n<2
 .simp[jd,h1]<;>exact iq (by simp[yp];omega)
 by_cases h2:97<n
 .simp[jd,h1,h2]<;>exact iq (by simp[yp];omega)
 obtain⟨m,rfl⟩:∃m:Nat,n=m:=⟨n.toNat,aa⟩;have ha:=adU ⟨m,aa⟩ bb;simp only at ha;simp[jd,h1,h2];refine lo (Pw m aa _ 10 2 aa rfl (λe=>?_) (λe=>?_))
 .simp only[lh];exact iq (by rw[<-ha,e])
 .simp only[Ah,Dy];exact iq (by rw[<-ha,e])
def N9(prev:Option Int)(x:Int):Bool:=match prev with|some y=>decide (y<x)|none=>true
def EJ:Option Int->LiQ->Int
 |_,[]=>0
 |prev,x::q=>cond (yp x) (cond (N9 prev x) (EJ (some x) q) 6) 25
theorem P3(k:KL):∀(q a:LiQ),(a++q).length<1000000000->(EJ a.getLast? q=0->k (.exit 1) [] [])->(EJ a.getLast? q≠0->k .ret [I (EJ a.getLast? q)] []) ->
  lp (pz (CX Y) (lst di (a++q)) (lst di (a++q)) (I (a++q).length)) [] [] [I a.length] [] k
 | []=>by
  intro a hN h0 h1;refine ai ?_;simp[pz];exact h0 rfl
 | x::q=>by
  intro a hN h0 h1;simp at hN;have ih:=P3 k q (a++[x]) bb;rw[List.getLast?_concat]at ih;refine ai ?_;simp(disch:=try exact af)[pz];refine cd (Mp x) ?_;by_cases hp:yp x=true
  .rcases List.eq_nil_or_concat a with rfl|⟨b,y,rfl⟩
   .simp only[EJ,hp,List.getLast?_nil,N9,cond_true]at h0 h1;simp[hp];have:=ih h0 h1;simpa using this
   .rw[List.concat_eq_append]at *;have hny:nth 0 (b++[y]++x::q) b.length=y:=by rw[List.append_assoc];simp
    rw[List.getLast?_concat]at h0 h1;simp only[EJ,hp,N9,cond_true]at h0 h1;have eI:∀h:Hp,ixV h 1 (lst di (b++[y]++x::q)) (.d (.int .i64 (b.length:Int)))=some (.dptr ((b++[y]++x::q).map di) b.length):=λh=>eY di _ h rfl ac
    have eL:∀h:Hp,ld1 h (.dptr ((b++[y]++x::q).map di) b.length)=some (.d (di y)):=λh=>by
     have:=WU (b++[y]++x::q) h (j:=b.length) ac;rw[hny]at this;exact this
    have hA:b++[y]++[x]++q=b++[y]++x::q:=ac;have hn:(b++[y]).length=b.length+1:=ac;have hn2:(b++[y]++[x]).length=b.length+1+1:=ac;rw[hA,hn2]at ih;rw[hn]at hN ⊢;generalize b++[y]++x::q=A at *;generalize b.length=m at *;have e':((m+1:Nat):Int)-1=(m:Int):=aa;have hl0:(0:Int)<((m+1:Nat):Int):=aa;obtain⟨m1,hm1⟩:=nmQ (m+1);rw[<-hm1]at e' hl0 ih ⊢
    by_cases hyx:y<x
    .have g1:¬x<=y:=aa;rw[show decide (y<x)=true by simpa using hyx]at h0 h1;simp only[cond_true]at h0 h1;have:=ih h0 h1;simp(disch:=try exact af)[hp,e',hl0,eI,eL,g1];simpa using this
    .have g1:x<=y:=aa;rw[show decide (y<x)=false by simpa using hyx]at h1;simp only[cond_false]at h1;simp(disch:=try exact af)[hp,e',hl0,eI,eL,g1];simpa using h1
  .have hpf:yp x=false:=by simpa using hp
   simp only[EJ,hpf,cond_false]at h1;simp[hpf];simpa using h1
def pcB(p:LiQ):Int:=if p.length=0 then 13 else if 6<p.length then 4 else EJ none p
theorem mz{p:LiQ}(hN:p.length<1000000000):CP Y F.fx [lst di p] (I (pcB p)):=by
 refine GD ?_;have lp':aN (lst di p)=some (I p.length):=rfl;by_cases h1:(p.length:Int)=0
 .have e:pcB p=13:=by unfold pcB;exact if_pos aa
  have hnil:p=[]:=Yg.1 aa;rw[e];subst hnil;simp[fx]<;>exact aW rfl
 have h1':¬p.length=0:=aa;have hne:¬p=[]:=λe=>h1' (by rw[e];rfl)
 by_cases h2:(6:Int)<p.length
 .have e:pcB p=4:=by unfold pcB;exact(if_neg h1').trans (if_pos aa)
  rw[e];simp[fx,lp',h1,h2,hne]<;>exact aW rfl
 have e:pcB p=EJ none p:=by unfold pcB;exact(if_neg h1').trans (if_neg aa)
 unfold fx;rw[e]
 have main:=P3 (exK [((.exit 1),λl6 h=>out (I (EJ none p)) (.d (.int .i64 0)) h),(.ret,λl6 h=>out (I (EJ none p)) (ge l6 0) h)]) p [] (by simpa using hN) (λg=>by
  simp only[List.getLast?_nil]at g;simp only[lh];exact aW g.symm) (λg=>by
  simp only[List.getLast?_nil]at g ⊢;simp only[Ah,Dy];exact aW rfl)
 simp[lp',h1,h2,hne];exact main
theorem Il(ha:ndg a<1000000)(hb:ndg b<1000000):CP Y F.kf [S (ah a),S (ah b)] (S (ah (a*b))):=by
 refine GU ?_;have la:=mA a;have lb:=mA b;have bo:=DL a b;by_cases h18:(ndg a:Int)+(ndg b:Int)<=18
 .rw[if_pos ⟨aa,aa⟩]at bo
  have hm:a*b<1000000000000000000:=by
   have h1:=cJ a;have h2:=cJ b;have h3:a*b<10^ndg a*10^ndg b:=Ys h1 h2;rw[<-Yr]at h3;have h4:10^(ndg a+ndg b)<=10^18:=Z3 ae aa;exact Z2 h3 h4
  obtain⟨m,hmm⟩:=mnQ (a*b);have e1:(a:Int)*(b:Int)=(m:Int):=by rw[<-hmm];simp
  rw[hmm]at hm ⊢;simp(disch:=try exact af)[kf,la,lb,h18];refine cd bo ?_;simp(disch:=try exact af)[e1];refine cd (Bf (n:=m) aa) ?_;exact fA rfl
 .obtain⟨ca,hca⟩:=nmQ (ndg a/9+1);obtain⟨cb,hcb⟩:=nmQ (ndg b/9+1);have ltA:a<Z^ca:=Z2 (cJ a) (by rw[AB];exact Z3 ae aa);have ltB:b<Z^cb:=Z2 (cJ b) (by rw[AB];exact Z3 ae aa)
  have cA:=tC (h:=[nnQ,nnQ,nnQ]) rfl (n:=a) aa hca;have lA:(bz ca a).length=ca:=dj ..;have lB:(bz cb b).length=cb:=dj ..;have cB:=tC (h:=[(1,.data 1 ((bz ca a).map u6) true false),nnQ,nnQ]) rfl (n:=b) aa hcb;simp(disch:=try exact af)[kf,la,lb,h18];refine om (gA (e:=0) (b:=.none) cA rfl ?_)
  rw[List.length_map,lA];simp;refine om (gA (e:=0) (b:=.none) cB rfl ?_);rw[List.length_map,lB];simp;have rA:=DR (h:=[(1,.data 1 ((bz ca a).map u6) true false),(1,.data 1 ((bz cb b).map u6) true false),nnQ]) (s:=0) (e:=1) (len:=(dig Z a).length) (cap:=ca) (ex:=true) (fr:=false) rfl lA.symm (iX ltA)
  have rB:=DR (h:=[(1,.data 1 ((bz ca a).map u6) true false),(1,.data 1 ((bz cb b).map u6) true false),nnQ]) (s:=1) (e:=1) (len:=(dig Z b).length) (cap:=cb) (ex:=true) (fr:=false) rfl lB.symm (iX ltB);rw[nN ltA]at rA;rw[nN ltB]at rB;have dA:=iX ltA;have dB:=iX ltB;obtain⟨N,hN⟩:=nmQ ((dig Z a).length+(dig Z b).length)
  have tp:=AL (h:=[(1,.data 1 ((bz ca a).map u6) true false),(1,.data 1 ((bz cb b).map u6) true false),nnQ]) rfl rA (cE aw a) rB (cE aw b) aa aa hN
  have ltM:a*b<Z^N:=by
   rw[hN,Yr];have h1:=jN bE (cE aw a);have h2:=jN bE (cE aw b);rw[iO aw]at h1 h2;exact Ys h1 h2
  rw[iO aw,iO aw]at tp;have lM:(bz N (a*b)).length=N:=dj ..;refine om (gA (e:=0) (b:=.none) tp rfl ?_);rw[List.length_map,lM];simp
  have sM:=wj (h:=[(1,.data 1 ((bz ca a).map u6) true false),(1,.data 1 ((bz cb b).map u6) true false),(1,.data 1 ((bz N (a*b)).map u6) true false)]) (s:=2) rfl lM.symm (len:=(dig Z (a*b)).length) (cap:=N) (iX ltM) (Z8 _);rw[nN ltM]at sM;simp only[List.set_cons_zero,List.set_cons_succ]at sM
  have sMs:aO [(1,.data 1 ((bz ca a).map u6) true false),(1,.data 1 ((bz cb b).map u6) true false),(1,.data 1 ((bz N (a*b)).map u6) true false)] [.ref 2 1 0 (dig Z (a*b)).length N N]=some ([pcs (a*b)],[(1,.data 1 ((bz ca a).map u6) true false),(1,.data 1 ((bz cb b).map u6) true false),(1,.data 1 ((bz N (a*b)).map u6) true true)]):=by
   simp only[aO,sM];rfl
  refine cdz sMs (xg (n:=a*b) (by have:=iX ltM;omega)) ?_;rw[show cI (S (ah (a*b)))=true from rfl,if_pos rfl];exact fA rfl
theorem rM{B:Nat}{a b:LnQ}(ha:aE B a)(hb:aE B b):aE B (a++b):=by
 intro x hx;rcases Xp.1 hx with h|h
 .exact ha x h
 .exact hb x h
theorem pT(k:Nat):aE Z (List.replicate k 0):=by intro x hx;rw[List.eq_of_mem_replicate hx];exact bE
theorem um(k:Nat)(l:LnQ):val Z (l++List.replicate k 0)=val Z l:=by
 rw[val_append]
 have:val Z (List.replicate k 0)=0:=by
  induction k with
  |zero=>rfl
  |succ k ih=>rw[List.replicate_succ];exact(congrArg (λx=>0+Z*x) ih).trans (by rw[Nat.mul_zero])
 rw[this,Nat.mul_zero,Nat.add_zero]
theorem aeZ{ce x B:Nat}(hB:2<=B)(h3:x+q*B*ce=a+b)(l1:a<q)(l2:b<q):x=a+b:=by
 rcases Zb ce with h|h
 .subst h;rw[Nat.mul_zero,Nat.add_zero]at h3;exact h3
 .have h1:=Z1 (q*B) h;have h2:=Z1 q hB;omega
theorem aas{A D:LnQ}{n:Nat}(hA:A.length=n)(hD:D.length=n)(sA:aE Z A)(sD:aE Z D)(va:val Z A=a)(vb:val Z D=b):
  val Z (qV 0 D (D.length+1) 0 0 (A++[0]))=a+b∧aE Z (qV 0 D (D.length+1) 0 0 (A++[0]))∧(qV 0 D (D.length+1) 0 0 (A++[0])).length=n+1:=by
 have sA0:aE Z (A++[0]):=rM sA (pT 1);obtain⟨h1,h2,ce,h3⟩:=Gb (at_:=0) sD (D.length+1) 0 0 (A++[0]) bb aa sA0;have e1:D.drop (0+(D.length+1))=[]:=Y6 aa;have e2:val Z (A++[0])=a:=by rw[show([0]:LnQ)=List.replicate 1 0 from rfl,um,va]
 have e0:val Z ([]:LnQ)=0:=rfl;rw[e1,e2,e0]at h3;have l1:=jN bE sA;have l2:=jN bE sD;rw[va,hA]at l1;rw[vb,hD]at l2;have hl:(qV 0 D (D.length+1) 0 0 (A++[0])).length=n+1:=by rw[h1.1];simp[hA]
 refine⟨?_,h2,hl⟩;rw[hD]at h3 ⊢;have h2Z:=aw;generalize val Z (qV 0 D (n+1) 0 0 (A++[0]))=x at *;simp only[Yj,vb,Nat.add_zero,Zj,Nat.pow_zero,W8,Nat.pow_succ]at h3;exact aeZ h2Z h3 l1 l2
theorem abb(k:Nat):iS k [D.int .u64 0]=(List.replicate k 0).map u6:=by
 induction k with
 |zero=>rfl
 |succ k ih=>rw[List.replicate_succ,Zs,<-ih];rfl
theorem Oq(a w:Nat)(hw:w<=18):CP Y F.bF [S (ah a),I w] (if ndg a<=w then .tup [I a,B true]else .tup [I 0,B false]):=by
 refine rQ ?_;have la:=mA a;by_cases h:(w:Int)<ndg a
 .rw[if_neg aa];simp[bF,la,h];exact bU rfl rfl
 .rw[if_pos aa];have ap:=Kh (n:=a) (lX a) aa (cJ a);have en:biF .eql (.d (.pl .nilIface)) (.d (.pl .nilIface))=some (.d (.bool true)):=rfl;simp[bF,la,h];refine cd (args:=[S (ah a)]) ap ?_;simp[en];exact bU rfl rfl
theorem rL(a:Nat):CP Y F.aL [S (ah a)] (.tup [B false,S (ah a)]):=by have h:=rU (ah a);have e1:rdN (ah a)=false:=decide_eq_false (sk a);have e2:rdT (ah a)=ah a:=if_neg (sk a);rw[e1,e2]at h;exact h
theorem XJ(s:LuQ):CP Y F.bW [B false,S s] (S s):=by refine yY ?_;simp[bW]<;>exact fA rfl
theorem aau{n:Nat}(h1:1<=w)(h2:w<=17)(hn:n<10^w):CP Y F.ia [S (45::dM n w)] (.tup [I (-(n:Int)),.d (.pl .nilIface)]):=by
 refine tZ ?_;have hl:=FU w n;have hlt:=DF w n;have hh:=Fs w n hn;have he:=ZG n w;have hD:=J1 w n;have hn17:n<10^17:=Z2 hn (Z3 ae h2);simp only[Nat.reducePow]at hn17;generalize dM n w=L at *;generalize BQ n w=l at *;have hlen:L.length=w:=by rw[hD];simpa using hl
 have hi:ixS (S (45::L)) (.d (.int .i64 0))=some (.d (.int .u8 45)):=by simp[ixS]
 have hlw:oe (S (45::L))=some (I (w+1:Nat)):=by rw[JF];simp[hlen]
 have hsl:slS (S (45::L)) (some (.d (.int .i64 1))) none=some (S L):=by
  have:(1:Int)<=(L.length:Int)+1:=aa;simp[slS,boV,this]
 have hl2:oe (S L)=some (I w):=by rw[JF,hlen]
 simp(disch:=try exact af)[ia,hlw,hi]
 have hcv:∀(k:kkQ),cvB (S L) [] k=k (lst f8 l) []:=by
  intro k
  have:V.d (.sl L.length (L.map λb=>.int .u8 b.toNat))=lst f8 l:=by
   unfold lst;rw[hlen,hl,<-he];rfl
  simp only[cvB,this]
 refine gQ (l:=[S L]) (h:=[]) (λq=>?_) ?_
 .simp(disch:=try exact af)[hsl,hl2]
 show cvB (S L) [] _
 rw[hcv];simp;refine lo (Ki _ _ rfl l [] 0 bb hlt ac ?_);simp[hi,hh];refine gQ (l:=[I (-(n:Int))]) (h:=[]) (λq=>?_) ?_
 .simp(disch:=try exact af)[hh]
 exact⟨[],by simp[cF,aO,norm]⟩
theorem aat{n:Nat}(h1:1<=w)(h2:w<=17)(hn:n<10^w):CP Y F.strconv_Atoi [S (45::dM n w)] (.tup [I (-(n:Int)),.d (.pl .nilIface)]):=by refine wi ?_;simp[strconv_Atoi];refine cd (aau h1 h2 hn) ?_;simp[Jl];exact⟨[],by simp[cF,aO,norm]⟩
def sdg(z:Int):Nat:=ndg z.natAbs+if z<0 then 1 else 0
theorem Mh(z:Int):oe (S (itoa z))=some (I (sdg z)):=by
 rw[JF];unfold itoa sdg;split
 .simp[ah,bi]
 .simp[ah,bi]
theorem Nj(h:sdg z<=18):CP Y F.strconv_Atoi [S (itoa z)] (.tup [I z,.d (.pl .nilIface)]):=by
 unfold sdg at h;by_cases hz:z<0
 .rw[if_pos hz]at h;have:=aat (n:=z.natAbs) (w:=ndg z.natAbs) (lX _) aa (cJ _);rw[show(-(z.natAbs:Int))=z by omega]at this;unfold itoa;rw[if_pos hz];exact this
 .rw[if_neg hz]at h;have:=Kh (n:=z.natAbs) (w:=ndg z.natAbs) (lX _) aa (cJ _);rw[show((z.natAbs:Nat):Int)=z by omega]at this;unfold itoa;rw[if_neg hz];exact this
theorem oN(z:Int)(w:Nat)(hw:w<=18):CP Y F.bF [S (itoa z),I w] (if sdg z<=w then .tup [I z,B true]else .tup [I 0,B false]):=by
 refine rQ ?_;have la:=Mh z;by_cases h:(w:Int)<sdg z
 .rw[if_neg aa];simp[bF,la,h];exact bU rfl rfl
 .rw[if_pos aa];have ap:=Nj (z:=z) aa;have en:biF .eql (.d (.pl .nilIface)) (.d (.pl .nilIface))=some (.d (.bool true)):=rfl;simp[bF,la,h];refine cd (args:=[S (itoa z)]) ap ?_;simp[en];exact bU rfl rfl
theorem E7(z:Int):CP Y F.gy [S (itoa z)] (if sdg z<=9 then .tup [I z,B true]else .tup [I 0,B false]):=by
 refine zY ?_;have la:=Mh z;by_cases h:(9:Int)<sdg z
 .rw[if_neg aa];simp[gy,la,h];exact bU rfl rfl
 .rw[if_pos aa];have ap:=Nj (z:=z) aa;have en:biF .eql (.d (.pl .nilIface)) (.d (.pl .nilIface))=some (.d (.bool true)):=rfl;simp[gy,la,h];refine cd (args:=[S (itoa z)]) ap ?_;simp[en];exact bU rfl rfl
theorem wS(z:Int):rdN (itoa z)=decide (z<0):=by
 unfold itoa;split
 .rename_i h;simp[rdN,h]
 .rename_i h;have:=sk z.natAbs;unfold rdN;rw[decide_eq_false this,decide_eq_false h]
theorem oW(z:Int):CP Y F.aL [S (itoa z)] (.tup [B (decide (z<0)),S (ah z.natAbs)]):=by have h:=rU (itoa z);rw[wS,sj]at h;exact h
theorem o8(h:ah a=ah b):a=b:=by
 have:=congrArg (fL 0) h
 rwa [dY,dY]at this
theorem zP{a b:Int}(h:itoa a=itoa b):a=b:=by
 have h1:=congrArg rdT h;have h2:=congrArg rdN h;rw[sj,sj]at h1;rw[wS,wS]at h2;have h3:=o8 h1;have h4:(a<0)↔(b<0):=by simpa using h2
 omega
theorem kv{n:Nat}:ah n=[48]↔n=0:=by
 constructor
 .intro h;exact o8 (a:=n) (b:=0) (h.trans dW.symm)
 .rintro rfl;exact dW
def sg(b:Bool)(n:Nat):Int:=if b then -(n:Int)else n
theorem hO(b:Bool){n:Nat}(hn9:ndg n<1000000):CP Y F.bW [B b,S (ah n)] (S (itoa (sg b n))):=by
 refine yY ?_;cases b with
 | false=>
  have:itoa (sg false n)=ah n:=by simp[sg,itoa]
  rw[this];simp[bW]<;>exact fA rfl
 | true=>
  by_cases hn:n=0
  .subst hn;have e0:itoa (sg true 0)=[48]:=dW;simp[bW,dW]<;>exact fA e0.symm
  .have h0:¬ah n=[48]:=λh=>hn (kv.1 h)
   have:itoa (sg true n)=45::ah n:=by
    unfold itoa sg;rw[if_pos rfl,if_pos aa];simp
   rw[this];have hl:(ah n).length=ndg n:=bi _ _;have ha:biS .add (.d (.str [45])) (S (ah n))=some (S (45::ah n)):=acy [45] (ah n) (by rw[hl];simp;omega);simp[bW,h0,ha]<;>exact fA rfl
theorem zw(hz:ndg z.natAbs<1000000):CP Y F.mp [S (itoa z)] (S (itoa (-z))):=by
 refine KA ?_;simp[mp];refine cd (oW z) ?_;simp;have:=hO (!decide (z<0)) hz
 have e:sg (!decide (z<0)) z.natAbs = -z:=by
  unfold sg;by_cases h:z<0
  .simp[h];omega
  .simp[h];omega
 rw[e]at this;refine cd this ?_;exact fA rfl
def bZ(n:Nat):Nat:=(dig Z n).length
theorem DG{n:Nat}:bZ n=ndg n/9+1∨bZ n+1=ndg n/9+1:=by
 unfold bZ;have h1:(dig Z n).length<=ndg n/9+1:=(pG aw).2 (Z2 (cJ n) (by rw[AB];exact Z3 ae aa))
 have h2:ndg n<=9*(dig Z n).length∨n=0:=by
  rcases Zb n with h|h
  .omega
  .left;have h3:n<Z^(dig Z n).length:=(pG aw).1 (Z8 _);rw[AB]at h3;refine dG h3 ?_;rcases Zb (dig Z n).length with h4|h4
   .grind
   .omega
 rcases h2 with h2|rfl
 .omega
 .have:ndg 0=1:=aG;omega
theorem Jv(n:Nat):n<Z^bZ n:=(pG aw).1 (Z8 _)
theorem z8(n:Nat):bz (bZ n) n=dig Z n:=by
 have:=nN (Jv n)
 rwa [Zx (by rw[dj];exact Z8 _)]at this
theorem zZ{n:Nat}(h:bZ n+1=c):bz c n=dig Z n++[0]:=by rw[<-h,BI (Jv n),z8]
theorem Rq{s t n c:Nat}{h:Hp}{q:kkQ}{u:PU q}(hst:s≠t)(hg:h[s]?=some (1,.data 1 ((bz c n).map u6) true false))(ht:h[t]?=some nnQ)(hL:bZ n=c∨bZ n+1=c)(hc:c<1000000)
  (hq:∀s' e' ex h',h'.length=h.length->h'[s']?=some (e',.data 1 ((dig Z n++[0]).map u6) ex false)->(s'=s∨s'=t)->(∀j,j≠s'->h'[j]?=h[j]?)->q (.ref s' e' 0 (bZ n+1) (bZ n+1) (bZ n+1)) h') :
  rh (apV false t 1 8 (.ref s 1 0 (bZ n) c c) (.d (.sl 1 [u6 0])) h) q u:=by
 have hl:=aY hg;have hl2:=aY ht;rcases hL with hL|hL
 .subst hL;rw[z8]at hg;refine Rp hg ht rfl aa ?_;exact hq t 1 false _ ac (by grind) (.inr rfl) (λj hj=>by rw[List.getElem?_set_ne (Ne.symm hj)])
 .rw[zZ hL]at hg;have hlen:(dig Z n).length=bZ n:=rfl;refine O4 (x:=0) hg (by grind) aa ?_;rw[<-hL];refine hq s 1 true _ ac ?_ (.inl rfl) (λj hj=>by rw[List.getElem?_set_ne (Ne.symm hj)])
  have e1:(dig Z n++[0]).take (bZ n)++[0]++(dig Z n++[0]).drop (bZ n+1)=dig Z n++[0]:=by
   rw[<-hlen,Wq,Y6 ac,Zn]
  grind
theorem Ro{s t n c k:Nat}{h:Hp}{q:kkQ}{u:PU q}(hst:s≠t)(hg:h[s]?=some (1,.data 1 ((bz c n).map u6) true false))(ht:h[t]?=some nnQ)(hL:bZ n=c∨bZ n+1=c)(hc:c+k<1000000)
  (hq:∀t1 s' h',h'.length=h.length->(s'=s∨s'=t)->(∀j,j≠s'->h'[j]?=h[j]?)->(∃(e':Nat)(l:LnQ)(ex:Bool),h'[s']?=some (e',.data 1 (l.map u6) ex false)) ->
   (∀P:Hp->Prop,(∀g,P g->g[s']?=h'[s']?)->RdS P t1 (dig Z n++List.replicate k 0))->q t1 h') :
  rh (apZ false t 1 8 [.int .u64 0] (.ref s 1 0 (bZ n) c c) (I (k:Nat)) h) q u:=by
 have hl:=aY hg;have hl2:=aY ht;have hlen:(dig Z n).length=bZ n:=rfl;unfold rh apZ;simp only;rw[if_pos ⟨aa,aa⟩];unfold apC;simp only[Int.toNat_natCast]
 have rdOf:∀{s' e' len cap tot:Nat}{l:LnQ}{ex:Bool}{h':Hp},h'[s']?=some (e',.data 1 (l.map u6) ex false)->tot=l.length->len<=tot->l.take len=dig Z n++List.replicate k 0 ->
   ∀P:Hp->Prop,(∀g,P g->g[s']?=h'[s']?)->RdS P (.ref s' e' 0 len cap tot) (dig Z n++List.replicate k 0):=by
  intro s' e' len cap tot l ex h' hg' htot hle htk P hP;refine⟨?_,λg i hg2 hi=>?_⟩
  .have:(dig Z n++List.replicate k 0).length=len:=by rw[<-htk,Zp];omega
   simp_all
  .have:=(DR (h:=g) (cap:=cap) ((hP g hg2).trans hg') htot hle).2 [] i (by grind)
   grind
 by_cases hk:k=0
 .rw[if_pos hk,if_pos aa];subst hk;refine hq _ s h rfl (.inl rfl) (λ_ _=>rfl) ⟨_,_,_,hg⟩ ?_;refine rdOf hg (dj ..).symm aa ?_;rw[List.replicate_zero,Zn];rcases hL with hL|hL
  .rw[<-hL,z8,<-hlen,Xj]
  .rw[zZ hL,<-hlen,Wq]
 .rw[if_neg hk,abb];simp only[ee hg];rw[if_pos ⟨trivial,by simp[dj],aa,by simp[dj],ac⟩];by_cases hin:bZ n+k<=c
  .rw[if_pos hin];have hk1:k=1:=aa;subst hk1;have hL2:bZ n+1=c:=aa;simp only[Bool.or_self,Zc,if_false,b6]
   have e1:((bz c n).map u6).take (0+bZ n*1)++(List.replicate 1 0).map u6++((bz c n).map u6).drop (0+(bZ n+1)*1)=(dig Z n++[0]).map u6:=by
    rw[zZ hL2,Zj,Zj,Yp,Yp,<-hlen];simp[<-List.map_take,<-List.map_drop]
   rw[e1];refine hq _ s _ ac (.inl rfl) (λj hj=>by rw[List.getElem?_set_ne (Ne.symm hj)]) ⟨1,dig Z n++[0],true,by grind⟩ ?_;refine rdOf (l:=dig Z n++[0]) (ex:=true) (by grind) (by grind) aa ?_
   grind
  .rw[if_neg hin,if_pos aa];simp only[if_true,new,ht]
   have e1:(((bz c n).map u6).drop 0).take (bZ n*1)++(List.replicate k 0).map u6=(dig Z n++List.replicate k 0).map u6:=by
    rw[Yj,Yp,<-List.map_take,Xz];congr 2;rcases hL with hL|hL
    .rw[<-hL,z8,<-hlen,Xj]
    .rw[zZ hL,<-hlen,Wq]
   rw[e1];have e2:bZ n*1+((List.replicate k 0).map u6).length=bZ n+k:=ac;rw[e2];refine hq _ t _ ac (.inr rfl) (λj hj=>by rw[List.getElem?_set_ne (Ne.symm hj)]) ⟨1,dig Z n++List.replicate k 0,false,by grind⟩ ?_;refine rdOf (l:=dig Z n++List.replicate k 0) (ex:=false) (by grind) (by grind) aa ?_
   grind[Zx]
def NV(h:Hp):Prop:=∀(j:Nat)(x:Nat×Bk),h[j]?=some x->∀b,az b x.2=true
theorem NV.all{h:Hp}(hn:NV h)(b:Nat):(h.all λx=>az b x.2)=true:=by rw[Zz];intro x hx;obtain⟨j,hj⟩:=Ww.1 hx;exact hn j x hj b
theorem NV.upd{h h':Hp}(hn:NV h){s e:Nat}{l:LnQ}{ex fr:Bool}(hs:h'[s]?=some (e,.data 1 (l.map u6) ex fr))(ho:∀j,j≠s->h'[j]?=h[j]?):NV h':=by
 intro j x hj b;by_cases e1:j=s
 .subst e1;rw[hs]at hj;cases hj;rfl
 .rw[ho j e1]at hj;exact hn j x hj b
theorem set_same{α:Type}{l:List α}{i:Nat}{x:α}(h:l[i]?=some x):l.set i x=l:=by
 apply Yh;intro j;by_cases e:i=j
 .grind
 .rw[List.getElem?_set_ne e]
theorem PF{h:Hp}{s e:Nat}{ex:Bool}{l:LnQ}(hs:h[s]?=some (e,.data 1 (l.map u6) ex false)):sP h s e ex l=h:=set_same hs
theorem Hq{h:Hp}{s e n m:Nat}{ex:Bool}{L:LnQ}{w:V}(hn:NV h)(hlt:s<h.length)(h3:L.length=n)(b1:val Z L=m)(b2:aE Z L)(hm:n<1000000)(kk:V->V)(hkk:∀h':Hp,out w (kk (S (ah m))) h'){sl:Nat} :
  cai (CX Y).i (sP h s e ex L) (V.fn F.ay [] []) [.ref s e 0 n n n] sl λv22 h=>
    cal (CX Y).p h (V.fn F.aK [] []) [v22] λv23 h=>out w (kk v23) h:=by
 have nv:NV (sP h s e ex L):=hn.upd (r9 hlt) (λj hj=>by grind[sP]);have tr:=tO (h:=sP h s e ex L) (nv.all _) (s:=s) (e:=e) (ex:=ex) (fr:=false) (r9 hlt) h3.symm (len:=n) (cap:=n) (Z8 _) aa (Z8 _);have ht:iM (L.take n)=dig Z m:=by rw[Zx aa,<-b1,rF aw b2]
 rw[ht]at tr;refine gP tr ?_ ac;have lt:m<Z^n:=by rw[<-b1,<-h3];exact jN bE b2
 have hl:(dig Z m).length<=n:=(pG aw).2 lt;have sM:=wj (h:=sP h s e ex L) (s:=s) (e:=e) (ex:=ex) (fr:=false) (r9 hlt) h3.symm (len:=(dig Z m).length) (cap:=n) hl (Z8 _)
 have ht2:L.take (dig Z m).length=dig Z m:=by
  have e:iM L=dig Z m:=by rw[<-ht,Zx aa]
  obtain⟨z,hz⟩:=Hf L;rw[e]at hz;rw[hz];exact Wq ..
 rw[ht2]at sM;refine cdz (u:=.mk) (by simp only[aO,sM];rfl) (xg (n:=m) aa) ?_
 grind
theorem yP(ha:ndg a<1000000)(hb:ndg b<1000000):CP Y F.gz [S (ah a),S (ah b)] (S (ah (a+b))):=by
 refine GY ?_;have bo:=DL a b;by_cases h18:ndg a<=18∧ndg b<=18
 .rw[if_pos h18]at bo;have g3:10^ndg a<=10^18:=Z3 ae h18.1;have g4:10^ndg b<=10^18:=Z3 ae h18.2;have b1:a<1000000000000000000:=Z2 (cJ a) g3;have b2:b<1000000000000000000:=Z2 (cJ b) g4;simp[gz];refine cd bo ?_;obtain⟨m,hm⟩:=mnQ (a+b);have em:(a:Int)+(b:Int)=(m:Int):=aa
  rw[hm];simp(disch:=try exact af)[em];refine cd (Bf (n:=m) aa) ?_;exact fA rfl
 rw[if_neg h18]at bo;obtain⟨ca,hca⟩:=nmQ (ndg a/9+1);obtain⟨cb,hcb⟩:=nmQ (ndg b/9+1);have cA:=tC (h:=[nnQ,nnQ,nnQ,nnQ,nnQ,nnQ]) rfl (n:=a) aa hca;have cB:=tC (h:=[(1,.data 1 ((bz ca a).map u6) true false),nnQ,nnQ,nnQ,nnQ,nnQ]) rfl (n:=b) aa hcb
 have LA:bZ a=ca∨bZ a+1=ca:=by rw[hca];exact DG
 have LB:bZ b=cb∨bZ b+1=cb:=by rw[hcb];exact DG
 have hli:∀h:Hp,fJ 1 [D.int .u64 0] [(0,V.d (D.int .u64 0))] h=some ([u6 0],h):=λh=>by rfl
 have main:∀(p q cp cq sp sq:Nat)(h:Hp),p+q=a+b->bZ q<=bZ p->cp<200000->cq<200000->(bZ p=cp∨bZ p+1=cp)->(bZ q=cq∨bZ q+1=cq)->sp<2->sq<2->sp≠sq->h.length=6->NV h ->
   h[sp]?=some (1,.data 1 ((bz cp p).map u6) true false)->h[sq]?=some (1,.data 1 ((bz cq q).map u6) true false)->h[2]?=some nnQ->h[3]?=some nnQ ->
   apV false 2 1 8 (.ref sp 1 0 (bZ p) cp cp) (.d (.sl 1 [u6 0])) h λv15 h=>
   bnd (aN v15) λv16=>
   bnd (biI .sub v16 (.d (.int .i64 1))) λv17=>
   bnd (aN (.ref sq 1 0 (bZ q) cq cq)) λv18=>
   bnd (biI .sub v17 v18) λv19=>
   apZ false 3 1 8 [.int .u64 0] (.ref sq 1 0 (bZ q) cq cq) v19 h λv20 h=>
   cai (CX Y).i h (.fn F.cL [] []) [v15,v20,(.d (.int .i64 0))] 4 λv21 h=>
   cai (CX Y).i h (.fn F.ay [] []) [v15] 5 λv22 h=>
   cal (CX Y).p h (.fn F.aK [] []) [v22] λv23 h=>
   out (S (ah (a+b))) v23 h:=by
  intro p q cp cq sp sq h hpq hle hcp hcq LP LQ hsp hsq hne hlen hnv gp gq g2 g3;refine Rq (u:=.mk) (t:=2) aa gp g2 LP aa λs' e' ex h1 l1 gs' hs' o1=>?_
  obtain⟨k,hk⟩:=nmQ (bZ p-bZ q);have e1:(bZ p:Int)+1-1-(bZ q:Int)=(k:Int):=aa;have hr1:aN (.ref s' e' 0 (bZ p+1) (bZ p+1) (bZ p+1))=some (I (bZ p+1:Nat)):=rfl;have hr2:aN (.ref sq 1 0 (bZ q) cq cq)=some (I (bZ q:Nat)):=rfl
  have hb1:biI .sub (I ((bZ p+1:Nat):Int)) (.d (.int .i64 1))=some (I (bZ p)):=by
   rw[Av,show(((bZ p+1:Nat):Int)-1)=(bZ p:Int) by omega,tG aa aa]
  have hb2:biI .sub (I (bZ p:Int)) (I (bZ q:Int))=some (I k):=by
   rw[Av,show((bZ p:Int)-(bZ q:Int))=(k:Int) by omega,tG aa aa]
  simp only[hr1,hr2,hb1,hb2,bnd];have nv1:=hnv.upd gs' o1;have hqs:sq≠s':=by rcases hs' with rfl|rfl<;>omega
  have h3s:3≠s':=by rcases hs' with rfl|rfl<;>omega
  refine Ro (u:=.mk) (t:=3) aa ((o1 sq hqs).trans gq) ((o1 3 h3s).trans g3) LQ aa λt1 s2 h2 l2 hs2 o2 ⟨e2,l2',ex2,g2'⟩ rd=>?_
  have nv2:=nv1.upd g2' o2;have hss:s'≠s2:=by rcases hs2 with rfl|rfl<;>omega
  have gs2:h2[s']?=some (e',.data 1 ((dig Z p++[0]).map u6) ex false):=(o2 s' hss).trans gs';have lt2:s'<h2.length:=aY gs2;have hdl:(dig Z q++List.replicate k 0).length=bZ p:=by simp only[Zq,Y8];show bZ q+k=_;omega
  have sD:aE Z (dig Z q++List.replicate k 0):=rM (cE aw q) (pT _);have vD:val Z (dig Z q++List.replicate k 0)=q:=by rw[um,iO aw]
  have rdS:=rd (λt=>∃l,t=sP h2 s' e' ex l) (λg ⟨l,hg⟩=>by grind[sP]);obtain⟨c1,c2,c3⟩:=aas (n:=bZ p) rfl hdl (cE aw p) sD (iO aw p) vD;have bk:=Nh (at_:=0) (tot:=bZ p+1) (l:=dig Z p++[0]) (ex:=ex) (e:=e') (s:=s') (h:=h2) (nv2.all _) lt2 rdS sD aa aa (by simp[bZ]) (rM (cE aw p) (pT 1))
  rw[PF gs2]at bk;refine gP bk ?_ ac;rw[hpq]at c1;exact Hq nv2 lt2 c3 c1 c2 aa (λv=>v) (λ_=>fA rfl)
 simp[gz];refine cd bo ?_;simp;refine om (gA (e:=0) (b:=.none) cA rfl ?_);rw[List.length_map,dj];simp;refine om (gA (e:=0) (b:=.none) cB rfl ?_);rw[List.length_map,dj]
 have nv:NV [(1,.data 1 ((bz ca a).map u6) true false),(1,.data 1 ((bz cb b).map u6) true false),nnQ,nnQ,nnQ,nnQ]:=by
  intro j x hj b';rcases Ww.2 ⟨j,hj⟩with hm;simp only[Zy,Yv,or_false]at hm;rcases hm with rfl|rfl|rfl|rfl|rfl|rfl<;>rfl
 by_cases g1:((dig Z a).length:Int)<((dig Z b).length:Int)
 .simp[g1];refine aC ?_;simp[hli];exact main b a cb ca 1 0 _ aa (by grind[bZ]) aa aa LB LA aa aa aa rfl nv rfl rfl rfl rfl
 .simp[g1];refine aC ?_;simp[hli];exact main a b ca cb 0 1 _ rfl (by grind[bZ]) aa aa LA LB aa aa aa rfl nv rfl rfl rfl rfl
theorem H5:∀(s t:LuQ)(c:Nat),s.length=t.length->s.all qh=true->t.all qh=true->Op.bytesLess s t=decide (fL c s<fL c t)
 |[],[],c,_,_,_=>by simp[Op.bytesLess]
 | x::s,y::t,c,hl,hs,ht=>by
  simp only[List.length_cons,Nat.add_right_cancel_iff]at hl;simp only[List.all_cons,Z7]at hs ht;have hx:=mi.1 hs.1;have hy:=mi.1 ht.1
  have key:∀(s t:LuQ)(u v:Nat),s.length=t.length->s.all qh=true->u<v->fL u s<fL v t:=by
   intro s t u v hl hs h;have h1:=t6 s u hs;have h2:=Ft t v;rw[<-hl]at h2;have h3:(u+1)*10^s.length<=v*10^s.length:=Zv _ h;omega
  rw[ky,ky];have ey:y<x↔y.toNat<x.toNat:=UInt8.lt_iff_toNat_lt;rcases Nat.lt_trichotomy x.toNat y.toNat with h|h|h
  .have:=key s t (c*10+(x.toNat-48)) (c*10+(y.toNat-48)) hl hs.2 aa
   grind[Op.bytesLess]
  .have e:x=y:=UInt8.toNat_inj.1 h;subst e;rw[<-H5 s t _ hl hs.2 ht.2];simp[Op.bytesLess]
  .have:=key t s (c*10+(y.toNat-48)) (c*10+(x.toNat-48)) hl.symm ht.2 aa;rw[decide_eq_false aa]
   grind[Op.bytesLess]
theorem Ia(n:Nat):(ah n).all qh=true:=w5 _ _
theorem H4(h:ndg a=ndg b):Op.bytesLess (ah a) (ah b)=decide (a<b):=by rw[H5 (ah a) (ah b) 0 (by rw[ah,ah,bi,bi,h]) (Ia _) (Ia _),dY,dY]
theorem VR(h:ndg a<ndg b):a<b:=by
 rcases Zg a b with g|g
 .exact g
 .have:=cG g;omega
theorem FZ(h:a<b):Big.cmp a b = -1:=if_pos h
theorem F5(h:b<a):Big.cmp a b=1:=(if_neg aa).trans (if_pos h)
theorem cmp_eq:Big.cmp a a=0:=(if_neg aa).trans (if_neg aa)
theorem rP(ha:ndg a<1000000)(hb:ndg b<1000000):CP Y F.cj [S (ah a),S (ah b)] (I (Big.cmp a b)):=by
 refine Ak ?_;have la:=mA a;have lb:=mA b;by_cases hl:ndg a=ndg b
 .have h1:=H4 hl;have e1:biS .lss (S (ah a)) (S (ah b))=some (.d (.bool (decide (a<b)))):=by rw[<-h1];rfl
  have e2:biS .gtr (S (ah a)) (S (ah b))=some (.d (.bool (decide (b<a)))):=by
   have h3:(ah a == ah b)=decide (a=b):=by
    rw[X5];simp only[beq_iff_eq,decide_eq_true_eq];exact⟨o8,λh=>by rw[h]⟩
   have h4:decide (b<a) = !(decide (a<b)||decide (a=b)):=by
    rw[X5];simp only[decide_eq_true_eq,Y4,Bool.or_eq_false_iff,decide_eq_false_iff_not];omega
   rw[h4,<-h1,<-h3];rfl
  rw[hl]at la;by_cases g1:a<b
  .simp[cj,la,lb,e1,e2,g1]
   grind[aW,FZ]
  .by_cases g2:b<a
   .simp[cj,la,lb,e1,e2,g1,g2]
    grind[aW,F5]
   .simp[cj,la,lb,e1,e2,g1,g2]
    grind[aW,cmp_eq]
 .have hne:¬((ndg a:Int)=(ndg b:Int)):=aa;rcases Zg (ndg a) (ndg b)with h|h
  .have h3:=VR h;have m1:mxI true [.d (.int .i64 (-1)),I ((ndg a:Int)-ndg b)]=some (I (-1)):=by simp[mxI,mx2];omega
   have m2:mxI false [.d (.int .i64 1),I (-1)]=some (I (-1)):=rfl;simp(disch:=try exact af)[cj,la,lb,hne,m1,m2]
   grind[aW,FZ]
  .have h3:b<a:=VR aa;have m1:mxI true [.d (.int .i64 (-1)),I ((ndg a:Int)-ndg b)]=some (I ((ndg a:Int)-ndg b)):=by simp[mxI,mx2];omega
   have m2:mxI false [.d (.int .i64 1),I ((ndg a:Int)-ndg b)]=some (I 1):=by simp[mxI,mx2];omega
   simp(disch:=try exact af)[cj,la,lb,hne,m1,m2]
   grind[aW,F5]
theorem LN:1<Z:=aw
theorem T7{A D:LnQ}{n:Nat}(hA:A.length=n)(hD:D.length=n)(sA:aE Z A)(sD:aE Z D)(va:val Z A=a)(vb:val Z D=b)(hba:b<=a):
  val Z (jc 1 0 D (D.length+1) 0 0 0 (A++[0])).2=a-b∧aE Z (jc 1 0 D (D.length+1) 0 0 0 (A++[0])).2∧(jc 1 0 D (D.length+1) 0 0 0 (A++[0])).2.length=n+1:=by
 have sA0:aE Z (A++[0]):=rM sA (pT 1);have l2:=jN bE sD;rw[vb,hD]at l2
 obtain ⟨h1,h2,h3,h4⟩:=D9 (g:=1) (at_:=0) LN sD (D.length+1) 0 0 0 (A++[0]) bb bE (Y7 _) sA0 (by
  rw[Yj,vb,hD,W8,Zj,Nat.pow_succ];exact Z2 l2 (Y5 _ bE))
 have e2:val Z (A++[0])=a:=by rw[show([0]:LnQ)=List.replicate 1 0 from rfl,um,va]
 have hl:(jc 1 0 D (D.length+1) 0 0 0 (A++[0])).2.length=n+1:=by rw[h1.1];simp[hA]
 refine⟨?_,h2,hl⟩;have h5:=jN bE h2;rw[hl]at h5;rw[e2,Yj,vb,hD]at h4;rw[hD]at h3 h5 ⊢;generalize val Z (jc 1 0 D (n+1) 0 0 0 (A++[0])).2=x at *;generalize(jc 1 0 D (n+1) 0 0 0 (A++[0])).1=c at *;simp only[Zj,Nat.add_zero,Nat.pow_zero,W8]at h4;rcases Zb c with h|h
 .subst h;omega
 .have:c=1:=aa;subst this;rw[Yp]at h4;omega
theorem xA(hba:b<=a)(ha:ndg a<1000000):CP Y F.ie [S (ah a),S (ah b)] (.tup [S (ah (a-b)),I 0]):=by
 have hb:ndg b<1000000:=Ze (cG hba) ha;refine GR ?_;have bo:=DL a b;have dc:=rP ha hb
 have hc:¬Big.cmp a b<0:=by
  unfold Big.cmp;rw[if_neg aa];split<;>omega
 have hc2:(-1:Int)<=Big.cmp a b∧Big.cmp a b<=1:=by
  unfold Big.cmp;split
  .omega
  .split<;>omega
 generalize Big.cmp a b=cc at *;simp[ie];refine cd dc ?_;simp[hc];by_cases h18:ndg a<=18∧ndg b<=18
 .rw[if_pos h18]at bo;have g3:10^ndg a<=10^18:=Z3 ae h18.1;have b1:a<1000000000000000000:=Z2 (cJ a) g3;refine cd bo ?_;obtain⟨m,hm⟩:=mnQ (a-b);have em:(a:Int)-(b:Int)=(m:Int):=aa;rw[hm];simp(disch:=try exact af)[em];refine cd (Bf (n:=m) aa) ?_;exact bU rfl rfl
 rw[if_neg h18]at bo;obtain⟨ca,hca⟩:=nmQ (ndg a/9+1);obtain⟨cb,hcb⟩:=nmQ (ndg b/9+1);have cA:=tC (h:=[nnQ,nnQ,nnQ,nnQ,nnQ,nnQ,nnQ]) rfl (n:=a) aa hca;have LA:bZ a=ca∨bZ a+1=ca:=by rw[hca];exact DG
 have LB:bZ b=cb∨bZ b+1=cb:=by rw[hcb];exact DG
 have hle:bZ b<=bZ a:=(pG aw).2 (Ze hba (Jv a));have hli:∀h:Hp,fJ 1 [D.int .u64 0] [(0,V.d (D.int .u64 0))] h=some ([u6 0],h):=λh=>by simp[fJ,iS,kP,toD,u6]
 refine cd bo ?_;simp;refine om (gA (e:=0) (b:=.none) cA rfl ?_);rw[List.length_map,dj];simp[hli]
 have nv:NV [(1,.data 1 ((bz ca a).map u6) true false),nnQ,nnQ,nnQ,nnQ,nnQ,nnQ]:=by
  intro j x hj b';rcases Ww.2 ⟨j,hj⟩with hm;simp only[Zy,Yv,or_false]at hm;rcases hm with rfl|rfl|rfl|rfl|rfl|rfl|rfl<;>rfl
 refine Rq (s:=0) (t:=1) (n:=a) (c:=ca) aa rfl rfl LA aa λs1 e1 ex1 h1 l1 g1 hs1 o1=>?_
 have nv1:=nv.upd g1 o1;have k1:∀j,2<=j->h1[j]?=([(1,.data 1 ((bz ca a).map u6) true false),nnQ,nnQ,nnQ,nnQ,nnQ,nnQ]:Hp)[j]?:=λj hj=>o1 j aa
 have hr1:aN (.ref s1 e1 0 (bZ a+1) (bZ a+1) (bZ a+1))=some (I (bZ a+1:Nat)):=rfl
 have hb1:biI .sub (I ((bZ a+1:Nat):Int)) (.d (.int .i64 1))=some (I (bZ a)):=by
  rw[Av,show(((bZ a+1:Nat):Int)-1)=(bZ a:Int) by omega,tG aa aa]
 -- the second number,twice
 have cB:=tC (h:=h1) (nv1.all _) (n:=b) aa hcb;refine om (u:=.mk) (gA (e:=0) (b:=.none) cB (k1 2 aa) ?_);rw[List.length_map,dj];have l2:(h1.set 2 (1,.data 1 ((bz cb b).map u6) true false)).length=7:=by simp[l1]
 have n2:(2:Nat)<h1.length:=by rw[l1];simp
 have g2:(h1.set 2 (1,.data 1 ((bz cb b).map u6) true false))[2]?=some (1,.data 1 ((bz cb b).map u6) true false):=by simp[n2]
 have o2:∀j,j≠2->(h1.set 2 (1,.data 1 ((bz cb b).map u6) true false))[j]?=h1[j]?:=λj hj=>by rw[List.getElem?_set_ne (Ne.symm hj)]
 have nv2:=nv1.upd g2 o2;generalize h1.set 2 (1,.data 1 ((bz cb b).map u6) true false)=h2 at *
 show bnd (aN (.ref s1 e1 0 (bZ a+1) (bZ a+1) (bZ a+1))) _
 simp only[hr1,hb1,bnd];have cB2:=tC (h:=h2) (nv2.all _) (n:=b) aa hcb;refine om (u:=.mk) (gA (e:=0) (b:=.none) cB2 ((o2 3 ae).trans (k1 3 aa)) ?_);rw[List.length_map,dj];have n3:(3:Nat)<h2.length:=by rw[l2];simp
 have g3:(h2.set 3 (1,.data 1 ((bz cb b).map u6) true false))[3]?=some (1,.data 1 ((bz cb b).map u6) true false):=by simp[n3]
 have o3:∀j,j≠3->(h2.set 3 (1,.data 1 ((bz cb b).map u6) true false))[j]?=h2[j]?:=λj hj=>by rw[List.getElem?_set_ne (Ne.symm hj)]
 have nv3:=nv2.upd g3 o3;generalize h2.set 3 (1,.data 1 ((bz cb b).map u6) true false)=h3 at *;obtain⟨k,hk⟩:=nmQ (bZ a-bZ b);have hr2:aN (.ref 3 (0+1) 0 (bZ b) cb cb)=some (I (bZ b:Nat)):=rfl
 have hb2:biI .sub (I (bZ a:Int)) (I (bZ b:Int))=some (I k):=by
  rw[Av,show((bZ a:Int)-(bZ b:Int))=(k:Int) by omega,tG aa aa]
 simp only[show aN (V.ref 3 (0+1) 0 (dig Z b).length cb cb)=some (I (bZ b:Nat))from rfl,hb2];have q2:h3[2]?=some (1,.data 1 ((bz cb b).map u6) true false):=(o3 2 ae).trans g2;have q4:h3[4]?=some nnQ:=((o3 4 ae).trans (o2 4 ae)).trans (k1 4 aa)
 refine Ro (u:=.mk) (s:=2) (t:=4) aa q2 q4 LB aa λt1 s4 h4 l4 hs4 o4 ⟨e4,l4',ex4,g4⟩ rd=>?_
 have nv4:=nv3.upd g4 o4;have hss:s1≠s4:=by rcases hs1 with rfl|rfl<;>rcases hs4 with rfl|rfl<;>omega
 have h12:s1≠2∧s1≠3:=by rcases hs1 with rfl|rfl<;>omega
 have gs:h4[s1]?=some (e1,.data 1 ((dig Z a++[0]).map u6) ex1 false):=(((o4 s1 hss).trans (o3 s1 h12.2)).trans (o2 s1 h12.1)).trans g1;have lt4:=aY gs;have hdl:(dig Z b++List.replicate k 0).length=bZ a:=by simp only[Zq,Y8];show bZ b+k=_;omega
 have sD:aE Z (dig Z b++List.replicate k 0):=rM (cE aw b) (pT _);have vD:val Z (dig Z b++List.replicate k 0)=b:=by rw[um,iO aw]
 have rdS:=rd (λt=>∃l,t=sP h4 s1 e1 ex1 l) (λg ⟨l,hg⟩=>by rw[hg];unfold sP;rw[List.getElem?_set_ne hss]);obtain⟨c1,c2,c3⟩:=T7 (n:=bZ a) rfl hdl (cE aw a) sD (iO aw a) vD hba
 have bk:=KW (g:=1) (at_:=0) (tot:=bZ a+1) (l:=dig Z a++[0]) (ex:=ex1) (e:=e1) (s:=s1) (h:=h4) (nv4.all _) lt4 rdS sD LN (by rw[hdl];omega) aa (by simp[bZ]) (rM (cE aw a) (pT 1));rw[PF gs]at bk;refine om (u:=.mk) (gP bk ?_ ac);exact Hq nv4 lt4 c3 c1 c2 aa (λv=>.tup [v,I 0]) (λ_=>bU rfl rfl)
end Go.Vm
