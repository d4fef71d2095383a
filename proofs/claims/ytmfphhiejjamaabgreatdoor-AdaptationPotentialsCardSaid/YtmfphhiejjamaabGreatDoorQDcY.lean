/- Lemmas. -/
import Derived.Test.YtmfphhiejjamaabGreatDoorQDcX
set_option linter.unusedVariables false
set_option linter.unusedSimpArgs false
namespace Go.Vm
open Go Go.Am Go.Big
variable{j n2 w k q cap N a b d c:Nat}{ol' al':LnQ}{α:Type}{z:Int}
section
variable{H:Hp}{p7 p8 pa0 pb0 pb1:V}{n i:Nat}{L lD lB x0 x1 x2 y0 y1 D v hi:Nat}
theorem Oq(G:Gs Z L lD lB x0 x1 x2 y0 y1 D v hi)(hy1Z:y1<Z)(hhi:hi<Z*Z)(hn:2<=n)(hnb:n<Z)(hib:i<Z)
  (a1:ixV H 1 p7 (I ((i:Int)+(n:Int)-2))=some pa0) (a2:ld1 H pa0=some (U x0)) (b1:ixV H 1 p8 (I ((n:Int)-2))=some pb0) (b2:ld1 H pb0=some (U y0))
  (c1:ixV H 1 p8 (I ((n:Int)-1))=some pb1) (c2:ld1 H pb1=some (U y1)) (k:KL) (h0:Hp) (hh:h0.length=H.length) :
  ∀(N g r:Nat),g<=N->g*y1+r=hi->D/v<=g->(∀g':Nat,D/v<=g'->g'*v<D+v->g'<Z->k (.exit 4) [U g'] H) ->
  lp (bi (CX Y) p7 p8 (I n) (I i)) [] h0 [U g,U r] H k:=by
 intro N
 induction N with
 | zero=>
  intro g r hg0 he hq hk;have hZ:Z=1000000000:=rfl;simp only[hZ]at hhi hnb hib;have hg:g=0:=aa;have hr:r=hi:=by rw[hg]at he;omega
  have hnear:g*v<D+v:=by have:=G.pos;rw[hg,Wb];omega
  have hgZ:g<Z:=by rw[hg];decide
  have g0:¬(1000000000:Int)<=(g:Int):=aa;have p0:(g:Int)*(y0:Int)=0:=by rw[hg];simp
  have hx0:=G.hx0;simp only[hZ]at hx0;clear he;refine aj ?_;by_cases g1:(r:Int)<1000000000
  .have g3:¬(r:Int)*1000000000+x0<0:=aa;simp(disch:=try exact ag)[bi,a1,a2,b1,b2,g0,g1,p0,g3];exact hk g hq hnear hgZ
  .simp[bi,a1,a2,b1,b2,g0,g1];exact hk g hq hnear hgZ
 | succ N ih=>
  intro g r hgN he hq hk;rcases Zd g with hg0|hgp
  .exact ih g r aa he hq hk
  obtain⟨g,rfl⟩:∃g',g=g'+1:=⟨g-1,aa⟩;have hZ:Z=1000000000:=rfl;simp only[hZ]at hhi hnb hib;have hrb:r<=hi:=aa
  have hgb:g+1<=hi:=by
   have:=Zw (g+1) G.hy1;omega
  have he2:g*y1+(r+y1)=hi:=by rw[X5]at he;omega
  have hx0:=G.hx0;have hy0:=G.hy0;have go:D/v<=g->lp (bi (CX Y) p7 p8 (I n) (I i)) [] h0 [U g,U (r+y1:Nat)] H k:=fun hq2=>ih g (r+y1) aa he2 hq2 hk
  obtain⟨p,hp⟩:=nmQ ((g+1)*y0);have hpi:((g:Int)+1)*(y0:Int)=(p:Int):=by rw[hp];simp
  by_cases g1:(1000000000:Int)<=(g:Int)+1
  .have hq2:=G.far (g:=g+1) (by simp only[hZ];omega);have g1':=g1;have:=go aa;refine aj ?_;simp(disch:=try exact ag)[bi,g1',c1,c2,hh];simpa using this
  have g1':=g1;by_cases g2:(r:Int)<1000000000
  .have hpb:p<=1000000000*1000000000:=by rw[hp];exact Zn aa aa
   by_cases g3:(r:Int)*1000000000+x0<p
   .have hq2:=G.over he (by rw[<-hp];simp only[hZ];omega);have g3':=g3;have:=go aa;refine aj ?_;simp(disch:=try exact ag)[bi,a1,a2,b1,b2,g1',g2,hpi,g3',c1,c2,hh];simpa using this
   .have hn1:=G.near he (by simp only[hZ];omega) (by rw[<-hp];intro h;have:=h.2;simp only[hZ]at this;omega);have g3':=g3;refine aj ?_;simp(disch:=try exact ag)[bi,a1,a2,b1,b2,g1',g2,hpi,g3',c1,c2,hh];exact hk (g+1) hq hn1 (by simp only[hZ];omega)
  .have g2':=g2;have hn1:=G.near he (by simp only[hZ];omega) (fun h=>by have:=h.1;simp only[hZ]at this;omega);refine aj ?_;simp[bi,a1,a2,b1,b2,g1',g2',c1,c2,hh];exact hk (g+1) hq hn1 (by simp only[hZ];omega)
end
theorem Ht{clr:LnQ}:∀(i:Nat)(h0 h:Hp),h.length=h0.length->(∀j,dw clr (i+j)=false->∀x,h[j]?=some x->∃b,h0[j]?=some (x.1,b)∧x.2=.none)->au clr i h0 h=h
 | _,[],h,hl,_=>by
  have:h=[]:=Zf (by simpa using hl);subst this;rfl
 |i,x0::h0,[],hl,_=>by simp at hl
 | i,x0::h0,x::h,hl,hs=>by
  rw[vi,Ht (i+1) h0 h (by simpa using hl) (fun j hj y hy=>hs (j+1) (by rw[show i+(j+1)=i+1+j by omega];exact hj) y hy)];by_cases hc:dw clr i=true
  .rw[if_pos hc]
  .rw[if_neg hc];obtain⟨b,h1,h2⟩:=hs 0 (by simpa using hc) x rfl;simp only[List.getElem?_cons_zero,Z9]at h1;rw[h1];simp only;rw[<-h2]
theorem I9{clr:LnQ}:∀(i:Nat)(h:Hp),(∀x∈h,offB clr x.2=true)->qk clr i h=true
 |_,[],_=>rfl
 | i,x::h,hs=>by
  rw[jm,hs x af,I9 (i+1) h fun y hy=>hs y (by simp[hy])];simp
def dH(g:Hp)(sa:Nat)(exa:Bool)(al ol:LnQ):Hp:=sP (sP g 4 1 true ol) sa 1 exa al
structure DvH(g:Hp)(sa:Nat)(bl:LnQ):Prop where
 len:g.length=9
 sa:sa<2
 b:g[2]?=some (1,.data 1 (bl.map u6) true false)
 c5:g[5]?=some nnQ
 c6:g[6]?=some nnQ
 off:∀x∈g,offB [5,6] x.2=true
 und:(g.all fun x=>bW 9 x.2)=true
variable{g:Hp}{sa:Nat}{exa:Bool}{al ol bl:LnQ}
theorem OG(G:DvH g sa bl):(dH g sa exa al ol).length=9:=by simp[dH,G.len]
theorem aew(G:DvH g sa bl):(dH g sa exa al ol)[sa]?=some (1,.data 1 (al.map u6) exa false):=sY (by have:=G.sa;simp[G.len];omega)
theorem aev(G:DvH g sa bl):(dH g sa exa al ol)[2]?=some (1,.data 1 (bl.map u6) true false):=by have:=G.sa;rw[dH,sP,List.getElem?_set_ne aa,sP,List.getElem?_set_ne aa,G.b]
theorem aeu(G:DvH g sa bl):(dH g sa exa al ol)[4]?=some (1,.data 1 (ol.map u6) true false):=by have:=G.sa;rw[dH,sP,List.getElem?_set_ne aa];exact sY (by rw[G.len];decide)
theorem agk(hj:j=5∨j=6)(G:DvH g sa bl):(dH g sa exa al ol)[j]?=some nnQ:=by
 have:=G.sa;rw[dH,sP,List.getElem?_set_ne aa,sP,List.getElem?_set_ne aa];rcases hj with rfl|rfl
 .exact G.c5
 .exact G.c6
theorem abk(G:DvH g sa bl):(dH g sa exa al ol).set 4 (1,.data 1 (ol'.map u6) true false)=dH g sa exa al ol':=by have:=G.sa;rw[dH,sP,List.set_comm _ _ aa];simp[dH,sP]
theorem WV(G:DvH g sa bl):∀x∈dH g sa exa al ol,offB [5,6] x.2=true:=by
 intro x hx;rcases Yq hx with h|h
 .rcases Yq h with h|h
  .exact G.off x h
  .rw[h];rfl
 .rw[h];rfl
theorem MF(G:DvH g sa bl){ex':Bool}:au [5,6] 0 (dH g sa ex' al' ol') (dH g sa exa al ol)=dH g sa exa al ol:=by
 refine Ht 0 _ _ (by rw[OG G,OG G]) fun j hj x hx=>?_
 have hj2:j=5∨j=6:=by
  simp only[Zp,vq,BE,Y4,beq_lit]at hj;by_cases h5:j=5
  .exact .inl h5
  .by_cases h6:j=6
   .exact .inr h6
   .exfalso;simp[Ne.symm h5,Ne.symm h6]at hj
 rw[agk hj2 G]at hx;cases hx;exact⟨.none,agk hj2 G,rfl⟩
theorem agj(G:DvH g sa bl){n:Nat}(hbl:bl.length=n+1):RdS (fun t=>∃l,t=sP (sP g 4 1 true ol) sa 1 exa l) (.ref 2 1 0 n (n+1) (n+1)) (bl.take n):=by
 have e1:(bl.take n).length=n:=by simp;omega
 refine⟨by rw[e1];rfl,?_⟩;rintro t i ⟨l,rfl⟩ hi;have hb:=aev (exa:=exa) (al:=l) (ol:=ol) G;refine⟨.ptr 2 1 i (n+1),?_,?_⟩
 .have:=CW hb hbl.symm (len:=n) (cap:=n+1) (i:=(i:Int)) aa aa .i64
  rwa [Int.toNat_natCast]at this
 .rw[ES aa];exact Jr hb hbl.symm aa
theorem WH{l:LnQ}{n:Nat}(h:l.length=n+2):l.drop n=[nth 0 l n,nth 0 l (n+1)]:=by rw[Z0 aa,Z0 aa,Zb aa,aN _ _ _ aa,aN _ _ _ aa]
theorem af6{al db:LnQ}{i:Nat}(hsa:aH Z al)(hsb:aH Z db)(hdl:db.length=n2+2)(hi:i+db.length<al.length)(hy:0<nth 0 db (n2+1))(hD:val Z (al.drop i)<Z*val Z db):
  Gs Z (Z^n2) (val Z ((al.drop i).take n2)) (val Z (db.take n2)) (nth 0 al (i+n2)) (nth 0 al (i+n2+1)) (nth 0 al (i+n2+2)) (nth 0 db n2) (nth 0 db (n2+1)) (val Z (al.drop i)) (val Z db) (nth 0 al (i+n2+2)*Z+nth 0 al (i+n2+1)):=by
 have hvb:=jE (B:=Z) bB hsb
 have hDlt:val Z (al.drop i)<Z^(n2+3):=by
  rw[Nat.pow_succ,Zt (Z^(n2+2)),<-hdl];exact Nat.lt_trans hD (Nat.mul_lt_mul_of_pos_left hvb bB)
 have htop:val Z (al.drop (i+n2+3))=0:=by
  rw[show i+n2+3=i+(n2+3) by omega,<-List.drop_drop];exact Kx bB hDlt
 have e1:=mE (B:=Z) (al.drop i) n2 (by grind);rw[List.drop_drop,qC al (i+n2),qC al (i+n2+1),qC al (i+n2+1+1),htop,Nat.mul_zero]at e1;simp only[Nat.add_zero]at e1;have e2:=mE (B:=Z) db n2 aa;rw[WH hdl]at e2;have l1:=jE (B:=Z) bB ((hsa.drop i).take n2);have l2:=jE (B:=Z) bB (hsb.take n2)
 rw[Zr,Yv (by grind)]at l1;rw[Zr,Yv aa]at l2;refine⟨bB,?_,?_,l1,l2,hsa.getD bB _,hsb.getD bB _,hy,hD⟩
 .rw[e1]
  show _=val Z ((al.drop i).take n2)+Z^n2*(al.getD (i+n2) 0+Z*(al.getD (i+n2+2) 0*Z+al.getD (i+n2+1) 0))
  grind
 trivial
variable{g:Hp}{sa:Nat}{exa:Bool}{bl db:LnQ}{n M m A:Nat}
theorem MD(G:DvH g sa bl)(hdb:bl.take n=db)(hbl:bl.length=n+1)(hsb:aH Z db)(hn:2<=n)(hnb:n<Z)(hM:M=m+n)(hMb:M<100000000)(hy:0<nth 0 db (n-1))(al0 ol0:LnQ)(k:KL) :
  ∀(i:Nat)(al ol:LnQ),i<=m->al.length=M->ol.length=m->aH Z al->aH Z ol->val Z (al.drop i)<val Z db->val Z al+val Z db*val Z ol=A->(∀j,j<i->nth 0 ol j=0) ->
  (∀al' ol',al'.length=M->ol'.length=m->aH Z al'->aH Z ol'->val Z al'<val Z db->val Z al'+val Z db*val Z ol'=A->k (.exit 2) [] (dH g sa exa al' ol')) ->
  lp (dt (CX Y) (.ref sa 1 0 M M M) (.ref 2 1 0 n (n+1) (n+1)) (I n) (.ref 4 1 0 m m m)) [5,6] (dH g sa exa al0 ol0) [I ((i:Int)-1)] (dH g sa exa al ol) k
 | 0,al,ol,hi,hal,hol,hsa,hso,hD,hA,hz,hk=>by
  refine aj ?_;simp[dt]
  grind
 | i+1,al,ol,hi,hal,hol,hsa,hso,hD,hA,hz,hk=>by
  have hdl:db.length=n:=by rw[<-hdb];simp;omega
  obtain⟨n2,hn2⟩:∃n2,n=n2+2:=⟨n-2,aa⟩;have hZ:Z=1000000000:=rfl
  have hD2:val Z (al.drop i)<Z*val Z db:=by
   rw[qC];have h1:=hsa.getD bB i;have h2:=Zw Z hD;rw[Nat.mul_succ]at h2;omega
  have Gq:=af6 (i:=i) hsa hsb (n2:=n2) aa aa (by rw[show n2+1=n-1 by omega];exact hy) hD2;have e0:((i+1:Nat):Int)-1=(i:Int):=aa;obtain⟨x0,hx0⟩:=mnQ (nth 0 al (i+n2));obtain⟨x1,hx1⟩:=mnQ (nth 0 al (i+n2+1));obtain⟨x2,hx2⟩:=mnQ (nth 0 al (i+n2+2));obtain⟨y0,hy0⟩:=mnQ (nth 0 db n2);obtain⟨y1,hy1⟩:=mnQ (nth 0 db (n2+1))
  have hx1Z:x1<Z:=by rw[<-hx1];exact hsa.getD bB _
  have hx2Z:x2<Z:=by rw[<-hx2];exact hsa.getD bB _
  have hy1Z:y1<Z:=by rw[<-hy1];exact hsb.getD bB _
  rw[hx0,hx1,hx2,hy0,hy1]at Gq;obtain⟨hi_,hhi⟩:=mnQ (x2*Z+x1);rw[hhi]at Gq
  have hhib:hi_<Z*Z:=by
   have:=Zz Z (show x2+1<=Z by omega);rw[Nat.add_mul]at this;omega
  have nb:∀j,j<n->nth 0 bl j=nth 0 db j:=fun j hj=>by rw[<-hdb,ES hj]
  have rA:=fun(j:Nat)(hj:j<M)=>CW (aew (exa:=exa) (al:=al) (ol:=ol) G) hal.symm (len:=M) (cap:=M) (i:=(j:Int)) aa aa .i64
  have lA:=fun(j:Nat)(hj:j<M)=>Jr (aew (exa:=exa) (al:=al) (ol:=ol) G) hal.symm (j:=j) aa
  have rB:=fun(j:Nat)(hj:j<n)=>CW (aev (exa:=exa) (al:=al) (ol:=ol) G) hbl.symm (len:=n) (cap:=n+1) (i:=(j:Int)) aa aa .i64
  have lB:=fun(j:Nat)(hj:j<n)=>Jr (aev (exa:=exa) (al:=al) (ol:=ol) G) hbl.symm (j:=j) aa
  simp only[Int.toNat_natCast]at rA rB;have a0:=rA (i+n2) aa;have a0l:=lA (i+n2) aa;have a1:=rA (i+n2+1) aa;have a1l:=lA (i+n2+1) aa;have a2:=rA (i+n2+2) aa;have a2l:=lA (i+n2+2) aa;have b0:=rB n2 aa;have b0l:=lB n2 aa;have b1:=rB (n2+1) aa;have b1l:=lB (n2+1) aa;rw[hx0]at a0l;rw[hx1]at a1l;rw[hx2]at a2l
  rw[nb _ aa,hy0]at b0l;rw[nb _ aa,hy1]at b1l;have s0:((i+n2:Nat):Int)=(i:Int)+(n:Int)-2:=aa;have s1:((i+n2+1:Nat):Int)=(i:Int)+(n:Int)-1:=aa;have s2:((i+n2+2:Nat):Int)=(i:Int)+(n:Int):=aa;have t0:((n2:Nat):Int)=(n:Int)-2:=aa;have t1:((n2+1:Nat):Int)=(n:Int)-1:=aa;rw[s0]at a0;rw[s1]at a1;rw[s2]at a2;rw[t0]at b0;rw[t1]at b1
  have hy1p:0<y1:=Gq.hy1;have e3:(x2:Int)*1000000000+(x1:Int)=(hi_:Int):=by simp only[hZ]at hhi;omega
  obtain⟨q0,hq0⟩:=mnQ (hi_/y1);obtain⟨r0,hr0⟩:=mnQ (hi_%y1);have e4:(hi_:Int)/(y1:Int)=(q0:Int):=by rw[<-hq0];simp
  have e5:(hi_:Int)%(y1:Int)=(r0:Int):=by rw[<-hr0];simp
  have hdm:q0*y1+r0=hi_:=by rw[<-hq0,<-hr0,Zt];exact Yf hi_ y1
  have hq0b:q0<=hi_:=by rw[<-hq0];exact Yu ..
  have hn0:¬((y1:Int)=0):=aa;have hhib2:hi_<1000000000000000000:=by simp only[hZ]at hhib;omega
  have hx2b:x2<1000000000:=by simp only[hZ]at hx2Z;omega
  have hx1b:x1<1000000000:=by simp only[hZ]at hx1Z;omega
  have hnb2:n<1000000000:=by simp only[hZ]at hnb;omega
  have fst:=Gq.first
  rw[hq0]at fst;refine aj ?_;rw[e0];simp(disch:=try exact ag)[dt,a1,a1l,a2,a2l,b1,b1l,e3,hn0,Zx,Zs,e4,e5];refine lo (Oq Gq hy1Z hhib hn hnb aa a0 a0l b0 b0l b1 b1l _ _ rfl q0 q0 r0 (Z7 _) hdm fst fun g' hg1 hg2 hg3=>?_);simp only[iP]
  have hl9:(sP g 4 1 true ol).length=9:=by simp[G.len]
  have hu:((sP g 4 1 true ol).all fun x=>bW (sP g 4 1 true ol).length x.2)=true:=by rw[hl9];exact Bp G.und
  have hsa2:sa<(sP g 4 1 true ol).length:=by rw[hl9];have:=G.sa;omega
  have rd:=agj (exa:=exa) (ol:=ol) G hbl;rw[hdb]at rd;obtain⟨w,hw⟩:=mnQ ((jb g' i db (db.length+1) 0 0 0 al).1);obtain⟨l1,hl1⟩:=mnQ ((jb g' i db (db.length+1) 0 0 0 al).2);obtain⟨l2,hl2⟩:=mnQ (rF i db (db.length+1) 0 0 l1);obtain⟨⟨k1,k2⟩,k3,k4⟩:=MC (i:=i) hsa hsb aa hg3 hD2 hg2 hg1 hw hl1 hl2
  have tk:=KE (at_:=i) (g:=g') (tot:=M) hu hsa2 rd hsb hg3 aa aa hal hsa;rw[hw,hl1]at tk;have bk:=MZ (at_:=i) (tot:=M) (l:=l1) hu hsa2 rd hsb aa aa aa k2;rw[hl2]at bk;have hvs:=fun q=>xC (B:=Z) ol i q aa
  have hz0:ol.getD i 0=0:=hz i aa
  have go:∀(q:Nat)(l:LnQ),aH Z l->l.length=al.length->l.take i=al.take i->q=val Z (al.drop i)/val Z db->val Z (l.drop i)=val Z (al.drop i)%val Z db ->
    lp (dt (CX Y) (.ref sa 1 0 M M M) (.ref 2 1 0 n (n+1) (n+1)) (I n) (.ref 4 1 0 m m m)) [5,6] (dH g sa exa al0 ol0) [I ((i:Int)-1)] (dH g sa exa l (ol.set i q)) k:=by
   intro q l c1 c2 c3 c4 c5;have hvp:=Gq.pos;have hqZ:q<Z:=by rw[c4];exact(Xt hvp).2 hD2
   refine MD G hdb hbl hsb hn hnb hM hMb hy al0 ol0 k i l (ol.set i q) aa aa (by grind) c1 (hso.set hqZ) (by rw[c5];exact Y7 _ hvp) ?_ (fun j hj=>by rw[yV aa];exact hz j aa) hk;have h1:=hvs q;rw[hz0,Nat.mul_zero,Nat.add_zero]at h1;have h2:=mE (B:=Z) l i aa;have h3:=mE (B:=Z) al i aa
   have h4:=Yf (val Z (al.drop i)) (val Z db);rw[<-c4,<-c5]at h4;rw[c3]at h2;rw[h1,h2,<-hA,h3,<-h4,Zq,Zq,Y1 (val Z db) (Z^i)];omega
  clear hk hA hz;have r4:=fun l=>CW (aeu (exa:=exa) (al:=l) (ol:=ol) G) hol.symm (len:=m) (cap:=m) (i:=(i:Int)) aa aa .i64
  have r5:=fun l=>Ra (aeu (exa:=exa) (al:=l) (ol:=ol) G) hol.symm (j:=i) aa
  simp only[abk G,Int.toNat_natCast]at r4 r5;refine pT tk ?_ af;rw[show sP (sP g 4 1 true ol) sa 1 exa l1=dH g sa exa l1 ol from rfl];rcases Zd w with w0|wp
  .obtain⟨d1,d2,d3,d4,d5⟩:=k3 w0;have gg:=go g' l1 d1 d2 d3 d4 d5;have w1:¬0<w:=aa;have r6:=r5 l1 g';have r7:=r4 l1;simp only[jn];simp(disch:=try exact ag)[w1,r7,r6];refine⟨?_,?_⟩
   .rw[clean,I9 0 _ (WV G)];rfl
   .rw[MF G];exact gg
  .obtain⟨d1,d2,d3,dg,d4,d5⟩:=k4 wp;have gg:=go (g'-1) l2 d1 d2 d3 d4 d5;obtain⟨g2,hg2'⟩:=mnQ (g'-1);rw[hg2']at gg;have e6:(g':Int)-1=(g2:Int):=aa;have hg2Z:(g2:Int)<18446744073709551616:=by simp only[hZ]at hg3;omega
   have r6:=r5 l2 g2;have r7:=r4 l2;simp only[jn];simp(disch:=try exact ag)[wp,e6];refine jC (pT bk ?_ af);rw[show sP (sP g 4 1 true ol) sa 1 exa l2=dH g sa exa l2 ol from rfl];simp(disch:=try exact ag)[r7,r6];refine⟨?_,?_⟩
   .rw[clean,I9 0 _ (WV G)];rfl
   .rw[MF G];exact gg
theorem BQ{n:Nat}(h:n<Z^w):bg (w+1) n=bg w n++[0]:=by
 have h1:aH Z (bg w n++[0]):=(vA w n).snoc bB
 grind[DK,Kn,xr,Zm,cT]
theorem V0{n:Nat}(h:n<Z^w):iN (bg w n)=dig Z n:=by rw[<-rR ax (vA w n),xr w n h]
theorem nK{n:Nat}(h:n<Z^w):(bg w n).take (dig Z n).length=dig Z n:=by grind[V0,Bl]
theorem zC(n:Nat):n<Z^(dig Z n).length:=(pN ax).1 (Z7 _)
theorem iL{n:Nat}(h:n<Z^k):(dig Z n).length<=k:=(pN ax).2 h
theorem VA{n:Nat}(h:Z^k<=n):k<(dig Z n).length:=by grind[pN,ax]
theorem WQ{n:Nat}(h:0<n):Z^((dig Z n).length-1)<=n:=by
 rcases Zi n (Z^((dig Z n).length-1))with h1|h1
 .have:=iL h1
  grind[Z]
 omega
theorem Pd{n:Nat}(h:(dig Z n).length=k+1):Z^k*nth 0 (dig Z n) k<=n∧n<Z^k*(nth 0 (dig Z n) k+1)∧0<nth 0 (dig Z n) k:=by
 have e:=mE (B:=Z) (dig Z n) k aa;rw[iS ax,Z0 aa,Zb aa]at e;have hn:nth 0 (dig Z n) k=(dig Z n)[k]:=aN _ _ _ aa;rw[<-hn]at e;simp only[val,Nat.mul_zero,Nat.add_zero]at e;have l:=jE (B:=Z) bB ((cJ ax n).take k);rw[Zr,Yv aa]at l
 refine⟨aa,by grind,?_⟩;rcases Zd (nth 0 (dig Z n) k)with h0|h0
 .rw[h0,Nat.mul_zero,Nat.add_zero]at e;have:=iL (n:=n) (k:=k) aa;omega
 omega
theorem Si{y f:Nat}(h:(dig Z q).length=k+1)(hy:nth 0 (dig Z q) k=y)(hf:Z/(y+1)=f)(hk:1<=k):0<f∧f<Z∧q*f<Z^(k+1):=by
 obtain⟨h1,h2,h3⟩:=Pd h;rw[hy]at h1 h2 h3;have hyZ:y<Z:=by rw[<-hy];exact(cJ ax q).getD bB k
 have hf0:0<f:=by rw[<-hf];exact V4 aa aa
 have hfy:f*(y+1)<=Z:=by rw[<-hf];exact Ws ..
 refine⟨hf0,?_,?_⟩
 .have:=Zw f (show 2<=y+1 by omega);omega
 .have h4:q*f<Z^k*(y+1)*f:=Yb h2 hf0;have h5:Z^k*(y+1)*f=Z^k*(f*(y+1)):=by rw[Nat.mul_assoc,Zt (y+1)]
  have h6:=Zw (Z^k) hfy;rw[Nat.pow_succ];omega
theorem KD{l:LnQ}(h:aH Z l):l.take (dig Z (val Z l)).length=dig Z (val Z l):=by grind[rR,ax,Bl]
theorem aab{α:Type}{l:List α}{i:Nat}{x:α}(h:l[i]?=some x):l.set i x=l:=by
 refine X8 fun j=>?_
 by_cases hj:j=i
 .grind
 .rw[List.getElem?_set_ne (Ne.symm hj)]
variable{P Q n p f M W9 sa:Nat}{exa:Bool}{hA:Hp}
theorem CE(hn:(dig Z Q).length=n)(h2:2<=n)(hp:(dig Z P).length=p)(hnp:n<=p)(hpb:p<10000000)(f0:0<f)(fZ:f<Z)(fQ:Q*f<Z^n)(hVe:W9=P*f)(hM:(dig Z W9).length+1=M)(hMp:p<M)
  (A9:hA.length=9) (Au:(hA.all fun x=>bW 9 x.2)=true) (Ao:∀x∈hA,offB [5,6] x.2=true) (A2:hA[2]?=some nnQ) (A4:hA[4]?=some nnQ) (A5:hA[5]?=some nnQ) (A6:hA[6]?=some nnQ) (sa2:sa<2) (Aa:hA[sa]?=some (1,.data 1 ((bg M W9).map u6) exa false)) :
  cai (CX Y).i hA (V.fn F.cj [] []) [lst u6 (dig Z Q),V.d (D.int IntKind.u64 ↑f)] 2
      fun v10 h=>
      bnd (bj v10) fun v11=>
       lp (kA (CX Y) (lst u6 (dig Z P))) [] h [.ref sa 1 0 M M M] h
        (exK
         [(Exit.exit 0,fun l12 h=>
           bnd (bj (ge l12 0)) fun v13=>
            bnd (biI BinOp.sub v13 v11) fun v14=>
             mkS 4 8 [D.int IntKind.u64 0] h v14 v14 fun v15 h=>
              bnd (bj (ge l12 0)) fun v16=>
               bnd (biI BinOp.sub v16 v11) fun v17=>
                bnd (biI BinOp.sub v17 (V.d (D.int IntKind.i64 1))) fun v18=>
                 lp (dt (CX Y) (ge l12 0) v10 v11 v15) [5,6] h [v18] h
                  (exK
                   [(Exit.exit 2,fun l19 h=>
                     cai (CX Y).i h (V.fn F.ay [] []) [ge l12 0] 7 fun v20 h=>
                      cal (CX Y).p h (V.fn F.cU [] [])
                       [v20,V.d (D.int IntKind.u64 ↑f)] fun v21 h=>
                       ext v21 0 fun v22=>
                        ext v21 1 fun v23=>
                         cai (CX Y).i h (V.fn F.ay [] []) [v15] 8 fun v24 h=>
                          out (V.tup [lst u6 (dig Z (P/Q)),lst u6 (dig Z (P%Q))])
                           (V.tup [v24,v22]) h)]))]):=by
 have hQ1:Z^(n-1)<=Q:=by
  rw[<-hn];refine WQ ?_;rcases Zd Q with h|h
  .subst h;rw[show(dig Z 0).length=0 from rfl]at hn;omega
  .exact h
 have hQf:(dig Z (Q*f)).length=n:=by
  have h1:=iL fQ;have h3:=VA (n:=Q*f) (k:=n-1) (Zu hQ1 (Y5 Q f0));omega
 have hQfs:Q*f<Z^(n+1):=Z1 fQ (Z4 bB aa);have sc:=EA (h:=hA) (t0:=lst u6 (dig Z Q)) (da:=dig Z Q) (f:=f) (N:=n+1) (by grind) fZ f0 (Nc _ _) (cJ ax Q) aa aa;rw[iS ax,hQf]at sc;refine fe (e:=0) (b:=.none) sc A2 ?_;have hbl:(bg (n+1) (Q*f)).length=n+1:=cT ..
 have hdb:(bg (n+1) (Q*f)).take n=dig Z (Q*f):=by
  have:=nK hQfs
  rwa [hQf]at this
 obtain⟨bl,hble⟩:=mnQ (bg (n+1) (Q*f));rw[hble]at hbl hdb;rw[hble,List.length_map,hbl];obtain⟨g,hg⟩:=mnQ (hA.set 2 (0+1,.data 1 (bl.map u6) true false));rw[hg]
 have G:DvH g sa bl:=by
  rw[<-hg];refine⟨by grind,sa2,by grind,by grind,by grind,fun x hx=>?_,?_⟩
  .rcases Yq hx with h|h
   .grind
   .rw[h];rfl
  .exact Bp (s:=2) (e:=1) Au
 have g4:g[4]?=some nnQ:=by rw[<-hg];simp[A4]
 have ga:g[sa]?=some (1,.data 1 ((bg M W9).map u6) exa false):=by rw[<-hg,List.getElem?_set_ne aa];exact Aa
 have hVp:p<=(dig Z W9).length:=aa
 have hMp1:M<=p+2:=by
  have:W9<Z^(p+1):=by
   rw[hVe,Nat.pow_succ];have:=zC P;rw[hp]at this;exact Nat.mul_lt_mul_of_lt_of_lt this fZ
  have:=iL this;omega
 obtain⟨m,hm⟩:∃m,M=m+n:=⟨M-n,aa⟩;have lP:bj (lst u6 (dig Z P))=some (I (dig Z P).length):=rfl;have c1:¬((M:Int)<=((dig Z P).length:Int)):=aa;have c2:(M:Int)-(n:Int)=(m:Int):=aa;simp;refine lo (aj ?_);simp(disch:=try exact ag)[kA,lP,c1,c2,g4]
 have hd:g.set 4 (1,Bk.data 1 (List.replicate m (D.int IntKind.u64 0)) true false)=dH g sa exa (bg M W9) (List.replicate m 0):=by
  have e1:(List.replicate m (D.int IntKind.u64 0))=(List.replicate m 0).map u6:=by simp[u6]
  have e2:(sP g 4 1 true (List.replicate m 0))[sa]?=some (1,.data 1 ((bg M W9).map u6) exa false):=by
   rw[sP,List.getElem?_set_ne aa];exact ga
  show _=(sP g 4 1 true (List.replicate m 0)).set sa (1,.data 1 ((bg M W9).map u6) exa false)
  rw[aab e2,e1];rfl
 rw[hd]
 have hWlt:W9<Z^(m+(n-1)):=by
  have:=zC W9
  rwa [show(dig Z W9).length=m+(n-1) by omega]at this
 have hWM:W9<Z^M:=Z1 hWlt (Z4 bB aa);have hQfv:val Z (dig Z (Q*f))=Q*f:=iS ax _;have hZ:Z=1000000000:=rfl
 refine lo (MD (A:=W9) (n:=n) (M:=M) (m:=m) G hdb hbl (cJ ax _) h2 aa hm aa (Pd (n:=Q*f) (k:=n-1) aa).2.2 _ _ _ m (bg M W9) (List.replicate m 0) (Z7 _) (cT ..) af (vA M W9) (fun x hx=>by grind) ?_ (by grind[oW,xr]) (fun j hj=>by grind[aN]) fun al' ol' q1 q2 q3 q4 q5 q6=>?_)
 .have e1:=mE (B:=Z) (bg M W9) m (by grind[cT]);rw[xr _ _ hWM]at e1;rw[Y6]at hWlt;rw[hQfv];have h3:Z^m*val Z ((bg M W9).drop m)<Z^m*Z^(n-1):=aa;have h4:=W5 h3;have h5:=Y5 Q f0;omega
 .simp only[iP];rw[hQfv]at q5 q6
  have hQ0:0<Q:=by
   have:=Yj (n:=n-1) bB;omega
  have hQf0:0<Q*f:=Yx hQ0 f0
  have hq:val Z ol'=P/Q:=by
   have:(P*f)/(Q*f)=val Z ol':=by
    rw[<-hVe,<-q6,Yr _ _ hQf0,Wr q5,Zp]
   rw[<-this,Nat.mul_div_mul_right _ _ f0]
  have hr:val Z al'=f*(P%Q):=by
   have:(P*f)%(Q*f)=val Z al':=by
    rw[<-hVe,<-q6,Xu,Yk q5]
   rw[<-this,Nat.mul_mod_mul_right,Zt]
  have l9:(dH g sa exa al' ol').length=9:=OG G;have hu:((dH g sa exa al' ol').all fun x=>bW (dH g sa exa al' ol').length x.2)=true:=by rw[l9];exact Bp (Bp G.und)
  have ha:=aew (exa:=exa) (al:=al') (ol:=ol') G;have tr:=uu hu ha q1.symm (len:=M) (cap:=M) (Z7 _) aa (Z7 _);have hta:iN (al'.take M)=dig Z (val Z al'):=by rw[Z6 aa,rR ax q3]
  rw[hta]at tr;refine pT tr ?_ af
  have hla:(dig Z (val Z al')).length<=M:=by
   have:=jE (B:=Z) bB q3;rw[q1]at this;exact iL this
  have sn:=wL ha q1.symm (len:=(dig Z (val Z al')).length) (cap:=M) hla (Z7 _);have htk:=KD q3;rw[htk]at sn;obtain⟨h1,hh1⟩:=mnQ ((dH g sa exa al' ol').set sa (1,.data 1 (al'.map u6) exa true));rw[hh1]at sn;have sm:=He (a:=val Z al') (n:=f) aa f0 aa
  refine cdz (u:=.mk) (ds:=[lst u6 (dig Z (val Z al')),U f]) (h':=h1) (by simp_all[aS]) sm ?_;rw[show fN (.tup [pcs (val Z al'/f),U (val Z al'%f:Nat)])=false from rfl];have h1o:h1[4]?=some (1,.data 1 (ol'.map u6) true false):=by rw[<-hh1,List.getElem?_set_ne aa];exact aeu G
  have h1u:(h1.all fun x=>bW h1.length x.2)=true:=by
   have e:h1.length=9:=by rw[<-hh1,List.length_set,l9]
   rw[e,<-hh1,Zv];intro x hx;rcases Yq hx with h|h
   .grind
   .rw[h];rfl
  have tr2:=uu h1u h1o q2.symm (len:=m) (cap:=m) (Z7 _) aa (Z7 _);have hto:iN (ol'.take m)=dig Z (P/Q):=by rw[Z6 aa,<-hq,rR ax q4]
  rw[hto]at tr2
  show ext _ 0 _
  simp;refine jC (pT tr2 ?_ af)
  have hlo:(dig Z (P/Q)).length<=m:=by
   have:=jE (B:=Z) bB q4;rw[q2,hq]at this;exact iL this
  have sn2:=wL h1o q2.symm (len:=(dig Z (P/Q)).length) (cap:=m) hlo (Z7 _);have htk2:=KD q4;rw[hq]at htk2;rw[htk2]at sn2;have hrr:val Z al'/f=P%Q:=by rw[hr,Xo _ f0]
  rw[hrr];exact aG sn2 (Ek _ _ _)
theorem abS{s s' e e' L n k by_ tot:Nat}{b':Bk}{old cs:LdQ}{fr:Bool}{h:Hp}{q:kkQ}{u:PU q}(hg:h[s]?=some (e,.data n old true fr))(hs':h[s']?=some (e',b'))(ht:tot=L*n)(hold:old.length=L*n)(hcs:cs.length=k*n)(hb:(L+k)*by_<=140737488355328)
  (h0:k=0->q (.ref s e 0 L L tot) h) (h1:0<k->q (.ref s' (e'+1) 0 (L+k) (L+k) (L*n+cs.length)) (h.set s' (e'+1,.data n (old++cs) false false))):rh (apV false s' n by_ (.ref s e 0 L L tot) (.d (.sl k cs)) h) q u:=by
 unfold rh apV;simp only[cellsOf];rw[if_pos hcs];unfold apC;by_cases hk:k=0
 .grind
 .rw[if_neg hk];simp only[eG hg];rw[if_pos ⟨trivial,aa,Z7 _,aa,hcs⟩,if_neg aa,if_pos hb];simp only[if_true,new,hs',Zj];rw[Z6 aa];exact h1 aa
theorem OU{s s' e len cap:Nat}{old:LnQ}{x:Nat}{ex:Bool}{h:Hp}{q:kkQ}{u:PU q}(hg:h[s]?=some (e,.data 1 (old.map u6) ex false))(hold:old.length=cap)(hl:len<cap)
  (hq:q (.ref s e 0 (len+1) cap cap) (h.set s (e,.data 1 ((old.take len++[x]++old.drop (len+1)).map u6) ex false))):rh (apV false s' 1 8 (.ref s e 0 len cap cap) (.d (.sl 1 [u6 x])) h) q u:=by
 unfold rh apV;simp only[cellsOf];rw[if_pos af];unfold apC;rw[if_neg aa];simp only[eG hg];rw[if_pos ⟨trivial,by grind,aa,by grind,af⟩,if_pos aa]
 simp_all
theorem QP{s s' e e' cap:Nat}{b':Bk}{old:LnQ}{x:Nat}{h:Hp}{q:kkQ}{u:PU q}(hg:h[s]?=some (e,.data 1 (old.map u6) true false))(hs':h[s']?=some (e',b'))(hold:old.length=cap)(hb:cap<1000000000000)
  (hq:q (.ref s' (e'+1) 0 (cap+1) (cap+1) (cap+1)) (h.set s' (e'+1,.data 1 ((old++[x]).map u6) false false))):rh (apV false s' 1 8 (.ref s e 0 cap cap cap) (.d (.sl 1 [u6 x])) h) q u:=by
 refine abS (L:=cap) (old:=old.map u6) hg hs' aa (by grind) rfl aa (fun h=>by omega) fun _=>?_
 simp only[Yc,List.length_singleton];rw[show old.map u6++[u6 x]=(old++[x]).map u6 by simp];exact hq
theorem OB{P Q:Nat}(h2:2<=(dig Z Q).length)(hle:(dig Z Q).length<=(dig Z P).length)(hb:(dig Z P).length<10000000):CP Y F.dF [pcs P,pcs Q] (.tup [pcs (P/Q),pcs (P%Q)]):=by
 refine uM ?_;obtain⟨k,hk⟩:∃k,(dig Z Q).length=k+1:=⟨(dig Z Q).length-1,aa⟩;obtain⟨y,hy⟩:=mnQ (nth 0 (dig Z Q) k);obtain⟨f,hf⟩:=mnQ (Z/(y+1));obtain⟨f0,fZ,fQ⟩:=Si hk hy hf aa;have hZ:Z=1000000000:=rfl;have hyZ:y<Z:=by rw[<-hy];exact(cJ ax Q).getD bB k
 have hyb:y<1000000000:=by simp only[hZ]at hyZ;omega
 obtain⟨n,hn⟩:=mnQ ((dig Z Q).length);obtain⟨p,hp⟩:=mnQ ((dig Z P).length);have e1:=fun h:Hp=>kv u6 (dig Z Q) h (k:=.i64) (i:=(k:Int)) aa aa
 have e2:=fun h:Hp=>E5 (dig Z Q) h (j:=k) aa
 rw[hy]at e2;simp only[Int.toNat_natCast]at e1;have e3:((dig Z Q).length:Int)-1=(k:Int):=aa
 have e4:(1000000000:Int)/((y:Int)+1)=(f:Int):=by
  rw[<-hf,hZ];simp
 have y0:¬((y:Int)+1=0):=aa;have lQ:bj (pcs Q)=some (I (dig Z Q).length):=rfl;have lP:bj (pcs P)=some (I (dig Z P).length):=rfl;simp(disch:=try exact ag)[dF,lQ,e3,adP,e1,e2,y0,Zs,e4];obtain⟨W9,hW⟩:=mnQ (P*f)
 have hP1:Z^(p-1)<=P:=by
  rw[<-hp];refine WQ ?_;rcases Zd P with h|h
  .subst h;have h0:(dig Z 0).length=0:=rfl;omega
  .exact h
 have hW1:p-1<(dig Z W9).length:=VA (by rw[<-hW];exact Zu hP1 (Y5 P f0))
 have hW2:W9<Z^(p+1):=by
  rw[<-hW,Nat.pow_succ];have:=zC P;rw[hp]at this;exact Nat.mul_lt_mul_of_lt_of_lt this fZ
 have hW3:=iL hW2
 have hli:∀h:Hp,cO 1 [D.int .u64 0] [(0,V.d (D.int IntKind.u64 0))] h=some ([u6 0],h):=fun h=>by
  rfl
 have sc:=EA (h:=[nnQ,nnQ,nnQ,nnQ,nnQ,nnQ,nnQ,nnQ,nnQ]) (t0:=lst u6 (dig Z P)) (da:=dig Z P) (f:=f) (N:=p+1) rfl fZ f0 (Nc _ _) (cJ ax P) aa aa;rw[iS ax,hW]at sc;refine jC (fe (e:=0) (b:=.none) sc rfl ?_);simp[hli];have hNl:(bg (p+1) W9).length=p+1:=cT ..
 rcases Zi (dig Z W9).length (p+1)with hc|hc
 .have hl:(dig Z W9).length=p:=aa;have hWp:W9<Z^p:=by have:=zC W9;rwa [hl]at this
  have hcell:(bg (p+1) W9).take p++[0]++(bg (p+1) W9).drop (p+1)=bg (p+1) W9:=by
   rw[Zb aa,BQ hWp,Xy (cT ..),Y8]
  rw[hl,hNl];refine OU (x:=0) (ex:=true) rfl hNl aa ?_;rw[hcell];refine CE (M:=p+1) (exa:=true) hn aa hp aa aa f0 fZ (by grind) hW.symm aa aa rfl rfl ?_ rfl rfl rfl rfl aa rfl;intro x hx;simp only[List.set_cons_zero,Zo,Ys,or_false]at hx
  rcases hx with rfl|rfl|rfl|rfl|rfl|rfl|rfl|rfl|rfl<;>rfl
 .have hl:(dig Z W9).length=p+1:=aa;have hcell:bg (p+1) W9++[0]=bg (p+2) W9:=(BQ hW2).symm;rw[hl,hNl];refine QP (x:=0) (e':=0) (b':=.none) rfl rfl hNl aa ?_;rw[hcell];refine CE (M:=p+2) (exa:=false) hn aa hp aa aa f0 fZ (by grind) hW.symm aa aa rfl rfl ?_ rfl rfl rfl rfl aa rfl;intro x hx
  simp only[List.set_cons_zero,List.set_cons_succ,Zo,Ys,or_false]at hx;rcases hx with rfl|rfl|rfl|rfl|rfl|rfl|rfl|rfl|rfl<;>rfl
@[simp]theorem afa(a:Acc)(n:Nat)(c:LdQ):a.v (n+1) c=.ref a.s (a.e+1) 0 (n+1) (n+1) c.length:=id rfl
@[simp]theorem afb(a:Acc)(n:Nat)(c:LdQ):a.b (n+1) c=(a.e+1,.data a.n c false false):=id rfl
theorem A7(k:Nat):Z^k=10^(9*k):=by rw[Xc];rfl
theorem Ou{n:Nat}(h2:n<18446744073709551616):CP Y F.dY [U n,I 10] (S (ai n)):=by
 refine vw ?_;have hd1:=md n;have hd2:ndg n<=20:=cN aa aa;have hn:=cY n;by_cases hs:(n:Int)<100
 .simp(disch:=try exact ag)[dY,hs];refine cd (KM (n:=n) aa) ?_;exact fD rfl
 .have hn0:0<n:=aa;have hit:ai n=dS n (ndg n):=rfl;have hlo:=BH n hn0;generalize ndg n=d at *
  obtain ⟨mid,post,hm,hp,hcell⟩:∃mid post:LdQ,mid.length=d∧post.length=24-d∧List.replicate 24 (D.int .u8 0)=[]++(mid++post):=by
   refine⟨List.replicate d (.int .u8 0),List.replicate (24-d) (.int .u8 0),af,af,?_⟩;rw[List.replicate_append_replicate,show d+(24-d)=24 by omega];rfl
  simp[dY,hs];refine cd (Ab hlo hn hd1 h2) ?_;simp only[List.replicate]at hcell;rw[hcell];rw[show[(1,Bk.data 1 ([]++(mid++post)) true false),nnQ]=cH ([]++(mid++post))from rfl];rw[IH bK d rfl aa];simp;refine pT (h':=cH ([]++((dS n d).map u8++post))) (acE (pre:=[]) rfl hm aa aa hn h2) ?_ af
  rw[IH (by simp[bh];omega) d rfl aa];simp;rw[OH (bs:=dS n d) (by simp[bh];omega) aa (by simp[bh,List.take_append,Z6]) (by simp[bh])];rw[hit]
  try simp
  exact fD rfl
theorem Mi{n:Nat}(h:n<18446744073709551616):CP Y F.gN [U n,I 10] (S (ai n)):=by refine zh ?_;simp[gN];refine cd (Ou h) ?_;exact fD rfl
theorem yU{n:Nat}(h:n<18446744073709551616):CP Y F.iM [U n] (S (ai n)):=by refine JI ?_;simp[iM];refine cd (Mi h) ?_;exact fD rfl
theorem xX:∀(l:LuQ)(a:Nat),pW a l=fE a l
 |[],_=>rfl
 |c::l,a=>xX l _
theorem digit_eq(c:UInt8):oN c=qt c:=by simp only[oN,qt];rw[Xz];simp
theorem Rz{n:Nat}(h:n<10000000000000000000):CP Y F.fH [S (ai n),I 10,I 64] (.tup [U n,.d (.pl .nilIface)]):=by
 have hd:=dZ n;have hc:=tA n
 have hl:(ai n).length<=1000:=by
  have:=cN (n:=n) (d:=19) aa ae;rw[ai,bh];omega
 simp only[qR,Z8]at hc
 have hall:(ai n).all oN=true:=by
  rw[<-hc.1.2];congr 1;funext c;exact digit_eq c
 have ho:Y.X.orc F.fH [.string ⟨⟨ai n⟩⟩,.int .i64 10,.int .i64 64]=some (.tuple #[.int .u64 n,.nilIface]):=by
  have e:∀a,Y.X.orc F.fH a=Lh a:=fun a=>by
   show(match Nat.beq F.fH F.fH with|true=>Lh a|false=>none)=_
   rw[X7]
  rw[e];unfold Lh;simp only;rw[if_pos ⟨trivial,trivial,xp n,hall,hl,by rw[xX,hd];exact h⟩,xX,hd]
 exact CP.orc ho (by intro x hx;simp only[Zo,Ys,or_false]at hx;rcases hx with rfl|rfl|rfl<;>rfl) rfl
theorem xF{n:Nat}(h:n<10000000000000000000):CP Y F.jh [S (ai n)] (.tup [U n,B true]):=by refine C4 ?_;simp[jh];refine cd (Rz h) ?_;simp[Jc];exact aG (zK _ _) rfl
theorem kZ(n:Nat):nS (S (ai n))=some (I (ndg n)):=by
 show some (I (ai n).length)=_
 rw[ai,bh]
theorem DU(a b:Nat):CP Y F.fU [S (ai a),S (ai b)] (if ndg a<=18∧ndg b<=18 then .tup [U a,U b,B true]else .tup [U 0,U 0,B false]):=by
 refine FG ?_;have la:=kZ a;have lb:=kZ b;by_cases h1:18<ndg a
 .rw[if_neg aa];simp(disch:=try exact ag)[fU,la,lb,h1];exact jY (zK _ _) (zK _ _) rfl
 by_cases h2:18<ndg b
 .rw[if_neg aa];simp(disch:=try exact ag)[fU,la,lb,h1,h2];exact jY (zK _ _) (zK _ _) rfl
 .rw[if_pos aa];have ha:a<10000000000000000000:=by have:=cY a;have:=Z4 (n:=10) ae (show ndg a<=18 by omega);omega
  have hb:b<10000000000000000000:=by have:=cY b;have:=Z4 (n:=10) ae (show ndg b<=18 by omega);omega
  simp(disch:=try exact ag)[fU,la,lb,h1,h2];refine cd (xF ha) ?_;simp;refine cd (xF hb) ?_;simp;exact jY (zK _ _) (zK _ _) rfl
theorem acO(l:LuQ)(h:Hp)(k:kkQ):cvB (S l) h k=k (lst u8 l) h:=rfl
variable{h:Hp}
theorem WX{C0:Nat}(l:LuQ)(hl:l.length<=9)(hd:l.all qt=true)(k:KL)(h0 H:Hp)(hh:h0.length=H.length):∀(q p:LuQ),p++q=l->k (.exit 2) [U (fE 0 l:Nat)] H ->
  lp (pP (CX Y) h.length (lst u8 l) (I l.length)) [] h0 [U (fE 0 p:Nat),I p.length] H k
 | []=>by
  intro p hp hk;simp at hp;subst hp;refine aj ?_;simp[pP];exact hk
 | c::q=>by
  intro p hp hk;have hpl:p.length<l.length:=by subst hp;simp
  have hc:nth 0 l p.length=c:=by subst hp;simp
  have hcd:qt c=true:=by
   rw[Zv]at hd;exact hd c (by subst hp;simp)
  rw[mA]at hcd
  have hpd:p.all qt=true:=by
   rw[Zv]at hd ⊢;exact fun x hx=>hd x (by subst hp;simp[hx])
  have e1:=fun h:Hp=>kv u8 l h (k:=.i64) (i:=(p.length:Int)) aa aa
  have e2:=fun h:Hp=>aC u8 0 l h (j:=p.length) hpl
  rw[hc]at e2;simp only[Int.toNat_natCast]at e1;have hb:=uG p 0 hpd
  have hb2:fE 0 p<1000000000:=by
   have:=Z4 (n:=10) ae (show p.length<=8 by omega);omega
  have e3:fE 0 (p++[c])=10*fE 0 p+(c.toNat-48):=by
   rw[vy];simp only[fE,List.foldl_cons,List.foldl_nil];omega
  have ih:=WX (C0:=C0) l hl hd k h0 H hh q (p++[c]) (by simpa using hp) hk;rw[e3]at ih;obtain⟨t,ht⟩:=mnQ (fE 0 p);rw[ht]at ih hb2 ⊢;have e4:(10:Int)*(t:Int)+((c.toNat:Int)-48)=((10*t+(c.toNat-48):Nat):Int):=aa;obtain⟨t2,ht2⟩:=mnQ (10*t+(c.toNat-48));rw[ht2]at ih e4;have hcb:=hcd.1;have hcb2:=hcd.2;refine aj ?_
  simp(disch:=try exact ag)[pP,e1,e2,u8,e4];simpa[hh]using ih
def cuH(h:Hp)(l:LnQ):Hp:=h++[(1,.data 1 (l.map u6) true false),nnQ,nnQ]
theorem QF(h:Hp)(l:LnQ):(cuH h l)[h.length]?=some (1,.data 1 (l.map u6) true false):=by simp[cuH]
theorem abq(h:Hp)(l l':LnQ):(cuH h l).set h.length (1,.data 1 (l'.map u6) true false)=cuH h l':=by simp[cuH]
@[simp]theorem abr(h:Hp)(l:LnQ):(cuH h l).length=h.length+3:=by simp[cuH]
theorem WW(T:LuQ)(cap:Nat)(hL:T.length<9000000000)(k:KL)(h0:Hp)(hh:h0.length=h.length+3):∀(w n:Nat)(E:Int)(d:LnQ),(0<w->E=w)->(w=0->E<=0)->-20<=E->T.take w=dS n w->w<=T.length->d.length+(w+8)/9<=cap->cap<1000000000000->n<10^w->aH Z d ->
  (∀d':LnQ,aH Z d'->d'.length<=cap->val Z d'=val Z d+Z^d.length*n->k (.exit 0) [.ref h.length 1 0 d'.length cap cap] (cuH h (d'++List.replicate (cap-d'.length) 0))) ->
  lp (pQ (CX Y) h.length (S T)) [] h0 [.ref h.length 1 0 d.length cap cap,I E] (cuH h (d++List.replicate (cap-d.length) 0)) k:=by
 intro w
 induction w using Nat.strongRecOn with
 | _ w ih=>
  intro n E d hE1 hE0 hEl hT hwT hw hcap hn hs hk;by_cases h0w:w=0
  .subst h0w;have hE:=hE0 rfl;have g:¬0<E:=aa;simp at hn;subst hn;refine aj ?_;simp[pQ,g];exact hk d hs aa af
  .obtain rfl:=hE1 aa
   obtain ⟨v,u,hv1,hv9,hvw,hu,huv⟩:∃v u:Nat,1<=v∧v<=9∧w=u+v∧mx2 true 0 ((w:Int)-9)=u∧(u=0∨v=9):=by
    by_cases h9:w<=9
    .exact⟨w,0,aa,h9,aa,by simp[mx2];omega,.inl rfl⟩
    .exact⟨9,w-9,aa,aa,aa,by simp[mx2];omega,.inr rfl⟩
   have hD:=AR v u n;rw[<-hvw]at hD;have hlu:=bh u (n/10^v)
   have e1:(T.take w).drop u=dS (n%10^v) v:=by
    rw[hT,hD,Wd hlu];have:=AQ v (n%10^v) (n/10^v);rw[Xk]at this;exact this
   have e2:T.take u=dS (n/10^v) u:=by
    have:T.take u=(T.take w).take u:=by rw[List.take_take,Yv aa]
    rw[this,hT,hD,Xy hlu]
   have hp:0<10^v:=Yj ae;have hm:=Y7 n hp
   have hZv:10^v<=Z:=by
    have:10^v<=10^9:=Z4 ae hv9;exact this
   have hnu:n/10^v<10^u:=Wl (by rw[hvw,V3,Y6]at hn;exact hn)
   have hval:n%10^v+Z*(n/10^v)=n:=by
    have:=Xk n (10^v);rcases huv with rfl|rfl
    .rw[Nat.pow_zero]at hnu;have h3:n/10^v=0:=Nat.lt_one_iff.1 hnu;rw[h3]at this ⊢;simpa using this
    .exact this
   have hdc:d.length<cap:=aa
   have ihh:=ih u aa (n/10^v) ((w:Int)-9) (d++[n%10^v]) (fun h=>by rcases huv with h1|h1<;>omega) (fun h=>by omega) aa e2 aa bK hcap hnu (hs.snoc (Z1 hm hZv)) (fun d' h1 h2 h3=>hk d' h1 h2 (by
    rw[h3,Kn,Zm,List.length_singleton,Nat.pow_succ,Nat.mul_assoc,Xd,<-Zq,hval]))
   have hr:=xU v (n%10^v) hm;have hall:=xv v (n%10^v);have hlv:=bh v (n%10^v)
   have esl:slS (S T) (some (I u)) (some (I w))=some (S (dS (n%10^v) v)):=by
    rw[ND u w rfl rfl aa hwT,<-e1,List.drop_take]
   obtain⟨r,hre⟩:=mnQ (n%10^v);rw[hre]at esl hr hall hlv ihh;generalize dS r v=L at *
   have hli:∀h:Hp,cO 1 [D.int .u64 0] [(0,U r)] h=some ([u6 r],h):=fun h=>by
    simp[cO,jv,iH,toD,u6]
   have hcell:(d++List.replicate (cap-d.length) 0).take d.length++[r]++(d++List.replicate (cap-d.length) 0).drop (d.length+1)=(d++[r])++List.replicate (cap-(d++[r]).length) 0:=by
    rw[Xy rfl]
    have:List.replicate (cap-d.length) 0=0::List.replicate (cap-d.length-1) 0:=by
     rw[<-List.replicate_succ];congr 1;omega
    rw[this,<-List.drop_drop,Wd rfl];rw[show cap-d.length-1=cap-(d++[r]).length by simp;omega];simp
   have hcl:(d++List.replicate (cap-d.length) 0).length=cap:=by simp;omega
   have aw:=QF h (d++List.replicate (cap-d.length) 0);have gp:0<(w:Int):=aa;clear hk ih hval;refine aj ?_;simp(disch:=try exact ag)[pQ,gp,mxI,hu,esl];rw[acO];simp;refine lo (WX (C0:=0) L aa hall _ _ _ rfl L [] rfl ?_);rw[hr];simp[hli];refine OU aw hcl hdc ?_;rw[hcell,abq];simp(disch:=try exact ag)[hh]
   simpa using ihh
theorem T7{s by_:Nat}{z:D}{h:Hp}{i e:Nat}{b:Bk}{k:kkQ}{u:PU k}(hs:h[s]?=some (e,b))(hb:(by_:Int)*i<=281474976710656)(h1:(i:Int)<=9223372036854775807)
  (hk:k (.ref s (e+1) 0 0 i i) (h.set s (e+1,.data 1 (List.replicate i z) true false))):rh (mkS s by_ [z] h (.d (.int .i64 0)) (.d (.int .i64 i))) k u:=by unfold rh;simp only[mkS];rw[if_pos ⟨Xl _,aa,af,hb,h1⟩];simp only[new,hs,EJ,Zh,Int.toNat_natCast];exact hk
theorem tv(hu:(h.all fun x=>bW h.length x.2)=true){n:Nat}(hb:ndg n<900000000)(hcap:cap=ndg n/9+1):
  CI Y F.cW [S (ai n)] h (.new 1 ((bg cap n).map u6) true (dig Z n).length cap) h:=by
 refine GE ?_;have hl:=kZ n;have hlT:(ai n).length=ndg n:=by rw[ai,bh]
 have e1:((ndg n:Nat):Int)/9+1=(cap:Int):=aa
 have e3:(h++[(1,Bk.data 1 (List.replicate cap (D.int IntKind.u64 0)) true false),nnQ,nnQ])=cuH h ([]++List.replicate (cap-([]:LnQ).length) 0):=by
  simp[cuH,u6]
 have e4:(h++[(0,Bk.none),(0,Bk.none),(0,Bk.none)]).set h.length (1,Bk.data 1 (List.replicate cap (D.int IntKind.u64 0)) true false)=cuH h ([]++List.replicate (cap-([]:LnQ).length) 0):=by
  simp[cuH,u6]
 have hcap2:cap<1000000000000:=aa;simp(disch:=try exact ag)[cW,hl,Zs,e1];refine T7 (e:=0) (b:=.none) af aa aa ?_;simp[hl]
 try rw[e4]
 try rw[e3]
 refine lo (WW (ai n) cap aa _ _ (abr ..) (ndg n) n (ndg n) [] (fun _=>rfl) (fun h=>by have:=md n;omega) aa (by rw[<-hlT,Wq];rw[hlT];rfl) aa bK hcap2 (cY n) (fun x hx=>by cases hx) fun d hs hdl hv=>?_);simp only[iP];have hv':val Z d=n:=by rw[hv];simp[val]
 obtain⟨o,ho⟩:=mnQ (d++List.replicate (cap-d.length) 0);have hol:o.length=cap:=by rw[<-ho];simp;omega
 have hos:aH Z o:=by
  rw[<-ho];exact hs.append fun x hx=>by rw[List.mem_replicate]at hx;rw[hx.2];exact bB
 have hov:val Z o=n:=by rw[<-ho,ZJ,hv']
 rw[ho];have hfix:o=bg cap n:=by rw[<-hov,<-hol];exact DK o hos
 have hu2:((cuH h o).all fun x=>bW (cuH h o).length x.2)=true:=by
  have hm:(h.all fun x=>bW (cuH h o).length x.2)=true:=OV af hu;rw[cuH,Yp,<-cuH,hm];rfl
 have htk:o.take d.length=d:=by rw[<-ho,Xy rfl]
 have tr:=uu hu2 (QF h o) hol.symm (len:=d.length) (cap:=cap) (Z7 _) hcap2 hdl;rw[htk,<-rR ax hs,hv']at tr;refine pT tr ?_ af;rw[<-hfix];refine⟨by simp[cuH],by simpa using hu,.inr (.inr (.inl ⟨h.length,1,_,cap,1,o.map u6,true,by simp[hol],Z7 _,by simp[aw,cuH],rfl⟩))⟩
variable{h:Hp}{s e tot:Nat}{l:LuQ}{ex fr:Bool}
theorem ix8(hg:h[s]?=some (e,.data 1 (l.map u8) ex fr))(ht:tot=l.length){len:Nat}{i:Int}(h0:0<=i)(h1:i<len)(k:IntKind):ixV h 1 (.ref s e 0 len cap tot) (.d (.int k i))=some (.ptr s e i.toNat tot):=by grind[ixV,eG]
theorem ld8(hg:h[s]?=some (e,.data 1 (l.map u8) ex fr))(ht:tot=l.length)(hj:j<l.length):ld1 h (.ptr s e j tot)=some (.d (u8 (nth 0 l j))):=by
 have e1:tot=(l.map u8).length:=by simp[ht]
 grind[ld1,eG,aN]
theorem st8(hg:h[s]?=some (e,.data 1 (l.map u8) ex false))(ht:tot=l.length)(hj:j<l.length)(x:UInt8):st h 1 (.ptr s e j tot) (.d (u8 x))=some (h.set s (e,.data 1 ((l.set j x).map u8) ex false)):=by
 have e1:(l.map u8).take j++[u8 x]++(l.map u8).drop (j+1)=(l.set j x).map u8:=by
  rw[List.map_set,Ya,if_pos (by grind)];simp
 simp only[st,if_true,sto,eG hg,iH,toD];rw[if_pos ⟨trivial,by grind,by grind⟩];simp only[bS,List.length_singleton];rw[<-e1];rfl
theorem ap8{s' cap len:Nat}{x:UInt8}{q:kkQ}{u:PU q}(hg:h[s]?=some (e,.data 1 (l.map u8) ex false))(hold:l.length=cap)(hl:len<cap)
  (hq:q (.ref s e 0 (len+1) cap cap) (h.set s (e,.data 1 ((l.take len++[x]++l.drop (len+1)).map u8) ex false))):rh (apV false s' 1 1 (.ref s e 0 len cap cap) (.d (.sl 1 [u8 x])) h) q u:=by
 unfold rh apV;simp only[cellsOf];rw[if_pos af];unfold apC;rw[if_neg aa];simp only[eG hg];rw[if_pos ⟨trivial,by grind,aa,by grind,af⟩,if_pos aa]
 simp_all
def s8(h:Hp)(s e:Nat)(ex:Bool)(l:LuQ):Hp:=h.set s (e,.data 1 (l.map u8) ex false)
theorem TG{h:Hp}{s e:Nat}{ex:Bool}{l:LuQ}(hs:s<h.length):(s8 h s e ex l)[s]?=some (e,.data 1 (l.map u8) ex false):=by simp[s8,hs]
theorem TF{h:Hp}{s e:Nat}{ex:Bool}{l l':LuQ}:(s8 h s e ex l).set s (e,.data 1 (l'.map u8) ex false)=s8 h s e ex l':=by simp[s8]
@[simp]theorem ahN{h:Hp}{s e:Nat}{ex:Bool}{l:LuQ}:(s8 h s e ex l).length=h.length:=by simp[s8]
theorem UU{l:LuQ}{m n:Nat}{v:UInt8}(hm:m<l.length):nth 0 (l.set m v) n=if m=n then v else nth 0 l n:=by grind[nth]
theorem T9{h:Hp}{s e tot:Nat}{ex:Bool}(hs:s<h.length){L:Nat}(hL:L<=tot)(htb:tot<1000000000000)(l0:LuQ)(k:KL)(h0:Hp)(hh:h0.length=h.length):
  ∀(r i:Nat)(l:LuQ),L<=2*i+r->2*i<=L+1->l.length=tot->(∀m,m<L->(m<i∨L-1-m<i)->nth 0 l m=nth 0 l0 (L-1-m))->(∀m,m<L->i<=m->i<=L-1-m->nth 0 l m=nth 0 l0 m)->(∀m,L<=m->nth 0 l m=nth 0 l0 m) ->
  (∀l':LuQ,l'.length=tot->(∀m,m<L->nth 0 l' m=nth 0 l0 (L-1-m))->(∀m,L<=m->nth 0 l' m=nth 0 l0 m)->k (.exit 0) [] (s8 h s e ex l')) ->
  lp (dJ (CX Y) h.length (.ref s e 0 L cap tot)) [] h0 [I i,I ((L:Int)-1-i)] (s8 h s e ex l) k:=by
 intro r
 induction r with
 | zero=>
  intro i l hr hi hl h1 h2 h3 hk;refine aj ?_;have g:¬((i:Int)<(L:Int)-1-i):=aa;simp[dJ,g];exact hk l hl (fun m hm=>h1 m hm aa) h3
 | succ r ih=>
  intro i l hr hi hl h1 h2 h3 hk;by_cases g:i+i+1<L
  .obtain⟨j,hj⟩:=mnQ (L-1-i);have g':((i:Int)<(L:Int)-1-i):=aa;have ej:(L:Int)-1-i=(j:Int):=aa;have hgt:=TG (e:=e) (ex:=ex) (l:=l) hs;have a1:=ix8 hgt hl.symm (len:=L) (cap:=cap) (i:=(j:Int)) aa aa .i64;have a2:=ld8 hgt hl.symm (j:=j) aa;have b1:=ix8 hgt hl.symm (len:=L) (cap:=cap) (i:=(i:Int)) aa aa .i64
   have b2:=ld8 hgt hl.symm (j:=i) aa;have b3:=st8 hgt hl.symm (j:=i) aa (nth 0 l j);rw[TF]at b3;have hgt2:=TG (e:=e) (ex:=ex) (l:=l.set i (nth 0 l j)) hs;have c1:=ix8 hgt2 (by simpa using hl.symm) (len:=L) (cap:=cap) (i:=(j:Int)) aa aa .i64;have c3:=st8 hgt2 (by simpa using hl.symm) (j:=j) bK (nth 0 l i);rw[TF]at c3
   simp only[Int.toNat_natCast]at a1 b1 c1
   have nn:∀m,nth 0 ((l.set i (nth 0 l j)).set j (nth 0 l i)) m=if j=m then nth 0 l i else if i=m then nth 0 l j else nth 0 l m:=fun m=>by
    rw[UU bK,UU aa]
   have ihh:=ih (i+1) ((l.set i (nth 0 l j)).set j (nth 0 l i)) aa aa (by simpa using hl) (fun m hm hc=>by
    rw[nn];by_cases e1:j=m
    .rw[if_pos e1,h2 i aa (Z7 _) aa];congr 1;omega
    .rw[if_neg e1];by_cases e2:i=m
     .rw[if_pos e2,h2 j aa aa aa];congr 1;omega
     .rw[if_neg e2];exact h1 m hm aa) (fun m hm hc hc2=>by
    rw[nn,if_neg aa,if_neg aa];exact h2 m hm aa aa) (fun m hm=>by
    rw[nn,if_neg aa,if_neg aa];exact h3 m hm) hk
   have e2:(j:Int)-1=(L:Int)-1-((i+1:Nat):Int):=aa;rw[<-e2]at ihh;clear hk ih;refine aj ?_;rw[ej]at g' ⊢;simp(disch:=try exact ag)[dJ,g',a1,a2,b1,b2,b3,c1,c3];simpa[hh]using ihh
  .refine aj ?_;have g':¬((i:Int)<(L:Int)-1-i):=aa;simp[dJ,g']
   exact hk l hl (fun m hm=>by
    by_cases hc:m<i∨L-1-m<i
    .exact h1 m hm hc
    .rw[h2 m hm aa aa];congr 1;omega) h3
theorem aio{x y:LuQ}(hl:x.length=y.length)(h:∀c,c<x.length->nth 0 x c=nth 0 y c):x=y:=by grind[Wp,aN]
theorem aaj{h:Hp}(hu:(h.all fun x=>bW h.length x.2)=true){s e tot:Nat}{ex:Bool}(hs:s<h.length){L:Nat}(hL:L<=tot)(htb:tot<1000000000000){l:LuQ}(hl:l.length=tot):
  CI Y F.bP [.ref s e 0 L cap tot] (s8 h s e ex l) (.tup []) (s8 h s e ex ((l.take L).reverse++l.drop L)):=by
 refine sQ ?_;simp(disch:=try exact ag)[bP];have e1:(L:Int)-1=(L:Int)-1-((0:Nat):Int):=aa;rw[e1]
 have:=T9 (h:=h) (s:=s) (e:=e) (ex:=ex) hs (cap:=cap) hL htb l (exK [(.exit 0,fun l3 h_1=>qN (List.length (s8 h s e ex l)) (.tup []) (s8 h s e ex ((l.take L).reverse++l.drop L)) (.tup []) h_1)]) (s8 h s e ex l) af L 0 l aa aa hl (fun m hm hc=>by omega) (fun m _ _ _=>rfl) (fun m _=>rfl) fun l' hl' h1 h2=>by
  have hE:l'=(l.take L).reverse++l.drop L:=by
   refine aio (by grind) fun c hc=>?_
   by_cases hcL:c<L
   .rw[h1 c hcL,aN _ _ _ aa,aN _ _ _ (by grind)]
    grind
   .rw[h2 c aa,aN _ _ _ aa,aN _ _ _ (by grind)]
    grind
  subst hE;simp only[iP];refine⟨(Z6 af).symm,?_,.inl ⟨rfl,rfl⟩⟩;rw[Zv]at hu ⊢;intro x hx;rcases Yq hx with h|h
  .simpa using hu x h
  .rw[h];rfl
 trivial
def tH(l:LuQ):Hp:=[(1,.data 1 (l.map u8) true false),nnQ,nnQ]
theorem SX(l:LuQ):(tH l)[0]?=some (1,.data 1 (l.map u8) true false):=rfl
@[simp]theorem ahC(l:LuQ):(tH l).length=3:=rfl
theorem SV(l l':LuQ):(tH l).set 0 (1,.data 1 (l'.map u8) true false)=tH l':=rfl
theorem Pf{p:LnQ}{i N:Nat}(hi:i<p.length)(hp:p.length<100000000)(hN:N<1000000000000)(k:KL)(h0:Hp)(hh:h0.length=3):∀(w j x:Nat)(bs:LuQ),
  (i+1<p.length∧j+w=9∨¬i+1<p.length∧j+w<=9∧x<10^w∧(0<w->10^(w-1)<=x))->x<1000000000->bs.length+w<=N ->
  k (.exit 2) [.ref 0 1 0 (bs.length+w) N N] (tH (bs++(dS x w).reverse++List.replicate (N-(bs.length+w)) 0)) ->
  lp (cZ (CX Y) (lst u6 p) (I i)) [] h0 [.ref 0 1 0 bs.length N N,U x,I j] (tH (bs++List.replicate (N-bs.length) 0)) k
 | 0,j,x,bs=>by
  intro hc hx hb hk;have lp':bj (lst u6 p)=some (I p.length):=rfl;refine aj ?_;rcases hc with⟨g1,g2⟩|⟨g1,g2,g3,g4⟩
  .have g5:¬((j:Int)<9):=aa;simp[cZ,g5]
   grind[dS]
  .have x0:x=0:=by simpa using g3
   subst x0;have g1':¬((i:Int)+1<(p.length:Int)):=aa;by_cases g5:(j:Int)<9
   .simp(disch:=try exact ag)[cZ,g5,lp',g1']
    grind[dS]
   .simp[cZ,g5]
    grind[dS]
 | w+1,j,x,bs=>by
  intro hc hx hb hk;have lp':bj (lst u6 p)=some (I p.length):=rfl;have g5:(j:Int)<9:=aa;have hdg:u8 (dg (x%10))=.int .u8 (48+((x%10:Nat):Int)):=O5 (Y7 _ ae);obtain⟨m,hm⟩:=mnQ (x%10);obtain⟨d,hd⟩:=mnQ (x/10);have hm10:m<10:=aa;have e1:(x:Int)%10=(m:Int):=aa;have e2:(x:Int)/10=(d:Int):=aa;rw[hm]at hdg
  have hdec:(dS x (w+1)).reverse=dg m::(dS d w).reverse:=by rw[dS,hd,hm];simp
  have ih:=Pf hi hp hN k h0 hh w (j+1) d (bs++[dg m]) (by
   rcases hc with⟨g1,g2⟩|⟨g1,g2,g3,g4⟩
   .exact .inl ⟨g1,aa⟩
   .refine .inr ⟨g1,aa,?_,fun hw=>?_⟩
    .omega
    .have:=g4 aa;rw[<-hd,W8 ae,<-Nat.pow_succ,show(w-1).succ=w+1-1 by omega];omega) aa (by grind) (by
   grind)
  have hcell:(bs++List.replicate (N-bs.length) 0).take bs.length++[dg m]++(bs++List.replicate (N-bs.length) 0).drop (bs.length+1)=(bs++[dg m])++List.replicate (N-(bs++[dg m]).length) 0:=by
   rw[Xy rfl]
   have:List.replicate (N-bs.length) (0:UInt8)=0::List.replicate (N-bs.length-1) 0:=by
    rw[<-List.replicate_succ];congr 1;omega
   rw[this,<-List.drop_drop,Wd rfl];rw[show N-bs.length-1=N-(bs++[dg m]).length by grind];simp
  have hcl:(bs++List.replicate (N-bs.length) 0).length=N:=by simp;omega
  have hli:∀h:Hp,cO 1 [D.int .u8 0] [(0,.d (.int .u8 (48+(m:Int))))] h=some ([u8 (dg m)],h):=fun h=>by
   simp_all[cO,jv,iH,toD]
  have hx0:¬i+1<p.length->0<(x:Int):=fun h=>by
   grind
  clear hk;refine aj ?_;by_cases g1:(i:Int)+1<(p.length:Int)
  .simp(disch:=try exact ag)[cZ,g5,lp',g1,Zx,Zs,e1,e2,hli];refine ap8 (SX _) hcl aa ?_;rw[hcell];simp only[SV];simp(disch:=try exact ag)[Zx,Zs,e2]
   simp_all
  .have g3:=hx0 aa;simp(disch:=try exact ag)[cZ,g5,lp',g1,g3,Zx,Zs,e1,e2,hli];refine ap8 (SX _) hcl aa ?_;rw[hcell];simp only[SV];simp(disch:=try exact ag)[Zx,Zs,e2]
   simp_all
theorem agl{l:LuQ}{L:Nat}(hl:l.length=N)(hL:L<=N):cvT (tH l) (.ref 0 1 0 L N N)=some (S (l.take L)):=by simp only[cvT,cellsOf,tH,aw];simp[hl,hL,<-List.map_take,Cc]
def txS(p:LnQ)(i:Nat):LuQ:=if i<p.length then(dS (val Z (p.take i)) (9*i)).reverse else(ai (val Z p)).reverse
theorem O8{p:LnQ}(hp:aH Z p)(hne:p≠[])(i:Nat)(hi:i<=p.length):(txS p i).length<=9*p.length:=by
 unfold txS;split
 .simp[bh];omega
 .have h1:=jE (B:=Z) bB hp;rw[A7]at h1;have:=cN h1 (by have:=Xj.2 hne;omega);simp[ai,bh];exact this
theorem SL{p:LnQ}(hp:aH Z p)(hn:A8 p){i:Nat}(hi:i<p.length):
  ∃w,(i+1<p.length∧0+w=9∨¬i+1<p.length∧0+w<=9∧nth 0 p i<10^w∧(0<w->10^(w-1)<=nth 0 p i))∧txS p (i+1)=txS p i++(dS (nth 0 p i) w).reverse:=by
 obtain⟨x,hx⟩:=mnQ (nth 0 p i);have hxZ:x<Z:=by rw[<-hx];exact hp.getD bB i
 have hv:=yz (B:=Z) p hi;rw[show p.getD i 0=x from hx]at hv;have hlow:=jE (B:=Z) bB (hp.take i);rw[Zr,Yv aa]at hlow;rw[A7]at hlow hv;obtain⟨r,hr⟩:=mnQ (val Z (p.take i));rw[hr]at hlow hv;rw[hx];by_cases hl:i+1<p.length
 .refine⟨9,.inl ⟨hl,rfl⟩,?_⟩;have hpp:0<10^(9*i):=Yj ae;rw[txS,if_pos hl,txS,if_pos hi,hr,hv,show 9*(i+1)=9+9*i by omega,AR,Yr _ _ hpp,Wr hlow,Zp,AQ,List.reverse_append]
 .have hip:i+1=p.length:=aa
  have hx0:0<x:=by
   have hne:p≠[]:=fun e=>by rw[e]at hi;simp at hi
   have:=hn hne;rw[List.getLast_eq_getElem]at this;rw[<-hx,aN _ _ _ hi];have e:p.length-1=i:=aa;simp only[e]at this;omega
  refine⟨ndg x,.inr ⟨hl,?_,cY x,fun _=>BH x hx0⟩,?_⟩
  .have:ndg x<=9:=cN (by simp only[Z]at hxZ;omega) ae;omega
  .rw[txS,if_neg hl,txS,if_pos hi,hr]
   have hval:val Z p=r+10^(9*i)*x:=by
    have:p.take (i+1)=p:=Z6 aa;rw[<-hv,this]
   rw[hval,R4 hx0 hlow,List.reverse_append];rfl
theorem Pg{p:LnQ}(hp:aH Z p)(hn:A8 p)(hne:p≠[])(hpl:p.length<100000000)(k:KL)(h0:Hp)(hh:h0.length=3){N:Nat}(hN:N=9*p.length) :
  ∀(r i:Nat),i+r=p.length->k (.exit 0) [.ref 0 1 0 (txS p p.length).length N N] (tH (txS p p.length++List.replicate (N-(txS p p.length).length) 0)) ->
  lp (iW (CX Y) (lst u6 p) (lst u6 p) (I p.length)) [] h0 [.ref 0 1 0 (txS p i).length N N,I i] (tH (txS p i++List.replicate (N-(txS p i).length) 0)) k
 | 0,i=>by
  intro hi hk;have:i=p.length:=aa;subst this;refine aj ?_;simp[iW];exact hk
 | r+1,i=>by
  intro hi hk;have hil:i<p.length:=aa;obtain⟨w,hw,hst⟩:=SL hp hn hil;have ih:=Pg hp hn hne hpl k h0 hh hN r (i+1) aa hk;have hlen2:=O8 hp hne (i+1) aa;rw[hst]at ih hlen2;have hlw:(txS p i++(dS (nth 0 p i) w).reverse).length=(txS p i).length+w:=by simp[bh]
  rw[hlw]at ih hlen2;have e1:=fun h:Hp=>kv u6 p h (k:=.i64) (i:=(i:Int)) aa aa
  have e2:=fun h:Hp=>E5 p h (j:=i) hil
  simp only[Int.toNat_natCast]at e1;have hxZ:nth 0 p i<1000000000:=by have:=hp.getD bB i;simp only[Z]at this;exact this
  refine aj ?_;simp(disch:=try exact ag)[iW,e1,e2];refine lo (Pf hil hpl aa _ _ rfl w 0 (nth 0 p i) (txS p i) hw hxZ aa ?_);simp(disch:=try exact ag)[hh];simpa using ih
theorem fj:ai 0=[48]:=by rw[ai,show ndg 0=1 by unfold ndg;simp];rfl
theorem uU{n:Nat}(hb:(dig Z n).length<100000000):CP Y F.aP [pcs n] (S (ai n)):=by
 refine wi ?_;obtain⟨p,hp⟩:=mnQ (dig Z n);have hs:aH Z p:=by rw[<-hp];exact cJ ax n
 have hno:A8 p:=by rw[<-hp];exact FD ax n
 have hv:val Z p=n:=by rw[<-hp];exact iS ax n
 rw[pcs,hp];rw[hp]at hb;have lP:bj (lst u6 p)=some (I p.length):=rfl;by_cases hne:p=[]
 .subst hne;have:n=0:=by rw[<-hv];rfl
  subst this;simp[aP,lP];exact fD fj.symm
 .have hpos:=Xj.2 hne;obtain⟨N,hN⟩:=nmQ (9*p.length);have e9:(9:Int)*(p.length:Int)=(N:Int):=aa;have g1:¬((p.length:Int)=0):=aa;have g2:¬(p.length=0):=aa;have t0:txS p 0=[]:=by rw[txS,if_pos hpos];simp[dS,val]
  have tl:txS p p.length=(ai n).reverse:=by rw[txS,if_neg aa,hv]
  have hln:=O8 hs hne p.length (Z7 _);rw[tl,List.length_reverse]at hln;simp(disch:=try exact ag)[aP,lP,g1,g2,hne,e9];refine T7 (e:=0) (b:=.none) rfl aa aa ?_;simp[lP]
  have hz:[(1,Bk.data 1 (List.replicate N (D.int IntKind.u8 0)) true false),nnQ,nnQ]=tH (txS p 0++List.replicate (N-(txS p 0).length) 0):=by
   rw[t0];simp[tH,u8]
  have main:=Pg hs hno hne hb (exK [(.exit 0,fun l7 h=>
   cai (CX Y).i h (.fn F.bP [] []) [(ge l7 0)] 2 fun v8 h=>
   bnd (cvT h (ge l7 0)) fun v9=>
   out (S (ai n)) v9 h)]) (tH (txS p 0++List.replicate (N-(txS p 0).length) 0)) rfl hN p.length 0 aa (by
   simp only[iP,tl,List.length_reverse,DJ];obtain⟨l,hl⟩:=mnQ ((ai n).reverse++List.replicate (N-(ai n).length) 0);have hll:l.length=N:=by rw[<-hl];simp;omega
   rw[hl];have rv:=aaj (h:=tH l) rfl (s:=0) (e:=1) (ex:=true) af (L:=(ai n).length) (cap:=N) (tot:=N) aa aa hll
   have hl2:(l.take (ai n).length).reverse++l.drop (ai n).length=ai n++List.replicate (N-(ai n).length) 0:=by
    rw[<-hl,Xy af,Wd af,List.reverse_reverse]
   rw[hl2]at rv;refine pT rv ?_ af
   show bnd (cvT (tH _) _) _
   rw[agl bK aa,Xy rfl];exact fD rfl)
  rw[t0]at main hz;rw[hz];exact main
theorem H4(a b:LnQ)(hab:a.length=b.length)(hs:a.length<1000000000)(k:KL):∀i:Nat,i<=a.length->(N5 a b i=0->k (.exit 0) [] [])->(N5 a b i≠0->k .ret [I (N5 a b i)] []) ->
  lp (cX (CX Y) (lst u6 a) (lst u6 b)) [] [] [I ((i:Int)-1)] [] k
 | 0,_,h0,_=>by
  refine aj ?_;simp[cX];exact h0 rfl
 | i+1,hi,h0,h1=>by
  have e1:=fun h:Hp=>kv u6 a h (k:=.i64) (i:=(i:Int)) aa aa
  have e2:=fun h:Hp=>E5 a h (j:=i) aa
  have e3:=fun h:Hp=>kv u6 b h (k:=.i64) (i:=(i:Int)) aa aa
  have e4:=fun h:Hp=>E5 b h (j:=i) aa
  simp only[Int.toNat_natCast]at e1 e3;obtain⟨x,hx⟩:=mnQ (nth 0 a i);obtain⟨y,hy⟩:=mnQ (nth 0 b i);rw[hx]at e2;rw[hy]at e4;simp only[N5,show a.getD i 0=x from hx,show b.getD i 0=y from hy]at h0 h1;have ei:((i+1:Nat):Int)-1=(i:Int):=aa;refine aj ?_;rw[ei];by_cases g1:x<y
  .have g1':(x:Int)<(y:Int):=aa;rw[if_pos g1]at h1;simp[cX,e1,e2,e3,e4,g1'];exact h1 ae
  .rw[if_neg g1]at h0 h1;have g1':¬(x:Int)<(y:Int):=aa;by_cases g2:y<x
   .have g2':(y:Int)<(x:Int):=aa;rw[if_pos g2]at h1;simp[cX,e1,e2,e3,e4,g1',g2'];exact h1 ae
   .have g2':¬(y:Int)<(x:Int):=aa;rw[if_neg g2]at h0 h1;have:=H4 a b hab hs k i aa h0 h1;simp(disch:=try exact ag)[cX,e1,e2,e3,e4,g1',g2'];simpa using this
theorem abu(ha:(dig Z a).length<1000000000)(hb:(dig Z b).length<1000000000):CP Y F.cD [pcs a,pcs b] (I (cmp a b)):=by
 refine ub ?_;have la:bj (pcs a)=some (I (dig Z a).length):=rfl;have lb:bj (pcs b)=some (I (dig Z b).length):=rfl;by_cases hl:(dig Z a).length=(dig Z b).length
 .have ho:=PV bB (cJ ax a) (cJ ax b) (dig Z a).length (Z7 _) aa;rw[Wq,hl,Wq,iS ax,iS ax,<-hl]at ho;have hli:((dig Z a).length:Int)=((dig Z b).length:Int):=aa;simp(disch:=try exact ag)[cD,la,lb,hl];refine lo (show lp _ _ _ _ _ _ from ?_);rw[<-hli]
  refine H4 (dig Z a) (dig Z b) hl ha _ _ (Z7 _) (fun h0=>?_) (fun h0=>?_)
  .simp only[iP];exact cx (by rw[<-ho,h0])
  .simp only[AL,DL,DJ];exact cx (by rw[ho])
 .have hli:¬((dig Z a).length:Int)=((dig Z b).length:Int):=aa;rcases Zi (dig Z a).length (dig Z b).length with h|h
  .have:=JL ax (m:=a) (n:=b) h;have e:cmp a b = -1:=by simp[cmp,this]
   have e2:mx2 false 1 (mx2 true (-1) (((dig Z a).length:Int)-((dig Z b).length:Int))) = -1:=by simp[mx2];omega
   simp(disch:=try exact ag)[cD,la,lb,hl,mxI,e2];exact cx (by rw[e])
  .have:=JL ax (m:=b) (n:=a) aa;have e:cmp a b=1:=by unfold cmp;rw[if_neg aa,if_pos this]
   have e2:mx2 false 1 (mx2 true (-1) (((dig Z a).length:Int)-((dig Z b).length:Int)))=1:=by simp[mx2];omega
   simp(disch:=try exact ag)[cD,la,lb,hl,mxI,e2];exact cx (by rw[e])
theorem Co(h:Hp)(l:LuQ):bJ h (S l)=some (S l,h):=rfl
theorem QD{n:Nat}(h:ndg n<=d)(hd:d<90000000):(dig Z n).length<100000000:=by have h1:=cY n;have h2:n<Z^d:=Z1 h1 (by rw[A7];exact Z4 ae aa);have:=iL h2;omega
theorem BW(hb:0<b)(ha:ndg a<1000000)(hbd:ndg b<1000000):CP Y F.eW [S (ai a),S (ai b)] (.tup [S (ai (a/b)),S (ai (a%b)),I 0]):=by
 refine BZ ?_
 have hne:¬ai b=[48]:=by
  rw[<-fj];intro e;have:=congrArg (fE 0) e;rw[dZ,dZ]at this;omega
 have hla:=QD (Nat.le_of_lt ha) ae;have hlb:=QD (Nat.le_of_lt hbd) ae;have bo:=DU a b;simp[eW,hne];by_cases h18:ndg a<=18∧ndg b<=18
 .rw[if_pos h18]at bo;have ha2:a<1000000000000000000:=by have:=cY a;have:=Z4 (n:=10) ae h18.1;omega
  refine cd bo ?_;obtain⟨q,hq⟩:=mnQ (a/b);obtain⟨r,hr⟩:=mnQ (a%b);have hqa:q<=a:=by rw[<-hq];exact Yu ..
  have hra:r<=a:=by rw[<-hr];exact Nat.mod_le ..
  have e1:(a:Int)/(b:Int)=(q:Int):=by rw[<-hq];simp
  have e2:(a:Int)%(b:Int)=(r:Int):=by rw[<-hr];simp
  have hb0:¬((b:Int)=0):=aa;have hb0':¬(b=0):=aa;rw[hq,hr];simp(disch:=try exact ag)[hb0,hb0',Zs,Zx,e1,e2];refine cd (yU (n:=q) aa) ?_;simp[hb0,hb0',Zs,Zx,e1,e2];refine cd (yU (n:=r) aa) ?_;exact jY (Co _ _) (Co _ _) rfl
 .rw[if_neg h18]at bo;refine cd bo ?_;obtain⟨ca,hca⟩:=nmQ (ndg a/9+1);obtain⟨cb,hcb⟩:=nmQ (ndg b/9+1);have ltA:a<Z^ca:=Z1 (cY a) (by rw[A7];exact Z4 ae aa);have ltB:b<Z^cb:=Z1 (cY b) (by rw[A7];exact Z4 ae aa)
  have cA:=tv (h:=[nnQ,nnQ]) rfl (n:=a) aa hca;have lA:(bg ca a).length=ca:=cT ..;have lB:(bg cb b).length=cb:=cT ..;have cB:=tv (h:=[(1,.data 1 ((bg ca a).map u6) true false),nnQ]) rfl (n:=b) aa hcb;simp;refine jC (fe (e:=0) (b:=.none) cA rfl ?_);rw[List.length_map,lA];simp
  refine jC (fe (e:=0) (b:=.none) cB rfl ?_);rw[List.length_map,lB];simp;have sA:=wL (h:=[(1,.data 1 ((bg ca a).map u6) true false),(1,.data 1 ((bg cb b).map u6) true false)]) (s:=0) rfl lA.symm (len:=(dig Z a).length) (cap:=ca) (iL ltA) (Z7 _)
  have sB:=wL (h:=[(1,.data 1 ((bg ca a).map u6) true true),(1,.data 1 ((bg cb b).map u6) true false)]) (s:=1) rfl lB.symm (len:=(dig Z b).length) (cap:=cb) (iL ltB) (Z7 _);rw[nK ltA]at sA;rw[nK ltB]at sB;simp only[List.set_cons_zero,List.set_cons_succ]at sA sB
  have sAB:aS [(1,.data 1 ((bg ca a).map u6) true false),(1,.data 1 ((bg cb b).map u6) true false)] [.ref 0 1 0 (dig Z a).length ca ca,.ref 1 1 0 (dig Z b).length cb cb]=some ([pcs a,pcs b],[(1,.data 1 ((bg ca a).map u6) true true),(1,.data 1 ((bg cb b).map u6) true true)]):=by
   simp only[aS,sA,sB];rfl
  refine cdz sAB (abu (a:=a) (b:=b) aa aa) ?_;rw[show fN (I (cmp a b))=true from rfl,if_pos rfl];by_cases hab:a<b
  .have hc:cmp a b = -1:=by simp[cmp,hab]
   rw[Wr hab,Yk hab,fj];simp[hc];exact jY (Co _ _) (Co _ _) rfl
  .have hc:¬cmp a b<0:=by unfold cmp;rw[if_neg hab];split<;>decide
   have hlen:(dig Z b).length<=(dig Z a).length:=by
    rcases Zi (dig Z a).length (dig Z b).length with h|h
    .exact absurd (JL ax h) hab
    .exact h
   have lq:(dig Z (a/b)).length<100000000:=by
    have:a/b<=a:=Yu ..;have:=iL (Zk this ltA);omega
   have lr:(dig Z (a%b)).length<100000000:=by
    have:a%b<=a:=Nat.mod_le ..;have:=iL (Zk this ltA);omega
   by_cases h1:(dig Z b).length=1
   .have hbZ:b<Z:=by have:=zC b;rw[h1,Nat.pow_one]at this;exact this
    obtain⟨cb',hcb'⟩:∃c,cb=c+1:=⟨cb-1,aa⟩;have hn0:nth 0 (bg cb b) 0=b:=by rw[hcb',bg];simp[nth,Yk hbZ]
    have r1:=CW (h:=[(1,.data 1 ((bg ca a).map u6) true false),(1,.data 1 ((bg cb b).map u6) true false)]) (s:=1) rfl lB.symm (len:=1) (cap:=cb) (i:=0) aa aa .i64;have r2:=Jr (h:=[(1,.data 1 ((bg ca a).map u6) true false),(1,.data 1 ((bg cb b).map u6) true false)]) (s:=1) rfl lB.symm (j:=0) aa;rw[hn0]at r2
    have r1':ixV [(1,Bk.data 1 ((bg ca a).map u6) true false),(1,.data 1 ((bg cb b).map u6) true false)] 1 (.ref 1 1 0 1 cb cb) (I 0)=some (.ptr 1 1 0 cb):=r1;simp[hc,h1,r1',r2];refine cdz (ds:=[pcs a,U b]) (h':=[(1,.data 1 ((bg ca a).map u6) true true),(1,.data 1 ((bg cb b).map u6) true false)]) (by simp only[aS,sA,zK];rfl) (He (a:=a) (n:=b) aa hb aa) ?_
    rw[show fN (.tup [pcs (a/b),U (a%b:Nat)])=false from rfl];simp;refine cd (args:=[pcs (a/b)]) (uU lq) ?_ (by simp[aS,pcs]);simp;refine cd (yU (n:=a%b) (by have:=Y7 a hb;simp only[Z]at hbZ;omega)) ?_;exact jY (Co _ _) (Co _ _) rfl
   ·have h0:(dig Z b).length≠0:=fun e=>by
     have:=zC b;rw[e]at this;simp at this;omega
    have h1i:¬((dig Z b).length:Int)=1:=aa;simp[hc,h1,h1i];refine cdz sAB (OB (P:=a) (Q:=b) aa hlen (by have:=iL ltA;omega)) ?_;rw[show fN (.tup [pcs (a/b),pcs (a%b)])=false from rfl];simp;refine cd (args:=[pcs (a/b)]) (uU lq) ?_ (by simp[aS,pcs]);simp;refine cd (args:=[pcs (a%b)]) (uU lr) ?_ (by simp[aS,pcs])
    exact jY (Co _ _) (Co _ _) rfl
def shH(o:LnQ):Hp:=[(1,.data 1 (o.map u32) false false),nnQ]
@[simp]theorem agP(o:LnQ):List.length (shH o)=2:=id rfl
def slH(o:LnQ):Hp:=[nnQ,(1,.data 1 (o.map u32) true false)]
@[simp]theorem agJ(o:LnQ):List.length (slH o)=2:=id rfl
def rdT(s:LuQ):LuQ:=if s.headD 0=45 then s.tail else s
def rdN(s:LuQ):Bool:=decide (s.headD 0=45)
def rd(s:LuQ):Option Int:=if(rdT s).length<=400 then rdS s else none
theorem acl(s:LuQ):rd s=if(rdT s).length<=400∧rdT s≠[]∧¬((rdT s).headD 0=48∧(1<(rdT s).length∨rdN s=true))∧(rdT s).all qt=true then some (if rdN s=true then -(fE 0 (rdT s):Int)else(fE 0 (rdT s):Int))else none:=by
 unfold rd rdS
 have hcan:∀t:LuQ,qR t=true↔t≠[]∧t.all qt=true∧¬(1<t.length∧t.headD 0=48):=fun t=>by
  simp[qR,and_assoc];intro _ _;constructor
  .rintro(h|h) g
   .omega
   omega
  .intro h;by_cases g:1<t.length
   .grind
   .exact .inl aa
 by_cases h:s.headD 0=45
 .have e1:rdT s=s.tail:=by unfold rdT;rw[if_pos h]
  have e2:rdN s=true:=by unfold rdN;simpa using h
  rw[e1,e2,if_pos h];generalize s.tail=t;by_cases h1:t.length<=400
  .simp only[h1,if_true,true_and,hcan];by_cases h2:t≠[]∧¬(t.headD 0=48∧(1<t.length∨True))∧t.all qt=true
   .grind
   .rw[if_neg h2,if_neg];rintro⟨⟨a,b,c⟩,d⟩;refine h2 ⟨a,fun x=>?_,b⟩;by_cases g:1<t.length
    .grind
    .apply d;cases t with
     |nil=>trivial
     | cons y t=>
      grind
  grind
 .have e1:rdT s=s:=by unfold rdT;rw[if_neg h]
  have e2:rdN s=false:=by unfold rdN;simpa using h
  grind
@[simp]theorem agV(n:Nat):okV (nat n)=true:=id rfl
theorem Ud{s:LuQ}(h:rd s=some z):z.natAbs<10^400:=by
 rw[acl]at h;split at h
 .rename_i hc;simp only[Z9]at h;have hi:=uG (rdT s) 0 hc.2.2.2;have:fE 0 (rdT s)<10^400:=Z1 hi (by set_option exponentiation.threshold 1000 in rw[Zp,Xr];exact Z4 ae hc.1)
  have hz:z.natAbs=fE 0 (rdT s):=by
   rw[<-h];split<;>simp
  rw[hz];exact this
 .cases h
def rdF(a b:LuQ):Option (Int×Nat):=match rd a,rd b with
 |some n,some d=>if 0<d∧Nat.gcd n.natAbs d.natAbs=1 then some (n,d.natAbs)else none
 |_,_=>none
theorem dM(h:a<=b):ndg a<=ndg b:=cN (Zk h (cY b)) (md b)
theorem R9(k:KL):∀(b a:Nat),ndg a<1000000->ndg b<1000000->k (.exit 0) [S (ai (Nat.gcd a b))] []->lp (pR (CX Y)) [] [] [S (ai a),S (ai b)] [] k:=by
 intro b
 induction b using Nat.strongRecOn with
 | _ b ih=>
  intro a ha hb hk;by_cases h0:b=0
  .subst h0;rw[Nat.gcd_zero_right]at hk;refine aj ?_;rw[fj];simp[pR];exact hk
  .have hbp:0<b:=aa
   have hne:¬ai b=[48]:=by
    rw[<-fj];intro e;have:=congrArg (fE 0) e;rw[dZ,dZ]at this;omega
   have hm:=Y7 a hbp
   have hk2:=ih (a%b) hm b hb (Zk (dM (Nat.le_of_lt hm)) hb) (by
    rw[V5 b,<-Nat.gcd_rec,V5 b];exact hk)
   refine aj ?_;simp[pR,hne];refine cd (BW hbp ha hb) ?_;simp;exact hk2
theorem Qr(ha:ndg a<1000000)(hb:ndg b<1000000):CP Y F.nj [S (ai a),S (ai b)] (S (ai (Nat.gcd a b))):=by refine GL ?_;simp[nj];refine lo (R9 _ b a ha hb ?_);simp;exact fD rfl
theorem R8(k:KL):∀(b a:Nat),a<1000000000000000000->b<1000000000000000000->k (.exit 0) [I (Nat.gcd a b:Nat)] []->lp (rG (CX Y)) [] [] [I a,I b] [] k:=by
 intro b
 induction b using Nat.strongRecOn with
 | _ b ih=>
  intro a ha hb hk;by_cases h0:(b:Int)=0
  .have:b=0:=aa;subst this;rw[Nat.gcd_zero_right]at hk;refine aj ?_;simp[rG];exact hk
  .have hbp:0<b:=aa;have hm:=Y7 a hbp
   have hk2:=ih (a%b) hm b hb aa (by
    rw[V5 b,<-Nat.gcd_rec,V5 b];exact hk)
   have h0':¬b=0:=aa;have e2:(a:Int)%(b:Int)=((a%b:Nat):Int):=af;obtain⟨r,hr⟩:=mnQ (a%b);rw[hr]at hk2 e2;refine aj ?_;simp[rG,h0,h0',Zx,e2];exact hk2
theorem aa5(ha:a<1000000000000000000)(hb:b<1000000000000000000):CP Y F.rX [I a,I b] (I (Nat.gcd a b:Nat)):=by refine Ke ?_;simp[rX];refine lo (R8 _ b a ha hb ?_);simp only[iP];exact cx rfl
theorem N7{n:Nat}(h:n<9223372036854775808):CP Y F.fG [I n] (S (ai n)):=by
 refine DZ ?_;simp[fG];have e:itoa (n:Int)=ai n:=by unfold itoa;rw[if_neg aa];rfl
 refine cd (DG (z:=n) aa aa) ?_;rw[e]
 try simp(disch:=try exact ag)
 exact fD rfl
theorem EZ(a:Nat):CP Y F.bC [S (ai a),I 18] (if ndg a<=18 then .tup [I a,B true]else .tup [I 0,B false]):=by
 refine sI ?_;have la:=kZ a;by_cases h:18<ndg a
 .rw[if_neg aa];simp(disch:=try exact ag)[bC,la,h];exact aG rfl rfl
 .rw[if_pos aa];have ap:=JY (n:=a) (md a) aa (cY a);have en:biF .eql (.d (.pl .nilIface)) (.d (.pl .nilIface))=some (.d (.bool true)):=rfl;simp(disch:=try exact ag)[bC,la,h];refine cd (args:=[S (ai a)]) ap ?_;simp[en];exact aG rfl rfl
theorem wK(s:LuQ):CP Y F.aR [S s] (.tup [B (rdN s),S (rdT s)]):=by
 refine F7 ?_;cases s with
 | nil=>
  simp[aR];exact aG rfl rfl
 | cons c t=>
  have hix:ixS (S (c::t)) (.d (.int .i64 0))=some (.d (.int .u8 c.toNat)):=rfl;by_cases h:c=45
  .subst h;have e:((45:UInt8).toNat:Int)=45:=rfl;simp(disch:=try exact ag)[aR,hix,e];exact aG rfl rfl
  .have e:¬(c.toNat:Int)=45:=fun g=>h (by apply UInt8.toNat.inj;simpa using(by omega:c.toNat=45))
   have e1:rdT (c::t)=c::t:=by simp[rdT,h]
   have e2:rdN (c::t)=false:=by simp[rdN,h]
   rw[e1,e2];simp[aR,hix,e];exact aG rfl rfl
theorem Ie(l:LuQ)(hl:l.length<1000000000)(k:KL):∀(q p:LuQ),p++q=l->(q.all qt=true->k (.exit 0) [] [])->(q.all qt=false->k .ret [B false] [])->lp (fv (CX Y) (lst u8 l) (I l.length)) [] [] [I p.length] [] k
 | []=>by
  intro p hp h0 h1;simp at hp;subst hp;refine aj ?_;simp[fv];exact h0 rfl
 | c::q=>by
  intro p hp h0 h1;have hpl:p.length<l.length:=by subst hp;simp
  have hc:nth 0 l p.length=c:=by subst hp;simp
  have e1:=fun h:Hp=>kv u8 l h (k:=.i64) (i:=(p.length:Int)) aa aa
  have e2:=fun h:Hp=>aC u8 0 l h (j:=p.length) hpl
  rw[hc]at e2;simp only[Int.toNat_natCast]at e1;have ih:=Ie l hl k q (p++[c]) (by simpa using hp);refine aj ?_;by_cases g1:(c.toNat:Int)<48
  .have g3:qt c=false:=by rw[Bool.eq_false_iff];intro h;rw[mA]at h;omega
   simp(disch:=try exact ag)[fv,e1,e2,u8,g1];exact h1 (by simp[g3])
  .by_cases g2:(57:Int)<c.toNat
   .have g3:qt c=false:=by rw[Bool.eq_false_iff];intro h;rw[mA]at h;omega
    simp(disch:=try exact ag)[fv,e1,e2,u8,g1,g2];exact h1 (by simp[g3])
   .have g3:qt c=true:=by rw[mA];omega
    have:=ih (fun h=>h0 (by simp[g3];simpa using h)) (fun h=>h1 (by simp only[List.all_cons,h,Wa]));simp(disch:=try exact ag)[fv,e1,e2,u8,g1,g2];simpa using this
theorem abC(l:LuQ)(hl:l.length<1000000000):CP Y F.iF [S l] (B (qR l)):=by
 refine yw ?_;unfold iF
 show cvB (S l) _ _
 rw[acO];have lL:nS (S l)=some (I l.length):=rfl;simp;refine lo (Ie l hl _ l [] rfl (fun e=>?_) (fun e=>?_))
 .simp only[iP];cases l with
  | nil=>
   simp[lL];exact nN (by simp[qR])
  | cons c t=>
   have hix:ixS (S (c::t)) (.d (.int .i64 0))=some (.d (.int .u8 c.toNat)):=rfl;cases t with
   | nil=>
    simp[lL];exact nN (by simp[qR]at e ⊢;exact e)
   | cons d t=>
    obtain⟨N,hN⟩:∃N,(c::d::t).length=N:=⟨_,rfl⟩;have hN2:2<=N:=by rw[<-hN];simp only[List.length_cons];omega
    rw[hN]at lL;have g2:(1:Int)<(N:Int):=aa;have g3:¬(N:Int)=1:=aa;by_cases h:c=48
    .subst h;have e48:((48:UInt8).toNat:Int)=48:=rfl;simp[lL,g2,g3,hix,e48];exact nN (by simp[qR])
    .have e48:¬(c.toNat:Int)=48:=fun g=>h (by apply UInt8.toNat.inj;simpa using(by omega:c.toNat=48))
     simp[lL,g2,g3,hix,e48]
     exact nN (by
      have:qR (c::d::t)=true:=by simp only[qR,e];simp[h]
      exact this.symm)
 .simp only[AL,DL];exact nN (by simp only[qR,e,Wa,V9])
theorem Ss(l:LuQ)(hl:l.length<1000000000):CP Y F.kC [S l] (I (if qR l=true∧l.length<=400 then 0 else 2)):=by
 refine C7 ?_;have lL:nS (S l)=some (I l.length):=rfl;obtain⟨N,hN⟩:=mnQ (l.length);rw[hN]at lL ⊢;simp[kC];refine cd (abC l hl) ?_;cases hc:qR l with
 | false=>
  simp<;>exact cx af
 | true=>
  by_cases h:(400:Int)<N
  .simp[lL,h]<;>exact cx (by rw[if_neg aa])
  .have h2:true=true∧N<=400:=⟨rfl,aa⟩;simp[lL,h]<;>exact cx (by rw[if_pos h2.2])
theorem Rt(s:LuQ):(rd s).isSome=(!(rdN s&&decide (rdT s=[48]))&&(qR (rdT s)&&decide ((rdT s).length<=400))):=by
 unfold rd rdS rdN rdT;by_cases h45:s.headD 0=45
 .simp only[h45,if_true];obtain⟨t,ht⟩:=mnQ (s.tail);rw[ht];by_cases hl:t.length<=400
  .by_cases h48:t=[48]
   .simp[h48]
   .cases hc:qR t<;>simp[hl,h48]
  .simp[hl]
 .simp only[h45,if_false];by_cases hl:s.length<=400
  .cases hc:qR s<;>simp[hl]
  .simp[hl]
theorem H7(s:LuQ)(hs:s.length<1000000000):CP Y F.mS [S s] (I (if(rd s).isSome then 0 else 2)):=by
 refine Ga ?_
 have hT:(rdT s).length<1000000000:=by
  unfold rdT;split
  .have:s.tail.length=s.length-1:=List.length_tail;omega
  .exact hs
 rw[Rt];simp[mS];refine cd (wK s) ?_;have hck:=Ss (rdT s) hT;obtain⟨t,ht⟩:=mnQ (rdT s);rw[ht]at hck ⊢;obtain⟨c4,hc4⟩:∃c4,(qR t&&decide (t.length<=400))=c4:=⟨_,rfl⟩
 have hck2:CP Y F.kC [S t] (I (if c4=true then 0 else 2)):=by
  have:(if qR t=true∧t.length<=400 then(0:Int)else 2)=if c4=true then 0 else 2:=by
   rw[<-hc4];by_cases h:qR t=true∧t.length<=400
   .rw[if_pos h];simp[h]
   .rw[if_neg h];rw[if_neg (by simpa using h)]
  rw[<-this];exact hck
 rw[hc4];cases hn:rdN s with
 | true=>
  by_cases h3:t=[48]
  .simp[h3]<;>exact cx af
  .simp[h3];refine cd hck2 ?_;cases c4 with
   |true=>simp[h3]<;>exact cx (by simp[h3])
   |false=>simp[h3]<;>exact cx (by simp[h3])
 | false=>
  simp;refine cd hck2 ?_;cases c4 with
  |true=>simp<;>exact cx af
  |false=>simp<;>exact cx af
theorem uE(z:Int):rdT (itoa z)=ai z.natAbs:=by
 unfold itoa rdT;split
 .simp
 .rw[if_neg (tg _)]
theorem DW(z:Int):CP Y F.ij [S (itoa z)] (S (ai z.natAbs)):=by refine Cl ?_;have:=wK (itoa z);rw[uE]at this;simp[ij];refine cd this ?_;simp<;>exact fD rfl
def sgn(z:Int):Int:=if z=0 then 0 else if z<0 then -1 else 1
theorem qH(z:Int):CP Y F.dE [S (itoa z)] (I (sgn z)):=by
 refine Iv ?_;by_cases h0:z=0
 .subst h0;have e:itoa 0=[48]:=fj;rw[e];simp[dE]<;>exact cx rfl
 ·have hne:¬itoa z=[48]:=by
   intro e;have h1:=Le z;have h2:=Le 0;rw[show itoa 0=[48]from fj,<-e,h1]at h2;exact h0 (Option.some.inj h2)
  by_cases hn:z<0
  .have e:itoa z=45::ai z.natAbs:=by unfold itoa;rw[if_pos hn]
   have hix:ixS (S (itoa z)) (.d (.int .i64 0))=some (.d (.int .u8 45)):=by rw[e];rfl
   simp[dE,hne,hix]<;>exact cx (by simp[sgn,h0,hn])
  .have e:itoa z=ai z.natAbs:=by unfold itoa;rw[if_neg hn]
   obtain ⟨c,t,hct⟩:∃c t,ai z.natAbs=c::t:=by
    cases h:ai z.natAbs with
    |nil=>exact absurd h (xp _)
    |cons c t=>exact⟨c,t,rfl⟩
   have hhd:=tg z.natAbs;rw[hct]at hhd;have hix:ixS (S (itoa z)) (.d (.int .i64 0))=some (.d (.int .u8 c.toNat)):=by rw[e,hct];rfl
   have hc:¬(c.toNat:Int)=45:=fun g=>hhd (by apply UInt8.toNat.inj;simpa using(by omega:c.toNat=45))
   simp[dE,hne,hix,hc]<;>exact cx (by simp[sgn,h0,hn])
theorem Qq{w:Int}(hz:ndg z.natAbs<1000000)(hw:ndg w.natAbs<1000000):CP Y F.oU [S (itoa z),S (itoa w)] (S (ai (Nat.gcd z.natAbs w.natAbs))):=by
 refine Ki ?_;have l1:=EZ z.natAbs;have l2:=EZ w.natAbs;have gg:=Qr hz hw;simp[oU];refine cd (DW z) ?_;simp;refine cd (DW w) ?_;simp;by_cases h1:ndg z.natAbs<=18
 .rw[if_pos h1]at l1;refine cd l1 ?_;simp;by_cases h2:ndg w.natAbs<=18
  .rw[if_pos h2]at l2;refine aT ?_;simp;refine cd l2 ?_;have b1:z.natAbs<1000000000000000000:=by have:=cY z.natAbs;have:=Z4 (n:=10) ae h1;omega
   have b2:w.natAbs<1000000000000000000:=by have:=cY w.natAbs;have:=Z4 (n:=10) ae h2;omega
   have gi:=aa5 b1 b2
   have gb:Nat.gcd z.natAbs w.natAbs<9223372036854775808:=by
    rcases Zd w.natAbs with h|h
    .rw[h,Nat.gcd_zero_right];omega
    .have:=Nat.gcd_le_right z.natAbs h;omega
   generalize Nat.gcd z.natAbs w.natAbs=G at *;generalize z.natAbs=a at *;generalize w.natAbs=b at *;simp;refine cd gi ?_;simp;refine cd (N7 gb) ?_;exact fD rfl
  .rw[if_neg h2]at l2;refine aT ?_;simp;refine cd l2 ?_;simp;refine cd gg ?_;exact fD rfl
 .rw[if_neg h1]at l1;refine cd l1 ?_;simp;refine cd (u:=.mk) gg ?_;exact fD rfl
theorem PI{s:LuQ}(h:rd s=some z):s=itoa z∧ndg z.natAbs<1000000:=by
 have hb:=Ud h;unfold rd at h;split at h
 .exact⟨Ue h,by have:=cN hb ae;omega⟩
 .cases h
theorem NZ(a b:LuQ):(rdF a b).isSome=match rd a,rd b with
  |some n,some d=>decide (0<d∧Nat.gcd n.natAbs d.natAbs=1)
  |_,_=>false:=by
 unfold rdF;cases rd a<;>cases rd b<;>simp
 split<;>simp_all
theorem Ca(a b:LuQ)(ha:a.length<1000000000)(hb:b.length<1000000000):CP Y F.fR [.agg [S a,S b]] (I (if(rdF a b).isSome then 0 else 2)):=by
 refine BO ?_;have ca:=H7 a ha;have cb:=H7 b hb;rw[NZ];simp[fR];refine cd ca ?_;cases hra:rd a with
 | none=>
  simp;refine aT ?_;simp<;>exact cx rfl
 | some z=>
  cases hrb:rd b with
  | none=>
   rw[hrb]at cb;simp;refine aT ?_;simp;refine cd cb ?_;simp<;>exact cx rfl
  | some w=>
   rw[hrb]at cb;obtain⟨ea,na⟩:=PI hra;obtain⟨eb,nb⟩:=PI hrb;subst ea;subst eb;have sg:=qH w;have gg:=Qq na nb;simp;refine aT ?_;simp;refine cd cb ?_;simp;refine cd sg ?_;by_cases hw:0<w
   .have hs:¬sgn w<=0:=by unfold sgn;rw[if_neg aa,if_neg aa];decide
    simp[hs];refine aT ?_;simp;refine cd gg ?_;by_cases hg:Nat.gcd z.natAbs w.natAbs=1
    .have e1:ai 1=[49]:=by rw[ai,show ndg 1=1 by unfold ndg;simp];rfl
     rw[show ai (Nat.gcd z.natAbs w.natAbs)=[49] by rw[hg,e1]];simp<;>exact cx (by simp[hw];exact hg)
    ·have e1:¬ai (Nat.gcd z.natAbs w.natAbs)=[49]:=by
      intro e;have:=congrArg (fE 0) e;rw[dZ]at this;exact hg this
     simp[e1]<;>exact cx (by simp[hw,hg])
   .have hs:sgn w<=0:=by unfold sgn;split;decide;rw[if_pos aa];decide
    simp[hs];refine aT ?_;simp[hs]<;>exact cx (by simp[hw])
def PP(n:Nat):Nat->Nat->Bool
 |0,_=>true
 |k+1,d=>if n%d=0 then false else PP n k (d+1)
def ta(n:Int):Bool:=decide (2<=n)&&decide (n<=97)&&PP n.toNat (n.toNat-2) 2
def Cz:Option Int->LiQ->Bool
 |_,[]=>true
 |prev,x::q=>ta x&&(match prev with|some y=>decide (y<x)|none=>true)&&Cz (some x) q
def Dn(p:LiQ):Bool:=Cz none p&&decide (0<p.length)&&decide (p.length<=6)
def wP(s:LuQ):Bool:=decide ((rdT s).length<=30)
abbrev Tx:=LuQ×LuQ
def aK(x:Tx):LdQ:=[.str x.1,.str x.2]
theorem bv(x:Tx):(aK x).length=2:=rfl
def Tg(n:Nat):Nat->Nat->Bool
 |0,_=>true
 |r+1,d=>if d*d<=n then(if n%d=0 then false else Tg n r (d+1))else true
theorem ady:∀n:Fin 98,2<=n.val->Tg n.val 10 2=ta n.val:=bb
theorem Po(n:Nat)(hn:n<=97)(k:KL):∀(r d:Nat),2<=d->d+r=12->(Tg n r d=true->k (.exit 0) [] [])->(Tg n r d=false->k .ret [B false] []) ->
  lp (jk (CX Y) (I n)) [] [] [I d] [] k
 | 0,d,hd,hr,h0,h1=>by
  have:d=12:=aa;subst this;have g:¬((12:Nat):Int)*((12:Nat):Int)<=(n:Int):=aa;have g2:¬(144:Int)<=(n:Int):=aa;refine aj ?_;simp[jk,g,g2];exact h0 rfl
 | r+1,d,hd,hr,h0,h1=>by
  have ih:=Po n hn k r (d+1) aa aa;have hd12:d<=12:=aa;obtain⟨s,hs⟩:=mnQ (d*d);have hsb:s<=144:=by rw[<-hs];exact Zn hd12 hd12
  have e1:(d:Int)*(d:Int)=(s:Int):=by rw[<-hs];simp
  rw[Tg,hs]at h0 h1;refine aj ?_;by_cases g:s<=n
  .have g':(s:Int)<=(n:Int):=aa;rw[if_pos g]at h0 h1;have hd0:¬((d:Int)=0):=aa;have hd0':¬(d=0):=aa;obtain⟨m,hm⟩:=mnQ (n%d);have e2:(n:Int)%(d:Int)=(m:Int):=by rw[<-hm];simp
   rw[hm]at h0 h1;by_cases h:m=0
   .have h':(m:Int)=0:=aa;rw[if_pos h]at h1;simp(disch:=try exact ag)[jk,e1,g',hd0,hd0',Zx,e2,h',h];exact h1 rfl
   .have h':¬(m:Int)=0:=aa;rw[if_neg h]at h0 h1;have:=ih h0 h1;simp(disch:=try exact ag)[jk,e1,g',hd0,hd0',Zx,e2,h',h];simpa using this
  .have g':¬(s:Int)<=(n:Int):=aa;rw[if_neg g]at h0;simp(disch:=try exact ag)[jk,e1,g'];exact h0 rfl
theorem L4(n:Int):CP Y F.jc [I n] (B (ta n)):=by
 refine CQ ?_;by_cases h1:n<2
 .simp[jc,h1]<;>exact nN (by simp[ta];omega)
 by_cases h2:97<n
 .simp[jc,h1,h2]<;>exact nN (by simp[ta];omega)
 obtain⟨m,rfl⟩:∃m:Nat,n=m:=⟨n.toNat,aa⟩;have ha:=ady ⟨m,aa⟩ bK;simp only at ha;simp[jc,h1,h2];refine lo (Po m aa _ 10 2 aa rfl (fun e=>?_) (fun e=>?_))
 .simp only[iP];exact nN (by rw[<-ha,e])
 .simp only[AL,DL];exact nN (by rw[<-ha,e])
def By(prev:Option Int)(x:Int):Bool:=match prev with|some y=>decide (y<x)|none=>true
def yq:Option Int->LiQ->Int
 |_,[]=>0
 |prev,x::q=>cond (ta x) (cond (By prev x) (yq (some x) q) 6) 25
theorem Hz:∀(q:LiQ)(prev:Option Int),decide (yq prev q=0)=Cz prev q
 |[],_=>by simp[yq,Cz]
 | x::q,prev=>by
  have e:Cz prev (x::q)=(ta x&&By prev x&&Cz (some x) q):=by cases prev<;>rfl
  rw[e];cases h1:ta x with
  |false=>simp only[yq,h1,cond_false,V9];rfl
  | true=>
   cases h2:By prev x with
   |false=>simp only[yq,h1,h2,cond_true,cond_false,Zg,V9];rfl
   | true=>
    simp only[yq,h1,h2,cond_true,Zg];exact Hz q (some x)
theorem PT(k:KL):∀(q a:LiQ),(a++q).length<1000000000->(yq a.getLast? q=0->k (.exit 1) [] [])->(yq a.getLast? q≠0->k .ret [I (yq a.getLast? q)] []) ->
  lp (pA (CX Y) (lst di (a++q)) (lst di (a++q)) (I (a++q).length)) [] [] [I a.length] [] k
 | []=>by
  intro a hN h0 h1;refine aj ?_;simp[pA];exact h0 rfl
 | x::q=>by
  intro a hN h0 h1;simp at hN;have ih:=PT k q (a++[x]) bK;rw[List.getLast?_concat]at ih;refine aj ?_;simp(disch:=try exact ag)[pA];refine cd (L4 x) ?_;by_cases hp:ta x=true
  .rcases List.eq_nil_or_concat a with rfl|⟨b,y,rfl⟩
   .simp only[yq,hp,List.getLast?_nil,By,cond_true]at h0 h1;simp[hp];have:=ih h0 h1;simpa using this
   .rw[List.concat_eq_append]at *;have hny:nth 0 (b++[y]++x::q) b.length=y:=by rw[List.append_assoc];simp
    rw[List.getLast?_concat]at h0 h1;simp only[yq,hp,By,cond_true]at h0 h1;have eI:∀h:Hp,ixV h 1 (lst di (b++[y]++x::q)) (.d (.int .i64 (b.length:Int)))=some (.dptr ((b++[y]++x::q).map di) b.length):=fun h=>aJ di _ h rfl af
    have eL:∀h:Hp,ld1 h (.dptr ((b++[y]++x::q).map di) b.length)=some (.d (di y)):=fun h=>by
     have:=ad6 (b++[y]++x::q) h (j:=b.length) af;rw[hny]at this;exact this
    have hA:b++[y]++[x]++q=b++[y]++x::q:=af;have hn:(b++[y]).length=b.length+1:=af;have hn2:(b++[y]++[x]).length=b.length+1+1:=af;rw[hA,hn2]at ih;rw[hn]at hN ⊢;generalize b++[y]++x::q=A at *;generalize b.length=m at *;have e':((m+1:Nat):Int)-1=(m:Int):=aa;have hl0:(0:Int)<((m+1:Nat):Int):=aa;obtain⟨m1,hm1⟩:=nmQ (m+1);rw[<-hm1]at e' hl0 ih ⊢
    by_cases hyx:y<x
    .have g1:¬x<=y:=aa;rw[show decide (y<x)=true by simpa using hyx]at h0 h1;simp only[cond_true]at h0 h1;have:=ih h0 h1;simp(disch:=try exact ag)[hp,e',hl0,eI,eL,g1];simpa using this
    .have g1:x<=y:=aa;rw[show decide (y<x)=false by simpa using hyx]at h1;simp only[cond_false]at h1;simp(disch:=try exact ag)[hp,e',hl0,eI,eL,g1];simpa using h1
  .have hpf:ta x=false:=by simpa using hp
   simp only[yq,hpf,cond_false]at h1;simp[hpf];simpa using h1
def pcB(p:LiQ):Int:=if p.length=0 then 13 else if 6<p.length then 4 else yq none p
theorem Uy(p:LiQ):decide (pcB p=0)=Dn p:=by
 unfold pcB Dn;by_cases h1:p.length=0
 .simp[h1]
 .by_cases h2:6<p.length
  .have:¬p.length<=6:=aa;simp[h1,h2,this]
  .rw[if_neg h1,if_neg h2,Hz];have h3:0<p.length:=aa;have h4:p.length<=6:=aa;simp[h3,h4]
theorem oc{p:LiQ}(hN:p.length<1000000000):CP Y F.gB [lst di p] (I (pcB p)):=by
 refine Gl ?_;have lp':bj (lst di p)=some (I p.length):=rfl;by_cases h1:(p.length:Int)=0
 .have e:pcB p=13:=by unfold pcB;exact if_pos aa
  have hnil:p=[]:=Xq.1 aa;rw[e];subst hnil;simp[gB]<;>exact cx rfl
 have h1':¬p.length=0:=aa;have hne:¬p=[]:=fun e=>h1' (by rw[e];rfl)
 by_cases h2:(6:Int)<p.length
 .have e:pcB p=4:=by unfold pcB;exact(if_neg h1').trans (if_pos aa)
  rw[e];simp[gB,lp',h1,h2,hne]<;>exact cx rfl
 have e:pcB p=yq none p:=by unfold pcB;exact(if_neg h1').trans (if_neg aa)
 unfold gB;rw[e]
 have main:=PT (exK [((.exit 1),fun l6 h=>out (I (yq none p)) (.d (.int .i64 0)) h),(.ret,fun l6 h=>out (I (yq none p)) (ge l6 0) h)]) p [] (by simpa using hN) (fun g=>by
  simp only[List.getLast?_nil]at g;simp only[iP];exact cx g.symm) (fun g=>by
  simp only[List.getLast?_nil]at g ⊢;simp only[AL,DL];exact cx rfl)
 simp[lp',h1,h2,hne];exact main
theorem xZ(ha:ndg a<1000000)(hb:ndg b<1000000):CP Y F.ig [S (ai a),S (ai b)] (S (ai (a*b))):=by
 refine GJ ?_;have la:=kZ a;have lb:=kZ b;have bo:=DU a b;by_cases h18:(ndg a:Int)+(ndg b:Int)<=18
 .rw[if_pos ⟨aa,aa⟩]at bo
  have hm:a*b<1000000000000000000:=by
   have h1:=cY a;have h2:=cY b;have h3:a*b<10^ndg a*10^ndg b:=Yn h1 h2;rw[<-Y6]at h3;have h4:10^(ndg a+ndg b)<=10^18:=Z4 ae aa;exact Z1 h3 h4
  obtain⟨m,hmm⟩:=mnQ (a*b);have e1:(a:Int)*(b:Int)=(m:Int):=by rw[<-hmm];simp
  rw[hmm]at hm ⊢;simp(disch:=try exact ag)[ig,la,lb,h18];refine cd bo ?_;simp(disch:=try exact ag)[e1];refine cd (yU (n:=m) aa) ?_;exact fD rfl
 .obtain⟨ca,hca⟩:=nmQ (ndg a/9+1);obtain⟨cb,hcb⟩:=nmQ (ndg b/9+1);have ltA:a<Z^ca:=Z1 (cY a) (by rw[A7];exact Z4 ae aa);have ltB:b<Z^cb:=Z1 (cY b) (by rw[A7];exact Z4 ae aa)
  have cA:=tv (h:=[nnQ,nnQ,nnQ]) rfl (n:=a) aa hca;have lA:(bg ca a).length=ca:=cT ..;have lB:(bg cb b).length=cb:=cT ..;have cB:=tv (h:=[(1,.data 1 ((bg ca a).map u6) true false),nnQ,nnQ]) rfl (n:=b) aa hcb;simp(disch:=try exact ag)[ig,la,lb,h18];refine jC (fe (e:=0) (b:=.none) cA rfl ?_)
  rw[List.length_map,lA];simp;refine jC (fe (e:=0) (b:=.none) cB rfl ?_);rw[List.length_map,lB];simp;have rA:=DX (h:=[(1,.data 1 ((bg ca a).map u6) true false),(1,.data 1 ((bg cb b).map u6) true false),nnQ]) (s:=0) (e:=1) (len:=(dig Z a).length) (cap:=ca) (ex:=true) (fr:=false) rfl lA.symm (iL ltA)
  have rB:=DX (h:=[(1,.data 1 ((bg ca a).map u6) true false),(1,.data 1 ((bg cb b).map u6) true false),nnQ]) (s:=1) (e:=1) (len:=(dig Z b).length) (cap:=cb) (ex:=true) (fr:=false) rfl lB.symm (iL ltB);rw[nK ltA]at rA;rw[nK ltB]at rB;have dA:=iL ltA;have dB:=iL ltB;obtain⟨N,hN⟩:=nmQ ((dig Z a).length+(dig Z b).length)
  have tp:=Bg (h:=[(1,.data 1 ((bg ca a).map u6) true false),(1,.data 1 ((bg cb b).map u6) true false),nnQ]) rfl rA (cJ ax a) rB (cJ ax b) aa aa hN
  have ltM:a*b<Z^N:=by
   rw[hN,Y6];have h1:=jE bB (cJ ax a);have h2:=jE bB (cJ ax b);rw[iS ax]at h1 h2;exact Yn h1 h2
  rw[iS ax,iS ax]at tp;have lM:(bg N (a*b)).length=N:=cT ..;refine jC (fe (e:=0) (b:=.none) tp rfl ?_);rw[List.length_map,lM];simp
  have sM:=wL (h:=[(1,.data 1 ((bg ca a).map u6) true false),(1,.data 1 ((bg cb b).map u6) true false),(1,.data 1 ((bg N (a*b)).map u6) true false)]) (s:=2) rfl lM.symm (len:=(dig Z (a*b)).length) (cap:=N) (iL ltM) (Z7 _);rw[nK ltM]at sM;simp only[List.set_cons_zero,List.set_cons_succ]at sM
  have sMs:aS [(1,.data 1 ((bg ca a).map u6) true false),(1,.data 1 ((bg cb b).map u6) true false),(1,.data 1 ((bg N (a*b)).map u6) true false)] [.ref 2 1 0 (dig Z (a*b)).length N N]=some ([pcs (a*b)],[(1,.data 1 ((bg ca a).map u6) true false),(1,.data 1 ((bg cb b).map u6) true false),(1,.data 1 ((bg N (a*b)).map u6) true true)]):=by
   simp only[aS,sM];rfl
  refine cdz sMs (uU (n:=a*b) (by have:=iL ltM;omega)) ?_;rw[show fN (S (ai (a*b)))=true from rfl,if_pos rfl];exact fD rfl
theorem se{B:Nat}{a b:LnQ}(ha:aH B a)(hb:aH B b):aH B (a++b):=by
 intro x hx;rcases W4.1 hx with h|h
 .exact ha x h
 .exact hb x h
theorem qg(k:Nat):aH Z (List.replicate k 0):=by intro x hx;rw[List.eq_of_mem_replicate hx];exact bB
theorem oW(k:Nat)(l:LnQ):val Z (l++List.replicate k 0)=val Z l:=by
 rw[val_append]
 have:val Z (List.replicate k 0)=0:=by
  induction k with
  |zero=>rfl
  |succ k ih=>rw[List.replicate_succ];exact(congrArg (fun x=>0+Z*x) ih).trans (by rw[Nat.mul_zero])
 rw[this,Nat.mul_zero,Nat.add_zero]
theorem aeC{ce x B:Nat}(hB:2<=B)(h3:x+q*B*ce=a+b)(l1:a<q)(l2:b<q):x=a+b:=by
 rcases Zd ce with h|h
 .subst h;rw[Nat.mul_zero,Nat.add_zero]at h3;exact h3
 .have h1:=Zw (q*B) h;have h2:=Zw q hB;omega
theorem YL{A D:LnQ}{n:Nat}(hA:A.length=n)(hD:D.length=n)(sA:aH Z A)(sD:aH Z D)(va:val Z A=a)(vb:val Z D=b):
  val Z (rF 0 D (D.length+1) 0 0 (A++[0]))=a+b∧aH Z (rF 0 D (D.length+1) 0 0 (A++[0]))∧(rF 0 D (D.length+1) 0 0 (A++[0])).length=n+1:=by
 have sA0:aH Z (A++[0]):=se sA (qg 1);obtain⟨h1,h2,ce,h3⟩:=FT (at_:=0) sD (D.length+1) 0 0 (A++[0]) bK aa sA0;have e1:D.drop (0+(D.length+1))=[]:=Zb aa;have e2:val Z (A++[0])=a:=by rw[show([0]:LnQ)=List.replicate 1 0 from rfl,oW,va]
 have e0:val Z ([]:LnQ)=0:=rfl;rw[e1,e2,e0]at h3;have l1:=jE bB sA;have l2:=jE bB sD;rw[va,hA]at l1;rw[vb,hD]at l2;have hl:(rF 0 D (D.length+1) 0 0 (A++[0])).length=n+1:=by rw[h1.1];simp[hA]
 refine⟨?_,h2,hl⟩;rw[hD]at h3 ⊢;have h2Z:=ax;generalize val Z (rF 0 D (n+1) 0 0 (A++[0]))=x at *;simp only[Zj,vb,Nat.add_zero,Zp,Nat.pow_zero,Xr,Nat.pow_succ]at h3;exact aeC h2Z h3 l1 l2
theorem aak(k:Nat):jv k [D.int .u64 0]=(List.replicate k 0).map u6:=by
 induction k with
 |zero=>rfl
 |succ k ih=>rw[List.replicate_succ,Z2,<-ih];rfl
theorem Oi(a w:Nat)(hw:w<=18):CP Y F.bC [S (ai a),I w] (if ndg a<=w then .tup [I a,B true]else .tup [I 0,B false]):=by
 refine sI ?_;have la:=kZ a;by_cases h:(w:Int)<ndg a
 .rw[if_neg aa];simp[bC,la,h];exact aG rfl rfl
 .rw[if_pos aa];have ap:=JY (n:=a) (md a) aa (cY a);have en:biF .eql (.d (.pl .nilIface)) (.d (.pl .nilIface))=some (.d (.bool true)):=rfl;simp[bC,la,h];refine cd (args:=[S (ai a)]) ap ?_;simp[en];exact aG rfl rfl
theorem r8(a:Nat):CP Y F.aR [S (ai a)] (.tup [B false,S (ai a)]):=by have h:=wK (ai a);have e1:rdN (ai a)=false:=decide_eq_false (tg a);have e2:rdT (ai a)=ai a:=if_neg (tg a);rw[e1,e2]at h;exact h
theorem VK(s:LuQ):CP Y F.cF [B false,S s] (S s):=by refine zA ?_;simp[cF]<;>exact fD rfl
theorem YO{n:Nat}(h1:1<=w)(h2:w<=17)(hn:n<10^w):CP Y F.ic [S (45::dS n w)] (.tup [I (-(n:Int)),.d (.pl .nilIface)]):=by
 refine uF ?_;have hl:=FH w n;have hlt:=DO w n;have hh:=Fe w n hn;have he:=WS n w;have hD:=JJ w n;have hn17:n<10^17:=Z1 hn (Z4 ae h2);simp only[Nat.reducePow]at hn17;generalize dS n w=L at *;generalize B6 n w=l at *;have hlen:L.length=w:=by rw[hD];simpa using hl
 have hi:ixS (S (45::L)) (.d (.int .i64 0))=some (.d (.int .u8 45)):=by simp[ixS]
 have hlw:nS (S (45::L))=some (I (w+1:Nat)):=by rw[Jq];simp[hlen]
 have hsl:slS (S (45::L)) (some (.d (.int .i64 1))) none=some (S L):=by
  have:(1:Int)<=(L.length:Int)+1:=aa;simp[slS,boV,this]
 have hl2:nS (S L)=some (I w):=by rw[Jq,hlen]
 simp(disch:=try exact ag)[ic,hlw,hi]
 have hcv:∀(k:kkQ),cvB (S L) [] k=k (lst f8 l) []:=by
  intro k
  have:V.d (.sl L.length (L.map fun b=>.int .u8 b.toNat))=lst f8 l:=by
   unfold lst;rw[hlen,hl,<-he];rfl
  simp only[cvB,this]
 refine jD (l:=[S L]) (h:=[]) (fun q=>?_) ?_
 .simp(disch:=try exact ag)[hsl,hl2]
 show cvB (S L) [] _
 rw[hcv];simp;refine lo (JZ _ _ rfl l [] 0 bK hlt af ?_);simp[hi,hh];refine jD (l:=[I (-(n:Int))]) (h:=[]) (fun q=>?_) ?_
 .simp(disch:=try exact ag)[hh]
 exact⟨[],by simp[bJ,aS,norm]⟩
theorem YN{n:Nat}(h1:1<=w)(h2:w<=17)(hn:n<10^w):CP Y F.strconv_Atoi [S (45::dS n w)] (.tup [I (-(n:Int)),.d (.pl .nilIface)]):=by refine wH ?_;simp[strconv_Atoi];refine cd (YO h1 h2 hn) ?_;simp[Jc];exact⟨[],by simp[bJ,aS,norm]⟩
def sdg(z:Int):Nat:=ndg z.natAbs+if z<0 then 1 else 0
theorem LY(z:Int):nS (S (itoa z))=some (I (sdg z)):=by
 rw[Jq];unfold itoa sdg;split
 .simp[ai,bh]
 .simp[ai,bh]
theorem M1(h:sdg z<=18):CP Y F.strconv_Atoi [S (itoa z)] (.tup [I z,.d (.pl .nilIface)]):=by
 unfold sdg at h;by_cases hz:z<0
 .rw[if_pos hz]at h;have:=YN (n:=z.natAbs) (w:=ndg z.natAbs) (md _) aa (cY _);rw[show(-(z.natAbs:Int))=z by omega]at this;unfold itoa;rw[if_pos hz];exact this
 .rw[if_neg hz]at h;have:=JY (n:=z.natAbs) (w:=ndg z.natAbs) (md _) aa (cY _);rw[show((z.natAbs:Nat):Int)=z by omega]at this;unfold itoa;rw[if_neg hz];exact this
theorem te(z:Int)(w:Nat)(hw:w<=18):CP Y F.bC [S (itoa z),I w] (if sdg z<=w then .tup [I z,B true]else .tup [I 0,B false]):=by
 refine sI ?_;have la:=LY z;by_cases h:(w:Int)<sdg z
 .rw[if_neg aa];simp[bC,la,h];exact aG rfl rfl
 .rw[if_pos aa];have ap:=M1 (z:=z) aa;have en:biF .eql (.d (.pl .nilIface)) (.d (.pl .nilIface))=some (.d (.bool true)):=rfl;simp[bC,la,h];refine cd (args:=[S (itoa z)]) ap ?_;simp[en];exact aG rfl rfl
theorem E0(z:Int):CP Y F.gF [S (itoa z)] (if sdg z<=9 then .tup [I z,B true]else .tup [I 0,B false]):=by
 refine Az ?_;have la:=LY z;by_cases h:(9:Int)<sdg z
 .rw[if_neg aa];simp[gF,la,h];exact aG rfl rfl
 .rw[if_pos aa];have ap:=M1 (z:=z) aa;have en:biF .eql (.d (.pl .nilIface)) (.d (.pl .nilIface))=some (.d (.bool true)):=rfl;simp[gF,la,h];refine cd (args:=[S (itoa z)]) ap ?_;simp[en];exact aG rfl rfl
theorem Av(z:Int):rdN (itoa z)=decide (z<0):=by
 unfold itoa;split
 .rename_i h;simp[rdN,h]
 .rename_i h;have:=tg z.natAbs;unfold rdN;rw[decide_eq_false this,decide_eq_false h]
theorem rZ(z:Int):CP Y F.aR [S (itoa z)] (.tup [B (decide (z<0)),S (ai z.natAbs)]):=by have h:=wK (itoa z);rw[Av,uE]at h;exact h
theorem sE(h:ai a=ai b):a=b:=by
 have:=congrArg (fE 0) h
 rwa [dZ,dZ]at this
theorem VM{a b:Int}(h:itoa a=itoa b):a=b:=by
 have h1:=congrArg rdT h;have h2:=congrArg rdN h;rw[uE,uE]at h1;rw[Av,Av]at h2;have h3:=sE h1;have h4:(a<0)↔(b<0):=by simpa using h2
 omega
theorem mG{n:Nat}:ai n=[48]↔n=0:=by
 constructor
 .intro h;exact sE (a:=n) (b:=0) (h.trans fj.symm)
 .rintro rfl;exact fj
def sg(b:Bool)(n:Nat):Int:=if b then -(n:Int)else n
theorem m7(b:Bool){n:Nat}(hn9:ndg n<1000000):CP Y F.cF [B b,S (ai n)] (S (itoa (sg b n))):=by
 refine zA ?_;cases b with
 | false=>
  have:itoa (sg false n)=ai n:=by simp[sg,itoa]
  rw[this];simp[cF]<;>exact fD rfl
 | true=>
  by_cases hn:n=0
  .subst hn;have e0:itoa (sg true 0)=[48]:=fj;simp[cF,fj]<;>exact fD e0.symm
  .have h0:¬ai n=[48]:=fun h=>hn (mG.1 h)
   have:itoa (sg true n)=45::ai n:=by
    unfold itoa sg;rw[if_pos rfl,if_pos aa];simp
   rw[this];have hl:(ai n).length=ndg n:=bh _ _;have ha:biS .add (.d (.str [45])) (S (ai n))=some (S (45::ai n)):=abJ [45] (ai n) (by rw[hl];simp;omega);simp[cF,h0,ha]<;>exact fD rfl
theorem P3(hz:ndg z.natAbs<1000000):CP Y F.qa [S (itoa z)] (S (itoa (-z))):=by
 refine Kf ?_;simp[qa];refine cd (rZ z) ?_;simp;have:=m7 (!decide (z<0)) hz
 have e:sg (!decide (z<0)) z.natAbs = -z:=by
  unfold sg;by_cases h:z<0
  .simp[h];omega
  .simp[h];omega
 rw[e]at this;refine cd this ?_;exact fD rfl
def bZ(n:Nat):Nat:=(dig Z n).length
theorem DR{n:Nat}:bZ n=ndg n/9+1∨bZ n+1=ndg n/9+1:=by
 unfold bZ;have h1:(dig Z n).length<=ndg n/9+1:=(pN ax).2 (Z1 (cY n) (by rw[A7];exact Z4 ae aa))
 have h2:ndg n<=9*(dig Z n).length∨n=0:=by
  rcases Zd n with h|h
  .omega
  .left;have h3:n<Z^(dig Z n).length:=(pN ax).1 (Z7 _);rw[A7]at h3;refine cN h3 ?_;rcases Zd (dig Z n).length with h4|h4
   .grind
   .omega
 rcases h2 with h2|rfl
 .omega
 .have:ndg 0=1:=bb;omega
theorem Jm(n:Nat):n<Z^bZ n:=(pN ax).1 (Z7 _)
theorem AC(n:Nat):bg (bZ n) n=dig Z n:=by
 have:=nK (Jm n)
 rwa [Z6 (by rw[cT];exact Z7 _)]at this
theorem AB{n:Nat}(h:bZ n+1=c):bg c n=dig Z n++[0]:=by rw[<-h,BQ (Jm n),AC]
theorem QQ{s t n c:Nat}{h:Hp}{q:kkQ}{u:PU q}(hst:s≠t)(hg:h[s]?=some (1,.data 1 ((bg c n).map u6) true false))(ht:h[t]?=some nnQ)(hL:bZ n=c∨bZ n+1=c)(hc:c<1000000)
  (hq:∀s' e' ex h',h'.length=h.length->h'[s']?=some (e',.data 1 ((dig Z n++[0]).map u6) ex false)->(s'=s∨s'=t)->(∀j,j≠s'->h'[j]?=h[j]?)->q (.ref s' e' 0 (bZ n+1) (bZ n+1) (bZ n+1)) h') :
  rh (apV false t 1 8 (.ref s 1 0 (bZ n) c c) (.d (.sl 1 [u6 0])) h) q u:=by
 have hl:=bH hg;have hl2:=bH ht;rcases hL with hL|hL
 .subst hL;rw[AC]at hg;refine QP hg ht rfl aa ?_;exact hq t 1 false _ af (by grind) (.inr rfl) (fun j hj=>by rw[List.getElem?_set_ne (Ne.symm hj)])
 .rw[AB hL]at hg;have hlen:(dig Z n).length=bZ n:=rfl;refine OU (x:=0) hg (by grind) aa ?_;rw[<-hL];refine hq s 1 true _ af ?_ (.inl rfl) (fun j hj=>by rw[List.getElem?_set_ne (Ne.symm hj)])
  have e1:(dig Z n++[0]).take (bZ n)++[0]++(dig Z n++[0]).drop (bZ n+1)=dig Z n++[0]:=by
   rw[<-hlen,V6,Zb af,Y8]
  grind
theorem QO{s t n c k:Nat}{h:Hp}{q:kkQ}{u:PU q}(hst:s≠t)(hg:h[s]?=some (1,.data 1 ((bg c n).map u6) true false))(ht:h[t]?=some nnQ)(hL:bZ n=c∨bZ n+1=c)(hc:c+k<1000000)
  (hq:∀t1 s' h',h'.length=h.length->(s'=s∨s'=t)->(∀j,j≠s'->h'[j]?=h[j]?)->(∃(e':Nat)(l:LnQ)(ex:Bool),h'[s']?=some (e',.data 1 (l.map u6) ex false)) ->
   (∀P:Hp->Prop,(∀g,P g->g[s']?=h'[s']?)->RdS P t1 (dig Z n++List.replicate k 0))->q t1 h') :
  rh (apZ false t 1 8 [.int .u64 0] (.ref s 1 0 (bZ n) c c) (I (k:Nat)) h) q u:=by
 have hl:=bH hg;have hl2:=bH ht;have hlen:(dig Z n).length=bZ n:=rfl;unfold rh apZ;simp only;rw[if_pos ⟨aa,aa⟩];unfold apC;simp only[Int.toNat_natCast]
 have rdOf:∀{s' e' len cap tot:Nat}{l:LnQ}{ex:Bool}{h':Hp},h'[s']?=some (e',.data 1 (l.map u6) ex false)->tot=l.length->len<=tot->l.take len=dig Z n++List.replicate k 0 ->
   ∀P:Hp->Prop,(∀g,P g->g[s']?=h'[s']?)->RdS P (.ref s' e' 0 len cap tot) (dig Z n++List.replicate k 0):=by
  intro s' e' len cap tot l ex h' hg' htot hle htk P hP;refine⟨?_,fun g i hg2 hi=>?_⟩
  .have:(dig Z n++List.replicate k 0).length=len:=by rw[<-htk,Zr];omega
   simp_all
  .have:=(DX (h:=g) (cap:=cap) ((hP g hg2).trans hg') htot hle).2 [] i (by grind)
   grind
 by_cases hk:k=0
 .rw[if_pos hk,if_pos aa];subst hk;refine hq _ s h rfl (.inl rfl) (fun _ _=>rfl) ⟨_,_,_,hg⟩ ?_;refine rdOf hg (cT ..).symm aa ?_;rw[Xi,Y8];rcases hL with hL|hL
  .rw[<-hL,AC,<-hlen,Wq]
  .rw[AB hL,<-hlen,V6]
 .rw[if_neg hk,aak];simp only[eG hg];rw[if_pos ⟨trivial,by simp[cT],aa,by simp[cT],af⟩];by_cases hin:bZ n+k<=c
  .rw[if_pos hin];have hk1:k=1:=aa;subst hk1;have hL2:bZ n+1=c:=aa;simp only[V7,Ze,if_false,bS]
   have e1:((bg c n).map u6).take (0+bZ n*1)++(List.replicate 1 0).map u6++((bg c n).map u6).drop (0+(bZ n+1)*1)=(dig Z n++[0]).map u6:=by
    rw[AB hL2,Zp,Zp,Yc,Yc,<-hlen];simp[<-List.map_take,<-List.map_drop]
   rw[e1];refine hq _ s _ af (.inl rfl) (fun j hj=>by rw[List.getElem?_set_ne (Ne.symm hj)]) ⟨1,dig Z n++[0],true,by grind⟩ ?_;refine rdOf (l:=dig Z n++[0]) (ex:=true) (by grind) (by grind) aa ?_
   grind
  .rw[if_neg hin,if_pos aa];simp only[if_true,new,ht]
   have e1:(((bg c n).map u6).drop 0).take (bZ n*1)++(List.replicate k 0).map u6=(dig Z n++List.replicate k 0).map u6:=by
    rw[Zj,Yc,<-List.map_take,Xx];congr 2;rcases hL with hL|hL
    .rw[<-hL,AC,<-hlen,Wq]
    .rw[AB hL,<-hlen,V6]
   rw[e1];have e2:bZ n*1+((List.replicate k 0).map u6).length=bZ n+k:=af;rw[e2];refine hq _ t _ af (.inr rfl) (fun j hj=>by rw[List.getElem?_set_ne (Ne.symm hj)]) ⟨1,dig Z n++List.replicate k 0,false,by grind⟩ ?_;refine rdOf (l:=dig Z n++List.replicate k 0) (ex:=false) (by grind) (by grind) aa ?_
   grind[Z6]
def NV(h:Hp):Prop:=∀(j:Nat)(x:Nat×Bk),h[j]?=some x->∀b,bW b x.2=true
theorem NV.all{h:Hp}(hn:NV h)(b:Nat):(h.all fun x=>bW b x.2)=true:=by rw[Zv];intro x hx;obtain⟨j,hj⟩:=W7.1 hx;exact hn j x hj b
theorem NV.upd{h h':Hp}(hn:NV h){s e:Nat}{l:LnQ}{ex fr:Bool}(hs:h'[s]?=some (e,.data 1 (l.map u6) ex fr))(ho:∀j,j≠s->h'[j]?=h[j]?):NV h':=by
 intro j x hj b;by_cases e1:j=s
 .subst e1;rw[hs]at hj;cases hj;rfl
 .rw[ho j e1]at hj;exact hn j x hj b
theorem TA{α:Type}{l:List α}{i:Nat}{x:α}(h:l[i]?=some x):l.set i x=l:=by
 apply X8;intro j;by_cases e:i=j
 .grind
 .rw[List.getElem?_set_ne e]
theorem Pq{h:Hp}{s e:Nat}{ex:Bool}{l:LnQ}(hs:h[s]?=some (e,.data 1 (l.map u6) ex false)):sP h s e ex l=h:=TA hs
theorem G8{h:Hp}{s e n m:Nat}{ex:Bool}{L:LnQ}{w:V}(hn:NV h)(hlt:s<h.length)(h3:L.length=n)(b1:val Z L=m)(b2:aH Z L)(hm:n<1000000)(kk:V->V)(hkk:∀h':Hp,out w (kk (S (ai m))) h'){sl:Nat} :
  cai (CX Y).i (sP h s e ex L) (V.fn F.ay [] []) [.ref s e 0 n n n] sl fun v22 h=>
    cal (CX Y).p h (V.fn F.aP [] []) [v22] fun v23 h=>out w (kk v23) h:=by
 have nv:NV (sP h s e ex L):=hn.upd (sY hlt) (fun j hj=>by grind[sP]);have tr:=uu (h:=sP h s e ex L) (nv.all _) (s:=s) (e:=e) (ex:=ex) (fr:=false) (sY hlt) h3.symm (len:=n) (cap:=n) (Z7 _) aa (Z7 _);have ht:iN (L.take n)=dig Z m:=by rw[Z6 aa,<-b1,rR ax b2]
 rw[ht]at tr;refine pT tr ?_ af;have lt:m<Z^n:=by rw[<-b1,<-h3];exact jE bB b2
 have hl:(dig Z m).length<=n:=(pN ax).2 lt;have sM:=wL (h:=sP h s e ex L) (s:=s) (e:=e) (ex:=ex) (fr:=false) (sY hlt) h3.symm (len:=(dig Z m).length) (cap:=n) hl (Z7 _)
 have ht2:L.take (dig Z m).length=dig Z m:=by
  have e:iN L=dig Z m:=by rw[<-ht,Z6 aa]
  obtain⟨z,hz⟩:=G6 L;rw[e]at hz;rw[hz];exact V6 ..
 rw[ht2]at sM;refine cdz (u:=.mk) (by simp only[aS,sM];rfl) (uU (n:=m) aa) ?_
 grind
theorem FJ(ha:ndg a<1000000)(hb:ndg b<1000000):CP Y F.ii [S (ai a),S (ai b)] (S (ai (a+b))):=by
 refine GN ?_;have bo:=DU a b;by_cases h18:ndg a<=18∧ndg b<=18
 .rw[if_pos h18]at bo;have g3:10^ndg a<=10^18:=Z4 ae h18.1;have g4:10^ndg b<=10^18:=Z4 ae h18.2;have b1:a<1000000000000000000:=Z1 (cY a) g3;have b2:b<1000000000000000000:=Z1 (cY b) g4;simp[ii];refine cd bo ?_;obtain⟨m,hm⟩:=mnQ (a+b);have em:(a:Int)+(b:Int)=(m:Int):=aa
  rw[hm];simp(disch:=try exact ag)[em];refine cd (yU (n:=m) aa) ?_;exact fD rfl
 rw[if_neg h18]at bo;obtain⟨ca,hca⟩:=nmQ (ndg a/9+1);obtain⟨cb,hcb⟩:=nmQ (ndg b/9+1);have cA:=tv (h:=[nnQ,nnQ,nnQ,nnQ,nnQ,nnQ]) rfl (n:=a) aa hca;have cB:=tv (h:=[(1,.data 1 ((bg ca a).map u6) true false),nnQ,nnQ,nnQ,nnQ,nnQ]) rfl (n:=b) aa hcb
 have LA:bZ a=ca∨bZ a+1=ca:=by rw[hca];exact DR
 have LB:bZ b=cb∨bZ b+1=cb:=by rw[hcb];exact DR
 have hli:∀h:Hp,cO 1 [D.int .u64 0] [(0,V.d (D.int .u64 0))] h=some ([u6 0],h):=fun h=>by rfl
 have main:∀(p q cp cq sp sq:Nat)(h:Hp),p+q=a+b->bZ q<=bZ p->cp<200000->cq<200000->(bZ p=cp∨bZ p+1=cp)->(bZ q=cq∨bZ q+1=cq)->sp<2->sq<2->sp≠sq->h.length=6->NV h ->
   h[sp]?=some (1,.data 1 ((bg cp p).map u6) true false)->h[sq]?=some (1,.data 1 ((bg cq q).map u6) true false)->h[2]?=some nnQ->h[3]?=some nnQ ->
   apV false 2 1 8 (.ref sp 1 0 (bZ p) cp cp) (.d (.sl 1 [u6 0])) h fun v15 h=>
   bnd (bj v15) fun v16=>
   bnd (biI .sub v16 (.d (.int .i64 1))) fun v17=>
   bnd (bj (.ref sq 1 0 (bZ q) cq cq)) fun v18=>
   bnd (biI .sub v17 v18) fun v19=>
   apZ false 3 1 8 [.int .u64 0] (.ref sq 1 0 (bZ q) cq cq) v19 h fun v20 h=>
   cai (CX Y).i h (.fn F.cL [] []) [v15,v20,(.d (.int .i64 0))] 4 fun v21 h=>
   cai (CX Y).i h (.fn F.ay [] []) [v15] 5 fun v22 h=>
   cal (CX Y).p h (.fn F.aP [] []) [v22] fun v23 h=>
   out (S (ai (a+b))) v23 h:=by
  intro p q cp cq sp sq h hpq hle hcp hcq LP LQ hsp hsq hne hlen hnv gp gq g2 g3;refine QQ (u:=.mk) (t:=2) aa gp g2 LP aa fun s' e' ex h1 l1 gs' hs' o1=>?_
  obtain⟨k,hk⟩:=nmQ (bZ p-bZ q);have e1:(bZ p:Int)+1-1-(bZ q:Int)=(k:Int):=aa;have hr1:bj (.ref s' e' 0 (bZ p+1) (bZ p+1) (bZ p+1))=some (I (bZ p+1:Nat)):=rfl;have hr2:bj (.ref sq 1 0 (bZ q) cq cq)=some (I (bZ q:Nat)):=rfl
  have hb1:biI .sub (I ((bZ p+1:Nat):Int)) (.d (.int .i64 1))=some (I (bZ p)):=by
   rw[rT,show(((bZ p+1:Nat):Int)-1)=(bZ p:Int) by omega,uo aa aa]
  have hb2:biI .sub (I (bZ p:Int)) (I (bZ q:Int))=some (I k):=by
   rw[rT,show((bZ p:Int)-(bZ q:Int))=(k:Int) by omega,uo aa aa]
  simp only[hr1,hr2,hb1,hb2,bnd];have nv1:=hnv.upd gs' o1;have hqs:sq≠s':=by rcases hs' with rfl|rfl<;>omega
  have h3s:3≠s':=by rcases hs' with rfl|rfl<;>omega
  refine QO (u:=.mk) (t:=3) aa ((o1 sq hqs).trans gq) ((o1 3 h3s).trans g3) LQ aa fun t1 s2 h2 l2 hs2 o2 ⟨e2,l2',ex2,g2'⟩ rd=>?_
  have nv2:=nv1.upd g2' o2;have hss:s'≠s2:=by rcases hs2 with rfl|rfl<;>omega
  have gs2:h2[s']?=some (e',.data 1 ((dig Z p++[0]).map u6) ex false):=(o2 s' hss).trans gs';have lt2:s'<h2.length:=bH gs2;have hdl:(dig Z q++List.replicate k 0).length=bZ p:=by simp only[Zm,Zh];show bZ q+k=_;omega
  have sD:aH Z (dig Z q++List.replicate k 0):=se (cJ ax q) (qg _);have vD:val Z (dig Z q++List.replicate k 0)=q:=by rw[oW,iS ax]
  have rdS:=rd (fun t=>∃l,t=sP h2 s' e' ex l) (fun g ⟨l,hg⟩=>by grind[sP]);obtain⟨c1,c2,c3⟩:=YL (n:=bZ p) rfl hdl (cJ ax p) sD (iS ax p) vD;have bk:=MZ (at_:=0) (tot:=bZ p+1) (l:=dig Z p++[0]) (ex:=ex) (e:=e') (s:=s') (h:=h2) (nv2.all _) lt2 rdS sD aa aa (by simp[bZ]) (se (cJ ax p) (qg 1))
  rw[Pq gs2]at bk;refine pT bk ?_ af;rw[hpq]at c1;exact G8 nv2 lt2 c3 c1 c2 aa (fun v=>v) (fun _=>fD rfl)
 simp[ii];refine cd bo ?_;simp;refine jC (fe (e:=0) (b:=.none) cA rfl ?_);rw[List.length_map,cT];simp;refine jC (fe (e:=0) (b:=.none) cB rfl ?_);rw[List.length_map,cT]
 have nv:NV [(1,.data 1 ((bg ca a).map u6) true false),(1,.data 1 ((bg cb b).map u6) true false),nnQ,nnQ,nnQ,nnQ]:=by
  intro j x hj b';rcases W7.2 ⟨j,hj⟩with hm;simp only[Zo,Ys,or_false]at hm;rcases hm with rfl|rfl|rfl|rfl|rfl|rfl<;>rfl
 by_cases g1:((dig Z a).length:Int)<((dig Z b).length:Int)
 .simp[g1];refine aT ?_;simp[hli];exact main b a cb ca 1 0 _ aa (by grind[bZ]) aa aa LB LA aa aa aa rfl nv rfl rfl rfl rfl
 .simp[g1];refine aT ?_;simp[hli];exact main a b ca cb 0 1 _ rfl (by grind[bZ]) aa aa LA LB aa aa aa rfl nv rfl rfl rfl rfl
theorem HO:∀(s t:LuQ)(c:Nat),s.length=t.length->s.all qt=true->t.all qt=true->Op.bytesLess s t=decide (fE c s<fE c t)
 |[],[],c,_,_,_=>by simp[Op.bytesLess]
 | x::s,y::t,c,hl,hs,ht=>by
  simp only[List.length_cons,Nat.add_right_cancel_iff]at hl;simp only[List.all_cons,Z8]at hs ht;have hx:=mA.1 hs.1;have hy:=mA.1 ht.1
  have key:∀(s t:LuQ)(u v:Nat),s.length=t.length->s.all qt=true->u<v->fE u s<fE v t:=by
   intro s t u v hl hs h;have h1:=uG s u hs;have h2:=Ff t v;rw[<-hl]at h2;have h3:(u+1)*10^s.length<=v*10^s.length:=Zz _ h;omega
  rw[ky,ky];have ex:x<y↔x.toNat<y.toNat:=UInt8.lt_iff_toNat_lt;have ey:y<x↔y.toNat<x.toNat:=UInt8.lt_iff_toNat_lt;rcases Nat.lt_trichotomy x.toNat y.toNat with h|h|h
  .have:=key s t (c*10+(x.toNat-48)) (c*10+(y.toNat-48)) hl hs.2 aa
   grind[Op.bytesLess]
  .have e:x=y:=UInt8.toNat_inj.1 h;subst e;rw[<-HO s t _ hl hs.2 ht.2];simp[Op.bytesLess]
  .have:=key t s (c*10+(y.toNat-48)) (c*10+(x.toNat-48)) hl.symm ht.2 aa;rw[decide_eq_false aa]
   grind[Op.bytesLess]
theorem HS(n:Nat):(ai n).all qt=true:=xv _ _
theorem HN(h:ndg a=ndg b):Op.bytesLess (ai a) (ai b)=decide (a<b):=by rw[HO (ai a) (ai b) 0 (by rw[ai,ai,bh,bh,h]) (HS _) (HS _),dZ,dZ]
theorem UQ(h:ndg a<ndg b):a<b:=by
 rcases Zi a b with g|g
 .exact g
 .have:=dM g;omega
theorem B8(h:a<b):Big.cmp a b = -1:=if_pos h
theorem B9(h:b<a):Big.cmp a b=1:=(if_neg aa).trans (if_pos h)
theorem cmp_eq:Big.cmp a a=0:=(if_neg aa).trans (if_neg aa)
theorem uO(ha:ndg a<1000000)(hb:ndg b<1000000):CP Y F.bV [S (ai a),S (ai b)] (I (Big.cmp a b)):=by
 refine AP ?_;have la:=kZ a;have lb:=kZ b;by_cases hl:ndg a=ndg b
 .have h1:=HN hl;have h2:=HN hl.symm;have e1:biS .lss (S (ai a)) (S (ai b))=some (.d (.bool (decide (a<b)))):=by rw[<-h1];rfl
  have e2:biS .gtr (S (ai a)) (S (ai b))=some (.d (.bool (decide (b<a)))):=by
   have h3:(ai a == ai b)=decide (a=b):=by
    rw[Xz];simp only[beq_iff_eq,decide_eq_true_eq];exact⟨sE,fun h=>by rw[h]⟩
   have h4:decide (b<a) = !(decide (a<b)||decide (a=b)):=by
    rw[Xz];simp only[decide_eq_true_eq,Y9,Bool.or_eq_false_iff,decide_eq_false_iff_not];omega
   rw[h4,<-h1,<-h3];rfl
  rw[hl]at la;by_cases g1:a<b
  .simp[bV,la,lb,e1,e2,g1]
   grind[cx,B8]
  .by_cases g2:b<a
   .simp[bV,la,lb,e1,e2,g1,g2]
    grind[cx,B9]
   .simp[bV,la,lb,e1,e2,g1,g2];have:a=b:=aa
    grind[cx,cmp_eq]
 .have hne:¬((ndg a:Int)=(ndg b:Int)):=aa;rcases Zi (ndg a) (ndg b)with h|h
  .have h3:=UQ h;have m1:mxI true [.d (.int .i64 (-1)),I ((ndg a:Int)-ndg b)]=some (I (-1)):=by simp[mxI,mx2];omega
   have m2:mxI false [.d (.int .i64 1),I (-1)]=some (I (-1)):=rfl;simp(disch:=try exact ag)[bV,la,lb,hne,m1,m2]
   grind[cx,B8]
  .have h3:b<a:=UQ aa;have m1:mxI true [.d (.int .i64 (-1)),I ((ndg a:Int)-ndg b)]=some (I ((ndg a:Int)-ndg b)):=by simp[mxI,mx2];omega
   have m2:mxI false [.d (.int .i64 1),I ((ndg a:Int)-ndg b)]=some (I 1):=by simp[mxI,mx2];omega
   simp(disch:=try exact ag)[bV,la,lb,hne,m1,m2]
   grind[cx,B9]
theorem Lt:1<Z:=ax
theorem SU{A D:LnQ}{n:Nat}(hA:A.length=n)(hD:D.length=n)(sA:aH Z A)(sD:aH Z D)(va:val Z A=a)(vb:val Z D=b)(hba:b<=a):
  val Z (jb 1 0 D (D.length+1) 0 0 0 (A++[0])).2=a-b∧aH Z (jb 1 0 D (D.length+1) 0 0 0 (A++[0])).2∧(jb 1 0 D (D.length+1) 0 0 0 (A++[0])).2.length=n+1:=by
 have sA0:aH Z (A++[0]):=se sA (qg 1);have l2:=jE bB sD;rw[vb,hD]at l2
 obtain ⟨h1,h2,h3,h4⟩:=Ee (g:=1) (at_:=0) Lt sD (D.length+1) 0 0 0 (A++[0]) bK bB (Yl _) sA0 (by
  rw[Zj,vb,hD,Xr,Zp,Nat.pow_succ];exact Z1 l2 (Y5 _ bB))
 have e2:val Z (A++[0])=a:=by rw[show([0]:LnQ)=List.replicate 1 0 from rfl,oW,va]
 have hl:(jb 1 0 D (D.length+1) 0 0 0 (A++[0])).2.length=n+1:=by rw[h1.1];simp[hA]
 refine⟨?_,h2,hl⟩;have h5:=jE bB h2;rw[hl]at h5;rw[e2,Zj,vb,hD]at h4;rw[hD]at h3 h5 ⊢;generalize val Z (jb 1 0 D (n+1) 0 0 0 (A++[0])).2=x at *;generalize(jb 1 0 D (n+1) 0 0 0 (A++[0])).1=c at *;simp only[Zp,Nat.add_zero,Nat.pow_zero,Xr]at h4;rcases Zd c with h|h
 .subst h;omega
 .have:c=1:=aa;subst this;rw[Yc]at h4;omega
theorem B5(hba:b<=a)(ha:ndg a<1000000):CP Y F.jg [S (ai a),S (ai b)] (.tup [S (ai (a-b)),I 0]):=by
 have hb:ndg b<1000000:=Zk (dM hba) ha;refine GH ?_;have bo:=DU a b;have dc:=uO ha hb
 have hc:¬Big.cmp a b<0:=by
  unfold Big.cmp;rw[if_neg aa];split<;>omega
 have hc2:(-1:Int)<=Big.cmp a b∧Big.cmp a b<=1:=by
  unfold Big.cmp;split
  .omega
  .split<;>omega
 generalize Big.cmp a b=cc at *;simp[jg];refine cd dc ?_;simp[hc];by_cases h18:ndg a<=18∧ndg b<=18
 .rw[if_pos h18]at bo;have g3:10^ndg a<=10^18:=Z4 ae h18.1;have b1:a<1000000000000000000:=Z1 (cY a) g3;refine cd bo ?_;obtain⟨m,hm⟩:=mnQ (a-b);have em:(a:Int)-(b:Int)=(m:Int):=aa;rw[hm];simp(disch:=try exact ag)[em];refine cd (yU (n:=m) aa) ?_;exact aG rfl rfl
 rw[if_neg h18]at bo;obtain⟨ca,hca⟩:=nmQ (ndg a/9+1);obtain⟨cb,hcb⟩:=nmQ (ndg b/9+1);have cA:=tv (h:=[nnQ,nnQ,nnQ,nnQ,nnQ,nnQ,nnQ]) rfl (n:=a) aa hca;have LA:bZ a=ca∨bZ a+1=ca:=by rw[hca];exact DR
 have LB:bZ b=cb∨bZ b+1=cb:=by rw[hcb];exact DR
 have hle:bZ b<=bZ a:=(pN ax).2 (Zk hba (Jm a));have hli:∀h:Hp,cO 1 [D.int .u64 0] [(0,V.d (D.int .u64 0))] h=some ([u6 0],h):=fun h=>by simp[cO,jv,iH,toD,u6]
 refine cd bo ?_;simp;refine jC (fe (e:=0) (b:=.none) cA rfl ?_);rw[List.length_map,cT];simp[hli]
 have nv:NV [(1,.data 1 ((bg ca a).map u6) true false),nnQ,nnQ,nnQ,nnQ,nnQ,nnQ]:=by
  intro j x hj b';rcases W7.2 ⟨j,hj⟩with hm;simp only[Zo,Ys,or_false]at hm;rcases hm with rfl|rfl|rfl|rfl|rfl|rfl|rfl<;>rfl
 refine QQ (s:=0) (t:=1) (n:=a) (c:=ca) aa rfl rfl LA aa fun s1 e1 ex1 h1 l1 g1 hs1 o1=>?_
 have nv1:=nv.upd g1 o1;have k1:∀j,2<=j->h1[j]?=([(1,.data 1 ((bg ca a).map u6) true false),nnQ,nnQ,nnQ,nnQ,nnQ,nnQ]:Hp)[j]?:=fun j hj=>o1 j aa
 have hr1:bj (.ref s1 e1 0 (bZ a+1) (bZ a+1) (bZ a+1))=some (I (bZ a+1:Nat)):=rfl
 have hb1:biI .sub (I ((bZ a+1:Nat):Int)) (.d (.int .i64 1))=some (I (bZ a)):=by
  rw[rT,show(((bZ a+1:Nat):Int)-1)=(bZ a:Int) by omega,uo aa aa]
 -- the second number,twice
 have cB:=tv (h:=h1) (nv1.all _) (n:=b) aa hcb;refine jC (u:=.mk) (fe (e:=0) (b:=.none) cB (k1 2 aa) ?_);rw[List.length_map,cT];have l2:(h1.set 2 (1,.data 1 ((bg cb b).map u6) true false)).length=7:=by simp[l1]
 have n2:(2:Nat)<h1.length:=by rw[l1];simp
 have g2:(h1.set 2 (1,.data 1 ((bg cb b).map u6) true false))[2]?=some (1,.data 1 ((bg cb b).map u6) true false):=by simp[n2]
 have o2:∀j,j≠2->(h1.set 2 (1,.data 1 ((bg cb b).map u6) true false))[j]?=h1[j]?:=fun j hj=>by rw[List.getElem?_set_ne (Ne.symm hj)]
 have nv2:=nv1.upd g2 o2;generalize h1.set 2 (1,.data 1 ((bg cb b).map u6) true false)=h2 at *
 show bnd (bj (.ref s1 e1 0 (bZ a+1) (bZ a+1) (bZ a+1))) _
 simp only[hr1,hb1,bnd];have cB2:=tv (h:=h2) (nv2.all _) (n:=b) aa hcb;refine jC (u:=.mk) (fe (e:=0) (b:=.none) cB2 ((o2 3 ae).trans (k1 3 aa)) ?_);rw[List.length_map,cT];have n3:(3:Nat)<h2.length:=by rw[l2];simp
 have g3:(h2.set 3 (1,.data 1 ((bg cb b).map u6) true false))[3]?=some (1,.data 1 ((bg cb b).map u6) true false):=by simp[n3]
 have o3:∀j,j≠3->(h2.set 3 (1,.data 1 ((bg cb b).map u6) true false))[j]?=h2[j]?:=fun j hj=>by rw[List.getElem?_set_ne (Ne.symm hj)]
 have nv3:=nv2.upd g3 o3;generalize h2.set 3 (1,.data 1 ((bg cb b).map u6) true false)=h3 at *;obtain⟨k,hk⟩:=nmQ (bZ a-bZ b);have hr2:bj (.ref 3 (0+1) 0 (bZ b) cb cb)=some (I (bZ b:Nat)):=rfl
 have hb2:biI .sub (I (bZ a:Int)) (I (bZ b:Int))=some (I k):=by
  rw[rT,show((bZ a:Int)-(bZ b:Int))=(k:Int) by omega,uo aa aa]
 simp only[show bj (V.ref 3 (0+1) 0 (dig Z b).length cb cb)=some (I (bZ b:Nat))from rfl,hb2];have q2:h3[2]?=some (1,.data 1 ((bg cb b).map u6) true false):=(o3 2 ae).trans g2;have q4:h3[4]?=some nnQ:=((o3 4 ae).trans (o2 4 ae)).trans (k1 4 aa)
 refine QO (u:=.mk) (s:=2) (t:=4) aa q2 q4 LB aa fun t1 s4 h4 l4 hs4 o4 ⟨e4,l4',ex4,g4⟩ rd=>?_
 have nv4:=nv3.upd g4 o4;have hss:s1≠s4:=by rcases hs1 with rfl|rfl<;>rcases hs4 with rfl|rfl<;>omega
 have h12:s1≠2∧s1≠3:=by rcases hs1 with rfl|rfl<;>omega
 have gs:h4[s1]?=some (e1,.data 1 ((dig Z a++[0]).map u6) ex1 false):=(((o4 s1 hss).trans (o3 s1 h12.2)).trans (o2 s1 h12.1)).trans g1;have lt4:=bH gs;have hdl:(dig Z b++List.replicate k 0).length=bZ a:=by simp only[Zm,Zh];show bZ b+k=_;omega
 have sD:aH Z (dig Z b++List.replicate k 0):=se (cJ ax b) (qg _);have vD:val Z (dig Z b++List.replicate k 0)=b:=by rw[oW,iS ax]
 have rdS:=rd (fun t=>∃l,t=sP h4 s1 e1 ex1 l) (fun g ⟨l,hg⟩=>by rw[hg];unfold sP;rw[List.getElem?_set_ne hss]);obtain⟨c1,c2,c3⟩:=SU (n:=bZ a) rfl hdl (cJ ax a) sD (iS ax a) vD hba
 have bk:=KE (g:=1) (at_:=0) (tot:=bZ a+1) (l:=dig Z a++[0]) (ex:=ex1) (e:=e1) (s:=s1) (h:=h4) (nv4.all _) lt4 rdS sD Lt (by rw[hdl];omega) aa (by simp[bZ]) (se (cJ ax a) (qg 1));rw[Pq gs]at bk;refine jC (u:=.mk) (pT bk ?_ af);exact G8 nv4 lt4 c3 c1 c2 aa (fun v=>.tup [v,I 0]) (fun _=>aG rfl rfl)
end Go.Vm
