/- Lemmas. -/
import Derived.Test.YtbjigngcncfhmaaGreatDoorQDcX
set_option linter.unusedVariables false
set_option linter.unusedSimpArgs false
namespace Go.Vm
open Go Go.Am Go.Big
variable{j n2 w k q cap len N a b d c:Nat}{ol' al':LnQ}{α:Type}{z:Int}
section
variable{H:Hp}{p7 p8 pa0 pb0 pb1:V}{n i:Nat}{L lD lB x0 x1 x2 y0 y1 D v hi:Nat}
theorem NY(G:Gs Z L lD lB x0 x1 x2 y0 y1 D v hi)(hy1Z:y1<Z)(hhi:hi<Z*Z)(hn:2<=n)(hnb:n<Z)(hib:i<Z)
  (a1:ixV H 1 p7 (I ((i:Int)+(n:Int)-2))=some pa0) (a2:ld1 H pa0=some (U x0)) (b1:ixV H 1 p8 (I ((n:Int)-2))=some pb0) (b2:ld1 H pb0=some (U y0))
  (c1:ixV H 1 p8 (I ((n:Int)-1))=some pb1) (c2:ld1 H pb1=some (U y1)) (k:KL) (h0:Hp) (hh:h0.length=H.length) :
  ∀(N g r:Nat),g<=N->g*y1+r=hi->D/v<=g->(∀g':Nat,D/v<=g'->g'*v<D+v->g'<Z->k (.exit 4) [U g'] H) ->
  lp (bz (CX Y) p7 p8 (I n) (I i)) [] h0 [U g,U r] H k:=by
 intro N
 induction N with
 | zero=>
  intro g r hg0 he hq hk;have hZ:Z=1000000000:=rfl;simp only[hZ]at hhi hnb hib;have hg:g=0:=aa;have hr:r=hi:=by rw[hg]at he;omega
  have hnear:g*v<D+v:=by have:=G.pos;rw[hg,Wq];omega
  have hgZ:g<Z:=by rw[hg];decide
  have g0:¬(1000000000:Int)<=(g:Int):=aa;have p0:(g:Int)*(y0:Int)=0:=by rw[hg];simp
  have hx0:=G.hx0;simp only[hZ]at hx0;clear he;refine aj ?_;by_cases g1:(r:Int)<1000000000
  .have g3:¬(r:Int)*1000000000+x0<0:=aa;simp(disch:=try exact ae)[bz,a1,a2,b1,b2,g0,g1,p0,g3];exact hk g hq hnear hgZ
  .simp[bz,a1,a2,b1,b2,g0,g1];exact hk g hq hnear hgZ
 | succ N ih=>
  intro g r hgN he hq hk;rcases Zf g with hg0|hgp
  .exact ih g r aa he hq hk
  obtain⟨g,rfl⟩:∃g',g=g'+1:=⟨g-1,aa⟩;have hZ:Z=1000000000:=rfl;simp only[hZ]at hhi hnb hib;have hrb:r<=hi:=aa
  have hgb:g+1<=hi:=by
   have:=Z2 (g+1) G.hy1;omega
  have he2:g*y1+(r+y1)=hi:=by rw[X1]at he;omega
  have hx0:=G.hx0;have hy0:=G.hy0;have go:D/v<=g->lp (bz (CX Y) p7 p8 (I n) (I i)) [] h0 [U g,U (r+y1:Nat)] H k:=λhq2=>ih g (r+y1) aa he2 hq2 hk
  obtain⟨p,hp⟩:=nmQ ((g+1)*y0);have hpi:((g:Int)+1)*(y0:Int)=(p:Int):=by rw[hp];simp
  by_cases g1:(1000000000:Int)<=(g:Int)+1
  .have hq2:=G.far (g:=g+1) (by simp only[hZ];omega);have g1':=g1;have:=go aa;refine aj ?_;simp(disch:=try exact ae)[bz,g1',c1,c2,hh];simpa using this
  have g1':=g1;by_cases g2:(r:Int)<1000000000
  .have hpb:p<=1000000000*1000000000:=by rw[hp];exact Zp aa aa
   by_cases g3:(r:Int)*1000000000+x0<p
   .have hq2:=G.over he (by rw[<-hp];simp only[hZ];omega);have g3':=g3;have:=go aa;refine aj ?_;simp(disch:=try exact ae)[bz,a1,a2,b1,b2,g1',g2,hpi,g3',c1,c2,hh];simpa using this
   .have hn1:=G.near he (by simp only[hZ];omega) (by rw[<-hp];intro h;have:=h.2;simp only[hZ]at this;omega);have g3':=g3;refine aj ?_;simp(disch:=try exact ae)[bz,a1,a2,b1,b2,g1',g2,hpi,g3',c1,c2,hh];exact hk (g+1) hq hn1 (by simp only[hZ];omega)
  .have g2':=g2;have hn1:=G.near he (by simp only[hZ];omega) (λh=>by have:=h.1;simp only[hZ]at this;omega);refine aj ?_;simp[bz,a1,a2,b1,b2,g1',g2',c1,c2,hh];exact hk (g+1) hq hn1 (by simp only[hZ];omega)
end
theorem HA{clr:LnQ}:∀(i:Nat)(h0 h:Hp),h.length=h0.length->(∀j,gQ clr (i+j)=false->∀x,h[j]?=some x->∃b,h0[j]?=some (x.1,b)∧x.2=.none)->aP clr i h0 h=h
 | _,[],h,hl,_=>by
  have:h=[]:=Zo (by simpa using hl);subst this;rfl
 |i,x0::h0,[],hl,_=>by simp at hl
 | i,x0::h0,x::h,hl,hs=>by
  rw[pY,HA (i+1) h0 h (by simpa using hl) (λj hj y hy=>hs (j+1) (by rw[show i+(j+1)=i+1+j by omega];exact hj) y hy)];by_cases hc:gQ clr i=true
  .rw[if_pos hc]
  .rw[if_neg hc];obtain⟨b,h1,h2⟩:=hs 0 (by simpa using hc) x rfl;simp only[List.getElem?_cons_zero,Z9]at h1;rw[h1];simp only;rw[<-h2]
theorem I5{clr:LnQ}:∀(i:Nat)(h:Hp),(∀x∈h,offB clr x.2=true)->p6 clr i h=true
 |_,[],_=>rfl
 | i,x::h,hs=>by
  rw[xi,hs x ac,I5 (i+1) h λy hy=>hs y (by simp[hy])];simp
def dH(g:Hp)(sa:Nat)(exa:Bool)(al ol:LnQ):Hp:=sP (sP g 4 1 true ol) sa 1 exa al
structure DvH(g:Hp)(sa:Nat)(bl:LnQ):Prop where
 len:g.length=9
 sa:sa<2
 b:g[2]?=some (1,.data 1 (bl.map u6) true false)
 c5:g[5]?=some nnQ
 c6:g[6]?=some nnQ
 off:∀x∈g,offB [5,6] x.2=true
 und:(g.all λx=>aF 9 x.2)=true
variable{g:Hp}{sa:Nat}{exa:Bool}{al ol bl:LnQ}
theorem Og(G:DvH g sa bl):(dH g sa exa al ol).length=9:=by simp[dH,G.len]
theorem adZ(G:DvH g sa bl):(dH g sa exa al ol)[sa]?=some (1,.data 1 (al.map u6) exa false):=rY (by have:=G.sa;simp[G.len];omega)
theorem adY(G:DvH g sa bl):(dH g sa exa al ol)[2]?=some (1,.data 1 (bl.map u6) true false):=by have:=G.sa;rw[dH,sP,List.getElem?_set_ne aa,sP,List.getElem?_set_ne aa,G.b]
theorem adX(G:DvH g sa bl):(dH g sa exa al ol)[4]?=some (1,.data 1 (ol.map u6) true false):=by have:=G.sa;rw[dH,sP,List.getElem?_set_ne aa];exact rY (by rw[G.len];decide)
theorem afR(hj:j=5∨j=6)(G:DvH g sa bl):(dH g sa exa al ol)[j]?=some nnQ:=by
 have:=G.sa;rw[dH,sP,List.getElem?_set_ne aa,sP,List.getElem?_set_ne aa];rcases hj with rfl|rfl
 .exact G.c5
 .exact G.c6
theorem aa2(G:DvH g sa bl):(dH g sa exa al ol).set 4 (1,.data 1 (ol'.map u6) true false)=dH g sa exa al ol':=by have:=G.sa;rw[dH,sP,Wl _ _ aa];simp[dH,sP]
theorem WZ(G:DvH g sa bl):∀x∈dH g sa exa al ol,offB [5,6] x.2=true:=by
 intro x hx;rcases Yo hx with h|h
 .rcases Yo h with h|h
  .exact G.off x h
  .rw[h];rfl
 .rw[h];rfl
theorem Mx(G:DvH g sa bl){ex':Bool}:aP [5,6] 0 (dH g sa ex' al' ol') (dH g sa exa al ol)=dH g sa exa al ol:=by
 refine HA 0 _ _ (by rw[Og G,Og G]) λj hj x hx=>?_
 have hj2:j=5∨j=6:=by
  simp only[Zk,EV,Rr,Yf,beq_lit]at hj;by_cases h5:j=5
  .exact .inl h5
  .by_cases h6:j=6
   .exact .inr h6
   .exfalso;simp[Ne.symm h5,Ne.symm h6]at hj
 rw[afR hj2 G]at hx;cases hx;exact⟨.none,afR hj2 G,rfl⟩
theorem afQ(G:DvH g sa bl){n:Nat}(hbl:bl.length=n+1):RdS (λt=>∃l,t=sP (sP g 4 1 true ol) sa 1 exa l) (.ref 2 1 0 n (n+1) (n+1)) (bl.take n):=by
 have e1:(bl.take n).length=n:=by simp;omega
 refine⟨by rw[e1];rfl,?_⟩;rintro t i ⟨l,rfl⟩ hi;have hb:=adY (exa:=exa) (al:=l) (ol:=ol) G;refine⟨.ptr 2 1 i (n+1),?_,?_⟩
 .have:=C2 hb hbl.symm (len:=n) (cap:=n+1) (i:=(i:Int)) aa aa .i64
  rwa [Int.toNat_natCast]at this
 .rw[EU aa];exact Jt hb hbl.symm aa
theorem WB{l:LnQ}{n:Nat}(h:l.length=n+2):l.drop n=[nth 0 l n,nth 0 l (n+1)]:=by rw[Yz aa,Yz aa,Zb aa,ft _ _ _ aa,ft _ _ _ aa]
theorem afH{al db:LnQ}{i:Nat}(hsa:aI Z al)(hsb:aI Z db)(hdl:db.length=n2+2)(hi:i+db.length<al.length)(hy:0<nth 0 db (n2+1))(hD:val Z (al.drop i)<Z*val Z db):
  Gs Z (Z^n2) (val Z ((al.drop i).take n2)) (val Z (db.take n2)) (nth 0 al (i+n2)) (nth 0 al (i+n2+1)) (nth 0 al (i+n2+2)) (nth 0 db n2) (nth 0 db (n2+1)) (val Z (al.drop i)) (val Z db) (nth 0 al (i+n2+2)*Z+nth 0 al (i+n2+1)):=by
 have hvb:=jE (B:=Z) bE hsb
 have hDlt:val Z (al.drop i)<Z^(n2+3):=by
  rw[Nat.pow_succ,Zq (Z^(n2+2)),<-hdl];exact Nat.lt_trans hD (Nat.mul_lt_mul_of_pos_left hvb bE)
 have htop:val Z (al.drop (i+n2+3))=0:=by
  rw[show i+n2+3=i+(n2+3) by omega,<-List.drop_drop];exact Ky bE hDlt
 have e1:=mi (B:=Z) (al.drop i) n2 (by grind);rw[List.drop_drop,qu al (i+n2),qu al (i+n2+1),qu al (i+n2+1+1),htop,Nat.mul_zero]at e1;simp only[Nat.add_zero]at e1;have e2:=mi (B:=Z) db n2 aa;rw[WB hdl]at e2;have l1:=jE (B:=Z) bE ((hsa.drop i).take n2);have l2:=jE (B:=Z) bE (hsb.take n2)
 rw[Zr,Ys (by grind)]at l1;rw[Zr,Ys aa]at l2;refine⟨bE,?_,?_,l1,l2,hsa.getD bE _,hsb.getD bE _,hy,hD⟩
 .rw[e1]
  show _=val Z ((al.drop i).take n2)+Z^n2*(al.getD (i+n2) 0+Z*(al.getD (i+n2+2) 0*Z+al.getD (i+n2+1) 0))
  grind
 trivial
variable{g:Hp}{sa:Nat}{exa:Bool}{bl db:LnQ}{n M m A:Nat}
theorem Mt(G:DvH g sa bl)(hdb:bl.take n=db)(hbl:bl.length=n+1)(hsb:aI Z db)(hn:2<=n)(hnb:n<Z)(hM:M=m+n)(hMb:M<100000000)(hy:0<nth 0 db (n-1))(al0 ol0:LnQ)(k:KL) :
  ∀(i:Nat)(al ol:LnQ),i<=m->al.length=M->ol.length=m->aI Z al->aI Z ol->val Z (al.drop i)<val Z db->val Z al+val Z db*val Z ol=A->(∀j,j<i->nth 0 ol j=0) ->
  (∀al' ol',al'.length=M->ol'.length=m->aI Z al'->aI Z ol'->val Z al'<val Z db->val Z al'+val Z db*val Z ol'=A->k (.exit 2) [] (dH g sa exa al' ol')) ->
  lp (dw (CX Y) (.ref sa 1 0 M M M) (.ref 2 1 0 n (n+1) (n+1)) (I n) (.ref 4 1 0 m m m)) [5,6] (dH g sa exa al0 ol0) [I ((i:Int)-1)] (dH g sa exa al ol) k
 | 0,al,ol,hi,hal,hol,hsa,hso,hD,hA,hz,hk=>by
  refine aj ?_;simp[dw]
  grind
 | i+1,al,ol,hi,hal,hol,hsa,hso,hD,hA,hz,hk=>by
  have hdl:db.length=n:=by rw[<-hdb];simp;omega
  obtain⟨n2,hn2⟩:∃n2,n=n2+2:=⟨n-2,aa⟩;have hZ:Z=1000000000:=rfl
  have hD2:val Z (al.drop i)<Z*val Z db:=by
   rw[qu];have h1:=hsa.getD bE i;have h2:=Z2 Z hD;rw[Nat.mul_succ]at h2;omega
  have Gq:=afH (i:=i) hsa hsb (n2:=n2) aa aa (by rw[show n2+1=n-1 by omega];exact hy) hD2;have e0:((i+1:Nat):Int)-1=(i:Int):=aa;obtain⟨x0,hx0⟩:=mnQ (nth 0 al (i+n2));obtain⟨x1,hx1⟩:=mnQ (nth 0 al (i+n2+1));obtain⟨x2,hx2⟩:=mnQ (nth 0 al (i+n2+2));obtain⟨y0,hy0⟩:=mnQ (nth 0 db n2);obtain⟨y1,hy1⟩:=mnQ (nth 0 db (n2+1))
  have hx1Z:x1<Z:=by rw[<-hx1];exact hsa.getD bE _
  have hx2Z:x2<Z:=by rw[<-hx2];exact hsa.getD bE _
  have hy1Z:y1<Z:=by rw[<-hy1];exact hsb.getD bE _
  rw[hx0,hx1,hx2,hy0,hy1]at Gq;obtain⟨hi_,hhi⟩:=mnQ (x2*Z+x1);rw[hhi]at Gq
  have hhib:hi_<Z*Z:=by
   have:=Zs Z (show x2+1<=Z by omega);rw[Nat.add_mul]at this;omega
  have nb:∀j,j<n->nth 0 bl j=nth 0 db j:=λj hj=>by rw[<-hdb,EU hj]
  have rA:=λ(j:Nat)(hj:j<M)=>C2 (adZ (exa:=exa) (al:=al) (ol:=ol) G) hal.symm (len:=M) (cap:=M) (i:=(j:Int)) aa aa .i64
  have lA:=λ(j:Nat)(hj:j<M)=>Jt (adZ (exa:=exa) (al:=al) (ol:=ol) G) hal.symm (j:=j) aa
  have rB:=λ(j:Nat)(hj:j<n)=>C2 (adY (exa:=exa) (al:=al) (ol:=ol) G) hbl.symm (len:=n) (cap:=n+1) (i:=(j:Int)) aa aa .i64
  have lB:=λ(j:Nat)(hj:j<n)=>Jt (adY (exa:=exa) (al:=al) (ol:=ol) G) hbl.symm (j:=j) aa
  simp only[Int.toNat_natCast]at rA rB;have a0:=rA (i+n2) aa;have a0l:=lA (i+n2) aa;have a1:=rA (i+n2+1) aa;have a1l:=lA (i+n2+1) aa;have a2:=rA (i+n2+2) aa;have a2l:=lA (i+n2+2) aa;have b0:=rB n2 aa;have b0l:=lB n2 aa;have b1:=rB (n2+1) aa;have b1l:=lB (n2+1) aa;rw[hx0]at a0l;rw[hx1]at a1l;rw[hx2]at a2l
  rw[nb _ aa,hy0]at b0l;rw[nb _ aa,hy1]at b1l;have s0:((i+n2:Nat):Int)=(i:Int)+(n:Int)-2:=aa;have s1:((i+n2+1:Nat):Int)=(i:Int)+(n:Int)-1:=aa;have s2:((i+n2+2:Nat):Int)=(i:Int)+(n:Int):=aa;have t0:((n2:Nat):Int)=(n:Int)-2:=aa;have t1:((n2+1:Nat):Int)=(n:Int)-1:=aa;rw[s0]at a0;rw[s1]at a1;rw[s2]at a2;rw[t0]at b0;rw[t1]at b1
  have hy1p:0<y1:=Gq.hy1;have e3:(x2:Int)*1000000000+(x1:Int)=(hi_:Int):=by simp only[hZ]at hhi;omega
  obtain⟨q0,hq0⟩:=mnQ (hi_/y1);obtain⟨r0,hr0⟩:=mnQ (hi_%y1);have e4:(hi_:Int)/(y1:Int)=(q0:Int):=by rw[<-hq0];simp
  have e5:(hi_:Int)%(y1:Int)=(r0:Int):=by rw[<-hr0];simp
  have hdm:q0*y1+r0=hi_:=by rw[<-hq0,<-hr0,Zq];exact Xf hi_ y1
  have hq0b:q0<=hi_:=by rw[<-hq0];exact Yy ..
  have hn0:¬((y1:Int)=0):=aa;have fst:=Gq.first
  rw[hq0]at fst;refine aj ?_;rw[e0];simp(disch:=try exact ae)[dw,a1,a1l,a2,a2l,b1,b1l,e3,hn0,Zx,Zt,e4,e5];refine lo (NY Gq hy1Z hhib hn hnb aa a0 a0l b0 b0l b1 b1l _ _ rfl q0 q0 r0 (Z8 _) hdm fst λg' hg1 hg2 hg3=>?_);simp only[kV]
  have hl9:(sP g 4 1 true ol).length=9:=by simp[G.len]
  have hu:((sP g 4 1 true ol).all λx=>aF (sP g 4 1 true ol).length x.2)=true:=by rw[hl9];exact A7 G.und
  have hsa2:sa<(sP g 4 1 true ol).length:=by rw[hl9];have:=G.sa;omega
  have rd:=afQ (exa:=exa) (ol:=ol) G hbl;rw[hdb]at rd;obtain⟨w,hw⟩:=mnQ ((iU g' i db (db.length+1) 0 0 0 al).1);obtain⟨l1,hl1⟩:=mnQ ((iU g' i db (db.length+1) 0 0 0 al).2);obtain⟨l2,hl2⟩:=mnQ (qW i db (db.length+1) 0 0 l1);obtain⟨⟨k1,k2⟩,k3,k4⟩:=Sk (i:=i) hsa hsb aa hg3 hD2 hg2 hg1 hw hl1 hl2
  have tk:=KD (at_:=i) (g:=g') (tot:=M) hu hsa2 rd hsb hg3 aa aa hal hsa;rw[hw,hl1]at tk;have bk:=MO (at_:=i) (tot:=M) (l:=l1) hu hsa2 rd hsb aa aa aa k2;rw[hl2]at bk;have hvs:=λq=>w8 (B:=Z) ol i q aa
  have hz0:ol.getD i 0=0:=hz i aa
  have go:∀(q:Nat)(l:LnQ),aI Z l->l.length=al.length->l.take i=al.take i->q=val Z (al.drop i)/val Z db->val Z (l.drop i)=val Z (al.drop i)%val Z db ->
    lp (dw (CX Y) (.ref sa 1 0 M M M) (.ref 2 1 0 n (n+1) (n+1)) (I n) (.ref 4 1 0 m m m)) [5,6] (dH g sa exa al0 ol0) [I ((i:Int)-1)] (dH g sa exa l (ol.set i q)) k:=by
   intro q l c1 c2 c3 c4 c5;have hvp:=Gq.pos;have hqZ:q<Z:=by rw[c4];exact(Xc hvp).2 hD2
   refine Mt G hdb hbl hsb hn hnb hM hMb hy al0 ol0 k i l (ol.set i q) aa aa (by grind) c1 (hso.set hqZ) (by rw[c5];exact Y3 _ hvp) ?_ (λj hj=>by rw[yw aa];exact hz j aa) hk;have h1:=hvs q;rw[hz0,Nat.mul_zero,Nat.add_zero]at h1;have h2:=mi (B:=Z) l i aa;have h3:=mi (B:=Z) al i aa
   have h4:=Xf (val Z (al.drop i)) (val Z db);rw[<-c4,<-c5]at h4;rw[c3]at h2;rw[h1,h2,<-hA,h3,<-h4,Zn,Zn,Y0 (val Z db) (Z^i)];omega
  clear hk hA hz;have r4:=λl=>C2 (adX (exa:=exa) (al:=l) (ol:=ol) G) hol.symm (len:=m) (cap:=m) (i:=(i:Int)) aa aa .i64
  have r5:=λl=>QV (adX (exa:=exa) (al:=l) (ol:=ol) G) hol.symm (j:=i) aa
  simp only[aa2 G,Int.toNat_natCast]at r4 r5;refine fT tk ?_ ac;rw[show sP (sP g 4 1 true ol) sa 1 exa l1=dH g sa exa l1 ol from rfl];rcases Zf w with w0|wp
  .obtain⟨d1,d2,d3,d4,d5⟩:=k3 w0;have gg:=go g' l1 d1 d2 d3 d4 d5;have w1:¬0<w:=aa;have r6:=r5 l1 g';have r7:=r4 l1;simp only[jn];simp(disch:=try exact ae)[w1,r7,r6];refine⟨?_,?_⟩
   .rw[clean,I5 0 _ (WZ G)];rfl
   .rw[Mx G];exact gg
  .obtain⟨d1,d2,d3,dg,d4,d5⟩:=k4 wp;have gg:=go (g'-1) l2 d1 d2 d3 d4 d5;obtain⟨g2,hg2'⟩:=mnQ (g'-1);rw[hg2']at gg;have e6:(g':Int)-1=(g2:Int):=aa;have hg2Z:(g2:Int)<18446744073709551616:=by simp only[hZ]at hg3;omega
   have r6:=r5 l2 g2;have r7:=r4 l2;simp only[jn];simp(disch:=try exact ae)[wp,e6];refine oE (fT bk ?_ ac);rw[show sP (sP g 4 1 true ol) sa 1 exa l2=dH g sa exa l2 ol from rfl];simp(disch:=try exact ae)[r7,r6];refine⟨?_,?_⟩
   .rw[clean,I5 0 _ (WZ G)];rfl
   .rw[Mx G];exact gg
theorem BK{n:Nat}(h:n<Z^w):bL (w+1) n=bL w n++[0]:=by
 have h1:aI Z (bL w n++[0]):=(uZ w n).snoc bE
 grind[DG,Kq,wP,List.length_append,fe]
theorem V6{n:Nat}(h:n<Z^w):iJ (bL w n)=dig Z n:=by rw[<-rC aA (uZ w n),wP w n h]
theorem qh{n:Nat}(h:n<Z^w):(bL w n).take (dig Z n).length=dig Z n:=by grind[V6,AV]
theorem Bq(n:Nat):n<Z^(dig Z n).length:=(pF aA).1 (Z8 _)
theorem lS{n:Nat}(h:n<Z^k):(dig Z n).length<=k:=(pF aA).2 h
theorem VB{n:Nat}(h:Z^k<=n):k<(dig Z n).length:=by grind[pF,aA]
theorem WO{n:Nat}(h:0<n):Z^((dig Z n).length-1)<=n:=by
 rcases Zi n (Z^((dig Z n).length-1))with h1|h1
 .have:=lS h1
  grind[Z]
 omega
theorem OK{n:Nat}(h:(dig Z n).length=k+1):Z^k*nth 0 (dig Z n) k<=n∧n<Z^k*(nth 0 (dig Z n) k+1)∧0<nth 0 (dig Z n) k:=by
 have e:=mi (B:=Z) (dig Z n) k aa;rw[jI aA,Yz aa,Zb aa]at e;have hn:nth 0 (dig Z n) k=(dig Z n)[k]:=ft _ _ _ aa;rw[<-hn]at e;simp only[val,Nat.mul_zero,Nat.add_zero]at e;have l:=jE (B:=Z) bE ((cZ aA n).take k);rw[Zr,Ys aa]at l
 refine⟨aa,by grind,?_⟩;rcases Zf (nth 0 (dig Z n) k)with h0|h0
 .rw[h0,Nat.mul_zero,Nat.add_zero]at e;have:=lS (n:=n) (k:=k) aa;omega
 omega
theorem Se{y f:Nat}(h:(dig Z q).length=k+1)(hy:nth 0 (dig Z q) k=y)(hf:Z/(y+1)=f)(hk:1<=k):0<f∧f<Z∧q*f<Z^(k+1):=by
 obtain⟨h1,h2,h3⟩:=OK h;rw[hy]at h1 h2 h3;have hyZ:y<Z:=by rw[<-hy];exact(cZ aA q).getD bE k
 have hf0:0<f:=by rw[<-hf];exact Nat.div_pos aa aa
 have hfy:f*(y+1)<=Z:=by rw[<-hf];exact Wy ..
 refine⟨hf0,?_,?_⟩
 .have:=Z2 f (show 2<=y+1 by omega);omega
 .have h4:q*f<Z^k*(y+1)*f:=Nat.mul_lt_mul_of_pos_right h2 hf0;have h5:Z^k*(y+1)*f=Z^k*(f*(y+1)):=by rw[Nat.mul_assoc,Zq (y+1)]
  have h6:=Z2 (Z^k) hfy;rw[Nat.pow_succ];omega
theorem KC{l:LnQ}(h:aI Z l):l.take (dig Z (val Z l)).length=dig Z (val Z l):=by grind[rC,aA,AV]
theorem ZO{α:Type}{l:List α}{i:Nat}{x:α}(h:l[i]?=some x):l.set i x=l:=by
 refine Yk λj=>?_
 by_cases hj:j=i
 .grind
 .rw[List.getElem?_set_ne (Ne.symm hj)]
variable{P Q n p f M W9 sa:Nat}{exa:Bool}{hA:Hp}
theorem Cv(hn:(dig Z Q).length=n)(h2:2<=n)(hp:(dig Z P).length=p)(hnp:n<=p)(hpb:p<10000000)(f0:0<f)(fZ:f<Z)(fQ:Q*f<Z^n)(hVe:W9=P*f)(hM:(dig Z W9).length+1=M)(hMp:p<M)
  (A9:hA.length=9) (Au:(hA.all λx=>aF 9 x.2)=true) (Ao:∀x∈hA,offB [5,6] x.2=true) (A2:hA[2]?=some nnQ) (A4:hA[4]?=some nnQ) (A5:hA[5]?=some nnQ) (A6:hA[6]?=some nnQ) (sa2:sa<2) (Aa:hA[sa]?=some (1,.data 1 ((bL M W9).map u6) exa false)) :
  cai (CX Y).i hA (V.fn F.cr [] []) [lst u6 (dig Z Q),V.d (D.int IntKind.u64 ↑f)] 2
      λv10 h=>
      bnd (aX v10) λv11=>
       lp (kr (CX Y) (lst u6 (dig Z P))) [] h [.ref sa 1 0 M M M] h
        (exK
         [(Exit.exit 0,λl12 h=>
           bnd (aX (ge l12 0)) λv13=>
            bnd (biI BinOp.sub v13 v11) λv14=>
             mkS 4 8 [D.int IntKind.u64 0] h v14 v14 λv15 h=>
              bnd (aX (ge l12 0)) λv16=>
               bnd (biI BinOp.sub v16 v11) λv17=>
                bnd (biI BinOp.sub v17 (V.d (D.int IntKind.i64 1))) λv18=>
                 lp (dw (CX Y) (ge l12 0) v10 v11 v15) [5,6] h [v18] h
                  (exK
                   [(Exit.exit 2,λl19 h=>
                     cai (CX Y).i h (V.fn F.aB [] []) [ge l12 0] 7 λv20 h=>
                      cal (CX Y).p h (V.fn F.cY [] [])
                       [v20,V.d (D.int IntKind.u64 ↑f)] λv21 h=>
                       ext v21 0 λv22=>
                        ext v21 1 λv23=>
                         cai (CX Y).i h (V.fn F.aB [] []) [v15] 8 λv24 h=>
                          out (V.tup [lst u6 (dig Z (P/Q)),lst u6 (dig Z (P%Q))])
                           (V.tup [v24,v22]) h)]))]):=by
 have hQ1:Z^(n-1)<=Q:=by
  rw[<-hn];refine WO ?_;rcases Zf Q with h|h
  .subst h;rw[show(dig Z 0).length=0 from rfl]at hn;omega
  .exact h
 have hQf:(dig Z (Q*f)).length=n:=by
  have h1:=lS fQ;have h3:=VB (n:=Q*f) (k:=n-1) (Zy hQ1 (Za Q f0));omega
 have hQfs:Q*f<Z^(n+1):=Z0 fQ (Zz bE aa);have sc:=Ew (h:=hA) (t0:=lst u6 (dig Z Q)) (da:=dig Z Q) (f:=f) (N:=n+1) (by grind) fZ f0 (YO _ _) (cZ aA Q) aa aa;rw[jI aA,hQf]at sc;refine iz (e:=0) (b:=.none) sc A2 ?_;have hbl:(bL (n+1) (Q*f)).length=n+1:=fe ..
 have hdb:(bL (n+1) (Q*f)).take n=dig Z (Q*f):=by
  have:=qh hQfs
  rwa [hQf]at this
 obtain⟨bl,hble⟩:=mnQ (bL (n+1) (Q*f));rw[hble]at hbl hdb;rw[hble,List.length_map,hbl];obtain⟨g,hg⟩:=mnQ (hA.set 2 (0+1,.data 1 (bl.map u6) true false));rw[hg]
 have G:DvH g sa bl:=by
  rw[<-hg];refine⟨by grind,sa2,by grind,by grind,by grind,λx hx=>?_,?_⟩
  .rcases Yo hx with h|h
   .grind
   .rw[h];rfl
  .exact A7 (s:=2) (e:=1) Au
 have g4:g[4]?=some nnQ:=by rw[<-hg];simp[A4]
 have ga:g[sa]?=some (1,.data 1 ((bL M W9).map u6) exa false):=by rw[<-hg,List.getElem?_set_ne aa];exact Aa
 have hMp1:M<=p+2:=by
  have:W9<Z^(p+1):=by
   rw[hVe,Nat.pow_succ];have:=Bq P;rw[hp]at this;exact Nat.mul_lt_mul_of_lt_of_lt this fZ
  have:=lS this;omega
 obtain⟨m,hm⟩:∃m,M=m+n:=⟨M-n,aa⟩;have lP:aX (lst u6 (dig Z P))=some (I (dig Z P).length):=rfl;have c1:¬((M:Int)<=((dig Z P).length:Int)):=aa;have c2:(M:Int)-(n:Int)=(m:Int):=aa;simp;refine lo (aj ?_);simp(disch:=try exact ae)[kr,lP,c1,c2,g4]
 have hd:g.set 4 (1,Bk.data 1 (List.replicate m (D.int IntKind.u64 0)) true false)=dH g sa exa (bL M W9) (List.replicate m 0):=by
  have e1:(List.replicate m (D.int IntKind.u64 0))=(List.replicate m 0).map u6:=by simp[u6]
  have e2:(sP g 4 1 true (List.replicate m 0))[sa]?=some (1,.data 1 ((bL M W9).map u6) exa false):=by
   rw[sP,List.getElem?_set_ne aa];exact ga
  show _=(sP g 4 1 true (List.replicate m 0)).set sa (1,.data 1 ((bL M W9).map u6) exa false)
  rw[ZO e2,e1];rfl
 rw[hd]
 have hWlt:W9<Z^(m+(n-1)):=by
  have:=Bq W9
  rwa [show(dig Z W9).length=m+(n-1) by omega]at this
 have hWM:W9<Z^M:=Z0 hWlt (Zz bE aa);have hQfv:val Z (dig Z (Q*f))=Q*f:=jI aA _;have hZ:Z=1000000000:=rfl
 refine lo (Mt (A:=W9) (n:=n) (M:=M) (m:=m) G hdb hbl (cZ aA _) h2 aa hm aa (OK (n:=Q*f) (k:=n-1) aa).2.2 _ _ _ m (bL M W9) (List.replicate m 0) (Z8 _) (fe ..) ac (uZ M W9) (λx hx=>by grind) ?_ (by grind[AO,wP]) (λj hj=>by grind[ft]) λal' ol' q1 q2 q3 q4 q5 q6=>?_)
 .have e1:=mi (B:=Z) (bL M W9) m (by grind[fe]);rw[wP _ _ hWM]at e1;rw[X8]at hWlt;rw[hQfv];have h3:Z^m*val Z ((bL M W9).drop m)<Z^m*Z^(n-1):=aa;have h4:=Nat.lt_of_mul_lt_mul_left h3;have h5:=Za Q f0;omega
 .simp only[kV];rw[hQfv]at q5 q6
  have hQ0:0<Q:=by
   have:=Xn (n:=n-1) bE;omega
  have hQf0:0<Q*f:=X0 hQ0 f0
  have hq:val Z ol'=P/Q:=by
   have:(P*f)/(Q*f)=val Z ol':=by
    rw[<-hVe,<-q6,Yg _ _ hQf0,Xk q5,Zk]
   rw[<-this,Nat.mul_div_mul_right _ _ f0]
  have hr:val Z al'=f*(P%Q):=by
   have:(P*f)%(Q*f)=val Z al':=by
    rw[<-hVe,<-q6,Xo,Yd q5]
   rw[<-this,Nat.mul_mod_mul_right,Zq]
  have l9:(dH g sa exa al' ol').length=9:=Og G;have hu:((dH g sa exa al' ol').all λx=>aF (dH g sa exa al' ol').length x.2)=true:=by rw[l9];exact A7 (A7 G.und)
  have ha:=adZ (exa:=exa) (al:=al') (ol:=ol') G;have tr:=tR hu ha q1.symm (len:=M) (cap:=M) (Z8 _) aa (Z8 _);have hta:iJ (al'.take M)=dig Z (val Z al'):=by rw[Z3 aa,rC aA q3]
  rw[hta]at tr;refine fT tr ?_ ac
  have hla:(dig Z (val Z al')).length<=M:=by
   have:=jE (B:=Z) bE q3;rw[q1]at this;exact lS this
  have sn:=yj ha q1.symm (len:=(dig Z (val Z al')).length) (cap:=M) hla (Z8 _);have htk:=KC q3;rw[htk]at sn;obtain⟨h1,hh1⟩:=mnQ ((dH g sa exa al' ol').set sa (1,.data 1 (al'.map u6) exa true));rw[hh1]at sn;have sm:=Hq (a:=val Z al') (n:=f) aa f0 aa
  refine cdz (u:=.mk) (ds:=[lst u6 (dig Z (val Z al')),U f]) (h':=h1) (by simp_all[aH]) sm ?_;rw[show cS (.tup [pcs (val Z al'/f),U (val Z al'%f:Nat)])=false from rfl];have h1o:h1[4]?=some (1,.data 1 (ol'.map u6) true false):=by rw[<-hh1,List.getElem?_set_ne aa];exact adX G
  have h1u:(h1.all λx=>aF h1.length x.2)=true:=by
   have e:h1.length=9:=by rw[<-hh1,Yx,l9]
   rw[e,<-hh1,Z1];intro x hx;rcases Yo hx with h|h
   .grind
   .rw[h];rfl
  have tr2:=tR h1u h1o q2.symm (len:=m) (cap:=m) (Z8 _) aa (Z8 _);have hto:iJ (ol'.take m)=dig Z (P/Q):=by rw[Z3 aa,<-hq,rC aA q4]
  rw[hto]at tr2
  show ext _ 0 _
  simp;refine oE (fT tr2 ?_ ac)
  have hlo:(dig Z (P/Q)).length<=m:=by
   have:=jE (B:=Z) bE q4;rw[q2,hq]at this;exact lS this
  have sn2:=yj h1o q2.symm (len:=(dig Z (P/Q)).length) (cap:=m) hlo (Z8 _);have htk2:=KC q4;rw[hq]at htk2;rw[htk2]at sn2;have hrr:val Z al'/f=P%Q:=by rw[hr,Xj _ f0]
  rw[hrr];exact cG sn2 (Tq _ _ _)
theorem abA{s s' e e' L n k by_ tot:Nat}{b':Bk}{old cs:LdQ}{fr:Bool}{h:Hp}{q:kkQ}{u:PU q}(hg:h[s]?=some (e,.data n old true fr))(hs':h[s']?=some (e',b'))(ht:tot=L*n)(hold:old.length=L*n)(hcs:cs.length=k*n)(hb:(L+k)*by_<=140737488355328)
  (h0:k=0->q (.ref s e 0 L L tot) h) (h1:0<k->q (.ref s' (e'+1) 0 (L+k) (L+k) (L*n+cs.length)) (h.set s' (e'+1,.data n (old++cs) false false))):rh (apV false s' n by_ (.ref s e 0 L L tot) (.d (.sl k cs)) h) q u:=by
 unfold rh apV;simp only[cellsOf];rw[if_pos hcs];unfold apC;by_cases hk:k=0
 .grind
 .rw[if_neg hk];simp only[dM hg];rw[if_pos ⟨trivial,aa,Z8 _,aa,hcs⟩,if_neg aa,if_pos hb];simp only[if_true,new,hs',Yu];rw[Z3 aa];exact h1 aa
theorem Ox{s s' e len cap:Nat}{old:LnQ}{x:Nat}{ex:Bool}{h:Hp}{q:kkQ}{u:PU q}(hg:h[s]?=some (e,.data 1 (old.map u6) ex false))(hold:old.length=cap)(hl:len<cap)
  (hq:q (.ref s e 0 (len+1) cap cap) (h.set s (e,.data 1 ((old.take len++[x]++old.drop (len+1)).map u6) ex false))):rh (apV false s' 1 8 (.ref s e 0 len cap cap) (.d (.sl 1 [u6 x])) h) q u:=by
 unfold rh apV;simp only[cellsOf];rw[if_pos ac];unfold apC;rw[if_neg aa];simp only[dM hg];rw[if_pos ⟨trivial,by grind,aa,by grind,ac⟩,if_pos aa]
 simp_all
theorem Qz{s s' e e' cap:Nat}{b':Bk}{old:LnQ}{x:Nat}{h:Hp}{q:kkQ}{u:PU q}(hg:h[s]?=some (e,.data 1 (old.map u6) true false))(hs':h[s']?=some (e',b'))(hold:old.length=cap)(hb:cap<1000000000000)
  (hq:q (.ref s' (e'+1) 0 (cap+1) (cap+1) (cap+1)) (h.set s' (e'+1,.data 1 ((old++[x]).map u6) false false))):rh (apV false s' 1 8 (.ref s e 0 cap cap cap) (.d (.sl 1 [u6 x])) h) q u:=by
 refine abA (L:=cap) (old:=old.map u6) hg hs' aa (by grind) rfl aa (λh=>by omega) λ_=>?_
 simp only[Ya,List.length_singleton];rw[show old.map u6++[u6 x]=(old++[x]).map u6 by simp];exact hq
theorem Oa{P Q:Nat}(h2:2<=(dig Z Q).length)(hle:(dig Z Q).length<=(dig Z P).length)(hb:(dig Z P).length<10000000):CP Y F.dG [pcs P,pcs Q] (.tup [pcs (P/Q),pcs (P%Q)]):=by
 refine ut ?_;obtain⟨k,hk⟩:∃k,(dig Z Q).length=k+1:=⟨(dig Z Q).length-1,aa⟩;obtain⟨y,hy⟩:=mnQ (nth 0 (dig Z Q) k);obtain⟨f,hf⟩:=mnQ (Z/(y+1));obtain⟨f0,fZ,fQ⟩:=Se hk hy hf aa;have hZ:Z=1000000000:=rfl;have hyZ:y<Z:=by rw[<-hy];exact(cZ aA Q).getD bE k
 have hyb:y<1000000000:=by simp only[hZ]at hyZ;omega
 obtain⟨n,hn⟩:=mnQ ((dig Z Q).length);obtain⟨p,hp⟩:=mnQ ((dig Z P).length);have e1:=λh:Hp=>nJ u6 (dig Z Q) h (k:=.i64) (i:=(k:Int)) aa aa
 have e2:=λh:Hp=>Fa (dig Z Q) h (j:=k) aa
 rw[hy]at e2;simp only[Int.toNat_natCast]at e1;have e3:((dig Z Q).length:Int)-1=(k:Int):=aa
 have e4:(1000000000:Int)/((y:Int)+1)=(f:Int):=by
  rw[<-hf,hZ];simp
 have y0:¬((y:Int)+1=0):=aa;have lQ:aX (pcs Q)=some (I (dig Z Q).length):=rfl;have lP:aX (pcs P)=some (I (dig Z P).length):=rfl;simp(disch:=try exact ae)[dG,lQ,e3,ada,e1,e2,y0,Zt,e4];obtain⟨W9,hW⟩:=mnQ (P*f)
 have hP1:Z^(p-1)<=P:=by
  rw[<-hp];refine WO ?_;rcases Zf P with h|h
  .subst h;have h0:(dig Z 0).length=0:=rfl;omega
  .exact h
 have hW1:p-1<(dig Z W9).length:=VB (by rw[<-hW];exact Zy hP1 (Za P f0))
 have hW2:W9<Z^(p+1):=by
  rw[<-hW,Nat.pow_succ];have:=Bq P;rw[hp]at this;exact Nat.mul_lt_mul_of_lt_of_lt this fZ
 have hW3:=lS hW2
 have hli:∀h:Hp,du 1 [D.int .u64 0] [(0,V.d (D.int IntKind.u64 0))] h=some ([u6 0],h):=λh=>by
  rfl
 have sc:=Ew (h:=[nnQ,nnQ,nnQ,nnQ,nnQ,nnQ,nnQ,nnQ,nnQ]) (t0:=lst u6 (dig Z P)) (da:=dig Z P) (f:=f) (N:=p+1) rfl fZ f0 (YO _ _) (cZ aA P) aa aa;rw[jI aA,hW]at sc;refine oE (iz (e:=0) (b:=.none) sc rfl ?_);simp[hli];have hNl:(bL (p+1) W9).length=p+1:=fe ..
 rcases Zi (dig Z W9).length (p+1)with hc|hc
 .have hl:(dig Z W9).length=p:=aa;have hWp:W9<Z^p:=by have:=Bq W9;rwa [hl]at this
  have hcell:(bL (p+1) W9).take p++[0]++(bL (p+1) W9).drop (p+1)=bL (p+1) W9:=by
   rw[Zb aa,BK hWp,Ye (fe ..),Zm]
  rw[hl,hNl];refine Ox (x:=0) (ex:=true) rfl hNl aa ?_;rw[hcell];refine Cv (M:=p+1) (exa:=true) hn aa hp aa aa f0 fZ (by grind) hW.symm aa aa rfl rfl ?_ rfl rfl rfl rfl aa rfl;intro x hx;simp only[List.set_cons_zero,Zu,Y1,or_false]at hx
  rcases hx with rfl|rfl|rfl|rfl|rfl|rfl|rfl|rfl|rfl<;>rfl
 .have hl:(dig Z W9).length=p+1:=aa;have hcell:bL (p+1) W9++[0]=bL (p+2) W9:=(BK hW2).symm;rw[hl,hNl];refine Qz (x:=0) (e':=0) (b':=.none) rfl rfl hNl aa ?_;rw[hcell];refine Cv (M:=p+2) (exa:=false) hn aa hp aa aa f0 fZ (by grind) hW.symm aa aa rfl rfl ?_ rfl rfl rfl rfl aa rfl;intro x hx
  simp only[List.set_cons_zero,List.set_cons_succ,Zu,Y1,or_false]at hx;rcases hx with rfl|rfl|rfl|rfl|rfl|rfl|rfl|rfl|rfl<;>rfl
@[simp]theorem aeB(a:Acc)(n:Nat)(c:LdQ):a.v (n+1) c=.ref a.s (a.e+1) 0 (n+1) (n+1) c.length:=id rfl
@[simp]theorem aeC(a:Acc)(n:Nat)(c:LdQ):a.b (n+1) c=(a.e+1,.data a.n c false false):=id rfl
theorem AJ(k:Nat):Z^k=10^(9*k):=by rw[Nat.pow_mul];rfl
theorem N4{n:Nat}(h2:n<18446744073709551616):CP Y F.dW [U n,I 10] (S (ah n)):=by
 refine uX ?_;have hd1:=lN n;have hd2:ndg n<=20:=fM aa aa;have hn:=dj n;by_cases hs:(n:Int)<100
 .simp(disch:=try exact ae)[dW,hs];refine cd (KJ (n:=n) aa) ?_;exact fY rfl
 .have hn0:0<n:=aa;have hit:ah n=dN n (ndg n):=rfl;have hlo:=Bn n hn0;generalize ndg n=d at *
  obtain ⟨mid,post,hm,hp,hcell⟩:∃mid post:LdQ,mid.length=d∧post.length=24-d∧List.replicate 24 (D.int .u8 0)=[]++(mid++post):=by
   refine⟨List.replicate d (.int .u8 0),List.replicate (24-d) (.int .u8 0),ac,ac,?_⟩;rw[List.replicate_append_replicate,show d+(24-d)=24 by omega];rfl
  simp[dW,hs];refine cd (zF hlo hn hd1 h2) ?_;simp only[List.replicate]at hcell;rw[hcell];rw[show[(1,Bk.data 1 ([]++(mid++post)) true false),nnQ]=cH ([]++(mid++post))from rfl];rw[IJ aN d rfl aa];simp;refine fT (h':=cH ([]++((dN n d).map u8++post))) (ab9 (pre:=[]) rfl hm aa aa hn h2) ?_ ac
  rw[IJ (by simp[bf];omega) d rfl aa];simp;rw[Oh (bs:=dN n d) (by simp[bf];omega) aa (by simp[bf,List.take_append,Z3]) (by simp[bf])];rw[hit]
  try simp
  exact fY rfl
theorem Mh{n:Nat}(h:n<18446744073709551616):CP Y F.gz [U n,I 10] (S (ah n)):=by refine wi ?_;simp[gz];refine cd (N4 h) ?_;exact fY rfl
theorem Bh{n:Nat}(h:n<18446744073709551616):CP Y F.js [U n] (S (ah n)):=by refine JL ?_;simp[js];refine cd (Mh h) ?_;exact fY rfl
theorem xr:∀(l:LuQ)(a:Nat),pO a l=fG a l
 |[],_=>rfl
 |c::l,a=>xr l _
theorem digit_eq(c:UInt8):oW c=qf c:=by simp only[oW,qf];rw[Yn];simp
theorem Rl{n:Nat}(h:n<10000000000000000000):CP Y F.fI [S (ah n),I 10,I 64] (.tup [U n,.d (.pl .nilIface)]):=by
 have hd:=dX n;have hc:=sr n
 have hl:(ah n).length<=1000:=by
  have:=fM (n:=n) (d:=19) aa af;rw[ah,bf];omega
 simp only[qI,Z7]at hc
 have hall:(ah n).all oW=true:=by
  rw[<-hc.1.2];congr 1;funext c;exact digit_eq c
 have ho:Y.X.orc F.fI [.string ⟨⟨ah n⟩⟩,.int .i64 10,.int .i64 64]=some (.tuple #[.int .u64 n,.nilIface]):=by
  have e:∀a,Y.X.orc F.fI a=La a:=λa=>by
   show(match Nat.beq F.fI F.fI with|true=>La a|false=>none)=_
   rw[X2]
  rw[e];unfold La;simp only;rw[if_pos ⟨trivial,trivial,wO n,hall,hl,by rw[xr,hd];exact h⟩,xr,hd]
 exact CP.orc ho (by intro x hx;simp only[Zu,Y1,or_false]at hx;rcases hx with rfl|rfl|rfl<;>rfl) rfl
theorem Hn{n:Nat}(h:n<10000000000000000000):CP Y F.kt [S (ah n)] (.tup [U n,B true]):=by refine C6 ?_;simp[kt];refine cd (Rl h) ?_;simp[I9];exact cG (zh _ _) rfl
theorem nY(n:Nat):nH (S (ah n))=some (I (ndg n)):=by
 show some (I (ah n).length)=_
 rw[ah,bf]
theorem DT(a b:Nat):CP Y F.fS [S (ah a),S (ah b)] (if ndg a<=18∧ndg b<=18 then .tup [U a,U b,B true]else .tup [U 0,U 0,B false]):=by
 refine FR ?_;have la:=nY a;have lb:=nY b;by_cases h1:18<ndg a
 .rw[if_neg aa];simp(disch:=try exact ae)[fS,la,lb,h1];exact jQ (zh _ _) (zh _ _) rfl
 by_cases h2:18<ndg b
 .rw[if_neg aa];simp(disch:=try exact ae)[fS,la,lb,h1,h2];exact jQ (zh _ _) (zh _ _) rfl
 .rw[if_pos aa];have ha:a<10000000000000000000:=by have:=dj a;have:=Zz (n:=10) af (show ndg a<=18 by omega);omega
  have hb:b<10000000000000000000:=by have:=dj b;have:=Zz (n:=10) af (show ndg b<=18 by omega);omega
  simp(disch:=try exact ae)[fS,la,lb,h1,h2];refine cd (Hn ha) ?_;simp;refine cd (Hn hb) ?_;simp;exact jQ (zh _ _) (zh _ _) rfl
theorem acg(l:LuQ)(h:Hp)(k:kkQ):cvB (S l) h k=k (lst u8 l) h:=rfl
variable{h:Hp}
theorem XB{C0:Nat}(l:LuQ)(hl:l.length<=9)(hd:l.all qf=true)(k:KL)(h0 H:Hp)(hh:h0.length=H.length):∀(q p:LuQ),p++q=l->k (.exit 2) [U (fG 0 l:Nat)] H ->
  lp (pI (CX Y) h.length (lst u8 l) (I l.length)) [] h0 [U (fG 0 p:Nat),I p.length] H k
 | []=>by
  intro p hp hk;simp at hp;subst hp;refine aj ?_;simp[pI];exact hk
 | c::q=>by
  intro p hp hk;have hpl:p.length<l.length:=by subst hp;simp
  have hc:nth 0 l p.length=c:=by subst hp;simp
  have hcd:qf c=true:=by
   rw[Z1]at hd;exact hd c (by subst hp;simp)
  rw[mb]at hcd
  have hpd:p.all qf=true:=by
   rw[Z1]at hd ⊢;exact λx hx=>hd x (by subst hp;simp[hx])
  have e1:=λh:Hp=>nJ u8 l h (k:=.i64) (i:=(p.length:Int)) aa aa
  have e2:=λh:Hp=>oz u8 0 l h (j:=p.length) hpl
  rw[hc]at e2;simp only[Int.toNat_natCast]at e1;have hb:=ui p 0 hpd
  have hb2:fG 0 p<1000000000:=by
   have:=Zz (n:=10) af (show p.length<=8 by omega);omega
  have e3:fG 0 (p++[c])=10*fG 0 p+(c.toNat-48):=by
   rw[uY];simp only[fG,List.foldl_cons,List.foldl_nil];omega
  have ih:=XB (C0:=C0) l hl hd k h0 H hh q (p++[c]) (by simpa using hp) hk;rw[e3]at ih;obtain⟨t,ht⟩:=mnQ (fG 0 p);rw[ht]at ih hb2 ⊢;have e4:(10:Int)*(t:Int)+((c.toNat:Int)-48)=((10*t+(c.toNat-48):Nat):Int):=aa;obtain⟨t2,ht2⟩:=mnQ (10*t+(c.toNat-48));rw[ht2]at ih e4;have hcb:=hcd.1;have hcb2:=hcd.2;refine aj ?_
  simp(disch:=try exact ae)[pI,e1,e2,u8,e4];simpa[hh]using ih
def cuH(h:Hp)(l:LnQ):Hp:=h++[(1,.data 1 (l.map u6) true false),nnQ,nnQ]
theorem Qm(h:Hp)(l:LnQ):(cuH h l)[h.length]?=some (1,.data 1 (l.map u6) true false):=by simp[cuH]
theorem aa7(h:Hp)(l l':LnQ):(cuH h l).set h.length (1,.data 1 (l'.map u6) true false)=cuH h l':=by simp[cuH]
@[simp]theorem aa8(h:Hp)(l:LnQ):(cuH h l).length=h.length+3:=by simp[cuH]
theorem XA(T:LuQ)(cap:Nat)(hL:T.length<9000000000)(k:KL)(h0:Hp)(hh:h0.length=h.length+3):∀(w n:Nat)(E:Int)(d:LnQ),(0<w->E=w)->(w=0->E<=0)->-20<=E->T.take w=dN n w->w<=T.length->d.length+(w+8)/9<=cap->cap<1000000000000->n<10^w->aI Z d ->
  (∀d':LnQ,aI Z d'->d'.length<=cap->val Z d'=val Z d+Z^d.length*n->k (.exit 0) [.ref h.length 1 0 d'.length cap cap] (cuH h (d'++List.replicate (cap-d'.length) 0))) ->
  lp (pJ (CX Y) h.length (S T)) [] h0 [.ref h.length 1 0 d.length cap cap,I E] (cuH h (d++List.replicate (cap-d.length) 0)) k:=by
 intro w
 induction w using Nat.strongRecOn with
 | _ w ih=>
  intro n E d hE1 hE0 hEl hT hwT hw hcap hn hs hk;by_cases h0w:w=0
  .subst h0w;have hE:=hE0 rfl;have g:¬0<E:=aa;simp at hn;subst hn;refine aj ?_;simp[pJ,g];exact hk d hs aa ac
  .obtain rfl:=hE1 aa
   obtain ⟨v,u,hv1,hv9,hvw,hu,huv⟩:∃v u:Nat,1<=v∧v<=9∧w=u+v∧mx2 true 0 ((w:Int)-9)=u∧(u=0∨v=9):=by
    by_cases h9:w<=9
    .exact⟨w,0,aa,h9,aa,by simp[mx2];omega,.inl rfl⟩
    .exact⟨9,w-9,aa,aa,aa,by simp[mx2];omega,.inr rfl⟩
   have hD:=Ax v u n;rw[<-hvw]at hD;have hlu:=bf u (n/10^v)
   have e1:(T.take w).drop u=dN (n%10^v) v:=by
    rw[hT,hD,Wu hlu];have:=Aw v (n%10^v) (n/10^v);rw[Xw]at this;exact this
   have e2:T.take u=dN (n/10^v) u:=by
    have:T.take u=(T.take w).take u:=by rw[List.take_take,Ys aa]
    rw[this,hT,hD,Ye hlu]
   have hp:0<10^v:=Xn af;have hm:=Y3 n hp
   have hZv:10^v<=Z:=by
    have:10^v<=10^9:=Zz af hv9;exact this
   have hnu:n/10^v<10^u:=W5 (by rw[hvw,Nat.add_comm,X8]at hn;exact hn)
   have hval:n%10^v+Z*(n/10^v)=n:=by
    have:=Xw n (10^v);rcases huv with rfl|rfl
    .rw[Nat.pow_zero]at hnu;have h3:n/10^v=0:=Nat.lt_one_iff.1 hnu;rw[h3]at this ⊢;simpa using this
    .exact this
   have hdc:d.length<cap:=aa
   have ihh:=ih u aa (n/10^v) ((w:Int)-9) (d++[n%10^v]) (λh=>by rcases huv with h1|h1<;>omega) (λh=>by omega) aa e2 aa aN hcap hnu (hs.snoc (Z0 hm hZv)) (λd' h1 h2 h3=>hk d' h1 h2 (by
    rw[h3,Kq,List.length_append,List.length_singleton,Nat.pow_succ,Nat.mul_assoc,Xt,<-Zn,hval]))
   have hr:=xp v (n%10^v) hm;have hall:=wR v (n%10^v);have hlv:=bf v (n%10^v)
   have esl:slS (S T) (some (I u)) (some (I w))=some (S (dN (n%10^v) v)):=by
    rw[Nk u w rfl rfl aa hwT,<-e1,List.drop_take]
   obtain⟨r,hre⟩:=mnQ (n%10^v);rw[hre]at esl hr hall hlv ihh;generalize dN r v=L at *
   have hli:∀h:Hp,du 1 [D.int .u64 0] [(0,U r)] h=some ([u6 r],h):=λh=>by
    simp[du,gK,jG,toD,u6]
   have hcell:(d++List.replicate (cap-d.length) 0).take d.length++[r]++(d++List.replicate (cap-d.length) 0).drop (d.length+1)=(d++[r])++List.replicate (cap-(d++[r]).length) 0:=by
    rw[Ye rfl]
    have:List.replicate (cap-d.length) 0=0::List.replicate (cap-d.length-1) 0:=by
     rw[<-List.replicate_succ];congr 1;omega
    rw[this,<-List.drop_drop,Wu rfl];rw[show cap-d.length-1=cap-(d++[r]).length by simp;omega];simp
   have hcl:(d++List.replicate (cap-d.length) 0).length=cap:=by simp;omega
   have ax:=Qm h (d++List.replicate (cap-d.length) 0);have gp:0<(w:Int):=aa;clear hk ih hval;refine aj ?_;simp(disch:=try exact ae)[pJ,gp,mxI,hu,esl];rw[acg];simp;refine lo (XB (C0:=0) L aa hall _ _ _ rfl L [] rfl ?_);rw[hr];simp[hli];refine Ox ax hcl hdc ?_;rw[hcell,aa7];simp(disch:=try exact ae)[hh]
   simpa using ihh
theorem Ur{s by_:Nat}{z:D}{h:Hp}{i e:Nat}{b:Bk}{k:kkQ}{u:PU k}(hs:h[s]?=some (e,b))(hb:(by_:Int)*i<=281474976710656)(h1:(i:Int)<=9223372036854775807)
  (hk:k (.ref s (e+1) 0 0 i i) (h.set s (e+1,.data 1 (List.replicate i z) true false))):rh (mkS s by_ [z] h (.d (.int .i64 0)) (.d (.int .i64 i))) k u:=by unfold rh;simp only[mkS];rw[if_pos ⟨Int.le_refl _,aa,ac,hb,h1⟩];simp only[new,hs,EF,Zd,Int.toNat_natCast];exact hk
theorem vj(hu:(h.all λx=>aF h.length x.2)=true){n:Nat}(hb:ndg n<900000000)(hcap:cap=ndg n/9+1):
  CI Y F.dY [S (ah n)] h (.new 1 ((bL cap n).map u6) true (dig Z n).length cap) h:=by
 refine GI ?_;have hl:=nY n;have hlT:(ah n).length=ndg n:=by rw[ah,bf]
 have e1:((ndg n:Nat):Int)/9+1=(cap:Int):=aa
 have e3:(h++[(1,Bk.data 1 (List.replicate cap (D.int IntKind.u64 0)) true false),nnQ,nnQ])=cuH h ([]++List.replicate (cap-([]:LnQ).length) 0):=by
  simp[cuH,u6]
 have e4:(h++[(0,Bk.none),(0,Bk.none),(0,Bk.none)]).set h.length (1,Bk.data 1 (List.replicate cap (D.int IntKind.u64 0)) true false)=cuH h ([]++List.replicate (cap-([]:LnQ).length) 0):=by
  simp[cuH,u6]
 have hcap2:cap<1000000000000:=aa;simp(disch:=try exact ae)[dY,hl,Zt,e1];refine Ur (e:=0) (b:=.none) ac aa aa ?_;simp[hl]
 try rw[e4]
 try rw[e3]
 refine lo (XA (ah n) cap aa _ _ (aa8 ..) (ndg n) n (ndg n) [] (λ_=>rfl) (λh=>by have:=lN n;omega) aa (by rw[<-hlT,Xr];rw[hlT];rfl) aa aN hcap2 (dj n) (λx hx=>by cases hx) λd hs hdl hv=>?_);simp only[kV];have hv':val Z d=n:=by rw[hv];simp[val]
 obtain⟨o,ho⟩:=mnQ (d++List.replicate (cap-d.length) 0);have hol:o.length=cap:=by rw[<-ho];simp;omega
 have hos:aI Z o:=by
  rw[<-ho];exact hs.append λx hx=>by rw[List.mem_replicate]at hx;rw[hx.2];exact bE
 have hov:val Z o=n:=by rw[<-ho,YX,hv']
 rw[ho];have hfix:o=bL cap n:=by rw[<-hov,<-hol];exact DG o hos
 have hu2:((cuH h o).all λx=>aF (cuH h o).length x.2)=true:=by
  have hm:(h.all λx=>aF (cuH h o).length x.2)=true:=Oy ac hu;rw[cuH,Y2,<-cuH,hm];rfl
 have htk:o.take d.length=d:=by rw[<-ho,Ye rfl]
 have tr:=tR hu2 (Qm h o) hol.symm (len:=d.length) (cap:=cap) (Z8 _) hcap2 hdl;rw[htk,<-rC aA hs,hv']at tr;refine fT tr ?_ ac;rw[<-hfix];refine⟨by simp[cuH],by simpa using hu,.inr (.inr (.inl ⟨h.length,1,_,cap,1,o.map u6,true,by simp[hol],Z8 _,by simp[ax,cuH],rfl⟩))⟩
variable{h:Hp}{s e tot:Nat}{l:LuQ}{ex fr:Bool}
theorem ix8(hg:h[s]?=some (e,.data 1 (l.map u8) ex fr))(ht:tot=l.length){i:Int}(h0:0<=i)(h1:i<len)(k:IntKind):ixV h 1 (.ref s e 0 len cap tot) (.d (.int k i))=some (.ptr s e i.toNat tot):=by grind[ixV,dM]
theorem ld8(hg:h[s]?=some (e,.data 1 (l.map u8) ex fr))(ht:tot=l.length)(hj:j<l.length):ld1 h (.ptr s e j tot)=some (.d (u8 (nth 0 l j))):=by
 have e1:tot=(l.map u8).length:=by simp[ht]
 grind[ld1,dM,ft]
theorem st8(hg:h[s]?=some (e,.data 1 (l.map u8) ex false))(ht:tot=l.length)(hj:j<l.length)(x:UInt8):st h 1 (.ptr s e j tot) (.d (u8 x))=some (h.set s (e,.data 1 ((l.set j x).map u8) ex false)):=by
 have e1:(l.map u8).take j++[u8 x]++(l.map u8).drop (j+1)=(l.set j x).map u8:=by
  rw[Xg,Ym,if_pos (by grind)];simp
 simp only[st,if_true,sto,dM hg,jG,toD];rw[if_pos ⟨trivial,by grind,by grind⟩];simp only[bK,List.length_singleton];rw[<-e1];rfl
theorem ap8{s' cap len:Nat}{x:UInt8}{q:kkQ}{u:PU q}(hg:h[s]?=some (e,.data 1 (l.map u8) ex false))(hold:l.length=cap)(hl:len<cap)
  (hq:q (.ref s e 0 (len+1) cap cap) (h.set s (e,.data 1 ((l.take len++[x]++l.drop (len+1)).map u8) ex false))):rh (apV false s' 1 1 (.ref s e 0 len cap cap) (.d (.sl 1 [u8 x])) h) q u:=by
 unfold rh apV;simp only[cellsOf];rw[if_pos ac];unfold apC;rw[if_neg aa];simp only[dM hg];rw[if_pos ⟨trivial,by grind,aa,by grind,ac⟩,if_pos aa]
 simp_all
def s8(h:Hp)(s e:Nat)(ex:Bool)(l:LuQ):Hp:=h.set s (e,.data 1 (l.map u8) ex false)
theorem TR{h:Hp}{s e:Nat}{ex:Bool}{l:LuQ}(hs:s<h.length):(s8 h s e ex l)[s]?=some (e,.data 1 (l.map u8) ex false):=by simp[s8,hs]
theorem TQ{h:Hp}{s e:Nat}{ex:Bool}{l l':LuQ}:(s8 h s e ex l).set s (e,.data 1 (l'.map u8) ex false)=s8 h s e ex l':=by simp[s8]
@[simp]theorem ag6{h:Hp}{s e:Nat}{ex:Bool}{l:LuQ}:(s8 h s e ex l).length=h.length:=by simp[s8]
theorem U6{l:LuQ}{m n:Nat}{v:UInt8}(hm:m<l.length):nth 0 (l.set m v) n=if m=n then v else nth 0 l n:=by grind[nth]
theorem Ut{h:Hp}{s e tot:Nat}{ex:Bool}(hs:s<h.length){L:Nat}(hL:L<=tot)(htb:tot<1000000000000)(l0:LuQ)(k:KL)(h0:Hp)(hh:h0.length=h.length):
  ∀(r i:Nat)(l:LuQ),L<=2*i+r->2*i<=L+1->l.length=tot->(∀m,m<L->(m<i∨L-1-m<i)->nth 0 l m=nth 0 l0 (L-1-m))->(∀m,m<L->i<=m->i<=L-1-m->nth 0 l m=nth 0 l0 m)->(∀m,L<=m->nth 0 l m=nth 0 l0 m) ->
  (∀l':LuQ,l'.length=tot->(∀m,m<L->nth 0 l' m=nth 0 l0 (L-1-m))->(∀m,L<=m->nth 0 l' m=nth 0 l0 m)->k (.exit 0) [] (s8 h s e ex l')) ->
  lp (dI (CX Y) h.length (.ref s e 0 L cap tot)) [] h0 [I i,I ((L:Int)-1-i)] (s8 h s e ex l) k:=by
 intro r
 induction r with
 | zero=>
  intro i l hr hi hl h1 h2 h3 hk;refine aj ?_;have g:¬((i:Int)<(L:Int)-1-i):=aa;simp[dI,g];exact hk l hl (λm hm=>h1 m hm aa) h3
 | succ r ih=>
  intro i l hr hi hl h1 h2 h3 hk;by_cases g:i+i+1<L
  .obtain⟨j,hj⟩:=mnQ (L-1-i);have g':((i:Int)<(L:Int)-1-i):=aa;have ej:(L:Int)-1-i=(j:Int):=aa;have hgt:=TR (e:=e) (ex:=ex) (l:=l) hs;have a1:=ix8 hgt hl.symm (len:=L) (cap:=cap) (i:=(j:Int)) aa aa .i64;have a2:=ld8 hgt hl.symm (j:=j) aa;have b1:=ix8 hgt hl.symm (len:=L) (cap:=cap) (i:=(i:Int)) aa aa .i64
   have b2:=ld8 hgt hl.symm (j:=i) aa;have b3:=st8 hgt hl.symm (j:=i) aa (nth 0 l j);rw[TQ]at b3;have hgt2:=TR (e:=e) (ex:=ex) (l:=l.set i (nth 0 l j)) hs;have c1:=ix8 hgt2 (by simpa using hl.symm) (len:=L) (cap:=cap) (i:=(j:Int)) aa aa .i64;have c3:=st8 hgt2 (by simpa using hl.symm) (j:=j) aN (nth 0 l i);rw[TQ]at c3
   simp only[Int.toNat_natCast]at a1 b1 c1
   have nn:∀m,nth 0 ((l.set i (nth 0 l j)).set j (nth 0 l i)) m=if j=m then nth 0 l i else if i=m then nth 0 l j else nth 0 l m:=λm=>by
    rw[U6 aN,U6 aa]
   have ihh:=ih (i+1) ((l.set i (nth 0 l j)).set j (nth 0 l i)) aa aa (by simpa using hl) (λm hm hc=>by
    rw[nn];by_cases e1:j=m
    .rw[if_pos e1,h2 i aa (Z8 _) aa];congr 1;omega
    .rw[if_neg e1];by_cases e2:i=m
     .rw[if_pos e2,h2 j aa aa aa];congr 1;omega
     .rw[if_neg e2];exact h1 m hm aa) (λm hm hc hc2=>by
    rw[nn,if_neg aa,if_neg aa];exact h2 m hm aa aa) (λm hm=>by
    rw[nn,if_neg aa,if_neg aa];exact h3 m hm) hk
   have e2:(j:Int)-1=(L:Int)-1-((i+1:Nat):Int):=aa;rw[<-e2]at ihh;clear hk ih;refine aj ?_;rw[ej]at g' ⊢;simp(disch:=try exact ae)[dI,g',a1,a2,b1,b2,b3,c1,c3];simpa[hh]using ihh
  .refine aj ?_;have g':¬((i:Int)<(L:Int)-1-i):=aa;simp[dI,g']
   exact hk l hl (λm hm=>by
    by_cases hc:m<i∨L-1-m<i
    .exact h1 m hm hc
    .rw[h2 m hm aa aa];congr 1;omega) h3
theorem ahz{x y:LuQ}(hl:x.length=y.length)(h:∀c,c<x.length->nth 0 x c=nth 0 y c):x=y:=by grind[W0,ft]
theorem ZQ{h:Hp}(hu:(h.all λx=>aF h.length x.2)=true){s e tot:Nat}{ex:Bool}(hs:s<h.length){L:Nat}(hL:L<=tot)(htb:tot<1000000000000){l:LuQ}(hl:l.length=tot):
  CI Y F.bW [.ref s e 0 L cap tot] (s8 h s e ex l) (.tup []) (s8 h s e ex ((l.take L).reverse++l.drop L)):=by
 refine rT ?_;simp(disch:=try exact ae)[bW];have e1:(L:Int)-1=(L:Int)-1-((0:Nat):Int):=aa;rw[e1]
 have:=Ut (h:=h) (s:=s) (e:=e) (ex:=ex) hs (cap:=cap) hL htb l (exK [(.exit 0,λl3 h_1=>m7 (List.length (s8 h s e ex l)) (.tup []) (s8 h s e ex ((l.take L).reverse++l.drop L)) (.tup []) h_1)]) (s8 h s e ex l) ac L 0 l aa aa hl (λm hm hc=>by omega) (λm _ _ _=>rfl) (λm _=>rfl) λl' hl' h1 h2=>by
  have hE:l'=(l.take L).reverse++l.drop L:=by
   refine ahz (by grind) λc hc=>?_
   by_cases hcL:c<L
   .rw[h1 c hcL,ft _ _ _ aa,ft _ _ _ (by grind)]
    grind
   .rw[h2 c aa,ft _ _ _ aa,ft _ _ _ (by grind)]
    grind
  subst hE;simp only[kV];refine⟨(Z3 ac).symm,?_,.inl ⟨rfl,rfl⟩⟩;rw[Z1]at hu ⊢;intro x hx;rcases Yo hx with h|h
  .simpa using hu x h
  .rw[h];rfl
 trivial
def tH(l:LuQ):Hp:=[(1,.data 1 (l.map u8) true false),nnQ,nnQ]
theorem S8(l:LuQ):(tH l)[0]?=some (1,.data 1 (l.map u8) true false):=rfl
@[simp]theorem agX(l:LuQ):(tH l).length=3:=rfl
theorem S7(l l':LuQ):(tH l).set 0 (1,.data 1 (l'.map u8) true false)=tH l':=rfl
theorem OL{p:LnQ}{i N:Nat}(hi:i<p.length)(hp:p.length<100000000)(hN:N<1000000000000)(k:KL)(h0:Hp)(hh:h0.length=3):∀(w j x:Nat)(bs:LuQ),
  (i+1<p.length∧j+w=9∨¬i+1<p.length∧j+w<=9∧x<10^w∧(0<w->10^(w-1)<=x))->x<1000000000->bs.length+w<=N ->
  k (.exit 2) [.ref 0 1 0 (bs.length+w) N N] (tH (bs++(dN x w).reverse++List.replicate (N-(bs.length+w)) 0)) ->
  lp (dd (CX Y) (lst u6 p) (I i)) [] h0 [.ref 0 1 0 bs.length N N,U x,I j] (tH (bs++List.replicate (N-bs.length) 0)) k
 | 0,j,x,bs=>by
  intro hc hx hb hk;have lp':aX (lst u6 p)=some (I p.length):=rfl;refine aj ?_;rcases hc with⟨g1,g2⟩|⟨g1,g2,g3,g4⟩
  .have g5:¬((j:Int)<9):=aa;simp[dd,g5]
   grind[dN]
  .have x0:x=0:=by simpa using g3
   subst x0;have g1':¬((i:Int)+1<(p.length:Int)):=aa;by_cases g5:(j:Int)<9
   .simp(disch:=try exact ae)[dd,g5,lp',g1']
    grind[dN]
   .simp[dd,g5]
    grind[dN]
 | w+1,j,x,bs=>by
  intro hc hx hb hk;have lp':aX (lst u6 p)=some (I p.length):=rfl;have g5:(j:Int)<9:=aa;have hdg:u8 (dg (x%10))=.int .u8 (48+((x%10:Nat):Int)):=OG (Y3 _ af);obtain⟨m,hm⟩:=mnQ (x%10);obtain⟨d,hd⟩:=mnQ (x/10);have e1:(x:Int)%10=(m:Int):=aa;have e2:(x:Int)/10=(d:Int):=aa;rw[hm]at hdg
  have hdec:(dN x (w+1)).reverse=dg m::(dN d w).reverse:=by rw[dN,hd,hm];simp
  have ih:=OL hi hp hN k h0 hh w (j+1) d (bs++[dg m]) (by
   rcases hc with⟨g1,g2⟩|⟨g1,g2,g3,g4⟩
   .exact .inl ⟨g1,aa⟩
   .refine .inr ⟨g1,aa,?_,λhw=>?_⟩
    .omega
    .have:=g4 aa;rw[<-hd,X3 af,<-Nat.pow_succ,show(w-1).succ=w+1-1 by omega];omega) aa (by grind) (by
   grind)
  have hcell:(bs++List.replicate (N-bs.length) 0).take bs.length++[dg m]++(bs++List.replicate (N-bs.length) 0).drop (bs.length+1)=(bs++[dg m])++List.replicate (N-(bs++[dg m]).length) 0:=by
   rw[Ye rfl]
   have:List.replicate (N-bs.length) (0:UInt8)=0::List.replicate (N-bs.length-1) 0:=by
    rw[<-List.replicate_succ];congr 1;omega
   rw[this,<-List.drop_drop,Wu rfl];rw[show N-bs.length-1=N-(bs++[dg m]).length by grind];simp
  have hcl:(bs++List.replicate (N-bs.length) 0).length=N:=by simp;omega
  have hli:∀h:Hp,du 1 [D.int .u8 0] [(0,.d (.int .u8 (48+(m:Int))))] h=some ([u8 (dg m)],h):=λh=>by
   simp_all[du,gK,jG,toD]
  have hx0:¬i+1<p.length->0<(x:Int):=λh=>by
   grind
  clear hk;refine aj ?_;by_cases g1:(i:Int)+1<(p.length:Int)
  .simp(disch:=try exact ae)[dd,g5,lp',g1,Zx,Zt,e1,e2,hli];refine ap8 (S8 _) hcl aa ?_;rw[hcell];simp only[S7];simp(disch:=try exact ae)[Zx,Zt,e2]
   simp_all
  .have g3:=hx0 aa;simp(disch:=try exact ae)[dd,g5,lp',g1,g3,Zx,Zt,e1,e2,hli];refine ap8 (S8 _) hcl aa ?_;rw[hcell];simp only[S7];simp(disch:=try exact ae)[Zx,Zt,e2]
   simp_all
theorem afS{l:LuQ}{L:Nat}(hl:l.length=N)(hL:L<=N):cvT (tH l) (.ref 0 1 0 L N N)=some (S (l.take L)):=by simp only[cvT,cellsOf,tH,ax];simp[hl,hL,<-List.map_take,B3]
def txS(p:LnQ)(i:Nat):LuQ:=if i<p.length then(dN (val Z (p.take i)) (9*i)).reverse else(ah (val Z p)).reverse
theorem OJ{p:LnQ}(hp:aI Z p)(hne:p≠[])(i:Nat)(hi:i<=p.length):(txS p i).length<=9*p.length:=by
 unfold txS;split
 .simp[bf];omega
 .have h1:=jE (B:=Z) bE hp;rw[AJ]at h1;have:=fM h1 (by have:=Xv.2 hne;omega);simp[ah,bf];exact this
theorem SO{p:LnQ}(hp:aI Z p)(hn:AK p){i:Nat}(hi:i<p.length):
  ∃w,(i+1<p.length∧0+w=9∨¬i+1<p.length∧0+w<=9∧nth 0 p i<10^w∧(0<w->10^(w-1)<=nth 0 p i))∧txS p (i+1)=txS p i++(dN (nth 0 p i) w).reverse:=by
 obtain⟨x,hx⟩:=mnQ (nth 0 p i);have hxZ:x<Z:=by rw[<-hx];exact hp.getD bE i
 have hv:=xW (B:=Z) p hi;rw[show p.getD i 0=x from hx]at hv;have hlow:=jE (B:=Z) bE (hp.take i);rw[Zr,Ys aa]at hlow;rw[AJ]at hlow hv;obtain⟨r,hr⟩:=mnQ (val Z (p.take i));rw[hr]at hlow hv;rw[hx];by_cases hl:i+1<p.length
 .refine⟨9,.inl ⟨hl,rfl⟩,?_⟩;have hpp:0<10^(9*i):=Xn af;rw[txS,if_pos hl,txS,if_pos hi,hr,hv,show 9*(i+1)=9+9*i by omega,Ax,Yg _ _ hpp,Xk hlow,Zk,Aw,List.reverse_append]
 .have hip:i+1=p.length:=aa
  have hx0:0<x:=by
   have hne:p≠[]:=λe=>by rw[e]at hi;simp at hi
   have:=hn hne;rw[List.getLast_eq_getElem]at this;rw[<-hx,ft _ _ _ hi];have e:p.length-1=i:=aa;simp only[e]at this;omega
  refine⟨ndg x,.inr ⟨hl,?_,dj x,λ_=>Bn x hx0⟩,?_⟩
  .have:ndg x<=9:=fM (by simp only[Z]at hxZ;omega) af;omega
  .rw[txS,if_neg hl,txS,if_pos hi,hr]
   have hval:val Z p=r+10^(9*i)*x:=by
    have:p.take (i+1)=p:=Z3 aa;rw[<-hv,this]
   rw[hval,RQ hx0 hlow,List.reverse_append];rfl
theorem OM{p:LnQ}(hp:aI Z p)(hn:AK p)(hne:p≠[])(hpl:p.length<100000000)(k:KL)(h0:Hp)(hh:h0.length=3){N:Nat}(hN:N=9*p.length) :
  ∀(r i:Nat),i+r=p.length->k (.exit 0) [.ref 0 1 0 (txS p p.length).length N N] (tH (txS p p.length++List.replicate (N-(txS p p.length).length) 0)) ->
  lp (iR (CX Y) (lst u6 p) (lst u6 p) (I p.length)) [] h0 [.ref 0 1 0 (txS p i).length N N,I i] (tH (txS p i++List.replicate (N-(txS p i).length) 0)) k
 | 0,i=>by
  intro hi hk;have:i=p.length:=aa;subst this;refine aj ?_;simp[iR];exact hk
 | r+1,i=>by
  intro hi hk;have hil:i<p.length:=aa;obtain⟨w,hw,hst⟩:=SO hp hn hil;have ih:=OM hp hn hne hpl k h0 hh hN r (i+1) aa hk;have hlen2:=OJ hp hne (i+1) aa;rw[hst]at ih hlen2;have hlw:(txS p i++(dN (nth 0 p i) w).reverse).length=(txS p i).length+w:=by simp[bf]
  rw[hlw]at ih hlen2;have e1:=λh:Hp=>nJ u6 p h (k:=.i64) (i:=(i:Int)) aa aa
  have e2:=λh:Hp=>Fa p h (j:=i) hil
  simp only[Int.toNat_natCast]at e1;have hxZ:nth 0 p i<1000000000:=by have:=hp.getD bE i;simp only[Z]at this;exact this
  refine aj ?_;simp(disch:=try exact ae)[iR,e1,e2];refine lo (OL hil hpl aa _ _ rfl w 0 (nth 0 p i) (txS p i) hw hxZ aa ?_);simp(disch:=try exact ae)[hh];simpa using ih
theorem eO:ah 0=[48]:=by rw[ah,show ndg 0=1 by unfold ndg;simp];rfl
theorem zf{n:Nat}(hb:(dig Z n).length<100000000):CP Y F.aW [pcs n] (S (ah n)):=by
 refine vO ?_;obtain⟨p,hp⟩:=mnQ (dig Z n);have hs:aI Z p:=by rw[<-hp];exact cZ aA n
 have hno:AK p:=by rw[<-hp];exact FP aA n
 have hv:val Z p=n:=by rw[<-hp];exact jI aA n
 rw[pcs,hp];rw[hp]at hb;have lP:aX (lst u6 p)=some (I p.length):=rfl;by_cases hne:p=[]
 .subst hne;have:n=0:=by rw[<-hv];rfl
  subst this;simp[aW,lP];exact fY eO.symm
 .have hpos:=Xv.2 hne;obtain⟨N,hN⟩:=nmQ (9*p.length);have e9:(9:Int)*(p.length:Int)=(N:Int):=aa;have g1:¬((p.length:Int)=0):=aa;have g2:¬(p.length=0):=aa;have t0:txS p 0=[]:=by rw[txS,if_pos hpos];simp[dN,val]
  have tl:txS p p.length=(ah n).reverse:=by rw[txS,if_neg aa,hv]
  have hln:=OJ hs hne p.length (Z8 _);rw[tl,List.length_reverse]at hln;simp(disch:=try exact ae)[aW,lP,g1,g2,hne,e9];refine Ur (e:=0) (b:=.none) rfl aa aa ?_;simp[lP]
  have hz:[(1,Bk.data 1 (List.replicate N (D.int IntKind.u8 0)) true false),nnQ,nnQ]=tH (txS p 0++List.replicate (N-(txS p 0).length) 0):=by
   rw[t0];simp[tH,u8]
  have main:=OM hs hno hne hb (exK [(.exit 0,λl7 h=>
   cai (CX Y).i h (.fn F.bW [] []) [(ge l7 0)] 2 λv8 h=>
   bnd (cvT h (ge l7 0)) λv9=>
   out (S (ah n)) v9 h)]) (tH (txS p 0++List.replicate (N-(txS p 0).length) 0)) rfl hN p.length 0 aa (by
   simp only[kV,tl,List.length_reverse,PY];obtain⟨l,hl⟩:=mnQ ((ah n).reverse++List.replicate (N-(ah n).length) 0);have hll:l.length=N:=by rw[<-hl];simp;omega
   rw[hl];have rv:=ZQ (h:=tH l) rfl (s:=0) (e:=1) (ex:=true) ac (L:=(ah n).length) (cap:=N) (tot:=N) aa aa hll
   have hl2:(l.take (ah n).length).reverse++l.drop (ah n).length=ah n++List.replicate (N-(ah n).length) 0:=by
    rw[<-hl,Ye ac,Wu ac,List.reverse_reverse]
   rw[hl2]at rv;refine fT rv ?_ ac
   show bnd (cvT (tH _) _) _
   rw[afS aN aa,Ye rfl];exact fY rfl)
  rw[t0]at main hz;rw[hz];exact main
theorem H9(a b:LnQ)(hab:a.length=b.length)(hs:a.length<1000000000)(k:KL):∀i:Nat,i<=a.length->(NE a b i=0->k (.exit 0) [] [])->(NE a b i≠0->k .ret [I (NE a b i)] []) ->
  lp (c8 (CX Y) (lst u6 a) (lst u6 b)) [] [] [I ((i:Int)-1)] [] k
 | 0,_,h0,_=>by
  refine aj ?_;simp[c8];exact h0 rfl
 | i+1,hi,h0,h1=>by
  have e1:=λh:Hp=>nJ u6 a h (k:=.i64) (i:=(i:Int)) aa aa
  have e2:=λh:Hp=>Fa a h (j:=i) aa
  have e3:=λh:Hp=>nJ u6 b h (k:=.i64) (i:=(i:Int)) aa aa
  have e4:=λh:Hp=>Fa b h (j:=i) aa
  simp only[Int.toNat_natCast]at e1 e3;obtain⟨x,hx⟩:=mnQ (nth 0 a i);obtain⟨y,hy⟩:=mnQ (nth 0 b i);rw[hx]at e2;rw[hy]at e4;simp only[NE,show a.getD i 0=x from hx,show b.getD i 0=y from hy]at h0 h1;have ei:((i+1:Nat):Int)-1=(i:Int):=aa;refine aj ?_;rw[ei];by_cases g1:x<y
  .have g1':(x:Int)<(y:Int):=aa;rw[if_pos g1]at h1;simp[c8,e1,e2,e3,e4,g1'];exact h1 af
  .rw[if_neg g1]at h0 h1;have g1':¬(x:Int)<(y:Int):=aa;by_cases g2:y<x
   .have g2':(y:Int)<(x:Int):=aa;rw[if_pos g2]at h1;simp[c8,e1,e2,e3,e4,g1',g2'];exact h1 af
   .have g2':¬(y:Int)<(x:Int):=aa;rw[if_neg g2]at h0 h1;have:=H9 a b hab hs k i aa h0 h1;simp(disch:=try exact ae)[c8,e1,e2,e3,e4,g1',g2'];simpa using this
theorem aba(ha:(dig Z a).length<1000000000)(hb:(dig Z b).length<1000000000):CP Y F.cD [pcs a,pcs b] (I (cmp a b)):=by
 refine tF ?_;have la:aX (pcs a)=some (I (dig Z a).length):=rfl;have lb:aX (pcs b)=some (I (dig Z b).length):=rfl;by_cases hl:(dig Z a).length=(dig Z b).length
 .have ho:=Pi bE (cZ aA a) (cZ aA b) (dig Z a).length (Z8 _) aa;rw[Xr,hl,Xr,jI aA,jI aA,<-hl]at ho;have hli:((dig Z a).length:Int)=((dig Z b).length:Int):=aa;simp(disch:=try exact ae)[cD,la,lb,hl];refine lo (show lp _ _ _ _ _ _ from ?_);rw[<-hli]
  refine H9 (dig Z a) (dig Z b) hl ha _ _ (Z8 _) (λh0=>?_) (λh0=>?_)
  .simp only[kV];exact ct (by rw[<-ho,h0])
  .simp only[An,DI,PY];exact ct (by rw[ho])
 .have hli:¬((dig Z a).length:Int)=((dig Z b).length:Int):=aa;rcases Zi (dig Z a).length (dig Z b).length with h|h
  .have:=JQ aA (m:=a) (n:=b) h;have e:cmp a b = -1:=by simp[cmp,this]
   have e2:mx2 false 1 (mx2 true (-1) (((dig Z a).length:Int)-((dig Z b).length:Int))) = -1:=by simp[mx2];omega
   simp(disch:=try exact ae)[cD,la,lb,hl,mxI,e2];exact ct (by rw[e])
  .have:=JQ aA (m:=b) (n:=a) aa;have e:cmp a b=1:=by unfold cmp;rw[if_neg aa,if_pos this]
   have e2:mx2 false 1 (mx2 true (-1) (((dig Z a).length:Int)-((dig Z b).length:Int)))=1:=by simp[mx2];omega
   simp(disch:=try exact ae)[cD,la,lb,hl,mxI,e2];exact ct (by rw[e])
theorem Cd(h:Hp)(l:LuQ):bH h (S l)=some (S l,h):=rfl
theorem Qj{n:Nat}(h:ndg n<=d)(hd:d<90000000):(dig Z n).length<100000000:=by have h1:=dj n;have h2:n<Z^d:=Z0 h1 (by rw[AJ];exact Zz af aa);have:=lS h2;omega
theorem xv(hb:0<b)(ha:ndg a<1000000)(hbd:ndg b<1000000):CP Y F.dZ [S (ah a),S (ah b)] (.tup [S (ah (a/b)),S (ah (a%b)),I 0]):=by
 refine BQ ?_
 have hne:¬ah b=[48]:=by
  rw[<-eO];intro e;have:=congrArg (fG 0) e;rw[dX,dX]at this;omega
 have hla:=Qj (Nat.le_of_lt ha) af;have hlb:=Qj (Nat.le_of_lt hbd) af;have bo:=DT a b;simp[dZ,hne];by_cases h18:ndg a<=18∧ndg b<=18
 .rw[if_pos h18]at bo;have ha2:a<1000000000000000000:=by have:=dj a;have:=Zz (n:=10) af h18.1;omega
  refine cd bo ?_;obtain⟨q,hq⟩:=mnQ (a/b);obtain⟨r,hr⟩:=mnQ (a%b);have hqa:q<=a:=by rw[<-hq];exact Yy ..
  have hra:r<=a:=by rw[<-hr];exact Nat.mod_le ..
  have e1:(a:Int)/(b:Int)=(q:Int):=by rw[<-hq];simp
  have e2:(a:Int)%(b:Int)=(r:Int):=by rw[<-hr];simp
  have hb0:¬((b:Int)=0):=aa;have hb0':¬(b=0):=aa;rw[hq,hr];simp(disch:=try exact ae)[hb0,hb0',Zt,Zx,e1,e2];refine cd (Bh (n:=q) aa) ?_;simp[hb0,hb0',Zt,Zx,e1,e2];refine cd (Bh (n:=r) aa) ?_;exact jQ (Cd _ _) (Cd _ _) rfl
 .rw[if_neg h18]at bo;refine cd bo ?_;obtain⟨ca,hca⟩:=nmQ (ndg a/9+1);obtain⟨cb,hcb⟩:=nmQ (ndg b/9+1);have ltA:a<Z^ca:=Z0 (dj a) (by rw[AJ];exact Zz af aa);have ltB:b<Z^cb:=Z0 (dj b) (by rw[AJ];exact Zz af aa)
  have cA:=vj (h:=[nnQ,nnQ]) rfl (n:=a) aa hca;have lA:(bL ca a).length=ca:=fe ..;have lB:(bL cb b).length=cb:=fe ..;have cB:=vj (h:=[(1,.data 1 ((bL ca a).map u6) true false),nnQ]) rfl (n:=b) aa hcb;simp;refine oE (iz (e:=0) (b:=.none) cA rfl ?_);rw[List.length_map,lA];simp
  refine oE (iz (e:=0) (b:=.none) cB rfl ?_);rw[List.length_map,lB];simp;have sA:=yj (h:=[(1,.data 1 ((bL ca a).map u6) true false),(1,.data 1 ((bL cb b).map u6) true false)]) (s:=0) rfl lA.symm (len:=(dig Z a).length) (cap:=ca) (lS ltA) (Z8 _)
  have sB:=yj (h:=[(1,.data 1 ((bL ca a).map u6) true true),(1,.data 1 ((bL cb b).map u6) true false)]) (s:=1) rfl lB.symm (len:=(dig Z b).length) (cap:=cb) (lS ltB) (Z8 _);rw[qh ltA]at sA;rw[qh ltB]at sB;simp only[List.set_cons_zero,List.set_cons_succ]at sA sB
  have sAB:aH [(1,.data 1 ((bL ca a).map u6) true false),(1,.data 1 ((bL cb b).map u6) true false)] [.ref 0 1 0 (dig Z a).length ca ca,.ref 1 1 0 (dig Z b).length cb cb]=some ([pcs a,pcs b],[(1,.data 1 ((bL ca a).map u6) true true),(1,.data 1 ((bL cb b).map u6) true true)]):=by
   simp only[aH,sA,sB];rfl
  refine cdz sAB (aba (a:=a) (b:=b) aa aa) ?_;rw[show cS (I (cmp a b))=true from rfl,if_pos rfl];by_cases hab:a<b
  .have hc:cmp a b = -1:=by simp[cmp,hab]
   rw[Xk hab,Yd hab,eO];simp[hc];exact jQ (Cd _ _) (Cd _ _) rfl
  .have hc:¬cmp a b<0:=by unfold cmp;rw[if_neg hab];split<;>decide
   have hlen:(dig Z b).length<=(dig Z a).length:=by
    rcases Zi (dig Z a).length (dig Z b).length with h|h
    .exact absurd (JQ aA h) hab
    .exact h
   have lq:(dig Z (a/b)).length<100000000:=by
    have:a/b<=a:=Yy ..;have:=lS (Y8 this ltA);omega
   have lr:(dig Z (a%b)).length<100000000:=by
    have:a%b<=a:=Nat.mod_le ..;have:=lS (Y8 this ltA);omega
   by_cases h1:(dig Z b).length=1
   .have hbZ:b<Z:=by have:=Bq b;rw[h1,Nat.pow_one]at this;exact this
    obtain⟨cb',hcb'⟩:∃c,cb=c+1:=⟨cb-1,aa⟩;have hn0:nth 0 (bL cb b) 0=b:=by rw[hcb',bL];simp[nth,Yd hbZ]
    have r1:=C2 (h:=[(1,.data 1 ((bL ca a).map u6) true false),(1,.data 1 ((bL cb b).map u6) true false)]) (s:=1) rfl lB.symm (len:=1) (cap:=cb) (i:=0) aa aa .i64;have r2:=Jt (h:=[(1,.data 1 ((bL ca a).map u6) true false),(1,.data 1 ((bL cb b).map u6) true false)]) (s:=1) rfl lB.symm (j:=0) aa;rw[hn0]at r2
    have r1':ixV [(1,Bk.data 1 ((bL ca a).map u6) true false),(1,.data 1 ((bL cb b).map u6) true false)] 1 (.ref 1 1 0 1 cb cb) (I 0)=some (.ptr 1 1 0 cb):=r1;simp[hc,h1,r1',r2];refine cdz (ds:=[pcs a,U b]) (h':=[(1,.data 1 ((bL ca a).map u6) true true),(1,.data 1 ((bL cb b).map u6) true false)]) (by simp only[aH,sA,zh];rfl) (Hq (a:=a) (n:=b) aa hb aa) ?_
    rw[show cS (.tup [pcs (a/b),U (a%b:Nat)])=false from rfl];simp;refine cd (args:=[pcs (a/b)]) (zf lq) ?_ (by simp[aH,pcs]);simp;refine cd (Bh (n:=a%b) (by have:=Y3 a hb;simp only[Z]at hbZ;omega)) ?_;exact jQ (Cd _ _) (Cd _ _) rfl
   ·have h0:(dig Z b).length≠0:=λe=>by
     have:=Bq b;rw[e]at this;simp at this;omega
    have h1i:¬((dig Z b).length:Int)=1:=aa;simp[hc,h1,h1i];refine cdz sAB (Oa (P:=a) (Q:=b) aa hlen (by have:=lS ltA;omega)) ?_;rw[show cS (.tup [pcs (a/b),pcs (a%b)])=false from rfl];simp;refine cd (args:=[pcs (a/b)]) (zf lq) ?_ (by simp[aH,pcs]);simp;refine cd (args:=[pcs (a%b)]) (zf lr) ?_ (by simp[aH,pcs])
    exact jQ (Cd _ _) (Cd _ _) rfl
def rdT(s:LuQ):LuQ:=if s.headD 0=45 then s.tail else s
def rdN(s:LuQ):Bool:=decide (s.headD 0=45)
def rd(s:LuQ):Option Int:=if(rdT s).length<=400 then rdS s else none
theorem abY(s:LuQ):rd s=if(rdT s).length<=400∧rdT s≠[]∧¬((rdT s).headD 0=48∧(1<(rdT s).length∨rdN s=true))∧(rdT s).all qf=true then some (if rdN s=true then -(fG 0 (rdT s):Int)else(fG 0 (rdT s):Int))else none:=by
 unfold rd rdS
 have hcan:∀t:LuQ,qI t=true↔t≠[]∧t.all qf=true∧¬(1<t.length∧t.headD 0=48):=λt=>by
  simp[qI,and_assoc];intro _ _;constructor
  .rintro(h|h) g
   .omega
   omega
  .intro h;by_cases g:1<t.length
   .grind
   .exact .inl aa
 by_cases h:s.headD 0=45
 .have e1:rdT s=s.tail:=by unfold rdT;rw[if_pos h]
  have e2:rdN s=true:=by unfold rdN;simpa using h
  rw[e1,e2,if_pos h];generalize s.tail=t;by_cases h1:t.length<=400
  .simp only[h1,if_true,true_and,hcan];by_cases h2:t≠[]∧¬(t.headD 0=48∧(1<t.length∨True))∧t.all qf=true
   .grind
   .rw[if_neg h2,if_neg];rintro⟨⟨a,b,c⟩,d⟩;refine h2 ⟨a,λx=>?_,b⟩;by_cases g:1<t.length
    .grind
    .apply d;cases t with
     |nil=>trivial
     | cons y t=>
      grind
  grind
 .have e1:rdT s=s:=by unfold rdT;rw[if_neg h]
  have e2:rdN s=false:=by unfold rdN;simpa using h
  grind
theorem Uw{s:LuQ}(h:rd s=some z):z.natAbs<10^400:=by
 rw[abY]at h;split at h
 .rename_i hc;simp only[Z9]at h;have hi:=ui (rdT s) 0 hc.2.2.2;have:fG 0 (rdT s)<10^400:=Z0 hi (by set_option exponentiation.threshold 1000 in rw[Zk,Wr];exact Zz af hc.1)
  have hz:z.natAbs=fG 0 (rdT s):=by
   rw[<-h];split<;>simp
  rw[hz];exact this
 .cases h
def rdF(a b:LuQ):Option (Int×Nat):=match rd a,rd b with
 |some n,some d=>if 0<d∧Nat.gcd n.natAbs d.natAbs=1 then some (n,d.natAbs)else none
 |_,_=>none
theorem eW(h:a<=b):ndg a<=ndg b:=fM (Y8 h (dj b)) (lN b)
theorem R2(k:KL):∀(b a:Nat),ndg a<1000000->ndg b<1000000->k (.exit 0) [S (ah (Nat.gcd a b))] []->lp (pK (CX Y)) [] [] [S (ah a),S (ah b)] [] k:=by
 intro b
 induction b using Nat.strongRecOn with
 | _ b ih=>
  intro a ha hb hk;by_cases h0:b=0
  .subst h0;rw[Nat.gcd_zero_right]at hk;refine aj ?_;rw[eO];simp[pK];exact hk
  .have hbp:0<b:=aa
   have hne:¬ah b=[48]:=by
    rw[<-eO];intro e;have:=congrArg (fG 0) e;rw[dX,dX]at this;omega
   have hm:=Y3 a hbp
   have hk2:=ih (a%b) hm b hb (Y8 (eW (Nat.le_of_lt hm)) hb) (by
    rw[Wn b,<-Nat.gcd_rec,Wn b];exact hk)
   refine aj ?_;simp[pK,hne];refine cd (xv hbp ha hb) ?_;simp;exact hk2
theorem P0(ha:ndg a<1000000)(hb:ndg b<1000000):CP Y F.nL [S (ah a),S (ah b)] (S (ah (Nat.gcd a b))):=by refine GP ?_;simp[nL];refine lo (R2 _ b a ha hb ?_);simp;exact fY rfl
theorem RZ(k:KL):∀(b a:Nat),a<1000000000000000000->b<1000000000000000000->k (.exit 0) [I (Nat.gcd a b:Nat)] []->lp (qX (CX Y)) [] [] [I a,I b] [] k:=by
 intro b
 induction b using Nat.strongRecOn with
 | _ b ih=>
  intro a ha hb hk;by_cases h0:(b:Int)=0
  .have:b=0:=aa;subst this;rw[Nat.gcd_zero_right]at hk;refine aj ?_;simp[qX];exact hk
  .have hbp:0<b:=aa;have hm:=Y3 a hbp
   have hk2:=ih (a%b) hm b hb aa (by
    rw[Wn b,<-Nat.gcd_rec,Wn b];exact hk)
   have h0':¬b=0:=aa;have e2:(a:Int)%(b:Int)=((a%b:Nat):Int):=ac;obtain⟨r,hr⟩:=mnQ (a%b);rw[hr]at hk2 e2;refine aj ?_;simp[qX,h0,h0',Zx,e2];exact hk2
theorem aaN(ha:a<1000000000000000000)(hb:b<1000000000000000000):CP Y F.rF [I a,I b] (I (Nat.gcd a b:Nat)):=by refine Ke ?_;simp[rF];refine lo (RZ _ b a ha hb ?_);simp only[kV];exact ct rfl
theorem adg{n:Nat}(h:n<9223372036854775808):CP Y F.eD [I n] (S (ah n)):=by
 refine DZ ?_;simp[eD];have e:itoa (n:Int)=ah n:=by unfold itoa;rw[if_neg aa];rfl
 refine cd (Dy (z:=n) aa aa) ?_;rw[e]
 try simp(disch:=try exact ae)
 exact fY rfl
theorem E5(a:Nat):CP Y F.bG [S (ah a),I 18] (if ndg a<=18 then .tup [I a,B true]else .tup [I 0,B false]):=by
 refine rL ?_;have la:=nY a;by_cases h:18<ndg a
 .rw[if_neg aa];simp(disch:=try exact ae)[bG,la,h];exact cG rfl rfl
 .rw[if_pos aa];have ap:=J0 (n:=a) (lN a) aa (dj a);have en:biF .eql (.d (.pl .nilIface)) (.d (.pl .nilIface))=some (.d (.bool true)):=rfl;simp(disch:=try exact ae)[bG,la,h];refine cd (args:=[S (ah a)]) ap ?_;simp[en];exact cG rfl rfl
theorem wm(s:LuQ):CP Y F.aU [S s] (.tup [B (rdN s),S (rdT s)]):=by
 refine Ge ?_;cases s with
 | nil=>
  simp[aU];exact cG rfl rfl
 | cons c t=>
  have hix:ixS (S (c::t)) (.d (.int .i64 0))=some (.d (.int .u8 c.toNat)):=rfl;by_cases h:c=45
  .subst h;have e:((45:UInt8).toNat:Int)=45:=rfl;simp(disch:=try exact ae)[aU,hix,e];exact cG rfl rfl
  .have e:¬(c.toNat:Int)=45:=λg=>h (by apply UInt8.toNat.inj;simpa using(by omega:c.toNat=45))
   have e1:rdT (c::t)=c::t:=by simp[rdT,h]
   have e2:rdN (c::t)=false:=by simp[rdN,h]
   rw[e1,e2];simp[aU,hix,e];exact cG rfl rfl
theorem If(l:LuQ)(hl:l.length<1000000000)(k:KL):∀(q p:LuQ),p++q=l->(q.all qf=true->k (.exit 0) [] [])->(q.all qf=false->k .ret [B false] [])->lp (fC (CX Y) (lst u8 l) (I l.length)) [] [] [I p.length] [] k
 | []=>by
  intro p hp h0 h1;simp at hp;subst hp;refine aj ?_;simp[fC];exact h0 rfl
 | c::q=>by
  intro p hp h0 h1;have hpl:p.length<l.length:=by subst hp;simp
  have hc:nth 0 l p.length=c:=by subst hp;simp
  have e1:=λh:Hp=>nJ u8 l h (k:=.i64) (i:=(p.length:Int)) aa aa
  have e2:=λh:Hp=>oz u8 0 l h (j:=p.length) hpl
  rw[hc]at e2;simp only[Int.toNat_natCast]at e1;have ih:=If l hl k q (p++[c]) (by simpa using hp);refine aj ?_;by_cases g1:(c.toNat:Int)<48
  .have g3:qf c=false:=by rw[Bool.eq_false_iff];intro h;rw[mb]at h;omega
   simp(disch:=try exact ae)[fC,e1,e2,u8,g1];exact h1 (by simp[g3])
  .by_cases g2:(57:Int)<c.toNat
   .have g3:qf c=false:=by rw[Bool.eq_false_iff];intro h;rw[mb]at h;omega
    simp(disch:=try exact ae)[fC,e1,e2,u8,g1,g2];exact h1 (by simp[g3])
   .have g3:qf c=true:=by rw[mb];omega
    have:=ih (λh=>h0 (by simp[g3];simpa using h)) (λh=>h1 (by simp only[List.all_cons,h,Wo]));simp(disch:=try exact ae)[fC,e1,e2,u8,g1,g2];simpa using this
theorem abc(l:LuQ)(hl:l.length<1000000000):CP Y F.iy [S l] (B (qI l)):=by
 refine xU ?_;unfold iy
 show cvB (S l) _ _
 rw[acg];have lL:nH (S l)=some (I l.length):=rfl;simp;refine lo (If l hl _ l [] rfl (λe=>?_) (λe=>?_))
 .simp only[kV];cases l with
  | nil=>
   simp[lL];exact gH (by simp[qI])
  | cons c t=>
   have hix:ixS (S (c::t)) (.d (.int .i64 0))=some (.d (.int .u8 c.toNat)):=rfl;cases t with
   | nil=>
    simp[lL];exact gH (by simp[qI]at e ⊢;exact e)
   | cons d t=>
    obtain⟨N,hN⟩:∃N,(c::d::t).length=N:=⟨_,rfl⟩;have hN2:2<=N:=by rw[<-hN];simp only[List.length_cons];omega
    rw[hN]at lL;have g2:(1:Int)<(N:Int):=aa;have g3:¬(N:Int)=1:=aa;by_cases h:c=48
    .subst h;have e48:((48:UInt8).toNat:Int)=48:=rfl;simp[lL,g2,g3,hix,e48];exact gH (by simp[qI])
    .have e48:¬(c.toNat:Int)=48:=λg=>h (by apply UInt8.toNat.inj;simpa using(by omega:c.toNat=48))
     simp[lL,g2,g3,hix,e48]
     exact gH (by
      have:qI (c::d::t)=true:=by simp only[qI,e];simp[h]
      exact this.symm)
 .simp only[An,DI];exact gH (by simp only[qI,e,Wo,Bool.false_and])
theorem Ss(l:LuQ)(hl:l.length<1000000000):CP Y F.ku [S l] (I (if qI l=true∧l.length<=400 then 0 else 2)):=by
 refine C7 ?_;have lL:nH (S l)=some (I l.length):=rfl;obtain⟨N,hN⟩:=mnQ (l.length);rw[hN]at lL ⊢;simp[ku];refine cd (abc l hl) ?_;cases hc:qI l with
 | false=>
  simp<;>exact ct ac
 | true=>
  by_cases h:(400:Int)<N
  .simp[lL,h]<;>exact ct (by rw[if_neg aa])
  .have h2:true=true∧N<=400:=⟨rfl,aa⟩;simp[lL,h]<;>exact ct (by rw[if_pos h2.2])
theorem Re(s:LuQ):(rd s).isSome=(!(rdN s&&decide (rdT s=[48]))&&(qI (rdT s)&&decide ((rdT s).length<=400))):=by
 unfold rd rdS rdN rdT;by_cases h45:s.headD 0=45
 .simp only[h45,if_true];obtain⟨t,ht⟩:=mnQ (s.tail);rw[ht];by_cases hl:t.length<=400
  .by_cases h48:t=[48]
   .simp[h48]
   .cases hc:qI t<;>simp[hl,h48]
  .simp[hl]
 .simp only[h45,if_false];by_cases hl:s.length<=400
  .cases hc:qI s<;>simp[hl]
  .simp[hl]
theorem Ia(s:LuQ)(hs:s.length<1000000000):CP Y F.m9 [S s] (I (if(rd s).isSome then 0 else 2)):=by
 refine Gg ?_
 have hT:(rdT s).length<1000000000:=by
  unfold rdT;split
  .have:s.tail.length=s.length-1:=List.length_tail;omega
  .exact hs
 rw[Re];simp[m9];refine cd (wm s) ?_;have hck:=Ss (rdT s) hT;obtain⟨t,ht⟩:=mnQ (rdT s);rw[ht]at hck ⊢;obtain⟨c4,hc4⟩:∃c4,(qI t&&decide (t.length<=400))=c4:=⟨_,rfl⟩
 have hck2:CP Y F.ku [S t] (I (if c4=true then 0 else 2)):=by
  have:(if qI t=true∧t.length<=400 then(0:Int)else 2)=if c4=true then 0 else 2:=by
   rw[<-hc4];by_cases h:qI t=true∧t.length<=400
   .rw[if_pos h];simp[h]
   .rw[if_neg h];rw[if_neg (by simpa using h)]
  rw[<-this];exact hck
 rw[hc4];cases hn:rdN s with
 | true=>
  by_cases h3:t=[48]
  .simp[h3]<;>exact ct ac
  .simp[h3];refine cd hck2 ?_;cases c4 with
   |true=>simp[h3]<;>exact ct (by simp[h3])
   |false=>simp[h3]<;>exact ct (by simp[h3])
 | false=>
  simp;refine cd hck2 ?_;cases c4 with
  |true=>simp<;>exact ct ac
  |false=>simp<;>exact ct ac
theorem ug(z:Int):rdT (itoa z)=ah z.natAbs:=by
 unfold itoa rdT;split
 .simp
 .rw[if_neg (sj _)]
theorem xC(z:Int):CP Y F.eS [S (itoa z)] (S (ah z.natAbs)):=by refine B9 ?_;have:=wm (itoa z);rw[ug]at this;simp[eS];refine cd this ?_;simp<;>exact fY rfl
def sgn(z:Int):Int:=if z=0 then 0 else if z<0 then -1 else 1
theorem tU(z:Int):CP Y F.dQ [S (itoa z)] (I (sgn z)):=by
 refine Ix ?_;by_cases h0:z=0
 .subst h0;have e:itoa 0=[48]:=eO;rw[e];simp[dQ]<;>exact ct rfl
 ·have hne:¬itoa z=[48]:=by
   intro e;have h1:=K6 z;have h2:=K6 0;rw[show itoa 0=[48]from eO,<-e,h1]at h2;exact h0 (Option.some.inj h2)
  by_cases hn:z<0
  .have e:itoa z=45::ah z.natAbs:=by unfold itoa;rw[if_pos hn]
   have hix:ixS (S (itoa z)) (.d (.int .i64 0))=some (.d (.int .u8 45)):=by rw[e];rfl
   simp[dQ,hne,hix]<;>exact ct (by simp[sgn,h0,hn])
  .have e:itoa z=ah z.natAbs:=by unfold itoa;rw[if_neg hn]
   obtain ⟨c,t,hct⟩:∃c t,ah z.natAbs=c::t:=by
    cases h:ah z.natAbs with
    |nil=>exact absurd h (wO _)
    |cons c t=>exact⟨c,t,rfl⟩
   have hhd:=sj z.natAbs;rw[hct]at hhd;have hix:ixS (S (itoa z)) (.d (.int .i64 0))=some (.d (.int .u8 c.toNat)):=by rw[e,hct];rfl
   have hc:¬(c.toNat:Int)=45:=λg=>hhd (by apply UInt8.toNat.inj;simpa using(by omega:c.toNat=45))
   simp[dQ,hne,hix,hc]<;>exact ct (by simp[sgn,h0,hn])
theorem PZ{w:Int}(hz:ndg z.natAbs<1000000)(hw:ndg w.natAbs<1000000):CP Y F.oY [S (itoa z),S (itoa w)] (S (ah (Nat.gcd z.natAbs w.natAbs))):=by
 refine Kj ?_;have l1:=E5 z.natAbs;have l2:=E5 w.natAbs;have gg:=P0 hz hw;simp[oY];refine cd (xC z) ?_;simp;refine cd (xC w) ?_;simp;by_cases h1:ndg z.natAbs<=18
 .rw[if_pos h1]at l1;refine cd l1 ?_;simp;by_cases h2:ndg w.natAbs<=18
  .rw[if_pos h2]at l2;refine bM ?_;simp;refine cd l2 ?_;have b1:z.natAbs<1000000000000000000:=by have:=dj z.natAbs;have:=Zz (n:=10) af h1;omega
   have b2:w.natAbs<1000000000000000000:=by have:=dj w.natAbs;have:=Zz (n:=10) af h2;omega
   have gi:=aaN b1 b2
   have gb:Nat.gcd z.natAbs w.natAbs<9223372036854775808:=by
    rcases Zf w.natAbs with h|h
    .rw[h,Nat.gcd_zero_right];omega
    .have:=Nat.gcd_le_right z.natAbs h;omega
   generalize Nat.gcd z.natAbs w.natAbs=G at *;generalize z.natAbs=a at *;generalize w.natAbs=b at *;simp;refine cd gi ?_;simp;refine cd (adg gb) ?_;exact fY rfl
  .rw[if_neg h2]at l2;refine bM ?_;simp;refine cd l2 ?_;simp;refine cd gg ?_;exact fY rfl
 .rw[if_neg h1]at l1;refine cd l1 ?_;simp;refine cd (u:=.mk) gg ?_;exact fY rfl
theorem De{s:LuQ}(h:rd s=some z):s=itoa z∧ndg z.natAbs<1000000:=by
 have hb:=Uw h;unfold rd at h;split at h
 .exact⟨Ux h,by have:=fM hb af;omega⟩
 .cases h
theorem Nx(a b:LuQ):(rdF a b).isSome=match rd a,rd b with
  |some n,some d=>decide (0<d∧Nat.gcd n.natAbs d.natAbs=1)
  |_,_=>false:=by
 unfold rdF;cases rd a<;>cases rd b<;>simp
 split<;>simp_all
theorem BX(a b:LuQ)(ha:a.length<1000000000)(hb:b.length<1000000000):CP Y F.fO [.agg [S a,S b]] (I (if(rdF a b).isSome then 0 else 2)):=by
 refine BG ?_;have ca:=Ia a ha;have cb:=Ia b hb;rw[Nx];simp[fO];refine cd ca ?_;cases hra:rd a with
 | none=>
  simp;refine bM ?_;simp<;>exact ct rfl
 | some z=>
  cases hrb:rd b with
  | none=>
   rw[hrb]at cb;simp;refine bM ?_;simp;refine cd cb ?_;simp<;>exact ct rfl
  | some w=>
   rw[hrb]at cb;obtain⟨ea,na⟩:=De hra;obtain⟨eb,nb⟩:=De hrb;subst ea;subst eb;have sg:=tU w;have gg:=PZ na nb;simp;refine bM ?_;simp;refine cd cb ?_;simp;refine cd sg ?_;by_cases hw:0<w
   .have hs:¬sgn w<=0:=by unfold sgn;rw[if_neg aa,if_neg aa];decide
    simp[hs];refine bM ?_;simp;refine cd gg ?_;by_cases hg:Nat.gcd z.natAbs w.natAbs=1
    .have e1:ah 1=[49]:=by rw[ah,show ndg 1=1 by unfold ndg;simp];rfl
     rw[show ah (Nat.gcd z.natAbs w.natAbs)=[49] by rw[hg,e1]];simp<;>exact ct (by simp[hw];exact hg)
    ·have e1:¬ah (Nat.gcd z.natAbs w.natAbs)=[49]:=by
      intro e;have:=congrArg (fG 0) e;rw[dX]at this;exact hg this
     simp[e1]<;>exact ct (by simp[hw,hg])
   .have hs:sgn w<=0:=by unfold sgn;split;decide;rw[if_pos aa];decide
    simp[hs];refine bM ?_;simp[hs]<;>exact ct (by simp[hw])
def Pe(n:Nat):Nat->Nat->Bool
 |0,_=>true
 |k+1,d=>if n%d=0 then false else Pe n k (d+1)
def yu(n:Int):Bool:=decide (2<=n)&&decide (n<=97)&&Pe n.toNat (n.toNat-2) 2
def wq(s:LuQ):Bool:=decide ((rdT s).length<=30)
abbrev Tx:=LuQ×LuQ
def aL(x:Tx):LdQ:=[.str x.1,.str x.2]
theorem aT(x:Tx):(aL x).length=2:=rfl
def Tl(n:Nat):Nat->Nat->Bool
 |0,_=>true
 |r+1,d=>if d*d<=n then(if n%d=0 then false else Tl n r (d+1))else true
theorem acR:∀n:Fin 98,2<=n.val->Tl n.val 10 2=yu n.val:=aR
theorem OS(n:Nat)(hn:n<=97)(k:KL):∀(r d:Nat),2<=d->d+r=12->(Tl n r d=true->k (.exit 0) [] [])->(Tl n r d=false->k .ret [B false] []) ->
  lp (jd (CX Y) (I n)) [] [] [I d] [] k
 | 0,d,hd,hr,h0,h1=>by
  have:d=12:=aa;subst this;have g:¬((12:Nat):Int)*((12:Nat):Int)<=(n:Int):=aa;have g2:¬(144:Int)<=(n:Int):=aa;refine aj ?_;simp[jd,g,g2];exact h0 rfl
 | r+1,d,hd,hr,h0,h1=>by
  have ih:=OS n hn k r (d+1) aa aa;have hd12:d<=12:=aa;obtain⟨s,hs⟩:=mnQ (d*d);have hsb:s<=144:=by rw[<-hs];exact Zp hd12 hd12
  have e1:(d:Int)*(d:Int)=(s:Int):=by rw[<-hs];simp
  rw[Tl,hs]at h0 h1;refine aj ?_;by_cases g:s<=n
  .have g':(s:Int)<=(n:Int):=aa;rw[if_pos g]at h0 h1;have hd0:¬((d:Int)=0):=aa;have hd0':¬(d=0):=aa;obtain⟨m,hm⟩:=mnQ (n%d);have e2:(n:Int)%(d:Int)=(m:Int):=by rw[<-hm];simp
   rw[hm]at h0 h1;by_cases h:m=0
   .have h':(m:Int)=0:=aa;rw[if_pos h]at h1;simp(disch:=try exact ae)[jd,e1,g',hd0,hd0',Zx,e2,h',h];exact h1 rfl
   .have h':¬(m:Int)=0:=aa;rw[if_neg h]at h0 h1;have:=ih h0 h1;simp(disch:=try exact ae)[jd,e1,g',hd0,hd0',Zx,e2,h',h];simpa using this
  .have g':¬(s:Int)<=(n:Int):=aa;rw[if_neg g]at h0;simp(disch:=try exact ae)[jd,e1,g'];exact h0 rfl
theorem L8(n:Int):CP Y F.iW [I n] (B (yu n)):=by
 refine CM ?_;by_cases h1:n<2
 .simp[iW,h1]<;>exact gH (by simp[yu];omega)
 by_cases h2:97<n
 .simp[iW,h1,h2]<;>exact gH (by simp[yu];omega)
 obtain⟨m,rfl⟩:∃m:Nat,n=m:=⟨n.toNat,aa⟩;have ha:=acR ⟨m,aa⟩ aN;simp only at ha;simp[iW,h1,h2];refine lo (OS m aa _ 10 2 aa rfl (λe=>?_) (λe=>?_))
 .simp only[kV];exact gH (by rw[<-ha,e])
 .simp only[An,DI];exact gH (by rw[<-ha,e])
def NB(prev:Option Int)(x:Int):Bool:=match prev with|some y=>decide (y<x)|none=>true
def EN:Option Int->LiQ->Int
 |_,[]=>0
 |prev,x::q=>cond (yu x) (cond (NB prev x) (EN (some x) q) 6) 25
theorem Pg(k:KL):∀(q a:LiQ),(a++q).length<1000000000->(EN a.getLast? q=0->k (.exit 1) [] [])->(EN a.getLast? q≠0->k .ret [I (EN a.getLast? q)] []) ->
  lp (py (CX Y) (lst di (a++q)) (lst di (a++q)) (I (a++q).length)) [] [] [I a.length] [] k
 | []=>by
  intro a hN h0 h1;refine aj ?_;simp[py];exact h0 rfl
 | x::q=>by
  intro a hN h0 h1;simp at hN;have ih:=Pg k q (a++[x]) aN;rw[List.getLast?_concat]at ih;refine aj ?_;simp(disch:=try exact ae)[py];refine cd (L8 x) ?_;by_cases hp:yu x=true
  .rcases List.eq_nil_or_concat a with rfl|⟨b,y,rfl⟩
   .simp only[EN,hp,List.getLast?_nil,NB,cond_true]at h0 h1;simp[hp];have:=ih h0 h1;simpa using this
   .rw[List.concat_eq_append]at *;have hny:nth 0 (b++[y]++x::q) b.length=y:=by rw[List.append_assoc];simp
    rw[List.getLast?_concat]at h0 h1;simp only[EN,hp,NB,cond_true]at h0 h1;have eI:∀h:Hp,ixV h 1 (lst di (b++[y]++x::q)) (.d (.int .i64 (b.length:Int)))=some (.dptr ((b++[y]++x::q).map di) b.length):=λh=>uV di _ h rfl ac
    have eL:∀h:Hp,ld1 h (.dptr ((b++[y]++x::q).map di) b.length)=some (.d (di y)):=λh=>by
     have:=VC (b++[y]++x::q) h (j:=b.length) ac;rw[hny]at this;exact this
    have hA:b++[y]++[x]++q=b++[y]++x::q:=ac;have hn:(b++[y]).length=b.length+1:=ac;have hn2:(b++[y]++[x]).length=b.length+1+1:=ac;rw[hA,hn2]at ih;rw[hn]at hN ⊢;generalize b++[y]++x::q=A at *;generalize b.length=m at *;have e':((m+1:Nat):Int)-1=(m:Int):=aa;have hl0:(0:Int)<((m+1:Nat):Int):=aa;obtain⟨m1,hm1⟩:=nmQ (m+1);rw[<-hm1]at e' hl0 ih ⊢
    by_cases hyx:y<x
    .have g1:¬x<=y:=aa;rw[show decide (y<x)=true by simpa using hyx]at h0 h1;simp only[cond_true]at h0 h1;have:=ih h0 h1;simp(disch:=try exact ae)[hp,e',hl0,eI,eL,g1];simpa using this
    .have g1:x<=y:=aa;rw[show decide (y<x)=false by simpa using hyx]at h1;simp only[cond_false]at h1;simp(disch:=try exact ae)[hp,e',hl0,eI,eL,g1];simpa using h1
  .have hpf:yu x=false:=by simpa using hp
   simp only[EN,hpf,cond_false]at h1;simp[hpf];simpa using h1
def pcB(p:LiQ):Int:=if p.length=0 then 13 else if 6<p.length then 4 else EN none p
theorem mA{p:LiQ}(hN:p.length<1000000000):CP Y F.fw [lst di p] (I (pcB p)):=by
 refine Gv ?_;have lp':aX (lst di p)=some (I p.length):=rfl;by_cases h1:(p.length:Int)=0
 .have e:pcB p=13:=by unfold pcB;exact if_pos aa
  have hnil:p=[]:=Yj.1 aa;rw[e];subst hnil;simp[fw]<;>exact ct rfl
 have h1':¬p.length=0:=aa;have hne:¬p=[]:=λe=>h1' (by rw[e];rfl)
 by_cases h2:(6:Int)<p.length
 .have e:pcB p=4:=by unfold pcB;exact(if_neg h1').trans (if_pos aa)
  rw[e];simp[fw,lp',h1,h2,hne]<;>exact ct rfl
 have e:pcB p=EN none p:=by unfold pcB;exact(if_neg h1').trans (if_neg aa)
 unfold fw;rw[e]
 have main:=Pg (exK [((.exit 1),λl6 h=>out (I (EN none p)) (.d (.int .i64 0)) h),(.ret,λl6 h=>out (I (EN none p)) (ge l6 0) h)]) p [] (by simpa using hN) (λg=>by
  simp only[List.getLast?_nil]at g;simp only[kV];exact ct g.symm) (λg=>by
  simp only[List.getLast?_nil]at g ⊢;simp only[An,DI];exact ct rfl)
 simp[lp',h1,h2,hne];exact main
theorem H7(ha:ndg a<1000000)(hb:ndg b<1000000):CP Y F.jY [S (ah a),S (ah b)] (S (ah (a*b))):=by
 refine GN ?_;have la:=nY a;have lb:=nY b;have bo:=DT a b;by_cases h18:(ndg a:Int)+(ndg b:Int)<=18
 .rw[if_pos ⟨aa,aa⟩]at bo
  have hm:a*b<1000000000000000000:=by
   have h1:=dj a;have h2:=dj b;have h3:a*b<10^ndg a*10^ndg b:=Yc h1 h2;rw[<-X8]at h3;have h4:10^(ndg a+ndg b)<=10^18:=Zz af aa;exact Z0 h3 h4
  obtain⟨m,hmm⟩:=mnQ (a*b);have e1:(a:Int)*(b:Int)=(m:Int):=by rw[<-hmm];simp
  rw[hmm]at hm ⊢;simp(disch:=try exact ae)[jY,la,lb,h18];refine cd bo ?_;simp(disch:=try exact ae)[e1];refine cd (Bh (n:=m) aa) ?_;exact fY rfl
 .obtain⟨ca,hca⟩:=nmQ (ndg a/9+1);obtain⟨cb,hcb⟩:=nmQ (ndg b/9+1);have ltA:a<Z^ca:=Z0 (dj a) (by rw[AJ];exact Zz af aa);have ltB:b<Z^cb:=Z0 (dj b) (by rw[AJ];exact Zz af aa)
  have cA:=vj (h:=[nnQ,nnQ,nnQ]) rfl (n:=a) aa hca;have lA:(bL ca a).length=ca:=fe ..;have lB:(bL cb b).length=cb:=fe ..;have cB:=vj (h:=[(1,.data 1 ((bL ca a).map u6) true false),nnQ,nnQ]) rfl (n:=b) aa hcb;simp(disch:=try exact ae)[jY,la,lb,h18];refine oE (iz (e:=0) (b:=.none) cA rfl ?_)
  rw[List.length_map,lA];simp;refine oE (iz (e:=0) (b:=.none) cB rfl ?_);rw[List.length_map,lB];simp;have rA:=J6 (h:=[(1,.data 1 ((bL ca a).map u6) true false),(1,.data 1 ((bL cb b).map u6) true false),nnQ]) (s:=0) (e:=1) (len:=(dig Z a).length) (cap:=ca) (ex:=true) (fr:=false) rfl lA.symm (lS ltA)
  have rB:=J6 (h:=[(1,.data 1 ((bL ca a).map u6) true false),(1,.data 1 ((bL cb b).map u6) true false),nnQ]) (s:=1) (e:=1) (len:=(dig Z b).length) (cap:=cb) (ex:=true) (fr:=false) rfl lB.symm (lS ltB);rw[qh ltA]at rA;rw[qh ltB]at rB;have dA:=lS ltA;have dB:=lS ltB;obtain⟨N,hN⟩:=nmQ ((dig Z a).length+(dig Z b).length)
  have tp:=G7 (h:=[(1,.data 1 ((bL ca a).map u6) true false),(1,.data 1 ((bL cb b).map u6) true false),nnQ]) rfl rA (cZ aA a) rB (cZ aA b) aa aa hN
  have ltM:a*b<Z^N:=by
   rw[hN,X8];have h1:=jE bE (cZ aA a);have h2:=jE bE (cZ aA b);rw[jI aA]at h1 h2;exact Yc h1 h2
  rw[jI aA,jI aA]at tp;have lM:(bL N (a*b)).length=N:=fe ..;refine oE (iz (e:=0) (b:=.none) tp rfl ?_);rw[List.length_map,lM];simp
  have sM:=yj (h:=[(1,.data 1 ((bL ca a).map u6) true false),(1,.data 1 ((bL cb b).map u6) true false),(1,.data 1 ((bL N (a*b)).map u6) true false)]) (s:=2) rfl lM.symm (len:=(dig Z (a*b)).length) (cap:=N) (lS ltM) (Z8 _);rw[qh ltM]at sM;simp only[List.set_cons_zero,List.set_cons_succ]at sM
  have sMs:aH [(1,.data 1 ((bL ca a).map u6) true false),(1,.data 1 ((bL cb b).map u6) true false),(1,.data 1 ((bL N (a*b)).map u6) true false)] [.ref 2 1 0 (dig Z (a*b)).length N N]=some ([pcs (a*b)],[(1,.data 1 ((bL ca a).map u6) true false),(1,.data 1 ((bL cb b).map u6) true false),(1,.data 1 ((bL N (a*b)).map u6) true true)]):=by
   simp only[aH,sM];rfl
  refine cdz sMs (zf (n:=a*b) (by have:=lS ltM;omega)) ?_;rw[show cS (S (ah (a*b)))=true from rfl,if_pos rfl];exact fY rfl
theorem rI{B:Nat}{a b:LnQ}(ha:aI B a)(hb:aI B b):aI B (a++b):=by
 intro x hx;rcases Xx.1 hx with h|h
 .exact ha x h
 .exact hb x h
theorem pT(k:Nat):aI Z (List.replicate k 0):=by intro x hx;rw[List.eq_of_mem_replicate hx];exact bE
theorem uz(k:Nat)(l:LnQ):val Z (l++List.replicate k 0)=val Z l:=by
 rw[val_append]
 have:val Z (List.replicate k 0)=0:=by
  induction k with
  |zero=>rfl
  |succ k ih=>rw[List.replicate_succ];exact(congrArg (λx=>0+Z*x) ih).trans (by rw[Nat.mul_zero])
 rw[this,Nat.mul_zero,Nat.add_zero]
theorem ad6{ce x B:Nat}(hB:2<=B)(h3:x+q*B*ce=a+b)(l1:a<q)(l2:b<q):x=a+b:=by
 rcases Zf ce with h|h
 .subst h;rw[Nat.mul_zero,Nat.add_zero]at h3;exact h3
 .have h1:=Z2 (q*B) h;have h2:=Z2 q hB;omega
theorem YD{A D:LnQ}{n:Nat}(hA:A.length=n)(hD:D.length=n)(sA:aI Z A)(sD:aI Z D)(va:val Z A=a)(vb:val Z D=b):
  val Z (qW 0 D (D.length+1) 0 0 (A++[0]))=a+b∧aI Z (qW 0 D (D.length+1) 0 0 (A++[0]))∧(qW 0 D (D.length+1) 0 0 (A++[0])).length=n+1:=by
 have sA0:aI Z (A++[0]):=rI sA (pT 1);obtain⟨h1,h2,ce,h3⟩:=F8 (at_:=0) sD (D.length+1) 0 0 (A++[0]) aN aa sA0;have e1:D.drop (0+(D.length+1))=[]:=Zb aa;have e2:val Z (A++[0])=a:=by rw[show([0]:LnQ)=List.replicate 1 0 from rfl,uz,va]
 have e0:val Z ([]:LnQ)=0:=rfl;rw[e1,e2,e0]at h3;have l1:=jE bE sA;have l2:=jE bE sD;rw[va,hA]at l1;rw[vb,hD]at l2;have hl:(qW 0 D (D.length+1) 0 0 (A++[0])).length=n+1:=by rw[h1.1];simp[hA]
 refine⟨?_,h2,hl⟩;rw[hD]at h3 ⊢;have h2Z:=aA;generalize val Z (qW 0 D (n+1) 0 0 (A++[0]))=x at *;simp only[Yu,vb,Nat.add_zero,Zk,Nat.pow_zero,Wr,Nat.pow_succ]at h3;exact ad6 h2Z h3 l1 l2
theorem ZR(k:Nat):gK k [D.int .u64 0]=(List.replicate k 0).map u6:=by
 induction k with
 |zero=>rfl
 |succ k ih=>rw[List.replicate_succ,Zv,<-ih];rfl
theorem NQ(a w:Nat)(hw:w<=18):CP Y F.bG [S (ah a),I w] (if ndg a<=w then .tup [I a,B true]else .tup [I 0,B false]):=by
 refine rL ?_;have la:=nY a;by_cases h:(w:Int)<ndg a
 .rw[if_neg aa];simp[bG,la,h];exact cG rfl rfl
 .rw[if_pos aa];have ap:=J0 (n:=a) (lN a) aa (dj a);have en:biF .eql (.d (.pl .nilIface)) (.d (.pl .nilIface))=some (.d (.bool true)):=rfl;simp[bG,la,h];refine cd (args:=[S (ah a)]) ap ?_;simp[en];exact cG rfl rfl
theorem tT(a:Nat):CP Y F.aU [S (ah a)] (.tup [B false,S (ah a)]):=by have h:=wm (ah a);have e1:rdN (ah a)=false:=decide_eq_false (sj a);have e2:rdT (ah a)=ah a:=if_neg (sj a);rw[e1,e2]at h;exact h
theorem YF{n:Nat}(h1:1<=w)(h2:w<=17)(hn:n<10^w):CP Y F.gU [S (45::dN n w)] (.tup [I (-(n:Int)),.d (.pl .nilIface)]):=by
 refine uh ?_;have hl:=FS w n;have hlt:=DK w n;have hh:=Fs w n hn;have he:=WR n w;have hD:=JM w n;have hn17:n<10^17:=Z0 hn (Zz af h2);simp only[Nat.reducePow]at hn17;generalize dN n w=L at *;generalize BS n w=l at *;have hlen:L.length=w:=by rw[hD];simpa using hl
 have hi:ixS (S (45::L)) (.d (.int .i64 0))=some (.d (.int .u8 45)):=by simp[ixS]
 have hlw:nH (S (45::L))=some (I (w+1:Nat)):=by rw[Jr];simp[hlen]
 have hsl:slS (S (45::L)) (some (.d (.int .i64 1))) none=some (S L):=by
  have:(1:Int)<=(L.length:Int)+1:=aa;simp[slS,boV,this]
 have hl2:nH (S L)=some (I w):=by rw[Jr,hlen]
 simp(disch:=try exact ae)[gU,hlw,hi]
 have hcv:∀(k:kkQ),cvB (S L) [] k=k (lst f8 l) []:=by
  intro k
  have:V.d (.sl L.length (L.map λb=>.int .u8 b.toNat))=lst f8 l:=by
   unfold lst;rw[hlen,hl,<-he];rfl
  simp only[cvB,this]
 refine gI (l:=[S L]) (h:=[]) (λq=>?_) ?_
 .simp(disch:=try exact ae)[hsl,hl2]
 show cvB (S L) [] _
 rw[hcv];simp;refine lo (J1 _ _ rfl l [] 0 aN hlt ac ?_);simp[hi,hh];refine gI (l:=[I (-(n:Int))]) (h:=[]) (λq=>?_) ?_
 .simp(disch:=try exact ae)[hh]
 exact⟨[],by simp[bH,aH,norm]⟩
theorem YE{n:Nat}(h1:1<=w)(h2:w<=17)(hn:n<10^w):CP Y F.strconv_Atoi [S (45::dN n w)] (.tup [I (-(n:Int)),.d (.pl .nilIface)]):=by refine wj ?_;simp[strconv_Atoi];refine cd (YF h1 h2 hn) ?_;simp[I9];exact⟨[],by simp[bH,aH,norm]⟩
def sdg(z:Int):Nat:=ndg z.natAbs+if z<0 then 1 else 0
theorem LX(z:Int):nH (S (itoa z))=some (I (sdg z)):=by
 rw[Jr];unfold itoa sdg;split
 .simp[ah,bf]
 .simp[ah,bf]
theorem MP(h:sdg z<=18):CP Y F.strconv_Atoi [S (itoa z)] (.tup [I z,.d (.pl .nilIface)]):=by
 unfold sdg at h;by_cases hz:z<0
 .rw[if_pos hz]at h;have:=YE (n:=z.natAbs) (w:=ndg z.natAbs) (lN _) aa (dj _);rw[show(-(z.natAbs:Int))=z by omega]at this;unfold itoa;rw[if_pos hz];exact this
 .rw[if_neg hz]at h;have:=J0 (n:=z.natAbs) (w:=ndg z.natAbs) (lN _) aa (dj _);rw[show((z.natAbs:Nat):Int)=z by omega]at this;unfold itoa;rw[if_neg hz];exact this
theorem oV(z:Int)(w:Nat)(hw:w<=18):CP Y F.bG [S (itoa z),I w] (if sdg z<=w then .tup [I z,B true]else .tup [I 0,B false]):=by
 refine rL ?_;have la:=LX z;by_cases h:(w:Int)<sdg z
 .rw[if_neg aa];simp[bG,la,h];exact cG rfl rfl
 .rw[if_pos aa];have ap:=MP (z:=z) aa;have en:biF .eql (.d (.pl .nilIface)) (.d (.pl .nilIface))=some (.d (.bool true)):=rfl;simp[bG,la,h];refine cd (args:=[S (itoa z)]) ap ?_;simp[en];exact cG rfl rfl
theorem E6(z:Int):CP Y F.f9 [S (itoa z)] (if sdg z<=9 then .tup [I z,B true]else .tup [I 0,B false]):=by
 refine Ae ?_;have la:=LX z;by_cases h:(9:Int)<sdg z
 .rw[if_neg aa];simp[f9,la,h];exact cG rfl rfl
 .rw[if_pos aa];have ap:=MP (z:=z) aa;have en:biF .eql (.d (.pl .nilIface)) (.d (.pl .nilIface))=some (.d (.bool true)):=rfl;simp[f9,la,h];refine cd (args:=[S (itoa z)]) ap ?_;simp[en];exact cG rfl rfl
theorem zV(z:Int):rdN (itoa z)=decide (z<0):=by
 unfold itoa;split
 .rename_i h;simp[rdN,h]
 .rename_i h;have:=sj z.natAbs;unfold rdN;rw[decide_eq_false this,decide_eq_false h]
theorem o6(z:Int):CP Y F.aU [S (itoa z)] (.tup [B (decide (z<0)),S (ah z.natAbs)]):=by have h:=wm (itoa z);rw[zV,ug]at h;exact h
theorem qd(h:ah a=ah b):a=b:=by
 have:=congrArg (fG 0) h
 rwa [dX,dX]at this
theorem wN{a b:Int}(h:itoa a=itoa b):a=b:=by
 have h1:=congrArg rdT h;have h2:=congrArg rdN h;rw[ug,ug]at h1;rw[zV,zV]at h2;have h3:=qd h1;have h4:(a<0)↔(b<0):=by simpa using h2
 omega
theorem kf{n:Nat}:ah n=[48]↔n=0:=by
 constructor
 .intro h;exact qd (a:=n) (b:=0) (h.trans eO.symm)
 .rintro rfl;exact eO
def sg(b:Bool)(n:Nat):Int:=if b then -(n:Int)else n
theorem gS(b:Bool){n:Nat}(hn9:ndg n<1000000):CP Y F.cO [B b,S (ah n)] (S (itoa (sg b n))):=by
 refine Iw ?_;cases b with
 | false=>
  have:itoa (sg false n)=ah n:=by simp[sg,itoa]
  rw[this];simp[cO]<;>exact fY rfl
 | true=>
  by_cases hn:n=0
  .subst hn;have e0:itoa (sg true 0)=[48]:=eO;simp[cO,eO]<;>exact fY e0.symm
  .have h0:¬ah n=[48]:=λh=>hn (kf.1 h)
   have:itoa (sg true n)=45::ah n:=by
    unfold itoa sg;rw[if_pos rfl,if_pos aa];simp
   rw[this];have hl:(ah n).length=ndg n:=bf _ _;have ha:biS .add (.d (.str [45])) (S (ah n))=some (S (45::ah n)):=abk [45] (ah n) (by rw[hl];simp;omega);simp[cO,h0,ha]<;>exact fY rfl
theorem zH(hz:ndg z.natAbs<1000000):CP Y F.mg [S (itoa z)] (S (itoa (-z))):=by
 refine Kg ?_;simp[mg];refine cd (o6 z) ?_;simp;have:=gS (!decide (z<0)) hz
 have e:sg (!decide (z<0)) z.natAbs = -z:=by
  unfold sg;by_cases h:z<0
  .simp[h];omega
  .simp[h];omega
 rw[e]at this;refine cd this ?_;exact fY rfl
def cm(n:Nat):Nat:=(dig Z n).length
theorem DN{n:Nat}:cm n=ndg n/9+1∨cm n+1=ndg n/9+1:=by
 unfold cm;have h1:(dig Z n).length<=ndg n/9+1:=(pF aA).2 (Z0 (dj n) (by rw[AJ];exact Zz af aa))
 have h2:ndg n<=9*(dig Z n).length∨n=0:=by
  rcases Zf n with h|h
  .omega
  .left;have h3:n<Z^(dig Z n).length:=(pF aA).1 (Z8 _);rw[AJ]at h3;refine fM h3 ?_;rcases Zf (dig Z n).length with h4|h4
   .grind
   .omega
 rcases h2 with h2|rfl
 .omega
 .have:ndg 0=1:=aR;omega
theorem Jj(n:Nat):n<Z^cm n:=(pF aA).1 (Z8 _)
theorem Ag(n:Nat):bL (cm n) n=dig Z n:=by
 have:=qh (Jj n)
 rwa [Z3 (by rw[fe];exact Z8 _)]at this
theorem Af{n:Nat}(h:cm n+1=c):bL c n=dig Z n++[0]:=by rw[<-h,BK (Jj n),Ag]
theorem QA{s t n c:Nat}{h:Hp}{q:kkQ}{u:PU q}(hst:s≠t)(hg:h[s]?=some (1,.data 1 ((bL c n).map u6) true false))(ht:h[t]?=some nnQ)(hL:cm n=c∨cm n+1=c)(hc:c<1000000)
  (hq:∀s' e' ex h',h'.length=h.length->h'[s']?=some (e',.data 1 ((dig Z n++[0]).map u6) ex false)->(s'=s∨s'=t)->(∀j,j≠s'->h'[j]?=h[j]?)->q (.ref s' e' 0 (cm n+1) (cm n+1) (cm n+1)) h') :
  rh (apV false t 1 8 (.ref s 1 0 (cm n) c c) (.d (.sl 1 [u6 0])) h) q u:=by
 have hl:=bj hg;have hl2:=bj ht;rcases hL with hL|hL
 .subst hL;rw[Ag]at hg;refine Qz hg ht rfl aa ?_;exact hq t 1 false _ ac (by grind) (.inr rfl) (λj hj=>by rw[List.getElem?_set_ne (Ne.symm hj)])
 .rw[Af hL]at hg;have hlen:(dig Z n).length=cm n:=rfl;refine Ox (x:=0) hg (by grind) aa ?_;rw[<-hL];refine hq s 1 true _ ac ?_ (.inl rfl) (λj hj=>by rw[List.getElem?_set_ne (Ne.symm hj)])
  have e1:(dig Z n++[0]).take (cm n)++[0]++(dig Z n++[0]).drop (cm n+1)=dig Z n++[0]:=by
   rw[<-hlen,W4,Zb ac,Zm]
  grind
theorem Qy{s t n c k:Nat}{h:Hp}{q:kkQ}{u:PU q}(hst:s≠t)(hg:h[s]?=some (1,.data 1 ((bL c n).map u6) true false))(ht:h[t]?=some nnQ)(hL:cm n=c∨cm n+1=c)(hc:c+k<1000000)
  (hq:∀t1 s' h',h'.length=h.length->(s'=s∨s'=t)->(∀j,j≠s'->h'[j]?=h[j]?)->(∃(e':Nat)(l:LnQ)(ex:Bool),h'[s']?=some (e',.data 1 (l.map u6) ex false)) ->
   (∀P:Hp->Prop,(∀g,P g->g[s']?=h'[s']?)->RdS P t1 (dig Z n++List.replicate k 0))->q t1 h') :
  rh (apZ false t 1 8 [.int .u64 0] (.ref s 1 0 (cm n) c c) (I (k:Nat)) h) q u:=by
 have hl:=bj hg;have hl2:=bj ht;have hlen:(dig Z n).length=cm n:=rfl;unfold rh apZ;simp only;rw[if_pos ⟨aa,aa⟩];unfold apC;simp only[Int.toNat_natCast]
 have rdOf:∀{s' e' len cap tot:Nat}{l:LnQ}{ex:Bool}{h':Hp},h'[s']?=some (e',.data 1 (l.map u6) ex false)->tot=l.length->len<=tot->l.take len=dig Z n++List.replicate k 0 ->
   ∀P:Hp->Prop,(∀g,P g->g[s']?=h'[s']?)->RdS P (.ref s' e' 0 len cap tot) (dig Z n++List.replicate k 0):=by
  intro s' e' len cap tot l ex h' hg' htot hle htk P hP;refine⟨?_,λg i hg2 hi=>?_⟩
  .have:(dig Z n++List.replicate k 0).length=len:=by rw[<-htk,Zr];omega
   simp_all
  .have:=(J6 (h:=g) (cap:=cap) ((hP g hg2).trans hg') htot hle).2 [] i (by grind)
   grind
 by_cases hk:k=0
 .rw[if_pos hk,if_pos aa];subst hk;refine hq _ s h rfl (.inl rfl) (λ_ _=>rfl) ⟨_,_,_,hg⟩ ?_;refine rdOf hg (fe ..).symm aa ?_;rw[List.replicate_zero,Zm];rcases hL with hL|hL
  .rw[<-hL,Ag,<-hlen,Xr]
  .rw[Af hL,<-hlen,W4]
 .rw[if_neg hk,ZR];simp only[dM hg];rw[if_pos ⟨trivial,by simp[fe],aa,by simp[fe],ac⟩];by_cases hin:cm n+k<=c
  .rw[if_pos hin];have hk1:k=1:=aa;subst hk1;have hL2:cm n+1=c:=aa;simp only[Bool.or_self,Zh,if_false,bK]
   have e1:((bL c n).map u6).take (0+cm n*1)++(List.replicate 1 0).map u6++((bL c n).map u6).drop (0+(cm n+1)*1)=(dig Z n++[0]).map u6:=by
    rw[Af hL2,Zk,Zk,Ya,Ya,<-hlen];simp[<-List.map_take,<-List.map_drop]
   rw[e1];refine hq _ s _ ac (.inl rfl) (λj hj=>by rw[List.getElem?_set_ne (Ne.symm hj)]) ⟨1,dig Z n++[0],true,by grind⟩ ?_;refine rdOf (l:=dig Z n++[0]) (ex:=true) (by grind) (by grind) aa ?_
   grind
  .rw[if_neg hin,if_pos aa];simp only[if_true,new,ht]
   have e1:(((bL c n).map u6).drop 0).take (cm n*1)++(List.replicate k 0).map u6=(dig Z n++List.replicate k 0).map u6:=by
    rw[Yu,Ya,<-List.map_take,Yw];congr 2;rcases hL with hL|hL
    .rw[<-hL,Ag,<-hlen,Xr]
    .rw[Af hL,<-hlen,W4]
   rw[e1];have e2:cm n*1+((List.replicate k 0).map u6).length=cm n+k:=ac;rw[e2];refine hq _ t _ ac (.inr rfl) (λj hj=>by rw[List.getElem?_set_ne (Ne.symm hj)]) ⟨1,dig Z n++List.replicate k 0,false,by grind⟩ ?_;refine rdOf (l:=dig Z n++List.replicate k 0) (ex:=false) (by grind) (by grind) aa ?_
   grind[Z3]
def NV(h:Hp):Prop:=∀(j:Nat)(x:Nat×Bk),h[j]?=some x->∀b,aF b x.2=true
theorem NV.all{h:Hp}(hn:NV h)(b:Nat):(h.all λx=>aF b x.2)=true:=by rw[Z1];intro x hx;obtain⟨j,hj⟩:=List.mem_iff_getElem?.1 hx;exact hn j x hj b
theorem NV.upd{h h':Hp}(hn:NV h){s e:Nat}{l:LnQ}{ex fr:Bool}(hs:h'[s]?=some (e,.data 1 (l.map u6) ex fr))(ho:∀j,j≠s->h'[j]?=h[j]?):NV h':=by
 intro j x hj b;by_cases e1:j=s
 .subst e1;rw[hs]at hj;cases hj;rfl
 .rw[ho j e1]at hj;exact hn j x hj b
theorem set_same{α:Type}{l:List α}{i:Nat}{x:α}(h:l[i]?=some x):l.set i x=l:=by
 apply Yk;intro j;by_cases e:i=j
 .grind
 .rw[List.getElem?_set_ne e]
theorem OY{h:Hp}{s e:Nat}{ex:Bool}{l:LnQ}(hs:h[s]?=some (e,.data 1 (l.map u6) ex false)):sP h s e ex l=h:=set_same hs
theorem Hh{h:Hp}{s e n m:Nat}{ex:Bool}{L:LnQ}{w:V}(hn:NV h)(hlt:s<h.length)(h3:L.length=n)(b1:val Z L=m)(b2:aI Z L)(hm:n<1000000)(kk:V->V)(hkk:∀h':Hp,out w (kk (S (ah m))) h'){sl:Nat} :
  cai (CX Y).i (sP h s e ex L) (V.fn F.aB [] []) [.ref s e 0 n n n] sl λv22 h=>
    cal (CX Y).p h (V.fn F.aW [] []) [v22] λv23 h=>out w (kk v23) h:=by
 have nv:NV (sP h s e ex L):=hn.upd (rY hlt) (λj hj=>by grind[sP]);have tr:=tR (h:=sP h s e ex L) (nv.all _) (s:=s) (e:=e) (ex:=ex) (fr:=false) (rY hlt) h3.symm (len:=n) (cap:=n) (Z8 _) aa (Z8 _);have ht:iJ (L.take n)=dig Z m:=by rw[Z3 aa,<-b1,rC aA b2]
 rw[ht]at tr;refine fT tr ?_ ac;have lt:m<Z^n:=by rw[<-b1,<-h3];exact jE bE b2
 have hl:(dig Z m).length<=n:=(pF aA).2 lt;have sM:=yj (h:=sP h s e ex L) (s:=s) (e:=e) (ex:=ex) (fr:=false) (rY hlt) h3.symm (len:=(dig Z m).length) (cap:=n) hl (Z8 _)
 have ht2:L.take (dig Z m).length=dig Z m:=by
  have e:iJ L=dig Z m:=by rw[<-ht,Z3 aa]
  obtain⟨z,hz⟩:=G6 L;rw[e]at hz;rw[hz];exact W4 ..
 rw[ht2]at sM;refine cdz (u:=.mk) (by simp only[aH,sM];rfl) (zf (n:=m) aa) ?_
 grind
theorem yP(ha:ndg a<1000000)(hb:ndg b<1000000):CP Y F.gj [S (ah a),S (ah b)] (S (ah (a+b))):=by
 refine GR ?_;have bo:=DT a b;by_cases h18:ndg a<=18∧ndg b<=18
 .rw[if_pos h18]at bo;have g3:10^ndg a<=10^18:=Zz af h18.1;have g4:10^ndg b<=10^18:=Zz af h18.2;have b1:a<1000000000000000000:=Z0 (dj a) g3;have b2:b<1000000000000000000:=Z0 (dj b) g4;simp[gj];refine cd bo ?_;obtain⟨m,hm⟩:=mnQ (a+b);have em:(a:Int)+(b:Int)=(m:Int):=aa
  rw[hm];simp(disch:=try exact ae)[em];refine cd (Bh (n:=m) aa) ?_;exact fY rfl
 rw[if_neg h18]at bo;obtain⟨ca,hca⟩:=nmQ (ndg a/9+1);obtain⟨cb,hcb⟩:=nmQ (ndg b/9+1);have cA:=vj (h:=[nnQ,nnQ,nnQ,nnQ,nnQ,nnQ]) rfl (n:=a) aa hca;have cB:=vj (h:=[(1,.data 1 ((bL ca a).map u6) true false),nnQ,nnQ,nnQ,nnQ,nnQ]) rfl (n:=b) aa hcb
 have LA:cm a=ca∨cm a+1=ca:=by rw[hca];exact DN
 have LB:cm b=cb∨cm b+1=cb:=by rw[hcb];exact DN
 have hli:∀h:Hp,du 1 [D.int .u64 0] [(0,V.d (D.int .u64 0))] h=some ([u6 0],h):=λh=>by rfl
 have main:∀(p q cp cq sp sq:Nat)(h:Hp),p+q=a+b->cm q<=cm p->cp<200000->cq<200000->(cm p=cp∨cm p+1=cp)->(cm q=cq∨cm q+1=cq)->sp<2->sq<2->sp≠sq->h.length=6->NV h ->
   h[sp]?=some (1,.data 1 ((bL cp p).map u6) true false)->h[sq]?=some (1,.data 1 ((bL cq q).map u6) true false)->h[2]?=some nnQ->h[3]?=some nnQ ->
   apV false 2 1 8 (.ref sp 1 0 (cm p) cp cp) (.d (.sl 1 [u6 0])) h λv15 h=>
   bnd (aX v15) λv16=>
   bnd (biI .sub v16 (.d (.int .i64 1))) λv17=>
   bnd (aX (.ref sq 1 0 (cm q) cq cq)) λv18=>
   bnd (biI .sub v17 v18) λv19=>
   apZ false 3 1 8 [.int .u64 0] (.ref sq 1 0 (cm q) cq cq) v19 h λv20 h=>
   cai (CX Y).i h (.fn F.cM [] []) [v15,v20,(.d (.int .i64 0))] 4 λv21 h=>
   cai (CX Y).i h (.fn F.aB [] []) [v15] 5 λv22 h=>
   cal (CX Y).p h (.fn F.aW [] []) [v22] λv23 h=>
   out (S (ah (a+b))) v23 h:=by
  intro p q cp cq sp sq h hpq hle hcp hcq LP LQ hsp hsq hne hlen hnv gp gq g2 g3;refine QA (u:=.mk) (t:=2) aa gp g2 LP aa λs' e' ex h1 l1 gs' hs' o1=>?_
  obtain⟨k,hk⟩:=nmQ (cm p-cm q);have e1:(cm p:Int)+1-1-(cm q:Int)=(k:Int):=aa;have hr1:aX (.ref s' e' 0 (cm p+1) (cm p+1) (cm p+1))=some (I (cm p+1:Nat)):=rfl;have hr2:aX (.ref sq 1 0 (cm q) cq cq)=some (I (cm q:Nat)):=rfl
  have hb1:biI .sub (I ((cm p+1:Nat):Int)) (.d (.int .i64 1))=some (I (cm p)):=by
   rw[xy,show(((cm p+1:Nat):Int)-1)=(cm p:Int) by omega,w7 aa aa]
  have hb2:biI .sub (I (cm p:Int)) (I (cm q:Int))=some (I k):=by
   rw[xy,show((cm p:Int)-(cm q:Int))=(k:Int) by omega,w7 aa aa]
  simp only[hr1,hr2,hb1,hb2,bnd];have nv1:=hnv.upd gs' o1;have hqs:sq≠s':=by rcases hs' with rfl|rfl<;>omega
  have h3s:3≠s':=by rcases hs' with rfl|rfl<;>omega
  refine Qy (u:=.mk) (t:=3) aa ((o1 sq hqs).trans gq) ((o1 3 h3s).trans g3) LQ aa λt1 s2 h2 l2 hs2 o2 ⟨e2,l2',ex2,g2'⟩ rd=>?_
  have nv2:=nv1.upd g2' o2;have hss:s'≠s2:=by rcases hs2 with rfl|rfl<;>omega
  have gs2:h2[s']?=some (e',.data 1 ((dig Z p++[0]).map u6) ex false):=(o2 s' hss).trans gs';have lt2:s'<h2.length:=bj gs2;have hdl:(dig Z q++List.replicate k 0).length=cm p:=by simp only[List.length_append,Zd];show cm q+k=_;omega
  have sD:aI Z (dig Z q++List.replicate k 0):=rI (cZ aA q) (pT _);have vD:val Z (dig Z q++List.replicate k 0)=q:=by rw[uz,jI aA]
  have rdS:=rd (λt=>∃l,t=sP h2 s' e' ex l) (λg ⟨l,hg⟩=>by grind[sP]);obtain⟨c1,c2,c3⟩:=YD (n:=cm p) rfl hdl (cZ aA p) sD (jI aA p) vD;have bk:=MO (at_:=0) (tot:=cm p+1) (l:=dig Z p++[0]) (ex:=ex) (e:=e') (s:=s') (h:=h2) (nv2.all _) lt2 rdS sD aa aa (by simp[cm]) (rI (cZ aA p) (pT 1))
  rw[OY gs2]at bk;refine fT bk ?_ ac;rw[hpq]at c1;exact Hh nv2 lt2 c3 c1 c2 aa (λv=>v) (λ_=>fY rfl)
 simp[gj];refine cd bo ?_;simp;refine oE (iz (e:=0) (b:=.none) cA rfl ?_);rw[List.length_map,fe];simp;refine oE (iz (e:=0) (b:=.none) cB rfl ?_);rw[List.length_map,fe]
 have nv:NV [(1,.data 1 ((bL ca a).map u6) true false),(1,.data 1 ((bL cb b).map u6) true false),nnQ,nnQ,nnQ,nnQ]:=by
  intro j x hj b';rcases List.mem_iff_getElem?.2 ⟨j,hj⟩with hm;simp only[Zu,Y1,or_false]at hm;rcases hm with rfl|rfl|rfl|rfl|rfl|rfl<;>rfl
 by_cases g1:((dig Z a).length:Int)<((dig Z b).length:Int)
 .simp[g1];refine bM ?_;simp[hli];exact main b a cb ca 1 0 _ aa (by grind[cm]) aa aa LB LA aa aa aa rfl nv rfl rfl rfl rfl
 .simp[g1];refine bM ?_;simp[hli];exact main a b ca cb 0 1 _ rfl (by grind[cm]) aa aa LA LB aa aa aa rfl nv rfl rfl rfl rfl
theorem HR:∀(s t:LuQ)(c:Nat),s.length=t.length->s.all qf=true->t.all qf=true->Op.bytesLess s t=decide (fG c s<fG c t)
 |[],[],c,_,_,_=>by simp[Op.bytesLess]
 | x::s,y::t,c,hl,hs,ht=>by
  simp only[List.length_cons,Nat.add_right_cancel_iff]at hl;simp only[List.all_cons,Z7]at hs ht;have hx:=mb.1 hs.1;have hy:=mb.1 ht.1
  have key:∀(s t:LuQ)(u v:Nat),s.length=t.length->s.all qf=true->u<v->fG u s<fG v t:=by
   intro s t u v hl hs h;have h1:=ui s u hs;have h2:=Ft t v;rw[<-hl]at h2;have h3:(u+1)*10^s.length<=v*10^s.length:=Zs _ h;omega
  rw[ko,ko];have ey:y<x↔y.toNat<x.toNat:=UInt8.lt_iff_toNat_lt;rcases Nat.lt_trichotomy x.toNat y.toNat with h|h|h
  .have:=key s t (c*10+(x.toNat-48)) (c*10+(y.toNat-48)) hl hs.2 aa
   grind[Op.bytesLess]
  .have e:x=y:=UInt8.toNat_inj.1 h;subst e;rw[<-HR s t _ hl hs.2 ht.2];simp[Op.bytesLess]
  .have:=key t s (c*10+(y.toNat-48)) (c*10+(x.toNat-48)) hl.symm ht.2 aa;rw[decide_eq_false aa]
   grind[Op.bytesLess]
theorem HW(n:Nat):(ah n).all qf=true:=wR _ _
theorem RI(h:ndg a=ndg b):Op.bytesLess (ah a) (ah b)=decide (a<b):=by rw[HR (ah a) (ah b) 0 (by rw[ah,ah,bf,bf,h]) (HW _) (HW _),dX,dX]
theorem U3(h:ndg a<ndg b):a<b:=by
 rcases Zi a b with g|g
 .exact g
 .have:=eW g;omega
theorem JP(h:a<b):Big.cmp a b = -1:=if_pos h
theorem JR(h:b<a):Big.cmp a b=1:=(if_neg aa).trans (if_pos h)
theorem cmp_eq:Big.cmp a a=0:=(if_neg aa).trans (if_neg aa)
theorem xx(ha:ndg a<1000000)(hb:ndg b<1000000):CP Y F.cx [S (ah a),S (ah b)] (I (Big.cmp a b)):=by
 refine Av ?_;have la:=nY a;have lb:=nY b;by_cases hl:ndg a=ndg b
 .have h1:=RI hl;have e1:biS .lss (S (ah a)) (S (ah b))=some (.d (.bool (decide (a<b)))):=by rw[<-h1];rfl
  have e2:biS .gtr (S (ah a)) (S (ah b))=some (.d (.bool (decide (b<a)))):=by
   have h3:(ah a == ah b)=decide (a=b):=by
    rw[Yn];simp only[beq_iff_eq,decide_eq_true_eq];exact⟨qd,λh=>by rw[h]⟩
   have h4:decide (b<a) = !(decide (a<b)||decide (a=b)):=by
    rw[Yn];simp only[decide_eq_true_eq,Y5,Bool.or_eq_false_iff,decide_eq_false_iff_not];omega
   rw[h4,<-h1,<-h3];rfl
  rw[hl]at la;by_cases g1:a<b
  .simp[cx,la,lb,e1,e2,g1]
   grind[ct,JP]
  .by_cases g2:b<a
   .simp[cx,la,lb,e1,e2,g1,g2]
    grind[ct,JR]
   .simp[cx,la,lb,e1,e2,g1,g2]
    grind[ct,cmp_eq]
 .have hne:¬((ndg a:Int)=(ndg b:Int)):=aa;rcases Zi (ndg a) (ndg b)with h|h
  .have h3:=U3 h;have m1:mxI true [.d (.int .i64 (-1)),I ((ndg a:Int)-ndg b)]=some (I (-1)):=by simp[mxI,mx2];omega
   have m2:mxI false [.d (.int .i64 1),I (-1)]=some (I (-1)):=rfl;simp(disch:=try exact ae)[cx,la,lb,hne,m1,m2]
   grind[ct,JP]
  .have h3:b<a:=U3 aa;have m1:mxI true [.d (.int .i64 (-1)),I ((ndg a:Int)-ndg b)]=some (I ((ndg a:Int)-ndg b)):=by simp[mxI,mx2];omega
   have m2:mxI false [.d (.int .i64 1),I ((ndg a:Int)-ndg b)]=some (I 1):=by simp[mxI,mx2];omega
   simp(disch:=try exact ae)[cx,la,lb,hne,m1,m2]
   grind[ct,JR]
theorem Lm:1<Z:=aA
theorem S6{A D:LnQ}{n:Nat}(hA:A.length=n)(hD:D.length=n)(sA:aI Z A)(sD:aI Z D)(va:val Z A=a)(vb:val Z D=b)(hba:b<=a):
  val Z (iU 1 0 D (D.length+1) 0 0 0 (A++[0])).2=a-b∧aI Z (iU 1 0 D (D.length+1) 0 0 0 (A++[0])).2∧(iU 1 0 D (D.length+1) 0 0 0 (A++[0])).2.length=n+1:=by
 have sA0:aI Z (A++[0]):=rI sA (pT 1);have l2:=jE bE sD;rw[vb,hD]at l2
 obtain ⟨h1,h2,h3,h4⟩:=Ed (g:=1) (at_:=0) Lm sD (D.length+1) 0 0 0 (A++[0]) aN bE (Zc _) sA0 (by
  rw[Yu,vb,hD,Wr,Zk,Nat.pow_succ];exact Z0 l2 (Za _ bE))
 have e2:val Z (A++[0])=a:=by rw[show([0]:LnQ)=List.replicate 1 0 from rfl,uz,va]
 have hl:(iU 1 0 D (D.length+1) 0 0 0 (A++[0])).2.length=n+1:=by rw[h1.1];simp[hA]
 refine⟨?_,h2,hl⟩;have h5:=jE bE h2;rw[hl]at h5;rw[e2,Yu,vb,hD]at h4;rw[hD]at h3 h5 ⊢;generalize val Z (iU 1 0 D (n+1) 0 0 0 (A++[0])).2=x at *;generalize(iU 1 0 D (n+1) 0 0 0 (A++[0])).1=c at *;simp only[Zk,Nat.add_zero,Nat.pow_zero,Wr]at h4;rcases Zf c with h|h
 .subst h;omega
 .have:c=1:=aa;subst this;rw[Ya]at h4;omega
theorem xw(hba:b<=a)(ha:ndg a<1000000):CP Y F.gV [S (ah a),S (ah b)] (.tup [S (ah (a-b)),I 0]):=by
 have hb:ndg b<1000000:=Y8 (eW hba) ha;refine GL ?_;have bo:=DT a b;have dc:=xx ha hb
 have hc:¬Big.cmp a b<0:=by
  unfold Big.cmp;rw[if_neg aa];split<;>omega
 have hc2:(-1:Int)<=Big.cmp a b∧Big.cmp a b<=1:=by
  unfold Big.cmp;split
  .omega
  .split<;>omega
 generalize Big.cmp a b=cc at *;simp[gV];refine cd dc ?_;simp[hc];by_cases h18:ndg a<=18∧ndg b<=18
 .rw[if_pos h18]at bo;have g3:10^ndg a<=10^18:=Zz af h18.1;have b1:a<1000000000000000000:=Z0 (dj a) g3;refine cd bo ?_;obtain⟨m,hm⟩:=mnQ (a-b);have em:(a:Int)-(b:Int)=(m:Int):=aa;rw[hm];simp(disch:=try exact ae)[em];refine cd (Bh (n:=m) aa) ?_;exact cG rfl rfl
 rw[if_neg h18]at bo;obtain⟨ca,hca⟩:=nmQ (ndg a/9+1);obtain⟨cb,hcb⟩:=nmQ (ndg b/9+1);have cA:=vj (h:=[nnQ,nnQ,nnQ,nnQ,nnQ,nnQ,nnQ]) rfl (n:=a) aa hca;have LA:cm a=ca∨cm a+1=ca:=by rw[hca];exact DN
 have LB:cm b=cb∨cm b+1=cb:=by rw[hcb];exact DN
 have hle:cm b<=cm a:=(pF aA).2 (Y8 hba (Jj a));have hli:∀h:Hp,du 1 [D.int .u64 0] [(0,V.d (D.int .u64 0))] h=some ([u6 0],h):=λh=>by simp[du,gK,jG,toD,u6]
 refine cd bo ?_;simp;refine oE (iz (e:=0) (b:=.none) cA rfl ?_);rw[List.length_map,fe];simp[hli]
 have nv:NV [(1,.data 1 ((bL ca a).map u6) true false),nnQ,nnQ,nnQ,nnQ,nnQ,nnQ]:=by
  intro j x hj b';rcases List.mem_iff_getElem?.2 ⟨j,hj⟩with hm;simp only[Zu,Y1,or_false]at hm;rcases hm with rfl|rfl|rfl|rfl|rfl|rfl|rfl<;>rfl
 refine QA (s:=0) (t:=1) (n:=a) (c:=ca) aa rfl rfl LA aa λs1 e1 ex1 h1 l1 g1 hs1 o1=>?_
 have nv1:=nv.upd g1 o1;have k1:∀j,2<=j->h1[j]?=([(1,.data 1 ((bL ca a).map u6) true false),nnQ,nnQ,nnQ,nnQ,nnQ,nnQ]:Hp)[j]?:=λj hj=>o1 j aa
 have hr1:aX (.ref s1 e1 0 (cm a+1) (cm a+1) (cm a+1))=some (I (cm a+1:Nat)):=rfl
 have hb1:biI .sub (I ((cm a+1:Nat):Int)) (.d (.int .i64 1))=some (I (cm a)):=by
  rw[xy,show(((cm a+1:Nat):Int)-1)=(cm a:Int) by omega,w7 aa aa]
 -- the second number,twice
 have cB:=vj (h:=h1) (nv1.all _) (n:=b) aa hcb;refine oE (u:=.mk) (iz (e:=0) (b:=.none) cB (k1 2 aa) ?_);rw[List.length_map,fe];have l2:(h1.set 2 (1,.data 1 ((bL cb b).map u6) true false)).length=7:=by simp[l1]
 have n2:(2:Nat)<h1.length:=by rw[l1];simp
 have g2:(h1.set 2 (1,.data 1 ((bL cb b).map u6) true false))[2]?=some (1,.data 1 ((bL cb b).map u6) true false):=by simp[n2]
 have o2:∀j,j≠2->(h1.set 2 (1,.data 1 ((bL cb b).map u6) true false))[j]?=h1[j]?:=λj hj=>by rw[List.getElem?_set_ne (Ne.symm hj)]
 have nv2:=nv1.upd g2 o2;generalize h1.set 2 (1,.data 1 ((bL cb b).map u6) true false)=h2 at *
 show bnd (aX (.ref s1 e1 0 (cm a+1) (cm a+1) (cm a+1))) _
 simp only[hr1,hb1,bnd];have cB2:=vj (h:=h2) (nv2.all _) (n:=b) aa hcb;refine oE (u:=.mk) (iz (e:=0) (b:=.none) cB2 ((o2 3 af).trans (k1 3 aa)) ?_);rw[List.length_map,fe];have n3:(3:Nat)<h2.length:=by rw[l2];simp
 have g3:(h2.set 3 (1,.data 1 ((bL cb b).map u6) true false))[3]?=some (1,.data 1 ((bL cb b).map u6) true false):=by simp[n3]
 have o3:∀j,j≠3->(h2.set 3 (1,.data 1 ((bL cb b).map u6) true false))[j]?=h2[j]?:=λj hj=>by rw[List.getElem?_set_ne (Ne.symm hj)]
 have nv3:=nv2.upd g3 o3;generalize h2.set 3 (1,.data 1 ((bL cb b).map u6) true false)=h3 at *;obtain⟨k,hk⟩:=nmQ (cm a-cm b);have hr2:aX (.ref 3 (0+1) 0 (cm b) cb cb)=some (I (cm b:Nat)):=rfl
 have hb2:biI .sub (I (cm a:Int)) (I (cm b:Int))=some (I k):=by
  rw[xy,show((cm a:Int)-(cm b:Int))=(k:Int) by omega,w7 aa aa]
 simp only[show aX (V.ref 3 (0+1) 0 (dig Z b).length cb cb)=some (I (cm b:Nat))from rfl,hb2];have q2:h3[2]?=some (1,.data 1 ((bL cb b).map u6) true false):=(o3 2 af).trans g2;have q4:h3[4]?=some nnQ:=((o3 4 af).trans (o2 4 af)).trans (k1 4 aa)
 refine Qy (u:=.mk) (s:=2) (t:=4) aa q2 q4 LB aa λt1 s4 h4 l4 hs4 o4 ⟨e4,l4',ex4,g4⟩ rd=>?_
 have nv4:=nv3.upd g4 o4;have hss:s1≠s4:=by rcases hs1 with rfl|rfl<;>rcases hs4 with rfl|rfl<;>omega
 have h12:s1≠2∧s1≠3:=by rcases hs1 with rfl|rfl<;>omega
 have gs:h4[s1]?=some (e1,.data 1 ((dig Z a++[0]).map u6) ex1 false):=(((o4 s1 hss).trans (o3 s1 h12.2)).trans (o2 s1 h12.1)).trans g1;have lt4:=bj gs;have hdl:(dig Z b++List.replicate k 0).length=cm a:=by simp only[List.length_append,Zd];show cm b+k=_;omega
 have sD:aI Z (dig Z b++List.replicate k 0):=rI (cZ aA b) (pT _);have vD:val Z (dig Z b++List.replicate k 0)=b:=by rw[uz,jI aA]
 have rdS:=rd (λt=>∃l,t=sP h4 s1 e1 ex1 l) (λg ⟨l,hg⟩=>by rw[hg];unfold sP;rw[List.getElem?_set_ne hss]);obtain⟨c1,c2,c3⟩:=S6 (n:=cm a) rfl hdl (cZ aA a) sD (jI aA a) vD hba
 have bk:=KD (g:=1) (at_:=0) (tot:=cm a+1) (l:=dig Z a++[0]) (ex:=ex1) (e:=e1) (s:=s1) (h:=h4) (nv4.all _) lt4 rdS sD Lm (by rw[hdl];omega) aa (by simp[cm]) (rI (cZ aA a) (pT 1));rw[OY gs]at bk;refine oE (u:=.mk) (fT bk ?_ ac);exact Hh nv4 lt4 c3 c1 c2 aa (λv=>.tup [v,I 0]) (λ_=>cG rfl rfl)
end Go.Vm
