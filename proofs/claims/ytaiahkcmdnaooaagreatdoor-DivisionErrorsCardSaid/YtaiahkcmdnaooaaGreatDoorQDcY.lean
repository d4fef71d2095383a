/- Pieces of nine digits: divide. -/
import Derived.Test.YtaiahkcmdnaooaaGreatDoorQDcX
import Derived.Test.YtaiahkcmdnaooaaGreatDoorQRefMul
import Derived.Test.YtaiahkcmdnaooaaGreatDoorQRefW
import Derived.Test.YtaiahkcmdnaooaaGreatDoorQStr
import Derived.Test.YtaiahkcmdnaooaaGreatDoorQT
set_option linter.unusedVariables false
set_option linter.unusedSimpArgs false
namespace Go.Vm
open Go Go.Am Go.Big
section
variable {H:Hp} {p7 p8 pa0 pb0 pb1:V} {n i:Nat} {L lD lB x0 x1 x2 y0 y1 D v hi:Nat}
theorem Iq (G:Gs Z L lD lB x0 x1 x2 y0 y1 D v hi) (hy1Z:y1<Z) (hhi:hi<Z*Z) (hn:2<=n) (hnb:n<Z) (hib:i<Z)
  (a1:ixV H 1 p7 (I ((i:Int)+(n:Int)-2))=some pa0) (a2:ld1 H pa0=some (U x0)) (b1:ixV H 1 p8 (I ((n:Int)-2))=some pb0) (b2:ld1 H pb0=some (U y0))
  (c1:ixV H 1 p8 (I ((n:Int)-1))=some pb1) (c2:ld1 H pb1=some (U y1)) (k:KL) (h0:Hp) (hh:h0.length=H.length) :
  ∀ (N g r:Nat),g<=N->g*y1+r=hi->D / v<=g->(∀ g':Nat,D / v<=g'->g'*v<D+v->g'<Z->k (.exit 4) [U g'] H) ->
  lp (aX (CX Y) p7 p8 (I n) (I i)) [] h0 [U g,U r] H k:=by
 intro N
 induction N with
 | zero=>
  intro g r hg0 he hq hk;have hZ:Z=1000000000:=rfl;simp only [hZ] at hhi hnb hib;have hg:g=0:=aa;have hr:r=hi:=by rw [hg] at he;omega
  have hnear:g*v<D+v:=by have:=G.pos;rw [hg,W5];omega
  have hgZ:g<Z:=by rw [hg];decide
  have g0:¬ (1000000000:Int)<=(g:Int):=aa;have p0:(g:Int)*(y0:Int)=0:=by rw [hg];simp
  have hx0:=G.hx0;simp only [hZ] at hx0;clear he;refine ax ?_;by_cases g1:(r:Int)<1000000000
  ·have g3:¬ (r:Int)*1000000000+x0<0:=aa;simp (disch:=try exact ac)[aX,a1,a2,b1,b2,g0,g1,p0,g3];exact hk g hq hnear hgZ
  ·simp (disch:=try exact ac)[aX,a1,a2,b1,b2,g0,g1];exact hk g hq hnear hgZ
 | succ N ih=>
  intro g r hgN he hq hk;rcases Zk g with hg0 | hgp
  ·exact ih g r aa he hq hk
  obtain ⟨g,rfl⟩:∃ g',g=g'+1:=⟨g-1,aa⟩;have hZ:Z=1000000000:=rfl;simp only [hZ] at hhi hnb hib;have hrb:r<=hi:=aa
  have hgb:g+1<=hi:=by
   have:=Z3 (g+1) G.hy1;omega
  have he2:g*y1+(r+y1)=hi:=by rw [Ya] at he;omega
  have hx0:=G.hx0;have hy0:=G.hy0;have go:D / v<=g->lp (aX (CX Y) p7 p8 (I n) (I i)) [] h0 [U g,U (r+y1:Nat)] H k:=fun hq2=>ih g (r+y1) aa he2 hq2 hk
  obtain ⟨p,hp⟩:∃ p,p=(g+1)*y0:=⟨_,rfl⟩;have hpi:((g:Int)+1)*(y0:Int)=(p:Int):=by rw [hp];simp
  by_cases g1:(1000000000:Int)<=(g:Int)+1
  ·have hq2:=G.far (g:=g+1) (by simp only [hZ];omega);have g1':=g1;have:=go aa;refine ax ?_;simp (disch:=try exact ac)[aX,g1',c1,c2,hh];simpa using this
  have g1':=g1;by_cases g2:(r:Int)<1000000000
  ·have hpb:p<=1000000000*1000000000:=by rw [hp];exact Zs aa aa
   by_cases g3:(r:Int)*1000000000+x0<p
   ·have hq2:=G.over he (by rw [<- hp];simp only [hZ];omega);have g3':=g3;have:=go aa;refine ax ?_;simp (disch:=try exact ac)[aX,a1,a2,b1,b2,g1',g2,hpi,g3',c1,c2,hh];simpa using this
   ·have hn1:=G.near he (by simp only [hZ];omega) (by rw [<- hp];intro h;have:=h.2;simp only [hZ] at this;omega);have g3':=g3;refine ax ?_;simp (disch:=try exact ac)[aX,a1,a2,b1,b2,g1',g2,hpi,g3',c1,c2,hh];exact hk (g+1) hq hn1 (by simp only [hZ];omega)
  ·have g2':=g2;have hn1:=G.near he (by simp only [hZ];omega) (fun h=>by have:=h.1;simp only [hZ] at this;omega);refine ax ?_;simp (disch:=try exact ac)[aX,a1,a2,b1,b2,g1',g2',c1,c2,hh];exact hk (g+1) hq hn1 (by simp only [hZ];omega)
end
theorem Cn {clr:List Nat}:∀ (i:Nat) (h0 h:Hp),h.length=h0.length->(∀ j,ek clr (i+j)=false->∀ x,h[j]? = some x->∃ b,h0[j]? = some (x.1,b)∧x.2=.none)->aK clr i h0 h=h
 | _,[],h,hl,_=>by
  have:h=[]:=Zi (by simpa using hl);subst this;rfl
 | i,x0::h0,[],hl,_=>by simp at hl
 | i,x0::h0,x::h,hl,hs=>by
  rw [HO,Cn (i+1) h0 h (by simpa using hl) (fun j hj y hy=>hs (j+1) (by rw [show i+(j+1)=i+1+j by omega];exact hj) y hy)];by_cases hc:ek clr i=true
  ·rw [if_pos hc]
  ·rw [if_neg hc];obtain ⟨b,h1,h2⟩:=hs 0 (by simpa using hc) x rfl;simp only [List.getElem?_cons_zero,Z9] at h1;rw [h1];simp only;rw [<- h2]
theorem DY {clr:List Nat}:∀ (i:Nat) (h:Hp),(∀ x∈h,offB clr x.2=true)->oh clr i h=true
 | _,[],_=>rfl
 | i,x::h,hs=>by
  rw [Lk,hs x af,DY (i+1) h fun y hy=>hs y (by simp [hy])];simp
def dH (g:Hp) (sa:Nat) (exa:Bool) (al ol:List Nat):Hp:=sP (sP g 4 1 true ol) sa 1 exa al
structure DvH (g:Hp) (sa:Nat) (bl:List Nat):Prop where
 len:g.length=9
 sa:sa<2
 b:g[2]? = some (1,.data 1 (bl.map u6) true false)
 c5:g[5]? = some (0,.none)
 c6:g[6]? = some (0,.none)
 off:∀ x∈g,offB [5,6] x.2=true
 und:(g.all fun x=>dO 9 x.2)=true
section
variable {g:Hp} {sa:Nat} {exa:Bool} {al ol bl:List Nat}
theorem IE (G:DvH g sa bl):(dH g sa exa al ol).length=9:=by simp [dH,G.len]
theorem TD (G:DvH g sa bl):(dH g sa exa al ol)[sa]? = some (1,.data 1 (al.map u6) exa false):=og (by have:=G.sa;simp [G.len];omega)
theorem TC (G:DvH g sa bl):(dH g sa exa al ol)[2]? = some (1,.data 1 (bl.map u6) true false):=by
 have:=G.sa;rw [dH,sP,List.getElem?_set_ne aa,sP,List.getElem?_set_ne aa,G.b]
theorem TB (G:DvH g sa bl):(dH g sa exa al ol)[4]? = some (1,.data 1 (ol.map u6) true false):=by
 have:=G.sa;rw [dH,sP,List.getElem?_set_ne aa];exact og (by rw [G.len];decide)
theorem Vi {j:Nat} (hj:j=5∨j=6) (G:DvH g sa bl):(dH g sa exa al ol)[j]? = some (0,.none):=by
 have:=G.sa;rw [dH,sP,List.getElem?_set_ne aa,sP,List.getElem?_set_ne aa];rcases hj with rfl | rfl
 ·exact G.c5
 ·exact G.c6
theorem Q0 (G:DvH g sa bl) {ol':List Nat}:(dH g sa exa al ol).set 4 (1,.data 1 (ol'.map u6) true false)=dH g sa exa al ol':=by
 have:=G.sa;rw [dH,sP,List.set_comm _ _ aa];simp [dH,sP]
theorem O2 (G:DvH g sa bl):∀ x∈dH g sa exa al ol,offB [5,6] x.2=true:=by
 intro x hx;rcases Yv hx with h | h
 ·rcases Yv h with h | h
  ·exact G.off x h
  ·rw [h];rfl
 ·rw [h];rfl
theorem GZ (G:DvH g sa bl) {al' ol':List Nat} {ex':Bool}:aK [5,6] 0 (dH g sa ex' al' ol') (dH g sa exa al ol)=dH g sa exa al ol:=by
 refine Cn 0 _ _ (by rw [IE G,IE G]) fun j hj x hx=>?_
 have hj2:j=5∨j=6:=by
  simp only [Zj,H5,Ll,Wn,beq_lit] at hj;by_cases h5:j=5
  ·exact .inl h5
  ·by_cases h6:j=6
   ·exact .inr h6
   ·exfalso;simp [Ne.symm h5,Ne.symm h6] at hj
 rw [Vi hj2 G] at hx;cases hx;exact ⟨.none,Vi hj2 G,rfl⟩
theorem Vh (G:DvH g sa bl) {n:Nat} (hbl:bl.length=n+1):RdS (fun t=>∃ l,t=sP (sP g 4 1 true ol) sa 1 exa l) (.ref 2 1 0 n (n+1) (n+1)) (bl.take n):=by
 have e1:(bl.take n).length=n:=by simp;omega
 refine ⟨by rw [e1];rfl,?_⟩;rintro t i ⟨l,rfl⟩ hi;have hb:=TC (exa:=exa) (al:=l) (ol:=ol) G;refine ⟨.ptr 2 1 i (n+1),?_,?_⟩
 ·have:=xL hb hbl.symm (len:=n) (cap:=n+1) (i:=(i:Int)) aa aa .i64
  rwa [Int.toNat_natCast] at this
 ·rw [zH aa];exact Ek hb hbl.symm aa
end
end Go.Vm
namespace Go.Vm
open Go Go.Am Go.Big
theorem OM {l:List Nat} {n:Nat} (h:l.length=n+2):l.drop n=[nth 0 l n,nth 0 l (n+1)]:=by
 rw [Y7 aa,Y7 aa,Zd aa,gD _ _ _ aa,gD _ _ _ aa]
theorem U6 {al db:List Nat} {i n2:Nat} (hsa:aD Z al) (hsb:aD Z db) (hdl:db.length=n2+2) (hi:i+db.length<al.length) (hy:0<nth 0 db (n2+1)) (hD:val Z (al.drop i)<Z*val Z db) :
  Gs Z (Z ^ n2) (val Z ((al.drop i).take n2)) (val Z (db.take n2)) (nth 0 al (i+n2)) (nth 0 al (i+n2+1)) (nth 0 al (i+n2+2)) (nth 0 db n2) (nth 0 db (n2+1)) (val Z (al.drop i)) (val Z db) (nth 0 al (i+n2+2)*Z+nth 0 al (i+n2+1)):=by
 have hvb:=gO (B:=Z) bg hsb
 have hDlt:val Z (al.drop i)<Z ^ (n2+3):=by
  rw [Nat.pow_succ,Zx (Z ^ (n2+2)),<- hdl];exact Nat.lt_trans hD (Nat.mul_lt_mul_of_pos_left hvb bg)
 have htop:val Z (al.drop (i+n2+3))=0:=by
  rw [show i+n2+3=i+(n2+3) by omega,<- List.drop_drop];exact Fb bg hDlt
 have e1:=jm (B:=Z) (al.drop i) n2 (by grind);rw [List.drop_drop,mM al (i+n2),mM al (i+n2+1),mM al (i+n2+1+1),htop,Nat.mul_zero] at e1;simp only [Nat.add_zero] at e1;have e2:=jm (B:=Z) db n2 aa;rw [OM hdl] at e2;have l1:=gO (B:=Z) bg ((hsa.drop i).take n2);have l2:=gO (B:=Z) bg (hsb.take n2)
 rw [Zn,Y4 (by grind)] at l1;rw [Zn,Y4 aa] at l2;refine ⟨bg,?_,?_,l1,l2,hsa.getD bg _,hsb.getD bg _,hy,hD⟩
 ·rw [e1]
  show _=val Z ((al.drop i).take n2)+Z ^ n2*(al.getD (i+n2) 0+Z*(al.getD (i+n2+2) 0*Z+al.getD (i+n2+1) 0))
  grind
 trivial
section
variable {g:Hp} {sa:Nat} {exa:Bool} {bl db:List Nat} {n M m A:Nat}
theorem GX (G:DvH g sa bl) (hdb:bl.take n=db) (hbl:bl.length=n+1) (hsb:aD Z db) (hn:2<=n) (hnb:n<Z) (hM:M=m+n) (hMb:M<100000000) (hy:0<nth 0 db (n-1)) (al0 ol0:List Nat) (k:KL) :
  ∀ (i:Nat) (al ol:List Nat),i<=m->al.length=M->ol.length=m->aD Z al->aD Z ol->val Z (al.drop i)<val Z db->val Z al+val Z db*val Z ol=A->(∀ j,j<i->nth 0 ol j=0) ->
  (∀ al' ol',al'.length=M->ol'.length=m->aD Z al'->aD Z ol'->val Z al'<val Z db->val Z al'+val Z db*val Z ol'=A->k (.exit 2) [] (dH g sa exa al' ol')) ->
  lp (cx (CX Y) (.ref sa 1 0 M M M) (.ref 2 1 0 n (n+1) (n+1)) (I n) (.ref 4 1 0 m m m)) [5,6] (dH g sa exa al0 ol0) [I ((i:Int)-1)] (dH g sa exa al ol) k
 | 0,al,ol,hi,hal,hol,hsa,hso,hD,hA,hz,hk=>by
  refine ax ?_;simp (disch:=try exact ac)[cx]
  grind
 | i+1,al,ol,hi,hal,hol,hsa,hso,hD,hA,hz,hk=>by
  have hdl:db.length=n:=by rw [<- hdb];simp;omega
  obtain ⟨n2,hn2⟩:∃ n2,n=n2+2:=⟨n-2,aa⟩;have hZ:Z=1000000000:=rfl
  have hD2:val Z (al.drop i)<Z*val Z db:=by
   rw [mM];have h1:=hsa.getD bg i;have h2:=Z3 Z hD;rw [Nat.mul_succ] at h2;omega
  have Gq:=U6 (i:=i) hsa hsb (n2:=n2) aa aa (by rw [show n2+1=n-1 by omega];exact hy) hD2;have e0:((i+1:Nat):Int)-1=(i:Int):=aa;obtain ⟨x0,hx0⟩:∃ x,nth 0 al (i+n2)=x:=⟨_,rfl⟩;obtain ⟨x1,hx1⟩:∃ x,nth 0 al (i+n2+1)=x:=⟨_,rfl⟩;obtain ⟨x2,hx2⟩:∃ x,nth 0 al (i+n2+2)=x:=⟨_,rfl⟩;obtain ⟨y0,hy0⟩:∃ x,nth 0 db n2=x:=⟨_,rfl⟩;obtain ⟨y1,hy1⟩:∃ x,nth 0 db (n2+1)=x:=⟨_,rfl⟩
  have hx1Z:x1<Z:=by rw [<- hx1];exact hsa.getD bg _
  have hx2Z:x2<Z:=by rw [<- hx2];exact hsa.getD bg _
  have hy1Z:y1<Z:=by rw [<- hy1];exact hsb.getD bg _
  rw [hx0,hx1,hx2,hy0,hy1] at Gq;obtain ⟨hi_,hhi⟩:∃ t,x2*Z+x1=t:=⟨_,rfl⟩;rw [hhi] at Gq
  have hhib:hi_<Z*Z:=by
   have:=Z0 Z (show x2+1<=Z by omega);rw [Nat.add_mul] at this;omega
  have nb:∀ j,j<n->nth 0 bl j=nth 0 db j:=fun j hj=>by rw [<- hdb,zH hj]
  have rA:=fun (j:Nat) (hj:j<M)=>xL (TD (exa:=exa) (al:=al) (ol:=ol) G) hal.symm (len:=M) (cap:=M) (i:=(j:Int)) aa aa .i64
  have lA:=fun (j:Nat) (hj:j<M)=>Ek (TD (exa:=exa) (al:=al) (ol:=ol) G) hal.symm (j:=j) aa
  have rB:=fun (j:Nat) (hj:j<n)=>xL (TC (exa:=exa) (al:=al) (ol:=ol) G) hbl.symm (len:=n) (cap:=n+1) (i:=(j:Int)) aa aa .i64
  have lB:=fun (j:Nat) (hj:j<n)=>Ek (TC (exa:=exa) (al:=al) (ol:=ol) G) hbl.symm (j:=j) aa
  simp only [Int.toNat_natCast] at rA rB;have a0:=rA (i+n2) aa;have a0l:=lA (i+n2) aa;have a1:=rA (i+n2+1) aa;have a1l:=lA (i+n2+1) aa;have a2:=rA (i+n2+2) aa;have a2l:=lA (i+n2+2) aa;have b0:=rB n2 aa;have b0l:=lB n2 aa;have b1:=rB (n2+1) aa;have b1l:=lB (n2+1) aa;rw [hx0] at a0l;rw [hx1] at a1l;rw [hx2] at a2l
  rw [nb _ aa,hy0] at b0l;rw [nb _ aa,hy1] at b1l;have s0:((i+n2:Nat):Int)=(i:Int)+(n:Int)-2:=aa;have s1:((i+n2+1:Nat):Int)=(i:Int)+(n:Int)-1:=aa;have s2:((i+n2+2:Nat):Int)=(i:Int)+(n:Int):=aa;have t0:((n2:Nat):Int)=(n:Int)-2:=aa;have t1:((n2+1:Nat):Int)=(n:Int)-1:=aa;rw [s0] at a0;rw [s1] at a1;rw [s2] at a2;rw [t0] at b0;rw [t1] at b1
  have hy1p:0<y1:=Gq.hy1;have e3:(x2:Int)*1000000000+(x1:Int)=(hi_:Int):=by simp only [hZ] at hhi;omega
  obtain ⟨q0,hq0⟩:∃ q,hi_ / y1=q:=⟨_,rfl⟩;obtain ⟨r0,hr0⟩:∃ q,hi_ % y1=q:=⟨_,rfl⟩;have e4:(hi_:Int) / (y1:Int)=(q0:Int):=by rw [<- hq0];simp
  have e5:(hi_:Int) % (y1:Int)=(r0:Int):=by rw [<- hr0];simp
  have hdm:q0*y1+r0=hi_:=by rw [<- hq0,<- hr0,Zx];exact Yj hi_ y1
  have hq0b:q0<=hi_:=by rw [<- hq0];exact Yq ..
  have hn0:¬ ((y1:Int)=0):=aa;have hhib2:hi_<1000000000000000000:=by simp only [hZ] at hhib;omega
  have hx2b:x2<1000000000:=by simp only [hZ] at hx2Z;omega
  have hx1b:x1<1000000000:=by simp only [hZ] at hx1Z;omega
  have hnb2:n<1000000000:=by simp only [hZ] at hnb;omega
  have fst:=Gq.first
  rw [hq0] at fst;refine ax ?_;rw [e0];simp (disch:=try exact ac)[cx,a1,a1l,a2,a2l,b1,b1l,e3,hn0,Zt,Zy,e4,e5];refine lo (Iq Gq hy1Z hhib hn hnb aa a0 a0l b0 b0l b1 b1l _ _ rfl q0 q0 r0 (Z7 _) hdm fst fun g' hg1 hg2 hg3=>?_);simp only [iB]
  have hl9:(sP g 4 1 true ol).length=9:=by simp [G.len]
  have hu:((sP g 4 1 true ol).all fun x=>dO (sP g 4 1 true ol).length x.2)=true:=by rw [hl9];exact wd G.und
  have hsa2:sa<(sP g 4 1 true ol).length:=by rw [hl9];have:=G.sa;omega
  have rd:=Vh (exa:=exa) (ol:=ol) G hbl;rw [hdb] at rd;obtain ⟨w,hw⟩:∃ w,(fU g' i db (db.length+1) 0 0 0 al).1=w:=⟨_,rfl⟩;obtain ⟨l1,hl1⟩:∃ l,(fU g' i db (db.length+1) 0 0 0 al).2=l:=⟨_,rfl⟩;obtain ⟨l2,hl2⟩:∃ l,nu i db (db.length+1) 0 0 l1=l:=⟨_,rfl⟩;obtain ⟨⟨k1,k2⟩,k3,k4⟩:=GW (i:=i) hsa hsb aa hg3 hD2 hg2 hg1 hw hl1 hl2
  have tk:=Fi (at_:=i) (g:=g') (tot:=M) hu hsa2 rd hsb hg3 aa aa hal hsa;rw [hw,hl1] at tk;have bk:=Hf (at_:=i) (tot:=M) (l:=l1) hu hsa2 rd hsb aa aa aa k2;rw [hl2] at bk;have hvs:=fun q=>sj (B:=Z) ol i q aa
  have hz0:ol.getD i 0=0:=hz i aa
  have go:∀ (q:Nat) (l:List Nat),aD Z l->l.length=al.length->l.take i=al.take i->q=val Z (al.drop i) / val Z db->val Z (l.drop i)=val Z (al.drop i) % val Z db ->
    lp (cx (CX Y) (.ref sa 1 0 M M M) (.ref 2 1 0 n (n+1) (n+1)) (I n) (.ref 4 1 0 m m m)) [5,6] (dH g sa exa al0 ol0) [I ((i:Int)-1)] (dH g sa exa l (ol.set i q)) k:=by
   intro q l c1 c2 c3 c4 c5;have hvp:=Gq.pos;have hqZ:q<Z:=by rw [c4];exact (Xw hvp).2 hD2
   refine GX G hdb hbl hsb hn hnb hM hMb hy al0 ol0 k i l (ol.set i q) aa aa (by grind) c1 (hso.set hqZ) (by rw [c5];exact Y3 _ hvp) ?_ (fun j hj=>by rw [tN aa];exact hz j aa) hk;have h1:=hvs q;rw [hz0,Nat.mul_zero,Nat.add_zero] at h1;have h2:=jm (B:=Z) l i aa;have h3:=jm (B:=Z) al i aa
   have h4:=Yj (val Z (al.drop i)) (val Z db);rw [<- c4,<- c5] at h4;rw [c3] at h2;rw [h1,h2,<- hA,h3,<- h4,Zp,Zp,Za (val Z db) (Z ^ i)];omega
  clear hk hA hz;have r4:=fun l=>xL (TB (exa:=exa) (al:=l) (ol:=ol) G) hol.symm (len:=m) (cap:=m) (i:=(i:Int)) aa aa .i64
  have r5:=fun l=>KR (TB (exa:=exa) (al:=l) (ol:=ol) G) hol.symm (j:=i) aa
  simp only [Q0 G,Int.toNat_natCast] at r4 r5;refine lV tk ?_ af;rw [show sP (sP g 4 1 true ol) sa 1 exa l1=dH g sa exa l1 ol from rfl];rcases Zk w with w0 | wp
  ·obtain ⟨d1,d2,d3,d4,d5⟩:=k3 w0;have gg:=go g' l1 d1 d2 d3 d4 d5;have w1:¬ 0<w:=aa;have r6:=r5 l1 g';have r7:=r4 l1;simp only [jn];simp (disch:=try exact ac)[w1,r7,r6];refine ⟨?_,?_⟩
   ·rw [clean,DY 0 _ (O2 G)];rfl
   ·rw [GZ G];exact gg
  ·obtain ⟨d1,d2,d3,dg,d4,d5⟩:=k4 wp;have gg:=go (g'-1) l2 d1 d2 d3 d4 d5;obtain ⟨g2,hg2'⟩:∃ g2,g'-1=g2:=⟨_,rfl⟩;rw [hg2'] at gg;have e6:(g':Int)-1=(g2:Int):=aa;have hg2Z:(g2:Int)<18446744073709551616:=by simp only [hZ] at hg3;omega
   have r6:=r5 l2 g2;have r7:=r4 l2;simp only [jn];simp (disch:=try exact ac)[wp,e6];refine kg (lV bk ?_ af);rw [show sP (sP g 4 1 true ol) sa 1 exa l2=dH g sa exa l2 ol from rfl];simp (disch:=try exact ac)[r7,r6];refine ⟨?_,?_⟩
   ·rw [clean,DY 0 _ (O2 G)];rfl
   ·rw [GZ G];exact gg
end
end Go.Vm
namespace Go.Vm
open Go Go.Am Go.Big
theorem wF {w n:Nat} (h:n<Z ^ w):aY (w+1) n=aY w n++[0]:=by
 have h1:aD Z (aY w n++[0]):=(qn w n).snoc bg
 grind [yB,E6,rU,Zg,cr]
theorem OD {w n:Nat} (h:n<Z ^ w):fD (aY w n)=dig Z n:=by
 rw [<- nI au (qn w n),rU w n h]
theorem j5 {w n:Nat} (h:n<Z ^ w):(aY w n).take (dig Z n).length=dig Z n:=by
 grind [OD,vV]
theorem rQ (n:Nat):n<Z ^ (dig Z n).length:=(lN au).1 (Z7 _)
theorem fN {n k:Nat} (h:n<Z ^ k):(dig Z n).length<=k:=(lN au).2 h
theorem N6 {n k:Nat} (h:Z ^ k<=n):k<(dig Z n).length:=by
 grind [lN,au]
theorem OW {n:Nat} (h:0<n):Z ^ ((dig Z n).length-1)<=n:=by
 rcases Zl n (Z ^ ((dig Z n).length-1)) with h1 | h1
 ·have:=fN h1
  grind [Z]
 omega
theorem I9 {n k:Nat} (h:(dig Z n).length=k+1):Z ^ k*nth 0 (dig Z n) k<=n∧n<Z ^ k*(nth 0 (dig Z n) k+1)∧0<nth 0 (dig Z n) k:=by
 have e:=jm (B:=Z) (dig Z n) k aa;rw [fF au,Y7 aa,Zd aa] at e;have hn:nth 0 (dig Z n) k=(dig Z n)[k]:=gD _ _ _ aa;rw [<- hn] at e;simp only [val,Nat.mul_zero,Nat.add_zero] at e;have l:=gO (B:=Z) bg ((bL au n).take k);rw [Zn,Y4 aa] at l
 refine ⟨aa,by grind,?_⟩;rcases Zk (nth 0 (dig Z n) k) with h0 | h0
 ·rw [h0,Nat.mul_zero,Nat.add_zero] at e;have:=fN (n:=n) (k:=k) aa;omega
 omega
theorem LG {q k y f:Nat} (h:(dig Z q).length=k+1) (hy:nth 0 (dig Z q) k=y) (hf:Z / (y+1)=f) (hk:1<=k):0<f∧f<Z∧q*f<Z ^ (k+1):=by
 obtain ⟨h1,h2,h3⟩:=I9 h;rw [hy] at h1 h2 h3;have hyZ:y<Z:=by rw [<- hy];exact (bL au q).getD bg k
 have hf0:0<f:=by rw [<- hf];exact Wm aa aa
 have hfy:f*(y+1)<=Z:=by rw [<- hf];exact Nat.div_mul_le_self ..
 refine ⟨hf0,?_,?_⟩
 ·have:=Z3 f (show 2<=y+1 by omega);omega
 ·have h4:q*f<Z ^ k*(y+1)*f:=Nat.mul_lt_mul_of_pos_right h2 hf0;have h5:Z ^ k*(y+1)*f=Z ^ k*(f*(y+1)):=by rw [Nat.mul_assoc,Zx (y+1)]
  have h6:=Z3 (Z ^ k) hfy;rw [Nat.pow_succ];omega
theorem Fh {l:List Nat} (h:aD Z l):l.take (dig Z (val Z l)).length=dig Z (val Z l):=by
 grind [nI,au,vV]
theorem P4 {α:Type} {l:List α} {i:Nat} {x:α} (h:l[i]? = some x):l.set i x=l:=by
 refine X6 fun j=>?_
 by_cases hj:j=i
 ·grind
 ·rw [List.getElem?_set_ne (Ne.symm hj)]
section
variable {P Q n p f M W9 sa:Nat} {exa:Bool} {hA:Hp}
theorem xq (hn:(dig Z Q).length=n) (h2:2<=n) (hp:(dig Z P).length=p) (hnp:n<=p) (hpb:p<10000000) (f0:0<f) (fZ:f<Z) (fQ:Q*f<Z ^ n) (hVe:W9=P*f) (hM:(dig Z W9).length+1=M) (hMp:p<M)
  (A9:hA.length=9) (Au:(hA.all fun x=>dO 9 x.2)=true) (Ao:∀ x∈hA,offB [5,6] x.2=true) (A2:hA[2]? = some (0,.none)) (A4:hA[4]? = some (0,.none)) (A5:hA[5]? = some (0,.none)) (A6:hA[6]? = some (0,.none)) (sa2:sa<2) (Aa:hA[sa]? = some (1,.data 1 ((aY M W9).map u6) exa false)) :
  cai (CX Y).i hA (V.fn F.bG [] []) [lst u6 (dig Z Q),V.d (D.int IntKind.u64 ↑f)] 2
      fun v10 h=>
      bnd (bq v10) fun v11=>
       lp (im (CX Y) (lst u6 (dig Z P))) [] h [.ref sa 1 0 M M M] h
        (exK
         [(Exit.exit 0,fun l12 h=>
           bnd (bq (ge l12 0)) fun v13=>
            bnd (biI BinOp.sub v13 v11) fun v14=>
             mkS 4 8 [D.int IntKind.u64 0] h v14 v14 fun v15 h=>
              bnd (bq (ge l12 0)) fun v16=>
               bnd (biI BinOp.sub v16 v11) fun v17=>
                bnd (biI BinOp.sub v17 (V.d (D.int IntKind.i64 1))) fun v18=>
                 lp (cx (CX Y) (ge l12 0) v10 v11 v15) [5,6] h [v18] h
                  (exK
                   [(Exit.exit 2,fun l19 h=>
                     cai (CX Y).i h (V.fn F.ay [] []) [ge l12 0] 7 fun v20 h=>
                      cal (CX Y).p h (V.fn F.bV [] [])
                       [v20,V.d (D.int IntKind.u64 ↑f)] fun v21 h=>
                       ext v21 0 fun v22=>
                        ext v21 1 fun v23=>
                         cai (CX Y).i h (V.fn F.ay [] []) [v15] 8 fun v24 h=>
                          out (V.tup [lst u6 (dig Z (P / Q)),lst u6 (dig Z (P % Q))])
                           (V.tup [v24,v22]) h)]))]):=by
 have hQ1:Z ^ (n-1)<=Q:=by
  rw [<- hn];refine OW ?_;rcases Zk Q with h | h
  ·subst h;rw [show (dig Z 0).length=0 from rfl] at hn;omega
  ·exact h
 have hQf:(dig Z (Q*f)).length=n:=by
  have h1:=fN fQ;have h3:=N6 (n:=Q*f) (k:=n-1) (Z2 hQ1 (Zh Q f0));omega
 have hQfs:Q*f<Z ^ (n+1):=Z1 fQ (Z4 bg aa);have sc:=zr (h:=hA) (t0:=lst u6 (dig Z Q)) (da:=dig Z Q) (f:=f) (N:=n+1) (by grind) fZ f0 (Kz _ _) (bL au Q) aa aa;rw [fF au,hQf] at sc;refine gL (e:=0) (b:=.none) sc A2 ?_;have hbl:(aY (n+1) (Q*f)).length=n+1:=cr ..
 have hdb:(aY (n+1) (Q*f)).take n=dig Z (Q*f):=by
  have:=j5 hQfs
  rwa [hQf] at this
 obtain ⟨bl,hble⟩:∃ bl,aY (n+1) (Q*f)=bl:=⟨_,rfl⟩;rw [hble] at hbl hdb;rw [hble,List.length_map,hbl];obtain ⟨g,hg⟩:∃ g,hA.set 2 (0+1,.data 1 (bl.map u6) true false)=g:=⟨_,rfl⟩;rw [hg]
 have G:DvH g sa bl:=by
  rw [<- hg];refine ⟨by grind,sa2,by grind,by grind,by grind,fun x hx=>?_,?_⟩
  ·rcases Yv hx with h | h
   ·grind
   ·rw [h];rfl
  ·exact wd (s:=2) (e:=1) Au
 have g4:g[4]? = some (0,.none):=by rw [<- hg];simp [A4]
 have ga:g[sa]? = some (1,.data 1 ((aY M W9).map u6) exa false):=by rw [<- hg,List.getElem?_set_ne aa];exact Aa
 have hVp:p<=(dig Z W9).length:=aa
 have hMp1:M<=p+2:=by
  have:W9<Z ^ (p+1):=by
   rw [hVe,Nat.pow_succ];have:=rQ P;rw [hp] at this;exact Nat.mul_lt_mul_of_lt_of_lt this fZ
  have:=fN this;omega
 obtain ⟨m,hm⟩:∃ m,M=m+n:=⟨M-n,aa⟩;have lP:bq (lst u6 (dig Z P))=some (I (dig Z P).length):=rfl;have c1:¬ ((M:Int)<=((dig Z P).length:Int)):=aa;have c2:(M:Int)-(n:Int)=(m:Int):=aa;simp (disch:=try exact ac)[];refine lo (ax ?_);simp (disch:=try exact ac)[im,lP,c1,c2,g4]
 have hd:g.set 4 (1,Bk.data 1 (List.replicate m (D.int IntKind.u64 0)) true false)=dH g sa exa (aY M W9) (List.replicate m 0):=by
  have e1:(List.replicate m (D.int IntKind.u64 0))=(List.replicate m 0).map u6:=by simp [u6]
  have e2:(sP g 4 1 true (List.replicate m 0))[sa]? = some (1,.data 1 ((aY M W9).map u6) exa false):=by
   rw [sP,List.getElem?_set_ne aa];exact ga
  show _=(sP g 4 1 true (List.replicate m 0)).set sa (1,.data 1 ((aY M W9).map u6) exa false)
  rw [P4 e2,e1];rfl
 rw [hd]
 have hWlt:W9<Z ^ (m+(n-1)):=by
  have:=rQ W9
  rwa [show (dig Z W9).length=m+(n-1) by omega] at this
 have hWM:W9<Z ^ M:=Z1 hWlt (Z4 bg aa);have hQfv:val Z (dig Z (Q*f))=Q*f:=fF au _;have hZ:Z=1000000000:=rfl
 refine lo (GX (A:=W9) (n:=n) (M:=M) (m:=m) G hdb hbl (bL au _) h2 aa hm aa (I9 (n:=Q*f) (k:=n-1) aa).2.2 _ _ _ m (aY M W9) (List.replicate m 0) (Z7 _) (cr ..) af (qn M W9) (fun x hx=>by grind) ?_ (by grind [kU,rU]) (fun j hj=>by grind [gD]) fun al' ol' q1 q2 q3 q4 q5 q6=>?_)
 ·have e1:=jm (B:=Z) (aY M W9) m (by grind [cr]);rw [rU _ _ hWM] at e1;rw [Yy] at hWlt;rw [hQfv];have h3:Z ^ m*val Z ((aY M W9).drop m)<Z ^ m*Z ^ (n-1):=aa;have h4:=Xu h3;have h5:=Zh Q f0;omega
 ·simp only [iB];rw [hQfv] at q5 q6
  have hQ0:0<Q:=by
   have:=Yk (n:=n-1) bg;omega
  have hQf0:0<Q*f:=Yz hQ0 f0
  have hq:val Z ol'=P / Q:=by
   have:(P*f) / (Q*f)=val Z ol':=by
    rw [<- hVe,<- q6,Yx _ _ hQf0,Xm q5,Zj]
   rw [<- this,Nat.mul_div_mul_right _ _ f0]
  have hr:val Z al'=f*(P % Q):=by
   have:(P*f) % (Q*f)=val Z al':=by
    rw [<- hVe,<- q6,Yf,Yp q5]
   rw [<- this,Nat.mul_mod_mul_right,Zx]
  have l9:(dH g sa exa al' ol').length=9:=IE G;have hu:((dH g sa exa al' ol').all fun x=>dO (dH g sa exa al' ol').length x.2)=true:=by rw [l9];exact wd (wd G.und)
  have ha:=TD (exa:=exa) (al:=al') (ol:=ol') G;have tr:=pu hu ha q1.symm (len:=M) (cap:=M) (Z7 _) aa (Z7 _);have hta:fD (al'.take M)=dig Z (val Z al'):=by rw [Zw aa,nI au q3]
  rw [hta] at tr;refine lV tr ?_ af
  have hla:(dig Z (val Z al')).length<=M:=by
   have:=gO (B:=Z) bg q3;rw [q1] at this;exact fN this
  have sn:=rC ha q1.symm (len:=(dig Z (val Z al')).length) (cap:=M) hla (Z7 _);have htk:=Fh q3;rw [htk] at sn;obtain ⟨h1,hh1⟩:∃ h1,(dH g sa exa al' ol').set sa (1,.data 1 (al'.map u6) exa true)=h1:=⟨_,rfl⟩;rw [hh1] at sn;have sm:=Ce (a:=val Z al') (n:=f) aa f0 aa
  refine cdz (u:=.mk) (ds:=[lst u6 (dig Z (val Z al')),U f]) (h':=h1) (by simp_all [aH]) sm ?_;rw [show gP (.tup [pcs (val Z al' / f),U (val Z al' % f:Nat)])=false from rfl];have h1o:h1[4]? = some (1,.data 1 (ol'.map u6) true false):=by rw [<- hh1,List.getElem?_set_ne aa];exact TB G
  have h1u:(h1.all fun x=>dO h1.length x.2)=true:=by
   have e:h1.length=9:=by rw [<- hh1,List.length_set,l9]
   rw [e,<- hh1,Zv];intro x hx;rcases Yv hx with h | h
   ·grind
   ·rw [h];rfl
  have tr2:=pu h1u h1o q2.symm (len:=m) (cap:=m) (Z7 _) aa (Z7 _);have hto:fD (ol'.take m)=dig Z (P / Q):=by rw [Zw aa,<- hq,nI au q4]
  rw [hto] at tr2
  show ext _ 0 _
  simp (disch:=try exact ac)[];refine kg (lV tr2 ?_ af)
  have hlo:(dig Z (P / Q)).length<=m:=by
   have:=gO (B:=Z) bg q4;rw [q2,hq] at this;exact fN this
  have sn2:=rC h1o q2.symm (len:=(dig Z (P / Q)).length) (cap:=m) hlo (Z7 _);have htk2:=Fh q4;rw [hq] at htk2;rw [htk2] at sn2;have hrr:val Z al' / f=P % Q:=by rw [hr,X5 _ f0]
  rw [hrr];exact av sn2 (Fp _ _ _)
end
theorem Rt {s s' e e' L n k by_ tot:Nat} {b':Bk} {old cs:List D} {fr:Bool} {h:Hp} {q:V->Hp->Prop} {u:PU q} (hg:h[s]? = some (e,.data n old true fr)) (hs':h[s']? = some (e',b')) (ht:tot=L*n) (hold:old.length=L*n) (hcs:cs.length=k*n) (hb:(L+k)*by_<=140737488355328)
  (h0:k=0->q (.ref s e 0 L L tot) h) (h1:0<k->q (.ref s' (e'+1) 0 (L+k) (L+k) (L*n+cs.length)) (h.set s' (e'+1,.data n (old++cs) false false))):rh (apV false s' n by_ (.ref s e 0 L L tot) (.d (.sl k cs)) h) q u:=by
 unfold rh apV;simp only [cellsOf];rw [if_pos hcs];unfold apC;by_cases hk:k=0
 ·grind
 ·rw [if_neg hk];simp only [dM hg];rw [if_pos ⟨trivial,aa,Z7 _,aa,hcs⟩,if_neg aa,if_pos hb];simp only [if_true,new,hs',Yo];rw [Zw aa];exact h1 aa
theorem IS {s s' e len cap:Nat} {old:List Nat} {x:Nat} {ex:Bool} {h:Hp} {q:V->Hp->Prop} {u:PU q} (hg:h[s]? = some (e,.data 1 (old.map u6) ex false)) (hold:old.length=cap) (hl:len<cap)
  (hq:q (.ref s e 0 (len+1) cap cap) (h.set s (e,.data 1 ((old.take len++[x]++old.drop (len+1)).map u6) ex false))):rh (apV false s' 1 8 (.ref s e 0 len cap cap) (.d (.sl 1 [u6 x])) h) q u:=by
 unfold rh apV;simp only [cellsOf];rw [if_pos af];unfold apC;rw [if_neg aa];simp only [dM hg];rw [if_pos ⟨trivial,by grind,aa,by grind,af⟩,if_pos aa]
 simp_all
theorem Kv {s s' e e' cap:Nat} {b':Bk} {old:List Nat} {x:Nat} {h:Hp} {q:V->Hp->Prop} {u:PU q} (hg:h[s]? = some (e,.data 1 (old.map u6) true false)) (hs':h[s']? = some (e',b')) (hold:old.length=cap) (hb:cap<1000000000000)
  (hq:q (.ref s' (e'+1) 0 (cap+1) (cap+1) (cap+1)) (h.set s' (e'+1,.data 1 ((old++[x]).map u6) false false))):rh (apV false s' 1 8 (.ref s e 0 cap cap cap) (.d (.sl 1 [u6 x])) h) q u:=by
 refine Rt (L:=cap) (old:=old.map u6) hg hs' aa (by grind) rfl aa (fun h=>by omega) fun _=>?_
 simp only [X8,List.length_singleton];rw [show old.map u6++[u6 x]=(old++[x]).map u6 by simp];exact hq
theorem IC {P Q:Nat} (h2:2<=(dig Z Q).length) (hle:(dig Z Q).length<=(dig Z P).length) (hb:(dig Z P).length<10000000):CP Y F.cG [pcs P,pcs Q] (.tup [pcs (P / Q),pcs (P % Q)]):=by
 refine pQ ?_;obtain ⟨k,hk⟩:∃ k,(dig Z Q).length=k+1:=⟨(dig Z Q).length-1,aa⟩;obtain ⟨y,hy⟩:∃ y,nth 0 (dig Z Q) k=y:=⟨_,rfl⟩;obtain ⟨f,hf⟩:∃ f,Z / (y+1)=f:=⟨_,rfl⟩;obtain ⟨f0,fZ,fQ⟩:=LG hk hy hf aa;have hZ:Z=1000000000:=rfl;have hyZ:y<Z:=by rw [<- hy];exact (bL au Q).getD bg k
 have hyb:y<1000000000:=by simp only [hZ] at hyZ;omega
 obtain ⟨n,hn⟩:∃ n,(dig Z Q).length=n:=⟨_,rfl⟩;obtain ⟨p,hp⟩:∃ p,(dig Z P).length=p:=⟨_,rfl⟩;have e1:=fun h:Hp=>dP u6 (dig Z Q) h (k:=.i64) (i:=(k:Int)) aa aa
 have e2:=fun h:Hp=>zS (dig Z Q) h (j:=k) aa
 rw [hy] at e2;simp only [Int.toNat_natCast] at e1;have e3:((dig Z Q).length:Int)-1=(k:Int):=aa
 have e4:(1000000000:Int) / ((y:Int)+1)=(f:Int):=by
  rw [<- hf,hZ];simp
 have y0:¬ ((y:Int)+1=0):=aa;have lQ:bq (pcs Q)=some (I (dig Z Q).length):=rfl;have lP:bq (pcs P)=some (I (dig Z P).length):=rfl;simp (disch:=try exact ac)[cG,lQ,e3,SK,e1,e2,y0,Zy,e4];obtain ⟨W9,hW⟩:∃ W9,P*f=W9:=⟨_,rfl⟩
 have hP1:Z ^ (p-1)<=P:=by
  rw [<- hp];refine OW ?_;rcases Zk P with h | h
  ·subst h;have h0:(dig Z 0).length=0:=rfl;omega
  ·exact h
 have hW1:p-1<(dig Z W9).length:=N6 (by rw [<- hW];exact Z2 hP1 (Zh P f0))
 have hW2:W9<Z ^ (p+1):=by
  rw [<- hW,Nat.pow_succ];have:=rQ P;rw [hp] at this;exact Nat.mul_lt_mul_of_lt_of_lt this fZ
 have hW3:=fN hW2
 have hli:∀ h:Hp,eY 1 [D.int .u64 0] [(0,V.d (D.int IntKind.u64 0))] h=some ([u6 0],h):=fun h=>by
  rfl
 have sc:=zr (h:=[(0,.none),(0,.none),(0,.none),(0,.none),(0,.none),(0,.none),(0,.none),(0,.none),(0,.none)]) (t0:=lst u6 (dig Z P)) (da:=dig Z P) (f:=f) (N:=p+1) rfl fZ f0 (Kz _ _) (bL au P) aa aa;rw [fF au,hW] at sc;refine kg (gL (e:=0) (b:=.none) sc rfl ?_);simp (disch:=try exact ac)[hli]
 have hNl:(aY (p+1) W9).length=p+1:=cr ..;rcases Zl (dig Z W9).length (p+1) with hc | hc
 ·have hl:(dig Z W9).length=p:=aa;have hWp:W9<Z ^ p:=by have:=rQ W9;rwa [hl] at this
  have hcell:(aY (p+1) W9).take p++[0]++(aY (p+1) W9).drop (p+1)=aY (p+1) W9:=by
   rw [Zd aa,wF hWp,Yi (cr ..),Wx]
  rw [hl,hNl];refine IS (x:=0) (ex:=true) rfl hNl aa ?_;rw [hcell];refine xq (M:=p+1) (exa:=true) hn aa hp aa aa f0 fZ (by grind) hW.symm aa aa rfl rfl ?_ rfl rfl rfl rfl aa rfl;intro x hx;simp only [List.set_cons_zero,Zr,Y6,or_false] at hx
  rcases hx with rfl | rfl | rfl | rfl | rfl | rfl | rfl | rfl | rfl <;> rfl
 ·have hl:(dig Z W9).length=p+1:=aa;have hcell:aY (p+1) W9++[0]=aY (p+2) W9:=(wF hW2).symm;rw [hl,hNl];refine Kv (x:=0) (e':=0) (b':=.none) rfl rfl hNl aa ?_;rw [hcell];refine xq (M:=p+2) (exa:=false) hn aa hp aa aa f0 fZ (by grind) hW.symm aa aa rfl rfl ?_ rfl rfl rfl rfl aa rfl;intro x hx
  simp only [List.set_cons_zero,List.set_cons_succ,Zr,Y6,or_false] at hx;rcases hx with rfl | rfl | rfl | rfl | rfl | rfl | rfl | rfl | rfl <;> rfl
end Go.Vm
namespace Go.Vm
open Go Go.Am Go.Big
@[simp] theorem Uf (a:Acc) (n:Nat) (c:List D):a.v (n+1) c=.ref a.s (a.e+1) 0 (n+1) (n+1) c.length:=id rfl
@[simp] theorem Ug (a:Acc) (n:Nat) (c:List D):a.b (n+1) c=(a.e+1,.data a.n c false false):=id rfl
theorem vL (k:Nat):Z ^ k=10 ^ (9*k):=by rw [Nat.pow_mul];rfl
theorem Iw {n:Nat} (h2:n<18446744073709551616):CP Y F.cU [U n,I 10] (S (ah n)):=by
 refine ql ?_;have hd1:=iT n;have hd2:ndg n<=20:=bi aa aa;have hn:=b6 n;by_cases hs:(n:Int)<100
 ·simp (disch:=try exact ac)[cU,hs];refine cd (Fq (n:=n) aa) ?_;exact dh rfl
 ·have hn0:0<n:=aa;have hit:ah n=cL n (ndg n):=rfl;have hlo:=ww n hn0;generalize ndg n=d at *
  obtain ⟨mid,post,hm,hp,hcell⟩:∃ mid post:List D,mid.length=d∧post.length=24-d∧List.replicate 24 (D.int .u8 0)=[]++(mid++post):=by
   refine ⟨List.replicate d (.int .u8 0),List.replicate (24-d) (.int .u8 0),af,af,?_⟩;rw [List.replicate_append_replicate,show d+(24-d)=24 by omega];rfl
  simp (disch:=try exact ac)[cU,hs];refine cd (uO hlo hn hd1 h2) ?_;simp only [List.replicate] at hcell;rw [hcell];rw [show [(1,Bk.data 1 ([]++(mid++post)) true false),(0,.none)]=cH ([]++(mid++post)) from rfl];rw [Dr aR d rfl aa];simp (disch:=try exact ac)[]
  refine lV (h':=cH ([]++((cL n d).map u8++post))) (R6 (pre:=[]) rfl hm aa aa hn h2) ?_ af;rw [Dr (by simp [aV];omega) d rfl aa];simp (disch:=try exact ac)[];rw [IF (bs:=cL n d) (by simp [aV];omega) aa (by simp [aV,List.take_append,Zw]) (by simp [aV])];rw [hit]
  try simp (disch:=try exact ac)[]
  exact dh rfl
theorem GE {n:Nat} (h:n<18446744073709551616):CP Y F.eC [U n,I 10] (S (ah n)):=by
 refine rq ?_;simp (disch:=try exact ac)[eC];refine cd (Iw h) ?_;exact dh rfl
theorem wt {n:Nat} (h:n<18446744073709551616):CP Y F.gI [U n] (S (ah n)):=by
 refine Ew ?_;simp (disch:=try exact ac)[gI];refine cd (GE h) ?_;exact dh rfl
theorem sV:∀ (l:List UInt8) (a:Nat),lW a l=dR a l
 | [],_=>rfl
 | c::l,a=>sV l _
theorem digit_eq (c:UInt8):kN c=mC c:=by
 simp only [kN,mC];rw [Yr];simp
theorem Ld {n:Nat} (h:n<10000000000000000000):CP Y F.dW [S (ah n),I 10,I 64] (.tup [U n,.d (.pl .nilIface)]):=by
 have hd:=cV n;have hc:=oE n
 have hl:(ah n).length<=1000:=by
  have:=bi (n:=n) (d:=19) aa ae;rw [ah,aV];omega
 simp only [mX,Z8] at hc
 have hall:(ah n).all kN=true:=by
  rw [<- hc.1.2];congr 1;funext c;exact digit_eq c
 have ho:Y.X.orc F.dW [.string ⟨⟨ah n⟩⟩,.int .i64 10,.int .i64 64]=some (.tuple #[.int .u64 n,.nilIface]):=by
  have e:∀ a,Y.X.orc F.dW a=FY a:=fun a=>by
   show (match Nat.beq F.dW F.dW with | true=>FY a | false=>none)=_
   rw [Yb]
  rw [e];unfold FY;simp only;rw [if_pos ⟨trivial,trivial,rR n,hall,hl,by rw [sV,hd];exact h⟩,sV,hd]
 exact CP.orc ho (by intro x hx;simp only [Zr,Y6,or_false] at hx;rcases hx with rfl | rfl | rfl <;> rfl) rfl
theorem vY {n:Nat} (h:n<10000000000000000000):CP Y F.gn [S (ah n)] (.tup [U n,B true]):=by
 refine xY ?_;simp (disch:=try exact ac)[gn];refine cd (Ld h) ?_;simp (disch:=try exact ac)[D4];exact av (uu _ _) rfl
theorem jq (n:Nat):ko (S (ah n))=some (I (ndg n)):=by
 show some (I (ah n).length)=_
 rw [ah,aV]
theorem yH (a b:Nat):CP Y F.d7 [S (ah a),S (ah b)] (if ndg a<=18∧ndg b<=18 then .tup [U a,U b,B true] else .tup [U 0,U 0,B false]):=by
 refine Ay ?_;have la:=jq a;have lb:=jq b;by_cases h1:18<ndg a
 ·rw [if_neg aa];simp (disch:=try exact ac)[d7,la,lb,h1];exact gY (uu _ _) (uu _ _) rfl
 by_cases h2:18<ndg b
 ·rw [if_neg aa];simp (disch:=try exact ac)[d7,la,lb,h1,h2];exact gY (uu _ _) (uu _ _) rfl
 ·rw [if_pos aa];have ha:a<10000000000000000000:=by have:=b6 a;have:=Z4 (n:=10) ae (show ndg a<=18 by omega);omega
  have hb:b<10000000000000000000:=by have:=b6 b;have:=Z4 (n:=10) ae (show ndg b<=18 by omega);omega
  simp (disch:=try exact ac)[d7,la,lb,h1,h2];refine cd (vY ha) ?_;simp (disch:=try exact ac)[];refine cd (vY hb) ?_;simp (disch:=try exact ac)[];exact gY (uu _ _) (uu _ _) rfl
theorem R9 (l:List UInt8) (h:Hp) (k:V->Hp->Prop):cvB (S l) h k=k (lst u8 l) h:=rfl
section
variable {h:Hp}
theorem O4 {C0:Nat} (l:List UInt8) (hl:l.length<=9) (hd:l.all mC=true) (k:KL) (h0 H:Hp) (hh:h0.length=H.length):∀ (q p:List UInt8),p++q=l->k (.exit 2) [U (dR 0 l:Nat)] H ->
  lp (lS (CX Y) h.length (lst u8 l) (I l.length)) [] h0 [U (dR 0 p:Nat),I p.length] H k
 | []=>by
  intro p hp hk;simp at hp;subst hp;refine ax ?_;simp (disch:=try exact ac)[lS];exact hk
 | c::q=>by
  intro p hp hk;have hpl:p.length<l.length:=by subst hp;simp
  have hc:nth 0 l p.length=c:=by subst hp;simp
  have hcd:mC c=true:=by
   rw [Zv] at hd;exact hd c (by subst hp;simp)
  rw [jh] at hcd
  have hpd:p.all mC=true:=by
   rw [Zv] at hd ⊢;exact fun x hx=>hd x (by subst hp;simp [hx])
  have e1:=fun h:Hp=>dP u8 l h (k:=.i64) (i:=(p.length:Int)) aa aa
  have e2:=fun h:Hp=>eZ u8 0 l h (j:=p.length) hpl
  rw [hc] at e2;simp only [Int.toNat_natCast] at e1;have hb:=pK p 0 hpd
  have hb2:dR 0 p<1000000000:=by
   have:=Z4 (n:=10) ae (show p.length<=8 by omega);omega
  have e3:dR 0 (p++[c])=10*dR 0 p+(c.toNat-48):=by
   rw [qm];simp only [dR,List.foldl_cons,List.foldl_nil];omega
  have ih:=O4 (C0:=C0) l hl hd k h0 H hh q (p++[c]) (by simpa using hp) hk;rw [e3] at ih;obtain ⟨t,ht⟩:∃ t,dR 0 p=t:=⟨_,rfl⟩;rw [ht] at ih hb2 ⊢;have e4:(10:Int)*(t:Int)+((c.toNat:Int)-48)=((10*t+(c.toNat-48):Nat):Int):=aa;obtain ⟨t2,ht2⟩:∃ t2,10*t+(c.toNat-48)=t2:=⟨_,rfl⟩;rw [ht2] at ih e4;have hcb:=hcd.1;have hcb2:=hcd.2;refine ax ?_
  simp (disch:=try exact ac)[lS,e1,e2,u8,e4];simpa [hh] using ih
def cuH (h:Hp) (l:List Nat):Hp:=h++[(1,.data 1 (l.map u6) true false),(0,.none),(0,.none)]
theorem Kg (h:Hp) (l:List Nat):(cuH h l)[h.length]? = some (1,.data 1 (l.map u6) true false):=by simp [cuH]
theorem Q6 (h:Hp) (l l':List Nat):(cuH h l).set h.length (1,.data 1 (l'.map u6) true false)=cuH h l':=by simp [cuH]
@[simp] theorem Q7 (h:Hp) (l:List Nat):(cuH h l).length=h.length+3:=by simp [cuH]
theorem O3 (T:List UInt8) (cap:Nat) (hL:T.length<9000000000) (k:KL) (h0:Hp) (hh:h0.length=h.length+3):∀ (w n:Nat) (E:Int) (d:List Nat),(0<w->E=w)->(w=0->E<=0)->-20<=E->T.take w=cL n w->w<=T.length->d.length+(w+8) / 9<=cap->cap<1000000000000->n<10 ^ w->aD Z d ->
  (∀ d':List Nat,aD Z d'->d'.length<=cap->val Z d'=val Z d+Z ^ d.length*n->k (.exit 0) [.ref h.length 1 0 d'.length cap cap] (cuH h (d'++List.replicate (cap-d'.length) 0))) ->
  lp (lT (CX Y) h.length (S T)) [] h0 [.ref h.length 1 0 d.length cap cap,I E] (cuH h (d++List.replicate (cap-d.length) 0)) k:=by
 intro w
 induction w using Nat.strongRecOn with
 | _ w ih=>
  intro n E d hE1 hE0 hEl hT hwT hw hcap hn hs hk;by_cases h0w:w=0
  ·subst h0w;have hE:=hE0 rfl;have g:¬ 0<E:=aa;simp at hn;subst hn;refine ax ?_;simp (disch:=try exact ac)[lT,g];exact hk d hs aa af
  ·obtain rfl:=hE1 aa
   obtain ⟨v,u,hv1,hv9,hvw,hu,huv⟩:∃ v u:Nat,1<=v∧v<=9∧w=u+v∧mx2 true 0 ((w:Int)-9)=u∧(u=0∨v=9):=by
    by_cases h9:w<=9
    ·exact ⟨w,0,aa,h9,aa,by simp [mx2];omega,.inl rfl⟩
    ·exact ⟨9,w-9,aa,aa,aa,by simp [mx2];omega,.inr rfl⟩
   have hD:=vC v u n;rw [<- hvw] at hD;have hlu:=aV u (n / 10 ^ v)
   have e1:(T.take w).drop u=cL (n % 10 ^ v) v:=by
    rw [hT,hD,Ww hlu];have:=vB v (n % 10 ^ v) (n / 10 ^ v);rw [X3] at this;exact this
   have e2:T.take u=cL (n / 10 ^ v) u:=by
    have:T.take u=(T.take w).take u:=by rw [List.take_take,Y4 aa]
    rw [this,hT,hD,Yi hlu]
   have hp:0<10 ^ v:=Yk ae;have hm:=Y3 n hp
   have hZv:10 ^ v<=Z:=by
    have:10 ^ v<=10 ^ 9:=Z4 ae hv9;exact this
   have hnu:n / 10 ^ v<10 ^ u:=Xa (by rw [hvw,Nat.add_comm,Yy] at hn;exact hn)
   have hval:n % 10 ^ v+Z*(n / 10 ^ v)=n:=by
    have:=X3 n (10 ^ v);rcases huv with rfl | rfl
    ·rw [Nat.pow_zero] at hnu;have h3:n / 10 ^ v=0:=Nat.lt_one_iff.1 hnu;rw [h3] at this ⊢;simpa using this
    ·exact this
   have hdc:d.length<cap:=aa
   have ihh:=ih u aa (n / 10 ^ v) ((w:Int)-9) (d++[n % 10 ^ v]) (fun h=>by rcases huv with h1 | h1 <;> omega) (fun h=>by omega) aa e2 aa aR hcap hnu (hs.snoc (Z1 hm hZv)) (fun d' h1 h2 h3=>hk d' h1 h2 (by
    rw [h3,E6,Zg,List.length_singleton,Nat.pow_succ,Nat.mul_assoc,Xo,<- Zp,hval]))
   have hr:=sS v (n % 10 ^ v) hm;have hall:=rY v (n % 10 ^ v);have hlv:=aV v (n % 10 ^ v)
   have esl:slS (S T) (some (I u)) (some (I w))=some (S (cL (n % 10 ^ v) v)):=by
    rw [HA u w rfl rfl aa hwT,<- e1,List.drop_take]
   obtain ⟨r,hre⟩:∃ r,n % 10 ^ v=r:=⟨_,rfl⟩;rw [hre] at esl hr hall hlv ihh;generalize cL r v=L at *
   have hli:∀ h:Hp,eY 1 [D.int .u64 0] [(0,U r)] h=some ([u6 r],h):=fun h=>by
    simp [eY,iS,kI,toD,u6]
   have hcell:(d++List.replicate (cap-d.length) 0).take d.length++[r]++(d++List.replicate (cap-d.length) 0).drop (d.length+1)=(d++[r])++List.replicate (cap-(d++[r]).length) 0:=by
    rw [Yi rfl]
    have:List.replicate (cap-d.length) 0=0::List.replicate (cap-d.length-1) 0:=by
     rw [<- List.replicate_succ];congr 1;omega
    rw [this,<- List.drop_drop,Ww rfl];rw [show cap-d.length-1=cap-(d++[r]).length by simp;omega];simp
   have hcl:(d++List.replicate (cap-d.length) 0).length=cap:=by simp;omega
   have aO:=Kg h (d++List.replicate (cap-d.length) 0);have gp:0<(w:Int):=aa;clear hk ih hval;refine ax ?_;simp (disch:=try exact ac)[lT,gp,mxI,hu,esl];rw [R9];simp (disch:=try exact ac)[];refine lo (O4 (C0:=0) L aa hall _ _ _ rfl L [] rfl ?_);rw [hr];simp (disch:=try exact ac)[hli]
   refine IS aO hcl hdc ?_;rw [hcell,Q6];simp (disch:=try exact ac)[hh];simpa using ihh
theorem Na {s by_:Nat} {z:D} {h:Hp} {i e:Nat} {b:Bk} {k:V->Hp->Prop} {u:PU k} (hs:h[s]? = some (e,b)) (hb:(by_:Int)*i<=281474976710656) (h1:(i:Int)<=9223372036854775807)
  (hk:k (.ref s (e+1) 0 0 i i) (h.set s (e+1,.data 1 (List.replicate i z) true false))):rh (mkS s by_ [z] h (.d (.int .i64 0)) (.d (.int .i64 i))) k u:=by
 unfold rh;simp only [mkS];rw [if_pos ⟨Int.le_refl _,aa,af,hb,h1⟩];simp only [new,hs,zz,Y8,Int.toNat_natCast];exact hk
theorem pd (hu:(h.all fun x=>dO h.length x.2)=true) {n:Nat} (hb:ndg n<900000000) {cap:Nat} (hcap:cap=ndg n / 9+1) :
  CI Y F.bW [S (ah n)] h (.new 1 ((aY cap n).map u6) true (dig Z n).length cap) h:=by
 refine BE ?_;have hl:=jq n;have hlT:(ah n).length=ndg n:=by rw [ah,aV]
 have e1:((ndg n:Nat):Int) / 9+1=(cap:Int):=aa
 have e3:(h++[(1,Bk.data 1 (List.replicate cap (D.int IntKind.u64 0)) true false),(0,.none),(0,.none)])=cuH h ([]++List.replicate (cap-([]:List Nat).length) 0):=by
  simp [cuH,u6]
 have e4:(h++[(0,Bk.none),(0,Bk.none),(0,Bk.none)]).set h.length (1,Bk.data 1 (List.replicate cap (D.int IntKind.u64 0)) true false)=cuH h ([]++List.replicate (cap-([]:List Nat).length) 0):=by
  simp [cuH,u6]
 have hcap2:cap<1000000000000:=aa;simp (disch:=try exact ac)[bW,hl,Zy,e1];refine Na (e:=0) (b:=.none) af aa aa ?_;simp (disch:=try exact ac)[hl]
 try rw [e4]
 try rw [e3]
 refine lo (O3 (ah n) cap aa _ _ (Q7 ..) (ndg n) n (ndg n) [] (fun _=>rfl) (fun h=>by have:=iT n;omega) aa (by rw [<- hlT,Xl];rw [hlT];rfl) aa aR hcap2 (b6 n) (fun x hx=>by cases hx) fun d hs hdl hv=>?_);simp only [iB];have hv':val Z d=n:=by rw [hv];simp [val]
 obtain ⟨o,ho⟩:∃ o,d++List.replicate (cap-d.length) 0=o:=⟨_,rfl⟩;have hol:o.length=cap:=by rw [<- ho];simp;omega
 have hos:aD Z o:=by
  rw [<- ho];exact hs.append fun x hx=>by rw [Xi] at hx;rw [hx.2];exact bg
 have hov:val Z o=n:=by rw [<- ho,PP,hv']
 rw [ho];have hfix:o=aY cap n:=by rw [<- hov,<- hol];exact yB o hos
 have hu2:((cuH h o).all fun x=>dO (cuH h o).length x.2)=true:=by
  have hm:(h.all fun x=>dO (cuH h o).length x.2)=true:=IT af hu;rw [cuH,Xr,<- cuH,hm];rfl
 have htk:o.take d.length=d:=by rw [<- ho,Yi rfl]
 have tr:=pu hu2 (Kg h o) hol.symm (len:=d.length) (cap:=cap) (Z7 _) hcap2 hdl;rw [htk,<- nI au hs,hv'] at tr;refine lV tr ?_ af;rw [<- hfix];refine ⟨by simp [cuH],by simpa using hu,.inr (.inr (.inl ⟨h.length,1,_,cap,1,o.map u6,true,by simp [hol],Z7 _,by simp [aO,cuH],rfl⟩))⟩
end
end Go.Vm
namespace Go.Vm
open Go Go.Am Go.Big
section
variable {h:Hp} {s e tot:Nat} {l:List UInt8} {ex fr:Bool}
theorem ix8 (hg:h[s]? = some (e,.data 1 (l.map u8) ex fr)) (ht:tot=l.length) {len cap:Nat} {i:Int} (h0:0<=i) (h1:i<len) (k:IntKind):ixV h 1 (.ref s e 0 len cap tot) (.d (.int k i))=some (.ptr s e i.toNat tot):=by
 grind [ixV,dM]
theorem ld8 (hg:h[s]? = some (e,.data 1 (l.map u8) ex fr)) (ht:tot=l.length) {j:Nat} (hj:j<l.length):ld1 h (.ptr s e j tot)=some (.d (u8 (nth 0 l j))):=by
 have e1:tot=(l.map u8).length:=by simp [ht]
 grind [ld1,dM,gD]
theorem st8 (hg:h[s]? = some (e,.data 1 (l.map u8) ex false)) (ht:tot=l.length) {j:Nat} (hj:j<l.length) (x:UInt8):st h 1 (.ptr s e j tot) (.d (u8 x))=some (h.set s (e,.data 1 ((l.set j x).map u8) ex false)):=by
 have e1:(l.map u8).take j++[u8 x]++(l.map u8).drop (j+1)=(l.set j x).map u8:=by
  rw [List.map_set,Xv,if_pos (by grind)];simp
 simp only [st,if_true,sto,dM hg,kI,toD];rw [if_pos ⟨trivial,by grind,by grind⟩];simp only [du,List.length_singleton];rw [<- e1];rfl
theorem ap8 {s' cap len:Nat} {x:UInt8} {q:V->Hp->Prop} {u:PU q} (hg:h[s]? = some (e,.data 1 (l.map u8) ex false)) (hold:l.length=cap) (hl:len<cap)
  (hq:q (.ref s e 0 (len+1) cap cap) (h.set s (e,.data 1 ((l.take len++[x]++l.drop (len+1)).map u8) ex false))):rh (apV false s' 1 1 (.ref s e 0 len cap cap) (.d (.sl 1 [u8 x])) h) q u:=by
 unfold rh apV;simp only [cellsOf];rw [if_pos af];unfold apC;rw [if_neg aa];simp only [dM hg];rw [if_pos ⟨trivial,by grind,aa,by grind,af⟩,if_pos aa]
 simp_all
end
def s8 (h:Hp) (s e:Nat) (ex:Bool) (l:List UInt8):Hp:=h.set s (e,.data 1 (l.map u8) ex false)
theorem MK {h:Hp} {s e:Nat} {ex:Bool} {l:List UInt8} (hs:s<h.length):(s8 h s e ex l)[s]? = some (e,.data 1 (l.map u8) ex false):=by simp [s8,hs]
theorem MJ {h:Hp} {s e:Nat} {ex:Bool} {l l':List UInt8}:(s8 h s e ex l).set s (e,.data 1 (l'.map u8) ex false)=s8 h s e ex l':=by simp [s8]
@[simp] theorem WX {h:Hp} {s e:Nat} {ex:Bool} {l:List UInt8}:(s8 h s e ex l).length=h.length:=by simp [s8]
theorem NL {l:List UInt8} {m n:Nat} {v:UInt8} (hm:m<l.length):nth 0 (l.set m v) n=if m=n then v else nth 0 l n:=by
 grind [nth]
theorem Nb {h:Hp} {s e tot:Nat} {ex:Bool} (hs:s<h.length) {L cap:Nat} (hL:L<=tot) (htb:tot<1000000000000) (l0:List UInt8) (k:KL) (h0:Hp) (hh:h0.length=h.length) :
  ∀ (r i:Nat) (l:List UInt8),L<=2*i+r->2*i<=L+1->l.length=tot->(∀ m,m<L->(m<i∨L-1-m<i)->nth 0 l m=nth 0 l0 (L-1-m))->(∀ m,m<L->i<=m->i<=L-1-m->nth 0 l m=nth 0 l0 m)->(∀ m,L<=m->nth 0 l m=nth 0 l0 m) ->
  (∀ l':List UInt8,l'.length=tot->(∀ m,m<L->nth 0 l' m=nth 0 l0 (L-1-m))->(∀ m,L<=m->nth 0 l' m=nth 0 l0 m)->k (.exit 0) [] (s8 h s e ex l')) ->
  lp (cI (CX Y) h.length (.ref s e 0 L cap tot)) [] h0 [I i,I ((L:Int)-1-i)] (s8 h s e ex l) k:=by
 intro r
 induction r with
 | zero=>
  intro i l hr hi hl h1 h2 h3 hk;refine ax ?_;have g:¬ ((i:Int)<(L:Int)-1-i):=aa;simp (disch:=try exact ac)[cI,g];exact hk l hl (fun m hm=>h1 m hm aa) h3
 | succ r ih=>
  intro i l hr hi hl h1 h2 h3 hk;by_cases g:i+i+1<L
  ·obtain ⟨j,hj⟩:∃ j,L-1-i=j:=⟨_,rfl⟩;have g':((i:Int)<(L:Int)-1-i):=aa;have ej:(L:Int)-1-i=(j:Int):=aa;have hgt:=MK (e:=e) (ex:=ex) (l:=l) hs;have a1:=ix8 hgt hl.symm (len:=L) (cap:=cap) (i:=(j:Int)) aa aa .i64;have a2:=ld8 hgt hl.symm (j:=j) aa;have b1:=ix8 hgt hl.symm (len:=L) (cap:=cap) (i:=(i:Int)) aa aa .i64
   have b2:=ld8 hgt hl.symm (j:=i) aa;have b3:=st8 hgt hl.symm (j:=i) aa (nth 0 l j);rw [MJ] at b3;have hgt2:=MK (e:=e) (ex:=ex) (l:=l.set i (nth 0 l j)) hs;have c1:=ix8 hgt2 (by simpa using hl.symm) (len:=L) (cap:=cap) (i:=(j:Int)) aa aa .i64;have c3:=st8 hgt2 (by simpa using hl.symm) (j:=j) aR (nth 0 l i);rw [MJ] at c3
   simp only [Int.toNat_natCast] at a1 b1 c1
   have nn:∀ m,nth 0 ((l.set i (nth 0 l j)).set j (nth 0 l i)) m=if j=m then nth 0 l i else if i=m then nth 0 l j else nth 0 l m:=fun m=>by
    rw [NL aR,NL aa]
   have ihh:=ih (i+1) ((l.set i (nth 0 l j)).set j (nth 0 l i)) aa aa (by simpa using hl) (fun m hm hc=>by
    rw [nn];by_cases e1:j=m
    ·rw [if_pos e1,h2 i aa (Z7 _) aa];congr 1;omega
    ·rw [if_neg e1];by_cases e2:i=m
     ·rw [if_pos e2,h2 j aa aa aa];congr 1;omega
     ·rw [if_neg e2];exact h1 m hm aa) (fun m hm hc hc2=>by
    rw [nn,if_neg aa,if_neg aa];exact h2 m hm aa aa) (fun m hm=>by
    rw [nn,if_neg aa,if_neg aa];exact h3 m hm) hk
   have e2:(j:Int)-1=(L:Int)-1-((i+1:Nat):Int):=aa;rw [<- e2] at ihh;clear hk ih;refine ax ?_;rw [ej] at g' ⊢;simp (disch:=try exact ac)[cI,g',a1,a2,b1,b2,b3,c1,c3];simpa [hh] using ihh
  ·refine ax ?_;have g':¬ ((i:Int)<(L:Int)-1-i):=aa;simp (disch:=try exact ac)[cI,g']
   exact hk l hl (fun m hm=>by
    by_cases hc:m<i∨L-1-m<i
    ·exact h1 m hm hc
    ·rw [h2 m hm aa aa];congr 1;omega) h3
theorem YE {x y:List UInt8} (hl:x.length=y.length) (h:∀ c,c<x.length->nth 0 x c=nth 0 y c):x=y:=by
 grind [List.ext_getElem,gD]
theorem P9 {h:Hp} (hu:(h.all fun x=>dO h.length x.2)=true) {s e tot:Nat} {ex:Bool} (hs:s<h.length) {L cap:Nat} (hL:L<=tot) (htb:tot<1000000000000) {l:List UInt8} (hl:l.length=tot) :
  CI Y F.bA [.ref s e 0 L cap tot] (s8 h s e ex l) (.tup []) (s8 h s e ex ((l.take L).reverse++l.drop L)):=by
 refine nZ ?_;simp (disch:=try exact ac)[bA];have e1:(L:Int)-1=(L:Int)-1-((0:Nat):Int):=aa;rw [e1]
 have:=Nb (h:=h) (s:=s) (e:=e) (ex:=ex) hs (cap:=cap) hL htb l (exK [(.exit 0,fun l3 h_1=>rL (List.length (s8 h s e ex l)) (.tup []) (s8 h s e ex ((l.take L).reverse++l.drop L)) (.tup []) h_1)]) (s8 h s e ex l) af L 0 l aa aa hl (fun m hm hc=>by omega) (fun m _ _ _=>rfl) (fun m _=>rfl) fun l' hl' h1 h2=>by
  have hE:l'=(l.take L).reverse++l.drop L:=by
   refine YE (by grind) fun c hc=>?_
   by_cases hcL:c<L
   ·rw [h1 c hcL,gD _ _ _ aa,gD _ _ _ (by grind)]
    grind
   ·rw [h2 c aa,gD _ _ _ aa,gD _ _ _ (by grind)]
    grind
  subst hE;simp only [iB];refine ⟨(Zw af).symm,?_,.inl ⟨rfl,rfl⟩⟩;rw [Zv] at hu ⊢;intro x hx;rcases Yv hx with h | h
  ·simpa using hu x h
  ·rw [h];rfl
 trivial
def tH (l:List UInt8):Hp:=[(1,.data 1 (l.map u8) true false),(0,.none),(0,.none)]
theorem Mm (l:List UInt8):(tH l)[0]? = some (1,.data 1 (l.map u8) true false):=rfl
@[simp] theorem WO (l:List UInt8):(tH l).length=3:=rfl
theorem Ml (l l':List UInt8):(tH l).set 0 (1,.data 1 (l'.map u8) true false)=tH l':=rfl
theorem Ja {p:List Nat} {i N:Nat} (hi:i<p.length) (hp:p.length<100000000) (hN:N<1000000000000) (k:KL) (h0:Hp) (hh:h0.length=3):∀ (w j x:Nat) (bs:List UInt8),
  (i+1<p.length∧j+w=9∨¬ i+1<p.length∧j+w<=9∧x<10 ^ w∧(0<w->10 ^ (w-1)<=x))->x<1000000000->bs.length+w<=N ->
  k (.exit 2) [.ref 0 1 0 (bs.length+w) N N] (tH (bs++(cL x w).reverse++List.replicate (N-(bs.length+w)) 0)) ->
  lp (b9 (CX Y) (lst u6 p) (I i)) [] h0 [.ref 0 1 0 bs.length N N,U x,I j] (tH (bs++List.replicate (N-bs.length) 0)) k
 | 0,j,x,bs=>by
  intro hc hx hb hk;have lp':bq (lst u6 p)=some (I p.length):=rfl;refine ax ?_;rcases hc with ⟨g1,g2⟩ | ⟨g1,g2,g3,g4⟩
  ·have g5:¬ ((j:Int)<9):=aa;simp (disch:=try exact ac)[b9,g5]
   grind [cL]
  ·have x0:x=0:=by simpa using g3
   subst x0;have g1':¬ ((i:Int)+1<(p.length:Int)):=aa;by_cases g5:(j:Int)<9
   ·simp (disch:=try exact ac)[b9,g5,lp',g1']
    grind [cL]
   ·simp (disch:=try exact ac)[b9,g5]
    grind [cL]
 | w+1,j,x,bs=>by
  intro hc hx hb hk;have lp':bq (lst u6 p)=some (I p.length):=rfl;have g5:(j:Int)<9:=aa;have hdg:u8 (dg (x % 10))=.int .u8 (48+((x % 10:Nat):Int)):=I4 (Y3 _ ae);obtain ⟨m,hm⟩:∃ m,x % 10=m:=⟨_,rfl⟩;obtain ⟨d,hd⟩:∃ d,x / 10=d:=⟨_,rfl⟩;have hm10:m<10:=aa;have e1:(x:Int) % 10=(m:Int):=aa;have e2:(x:Int) / 10=(d:Int):=aa;rw [hm] at hdg
  have hdec:(cL x (w+1)).reverse=dg m::(cL d w).reverse:=by rw [cL,hd,hm];simp
  have ih:=Ja hi hp hN k h0 hh w (j+1) d (bs++[dg m]) (by
   rcases hc with ⟨g1,g2⟩ | ⟨g1,g2,g3,g4⟩
   ·exact .inl ⟨g1,aa⟩
   ·refine .inr ⟨g1,aa,?_,fun hw=>?_⟩
    ·omega
    ·have:=g4 aa;rw [<- hd,Xe ae,<- Nat.pow_succ,show (w-1).succ=w+1-1 by omega];omega) aa (by grind) (by
   grind)
  have hcell:(bs++List.replicate (N-bs.length) 0).take bs.length++[dg m]++(bs++List.replicate (N-bs.length) 0).drop (bs.length+1)=(bs++[dg m])++List.replicate (N-(bs++[dg m]).length) 0:=by
   rw [Yi rfl]
   have:List.replicate (N-bs.length) (0:UInt8)=0::List.replicate (N-bs.length-1) 0:=by
    rw [<- List.replicate_succ];congr 1;omega
   rw [this,<- List.drop_drop,Ww rfl];rw [show N-bs.length-1=N-(bs++[dg m]).length by grind];simp
  have hcl:(bs++List.replicate (N-bs.length) 0).length=N:=by simp;omega
  have hli:∀ h:Hp,eY 1 [D.int .u8 0] [(0,.d (.int .u8 (48+(m:Int))))] h=some ([u8 (dg m)],h):=fun h=>by
   simp_all [eY,iS,kI,toD]
  have hx0:¬ i+1<p.length->0<(x:Int):=fun h=>by
   grind
  clear hk;refine ax ?_;by_cases g1:(i:Int)+1<(p.length:Int)
  ·simp (disch:=try exact ac)[b9,g5,lp',g1,Zt,Zy,e1,e2,hli];refine ap8 (Mm _) hcl aa ?_;rw [hcell];simp only [Ml];simp (disch:=try exact ac)[Zt,Zy,e2]
   simp_all
  ·have g3:=hx0 aa;simp (disch:=try exact ac)[b9,g5,lp',g1,g3,Zt,Zy,e1,e2,hli];refine ap8 (Mm _) hcl aa ?_;rw [hcell];simp only [Ml];simp (disch:=try exact ac)[Zt,Zy,e2]
   simp_all
end Go.Vm
namespace Go.Vm
open Go Go.Am Go.Big
theorem Vj {l:List UInt8} {L N:Nat} (hl:l.length=N) (hL:L<=N):cvT (tH l) (.ref 0 1 0 L N N)=some (S (l.take L)):=by
 simp only [cvT,cellsOf,tH,aO];simp [hl,hL,<- List.map_take,wS]
def txS (p:List Nat) (i:Nat):List UInt8:=if i<p.length then (cL (val Z (p.take i)) (9*i)).reverse else (ah (val Z p)).reverse
theorem I7 {p:List Nat} (hp:aD Z p) (hne:p≠[]) (i:Nat) (hi:i<=p.length):(txS p i).length<=9*p.length:=by
 unfold txS;split
 ·simp [aV];omega
 ·have h1:=gO (B:=Z) bg hp;rw [vL] at h1;have:=bi h1 (by have:=List.length_pos_iff.2 hne;omega);simp [ah,aV];exact this
theorem Mf {p:List Nat} (hp:aD Z p) (hn:vM p) {i:Nat} (hi:i<p.length) :
  ∃ w,(i+1<p.length∧0+w=9∨¬ i+1<p.length∧0+w<=9∧nth 0 p i<10 ^ w∧(0<w->10 ^ (w-1)<=nth 0 p i))∧txS p (i+1)=txS p i++(cL (nth 0 p i) w).reverse:=by
 obtain ⟨x,hx⟩:∃ x,nth 0 p i=x:=⟨_,rfl⟩;have hxZ:x<Z:=by rw [<- hx];exact hp.getD bg i
 have hv:=tn (B:=Z) p hi;rw [show p.getD i 0=x from hx] at hv;have hlow:=gO (B:=Z) bg (hp.take i);rw [Zn,Y4 aa] at hlow;rw [vL] at hlow hv;obtain ⟨r,hr⟩:∃ r,val Z (p.take i)=r:=⟨_,rfl⟩;rw [hr] at hlow hv;rw [hx];by_cases hl:i+1<p.length
 ·refine ⟨9,.inl ⟨hl,rfl⟩,?_⟩;have hpp:0<10 ^ (9*i):=Yk ae;rw [txS,if_pos hl,txS,if_pos hi,hr,hv,show 9*(i+1)=9+9*i by omega,vC,Yx _ _ hpp,Xm hlow,Zj,vB,List.reverse_append]
 ·have hip:i+1=p.length:=aa
  have hx0:0<x:=by
   have hne:p≠[]:=fun e=>by rw [e] at hi;simp at hi
   have:=hn hne;rw [List.getLast_eq_getElem] at this;rw [<- hx,gD _ _ _ hi];have e:p.length-1=i:=aa;simp only [e] at this;omega
  refine ⟨ndg x,.inr ⟨hl,?_,b6 x,fun _=>ww x hx0⟩,?_⟩
  ·have:ndg x<=9:=bi (by simp only [Z] at hxZ;omega) ae;omega
  ·rw [txS,if_neg hl,txS,if_pos hi,hr]
   have hval:val Z p=r+10 ^ (9*i)*x:=by
    have:p.take (i+1)=p:=Zw aa;rw [<- hv,this]
   rw [hval,Lt hx0 hlow,List.reverse_append];rfl
theorem Jb {p:List Nat} (hp:aD Z p) (hn:vM p) (hne:p≠[]) (hpl:p.length<100000000) (k:KL) (h0:Hp) (hh:h0.length=3) {N:Nat} (hN:N=9*p.length) :
  ∀ (r i:Nat),i+r=p.length->k (.exit 0) [.ref 0 1 0 (txS p p.length).length N N] (tH (txS p p.length++List.replicate (N-(txS p p.length).length) 0)) ->
  lp (fO (CX Y) (lst u6 p) (lst u6 p) (I p.length)) [] h0 [.ref 0 1 0 (txS p i).length N N,I i] (tH (txS p i++List.replicate (N-(txS p i).length) 0)) k
 | 0,i=>by
  intro hi hk;have:i=p.length:=aa;subst this;refine ax ?_;simp (disch:=try exact ac)[fO];exact hk
 | r+1,i=>by
  intro hi hk;have hil:i<p.length:=aa;obtain ⟨w,hw,hst⟩:=Mf hp hn hil;have ih:=Jb hp hn hne hpl k h0 hh hN r (i+1) aa hk;have hlen2:=I7 hp hne (i+1) aa;rw [hst] at ih hlen2;have hlw:(txS p i++(cL (nth 0 p i) w).reverse).length=(txS p i).length+w:=by simp [aV]
  rw [hlw] at ih hlen2;have e1:=fun h:Hp=>dP u6 p h (k:=.i64) (i:=(i:Int)) aa aa
  have e2:=fun h:Hp=>zS p h (j:=i) hil
  simp only [Int.toNat_natCast] at e1;have hxZ:nth 0 p i<1000000000:=by have:=hp.getD bg i;simp only [Z] at this;exact this
  refine ax ?_;simp (disch:=try exact ac)[fO,e1,e2];refine lo (Ja hil hpl aa _ _ rfl w 0 (nth 0 p i) (txS p i) hw hxZ aa ?_);simp (disch:=try exact ac)[hh];simpa using ih
theorem dG:ah 0=[48]:=by
 rw [ah,show ndg 0=1 by unfold ndg;simp];rfl
theorem sw {n:Nat} (hb:(dig Z n).length<100000000):CP Y F.aJ [pcs n] (S (ah n)):=by
 refine qR ?_;obtain ⟨p,hp⟩:∃ p,dig Z n=p:=⟨_,rfl⟩;have hs:aD Z p:=by rw [<- hp];exact bL au n
 have hno:vM p:=by rw [<- hp];exact Ax au n
 have hv:val Z p=n:=by rw [<- hp];exact fF au n
 rw [pcs,hp];rw [hp] at hb;have lP:bq (lst u6 p)=some (I p.length):=rfl;by_cases hne:p=[]
 ·subst hne;have:n=0:=by rw [<- hv];rfl
  subst this;simp (disch:=try exact ac)[aJ,lP];exact dh dG.symm
 ·have hpos:=List.length_pos_iff.2 hne;obtain ⟨N,hN⟩:∃ N,N=9*p.length:=⟨_,rfl⟩;have e9:(9:Int)*(p.length:Int)=(N:Int):=aa;have g1:¬ ((p.length:Int)=0):=aa;have g2:¬ (p.length=0):=aa;have t0:txS p 0=[]:=by rw [txS,if_pos hpos];simp [cL,val]
  have tl:txS p p.length=(ah n).reverse:=by rw [txS,if_neg aa,hv]
  have hln:=I7 hs hne p.length (Z7 _);rw [tl,List.length_reverse] at hln;simp (disch:=try exact ac)[aJ,lP,g1,g2,hne,e9];refine Na (e:=0) (b:=.none) rfl aa aa ?_;simp (disch:=try exact ac)[lP]
  have hz:[(1,Bk.data 1 (List.replicate N (D.int IntKind.u8 0)) true false),(0,.none),(0,.none)]=tH (txS p 0++List.replicate (N-(txS p 0).length) 0):=by
   rw [t0];simp [tH,u8]
  have main:=Jb hs hno hne hb (exK [(.exit 0,fun l7 h=>
   cai (CX Y).i h (.fn F.bA [] []) [(ge l7 0)] 2 fun v8 h=>
   bnd (cvT h (ge l7 0)) fun v9=>
   out (S (ah n)) v9 h)]) (tH (txS p 0++List.replicate (N-(txS p 0).length) 0)) rfl hN p.length 0 aa (by
   simp only [iB,tl,List.length_reverse,JX];obtain ⟨l,hl⟩:∃ l,(ah n).reverse++List.replicate (N-(ah n).length) 0=l:=⟨_,rfl⟩;have hll:l.length=N:=by rw [<- hl];simp;omega
   rw [hl];have rv:=P9 (h:=tH l) rfl (s:=0) (e:=1) (ex:=true) af (L:=(ah n).length) (cap:=N) (tot:=N) aa aa hll
   have hl2:(l.take (ah n).length).reverse++l.drop (ah n).length=ah n++List.replicate (N-(ah n).length) 0:=by
    rw [<- hl,Yi af,Ww af,List.reverse_reverse]
   rw [hl2] at rv;refine lV rv ?_ af
   show bnd (cvT (tH _) _) _
   rw [Vj aR aa,Yi rfl];exact dh rfl)
  rw [t0] at main hz;rw [hz];exact main
theorem CV (a b:List Nat) (hab:a.length=b.length) (hs:a.length<1000000000) (k:KL):∀ i:Nat,i<=a.length->(HX a b i=0->k (.exit 0) [] [])->(HX a b i≠0->k .ret [I (HX a b i)] []) ->
  lp (bX (CX Y) (lst u6 a) (lst u6 b)) [] [] [I ((i:Int)-1)] [] k
 | 0,_,h0,_=>by
  refine ax ?_;simp (disch:=try exact ac)[bX];exact h0 rfl
 | i+1,hi,h0,h1=>by
  have e1:=fun h:Hp=>dP u6 a h (k:=.i64) (i:=(i:Int)) aa aa
  have e2:=fun h:Hp=>zS a h (j:=i) aa
  have e3:=fun h:Hp=>dP u6 b h (k:=.i64) (i:=(i:Int)) aa aa
  have e4:=fun h:Hp=>zS b h (j:=i) aa
  simp only [Int.toNat_natCast] at e1 e3;obtain ⟨x,hx⟩:∃ x,nth 0 a i=x:=⟨_,rfl⟩;obtain ⟨y,hy⟩:∃ x,nth 0 b i=x:=⟨_,rfl⟩;rw [hx] at e2;rw [hy] at e4;simp only [HX,show a.getD i 0=x from hx,show b.getD i 0=y from hy] at h0 h1;have ei:((i+1:Nat):Int)-1=(i:Int):=aa;refine ax ?_;rw [ei];by_cases g1:x<y
  ·have g1':(x:Int)<(y:Int):=aa;rw [if_pos g1] at h1;simp (disch:=try exact ac)[bX,e1,e2,e3,e4,g1'];exact h1 ae
  ·rw [if_neg g1] at h0 h1;have g1':¬ (x:Int)<(y:Int):=aa;by_cases g2:y<x
   ·have g2':(y:Int)<(x:Int):=aa;rw [if_pos g2] at h1;simp (disch:=try exact ac)[bX,e1,e2,e3,e4,g1',g2'];exact h1 ae
   ·have g2':¬ (y:Int)<(x:Int):=aa;rw [if_neg g2] at h0 h1;have:=CV a b hab hs k i aa h0 h1;simp (disch:=try exact ac)[bX,e1,e2,e3,e4,g1',g2'];simpa using this
theorem Q8 {a b:Nat} (ha:(dig Z a).length<1000000000) (hb:(dig Z b).length<1000000000):CP Y F.bJ [pcs a,pcs b] (I (cmp a b)):=by
 refine o5 ?_;have la:bq (pcs a)=some (I (dig Z a).length):=rfl;have lb:bq (pcs b)=some (I (dig Z b).length):=rfl;by_cases hl:(dig Z a).length=(dig Z b).length
 ·have ho:=JF bg (bL au a) (bL au b) (dig Z a).length (Z7 _) aa;rw [Xl,hl,Xl,fF au,fF au,<- hl] at ho;have hli:((dig Z a).length:Int)=((dig Z b).length:Int):=aa;simp (disch:=try exact ac)[bJ,la,lb,hl];refine lo (show lp _ _ _ _ _ _ from ?_);rw [<- hli]
  refine CV (dig Z a) (dig Z b) hl ha _ _ (Z7 _) (fun h0=>?_) (fun h0=>?_)
  ·simp only [iB];exact ci (by rw [<- ho,h0])
  ·simp only [vq,yC,JX];exact ci (by rw [ho])
 ·have hli:¬ ((dig Z a).length:Int)=((dig Z b).length:Int):=aa;rcases Zl (dig Z a).length (dig Z b).length with h | h
  ·have:=Ez au (m:=a) (n:=b) h;have e:cmp a b = -1:=by simp [cmp,this]
   have e2:mx2 false 1 (mx2 true (-1) (((dig Z a).length:Int)-((dig Z b).length:Int))) = -1:=by simp [mx2];omega
   simp (disch:=try exact ac)[bJ,la,lb,hl,mxI,e2];exact ci (by rw [e])
  ·have:=Ez au (m:=b) (n:=a) aa;have e:cmp a b=1:=by unfold cmp;rw [if_neg aa,if_pos this]
   have e2:mx2 false 1 (mx2 true (-1) (((dig Z a).length:Int)-((dig Z b).length:Int)))=1:=by simp [mx2];omega
   simp (disch:=try exact ac)[bJ,la,lb,hl,mxI,e2];exact ci (by rw [e])
theorem w5 (h:Hp) (l:List UInt8):bY h (S l)=some (S l,h):=rfl
theorem Kd {n d:Nat} (h:ndg n<=d) (hd:d<90000000):(dig Z n).length<100000000:=by
 have h1:=b6 n;have h2:n<Z ^ d:=Z1 h1 (by rw [vL];exact Z4 ae aa);have:=fN h2;omega
theorem wI {a b:Nat} (hb:0<b) (ha:ndg a<1000000) (hbd:ndg b<1000000):CP Y F.dz [S (ah a),S (ah b)] (.tup [S (ah (a / b)),S (ah (a % b)),I 0]):=by
 refine wN ?_
 have hne:¬ ah b=[48]:=by
  rw [<- dG];intro e;have:=congrArg (dR 0) e;rw [cV,cV] at this;omega
 have hla:=Kd (Nat.le_of_lt ha) ae;have hlb:=Kd (Nat.le_of_lt hbd) ae;have bo:=yH a b;simp (disch:=try exact ac)[dz,hne];by_cases h18:ndg a<=18∧ndg b<=18
 ·rw [if_pos h18] at bo;have ha2:a<1000000000000000000:=by have:=b6 a;have:=Z4 (n:=10) ae h18.1;omega
  refine cd bo ?_;obtain ⟨q,hq⟩:∃ q,a / b=q:=⟨_,rfl⟩;obtain ⟨r,hr⟩:∃ r,a % b=r:=⟨_,rfl⟩;have hqa:q<=a:=by rw [<- hq];exact Yq ..
  have hra:r<=a:=by rw [<- hr];exact Nat.mod_le ..
  have e1:(a:Int) / (b:Int)=(q:Int):=by rw [<- hq];simp
  have e2:(a:Int) % (b:Int)=(r:Int):=by rw [<- hr];simp
  have hb0:¬ ((b:Int)=0):=aa;have hb0':¬ (b=0):=aa;rw [hq,hr];simp (disch:=try exact ac)[hb0,hb0',Zy,Zt,e1,e2];refine cd (wt (n:=q) aa) ?_;simp (disch:=try exact ac)[hb0,hb0',Zy,Zt,e1,e2];refine cd (wt (n:=r) aa) ?_
  exact gY (w5 _ _) (w5 _ _) rfl
 ·rw [if_neg h18] at bo;refine cd bo ?_;obtain ⟨ca,hca⟩:∃ ca,ca=ndg a / 9+1:=⟨_,rfl⟩;obtain ⟨cb,hcb⟩:∃ cb,cb=ndg b / 9+1:=⟨_,rfl⟩;have ltA:a<Z ^ ca:=Z1 (b6 a) (by rw [vL];exact Z4 ae aa);have ltB:b<Z ^ cb:=Z1 (b6 b) (by rw [vL];exact Z4 ae aa)
  have cA:=pd (h:=[(0,.none),(0,.none)]) rfl (n:=a) aa hca;have lA:(aY ca a).length=ca:=cr ..;have lB:(aY cb b).length=cb:=cr ..;have cB:=pd (h:=[(1,.data 1 ((aY ca a).map u6) true false),(0,.none)]) rfl (n:=b) aa hcb;simp (disch:=try exact ac)[];refine kg (gL (e:=0) (b:=.none) cA rfl ?_);rw [List.length_map,lA]
  simp (disch:=try exact ac)[];refine kg (gL (e:=0) (b:=.none) cB rfl ?_);rw [List.length_map,lB];simp (disch:=try exact ac)[];have sA:=rC (h:=[(1,.data 1 ((aY ca a).map u6) true false),(1,.data 1 ((aY cb b).map u6) true false)]) (s:=0) rfl lA.symm (len:=(dig Z a).length) (cap:=ca) (fN ltA) (Z7 _)
  have sB:=rC (h:=[(1,.data 1 ((aY ca a).map u6) true true),(1,.data 1 ((aY cb b).map u6) true false)]) (s:=1) rfl lB.symm (len:=(dig Z b).length) (cap:=cb) (fN ltB) (Z7 _);rw [j5 ltA] at sA;rw [j5 ltB] at sB;simp only [List.set_cons_zero,List.set_cons_succ] at sA sB
  have sAB:aH [(1,.data 1 ((aY ca a).map u6) true false),(1,.data 1 ((aY cb b).map u6) true false)] [.ref 0 1 0 (dig Z a).length ca ca,.ref 1 1 0 (dig Z b).length cb cb]=some ([pcs a,pcs b],[(1,.data 1 ((aY ca a).map u6) true true),(1,.data 1 ((aY cb b).map u6) true true)]):=by
   simp only [aH,sA,sB];rfl
  refine cdz sAB (Q8 (a:=a) (b:=b) aa aa) ?_;rw [show gP (I (cmp a b))=true from rfl,if_pos rfl];by_cases hab:a<b
  ·have hc:cmp a b = -1:=by simp [cmp,hab]
   rw [Xm hab,Yp hab,dG];simp (disch:=try exact ac)[hc];exact gY (w5 _ _) (w5 _ _) rfl
  ·have hc:¬ cmp a b<0:=by unfold cmp;rw [if_neg hab];split <;> decide
   have hlen:(dig Z b).length<=(dig Z a).length:=by
    rcases Zl (dig Z a).length (dig Z b).length with h | h
    ·exact absurd (Ez au h) hab
    ·exact h
   have lq:(dig Z (a / b)).length<100000000:=by
    have:a / b<=a:=Yq ..;have:=fN (Zf this ltA);omega
   have lr:(dig Z (a % b)).length<100000000:=by
    have:a % b<=a:=Nat.mod_le ..;have:=fN (Zf this ltA);omega
   by_cases h1:(dig Z b).length=1
   ·have hbZ:b<Z:=by have:=rQ b;rw [h1,Nat.pow_one] at this;exact this
    obtain ⟨cb',hcb'⟩:∃ c,cb=c+1:=⟨cb-1,aa⟩;have hn0:nth 0 (aY cb b) 0=b:=by rw [hcb',aY];simp [nth,Yp hbZ]
    have r1:=xL (h:=[(1,.data 1 ((aY ca a).map u6) true false),(1,.data 1 ((aY cb b).map u6) true false)]) (s:=1) rfl lB.symm (len:=1) (cap:=cb) (i:=0) aa aa .i64;have r2:=Ek (h:=[(1,.data 1 ((aY ca a).map u6) true false),(1,.data 1 ((aY cb b).map u6) true false)]) (s:=1) rfl lB.symm (j:=0) aa;rw [hn0] at r2
    have r1':ixV [(1,Bk.data 1 ((aY ca a).map u6) true false),(1,.data 1 ((aY cb b).map u6) true false)] 1 (.ref 1 1 0 1 cb cb) (I 0)=some (.ptr 1 1 0 cb):=r1;simp (disch:=try exact ac)[hc,h1,r1',r2]
    refine cdz (ds:=[pcs a,U b]) (h':=[(1,.data 1 ((aY ca a).map u6) true true),(1,.data 1 ((aY cb b).map u6) true false)]) (by simp only [aH,sA,uu];rfl) (Ce (a:=a) (n:=b) aa hb aa) ?_;rw [show gP (.tup [pcs (a / b),U (a % b:Nat)])=false from rfl];simp (disch:=try exact ac)[]
    refine cd (args:=[pcs (a / b)]) (sw lq) ?_ (by simp [aH,pcs]);simp (disch:=try exact ac)[];refine cd (wt (n:=a % b) (by have:=Y3 a hb;simp only [Z] at hbZ;omega)) ?_;exact gY (w5 _ _) (w5 _ _) rfl
   ·have h0:(dig Z b).length≠0:=fun e=>by
     have:=rQ b;rw [e] at this;simp at this;omega
    have h1i:¬ ((dig Z b).length:Int)=1:=aa;simp (disch:=try exact ac)[hc,h1,h1i];refine cdz sAB (IC (P:=a) (Q:=b) aa hlen (by have:=fN ltA;omega)) ?_;rw [show gP (.tup [pcs (a / b),pcs (a % b)])=false from rfl];simp (disch:=try exact ac)[];refine cd (args:=[pcs (a / b)]) (sw lq) ?_ (by simp [aH,pcs])
    simp (disch:=try exact ac)[];refine cd (args:=[pcs (a % b)]) (sw lr) ?_ (by simp [aH,pcs]);exact gY (w5 _ _) (w5 _ _) rfl
end Go.Vm
