/- Pieces of nine digits: divide. -/
import Derived.Test.YtaiahkcmdnaooaaGreatDoorQDcX
import Derived.Test.YtaiahkcmdnaooaaGreatDoorQRefMul
import Derived.Test.YtaiahkcmdnaooaaGreatDoorQRefW
import Derived.Test.YtaiahkcmdnaooaaGreatDoorQStr
import Derived.Test.YtaiahkcmdnaooaaGreatDoorQT
set_option linter.unusedVariables false
set_option linter.unusedSimpArgs false
namespace Go.Vm
open Go Go.Am Go.Big
section
variable {H:Hp} {p7 p8 pa0 pb0 pb1:V} {n i:Nat} {L lD lB x0 x1 x2 y0 y1 D v hi:Nat}
theorem GM (G:Gs Z L lD lB x0 x1 x2 y0 y1 D v hi) (hy1Z:y1<Z) (hhi:hi<Z*Z) (hn:2<=n) (hnb:n<Z) (hib:i<Z)
  (a1:ixV H 1 p7 (I ((i:Int)+(n:Int)-2))=some pa0) (a2:ld1 H pa0=some (U x0)) (b1:ixV H 1 p8 (I ((n:Int)-2))=some pb0) (b2:ld1 H pb0=some (U y0))
  (c1:ixV H 1 p8 (I ((n:Int)-1))=some pb1) (c2:ld1 H pb1=some (U y1)) (k:KL) (h0:Hp) (hh:h0.length=H.length) :
  ∀ (N g r:Nat),g<=N->g*y1+r=hi->D / v<=g->(∀ g':Nat,D / v<=g'->g'*v<D+v->g'<Z->k (.exit 4) [U g'] H) ->
  lp (aM (CX Y) p7 p8 (I n) (I i)) [] h0 [U g,U r] H k:=by
 intro N
 induction N with
 | zero=>
  intro g r hg0 he hq hk;have hZ:Z=1000000000:=rfl;simp only [hZ] at hhi hnb hib;have hg:g=0:=by omega
  have hr:r=hi:=by rw [hg] at he;omega
  have hnear:g*v<D+v:=by have:=G.pos;rw [hg,Wo];omega
  have hgZ:g<Z:=by rw [hg];decide
  have g0:¬ (1000000000:Int)<=(g:Int):=by omega
  have p0:(g:Int)*(y0:Int)=0:=by rw [hg];simp
  have hx0:=G.hx0;simp only [hZ] at hx0;clear he;refine aj ?_;by_cases g1:(r:Int)<1000000000
  ·have g3:¬ (r:Int)*1000000000+x0<0:=by omega
   simp (disch:=first|omega|simp<;>omega|fail)[aM,a1,a2,b1,b2,g0,g1,p0,g3];exact hk g hq hnear hgZ
  ·simp (disch:=first|omega|simp<;>omega|fail)[aM,a1,a2,b1,b2,g0,g1];exact hk g hq hnear hgZ
 | succ N ih=>
  intro g r hgN he hq hk;rcases Zg g with hg0 | hgp
  ·exact ih g r (by omega) he hq hk
  obtain ⟨g,rfl⟩:∃ g',g=g'+1:=⟨g-1,by omega⟩;have hZ:Z=1000000000:=rfl;simp only [hZ] at hhi hnb hib;have hrb:r<=hi:=by omega
  have hgb:g+1<=hi:=by
   have:=Z4 (g+1) G.hy1;omega
  have he2:g*y1+(r+y1)=hi:=by rw [Xu] at he;omega
  have hx0:=G.hx0;have hy0:=G.hy0;have go:D / v<=g->lp (aM (CX Y) p7 p8 (I n) (I i)) [] h0 [U g,U (r+y1:Nat)] H k:=fun hq2=>ih g (r+y1) (by omega) he2 hq2 hk
  obtain ⟨p,hp⟩:∃ p,p=(g+1)*y0:=⟨_,rfl⟩;have hpi:((g:Int)+1)*(y0:Int)=(p:Int):=by rw [hp];simp
  by_cases g1:(1000000000:Int)<=(g:Int)+1
  ·have hq2:=G.far (g:=g+1) (by simp only [hZ];omega);have g1':=g1;have:=go (by omega);refine aj ?_;simp (disch:=first|omega|simp<;>omega|fail)[aM,g1',c1,c2,hh];simpa using this
  have g1':=g1;by_cases g2:(r:Int)<1000000000
  ·have hpb:p<=1000000000*1000000000:=by rw [hp];exact Zs (by omega) (by omega)
   by_cases g3:(r:Int)*1000000000+x0<p
   ·have hq2:=G.over he (by rw [<- hp];simp only [hZ];omega);have g3':=g3;have:=go (by omega);refine aj ?_;simp (disch:=first|omega|simp<;>omega|fail)[aM,a1,a2,b1,b2,g1',g2,hpi,g3',c1,c2,hh];simpa using this
   ·have hn1:=G.near he (by simp only [hZ];omega) (by rw [<- hp];intro h;have:=h.2;simp only [hZ] at this;omega);have g3':=g3;refine aj ?_;simp (disch:=first|omega|simp<;>omega|fail)[aM,a1,a2,b1,b2,g1',g2,hpi,g3',c1,c2,hh];exact hk (g+1) hq hn1 (by simp only [hZ];omega)
  ·have g2':=g2;have hn1:=G.near he (by simp only [hZ];omega) (fun h=>by have:=h.1;simp only [hZ] at this;omega);refine aj ?_;simp (disch:=first|omega|simp<;>omega|fail)[aM,a1,a2,b1,b2,g1',g2',c1,c2,hh];exact hk (g+1) hq hn1 (by simp only [hZ];omega)
end
theorem AK {clr:List Nat}:∀ (i:Nat) (h0 h:Hp),h.length=h0.length->(∀ j,dw clr (i+j)=false->∀ x,h[j]? = some x->∃ b,h0[j]? = some (x.1,b)∧x.2=.none)->ay clr i h0 h=h
 | _,[],h,hl,_=>by
  have:h=[]:=Zl (by simpa using hl);subst this;rfl
 | i,x0::h0,[],hl,_=>by simp at hl
 | i,x0::h0,x::h,hl,hs=>by
  rw [Gf,AK (i+1) h0 h (by simpa using hl) (fun j hj y hy=>hs (j+1) (by rw [show i+(j+1)=i+1+j by omega];exact hj) y hy)];by_cases hc:dw clr i=true
  ·rw [if_pos hc]
  ·rw [if_neg hc];obtain ⟨b,h1,h2⟩:=hs 0 (by simpa using hc) x rfl;simp only [List.getElem?_cons_zero,Z9] at h1;rw [h1];simp only;rw [<- h2]
theorem B8 {clr:List Nat}:∀ (i:Nat) (h:Hp),(∀ x∈h,offB clr x.2=true)->m8 clr i h=true
 | _,[],_=>rfl
 | i,x::h,hs=>by
  rw [JD,hs x (by simp),B8 (i+1) h fun y hy=>hs y (by simp [hy])];simp
def dH (g:Hp) (sa:Nat) (exa:Bool) (al ol:List Nat):Hp:=sP (sP g 4 1 true ol) sa 1 exa al
structure DvH (g:Hp) (sa:Nat) (bl:List Nat):Prop where
 len:g.length=9
 sa:sa<2
 b:g[2]? = some (1,.data 1 (bl.map u6) true false)
 c5:g[5]? = some (0,.none)
 c6:g[6]? = some (0,.none)
 off:∀ x∈g,offB [5,6] x.2=true
 und:(g.all fun x=>dF 9 x.2)=true
section
variable {g:Hp} {sa:Nat} {exa:Bool} {al ol bl:List Nat}
theorem GZ (G:DvH g sa bl):(dH g sa exa al ol).length=9:=by simp [dH,G.len]
theorem Rb (G:DvH g sa bl):(dH g sa exa al ol)[sa]? = some (1,.data 1 (al.map u6) exa false):=m6 (by have:=G.sa;simp [G.len];omega)
theorem Ra (G:DvH g sa bl):(dH g sa exa al ol)[2]? = some (1,.data 1 (bl.map u6) true false):=by
 have:=G.sa;rw [dH,sP,List.getElem?_set_ne (by omega),sP,List.getElem?_set_ne (by omega),G.b]
theorem Q9 (G:DvH g sa bl):(dH g sa exa al ol)[4]? = some (1,.data 1 (ol.map u6) true false):=by
 have:=G.sa;rw [dH,sP,List.getElem?_set_ne (by omega)];exact m6 (by rw [G.len];decide)
theorem Tc {j:Nat} (hj:j=5∨j=6) (G:DvH g sa bl):(dH g sa exa al ol)[j]? = some (0,.none):=by
 have:=G.sa;rw [dH,sP,List.getElem?_set_ne (by omega),sP,List.getElem?_set_ne (by omega)];rcases hj with rfl | rfl
 ·exact G.c5
 ·exact G.c6
theorem OQ (G:DvH g sa bl) {ol':List Nat}:(dH g sa exa al ol).set 4 (1,.data 1 (ol'.map u6) true false)=dH g sa exa al ol':=by
 have:=G.sa;rw [dH,sP,List.set_comm _ _ (by omega)];simp [dH,sP]
theorem MO (G:DvH g sa bl):∀ x∈dH g sa exa al ol,offB [5,6] x.2=true:=by
 intro x hx;rcases Yr hx with h | h
 ·rcases Yr h with h | h
  ·exact G.off x h
  ·rw [h];rfl
 ·rw [h];rfl
theorem Fu (G:DvH g sa bl) {al' ol':List Nat} {ex':Bool}:ay [5,6] 0 (dH g sa ex' al' ol') (dH g sa exa al ol)=dH g sa exa al ol:=by
 refine AK 0 _ _ (by rw [GZ G,GZ G]) fun j hj x hx=>?_
 have hj2:j=5∨j=6:=by
  simp only [Zk,Gw,JE,Wj,beq_lit] at hj;by_cases h5:j=5
  ·exact .inl h5
  ·by_cases h6:j=6
   ·exact .inr h6
   ·exfalso;simp [Ne.symm h5,Ne.symm h6] at hj
 rw [Tc hj2 G] at hx;cases hx;exact ⟨.none,Tc hj2 G,rfl⟩
theorem Tb (G:DvH g sa bl) {n:Nat} (hbl:bl.length=n+1):RdS (fun t=>∃ l,t=sP (sP g 4 1 true ol) sa 1 exa l) (.ref 2 1 0 n (n+1) (n+1)) (bl.take n):=by
 have e1:(bl.take n).length=n:=by simp;omega
 refine ⟨by rw [e1];rfl,?_⟩;rintro t i ⟨l,rfl⟩ hi;have hb:=Ra (exa:=exa) (al:=l) (ol:=ol) G;refine ⟨.ptr 2 1 i (n+1),?_,?_⟩
 ·have:=wH hb hbl.symm (len:=n) (cap:=n+1) (i:=(i:Int)) (by omega) (by omega) .i64
  rwa [Int.toNat_natCast] at this
 ·rw [yq (by omega)];exact Cm hb hbl.symm (by omega)
end
end Go.Vm
namespace Go.Vm
open Go Go.Am Go.Big
theorem MA {l:List Nat} {n:Nat} (h:l.length=n+2):l.drop n=[nth 0 l n,nth 0 l (n+1)]:=by
 rw [Yy (by omega),Yy (by omega),Y9 (by omega),gk _ _ _ (by omega),gk _ _ _ (by omega)]
theorem SX {al db:List Nat} {i n2:Nat} (hsa:au Z al) (hsb:au Z db) (hdl:db.length=n2+2) (hi:i+db.length<al.length) (hy:0<nth 0 db (n2+1)) (hD:val Z (al.drop i)<Z*val Z db) :
  Gs Z (Z ^ n2) (val Z ((al.drop i).take n2)) (val Z (db.take n2)) (nth 0 al (i+n2)) (nth 0 al (i+n2+1)) (nth 0 al (i+n2+2)) (nth 0 db n2) (nth 0 db (n2+1)) (val Z (al.drop i)) (val Z db) (nth 0 al (i+n2+2)*Z+nth 0 al (i+n2+1)):=by
 have hvb:=gF (B:=Z) aS hsb
 have hDlt:val Z (al.drop i)<Z ^ (n2+3):=by
  rw [Nat.pow_succ,Zy (Z ^ (n2+2)),<- hdl];exact Nat.lt_trans hD (Nat.mul_lt_mul_of_pos_left hvb aS)
 have htop:val Z (al.drop (i+n2+3))=0:=by
  rw [show i+n2+3=i+(n2+3) by omega,<- List.drop_drop];exact Do aS hDlt
 have e1:=iV (B:=Z) (al.drop i) n2 (by simp;omega);rw [List.drop_drop,lU al (i+n2),lU al (i+n2+1),lU al (i+n2+1+1),htop,Nat.mul_zero] at e1;simp only [Nat.add_zero] at e1;have e2:=iV (B:=Z) db n2 (by omega);rw [MA hdl] at e2;have l1:=gF (B:=Z) aS ((hsa.drop i).take n2);have l2:=gF (B:=Z) aS (hsb.take n2)
 rw [Zr,Za (by simp;omega)] at l1;rw [Zr,Za (by omega)] at l2;refine ⟨aS,?_,?_,l1,l2,hsa.getD aS _,hsb.getD aS _,hy,hD⟩
 ·rw [e1]
  show _=val Z ((al.drop i).take n2)+Z ^ n2*(al.getD (i+n2) 0+Z*(al.getD (i+n2+2) 0*Z+al.getD (i+n2+1) 0))
  rw [Wn (al.getD (i+n2+2) 0*Z),Zy (al.getD (i+n2+2) 0)]
 ·rw [e2];simp only [val,Nat.mul_zero,Nat.add_zero]
section
variable {g:Hp} {sa:Nat} {exa:Bool} {bl db:List Nat} {n M m A:Nat}
theorem Fq (G:DvH g sa bl) (hdb:bl.take n=db) (hbl:bl.length=n+1) (hsb:au Z db) (hn:2<=n) (hnb:n<Z) (hM:M=m+n) (hMb:M<100000000) (hy:0<nth 0 db (n-1)) (al0 ol0:List Nat) (k:KL) :
  ∀ (i:Nat) (al ol:List Nat),i<=m->al.length=M->ol.length=m->au Z al->au Z ol->val Z (al.drop i)<val Z db->val Z al+val Z db*val Z ol=A->(∀ j,j<i->nth 0 ol j=0) ->
  (∀ al' ol',al'.length=M->ol'.length=m->au Z al'->au Z ol'->val Z al'<val Z db->val Z al'+val Z db*val Z ol'=A->k (.exit 2) [] (dH g sa exa al' ol')) ->
  lp (bZ (CX Y) (.ref sa 1 0 M M M) (.ref 2 1 0 n (n+1) (n+1)) (I n) (.ref 4 1 0 m m m)) [5,6] (dH g sa exa al0 ol0) [I ((i:Int)-1)] (dH g sa exa al ol) k
 | 0,al,ol,hi,hal,hol,hsa,hso,hD,hA,hz,hk=>by
  refine aj ?_;simp (disch:=first|omega|simp<;>omega|fail)[bZ];exact hk al ol hal hol hsa hso (by simpa using hD) hA
 | i+1,al,ol,hi,hal,hol,hsa,hso,hD,hA,hz,hk=>by
  have hdl:db.length=n:=by rw [<- hdb];simp;omega
  obtain ⟨n2,hn2⟩:∃ n2,n=n2+2:=⟨n-2,by omega⟩;have hZ:Z=1000000000:=rfl
  have hD2:val Z (al.drop i)<Z*val Z db:=by
   rw [lU];have h1:=hsa.getD aS i;have h2:=Z4 Z hD;rw [Nat.mul_succ] at h2;omega
  have Gq:=SX (i:=i) hsa hsb (n2:=n2) (by omega) (by omega) (by rw [show n2+1=n-1 by omega];exact hy) hD2;have e0:((i+1:Nat):Int)-1=(i:Int):=by omega
  obtain ⟨x0,hx0⟩:∃ x,nth 0 al (i+n2)=x:=⟨_,rfl⟩;obtain ⟨x1,hx1⟩:∃ x,nth 0 al (i+n2+1)=x:=⟨_,rfl⟩;obtain ⟨x2,hx2⟩:∃ x,nth 0 al (i+n2+2)=x:=⟨_,rfl⟩;obtain ⟨y0,hy0⟩:∃ x,nth 0 db n2=x:=⟨_,rfl⟩;obtain ⟨y1,hy1⟩:∃ x,nth 0 db (n2+1)=x:=⟨_,rfl⟩;have hx1Z:x1<Z:=by rw [<- hx1];exact hsa.getD aS _
  have hx2Z:x2<Z:=by rw [<- hx2];exact hsa.getD aS _
  have hy1Z:y1<Z:=by rw [<- hy1];exact hsb.getD aS _
  rw [hx0,hx1,hx2,hy0,hy1] at Gq;obtain ⟨hi_,hhi⟩:∃ t,x2*Z+x1=t:=⟨_,rfl⟩;rw [hhi] at Gq
  have hhib:hi_<Z*Z:=by
   have:=Z1 Z (show x2+1<=Z by omega);rw [Nat.add_mul] at this;omega
  have nb:∀ j,j<n->nth 0 bl j=nth 0 db j:=fun j hj=>by rw [<- hdb,yq hj]
  have rA:=fun (j:Nat) (hj:j<M)=>wH (Rb (exa:=exa) (al:=al) (ol:=ol) G) hal.symm (len:=M) (cap:=M) (i:=(j:Int)) (by omega) (by omega) .i64
  have lA:=fun (j:Nat) (hj:j<M)=>Cm (Rb (exa:=exa) (al:=al) (ol:=ol) G) hal.symm (j:=j) (by omega)
  have rB:=fun (j:Nat) (hj:j<n)=>wH (Ra (exa:=exa) (al:=al) (ol:=ol) G) hbl.symm (len:=n) (cap:=n+1) (i:=(j:Int)) (by omega) (by omega) .i64
  have lB:=fun (j:Nat) (hj:j<n)=>Cm (Ra (exa:=exa) (al:=al) (ol:=ol) G) hbl.symm (j:=j) (by omega)
  simp only [Int.toNat_natCast] at rA rB;have a0:=rA (i+n2) (by omega);have a0l:=lA (i+n2) (by omega);have a1:=rA (i+n2+1) (by omega);have a1l:=lA (i+n2+1) (by omega);have a2:=rA (i+n2+2) (by omega);have a2l:=lA (i+n2+2) (by omega);have b0:=rB n2 (by omega);have b0l:=lB n2 (by omega);have b1:=rB (n2+1) (by omega);have b1l:=lB (n2+1) (by omega);rw [hx0] at a0l;rw [hx1] at a1l;rw [hx2] at a2l
  rw [nb _ (by omega),hy0] at b0l;rw [nb _ (by omega),hy1] at b1l;have s0:((i+n2:Nat):Int)=(i:Int)+(n:Int)-2:=by omega
  have s1:((i+n2+1:Nat):Int)=(i:Int)+(n:Int)-1:=by omega
  have s2:((i+n2+2:Nat):Int)=(i:Int)+(n:Int):=by omega
  have t0:((n2:Nat):Int)=(n:Int)-2:=by omega
  have t1:((n2+1:Nat):Int)=(n:Int)-1:=by omega
  rw [s0] at a0;rw [s1] at a1;rw [s2] at a2;rw [t0] at b0;rw [t1] at b1;have hy1p:0<y1:=Gq.hy1;have e3:(x2:Int)*1000000000+(x1:Int)=(hi_:Int):=by simp only [hZ] at hhi;omega
  obtain ⟨q0,hq0⟩:∃ q,hi_ / y1=q:=⟨_,rfl⟩;obtain ⟨r0,hr0⟩:∃ q,hi_ % y1=q:=⟨_,rfl⟩;have e4:(hi_:Int) / (y1:Int)=(q0:Int):=by rw [<- hq0];simp
  have e5:(hi_:Int) % (y1:Int)=(r0:Int):=by rw [<- hr0];simp
  have hdm:q0*y1+r0=hi_:=by rw [<- hq0,<- hr0,Zy];exact X6 hi_ y1
  have hq0b:q0<=hi_:=by rw [<- hq0];exact Yi ..
  have hn0:¬ ((y1:Int)=0):=by omega
  have hhib2:hi_<1000000000000000000:=by simp only [hZ] at hhib;omega
  have hx2b:x2<1000000000:=by simp only [hZ] at hx2Z;omega
  have hx1b:x1<1000000000:=by simp only [hZ] at hx1Z;omega
  have hnb2:n<1000000000:=by simp only [hZ] at hnb;omega
  have fst:=Gq.first
  rw [hq0] at fst;refine aj ?_;rw [e0];simp (disch:=first|omega|simp<;>omega|fail)[bZ,a1,a1l,a2,a2l,b1,b1l,e3,hn0,Zx,Zv,e4,e5];refine lo (GM Gq hy1Z hhib hn hnb (by simp only [hZ];omega) a0 a0l b0 b0l b1 b1l _ _ rfl q0 q0 r0 (Z7 _) hdm fst fun g' hg1 hg2 hg3=>?_);simp only [gT]
  have hl9:(sP g 4 1 true ol).length=9:=by simp [G.len]
  have hu:((sP g 4 1 true ol).all fun x=>dF (sP g 4 1 true ol).length x.2)=true:=by rw [hl9];exact qF G.und
  have hsa2:sa<(sP g 4 1 true ol).length:=by rw [hl9];have:=G.sa;omega
  have rd:=Tb (exa:=exa) (ol:=ol) G hbl;rw [hdb] at rd;obtain ⟨w,hw⟩:∃ w,(fM g' i db (db.length+1) 0 0 0 al).1=w:=⟨_,rfl⟩;obtain ⟨l1,hl1⟩:∃ l,(fM g' i db (db.length+1) 0 0 0 al).2=l:=⟨_,rfl⟩;obtain ⟨l2,hl2⟩:∃ l,mz i db (db.length+1) 0 0 l1=l:=⟨_,rfl⟩;obtain ⟨⟨k1,k2⟩,k3,k4⟩:=Fp (i:=i) hsa hsb (by omega) hg3 hD2 hg2 hg1 hw hl1 hl2
  have tk:=Du (at_:=i) (g:=g') (tot:=M) hu hsa2 rd hsb hg3 (by omega) (by omega) hal hsa;rw [hw,hl1] at tk;have bk:=FM (at_:=i) (tot:=M) (l:=l1) hu hsa2 rd hsb (by omega) (by omega) (by omega) k2;rw [hl2] at bk;have hvs:=fun q=>re (B:=Z) ol i q (by omega)
  have hz0:ol.getD i 0=0:=hz i (by omega)
  have go:∀ (q:Nat) (l:List Nat),au Z l->l.length=al.length->l.take i=al.take i->q=val Z (al.drop i) / val Z db->val Z (l.drop i)=val Z (al.drop i) % val Z db ->
    lp (bZ (CX Y) (.ref sa 1 0 M M M) (.ref 2 1 0 n (n+1) (n+1)) (I n) (.ref 4 1 0 m m m)) [5,6] (dH g sa exa al0 ol0) [I ((i:Int)-1)] (dH g sa exa l (ol.set i q)) k:=by
   intro q l c1 c2 c3 c4 c5;have hvp:=Gq.pos;have hqZ:q<Z:=by rw [c4];exact (Xj hvp).2 hD2
   refine Fq G hdb hbl hsb hn hnb hM hMb hy al0 ol0 k i l (ol.set i q) (by omega) (by omega) (by simpa using hol) c1 (hso.set hqZ) (by rw [c5];exact Y8 _ hvp) ?_ (fun j hj=>by rw [sV (by omega)];exact hz j (by omega)) hk;have h1:=hvs q;rw [hz0,Nat.mul_zero,Nat.add_zero] at h1;have h2:=iV (B:=Z) l i (by omega);have h3:=iV (B:=Z) al i (by omega)
   have h4:=X6 (val Z (al.drop i)) (val Z db);rw [<- c4,<- c5] at h4;rw [c3] at h2;rw [h1,h2,<- hA,h3,<- h4,Zq,Zq,Y4 (val Z db) (Z ^ i)];omega
  clear hk hA hz;have r4:=fun l=>wH (Q9 (exa:=exa) (al:=l) (ol:=ol) G) hol.symm (len:=m) (cap:=m) (i:=(i:Int)) (by omega) (by omega) .i64
  have r5:=fun l=>Jc (Q9 (exa:=exa) (al:=l) (ol:=ol) G) hol.symm (j:=i) (by omega)
  simp only [OQ G,Int.toNat_natCast] at r4 r5;refine kY tk ?_ (by simp);rw [show sP (sP g 4 1 true ol) sa 1 exa l1=dH g sa exa l1 ol from rfl];rcases Zg w with w0 | wp
  ·obtain ⟨d1,d2,d3,d4,d5⟩:=k3 w0;have gg:=go g' l1 d1 d2 d3 d4 d5;have w1:¬ 0<w:=by omega
   have r6:=r5 l1 g';have r7:=r4 l1;simp only [jn];simp (disch:=first|omega|simp<;>omega|fail)[w1,r7,r6];refine ⟨?_,?_⟩
   ·rw [clean,B8 0 _ (MO G)];rfl
   ·rw [Fu G];exact gg
  ·obtain ⟨d1,d2,d3,dg,d4,d5⟩:=k4 wp;have gg:=go (g'-1) l2 d1 d2 d3 d4 d5;obtain ⟨g2,hg2'⟩:∃ g2,g'-1=g2:=⟨_,rfl⟩;rw [hg2'] at gg;have e6:(g':Int)-1=(g2:Int):=by omega
   have hg2Z:(g2:Int)<18446744073709551616:=by simp only [hZ] at hg3;omega
   have r6:=r5 l2 g2;have r7:=r4 l2;simp only [jn];simp (disch:=first|omega|simp<;>omega|fail)[wp,e6];refine j4 (kY bk ?_ (by simp));rw [show sP (sP g 4 1 true ol) sa 1 exa l2=dH g sa exa l2 ol from rfl];simp (disch:=first|omega|simp<;>omega|fail)[r7,r6];refine ⟨?_,?_⟩
   ·rw [clean,B8 0 _ (MO G)];rfl
   ·rw [Fu G];exact gg
end
end Go.Vm
namespace Go.Vm
open Go Go.Am Go.Big
theorem vu {w n:Nat} (h:n<Z ^ w):aO (w+1) n=aO w n++[0]:=by
 have h1:au Z (aO w n++[0]):=(pr w n).snoc aS;have h2:=xo _ h1;rw [Dj,Nat.mul_zero,Nat.add_zero,qP w n h,Zm,bJ] at h2;exact h2.symm
theorem Mr {w n:Nat} (h:n<Z ^ w):eQ (aO w n)=dig Z n:=by
 rw [<- mI ag (pr w n),qP w n h]
theorem jV {w n:Nat} (h:n<Z ^ w):(aO w n).take (dig Z n).length=dig Z n:=by
 rw [<- Mr h];exact uV
theorem pj (n:Nat):n<Z ^ (dig Z n).length:=(kT ag).1 (Z7 _)
theorem fG {n k:Nat} (h:n<Z ^ k):(dig Z n).length<=k:=(kT ag).2 h
theorem LY {n k:Nat} (h:Z ^ k<=n):k<(dig Z n).length:=by
 rcases Zo k (dig Z n).length with h1 | h1
 ·exact h1
 ·have:=(kT ag).1 h1;omega
theorem MJ {n:Nat} (h:0<n):Z ^ ((dig Z n).length-1)<=n:=by
 rcases Zo n (Z ^ ((dig Z n).length-1)) with h1 | h1
 ·have:=fG h1
  have h2:(dig Z n).length≠0:=fun e=>by
   have:=pj n;rw [e] at this;simp at this;omega
  omega
 ·exact h1
theorem Hs {n k:Nat} (h:(dig Z n).length=k+1):Z ^ k*nth 0 (dig Z n) k<=n∧n<Z ^ k*(nth 0 (dig Z n) k+1)∧0<nth 0 (dig Z n) k:=by
 have e:=iV (B:=Z) (dig Z n) k (by omega);rw [fq ag,Yy (by omega),Y9 (by omega)] at e;have hn:nth 0 (dig Z n) k=(dig Z n)[k]:=gk _ _ _ (by omega);rw [<- hn] at e;simp only [val,Nat.mul_zero,Nat.add_zero] at e;have l:=gF (B:=Z) aS ((bB ag n).take k);rw [Zr,Za (by omega)] at l
 refine ⟨by omega,by rw [Nat.mul_succ];omega,?_⟩;rcases Zg (nth 0 (dig Z n) k) with h0 | h0
 ·rw [h0,Nat.mul_zero,Nat.add_zero] at e;have:=fG (n:=n) (k:=k) (by omega);omega
 ·exact h0
theorem JZ {q k y f:Nat} (h:(dig Z q).length=k+1) (hy:nth 0 (dig Z q) k=y) (hf:Z / (y+1)=f) (hk:1<=k):0<f∧f<Z∧q*f<Z ^ (k+1):=by
 obtain ⟨h1,h2,h3⟩:=Hs h;rw [hy] at h1 h2 h3;have hyZ:y<Z:=by rw [<- hy];exact (bB ag q).getD aS k
 have hf0:0<f:=by rw [<- hf];exact Wb (by omega) (by omega)
 have hfy:f*(y+1)<=Z:=by rw [<- hf];exact Nat.div_mul_le_self ..
 refine ⟨hf0,?_,?_⟩
 ·have:=Z4 f (show 2<=y+1 by omega);omega
 ·have h4:q*f<Z ^ k*(y+1)*f:=Nat.mul_lt_mul_of_pos_right h2 hf0;have h5:Z ^ k*(y+1)*f=Z ^ k*(f*(y+1)):=by rw [Nat.mul_assoc,Zy (y+1)]
  have h6:=Z4 (Z ^ k) hfy;rw [Nat.pow_succ];omega
theorem Dt {l:List Nat} (h:au Z l):l.take (dig Z (val Z l)).length=dig Z (val Z l):=by
 rw [mI ag h];exact uV
theorem NO {α:Type} {l:List α} {i:Nat} {x:α} (h:l[i]? = some x):l.set i x=l:=by
 refine Xr fun j=>?_
 by_cases hj:j=i
 ·subst hj;obtain ⟨h1,h2⟩:=List.getElem?_eq_some_iff.1 h;simp [h1,h2]
 ·rw [List.getElem?_set_ne (Ne.symm hj)]
section
variable {P Q n p f M W9 sa:Nat} {exa:Bool} {hA:Hp}
theorem wh (hn:(dig Z Q).length=n) (h2:2<=n) (hp:(dig Z P).length=p) (hnp:n<=p) (hpb:p<10000000) (f0:0<f) (fZ:f<Z) (fQ:Q*f<Z ^ n) (hVe:W9=P*f) (hM:(dig Z W9).length+1=M) (hMp:p<M)
  (A9:hA.length=9) (Au:(hA.all fun x=>dF 9 x.2)=true) (Ao:∀ x∈hA,offB [5,6] x.2=true) (A2:hA[2]? = some (0,.none)) (A4:hA[4]? = some (0,.none)) (A5:hA[5]? = some (0,.none)) (A6:hA[6]? = some (0,.none)) (sa2:sa<2) (Aa:hA[sa]? = some (1,.data 1 ((aO M W9).map u6) exa false)) :
  cai (CX Y).i hA (V.fn F.bp [] []) [lst u6 (dig Z Q),V.d (D.int IntKind.u64 ↑f)] 2
      fun v10 h=>
      bnd (am v10) fun v11=>
       lp (ia (CX Y) (lst u6 (dig Z P))) [] h [.ref sa 1 0 M M M] h
        (exK
         [(Exit.exit 0,fun l12 h=>
           bnd (am (ge l12 0)) fun v13=>
            bnd (biI BinOp.sub v13 v11) fun v14=>
             mkS 4 8 [D.int IntKind.u64 0] h v14 v14 fun v15 h=>
              bnd (am (ge l12 0)) fun v16=>
               bnd (biI BinOp.sub v16 v11) fun v17=>
                bnd (biI BinOp.sub v17 (V.d (D.int IntKind.i64 1))) fun v18=>
                 lp (bZ (CX Y) (ge l12 0) v10 v11 v15) [5,6] h [v18] h
                  (exK
                   [(Exit.exit 2,fun l19 h=>
                     cai (CX Y).i h (V.fn F.ah [] []) [ge l12 0] 7 fun v20 h=>
                      cal (CX Y).p h (V.fn F.bK [] [])
                       [v20,V.d (D.int IntKind.u64 ↑f)] fun v21 h=>
                       ext v21 0 fun v22=>
                        ext v21 1 fun v23=>
                         cai (CX Y).i h (V.fn F.ah [] []) [v15] 8 fun v24 h=>
                          out (V.tup [lst u6 (dig Z (P / Q)),lst u6 (dig Z (P % Q))])
                           (V.tup [v24,v22]) h)]))]):=by
 have hQ1:Z ^ (n-1)<=Q:=by
  rw [<- hn];refine MJ ?_;rcases Zg Q with h | h
  ·subst h;rw [show (dig Z 0).length=0 from rfl] at hn;omega
  ·exact h
 have hQf:(dig Z (Q*f)).length=n:=by
  have h1:=fG fQ;have h3:=LY (n:=Q*f) (k:=n-1) (Z3 hQ1 (Zf Q f0));omega
 have hQfs:Q*f<Z ^ (n+1):=Z2 fQ (Z5 aS (by omega));have sc:=xY (h:=hA) (t0:=lst u6 (dig Z Q)) (da:=dig Z Q) (f:=f) (N:=n+1) (by rw [A9];exact Au) fZ f0 (IT _ _) (bB ag Q) (by omega) (by omega);rw [fq ag,hQf] at sc;refine gE (e:=0) (b:=.none) sc A2 ?_;have hbl:(aO (n+1) (Q*f)).length=n+1:=bJ ..
 have hdb:(aO (n+1) (Q*f)).take n=dig Z (Q*f):=by
  have:=jV hQfs
  rwa [hQf] at this
 obtain ⟨bl,hble⟩:∃ bl,aO (n+1) (Q*f)=bl:=⟨_,rfl⟩;rw [hble] at hbl hdb;rw [hble,List.length_map,hbl];obtain ⟨g,hg⟩:∃ g,hA.set 2 (0+1,.data 1 (bl.map u6) true false)=g:=⟨_,rfl⟩;rw [hg]
 have G:DvH g sa bl:=by
  rw [<- hg];refine ⟨by simp [A9],sa2,by simp [A9],by simp [A5],by simp [A6],fun x hx=>?_,?_⟩
  ·rcases Yr hx with h | h
   ·exact Ao x h
   ·rw [h];rfl
  ·exact qF (s:=2) (e:=1) Au
 have g4:g[4]? = some (0,.none):=by rw [<- hg];simp [A4]
 have ga:g[sa]? = some (1,.data 1 ((aO M W9).map u6) exa false):=by rw [<- hg,List.getElem?_set_ne (by omega)];exact Aa
 have hVp:p<=(dig Z W9).length:=by omega
 have hMp1:M<=p+2:=by
  have:W9<Z ^ (p+1):=by
   rw [hVe,Nat.pow_succ];have:=pj P;rw [hp] at this;exact Nat.mul_lt_mul_of_lt_of_lt this fZ
  have:=fG this;omega
 obtain ⟨m,hm⟩:∃ m,M=m+n:=⟨M-n,by omega⟩;have lP:am (lst u6 (dig Z P))=some (I (dig Z P).length):=rfl;have c1:¬ ((M:Int)<=((dig Z P).length:Int)):=by omega
 have c2:(M:Int)-(n:Int)=(m:Int):=by omega
 simp (disch:=first|omega|simp<;>omega|fail)[];refine lo (aj ?_);simp (disch:=first|omega|simp<;>omega|fail)[ia,lP,c1,c2,g4]
 have hd:g.set 4 (1,Bk.data 1 (List.replicate m (D.int IntKind.u64 0)) true false)=dH g sa exa (aO M W9) (List.replicate m 0):=by
  have e1:(List.replicate m (D.int IntKind.u64 0))=(List.replicate m 0).map u6:=by simp [u6]
  have e2:(sP g 4 1 true (List.replicate m 0))[sa]? = some (1,.data 1 ((aO M W9).map u6) exa false):=by
   rw [sP,List.getElem?_set_ne (by omega)];exact ga
  show _=(sP g 4 1 true (List.replicate m 0)).set sa (1,.data 1 ((aO M W9).map u6) exa false)
  rw [NO e2,e1];rfl
 rw [hd]
 have hWlt:W9<Z ^ (m+(n-1)):=by
  have:=pj W9
  rwa [show (dig Z W9).length=m+(n-1) by omega] at this
 have hWM:W9<Z ^ M:=Z2 hWlt (Z5 aS (by omega));have hQfv:val Z (dig Z (Q*f))=Q*f:=fq ag _;have hZ:Z=1000000000:=rfl
 refine lo (Fq (A:=W9) (n:=n) (M:=M) (m:=m) G hdb hbl (bB ag _) h2 (by simp only [hZ];omega) hm (by omega) (Hs (n:=Q*f) (k:=n-1) (by omega)).2.2 _ _ _ m (aO M W9) (List.replicate m 0) (Z7 _) (bJ ..) (by simp) (pr M W9) (fun x hx=>by rw [Xx] at hx;rw [hx.2];exact aS) ?_ (by rw [kE,qP _ _ hWM];simp) (fun j hj=>by rw [gk _ _ _ (by simpa using hj)];simp) fun al' ol' q1 q2 q3 q4 q5 q6=>?_)
 ·have e1:=iV (B:=Z) (aO M W9) m (by rw [bJ];omega);rw [qP _ _ hWM] at e1;rw [Yz] at hWlt;rw [hQfv];have h3:Z ^ m*val Z ((aO M W9).drop m)<Z ^ m*Z ^ (n-1):=by omega
  have h4:=Xh h3;have h5:=Zf Q f0;omega
 ·simp only [gT];rw [hQfv] at q5 q6
  have hQ0:0<Q:=by
   have:=Yf (n:=n-1) aS;omega
  have hQf0:0<Q*f:=Yu hQ0 f0
  have hq:val Z ol'=P / Q:=by
   have:(P*f) / (Q*f)=val Z ol':=by
    rw [<- hVe,<- q6,Yt _ _ hQf0,Xc q5,Zk]
   rw [<- this,Nat.mul_div_mul_right _ _ f0]
  have hr:val Z al'=f*(P % Q):=by
   have:(P*f) % (Q*f)=val Z al':=by
    rw [<- hVe,<- q6,X0,Yh q5]
   rw [<- this,Nat.mul_mod_mul_right,Zy]
  have l9:(dH g sa exa al' ol').length=9:=GZ G;have hu:((dH g sa exa al' ol').all fun x=>dF (dH g sa exa al' ol').length x.2)=true:=by rw [l9];exact qF (qF G.und)
  have ha:=Rb (exa:=exa) (al:=al') (ol:=ol') G;have tr:=oj hu ha q1.symm (len:=M) (cap:=M) (Z7 _) (by omega) (Z7 _);have hta:eQ (al'.take M)=dig Z (val Z al'):=by rw [Zu (by omega),mI ag q3]
  rw [hta] at tr;refine kY tr ?_ (by simp)
  have hla:(dig Z (val Z al')).length<=M:=by
   have:=gF (B:=Z) aS q3;rw [q1] at this;exact fG this
  have sn:=qy ha q1.symm (len:=(dig Z (val Z al')).length) (cap:=M) hla (Z7 _);have htk:=Dt q3;rw [htk] at sn;obtain ⟨h1,hh1⟩:∃ h1,(dH g sa exa al' ol').set sa (1,.data 1 (al'.map u6) exa true)=h1:=⟨_,rfl⟩;rw [hh1] at sn;have sm:=AC (a:=val Z al') (n:=f) (by omega) f0 (by omega)
  refine cdz (u:=.mk) (ds:=[lst u6 (dig Z (val Z al')),U f]) (h':=h1) (by simp only [ae,sn,rZ]) sm ?_;rw [show fv (.tup [pcs (val Z al' / f),U (val Z al' % f:Nat)])=false from rfl];have h1o:h1[4]? = some (1,.data 1 (ol'.map u6) true false):=by rw [<- hh1,List.getElem?_set_ne (by omega)];exact Q9 G
  have h1u:(h1.all fun x=>dF h1.length x.2)=true:=by
   have e:h1.length=9:=by rw [<- hh1,List.length_set,l9]
   rw [e,<- hh1,Zz];intro x hx;rcases Yr hx with h | h
   ·exact Zz.1 (qF (qF G.und)) x h
   ·rw [h];rfl
  have tr2:=oj h1u h1o q2.symm (len:=m) (cap:=m) (Z7 _) (by omega) (Z7 _);have hto:eQ (ol'.take m)=dig Z (P / Q):=by rw [Zu (by omega),<- hq,mI ag q4]
  rw [hto] at tr2
  show ext _ 0 _
  simp (disch:=first|omega|simp<;>omega|fail)[];refine j4 (kY tr2 ?_ (by simp))
  have hlo:(dig Z (P / Q)).length<=m:=by
   have:=gF (B:=Z) aS q4;rw [q2,hq] at this;exact fG this
  have sn2:=qy h1o q2.symm (len:=(dig Z (P / Q)).length) (cap:=m) hlo (Z7 _);have htk2:=Dt q4;rw [hq] at htk2;rw [htk2] at sn2;have hrr:val Z al' / f=P % Q:=by rw [hr,Yb _ f0]
  rw [hrr];exact ai sn2 (xQ _ _ _)
end
theorem Ph {s s' e e' L n k by_ tot:Nat} {b':Bk} {old cs:List D} {fr:Bool} {h:Hp} {q:V->Hp->Prop} {u:PU q} (hg:h[s]? = some (e,.data n old true fr)) (hs':h[s']? = some (e',b')) (ht:tot=L*n) (hold:old.length=L*n) (hcs:cs.length=k*n) (hb:(L+k)*by_<=140737488355328)
  (h0:k=0->q (.ref s e 0 L L tot) h) (h1:0<k->q (.ref s' (e'+1) 0 (L+k) (L+k) (L*n+cs.length)) (h.set s' (e'+1,.data n (old++cs) false false))):rh (apV false s' n by_ (.ref s e 0 L L tot) (.d (.sl k cs)) h) q u:=by
 unfold rh apV;simp only [cellsOf];rw [if_pos hcs];unfold apC;by_cases hk:k=0
 ·rw [if_pos hk];simp only [Z7,if_true];exact h0 hk
 ·rw [if_neg hk];simp only [dO hg];rw [if_pos ⟨trivial,by omega,Z7 _,by omega,hcs⟩,if_neg (by omega),if_pos hb];simp only [if_true,new,hs',Y3];rw [Zu (by omega)];exact h1 (by omega)
theorem He {s s' e len cap:Nat} {old:List Nat} {x:Nat} {ex:Bool} {h:Hp} {q:V->Hp->Prop} {u:PU q} (hg:h[s]? = some (e,.data 1 (old.map u6) ex false)) (hold:old.length=cap) (hl:len<cap)
  (hq:q (.ref s e 0 (len+1) cap cap) (h.set s (e,.data 1 ((old.take len++[x]++old.drop (len+1)).map u6) ex false))):rh (apV false s' 1 8 (.ref s e 0 len cap cap) (.d (.sl 1 [u6 x])) h) q u:=by
 unfold rh apV;simp only [cellsOf];rw [if_pos (by simp)];unfold apC;rw [if_neg (by omega)];simp only [dO hg];rw [if_pos ⟨trivial,by simp [hold],by omega,by simp;omega,by simp⟩,if_pos (by omega)];simp only [Bool.or_self,Zn,if_false,Zk,cU,Yl];simp only [W5,List.map_take,List.map_drop,Zw,Y7] at hq;exact hq
theorem IP {s s' e e' cap:Nat} {b':Bk} {old:List Nat} {x:Nat} {h:Hp} {q:V->Hp->Prop} {u:PU q} (hg:h[s]? = some (e,.data 1 (old.map u6) true false)) (hs':h[s']? = some (e',b')) (hold:old.length=cap) (hb:cap<1000000000000)
  (hq:q (.ref s' (e'+1) 0 (cap+1) (cap+1) (cap+1)) (h.set s' (e'+1,.data 1 ((old++[x]).map u6) false false))):rh (apV false s' 1 8 (.ref s e 0 cap cap cap) (.d (.sl 1 [u6 x])) h) q u:=by
 refine Ph (L:=cap) (old:=old.map u6) hg hs' (by omega) (by simp [hold]) rfl (by omega) (fun h=>by omega) fun _=>?_
 simp only [Yl,List.length_singleton];rw [show old.map u6++[u6 x]=(old++[x]).map u6 by simp];exact hq
theorem GW {P Q:Nat} (h2:2<=(dig Z Q).length) (hle:(dig Z Q).length<=(dig Z P).length) (hb:(dig Z P).length<10000000):CP Y F.cW [pcs P,pcs Q] (.tup [pcs (P / Q),pcs (P % Q)]):=by
 refine oO ?_;obtain ⟨k,hk⟩:∃ k,(dig Z Q).length=k+1:=⟨(dig Z Q).length-1,by omega⟩;obtain ⟨y,hy⟩:∃ y,nth 0 (dig Z Q) k=y:=⟨_,rfl⟩;obtain ⟨f,hf⟩:∃ f,Z / (y+1)=f:=⟨_,rfl⟩;obtain ⟨f0,fZ,fQ⟩:=JZ hk hy hf (by omega);have hZ:Z=1000000000:=rfl;have hyZ:y<Z:=by rw [<- hy];exact (bB ag Q).getD aS k
 have hyb:y<1000000000:=by simp only [hZ] at hyZ;omega
 obtain ⟨n,hn⟩:∃ n,(dig Z Q).length=n:=⟨_,rfl⟩;obtain ⟨p,hp⟩:∃ p,(dig Z P).length=p:=⟨_,rfl⟩;have e1:=fun h:Hp=>d6 u6 (dig Z Q) h (k:=.i64) (i:=(k:Int)) (by omega) (by omega)
 have e2:=fun h:Hp=>yE (dig Z Q) h (j:=k) (by omega)
 rw [hy] at e2;simp only [Int.toNat_natCast] at e1;have e3:((dig Z Q).length:Int)-1=(k:Int):=by omega
 have e4:(1000000000:Int) / ((y:Int)+1)=(f:Int):=by
  rw [<- hf,hZ];simp
 have y0:¬ ((y:Int)+1=0):=by omega
 have lQ:am (pcs Q)=some (I (dig Z Q).length):=rfl;have lP:am (pcs P)=some (I (dig Z P).length):=rfl;simp (disch:=first|omega|simp<;>omega|fail)[cW,lQ,e3,Qq,e1,e2,y0,Zv,e4];obtain ⟨W9,hW⟩:∃ W9,P*f=W9:=⟨_,rfl⟩
 have hP1:Z ^ (p-1)<=P:=by
  rw [<- hp];refine MJ ?_;rcases Zg P with h | h
  ·subst h;have h0:(dig Z 0).length=0:=rfl;omega
  ·exact h
 have hW1:p-1<(dig Z W9).length:=LY (by rw [<- hW];exact Z3 hP1 (Zf P f0))
 have hW2:W9<Z ^ (p+1):=by
  rw [<- hW,Nat.pow_succ];have:=pj P;rw [hp] at this;exact Nat.mul_lt_mul_of_lt_of_lt this fZ
 have hW3:=fG hW2
 have hli:∀ h:Hp,dk 1 [D.int .u64 0] [(0,V.d (D.int IntKind.u64 0))] h=some ([u6 0],h):=fun h=>by
  simp [dk,fY,iz,toD,u6]
 have sc:=xY (h:=[(0,.none),(0,.none),(0,.none),(0,.none),(0,.none),(0,.none),(0,.none),(0,.none),(0,.none)]) (t0:=lst u6 (dig Z P)) (da:=dig Z P) (f:=f) (N:=p+1) rfl fZ f0 (IT _ _) (bB ag P) (by omega) (by omega);rw [fq ag,hW] at sc;refine j4 (gE (e:=0) (b:=.none) sc rfl ?_);simp (disch:=first|omega|simp<;>omega|fail)[hli]
 have hNl:(aO (p+1) W9).length=p+1:=bJ ..;rcases Zo (dig Z W9).length (p+1) with hc | hc
 ·have hl:(dig Z W9).length=p:=by omega
  have hWp:W9<Z ^ p:=by have:=pj W9;rwa [hl] at this
  have hcell:(aO (p+1) W9).take p++[0]++(aO (p+1) W9).drop (p+1)=aO (p+1) W9:=by
   rw [Y9 (by omega),vu hWp,X5 (bJ ..),Yj]
  rw [hl,hNl];refine He (x:=0) (ex:=true) rfl hNl (by omega) ?_;rw [hcell];refine wh (M:=p+1) (exa:=true) hn (by omega) hp (by omega) (by omega) f0 fZ (by rw [<- hn,hk];exact fQ) hW.symm (by omega) (by omega) rfl rfl ?_ rfl rfl rfl rfl (by omega) rfl;intro x hx;simp only [List.set_cons_zero,Zt,Zb,or_false] at hx
  rcases hx with rfl | rfl | rfl | rfl | rfl | rfl | rfl | rfl | rfl <;> rfl
 ·have hl:(dig Z W9).length=p+1:=by omega
  have hcell:aO (p+1) W9++[0]=aO (p+2) W9:=(vu hW2).symm;rw [hl,hNl];refine IP (x:=0) (e':=0) (b':=.none) rfl rfl hNl (by omega) ?_;rw [hcell];refine wh (M:=p+2) (exa:=false) hn (by omega) hp (by omega) (by omega) f0 fZ (by rw [<- hn,hk];exact fQ) hW.symm (by omega) (by omega) rfl rfl ?_ rfl rfl rfl rfl (by omega) rfl;intro x hx
  simp only [List.set_cons_zero,List.set_cons_succ,Zt,Zb,or_false] at hx;rcases hx with rfl | rfl | rfl | rfl | rfl | rfl | rfl | rfl | rfl <;> rfl
end Go.Vm
namespace Go.Vm
open Go Go.Am Go.Big
@[simp] theorem RX (a:Acc) (n:Nat) (c:List D):a.v (n+1) c=.ref a.s (a.e+1) 0 (n+1) (n+1) c.length:=id rfl
@[simp] theorem RY (a:Acc) (n:Nat) (c:List D):a.b (n+1) c=(a.e+1,.data a.n c false false):=id rfl
theorem uO (k:Nat):Z ^ k=10 ^ (9*k):=by rw [Nat.pow_mul];rfl
theorem GP {n:Nat} (h2:n<18446744073709551616):CP Y F.cE [U n,I 10] (S (aa n)):=by
 refine po ?_;have hd1:=iE n;have hd2:ndg n<=20:=a6 (by omega) (by omega);have hn:=bP n;by_cases hs:(n:Int)<100
 ·simp (disch:=first|omega|simp<;>omega|fail)[cE,hs];refine cd (Dy (n:=n) (by omega)) ?_;exact cT rfl
 ·have hn0:0<n:=by omega
  have hit:aa n=cn n (ndg n):=rfl;have hlo:=vk n hn0;generalize ndg n=d at *
  obtain ⟨mid,post,hm,hp,hcell⟩:∃ mid post:List D,mid.length=d∧post.length=24-d∧List.replicate 24 (D.int .u8 0)=[]++(mid++post):=by
   refine ⟨List.replicate d (.int .u8 0),List.replicate (24-d) (.int .u8 0),by simp,by simp,?_⟩;rw [List.replicate_append_replicate,show d+(24-d)=24 by omega];rfl
  simp (disch:=first|omega|simp<;>omega|fail)[cE,hs];refine cd (tT hlo hn hd1 h2) ?_;simp only [List.replicate] at hcell;rw [hcell];rw [show [(1,Bk.data 1 ([]++(mid++post)) true false),(0,.none)]=cH ([]++(mid++post)) from rfl];rw [BH (by simp;omega) d rfl (by omega)];simp (disch:=first|omega|simp<;>omega|fail)[]
  refine kY (h':=cH ([]++((cn n d).map u8++post))) (PP (pre:=[]) rfl hm (by omega) (by omega) hn h2) ?_ (by simp);rw [BH (by simp [aK];omega) d rfl (by omega)];simp (disch:=first|omega|simp<;>omega|fail)[];rw [G0 (bs:=cn n d) (by simp [aK];omega) (by omega) (by simp [aK,List.take_append,Zu]) (by simp [aK])];rw [hit]
  try simp (disch:=first|omega|simp<;>omega|fail)[]
  exact cT rfl
theorem E4 {n:Nat} (h:n<18446744073709551616):CP Y F.d9 [U n,I 10] (S (aa n)):=by
 refine qv ?_;simp (disch:=first|omega|simp<;>omega|fail)[d9];refine cd (GP h) ?_;exact cT rfl
theorem vh {n:Nat} (h:n<18446744073709551616):CP Y F.gB [U n] (S (aa n)):=by
 refine Cx ?_;simp (disch:=first|omega|simp<;>omega|fail)[gB];refine cd (E4 h) ?_;exact cT rfl
theorem rO:∀ (l:List UInt8) (a:Nat),k8 a l=dG a l
 | [],_=>rfl
 | c::l,a=>rO l _
theorem digit_eq (c:UInt8):kz c=kZ c:=by
 simp only [kz,kZ];rw [Yw];simp
theorem Jv {n:Nat} (h:n<10000000000000000000):CP Y F.dK [S (aa n),I 10,I 64] (.tup [U n,.d (.pl .nilIface)]):=by
 have hd:=cF n;have hc:=nz n
 have hl:(aa n).length<=1000:=by
  have:=a6 (n:=n) (d:=19) (by omega) (by decide);rw [aa,aK];omega
 simp only [ma,Z8] at hc
 have hall:(aa n).all kz=true:=by
  rw [<- hc.1.2];congr 1;funext c;exact digit_eq c
 have ho:Y.X.orc F.dK [.string ⟨⟨aa n⟩⟩,.int .i64 10,.int .i64 64]=some (.tuple #[.int .u64 n,.nilIface]):=by
  have e:∀ a,Y.X.orc F.dK a=Ej a:=fun a=>by
   show (match Nat.beq F.dK F.dK with | true=>Ej a | false=>none)=_
   rw [Yd]
  rw [e];unfold Ej;simp only;rw [if_pos ⟨trivial,trivial,qN n,hall,hl,by rw [rO,hd];exact h⟩,rO,hd]
 exact CP.orc ho (by intro x hx;simp only [Zt,Zb,or_false] at hx;rcases hx with rfl | rfl | rfl <;> rfl) rfl
theorem uZ {n:Nat} (h:n<10000000000000000000):CP Y F.fS [S (aa n)] (.tup [U n,B true]):=by
 refine wO ?_;simp (disch:=first|omega|simp<;>omega|fail)[fS];refine cd (Jv h) ?_;simp (disch:=first|omega|simp<;>omega|fail)[Ca];exact ai (rZ _ _) rfl
theorem iY (n:Nat):j6 (S (aa n))=some (I (ndg n)):=by
 show some (I (aa n).length)=_
 rw [aa,aK]
theorem xu (a b:Nat):CP Y F.dR [S (aa a),S (aa b)] (if ndg a<=18∧ndg b<=18 then .tup [U a,U b,B true] else .tup [U 0,U 0,B false]):=by
 refine za ?_;have la:=iY a;have lb:=iY b;by_cases h1:18<ndg a
 ·rw [if_neg (by omega)];simp (disch:=first|omega|simp<;>omega|fail)[dR,la,lb,h1];exact gN (rZ _ _) (rZ _ _) rfl
 by_cases h2:18<ndg b
 ·rw [if_neg (by omega)];simp (disch:=first|omega|simp<;>omega|fail)[dR,la,lb,h1,h2];exact gN (rZ _ _) (rZ _ _) rfl
 ·rw [if_pos (by omega)];have ha:a<10000000000000000000:=by have:=bP a;have:=Z5 (n:=10) (by decide) (show ndg a<=18 by omega);omega
  have hb:b<10000000000000000000:=by have:=bP b;have:=Z5 (n:=10) (by decide) (show ndg b<=18 by omega);omega
  simp (disch:=first|omega|simp<;>omega|fail)[dR,la,lb,h1,h2];refine cd (uZ ha) ?_;simp (disch:=first|omega|simp<;>omega|fail)[];refine cd (uZ hb) ?_;simp (disch:=first|omega|simp<;>omega|fail)[];exact gN (rZ _ _) (rZ _ _) rfl
theorem PS (l:List UInt8) (h:Hp) (k:V->Hp->Prop):cvB (S l) h k=k (lst u8 l) h:=rfl
section
variable {h:Hp}
theorem MQ {C0:Nat} (l:List UInt8) (hl:l.length<=9) (hd:l.all kZ=true) (k:KL) (h0 H:Hp) (hh:h0.length=H.length):∀ (q p:List UInt8),p++q=l->k (.exit 2) [U (dG 0 l:Nat)] H ->
  lp (kV (CX Y) h.length (lst u8 l) (I l.length)) [] h0 [U (dG 0 p:Nat),I p.length] H k
 | []=>by
  intro p hp hk;simp at hp;subst hp;refine aj ?_;simp (disch:=first|omega|simp<;>omega|fail)[kV];exact hk
 | c::q=>by
  intro p hp hk;have hpl:p.length<l.length:=by subst hp;simp
  have hc:nth 0 l p.length=c:=by subst hp;simp
  have hcd:kZ c=true:=by
   rw [Zz] at hd;exact hd c (by subst hp;simp)
  rw [iR] at hcd
  have hpd:p.all kZ=true:=by
   rw [Zz] at hd ⊢;exact fun x hx=>hd x (by subst hp;simp [hx])
  have e1:=fun h:Hp=>d6 u8 l h (k:=.i64) (i:=(p.length:Int)) (by omega) (by omega)
  have e2:=fun h:Hp=>fA u8 0 l h (j:=p.length) hpl
  rw [hc] at e2;simp only [Int.toNat_natCast] at e1;have hb:=oH p 0 hpd
  have hb2:dG 0 p<1000000000:=by
   have:=Z5 (n:=10) (by decide) (show p.length<=8 by omega);omega
  have e3:dG 0 (p++[c])=10*dG 0 p+(c.toNat-48):=by
   rw [pq];simp only [dG,List.foldl_cons,List.foldl_nil];omega
  have ih:=MQ (C0:=C0) l hl hd k h0 H hh q (p++[c]) (by simpa using hp) hk;rw [e3] at ih;obtain ⟨t,ht⟩:∃ t,dG 0 p=t:=⟨_,rfl⟩;rw [ht] at ih hb2 ⊢;have e4:(10:Int)*(t:Int)+((c.toNat:Int)-48)=((10*t+(c.toNat-48):Nat):Int):=by omega
  obtain ⟨t2,ht2⟩:∃ t2,10*t+(c.toNat-48)=t2:=⟨_,rfl⟩;rw [ht2] at ih e4;have hcb:=hcd.1;have hcb2:=hcd.2;refine aj ?_;simp (disch:=first|omega|simp<;>omega|fail)[kV,e1,e2,u8,e4];simpa [hh] using ih
def cuH (h:Hp) (l:List Nat):Hp:=h++[(1,.data 1 (l.map u6) true false),(0,.none),(0,.none)]
theorem Iz (h:Hp) (l:List Nat):(cuH h l)[h.length]? = some (1,.data 1 (l.map u6) true false):=by simp [cuH]
theorem OW (h:Hp) (l l':List Nat):(cuH h l).set h.length (1,.data 1 (l'.map u6) true false)=cuH h l':=by simp [cuH]
@[simp] theorem OX (h:Hp) (l:List Nat):(cuH h l).length=h.length+3:=by simp [cuH]
theorem MP (T:List UInt8) (cap:Nat) (hL:T.length<9000000000) (k:KL) (h0:Hp) (hh:h0.length=h.length+3):∀ (w n:Nat) (E:Int) (d:List Nat),(0<w->E=w)->(w=0->E<=0)->-20<=E->T.take w=cn n w->w<=T.length->d.length+(w+8) / 9<=cap->cap<1000000000000->n<10 ^ w->au Z d ->
  (∀ d':List Nat,au Z d'->d'.length<=cap->val Z d'=val Z d+Z ^ d.length*n->k (.exit 0) [.ref h.length 1 0 d'.length cap cap] (cuH h (d'++List.replicate (cap-d'.length) 0))) ->
  lp (kW (CX Y) h.length (S T)) [] h0 [.ref h.length 1 0 d.length cap cap,I E] (cuH h (d++List.replicate (cap-d.length) 0)) k:=by
 intro w
 induction w using Nat.strongRecOn with
 | _ w ih=>
  intro n E d hE1 hE0 hEl hT hwT hw hcap hn hs hk;by_cases h0w:w=0
  ·subst h0w;have hE:=hE0 rfl;have g:¬ 0<E:=by omega
   simp at hn;subst hn;refine aj ?_;simp (disch:=first|omega|simp<;>omega|fail)[kW,g];exact hk d hs (by omega) (by simp)
  ·obtain rfl:=hE1 (by omega)
   obtain ⟨v,u,hv1,hv9,hvw,hu,huv⟩:∃ v u:Nat,1<=v∧v<=9∧w=u+v∧mx2 true 0 ((w:Int)-9)=u∧(u=0∨v=9):=by
    by_cases h9:w<=9
    ·exact ⟨w,0,by omega,h9,by omega,by simp [mx2];omega,.inl rfl⟩
    ·exact ⟨9,w-9,by omega,by omega,by omega,by simp [mx2];omega,.inr rfl⟩
   have hD:=uC v u n;rw [<- hvw] at hD;have hlu:=aK u (n / 10 ^ v)
   have e1:(T.take w).drop u=cn (n % 10 ^ v) v:=by
    rw [hT,hD,Wi hlu];have:=uB v (n % 10 ^ v) (n / 10 ^ v);rw [Xp] at this;exact this
   have e2:T.take u=cn (n / 10 ^ v) u:=by
    have:T.take u=(T.take w).take u:=by rw [List.take_take,Za (by omega)]
    rw [this,hT,hD,X5 hlu]
   have hp:0<10 ^ v:=Yf (by decide);have hm:=Y8 n hp
   have hZv:10 ^ v<=Z:=by
    have:10 ^ v<=10 ^ 9:=Z5 (by decide) hv9;exact this
   have hnu:n / 10 ^ v<10 ^ u:=Yk (by rw [hvw,Wn,Yz] at hn;exact hn)
   have hval:n % 10 ^ v+Z*(n / 10 ^ v)=n:=by
    have:=Xp n (10 ^ v);rcases huv with rfl | rfl
    ·rw [Nat.pow_zero] at hnu;have h3:n / 10 ^ v=0:=Nat.lt_one_iff.1 hnu;rw [h3] at this ⊢;simpa using this
    ·exact this
   have hdc:d.length<cap:=by omega
   have ihh:=ih u (by omega) (n / 10 ^ v) ((w:Int)-9) (d++[n % 10 ^ v]) (fun h=>by rcases huv with h1 | h1 <;> omega) (fun h=>by omega) (by omega) e2 (by omega) (by simp;omega) hcap hnu (hs.snoc (Z2 hm hZv)) (fun d' h1 h2 h3=>hk d' h1 h2 (by
    rw [h3,Dj,Zm,List.length_singleton,Nat.pow_succ,Nat.mul_assoc,Ya,<- Zq,hval]))
   have hr:=rL v (n % 10 ^ v) hm;have hall:=qW v (n % 10 ^ v);have hlv:=aK v (n % 10 ^ v)
   have esl:slS (S T) (some (I u)) (some (I w))=some (S (cn (n % 10 ^ v) v)):=by
    rw [F6 u w rfl rfl (by omega) hwT,<- e1,List.drop_take]
   obtain ⟨r,hre⟩:∃ r,n % 10 ^ v=r:=⟨_,rfl⟩;rw [hre] at esl hr hall hlv ihh;generalize cn r v=L at *
   have hli:∀ h:Hp,dk 1 [D.int .u64 0] [(0,U r)] h=some ([u6 r],h):=fun h=>by
    simp [dk,fY,iz,toD,u6]
   have hcell:(d++List.replicate (cap-d.length) 0).take d.length++[r]++(d++List.replicate (cap-d.length) 0).drop (d.length+1)=(d++[r])++List.replicate (cap-(d++[r]).length) 0:=by
    rw [X5 rfl]
    have:List.replicate (cap-d.length) 0=0::List.replicate (cap-d.length-1) 0:=by
     rw [<- List.replicate_succ];congr 1;omega
    rw [this,<- List.drop_drop,Wi rfl];rw [show cap-d.length-1=cap-(d++[r]).length by simp;omega];simp
   have hcl:(d++List.replicate (cap-d.length) 0).length=cap:=by simp;omega
   have hget:=Iz h (d++List.replicate (cap-d.length) 0);have gp:0<(w:Int):=by omega
   clear hk ih hval;refine aj ?_;simp (disch:=first|omega|simp<;>omega|fail)[kW,gp,mxI,hu,esl];rw [PS];simp (disch:=first|omega|simp<;>omega|fail)[];refine lo (MQ (C0:=0) L (by omega) hall _ _ _ rfl L [] rfl ?_);rw [hr];simp (disch:=first|omega|simp<;>omega|fail)[hli];refine He hget hcl hdc ?_;rw [hcell,OW];simp (disch:=first|omega|simp<;>omega|fail)[hh]
   simpa using ihh
theorem K4 {s by_:Nat} {z:D} {h:Hp} {i e:Nat} {b:Bk} {k:V->Hp->Prop} {u:PU k} (hs:h[s]? = some (e,b)) (hb:(by_:Int)*i<=281474976710656) (h1:(i:Int)<=9223372036854775807)
  (hk:k (.ref s (e+1) 0 0 i i) (h.set s (e+1,.data 1 (List.replicate i z) true false))):rh (mkS s by_ [z] h (.d (.int .i64 0)) (.d (.int .i64 i))) k u:=by
 unfold rh;simp only [mkS];rw [if_pos ⟨Int.le_refl _,by omega,by simp,hb,h1⟩];simp only [new,hs,yc,Y0,Int.toNat_natCast];exact hk
theorem nZ (hu:(h.all fun x=>dF h.length x.2)=true) {n:Nat} (hb:ndg n<900000000) {cap:Nat} (hcap:cap=ndg n / 9+1) :
  CI Y F.bL [S (aa n)] h (.new 1 ((aO cap n).map u6) true (dig Z n).length cap) h:=by
 refine zZ ?_;have hl:=iY n;have hlT:(aa n).length=ndg n:=by rw [aa,aK]
 have e1:((ndg n:Nat):Int) / 9+1=(cap:Int):=by omega
 have e3:(h++[(1,Bk.data 1 (List.replicate cap (D.int IntKind.u64 0)) true false),(0,.none),(0,.none)])=cuH h ([]++List.replicate (cap-([]:List Nat).length) 0):=by
  simp [cuH,u6]
 have e4:(h++[(0,Bk.none),(0,Bk.none),(0,Bk.none)]).set h.length (1,Bk.data 1 (List.replicate cap (D.int IntKind.u64 0)) true false)=cuH h ([]++List.replicate (cap-([]:List Nat).length) 0):=by
  simp [cuH,u6]
 have hcap2:cap<1000000000000:=by omega
 simp (disch:=first|omega|simp<;>omega|fail)[bL,hl,Zv,e1];refine K4 (e:=0) (b:=.none) (by simp) (by omega) (by omega) ?_;simp (disch:=first|omega|simp<;>omega|fail)[hl]
 try rw [e4]
 try rw [e3]
 refine lo (MP (aa n) cap (by omega) _ _ (OX ..) (ndg n) n (ndg n) [] (fun _=>rfl) (fun h=>by have:=iE n;omega) (by omega) (by rw [<- hlT,Xy];rw [hlT];rfl) (by omega) (by simp;omega) hcap2 (bP n) (fun x hx=>by cases hx) fun d hs hdl hv=>?_);simp only [gT];have hv':val Z d=n:=by rw [hv];simp [val]
 obtain ⟨o,ho⟩:∃ o,d++List.replicate (cap-d.length) 0=o:=⟨_,rfl⟩;have hol:o.length=cap:=by rw [<- ho];simp;omega
 have hos:au Z o:=by
  rw [<- ho];exact hs.append fun x hx=>by rw [Xx] at hx;rw [hx.2];exact aS
 have hov:val Z o=n:=by rw [<- ho,NA,hv']
 rw [ho];have hfix:o=aO cap n:=by rw [<- hov,<- hol];exact xo o hos
 have hu2:((cuH h o).all fun x=>dF (cuH h o).length x.2)=true:=by
  have hm:(h.all fun x=>dF (cuH h o).length x.2)=true:=Hf (by simp) hu;rw [cuH,Xg,<- cuH,hm];rfl
 have htk:o.take d.length=d:=by rw [<- ho,X5 rfl]
 have tr:=oj hu2 (Iz h o) hol.symm (len:=d.length) (cap:=cap) (Z7 _) hcap2 hdl;rw [htk,<- mI ag hs,hv'] at tr;refine kY tr ?_ (by simp);rw [<- hfix];refine ⟨by simp [cuH],by simpa using hu,.inr (.inr (.inl ⟨h.length,1,_,cap,1,o.map u6,true,by simp [hol],Z7 _,by simp [hget,cuH],rfl⟩))⟩
end
end Go.Vm
namespace Go.Vm
open Go Go.Am Go.Big
section
variable {h:Hp} {s e tot:Nat} {l:List UInt8} {ex fr:Bool}
theorem ix8 (hg:h[s]? = some (e,.data 1 (l.map u8) ex fr)) (ht:tot=l.length) {len cap:Nat} {i:Int} (h0:0<=i) (h1:i<len) (k:IntKind):ixV h 1 (.ref s e 0 len cap tot) (.d (.int k i))=some (.ptr s e i.toNat tot):=by
 simp only [ixV,dO hg];rw [if_pos ⟨by simp [ht],h0,h1⟩];simp
theorem ld8 (hg:h[s]? = some (e,.data 1 (l.map u8) ex fr)) (ht:tot=l.length) {j:Nat} (hj:j<l.length):ld1 h (.ptr s e j tot)=some (.d (u8 (nth 0 l j))):=by
 have e1:tot=(l.map u8).length:=by simp [ht]
 simp only [ld1,dO hg,if_pos e1,List.getElem?_map,List.getElem?_eq_getElem hj,Option.map_some,gk 0 l j hj]
theorem st8 (hg:h[s]? = some (e,.data 1 (l.map u8) ex false)) (ht:tot=l.length) {j:Nat} (hj:j<l.length) (x:UInt8):st h 1 (.ptr s e j tot) (.d (u8 x))=some (h.set s (e,.data 1 ((l.set j x).map u8) ex false)):=by
 have e1:(l.map u8).take j++[u8 x]++(l.map u8).drop (j+1)=(l.set j x).map u8:=by
  rw [List.map_set,Xi,if_pos (by simp;omega)];simp
 simp only [st,if_true,sto,dO hg,iz,toD];rw [if_pos ⟨trivial,by simp [ht],by simp;omega⟩];simp only [cU,List.length_singleton];rw [<- e1];rfl
theorem ap8 {s' cap len:Nat} {x:UInt8} {q:V->Hp->Prop} {u:PU q} (hg:h[s]? = some (e,.data 1 (l.map u8) ex false)) (hold:l.length=cap) (hl:len<cap)
  (hq:q (.ref s e 0 (len+1) cap cap) (h.set s (e,.data 1 ((l.take len++[x]++l.drop (len+1)).map u8) ex false))):rh (apV false s' 1 1 (.ref s e 0 len cap cap) (.d (.sl 1 [u8 x])) h) q u:=by
 unfold rh apV;simp only [cellsOf];rw [if_pos (by simp)];unfold apC;rw [if_neg (by omega)];simp only [dO hg];rw [if_pos ⟨trivial,by simp [hold],by omega,by simp;omega,by simp⟩,if_pos (by omega)];simp only [Bool.or_self,Zn,if_false,Zk,cU,Yl];simp only [W5,List.map_take,List.map_drop,Zw,Y7] at hq;exact hq
end
def s8 (h:Hp) (s e:Nat) (ex:Bool) (l:List UInt8):Hp:=h.set s (e,.data 1 (l.map u8) ex false)
theorem KX {h:Hp} {s e:Nat} {ex:Bool} {l:List UInt8} (hs:s<h.length):(s8 h s e ex l)[s]? = some (e,.data 1 (l.map u8) ex false):=by simp [s8,hs]
theorem KW {h:Hp} {s e:Nat} {ex:Bool} {l l':List UInt8}:(s8 h s e ex l).set s (e,.data 1 (l'.map u8) ex false)=s8 h s e ex l':=by simp [s8]
@[simp] theorem UG {h:Hp} {s e:Nat} {ex:Bool} {l:List UInt8}:(s8 h s e ex l).length=h.length:=by simp [s8]
theorem LF {l:List UInt8} {m n:Nat} {v:UInt8} (hm:m<l.length):nth 0 (l.set m v) n=if m=n then v else nth 0 l n:=by
 by_cases h:m=n
 ·subst h;simp [nth,hm]
 ·rw [if_neg h];simp [nth,List.getElem?_set_ne h]
theorem K5 {h:Hp} {s e tot:Nat} {ex:Bool} (hs:s<h.length) {L cap:Nat} (hL:L<=tot) (htb:tot<1000000000000) (l0:List UInt8) (k:KL) (h0:Hp) (hh:h0.length=h.length) :
  ∀ (r i:Nat) (l:List UInt8),L<=2*i+r->2*i<=L+1->l.length=tot->(∀ m,m<L->(m<i∨L-1-m<i)->nth 0 l m=nth 0 l0 (L-1-m))->(∀ m,m<L->i<=m->i<=L-1-m->nth 0 l m=nth 0 l0 m)->(∀ m,L<=m->nth 0 l m=nth 0 l0 m) ->
  (∀ l':List UInt8,l'.length=tot->(∀ m,m<L->nth 0 l' m=nth 0 l0 (L-1-m))->(∀ m,L<=m->nth 0 l' m=nth 0 l0 m)->k (.exit 0) [] (s8 h s e ex l')) ->
  lp (cj (CX Y) h.length (.ref s e 0 L cap tot)) [] h0 [I i,I ((L:Int)-1-i)] (s8 h s e ex l) k:=by
 intro r
 induction r with
 | zero=>
  intro i l hr hi hl h1 h2 h3 hk;refine aj ?_;have g:¬ ((i:Int)<(L:Int)-1-i):=by omega
  simp (disch:=first|omega|simp<;>omega|fail)[cj,g];exact hk l hl (fun m hm=>h1 m hm (by omega)) h3
 | succ r ih=>
  intro i l hr hi hl h1 h2 h3 hk;by_cases g:i+i+1<L
  ·obtain ⟨j,hj⟩:∃ j,L-1-i=j:=⟨_,rfl⟩;have g':((i:Int)<(L:Int)-1-i):=by omega
   have ej:(L:Int)-1-i=(j:Int):=by omega
   have hgt:=KX (e:=e) (ex:=ex) (l:=l) hs;have a1:=ix8 hgt hl.symm (len:=L) (cap:=cap) (i:=(j:Int)) (by omega) (by omega) .i64;have a2:=ld8 hgt hl.symm (j:=j) (by omega);have b1:=ix8 hgt hl.symm (len:=L) (cap:=cap) (i:=(i:Int)) (by omega) (by omega) .i64;have b2:=ld8 hgt hl.symm (j:=i) (by omega);have b3:=st8 hgt hl.symm (j:=i) (by omega) (nth 0 l j);rw [KW] at b3
   have hgt2:=KX (e:=e) (ex:=ex) (l:=l.set i (nth 0 l j)) hs;have c1:=ix8 hgt2 (by simpa using hl.symm) (len:=L) (cap:=cap) (i:=(j:Int)) (by omega) (by omega) .i64;have c3:=st8 hgt2 (by simpa using hl.symm) (j:=j) (by simp;omega) (nth 0 l i);rw [KW] at c3;simp only [Int.toNat_natCast] at a1 b1 c1
   have nn:∀ m,nth 0 ((l.set i (nth 0 l j)).set j (nth 0 l i)) m=if j=m then nth 0 l i else if i=m then nth 0 l j else nth 0 l m:=fun m=>by
    rw [LF (by simp;omega),LF (by omega)]
   have ihh:=ih (i+1) ((l.set i (nth 0 l j)).set j (nth 0 l i)) (by omega) (by omega) (by simpa using hl) (fun m hm hc=>by
    rw [nn];by_cases e1:j=m
    ·rw [if_pos e1,h2 i (by omega) (Z7 _) (by omega)];congr 1;omega
    ·rw [if_neg e1];by_cases e2:i=m
     ·rw [if_pos e2,h2 j (by omega) (by omega) (by omega)];congr 1;omega
     ·rw [if_neg e2];exact h1 m hm (by omega)) (fun m hm hc hc2=>by
    rw [nn,if_neg (by omega),if_neg (by omega)];exact h2 m hm (by omega) (by omega)) (fun m hm=>by
    rw [nn,if_neg (by omega),if_neg (by omega)];exact h3 m hm) hk
   have e2:(j:Int)-1=(L:Int)-1-((i+1:Nat):Int):=by omega
   rw [<- e2] at ihh;clear hk ih;refine aj ?_;rw [ej] at g' ⊢;simp (disch:=first|omega|simp<;>omega|fail)[cj,g',a1,a2,b1,b2,b3,c1,c3];simpa [hh] using ihh
  ·refine aj ?_;have g':¬ ((i:Int)<(L:Int)-1-i):=by omega
   simp (disch:=first|omega|simp<;>omega|fail)[cj,g']
   exact hk l hl (fun m hm=>by
    by_cases hc:m<i∨L-1-m<i
    ·exact h1 m hm hc
    ·rw [h2 m hm (by omega) (by omega)];congr 1;omega) h3
theorem Ve {x y:List UInt8} (hl:x.length=y.length) (h:∀ c,c<x.length->nth 0 x c=nth 0 y c):x=y:=by
 refine List.ext_getElem hl fun i h1 h2=>?_
 have:=h i h1;rw [gk _ _ _ h1,gk _ _ _ h2] at this;exact this
theorem NR {h:Hp} (hu:(h.all fun x=>dF h.length x.2)=true) {s e tot:Nat} {ex:Bool} (hs:s<h.length) {L cap:Nat} (hL:L<=tot) (htb:tot<1000000000000) {l:List UInt8} (hl:l.length=tot) :
  CI Y F.bh [.ref s e 0 L cap tot] (s8 h s e ex l) (.tup []) (s8 h s e ex ((l.take L).reverse++l.drop L)):=by
 refine mY ?_;simp (disch:=first|omega|simp<;>omega|fail)[bh];have e1:(L:Int)-1=(L:Int)-1-((0:Nat):Int):=by omega
 rw [e1]
 have:=K5 (h:=h) (s:=s) (e:=e) (ex:=ex) hs (cap:=cap) hL htb l (exK [(.exit 0,fun l3 h_1=>qH (List.length (s8 h s e ex l)) (.tup []) (s8 h s e ex ((l.take L).reverse++l.drop L)) (.tup []) h_1)]) (s8 h s e ex l) (by simp) L 0 l (by omega) (by omega) hl (fun m hm hc=>by omega) (fun m _ _ _=>rfl) (fun m _=>rfl) fun l' hl' h1 h2=>by
  have hE:l'=(l.take L).reverse++l.drop L:=by
   refine Ve (by simp;omega) fun c hc=>?_
   by_cases hcL:c<L
   ·rw [h1 c hcL,gk _ _ _ (by omega),gk _ _ _ (by simp;omega)];rw [List.getElem_append_left (by simp;omega),List.getElem_reverse,List.getElem_take];congr 1;simp;omega
   ·rw [h2 c (by omega),gk _ _ _ (by omega),gk _ _ _ (by simp;omega)];rw [List.getElem_append_right (by simp;omega),List.getElem_drop];congr 1;simp;omega
  subst hE;simp only [gT];refine ⟨(Zu (by simp)).symm,?_,.inl ⟨rfl,rfl⟩⟩;rw [Zz] at hu ⊢;intro x hx;rcases Yr hx with h | h
  ·simpa using hu x h
  ·rw [h];rfl
 simpa using this
def tH (l:List UInt8):Hp:=[(1,.data 1 (l.map u8) true false),(0,.none),(0,.none)]
theorem Ky (l:List UInt8):(tH l)[0]? = some (1,.data 1 (l.map u8) true false):=rfl
@[simp] theorem Ux (l:List UInt8):(tH l).length=3:=rfl
theorem Kx (l l':List UInt8):(tH l).set 0 (1,.data 1 (l'.map u8) true false)=tH l':=rfl
theorem Ht {p:List Nat} {i N:Nat} (hi:i<p.length) (hp:p.length<100000000) (hN:N<1000000000000) (k:KL) (h0:Hp) (hh:h0.length=3):∀ (w j x:Nat) (bs:List UInt8),
  (i+1<p.length∧j+w=9∨¬ i+1<p.length∧j+w<=9∧x<10 ^ w∧(0<w->10 ^ (w-1)<=x))->x<1000000000->bs.length+w<=N ->
  k (.exit 2) [.ref 0 1 0 (bs.length+w) N N] (tH (bs++(cn x w).reverse++List.replicate (N-(bs.length+w)) 0)) ->
  lp (bR (CX Y) (lst u6 p) (I i)) [] h0 [.ref 0 1 0 bs.length N N,U x,I j] (tH (bs++List.replicate (N-bs.length) 0)) k
 | 0,j,x,bs=>by
  intro hc hx hb hk;have lp':am (lst u6 p)=some (I p.length):=rfl;refine aj ?_;rcases hc with ⟨g1,g2⟩ | ⟨g1,g2,g3,g4⟩
  ·have g5:¬ ((j:Int)<9):=by omega
   simp (disch:=first|omega|simp<;>omega|fail)[bR,g5];simpa [cn] using hk
  ·have x0:x=0:=by simpa using g3
   subst x0;have g1':¬ ((i:Int)+1<(p.length:Int)):=by omega
   by_cases g5:(j:Int)<9
   ·simp (disch:=first|omega|simp<;>omega|fail)[bR,g5,lp',g1'];simpa [cn] using hk
   ·simp (disch:=first|omega|simp<;>omega|fail)[bR,g5];simpa [cn] using hk
 | w+1,j,x,bs=>by
  intro hc hx hb hk;have lp':am (lst u6 p)=some (I p.length):=rfl;have g5:(j:Int)<9:=by omega
  have hdg:u8 (dg (x % 10))=.int .u8 (48+((x % 10:Nat):Int)):=Hn (Y8 _ (by decide));obtain ⟨m,hm⟩:∃ m,x % 10=m:=⟨_,rfl⟩;obtain ⟨d,hd⟩:∃ d,x / 10=d:=⟨_,rfl⟩;have hm10:m<10:=by omega
  have e1:(x:Int) % 10=(m:Int):=by omega
  have e2:(x:Int) / 10=(d:Int):=by omega
  rw [hm] at hdg;have hdec:(cn x (w+1)).reverse=dg m::(cn d w).reverse:=by rw [cn,hd,hm];simp
  have ih:=Ht hi hp hN k h0 hh w (j+1) d (bs++[dg m]) (by
   rcases hc with ⟨g1,g2⟩ | ⟨g1,g2,g3,g4⟩
   ·exact .inl ⟨g1,by omega⟩
   ·refine .inr ⟨g1,by omega,?_,fun hw=>?_⟩
    ·rw [<- hd];exact Yk (by rw [Nat.pow_succ,Zy] at g3;exact g3)
    ·have:=g4 (by omega);rw [<- hd,Wy (by decide),<- Nat.pow_succ,show (w-1).succ=w+1-1 by omega];exact this) (by omega) (by simp;omega) (by
   rw [hdec] at hk;rw [show (bs++[dg m]).length+w=bs.length+(w+1) by simp;omega];simpa using hk)
  have hcell:(bs++List.replicate (N-bs.length) 0).take bs.length++[dg m]++(bs++List.replicate (N-bs.length) 0).drop (bs.length+1)=(bs++[dg m])++List.replicate (N-(bs++[dg m]).length) 0:=by
   rw [X5 rfl]
   have:List.replicate (N-bs.length) (0:UInt8)=0::List.replicate (N-bs.length-1) 0:=by
    rw [<- List.replicate_succ];congr 1;omega
   rw [this,<- List.drop_drop,Wi rfl];rw [show N-bs.length-1=N-(bs++[dg m]).length by simp;omega];simp
  have hcl:(bs++List.replicate (N-bs.length) 0).length=N:=by simp;omega
  have hli:∀ h:Hp,dk 1 [D.int .u8 0] [(0,.d (.int .u8 (48+(m:Int))))] h=some ([u8 (dg m)],h):=fun h=>by
   rw [hdg];simp [dk,fY,iz,toD]
  have hx0:¬ i+1<p.length->0<(x:Int):=fun h=>by
   rcases hc with ⟨g1,_⟩ | ⟨_,_,_,g4⟩
   ·exact absurd g1 h
   ·have:=g4 (by omega);have:=Yf (n:=w+1-1) (show 0<10 by decide);omega
  clear hk;refine aj ?_;by_cases g1:(i:Int)+1<(p.length:Int)
  ·simp (disch:=first|omega|simp<;>omega|fail)[bR,g5,lp',g1,Zx,Zv,e1,e2,hli];refine ap8 (Ky _) hcl (by omega) ?_;rw [hcell];simp only [Kx];simp (disch:=first|omega|simp<;>omega|fail)[Zx,Zv,e2];simpa [hh] using ih
  ·have g3:=hx0 (by omega);simp (disch:=first|omega|simp<;>omega|fail)[bR,g5,lp',g1,g3,Zx,Zv,e1,e2,hli];refine ap8 (Ky _) hcl (by omega) ?_;rw [hcell];simp only [Kx];simp (disch:=first|omega|simp<;>omega|fail)[Zx,Zv,e2];simpa [hh] using ih
end Go.Vm
namespace Go.Vm
open Go Go.Am Go.Big
theorem Te {l:List UInt8} {L N:Nat} (hl:l.length=N) (hL:L<=N):cvT (tH l) (.ref 0 1 0 L N N)=some (S (l.take L)):=by
 simp only [cvT,cellsOf,tH,hget];simp [hl,hL,<- List.map_take,vI]
def txS (p:List Nat) (i:Nat):List UInt8:=if i<p.length then (cn (val Z (p.take i)) (9*i)).reverse else (aa (val Z p)).reverse
theorem Hr {p:List Nat} (hp:au Z p) (hne:p≠[]) (i:Nat) (hi:i<=p.length):(txS p i).length<=9*p.length:=by
 unfold txS;split
 ·simp [aK];omega
 ·have h1:=gF (B:=Z) aS hp;rw [uO] at h1;have:=a6 h1 (by have:=List.length_pos_iff.2 hne;omega);simp [aa,aK];exact this
theorem Kp {p:List Nat} (hp:au Z p) (hn:uP p) {i:Nat} (hi:i<p.length) :
  ∃ w,(i+1<p.length∧0+w=9∨¬ i+1<p.length∧0+w<=9∧nth 0 p i<10 ^ w∧(0<w->10 ^ (w-1)<=nth 0 p i))∧txS p (i+1)=txS p i++(cn (nth 0 p i) w).reverse:=by
 obtain ⟨x,hx⟩:∃ x,nth 0 p i=x:=⟨_,rfl⟩;have hxZ:x<Z:=by rw [<- hx];exact hp.getD aS i
 have hv:=rY (B:=Z) p hi;rw [show p.getD i 0=x from hx] at hv;have hlow:=gF (B:=Z) aS (hp.take i);rw [Zr,Za (by omega)] at hlow;rw [uO] at hlow hv;obtain ⟨r,hr⟩:∃ r,val Z (p.take i)=r:=⟨_,rfl⟩;rw [hr] at hlow hv;rw [hx];by_cases hl:i+1<p.length
 ·refine ⟨9,.inl ⟨hl,rfl⟩,?_⟩;have hpp:0<10 ^ (9*i):=Yf (by decide);rw [txS,if_pos hl,txS,if_pos hi,hr,hv,show 9*(i+1)=9+9*i by omega,uC,Yt _ _ hpp,Xc hlow,Zk,uB,List.reverse_append]
 ·have hip:i+1=p.length:=by omega
  have hx0:0<x:=by
   have hne:p≠[]:=fun e=>by rw [e] at hi;simp at hi
   have:=hn hne;rw [List.getLast_eq_getElem] at this;rw [<- hx,gk _ _ _ hi];have e:p.length-1=i:=by omega
   simp only [e] at this;omega
  refine ⟨ndg x,.inr ⟨hl,?_,bP x,fun _=>vk x hx0⟩,?_⟩
  ·have:ndg x<=9:=a6 (by simp only [Z] at hxZ;omega) (by decide);omega
  ·rw [txS,if_neg hl,txS,if_pos hi,hr]
   have hval:val Z p=r+10 ^ (9*i)*x:=by
    have:p.take (i+1)=p:=Zu (by omega);rw [<- hv,this]
   rw [hval,JN hx0 hlow,List.reverse_append];rfl
theorem Hu {p:List Nat} (hp:au Z p) (hn:uP p) (hne:p≠[]) (hpl:p.length<100000000) (k:KL) (h0:Hp) (hh:h0.length=3) {N:Nat} (hN:N=9*p.length) :
  ∀ (r i:Nat),i+r=p.length->k (.exit 0) [.ref 0 1 0 (txS p p.length).length N N] (tH (txS p p.length++List.replicate (N-(txS p p.length).length) 0)) ->
  lp (fI (CX Y) (lst u6 p) (lst u6 p) (I p.length)) [] h0 [.ref 0 1 0 (txS p i).length N N,I i] (tH (txS p i++List.replicate (N-(txS p i).length) 0)) k
 | 0,i=>by
  intro hi hk;have:i=p.length:=by omega
  subst this;refine aj ?_;simp (disch:=first|omega|simp<;>omega|fail)[fI];exact hk
 | r+1,i=>by
  intro hi hk;have hil:i<p.length:=by omega
  obtain ⟨w,hw,hst⟩:=Kp hp hn hil;have ih:=Hu hp hn hne hpl k h0 hh hN r (i+1) (by omega) hk;have hlen2:=Hr hp hne (i+1) (by omega);rw [hst] at ih hlen2;have hlw:(txS p i++(cn (nth 0 p i) w).reverse).length=(txS p i).length+w:=by simp [aK]
  rw [hlw] at ih hlen2;have e1:=fun h:Hp=>d6 u6 p h (k:=.i64) (i:=(i:Int)) (by omega) (by omega)
  have e2:=fun h:Hp=>yE p h (j:=i) hil
  simp only [Int.toNat_natCast] at e1;have hxZ:nth 0 p i<1000000000:=by have:=hp.getD aS i;simp only [Z] at this;exact this
  refine aj ?_;simp (disch:=first|omega|simp<;>omega|fail)[fI,e1,e2];refine lo (Ht hil hpl (by omega) _ _ rfl w 0 (nth 0 p i) (txS p i) hw hxZ (by omega) ?_);simp (disch:=first|omega|simp<;>omega|fail)[hh];simpa using ih
theorem dt:aa 0=[48]:=by
 rw [aa,show ndg 0=1 by unfold ndg;simp];rfl
theorem rq {n:Nat} (hb:(dig Z n).length<100000000):CP Y F.aC [pcs n] (S (aa n)):=by
 refine qd ?_;obtain ⟨p,hp⟩:∃ p,dig Z n=p:=⟨_,rfl⟩;have hs:au Z p:=by rw [<- hp];exact bB ag n
 have hno:uP p:=by rw [<- hp];exact y9 ag n
 have hv:val Z p=n:=by rw [<- hp];exact fq ag n
 rw [pcs,hp];rw [hp] at hb;have lP:am (lst u6 p)=some (I p.length):=rfl;by_cases hne:p=[]
 ·subst hne;have:n=0:=by rw [<- hv];rfl
  subst this;simp (disch:=first|omega|simp<;>omega|fail)[aC,lP];exact cT dt.symm
 ·have hpos:=List.length_pos_iff.2 hne;obtain ⟨N,hN⟩:∃ N,N=9*p.length:=⟨_,rfl⟩;have e9:(9:Int)*(p.length:Int)=(N:Int):=by omega
  have g1:¬ ((p.length:Int)=0):=by omega
  have g2:¬ (p.length=0):=by omega
  have t0:txS p 0=[]:=by rw [txS,if_pos hpos];simp [cn,val]
  have tl:txS p p.length=(aa n).reverse:=by rw [txS,if_neg (by omega),hv]
  have hln:=Hr hs hne p.length (Z7 _);rw [tl,List.length_reverse] at hln;simp (disch:=first|omega|simp<;>omega|fail)[aC,lP,g1,g2,hne,e9];refine K4 (e:=0) (b:=.none) rfl (by omega) (by omega) ?_;simp (disch:=first|omega|simp<;>omega|fail)[lP]
  have hz:[(1,Bk.data 1 (List.replicate N (D.int IntKind.u8 0)) true false),(0,.none),(0,.none)]=tH (txS p 0++List.replicate (N-(txS p 0).length) 0):=by
   rw [t0];simp [tH,u8]
  have main:=Hu hs hno hne hb (exK [(.exit 0,fun l7 h=>
   cai (CX Y).i h (.fn F.bh [] []) [(ge l7 0)] 2 fun v8 h=>
   bnd (cvT h (ge l7 0)) fun v9=>
   out (S (aa n)) v9 h)]) (tH (txS p 0++List.replicate (N-(txS p 0).length) 0)) rfl hN p.length 0 (by omega) (by
   simp only [gT,tl,List.length_reverse,Ig];obtain ⟨l,hl⟩:∃ l,(aa n).reverse++List.replicate (N-(aa n).length) 0=l:=⟨_,rfl⟩;have hll:l.length=N:=by rw [<- hl];simp;omega
   rw [hl];have rv:=NR (h:=tH l) rfl (s:=0) (e:=1) (ex:=true) (by simp) (L:=(aa n).length) (cap:=N) (tot:=N) (by omega) (by omega) hll
   have hl2:(l.take (aa n).length).reverse++l.drop (aa n).length=aa n++List.replicate (N-(aa n).length) 0:=by
    rw [<- hl,X5 (by simp),Wi (by simp),List.reverse_reverse]
   rw [hl2] at rv;refine kY rv ?_ (by simp)
   show bnd (cvT (tH _) _) _
   rw [Te (by simp;omega) (by omega),X5 rfl];exact cT rfl)
  rw [t0] at main hz;rw [hz];exact main
theorem Bf (a b:List Nat) (hab:a.length=b.length) (hs:a.length<1000000000) (k:KL):∀ i:Nat,i<=a.length->(Eu a b i=0->k (.exit 0) [] [])->(Eu a b i≠0->k .ret [I (Eu a b i)] []) ->
  lp (bN (CX Y) (lst u6 a) (lst u6 b)) [] [] [I ((i:Int)-1)] [] k
 | 0,_,h0,_=>by
  refine aj ?_;simp (disch:=first|omega|simp<;>omega|fail)[bN];exact h0 rfl
 | i+1,hi,h0,h1=>by
  have e1:=fun h:Hp=>d6 u6 a h (k:=.i64) (i:=(i:Int)) (by omega) (by omega)
  have e2:=fun h:Hp=>yE a h (j:=i) (by omega)
  have e3:=fun h:Hp=>d6 u6 b h (k:=.i64) (i:=(i:Int)) (by omega) (by omega)
  have e4:=fun h:Hp=>yE b h (j:=i) (by omega)
  simp only [Int.toNat_natCast] at e1 e3;obtain ⟨x,hx⟩:∃ x,nth 0 a i=x:=⟨_,rfl⟩;obtain ⟨y,hy⟩:∃ x,nth 0 b i=x:=⟨_,rfl⟩;rw [hx] at e2;rw [hy] at e4;simp only [Eu,show a.getD i 0=x from hx,show b.getD i 0=y from hy] at h0 h1;have ei:((i+1:Nat):Int)-1=(i:Int):=by omega
  refine aj ?_;rw [ei];by_cases g1:x<y
  ·have g1':(x:Int)<(y:Int):=by omega
   rw [if_pos g1] at h1;simp (disch:=first|omega|simp<;>omega|fail)[bN,e1,e2,e3,e4,g1'];exact h1 (by decide)
  ·rw [if_neg g1] at h0 h1;have g1':¬ (x:Int)<(y:Int):=by omega
   by_cases g2:y<x
   ·have g2':(y:Int)<(x:Int):=by omega
    rw [if_pos g2] at h1;simp (disch:=first|omega|simp<;>omega|fail)[bN,e1,e2,e3,e4,g1',g2'];exact h1 (by decide)
   ·have g2':¬ (y:Int)<(x:Int):=by omega
    rw [if_neg g2] at h0 h1;have:=Bf a b hab hs k i (by omega) h0 h1;simp (disch:=first|omega|simp<;>omega|fail)[bN,e1,e2,e3,e4,g1',g2'];simpa using this
theorem OY {a b:Nat} (ha:(dig Z a).length<1000000000) (hb:(dig Z b).length<1000000000):CP Y F.bz [pcs a,pcs b] (I (cmp a b)):=by
 refine nW ?_;have la:am (pcs a)=some (I (dig Z a).length):=rfl;have lb:am (pcs b)=some (I (dig Z b).length):=rfl;by_cases hl:(dig Z a).length=(dig Z b).length
 ·have ho:=HU aS (bB ag a) (bB ag b) (dig Z a).length (Z7 _) (by omega);rw [Xy,hl,Xy,fq ag,fq ag,<- hl] at ho;have hli:((dig Z a).length:Int)=((dig Z b).length:Int):=by omega
  simp (disch:=first|omega|simp<;>omega|fail)[bz,la,lb,hl];refine lo (show lp _ _ _ _ _ _ from ?_);rw [<- hli];refine Bf (dig Z a) (dig Z b) hl ha _ _ (Z7 _) (fun h0=>?_) (fun h0=>?_)
  ·simp only [gT];exact bH (by rw [<- ho,h0])
  ·simp only [qQ,uv,Ig];exact bH (by rw [ho])
 ·have hli:¬ ((dig Z a).length:Int)=((dig Z b).length:Int):=by omega
  rcases Zo (dig Z a).length (dig Z b).length with h | h
  ·have:=CE ag (m:=a) (n:=b) h;have e:cmp a b = -1:=by simp [cmp,this]
   have e2:mx2 false 1 (mx2 true (-1) (((dig Z a).length:Int)-((dig Z b).length:Int))) = -1:=by simp [mx2];omega
   simp (disch:=first|omega|simp<;>omega|fail)[bz,la,lb,hl,mxI,e2];exact bH (by rw [e])
  ·have:=CE ag (m:=b) (n:=a) (by omega);have e:cmp a b=1:=by unfold cmp;rw [if_neg (by omega),if_pos this]
   have e2:mx2 false 1 (mx2 true (-1) (((dig Z a).length:Int)-((dig Z b).length:Int)))=1:=by simp [mx2];omega
   simp (disch:=first|omega|simp<;>omega|fail)[bz,la,lb,hl,mxI,e2];exact bH (by rw [e])
theorem vR (h:Hp) (l:List UInt8):aA h (S l)=some (S l,h):=rfl
theorem Ix {n d:Nat} (h:ndg n<=d) (hd:d<90000000):(dig Z n).length<100000000:=by
 have h1:=bP n;have h2:n<Z ^ d:=Z2 h1 (by rw [uO];exact Z5 (by decide) (by omega));have:=fG h2;omega
theorem vz {a b:Nat} (hb:0<b) (ha:ndg a<1000000) (hbd:ndg b<1000000):CP Y F.dS [S (aa a),S (aa b)] (.tup [S (aa (a / b)),S (aa (a % b)),I 0]):=by
 refine vF ?_
 have hne:¬ aa b=[48]:=by
  rw [<- dt];intro e;have:=congrArg (dG 0) e;rw [cF,cF] at this;omega
 have hla:=Ix (Nat.le_of_lt ha) (by decide);have hlb:=Ix (Nat.le_of_lt hbd) (by decide);have bo:=xu a b;simp (disch:=first|omega|simp<;>omega|fail)[dS,hne];by_cases h18:ndg a<=18∧ndg b<=18
 ·rw [if_pos h18] at bo;have ha2:a<1000000000000000000:=by have:=bP a;have:=Z5 (n:=10) (by decide) h18.1;omega
  refine cd bo ?_;obtain ⟨q,hq⟩:∃ q,a / b=q:=⟨_,rfl⟩;obtain ⟨r,hr⟩:∃ r,a % b=r:=⟨_,rfl⟩;have hqa:q<=a:=by rw [<- hq];exact Yi ..
  have hra:r<=a:=by rw [<- hr];exact Nat.mod_le ..
  have e1:(a:Int) / (b:Int)=(q:Int):=by rw [<- hq];simp
  have e2:(a:Int) % (b:Int)=(r:Int):=by rw [<- hr];simp
  have hb0:¬ ((b:Int)=0):=by omega
  have hb0':¬ (b=0):=by omega
  rw [hq,hr];simp (disch:=first|omega|simp<;>omega|fail)[hb0,hb0',Zv,Zx,e1,e2];refine cd (vh (n:=q) (by omega)) ?_;simp (disch:=first|omega|simp<;>omega|fail)[hb0,hb0',Zv,Zx,e1,e2];refine cd (vh (n:=r) (by omega)) ?_;exact gN (vR _ _) (vR _ _) rfl
 ·rw [if_neg h18] at bo;refine cd bo ?_;obtain ⟨ca,hca⟩:∃ ca,ca=ndg a / 9+1:=⟨_,rfl⟩;obtain ⟨cb,hcb⟩:∃ cb,cb=ndg b / 9+1:=⟨_,rfl⟩;have ltA:a<Z ^ ca:=Z2 (bP a) (by rw [uO];exact Z5 (by decide) (by omega));have ltB:b<Z ^ cb:=Z2 (bP b) (by rw [uO];exact Z5 (by decide) (by omega))
  have cA:=nZ (h:=[(0,.none),(0,.none)]) rfl (n:=a) (by omega) hca;have lA:(aO ca a).length=ca:=bJ ..;have lB:(aO cb b).length=cb:=bJ ..;have cB:=nZ (h:=[(1,.data 1 ((aO ca a).map u6) true false),(0,.none)]) rfl (n:=b) (by omega) hcb;simp (disch:=first|omega|simp<;>omega|fail)[];refine j4 (gE (e:=0) (b:=.none) cA rfl ?_);rw [List.length_map,lA]
  simp (disch:=first|omega|simp<;>omega|fail)[];refine j4 (gE (e:=0) (b:=.none) cB rfl ?_);rw [List.length_map,lB];simp (disch:=first|omega|simp<;>omega|fail)[];have sA:=qy (h:=[(1,.data 1 ((aO ca a).map u6) true false),(1,.data 1 ((aO cb b).map u6) true false)]) (s:=0) rfl lA.symm (len:=(dig Z a).length) (cap:=ca) (fG ltA) (Z7 _)
  have sB:=qy (h:=[(1,.data 1 ((aO ca a).map u6) true true),(1,.data 1 ((aO cb b).map u6) true false)]) (s:=1) rfl lB.symm (len:=(dig Z b).length) (cap:=cb) (fG ltB) (Z7 _);rw [jV ltA] at sA;rw [jV ltB] at sB;simp only [List.set_cons_zero,List.set_cons_succ] at sA sB
  have sAB:ae [(1,.data 1 ((aO ca a).map u6) true false),(1,.data 1 ((aO cb b).map u6) true false)] [.ref 0 1 0 (dig Z a).length ca ca,.ref 1 1 0 (dig Z b).length cb cb]=some ([pcs a,pcs b],[(1,.data 1 ((aO ca a).map u6) true true),(1,.data 1 ((aO cb b).map u6) true true)]):=by
   simp only [ae,sA,sB];rfl
  refine cdz sAB (OY (a:=a) (b:=b) (by omega) (by omega)) ?_;rw [show fv (I (cmp a b))=true from rfl,if_pos rfl];by_cases hab:a<b
  ·have hc:cmp a b = -1:=by simp [cmp,hab]
   rw [Xc hab,Yh hab,dt];simp (disch:=first|omega|simp<;>omega|fail)[hc];exact gN (vR _ _) (vR _ _) rfl
  ·have hc:¬ cmp a b<0:=by unfold cmp;rw [if_neg hab];split <;> decide
   have hlen:(dig Z b).length<=(dig Z a).length:=by
    rcases Zo (dig Z a).length (dig Z b).length with h | h
    ·exact absurd (CE ag h) hab
    ·exact h
   have lq:(dig Z (a / b)).length<100000000:=by
    have:a / b<=a:=Yi ..;have:=fG (Ze this ltA);omega
   have lr:(dig Z (a % b)).length<100000000:=by
    have:a % b<=a:=Nat.mod_le ..;have:=fG (Ze this ltA);omega
   by_cases h1:(dig Z b).length=1
   ·have hbZ:b<Z:=by have:=pj b;rw [h1,Nat.pow_one] at this;exact this
    obtain ⟨cb',hcb'⟩:∃ c,cb=c+1:=⟨cb-1,by omega⟩;have hn0:nth 0 (aO cb b) 0=b:=by rw [hcb',aO];simp [nth,Yh hbZ]
    have r1:=wH (h:=[(1,.data 1 ((aO ca a).map u6) true false),(1,.data 1 ((aO cb b).map u6) true false)]) (s:=1) rfl lB.symm (len:=1) (cap:=cb) (i:=0) (by omega) (by omega) .i64;have r2:=Cm (h:=[(1,.data 1 ((aO ca a).map u6) true false),(1,.data 1 ((aO cb b).map u6) true false)]) (s:=1) rfl lB.symm (j:=0) (by omega);rw [hn0] at r2
    have r1':ixV [(1,Bk.data 1 ((aO ca a).map u6) true false),(1,.data 1 ((aO cb b).map u6) true false)] 1 (.ref 1 1 0 1 cb cb) (I 0)=some (.ptr 1 1 0 cb):=r1;simp (disch:=first|omega|simp<;>omega|fail)[hc,h1,r1',r2]
    refine cdz (ds:=[pcs a,U b]) (h':=[(1,.data 1 ((aO ca a).map u6) true true),(1,.data 1 ((aO cb b).map u6) true false)]) (by simp only [ae,sA,rZ];rfl) (AC (a:=a) (n:=b) (by omega) hb (by omega)) ?_;rw [show fv (.tup [pcs (a / b),U (a % b:Nat)])=false from rfl];simp (disch:=first|omega|simp<;>omega|fail)[]
    refine cd (args:=[pcs (a / b)]) (rq lq) ?_ (by simp [ae,pcs]);simp (disch:=first|omega|simp<;>omega|fail)[];refine cd (vh (n:=a % b) (by have:=Y8 a hb;simp only [Z] at hbZ;omega)) ?_;exact gN (vR _ _) (vR _ _) rfl
   ·have h0:(dig Z b).length≠0:=fun e=>by
     have:=pj b;rw [e] at this;simp at this;omega
    have h1i:¬ ((dig Z b).length:Int)=1:=by omega
    simp (disch:=first|omega|simp<;>omega|fail)[hc,h1,h1i];refine cdz sAB (GW (P:=a) (Q:=b) (by omega) hlen (by have:=fG ltA;omega)) ?_;rw [show fv (.tup [pcs (a / b),pcs (a % b)])=false from rfl];simp (disch:=first|omega|simp<;>omega|fail)[];refine cd (args:=[pcs (a / b)]) (rq lq) ?_ (by simp [ae,pcs]);simp (disch:=first|omega|simp<;>omega|fail)[]
    refine cd (args:=[pcs (a % b)]) (rq lr) ?_ (by simp [ae,pcs]);exact gN (vR _ _) (vR _ _) rfl
end Go.Vm
