/- Pieces of nine digits: divide. -/
import Derived.Test.YtbdajblfnkoagaaGreatDoorQDcX
set_option linter.unusedVariables false
set_option linter.unusedSimpArgs false
namespace Go.Vm
open Go Go.Am Go.Big
section
variable {H:Hp} {p7 p8 pa0 pb0 pb1:V} {n i:Nat} {L lD lB x0 x1 x2 y0 y1 D v hi:Nat}
theorem guess_loop (G:Gs Z L lD lB x0 x1 x2 y0 y1 D v hi) (hy1Z:y1 < Z) (hhi:hi < Z * Z) (hn:2≤n) (hnb:n < Z) (hib:i < Z)
  (a1:ixV H 1 p7 (I ((i:Int)+(n:Int) - 2))=some pa0) (a2:ld1 H pa0=some (U x0)) (b1:ixV H 1 p8 (I ((n:Int) - 2))=some pb0) (b2:ld1 H pb0=some (U y0))
  (c1:ixV H 1 p8 (I ((n:Int) - 1))=some pb1) (c2:ld1 H pb1=some (U y1)) (k:KL) (h0:Hp) (hh:h0.length=H.length) :
  ∀ (N g r:Nat),g≤N→g * y1+r=hi→D / v≤g→(∀ g':Nat,D / v≤g'→g' * v < D+v→g' < Z→k (.exit 4) [U g'] H) →
  lp (decimal_pieces_divide_l2 (CX Y) p7 p8 (I n) (I i)) [] h0 [U g,U r] H k:=by
 intro N
 induction N with
 | zero =>
  intro g r hg0 he hq hk
  have hZ:Z=1000000000:=rfl
  simp only [hZ] at hhi hnb hib
  have hg:g=0:=by omega
  have hr:r=hi:=by rw [hg] at he; omega
  have hnear:g * v < D+v:=by have:=G.pos; rw [hg,Nat.zero_mul]; omega
  have hgZ:g < Z:=by rw [hg]; decide
  have g0:¬ (1000000000:Int)≤(g:Int):=by omega
  have p0:(g:Int) * (y0:Int)=0:=by rw [hg]; simp
  have hx0:=G.hx0
  simp only [hZ] at hx0
  clear he
  refine lp_in ?_
  by_cases g1:(r:Int) < 1000000000
  ·have g3:¬ (r:Int) * 1000000000+x0 < 0:=by omega
   simp (disch:=first|omega|simp<;>omega|fail)[decimal_pieces_divide_l2,a1,a2,b1,b2,g0,g1,p0,g3]
   exact hk g hq hnear hgZ
  ·simp (disch:=first|omega|simp<;>omega|fail)[decimal_pieces_divide_l2,a1,a2,b1,b2,g0,g1]
   exact hk g hq hnear hgZ
 | succ N ih =>
  intro g r hgN he hq hk
  rcases Nat.eq_zero_or_pos g with hg0 | hgp
  ·exact ih g r (by omega) he hq hk
  obtain ⟨g,rfl⟩:∃ g',g=g'+1:=⟨g - 1,by omega⟩
  have hZ:Z=1000000000:=rfl
  simp only [hZ] at hhi hnb hib
  have hrb:r≤hi:=by omega
  have hgb:g+1≤hi:=by
   have:=Nat.mul_le_mul_left (g+1) G.hy1
   omega
  have he2:g * y1+(r+y1)=hi:=by rw [Nat.succ_mul] at he; omega
  have hx0:=G.hx0
  have hy0:=G.hy0
  have go:D / v≤g→lp (decimal_pieces_divide_l2 (CX Y) p7 p8 (I n) (I i)) [] h0 [U g,U (r+y1:Nat)] H k:=fun hq2=>ih g (r+y1) (by omega) he2 hq2 hk
  obtain ⟨p,hp⟩:∃ p,p=(g+1) * y0:=⟨_,rfl⟩
  have hpi:((g:Int)+1) * (y0:Int)=(p:Int):=by rw [hp]; simp
  by_cases g1:(1000000000:Int)≤(g:Int)+1
  ·have hq2:=G.far (g:=g+1) (by simp only [hZ]; omega)
   have g1':=g1
   have:=go (by omega)
   refine lp_in ?_
   simp (disch:=first|omega|simp<;>omega|fail)[decimal_pieces_divide_l2,g1',c1,c2,hh]
   simpa using this
  have g1':=g1
  by_cases g2:(r:Int) < 1000000000
  ·have hpb:p≤1000000000 * 1000000000:=by rw [hp]; exact Nat.mul_le_mul (by omega) (by omega)
   by_cases g3:(r:Int) * 1000000000+x0 < p
   ·have hq2:=G.over he (by rw [← hp]; simp only [hZ]; omega)
    have g3':=g3
    have:=go (by omega)
    refine lp_in ?_
    simp (disch:=first|omega|simp<;>omega|fail)[decimal_pieces_divide_l2,a1,a2,b1,b2,g1',g2,hpi,g3',c1,c2,hh]
    simpa using this
   ·have hn1:=G.near he (by simp only [hZ]; omega) (by rw [← hp]; intro h; have:=h.2; simp only [hZ] at this; omega)
    have g3':=g3
    refine lp_in ?_
    simp (disch:=first|omega|simp<;>omega|fail)[decimal_pieces_divide_l2,a1,a2,b1,b2,g1',g2,hpi,g3',c1,c2,hh]
    exact hk (g+1) hq hn1 (by simp only [hZ]; omega)
  ·have g2':=g2
   have hn1:=G.near he (by simp only [hZ]; omega) (fun h=>by have:=h.1; simp only [hZ] at this; omega)
   refine lp_in ?_
   simp (disch:=first|omega|simp<;>omega|fail)[decimal_pieces_divide_l2,a1,a2,b1,b2,g1',g2',c1,c2,hh]
   exact hk (g+1) hq hn1 (by simp only [hZ]; omega)
end
theorem reset_idn {clr:List Nat}:∀ (i:Nat) (h0 h:Hp),h.length=h0.length→(∀ j,notIn clr (i+j)=false→∀ x,h[j]? = some x→∃ b,h0[j]? = some (x.1,b)∧x.2=.none)→resetGo clr i h0 h=h
 | _,[],h,hl,_=>by
  have:h=[]:=List.eq_nil_of_length_eq_zero (by simpa using hl)
  subst this; rfl
 | i,x0 :: h0,[],hl,_=>by simp at hl
 | i,x0 :: h0,x :: h,hl,hs=>by
  rw [reset_cons,reset_idn (i+1) h0 h (by simpa using hl) (fun j hj y hy=>hs (j+1) (by rw [show i+(j+1)=i+1+j by omega]; exact hj) y hy)]
  by_cases hc:notIn clr i=true
  ·rw [if_pos hc]
  ·rw [if_neg hc]
   obtain ⟨b,h1,h2⟩:=hs 0 (by simpa using hc) x rfl
   simp only [List.getElem?_cons_zero,Option.some.injEq] at h1
   rw [h1]
   simp only
   rw [← h2]
theorem offH_of {clr:List Nat}:∀ (i:Nat) (h:Hp),(∀ x ∈ h,offB clr x.2=true)→offH clr i h=true
 | _,[],_=>rfl
 | i,x :: h,hs=>by
  rw [offH_cons,hs x (by simp),offH_of (i+1) h fun y hy=>hs y (by simp [hy])]
  simp
def dH (g:Hp) (sa:Nat) (exa:Bool) (al ol:List Nat):Hp:=sP (sP g 4 1 true ol) sa 1 exa al
structure DvH (g:Hp) (sa:Nat) (bl:List Nat):Prop where
 len:g.length=9
 sa:sa < 2
 b:g[2]? = some (1,.data 1 (bl.map u6) true false)
 c5:g[5]? = some (0,.none)
 c6:g[6]? = some (0,.none)
 off:∀ x ∈ g,offB [5,6] x.2=true
 und:(g.all fun x=>underB 9 x.2)=true
section
variable {g:Hp} {sa:Nat} {exa:Bool} {al ol bl:List Nat}
theorem dH_len (G:DvH g sa bl):(dH g sa exa al ol).length=9:=by simp [dH,G.len]
theorem dH_a (G:DvH g sa bl):(dH g sa exa al ol)[sa]? = some (1,.data 1 (al.map u6) exa false):=sP_get (by have:=G.sa; simp [G.len]; omega)
theorem dH_b (G:DvH g sa bl):(dH g sa exa al ol)[2]? = some (1,.data 1 (bl.map u6) true false):=by
 have:=G.sa
 rw [dH,sP,List.getElem?_set_ne (by omega),sP,List.getElem?_set_ne (by omega),G.b]
theorem dH_o (G:DvH g sa bl):(dH g sa exa al ol)[4]? = some (1,.data 1 (ol.map u6) true false):=by
 have:=G.sa
 rw [dH,sP,List.getElem?_set_ne (by omega)]
 exact sP_get (by rw [G.len]; decide)
theorem dH_c {j:Nat} (hj:j=5∨j=6) (G:DvH g sa bl):(dH g sa exa al ol)[j]? = some (0,.none):=by
 have:=G.sa
 rw [dH,sP,List.getElem?_set_ne (by omega),sP,List.getElem?_set_ne (by omega)]
 rcases hj with rfl | rfl
 ·exact G.c5
 ·exact G.c6
theorem dH_setO (G:DvH g sa bl) {ol':List Nat}:(dH g sa exa al ol).set 4 (1,.data 1 (ol'.map u6) true false)=dH g sa exa al ol':=by
 have:=G.sa
 rw [dH,sP,List.set_comm _ _ (by omega)]
 simp [dH,sP]
theorem dH_off (G:DvH g sa bl):∀ x ∈ dH g sa exa al ol,offB [5,6] x.2=true:=by
 intro x hx
 rcases List.mem_or_eq_of_mem_set hx with h | h
 ·rcases List.mem_or_eq_of_mem_set h with h | h
  ·exact G.off x h
  ·rw [h]; rfl
 ·rw [h]; rfl
theorem dH_reset (G:DvH g sa bl) {al' ol':List Nat} {ex':Bool}:resetGo [5,6] 0 (dH g sa ex' al' ol') (dH g sa exa al ol)=dH g sa exa al ol:=by
 refine reset_idn 0 _ _ (by rw [dH_len G,dH_len G]) fun j hj x hx=>?_
 have hj2:j=5∨j=6:=by
  simp only [Nat.zero_add,notIn_cons,notIn_nil,Bool.and_true,beq_lit] at hj
  by_cases h5:j=5
  ·exact .inl h5
  ·by_cases h6:j=6
   ·exact .inr h6
   ·exfalso
    simp [Ne.symm h5,Ne.symm h6] at hj
 rw [dH_c hj2 G] at hx
 cases hx
 exact ⟨.none,dH_c hj2 G,rfl⟩
theorem dH_rd (G:DvH g sa bl) {n:Nat} (hbl:bl.length=n+1):RdS (fun t=>∃ l,t=sP (sP g 4 1 true ol) sa 1 exa l) (.ref 2 1 0 n (n+1) (n+1)) (bl.take n):=by
 have e1:(bl.take n).length=n:=by simp; omega
 refine ⟨by rw [e1]; rfl,?_⟩
 rintro t i ⟨l,rfl⟩ hi
 have hb:=dH_b (exa:=exa) (al:=l) (ol:=ol) G
 refine ⟨.ptr 2 1 i (n+1),?_,?_⟩
 ·have:=ixP6 hb hbl.symm (len:=n) (cap:=n+1) (i:=(i:Int)) (by omega) (by omega) .i64
  rwa [Int.toNat_natCast] at this
 ·rw [nth_take (by omega)]
  exact ldP6 hb hbl.symm (by omega)
end
end Go.Vm
namespace Go.Vm
open Go Go.Am Go.Big
theorem drop_two {l:List Nat} {n:Nat} (h:l.length=n+2):l.drop n=[nth 0 l n,nth 0 l (n+1)]:=by
 rw [List.drop_eq_getElem_cons (by omega),List.drop_eq_getElem_cons (by omega),List.drop_eq_nil_of_le (by omega),nth_eq _ _ _ (by omega),nth_eq _ _ _ (by omega)]
theorem gs_of {al db:List Nat} {i n2:Nat} (hsa:Small Z al) (hsb:Small Z db) (hdl:db.length=n2+2) (hi:i+db.length < al.length) (hy:0 < nth 0 db (n2+1)) (hD:val Z (al.drop i) < Z * val Z db) :
  Gs Z (Z ^ n2) (val Z ((al.drop i).take n2)) (val Z (db.take n2)) (nth 0 al (i+n2)) (nth 0 al (i+n2+1)) (nth 0 al (i+n2+2)) (nth 0 db n2) (nth 0 db (n2+1)) (val Z (al.drop i)) (val Z db) (nth 0 al (i+n2+2) * Z+nth 0 al (i+n2+1)):=by
 have hvb:=val_lt (B:=Z) Z_pos hsb
 have hDlt:val Z (al.drop i) < Z ^ (n2+3):=by
  rw [Nat.pow_succ,Nat.mul_comm (Z ^ (n2+2)),← hdl]; exact Nat.lt_trans hD (Nat.mul_lt_mul_of_pos_left hvb Z_pos)
 have htop:val Z (al.drop (i+n2+3))=0:=by
  rw [show i+n2+3=i+(n2+3) by omega,← List.drop_drop]; exact top_zero Z_pos hDlt
 have e1:=val_split (B:=Z) (al.drop i) n2 (by simp; omega)
 rw [List.drop_drop,val_drop al (i+n2),val_drop al (i+n2+1),val_drop al (i+n2+1+1),htop,Nat.mul_zero] at e1
 simp only [Nat.add_zero] at e1
 have e2:=val_split (B:=Z) db n2 (by omega)
 rw [drop_two hdl] at e2
 have l1:=val_lt (B:=Z) Z_pos ((hsa.drop i).take n2)
 have l2:=val_lt (B:=Z) Z_pos (hsb.take n2)
 rw [List.length_take,Nat.min_eq_left (by simp; omega)] at l1
 rw [List.length_take,Nat.min_eq_left (by omega)] at l2
 refine ⟨Z_pos,?_,?_,l1,l2,hsa.getD Z_pos _,hsb.getD Z_pos _,hy,hD⟩
 ·rw [e1]
  show _=val Z ((al.drop i).take n2)+Z ^ n2 * (al.getD (i+n2) 0+Z * (al.getD (i+n2+2) 0 * Z+al.getD (i+n2+1) 0))
  rw [Nat.add_comm (al.getD (i+n2+2) 0 * Z),Nat.mul_comm (al.getD (i+n2+2) 0)]
 ·rw [e2]
  simp only [val,Nat.mul_zero,Nat.add_zero]
section
variable {g:Hp} {sa:Nat} {exa:Bool} {bl db:List Nat} {n M m A:Nat}
theorem div_loop (G:DvH g sa bl) (hdb:bl.take n=db) (hbl:bl.length=n+1) (hsb:Small Z db) (hn:2≤n) (hnb:n < Z) (hM:M=m+n) (hMb:M < 100000000) (hy:0 < nth 0 db (n - 1)) (al0 ol0:List Nat) (k:KL) :
  ∀ (i:Nat) (al ol:List Nat),i≤m→al.length=M→ol.length=m→Small Z al→Small Z ol→val Z (al.drop i) < val Z db→val Z al+val Z db * val Z ol=A→(∀ j,j < i→nth 0 ol j=0) →
  (∀ al' ol',al'.length=M→ol'.length=m→Small Z al'→Small Z ol'→val Z al' < val Z db→val Z al'+val Z db * val Z ol'=A→k (.exit 2) [] (dH g sa exa al' ol')) →
  lp (decimal_pieces_divide_l1 (CX Y) (.ref sa 1 0 M M M) (.ref 2 1 0 n (n+1) (n+1)) (I n) (.ref 4 1 0 m m m)) [5,6] (dH g sa exa al0 ol0) [I ((i:Int) - 1)] (dH g sa exa al ol) k
 | 0,al,ol,hi,hal,hol,hsa,hso,hD,hA,hz,hk=>by
  refine lp_in ?_
  simp (disch:=first|omega|simp<;>omega|fail)[decimal_pieces_divide_l1]
  exact hk al ol hal hol hsa hso (by simpa using hD) hA
 | i+1,al,ol,hi,hal,hol,hsa,hso,hD,hA,hz,hk=>by
  have hdl:db.length=n:=by rw [← hdb]; simp; omega
  obtain ⟨n2,hn2⟩:∃ n2,n=n2+2:=⟨n - 2,by omega⟩
  have hZ:Z=1000000000:=rfl
  have hD2:val Z (al.drop i) < Z * val Z db:=by
   rw [val_drop]
   have h1:=hsa.getD Z_pos i
   have h2:=Nat.mul_le_mul_left Z hD
   rw [Nat.mul_succ] at h2
   omega
  have Gq:=gs_of (i:=i) hsa hsb (n2:=n2) (by omega) (by omega) (by rw [show n2+1=n - 1 by omega]; exact hy) hD2
  have e0:((i+1:Nat):Int) - 1=(i:Int):=by omega
  obtain ⟨x0,hx0⟩:∃ x,nth 0 al (i+n2)=x:=⟨_,rfl⟩
  obtain ⟨x1,hx1⟩:∃ x,nth 0 al (i+n2+1)=x:=⟨_,rfl⟩
  obtain ⟨x2,hx2⟩:∃ x,nth 0 al (i+n2+2)=x:=⟨_,rfl⟩
  obtain ⟨y0,hy0⟩:∃ x,nth 0 db n2=x:=⟨_,rfl⟩
  obtain ⟨y1,hy1⟩:∃ x,nth 0 db (n2+1)=x:=⟨_,rfl⟩
  have hx1Z:x1 < Z:=by rw [← hx1]; exact hsa.getD Z_pos _
  have hx2Z:x2 < Z:=by rw [← hx2]; exact hsa.getD Z_pos _
  have hy1Z:y1 < Z:=by rw [← hy1]; exact hsb.getD Z_pos _
  rw [hx0,hx1,hx2,hy0,hy1] at Gq
  obtain ⟨hi_,hhi⟩:∃ t,x2 * Z+x1=t:=⟨_,rfl⟩
  rw [hhi] at Gq
  have hhib:hi_ < Z * Z:=by
   have:=Nat.mul_le_mul_right Z (show x2+1≤Z by omega)
   rw [Nat.add_mul] at this
   omega
  have nb:∀ j,j < n→nth 0 bl j=nth 0 db j:=fun j hj=>by rw [← hdb,nth_take hj]
  have rA:=fun (j:Nat) (hj:j < M)=>ixP6 (dH_a (exa:=exa) (al:=al) (ol:=ol) G) hal.symm (len:=M) (cap:=M) (i:=(j:Int)) (by omega) (by omega) .i64
  have lA:=fun (j:Nat) (hj:j < M)=>ldP6 (dH_a (exa:=exa) (al:=al) (ol:=ol) G) hal.symm (j:=j) (by omega)
  have rB:=fun (j:Nat) (hj:j < n)=>ixP6 (dH_b (exa:=exa) (al:=al) (ol:=ol) G) hbl.symm (len:=n) (cap:=n+1) (i:=(j:Int)) (by omega) (by omega) .i64
  have lB:=fun (j:Nat) (hj:j < n)=>ldP6 (dH_b (exa:=exa) (al:=al) (ol:=ol) G) hbl.symm (j:=j) (by omega)
  simp only [Int.toNat_natCast] at rA rB
  have a0:=rA (i+n2) (by omega)
  have a0l:=lA (i+n2) (by omega)
  have a1:=rA (i+n2+1) (by omega)
  have a1l:=lA (i+n2+1) (by omega)
  have a2:=rA (i+n2+2) (by omega)
  have a2l:=lA (i+n2+2) (by omega)
  have b0:=rB n2 (by omega)
  have b0l:=lB n2 (by omega)
  have b1:=rB (n2+1) (by omega)
  have b1l:=lB (n2+1) (by omega)
  rw [hx0] at a0l
  rw [hx1] at a1l
  rw [hx2] at a2l
  rw [nb _ (by omega),hy0] at b0l
  rw [nb _ (by omega),hy1] at b1l
  have s0:((i+n2:Nat):Int)=(i:Int)+(n:Int) - 2:=by omega
  have s1:((i+n2+1:Nat):Int)=(i:Int)+(n:Int) - 1:=by omega
  have s2:((i+n2+2:Nat):Int)=(i:Int)+(n:Int):=by omega
  have t0:((n2:Nat):Int)=(n:Int) - 2:=by omega
  have t1:((n2+1:Nat):Int)=(n:Int) - 1:=by omega
  rw [s0] at a0
  rw [s1] at a1
  rw [s2] at a2
  rw [t0] at b0
  rw [t1] at b1
  have hy1p:0 < y1:=Gq.hy1
  have e3:(x2:Int) * 1000000000+(x1:Int)=(hi_:Int):=by simp only [hZ] at hhi; omega
  obtain ⟨q0,hq0⟩:∃ q,hi_ / y1=q:=⟨_,rfl⟩
  obtain ⟨r0,hr0⟩:∃ q,hi_ % y1=q:=⟨_,rfl⟩
  have e4:(hi_:Int) / (y1:Int)=(q0:Int):=by rw [← hq0]; simp
  have e5:(hi_:Int) % (y1:Int)=(r0:Int):=by rw [← hr0]; simp
  have hdm:q0 * y1+r0=hi_:=by rw [← hq0,← hr0,Nat.mul_comm]; exact Nat.div_add_mod hi_ y1
  have hq0b:q0≤hi_:=by rw [← hq0]; exact Nat.div_le_self ..
  have hn0:¬ ((y1:Int)=0):=by omega
  have hhib2:hi_ < 1000000000000000000:=by simp only [hZ] at hhib; omega
  have hx2b:x2 < 1000000000:=by simp only [hZ] at hx2Z; omega
  have hx1b:x1 < 1000000000:=by simp only [hZ] at hx1Z; omega
  have hnb2:n < 1000000000:=by simp only [hZ] at hnb; omega
  have fst:=Gq.first
  rw [hq0] at fst
  refine lp_in ?_
  rw [e0]
  simp (disch:=first|omega|simp<;>omega|fail)[decimal_pieces_divide_l1,a1,a1l,a2,a2l,b1,b1l,e3,hn0,Int.tmod_eq_emod_of_nonneg,Int.tdiv_eq_ediv_of_nonneg,e4,e5]
  refine lo (guess_loop Gq hy1Z hhib hn hnb (by simp only [hZ]; omega) a0 a0l b0 b0l b1 b1l _ _ rfl q0 q0 r0 (Nat.le_refl _) hdm fst fun g' hg1 hg2 hg3=>?_)
  simp only [exK_exit]
  have hl9:(sP g 4 1 true ol).length=9:=by simp [G.len]
  have hu:((sP g 4 1 true ol).all fun x=>underB (sP g 4 1 true ol).length x.2)=true:=by rw [hl9]; exact sP_all G.und
  have hsa2:sa < (sP g 4 1 true ol).length:=by rw [hl9]; have:=G.sa; omega
  have rd:=dH_rd (exa:=exa) (ol:=ol) G hbl
  rw [hdb] at rd
  obtain ⟨w,hw⟩:∃ w,(takeF g' i db (db.length+1) 0 0 0 al).1=w:=⟨_,rfl⟩
  obtain ⟨l1,hl1⟩:∃ l,(takeF g' i db (db.length+1) 0 0 0 al).2=l:=⟨_,rfl⟩
  obtain ⟨l2,hl2⟩:∃ l,backF i db (db.length+1) 0 0 l1=l:=⟨_,rfl⟩
  obtain ⟨⟨k1,k2⟩,k3,k4⟩:=div_step (i:=i) hsa hsb (by omega) hg3 hD2 hg2 hg1 hw hl1 hl2
  have tk:=takeP_ok (at_:=i) (g:=g') (tot:=M) hu hsa2 rd hsb hg3 (by omega) (by omega) hal hsa
  rw [hw,hl1] at tk
  have bk:=backP_ok (at_:=i) (tot:=M) (l:=l1) hu hsa2 rd hsb (by omega) (by omega) (by omega) k2
  rw [hl2] at bk
  have hvs:=fun q=>val_set (B:=Z) ol i q (by omega)
  have hz0:ol.getD i 0=0:=hz i (by omega)
  have go:∀ (q:Nat) (l:List Nat),Small Z l→l.length=al.length→l.take i=al.take i→q=val Z (al.drop i) / val Z db→val Z (l.drop i)=val Z (al.drop i) % val Z db →
    lp (decimal_pieces_divide_l1 (CX Y) (.ref sa 1 0 M M M) (.ref 2 1 0 n (n+1) (n+1)) (I n) (.ref 4 1 0 m m m)) [5,6] (dH g sa exa al0 ol0) [I ((i:Int) - 1)] (dH g sa exa l (ol.set i q)) k:=by
   intro q l c1 c2 c3 c4 c5
   have hvp:=Gq.pos
   have hqZ:q < Z:=by rw [c4]; exact (Nat.div_lt_iff_lt_mul hvp).2 hD2
   refine div_loop G hdb hbl hsb hn hnb hM hMb hy al0 ol0 k i l (ol.set i q) (by omega) (by omega) (by simpa using hol) c1 (hso.set hqZ) (by rw [c5]; exact Nat.mod_lt _ hvp) ?_ (fun j hj=>by rw [nth_set_ne (by omega)]; exact hz j (by omega)) hk
   have h1:=hvs q
   rw [hz0,Nat.mul_zero,Nat.add_zero] at h1
   have h2:=val_split (B:=Z) l i (by omega)
   have h3:=val_split (B:=Z) al i (by omega)
   have h4:=Nat.div_add_mod (val Z (al.drop i)) (val Z db)
   rw [← c4,← c5] at h4
   rw [c3] at h2
   rw [h1,h2,← hA,h3,← h4,Nat.mul_add,Nat.mul_add,Nat.mul_left_comm (val Z db) (Z ^ i)]
   omega
  clear hk hA hz
  have r4:=fun l=>ixP6 (dH_o (exa:=exa) (al:=l) (ol:=ol) G) hol.symm (len:=m) (cap:=m) (i:=(i:Int)) (by omega) (by omega) .i64
  have r5:=fun l=>stP6 (dH_o (exa:=exa) (al:=l) (ol:=ol) G) hol.symm (j:=i) (by omega)
  simp only [dH_setO G,Int.toNat_natCast] at r4 r5
  refine cai_of tk ?_ (by simp)
  rw [show sP (sP g 4 1 true ol) sa 1 exa l1=dH g sa exa l1 ol from rfl]
  rcases Nat.eq_zero_or_pos w with w0 | wp
  ·obtain ⟨d1,d2,d3,d4,d5⟩:=k3 w0
   have gg:=go g' l1 d1 d2 d3 d4 d5
   have w1:¬ 0 < w:=by omega
   have r6:=r5 l1 g'
   have r7:=r4 l1
   simp only [jn]
   simp (disch:=first|omega|simp<;>omega|fail)[w1,r7,r6]
   refine ⟨?_,?_⟩
   ·rw [clean,offH_of 0 _ (dH_off G)]; rfl
   ·rw [dH_reset G]
    exact gg
  ·obtain ⟨d1,d2,d3,dg,d4,d5⟩:=k4 wp
   have gg:=go (g' - 1) l2 d1 d2 d3 d4 d5
   obtain ⟨g2,hg2'⟩:∃ g2,g' - 1=g2:=⟨_,rfl⟩
   rw [hg2'] at gg
   have e6:(g':Int) - 1=(g2:Int):=by omega
   have hg2Z:(g2:Int) < 18446744073709551616:=by simp only [hZ] at hg3; omega
   have r6:=r5 l2 g2
   have r7:=r4 l2
   simp only [jn]
   simp (disch:=first|omega|simp<;>omega|fail)[wp,e6]
   refine rh_in (cai_of bk ?_ (by simp))
   rw [show sP (sP g 4 1 true ol) sa 1 exa l2=dH g sa exa l2 ol from rfl]
   simp (disch:=first|omega|simp<;>omega|fail)[r7,r6]
   refine ⟨?_,?_⟩
   ·rw [clean,offH_of 0 _ (dH_off G)]; rfl
   ·rw [dH_reset G]
    exact gg
end
end Go.Vm
namespace Go.Vm
open Go Go.Am Go.Big
theorem fixZ_snoc {w n:Nat} (h:n < Z ^ w):fixZ (w+1) n=fixZ w n++[0]:=by
 have h1:Small Z (fixZ w n++[0]):=(fixZ_small w n).snoc Z_pos
 have h2:=fixZ_eq _ h1
 rw [val_snoc,Nat.mul_zero,Nat.add_zero,fixZ_val w n h,List.length_append,fixZ_len] at h2
 exact h2.symm
theorem fixZ_dig {w n:Nat} (h:n < Z ^ w):trimL (fixZ w n)=dig Z n:=by
 rw [← dig_val two_le_Z (fixZ_small w n),fixZ_val w n h]
theorem fixZ_take {w n:Nat} (h:n < Z ^ w):(fixZ w n).take (dig Z n).length=dig Z n:=by
 rw [← fixZ_dig h]; exact take_trim
theorem lt_dig (n:Nat):n < Z ^ (dig Z n).length:=(dig_len two_le_Z).1 (Nat.le_refl _)
theorem dig_le {n k:Nat} (h:n < Z ^ k):(dig Z n).length≤k:=(dig_len two_le_Z).2 h
theorem le_dig {n k:Nat} (h:Z ^ k≤n):k < (dig Z n).length:=by
 rcases Nat.lt_or_ge k (dig Z n).length with h1 | h1
 ·exact h1
 ·have:=(dig_len two_le_Z).1 h1
  omega
theorem dig_ge {n:Nat} (h:0 < n):Z ^ ((dig Z n).length - 1)≤n:=by
 rcases Nat.lt_or_ge n (Z ^ ((dig Z n).length - 1)) with h1 | h1
 ·have:=dig_le h1
  have h2:(dig Z n).length≠0:=fun e=>by
   have:=lt_dig n
   rw [e] at this; simp at this; omega
  omega
 ·exact h1
theorem top_dig {n k:Nat} (h:(dig Z n).length=k+1):Z ^ k * nth 0 (dig Z n) k≤n∧n < Z ^ k * (nth 0 (dig Z n) k+1)∧0 < nth 0 (dig Z n) k:=by
 have e:=val_split (B:=Z) (dig Z n) k (by omega)
 rw [val_dig two_le_Z,List.drop_eq_getElem_cons (by omega),List.drop_eq_nil_of_le (by omega)] at e
 have hn:nth 0 (dig Z n) k=(dig Z n)[k]:=nth_eq _ _ _ (by omega)
 rw [← hn] at e
 simp only [val,Nat.mul_zero,Nat.add_zero] at e
 have l:=val_lt (B:=Z) Z_pos ((dig_small two_le_Z n).take k)
 rw [List.length_take,Nat.min_eq_left (by omega)] at l
 refine ⟨by omega,by rw [Nat.mul_succ]; omega,?_⟩
 rcases Nat.eq_zero_or_pos (nth 0 (dig Z n) k) with h0 | h0
 ·rw [h0,Nat.mul_zero,Nat.add_zero] at e
  have:=dig_le (n:=n) (k:=k) (by omega)
  omega
 ·exact h0
theorem factor_ok {q k y f:Nat} (h:(dig Z q).length=k+1) (hy:nth 0 (dig Z q) k=y) (hf:Z / (y+1)=f) (hk:1≤k):0 < f∧f < Z∧q * f < Z ^ (k+1):=by
 obtain ⟨h1,h2,h3⟩:=top_dig h
 rw [hy] at h1 h2 h3
 have hyZ:y < Z:=by rw [← hy]; exact (dig_small two_le_Z q).getD Z_pos k
 have hf0:0 < f:=by rw [← hf]; exact Nat.div_pos (by omega) (by omega)
 have hfy:f * (y+1)≤Z:=by rw [← hf]; exact Nat.div_mul_le_self ..
 refine ⟨hf0,?_,?_⟩
 ·have:=Nat.mul_le_mul_left f (show 2≤y+1 by omega)
  omega
 ·have h4:q * f < Z ^ k * (y+1) * f:=Nat.mul_lt_mul_of_pos_right h2 hf0
  have h5:Z ^ k * (y+1) * f=Z ^ k * (f * (y+1)):=by rw [Nat.mul_assoc,Nat.mul_comm (y+1)]
  have h6:=Nat.mul_le_mul_left (Z ^ k) hfy
  rw [Nat.pow_succ]
  omega
theorem take_dig {l:List Nat} (h:Small Z l):l.take (dig Z (val Z l)).length=dig Z (val Z l):=by
 rw [dig_val two_le_Z h]; exact take_trim
theorem set_idn {α:Type} {l:List α} {i:Nat} {x:α} (h:l[i]? = some x):l.set i x=l:=by
 refine List.ext_getElem? fun j=>?_
 by_cases hj:j=i
 ·subst hj
  obtain ⟨h1,h2⟩:=List.getElem?_eq_some_iff.1 h
  simp [h1,h2]
 ·rw [List.getElem?_set_ne (Ne.symm hj)]
section
variable {P Q n p f M W9 sa:Nat} {exa:Bool} {hA:Hp}
theorem divide_tail (hn:(dig Z Q).length=n) (h2:2≤n) (hp:(dig Z P).length=p) (hnp:n≤p) (hpb:p < 10000000) (f0:0 < f) (fZ:f < Z) (fQ:Q * f < Z ^ n) (hVe:W9=P * f) (hM:(dig Z W9).length+1=M) (hMp:p < M)
  (A9:hA.length=9) (Au:(hA.all fun x=>underB 9 x.2)=true) (Ao:∀ x ∈ hA,offB [5,6] x.2=true) (A2:hA[2]? = some (0,.none)) (A4:hA[4]? = some (0,.none)) (A5:hA[5]? = some (0,.none)) (A6:hA[6]? = some (0,.none)) (sa2:sa < 2) (Aa:hA[sa]? = some (1,.data 1 ((fixZ M W9).map u6) exa false)) :
  cai (CX Y).i hA (V.fn F.decimal_pieces_scaled [] []) [lst u6 (dig Z Q),V.d (D.int IntKind.u64 ↑f)] 2
      fun v10 h =>
      bnd (lenV v10) fun v11 =>
       lp (decimal_pieces_divide_l0 (CX Y) (lst u6 (dig Z P))) [] h [.ref sa 1 0 M M M] h
        (exK
         [(Exit.exit 0,fun l12 h =>
           bnd (lenV (ge l12 0)) fun v13 =>
            bnd (biI BinOp.sub v13 v11) fun v14 =>
             mkS 4 8 [D.int IntKind.u64 0] h v14 v14 fun v15 h =>
              bnd (lenV (ge l12 0)) fun v16 =>
               bnd (biI BinOp.sub v16 v11) fun v17 =>
                bnd (biI BinOp.sub v17 (V.d (D.int IntKind.i64 1))) fun v18 =>
                 lp (decimal_pieces_divide_l1 (CX Y) (ge l12 0) v10 v11 v15) [5,6] h [v18] h
                  (exK
                   [(Exit.exit 2,fun l19 h =>
                     cai (CX Y).i h (V.fn F.decimal_pieces_trim [] []) [ge l12 0] 7 fun v20 h =>
                      cal (CX Y).p h (V.fn F.decimal_pieces_small [] [])
                       [v20,V.d (D.int IntKind.u64 ↑f)] fun v21 h =>
                       ext v21 0 fun v22 =>
                        ext v21 1 fun v23 =>
                         cai (CX Y).i h (V.fn F.decimal_pieces_trim [] []) [v15] 8 fun v24 h =>
                          out (V.tup [lst u6 (dig Z (P / Q)),lst u6 (dig Z (P % Q))])
                           (V.tup [v24,v22]) h)]))]):=by
 have hQ1:Z ^ (n - 1)≤Q:=by
  rw [← hn]; refine dig_ge ?_
  rcases Nat.eq_zero_or_pos Q with h | h
  ·subst h; rw [show (dig Z 0).length=0 from rfl] at hn; omega
  ·exact h
 have hQf:(dig Z (Q * f)).length=n:=by
  have h1:=dig_le fQ
  have h3:=le_dig (n:=Q * f) (k:=n - 1) (Nat.le_trans hQ1 (Nat.le_mul_of_pos_right Q f0))
  omega
 have hQfs:Q * f < Z ^ (n+1):=Nat.lt_of_lt_of_le fQ (Nat.pow_le_pow_right Z_pos (by omega))
 have sc:=scaledP_ok (h:=hA) (t0:=lst u6 (dig Z Q)) (da:=dig Z Q) (f:=f) (N:=n+1) (by rw [A9]; exact Au) fZ f0 (RdP_d _ _) (dig_small two_le_Z Q) (by omega) (by omega)
 rw [val_dig two_le_Z,hQf] at sc
 refine cai_new (e:=0) (b:=.none) sc A2 ?_
 have hbl:(fixZ (n+1) (Q * f)).length=n+1:=fixZ_len ..
 have hdb:(fixZ (n+1) (Q * f)).take n=dig Z (Q * f):=by
  have:=fixZ_take hQfs
  rwa [hQf] at this
 obtain ⟨bl,hble⟩:∃ bl,fixZ (n+1) (Q * f)=bl:=⟨_,rfl⟩
 rw [hble] at hbl hdb
 rw [hble,List.length_map,hbl]
 obtain ⟨g,hg⟩:∃ g,hA.set 2 (0+1,.data 1 (bl.map u6) true false)=g:=⟨_,rfl⟩
 rw [hg]
 have G:DvH g sa bl:=by
  rw [← hg]
  refine ⟨by simp [A9],sa2,by simp [A9],by simp [A5],by simp [A6],fun x hx=>?_,?_⟩
  ·rcases List.mem_or_eq_of_mem_set hx with h | h
   ·exact Ao x h
   ·rw [h]; rfl
  ·exact sP_all (s:=2) (e:=1) Au
 have g4:g[4]? = some (0,.none):=by rw [← hg]; simp [A4]
 have ga:g[sa]? = some (1,.data 1 ((fixZ M W9).map u6) exa false):=by rw [← hg,List.getElem?_set_ne (by omega)]; exact Aa
 have hVp:p≤(dig Z W9).length:=by omega
 have hMp1:M≤p+2:=by
  have:W9 < Z ^ (p+1):=by
   rw [hVe,Nat.pow_succ]
   have:=lt_dig P
   rw [hp] at this
   exact Nat.mul_lt_mul_of_lt_of_lt this fZ
  have:=dig_le this
  omega
 obtain ⟨m,hm⟩:∃ m,M=m+n:=⟨M - n,by omega⟩
 have lP:lenV (lst u6 (dig Z P))=some (I (dig Z P).length):=rfl
 have c1:¬ ((M:Int)≤((dig Z P).length:Int)):=by omega
 have c2:(M:Int) - (n:Int)=(m:Int):=by omega
 simp (disch:=first|omega|simp<;>omega|fail)[]
 refine lo (lp_in ?_)
 simp (disch:=first|omega|simp<;>omega|fail)[decimal_pieces_divide_l0,lP,c1,c2,g4]
 have hd:g.set 4 (1,Bk.data 1 (List.replicate m (D.int IntKind.u64 0)) true false)=dH g sa exa (fixZ M W9) (List.replicate m 0):=by
  have e1:(List.replicate m (D.int IntKind.u64 0))=(List.replicate m 0).map u6:=by simp [u6]
  have e2:(sP g 4 1 true (List.replicate m 0))[sa]? = some (1,.data 1 ((fixZ M W9).map u6) exa false):=by
   rw [sP,List.getElem?_set_ne (by omega)]; exact ga
  show _=(sP g 4 1 true (List.replicate m 0)).set sa (1,.data 1 ((fixZ M W9).map u6) exa false)
  rw [set_idn e2,e1]
  rfl
 rw [hd]
 have hWlt:W9 < Z ^ (m+(n - 1)):=by
  have:=lt_dig W9
  rwa [show (dig Z W9).length=m+(n - 1) by omega] at this
 have hWM:W9 < Z ^ M:=Nat.lt_of_lt_of_le hWlt (Nat.pow_le_pow_right Z_pos (by omega))
 have hQfv:val Z (dig Z (Q * f))=Q * f:=val_dig two_le_Z _
 have hZ:Z=1000000000:=rfl
 refine lo (div_loop (A:=W9) (n:=n) (M:=M) (m:=m) G hdb hbl (dig_small two_le_Z _) h2 (by simp only [hZ]; omega) hm (by omega) (top_dig (n:=Q * f) (k:=n - 1) (by omega)).2.2 _ _ _ m (fixZ M W9) (List.replicate m 0) (Nat.le_refl _) (fixZ_len ..) (by simp) (fixZ_small M W9) (fun x hx=>by rw [List.mem_replicate] at hx; rw [hx.2]; exact Z_pos) ?_ (by rw [val_zeros,fixZ_val _ _ hWM]; simp) (fun j hj=>by rw [nth_eq _ _ _ (by simpa using hj)]; simp) fun al' ol' q1 q2 q3 q4 q5 q6=>?_)
 ·have e1:=val_split (B:=Z) (fixZ M W9) m (by rw [fixZ_len]; omega)
  rw [fixZ_val _ _ hWM] at e1
  rw [Nat.pow_add] at hWlt
  rw [hQfv]
  have h3:Z ^ m * val Z ((fixZ M W9).drop m) < Z ^ m * Z ^ (n - 1):=by omega
  have h4:=Nat.lt_of_mul_lt_mul_left h3
  have h5:=Nat.le_mul_of_pos_right Q f0
  omega
 ·simp only [exK_exit]
  rw [hQfv] at q5 q6
  have hQ0:0 < Q:=by
   have:=Nat.pow_pos (n:=n - 1) Z_pos
   omega
  have hQf0:0 < Q * f:=Nat.mul_pos hQ0 f0
  have hq:val Z ol'=P / Q:=by
   have:(P * f) / (Q * f)=val Z ol':=by
    rw [← hVe,← q6,Nat.add_mul_div_left _ _ hQf0,Nat.div_eq_of_lt q5,Nat.zero_add]
   rw [← this,Nat.mul_div_mul_right _ _ f0]
  have hr:val Z al'=f * (P % Q):=by
   have:(P * f) % (Q * f)=val Z al':=by
    rw [← hVe,← q6,Nat.add_mul_mod_self_left,Nat.mod_eq_of_lt q5]
   rw [← this,Nat.mul_mod_mul_right,Nat.mul_comm]
  have l9:(dH g sa exa al' ol').length=9:=dH_len G
  have hu:((dH g sa exa al' ol').all fun x=>underB (dH g sa exa al' ol').length x.2)=true:=by rw [l9]; exact sP_all (sP_all G.und)
  have ha:=dH_a (exa:=exa) (al:=al') (ol:=ol') G
  have tr:=trimP_in hu ha q1.symm (len:=M) (cap:=M) (Nat.le_refl _) (by omega) (Nat.le_refl _)
  have hta:trimL (al'.take M)=dig Z (val Z al'):=by rw [List.take_of_length_le (by omega),dig_val two_le_Z q3]
  rw [hta] at tr
  refine cai_of tr ?_ (by simp)
  have hla:(dig Z (val Z al')).length≤M:=by
   have:=val_lt (B:=Z) Z_pos q3
   rw [q1] at this
   exact dig_le this
  have sn:=snapP6 ha q1.symm (len:=(dig Z (val Z al')).length) (cap:=M) hla (Nat.le_refl _)
  have htk:=take_dig q3
  rw [htk] at sn
  obtain ⟨h1,hh1⟩:∃ h1,(dH g sa exa al' ol').set sa (1,.data 1 (al'.map u6) exa true)=h1:=⟨_,rfl⟩
  rw [hh1] at sn
  have sm:=smallP_ok (a:=val Z al') (n:=f) (by omega) f0 (by omega)
  refine cdz (u:=.mk) (ds:=[lst u6 (dig Z (val Z al')),U f]) (h':=h1) (by simp only [snaps,sn,snapU]) sm ?_
  rw [show plainV (.tup [pcs (val Z al' / f),U (val Z al' % f:Nat)])=false from rfl]
  have h1o:h1[4]? = some (1,.data 1 (ol'.map u6) true false):=by rw [← hh1,List.getElem?_set_ne (by omega)]; exact dH_o G
  have h1u:(h1.all fun x=>underB h1.length x.2)=true:=by
   have e:h1.length=9:=by rw [← hh1,List.length_set,l9]
   rw [e,← hh1,List.all_eq_true]
   intro x hx
   rcases List.mem_or_eq_of_mem_set hx with h | h
   ·exact List.all_eq_true.1 (sP_all (sP_all G.und)) x h
   ·rw [h]; rfl
  have tr2:=trimP_in h1u h1o q2.symm (len:=m) (cap:=m) (Nat.le_refl _) (by omega) (Nat.le_refl _)
  have hto:trimL (ol'.take m)=dig Z (P / Q):=by rw [List.take_of_length_le (by omega),← hq,dig_val two_le_Z q4]
  rw [hto] at tr2
  show ext _ 0 _
  simp (disch:=first|omega|simp<;>omega|fail)[]
  refine rh_in (cai_of tr2 ?_ (by simp))
  have hlo:(dig Z (P / Q)).length≤m:=by
   have:=val_lt (B:=Z) Z_pos q4
   rw [q2,hq] at this
   exact dig_le this
  have sn2:=snapP6 h1o q2.symm (len:=(dig Z (P / Q)).length) (cap:=m) hlo (Nat.le_refl _)
  have htk2:=take_dig q4
  rw [hq] at htk2
  rw [htk2] at sn2
  have hrr:val Z al' / f=P % Q:=by rw [hr,Nat.mul_div_cancel_left _ f0]
  rw [hrr]
  exact out_tup2 sn2 (snap_lst _ _ _)
end
theorem ap_lisP {s s' e e' L n k by_ tot:Nat} {b':Bk} {old cs:List D} {fr:Bool} {h:Hp} {q:V→Hp→Prop} {u:PU q} (hg:h[s]? = some (e,.data n old true fr)) (hs':h[s']? = some (e',b')) (ht:tot=L * n) (hold:old.length=L * n) (hcs:cs.length=k * n) (hb:(L+k) * by_≤140737488355328)
  (h0:k=0→q (.ref s e 0 L L tot) h) (h1:0 < k→q (.ref s' (e'+1) 0 (L+k) (L+k) (L * n+cs.length)) (h.set s' (e'+1,.data n (old++cs) false false))):rh (apV false s' n by_ (.ref s e 0 L L tot) (.d (.sl k cs)) h) q u:=by
 unfold rh apV
 simp only [cellsOf]
 rw [if_pos hcs]
 unfold apC
 by_cases hk:k=0
 ·rw [if_pos hk]
  simp only [Nat.le_refl,if_true]
  exact h0 hk
 ·rw [if_neg hk]
  simp only [hget_of hg]
  rw [if_pos ⟨trivial,by omega,Nat.le_refl _,by omega,hcs⟩,if_neg (by omega),if_pos hb]
  simp only [if_true,new,hs',List.drop_zero]
  rw [List.take_of_length_le (by omega)]
  exact h1 (by omega)
theorem apP_in {s s' e len cap:Nat} {old:List Nat} {x:Nat} {ex:Bool} {h:Hp} {q:V→Hp→Prop} {u:PU q} (hg:h[s]? = some (e,.data 1 (old.map u6) ex false)) (hold:old.length=cap) (hl:len < cap)
  (hq:q (.ref s e 0 (len+1) cap cap) (h.set s (e,.data 1 ((old.take len++[x]++old.drop (len+1)).map u6) ex false))):rh (apV false s' 1 8 (.ref s e 0 len cap cap) (.d (.sl 1 [u6 x])) h) q u:=by
 unfold rh apV
 simp only [cellsOf]
 rw [if_pos (by simp)]
 unfold apC
 rw [if_neg (by omega)]
 simp only [hget_of hg]
 rw [if_pos ⟨trivial,by simp [hold],by omega,by simp; omega,by simp⟩,if_pos (by omega)]
 simp only [Bool.or_self,Bool.false_eq_true,if_false,Nat.zero_add,hset,Nat.mul_one]
 simp only [List.map_append,List.map_take,List.map_drop,List.map_cons,List.map_nil] at hq
 exact hq
theorem apP_out {s s' e e' cap:Nat} {b':Bk} {old:List Nat} {x:Nat} {h:Hp} {q:V→Hp→Prop} {u:PU q} (hg:h[s]? = some (e,.data 1 (old.map u6) true false)) (hs':h[s']? = some (e',b')) (hold:old.length=cap) (hb:cap < 1000000000000)
  (hq:q (.ref s' (e'+1) 0 (cap+1) (cap+1) (cap+1)) (h.set s' (e'+1,.data 1 ((old++[x]).map u6) false false))):rh (apV false s' 1 8 (.ref s e 0 cap cap cap) (.d (.sl 1 [u6 x])) h) q u:=by
 refine ap_lisP (L:=cap) (old:=old.map u6) hg hs' (by omega) (by simp [hold]) rfl (by omega) (fun h=>by omega) fun _=>?_
 simp only [Nat.mul_one,List.length_singleton]
 rw [show old.map u6++[u6 x]=(old++[x]).map u6 by simp]
 exact hq
theorem divideP_ok {P Q:Nat} (h2:2≤(dig Z Q).length) (hle:(dig Z Q).length≤(dig Z P).length) (hb:(dig Z P).length < 10000000):CP Y F.decimal_pieces_divide [pcs P,pcs Q] (.tup [pcs (P / Q),pcs (P % Q)]):=by
 refine decimal_pieces_divide_i ?_
 obtain ⟨k,hk⟩:∃ k,(dig Z Q).length=k+1:=⟨(dig Z Q).length - 1,by omega⟩
 obtain ⟨y,hy⟩:∃ y,nth 0 (dig Z Q) k=y:=⟨_,rfl⟩
 obtain ⟨f,hf⟩:∃ f,Z / (y+1)=f:=⟨_,rfl⟩
 obtain ⟨f0,fZ,fQ⟩:=factor_ok hk hy hf (by omega)
 have hZ:Z=1000000000:=rfl
 have hyZ:y < Z:=by rw [← hy]; exact (dig_small two_le_Z Q).getD Z_pos k
 have hyb:y < 1000000000:=by simp only [hZ] at hyZ; omega
 obtain ⟨n,hn⟩:∃ n,(dig Z Q).length=n:=⟨_,rfl⟩
 obtain ⟨p,hp⟩:∃ p,(dig Z P).length=p:=⟨_,rfl⟩
 have e1:=fun h:Hp=>ix_nth u6 (dig Z Q) h (k:=.i64) (i:=(k:Int)) (by omega) (by omega)
 have e2:=fun h:Hp=>ld_u6 (dig Z Q) h (j:=k) (by omega)
 rw [hy] at e2
 simp only [Int.toNat_natCast] at e1
 have e3:((dig Z Q).length:Int) - 1=(k:Int):=by omega
 have e4:(1000000000:Int) / ((y:Int)+1)=(f:Int):=by
  rw [← hf,hZ]; simp
 have y0:¬ ((y:Int)+1=0):=by omega
 have lQ:lenV (pcs Q)=some (I (dig Z Q).length):=rfl
 have lP:lenV (pcs P)=some (I (dig Z P).length):=rfl
 simp (disch:=first|omega|simp<;>omega|fail)[decimal_pieces_divide,lQ,e3,pcs_eq,e1,e2,y0,Int.tdiv_eq_ediv_of_nonneg,e4]
 obtain ⟨W9,hW⟩:∃ W9,P * f=W9:=⟨_,rfl⟩
 have hP1:Z ^ (p - 1)≤P:=by
  rw [← hp]; refine dig_ge ?_
  rcases Nat.eq_zero_or_pos P with h | h
  ·subst h; have h0:(dig Z 0).length=0:=rfl; omega
  ·exact h
 have hW1:p - 1 < (dig Z W9).length:=le_dig (by rw [← hW]; exact Nat.le_trans hP1 (Nat.le_mul_of_pos_right P f0))
 have hW2:W9 < Z ^ (p+1):=by
  rw [← hW,Nat.pow_succ]
  have:=lt_dig P
  rw [hp] at this
  exact Nat.mul_lt_mul_of_lt_of_lt this fZ
 have hW3:=dig_le hW2
 have hli:∀ h:Hp,lisR 1 [D.int .u64 0] [(0,V.d (D.int IntKind.u64 0))] h=some ([u6 0],h):=fun h=>by
  simp [lisR,repl,toDs,toD,u6]
 have sc:=scaledP_ok (h:=[(0,.none),(0,.none),(0,.none),(0,.none),(0,.none),(0,.none),(0,.none),(0,.none),(0,.none)]) (t0:=lst u6 (dig Z P)) (da:=dig Z P) (f:=f) (N:=p+1) rfl fZ f0 (RdP_d _ _) (dig_small two_le_Z P) (by omega) (by omega)
 rw [val_dig two_le_Z,hW] at sc
 refine rh_in (cai_new (e:=0) (b:=.none) sc rfl ?_)
 simp (disch:=first|omega|simp<;>omega|fail)[hli]
 have hNl:(fixZ (p+1) W9).length=p+1:=fixZ_len ..
 rcases Nat.lt_or_ge (dig Z W9).length (p+1) with hc | hc
 ·have hl:(dig Z W9).length=p:=by omega
  have hWp:W9 < Z ^ p:=by have:=lt_dig W9; rwa [hl] at this
  have hcell:(fixZ (p+1) W9).take p++[0]++(fixZ (p+1) W9).drop (p+1)=fixZ (p+1) W9:=by
   rw [List.drop_eq_nil_of_le (by omega),fixZ_snoc hWp,List.take_left' (fixZ_len ..),List.append_nil]
  rw [hl,hNl]
  refine apP_in (x:=0) (ex:=true) rfl hNl (by omega) ?_
  rw [hcell]
  refine divide_tail (M:=p+1) (exa:=true) hn (by omega) hp (by omega) (by omega) f0 fZ (by rw [← hn,hk]; exact fQ) hW.symm (by omega) (by omega) rfl rfl ?_ rfl rfl rfl rfl (by omega) rfl
  intro x hx
  simp only [List.set_cons_zero,List.mem_cons,List.not_mem_nil,or_false] at hx
  rcases hx with rfl | rfl | rfl | rfl | rfl | rfl | rfl | rfl | rfl <;> rfl
 ·have hl:(dig Z W9).length=p+1:=by omega
  have hcell:fixZ (p+1) W9++[0]=fixZ (p+2) W9:=(fixZ_snoc hW2).symm
  rw [hl,hNl]
  refine apP_out (x:=0) (e':=0) (b':=.none) rfl rfl hNl (by omega) ?_
  rw [hcell]
  refine divide_tail (M:=p+2) (exa:=false) hn (by omega) hp (by omega) (by omega) f0 fZ (by rw [← hn,hk]; exact fQ) hW.symm (by omega) (by omega) rfl rfl ?_ rfl rfl rfl rfl (by omega) rfl
  intro x hx
  simp only [List.set_cons_zero,List.set_cons_succ,List.mem_cons,List.not_mem_nil,or_false] at hx
  rcases hx with rfl | rfl | rfl | rfl | rfl | rfl | rfl | rfl | rfl <;> rfl
end Go.Vm
