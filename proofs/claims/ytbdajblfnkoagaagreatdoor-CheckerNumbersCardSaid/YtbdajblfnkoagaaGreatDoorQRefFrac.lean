/- ref03: small fractions. -/
import Derived.Test.YtbdajblfnkoagaaGreatDoorQRefX
set_option linter.unusedVariables false
set_option linter.unusedSimpArgs false
namespace Go.Vm
open Go Go.Am Go.Big
theorem dig_one {n:Nat} (h0:0 < n) (h:n < 1000000000):dig Z n=[n]:=by
 rw [dig_cons h0]
 have hZ:Z=1000000000:=rfl
 rw [hZ,Nat.mod_eq_of_lt h,Nat.div_eq_of_lt h,dig_zero]
def frT (a:Int) (d:Nat):List UInt8 × List UInt8:=(itoa (a.tdiv (Nat.gcd a.natAbs d)),itoa ((d / Nat.gcd a.natAbs d:Nat):Int))
def txV (x:List UInt8 × List UInt8):V:=.agg [S x.1,S x.2]
theorem little_loop (k:KL):∀ (y x:Nat) (h0 h:Hp),h0.length=h.length→(k (.exit 0) [I (Nat.gcd x y)] h)→lp (schismaref03_little_l0 (CX Y)) [] h0 [I x,I y] h k:=by
 intro y
 induction y using Nat.strongRecOn with
 | _ y ih =>
  intro x h0 h hh hk
  refine lp_in ?_
  by_cases hy:y=0
  ·subst hy
   simp (disch:=first|omega|simp<;>omega|fail)[schismaref03_little_l0]
   simpa using hk
  ·have hm:=Nat.mod_lt x (Nat.pos_of_ne_zero hy)
   have e:(x:Int).tmod (y:Int)=((x % y:Nat):Int):=by rw [Int.tmod_eq_emod_of_nonneg (by omega)]; simp
   have hg:Nat.gcd y (x % y)=Nat.gcd x y:=by rw [Nat.gcd_comm y,← Nat.gcd_rec,Nat.gcd_comm]
   have:=ih (x % y) hm y h0 h hh (by rw [hg]; exact hk)
   simp (disch:=first|omega|simp<;>omega|fail)[schismaref03_little_l0,e,hh]
   simpa using this
theorem little_ok {s:Bool} {n d:Nat} (hn:n < 1000000000) (hd0:0 < d) (hd:d < 1000000000):CP Y F.schismaref03_little [wh s n,I d] (txV (itoa (if s then -((n / Nat.gcd n d:Nat):Int) else ((n / Nat.gcd n d:Nat):Int)),itoa ((d / Nat.gcd n d:Nat):Int))):=by
 refine schismaref03_little_i ?_
 obtain ⟨g,hg⟩:∃ g,Nat.gcd n d=g:=⟨_,rfl⟩
 have hg0:0 < g:=by rw [← hg]; exact Nat.gcd_pos_of_pos_right _ hd0
 have e1:(n:Int).tdiv (g:Int)=((n / g:Nat):Int):=by rw [Int.tdiv_eq_ediv_of_nonneg (by omega)]; simp
 have e2:(d:Int).tdiv (g:Int)=((d / g:Nat):Int):=by rw [Int.tdiv_eq_ediv_of_nonneg (by omega)]; simp
 have l1:=Nat.div_le_self n g
 have l2:=Nat.div_le_self d g
 rw [hg]
 obtain ⟨n',hn'⟩:∃ n',n / g=n':=⟨_,rfl⟩
 obtain ⟨d',hd'⟩:∃ d',d / g=d':=⟨_,rfl⟩
 rw [hn'] at e1 l1 ⊢
 rw [hd'] at e2 l2 ⊢
 have hg0':¬ (g:Int)=0:=by omega
 have ha:∀ z:Int,-1000000000 < z∧z < 1000000000→CP Y F.schismaref03_Int [I z] (S (itoa z)):=fun z hz=>refInt_ok (by omega) (by omega)
 have hb:=ha (d':Int) (by omega)
 have hloop:=little_loop
 have main:∀ (H:Hp),H.length=2→H=[(1,.vars [.d (.bool s),nat9 n]),(1,.vars [S [],S []])]→lp (schismaref03_little_l0 (CX Y)) [] H [I n,I d] H (exK [((.exit 0),fun l9 h =>
   bnd (biI .quo (I n) (ge l9 0)) fun v10 =>
   bnd (biI .quo (I d) (ge l9 0)) fun v11 =>
   bnd (faV 0 (.ptr 0 1 0 2)) fun v12 =>
   bnd (ld1 h v12) fun v13 =>
   jn (fun l14 h =>
    cal (CX Y).p h (.fn F.schismaref03_Int [] []) [(ge l14 0)] fun v16 h =>
    cal (CX Y).p h (.fn F.schismaref03_Int [] []) [v11] fun v17 h =>
    bnd (bld [(0,1),(1,1)] [.str [],.str []] [(0,v16),(1,v17)]) fun v18 =>
    stD h 2 (.ptr 1 1 0 2) v18 fun _ h =>
    bnd (ldA h 2 (.ptr 1 1 0 2)) fun v20 =>
    out (txV (itoa (if s then -(n':Int) else (n':Int)),itoa (d':Int))) v20 h) fun q15 =>
    cnd v13 (
     bnd (unV .neg v10) fun v21 =>
     q15 [v21] h) (
     q15 [v10] h))]):=by
  intro H hH hHe
  refine hloop _ d n H H rfl ?_
  rw [hg]
  subst hHe
  have hfin:∀ z:Int,-1000000000 < z∧z < 1000000000→∀ h:Hp,h=[(1,.vars [.d (.bool s),nat9 n]),(1,.vars [S [],S []])]→(cal (CX Y).p h (.fn F.schismaref03_Int [] []) [I z] fun v16 h =>
    cal (CX Y).p h (.fn F.schismaref03_Int [] []) [I (d':Int)] fun v17 h =>
    bnd (bld [(0,1),(1,1)] [.str [],.str []] [(0,v16),(1,v17)]) fun v18 =>
    stD h 2 (.ptr 1 1 0 2) v18 fun _ h =>
    bnd (ldA h 2 (.ptr 1 1 0 2)) fun v20 =>
    out (txV (itoa z,itoa (d':Int))) v20 h):=by
   intro z hz h hh
   subst hh
   simp (disch:=first|omega|simp<;>omega|fail)[]
   refine cd (ha z hz) ?_
   simp (disch:=first|omega|simp<;>omega|fail)[]
   refine cd hb ?_
   simp (disch:=first|omega|simp<;>omega|fail)[]
   exact out_sn (by simp [snap,snaps,txV])
  cases s
  ·simp (disch:=first|omega|simp<;>omega|fail)[e1,e2]
   refine jo_in ?_
   exact hfin (n':Int) (by omega) _ rfl
  ·simp (disch:=first|omega|simp<;>omega|fail)[e1,e2]
   refine jo_in ?_
   have hw:IntKind.wrap .i64 (-(n':Int)) = -(n':Int):=wrap_i64' (by omega) (by omega)
   simp (disch:=first|omega|simp<;>omega|fail)[hw]
   have:=hfin (-(n':Int)) (by omega) _ rfl
   simp (disch:=first|omega|simp<;>omega|fail)[] at this
   exact this
 by_cases h0:n=0
 ·subst h0
  have hdz:nat9 0=.d (.sl 0 []):=rfl
  have:=main _ rfl rfl
  rw [hdz] at this
  have hlz:lenV (.d (.sl 0 []))=some (I 0):=rfl
  simp (disch:=first|omega|simp<;>omega|fail)[schismaref03_little,wh,hdz,hlz]
  refine jo_in ?_
  simp (disch:=first|omega|simp<;>omega|fail)[]
  exact this
 ·have hd1:=dig_one (by omega) hn
  have hdz:nat9 n=lst i9 [n]:=by unfold nat9; rw [hd1]
  have:=main _ rfl rfl
  rw [hdz] at this
  have hix:∀ h:Hp,ixV h 1 (lst i9 [n]) (.d (.int .i64 0))=some (.dptr ([n].map i9) 0):=fun h=>rfl
  have hld:∀ h:Hp,ld1 h (.dptr ([n].map i9) 0)=some (I n):=fun h=>rfl
  simp (disch:=first|omega|simp<;>omega|fail)[schismaref03_little,wh,hdz]
  refine jo_in ?_
  simp (disch:=first|omega|simp<;>omega|fail)[hix,hld]
  exact this
theorem make_ok {a:Int} {d:Nat} (ha:a.natAbs < 1000000000) (hd0:0 < d) (hd:d < 1000000000):CP Y F.schismaref03_Make [intW a,intW (d:Int)] (txV (frT a d)):=by
 refine schismaref03_Make_i ?_
 have hsg:=signW_ok (s:=decide ((d:Int) < 0)) (n:=((d:Int).natAbs)) (by rw [Int.natAbs_natCast]; unfold len9; rw [dig_one hd0 hd]; simp)
 have hl:=little_ok (s:=decide (a < 0)) ha hd0 hd
 have hres:txV (itoa (if decide (a < 0)=true then -((a.natAbs / Nat.gcd a.natAbs d:Nat):Int) else ((a.natAbs / Nat.gcd a.natAbs d:Nat):Int)),itoa ((d / Nat.gcd a.natAbs d:Nat):Int))=txV (frT a d):=by
  unfold frT
  congr 3
  by_cases h:a < 0
  ·simp only [h,decide_true,if_true]
   obtain ⟨n,rfl⟩:∃ n:Nat,a = -(n:Int):=⟨a.natAbs,by omega⟩
   rw [Int.natAbs_neg,Int.natAbs_natCast,Int.neg_tdiv]
   congr 1
  ·simp only [h,decide_false,Bool.false_eq_true,if_false]
   obtain ⟨n,rfl⟩:∃ n:Nat,a=(n:Int):=⟨a.natAbs,by omega⟩
   rw [Int.natAbs_natCast]
   rfl
 rw [hres] at hl
 have hdw:intW (d:Int)=.agg [.d (.bool false),lst i9 [d]]:=by
  unfold intW wh nat9
  rw [Int.natAbs_natCast,dig_one hd0 hd]
  simp
 have hsg':CP Y F.schismaref03_SignW [.agg [.d (.bool false),lst i9 [d]]] (I 1):=by
  rw [show wh (decide ((d:Int) < 0)) (d:Int).natAbs=intW (d:Int) from rfl,hdw] at hsg
  rw [if_neg (by omega)] at hsg
  simpa [show ¬ (d:Int) < 0 by omega] using hsg
 rw [hdw]
 have hix:∀ h:Hp,ixV h 1 (lst i9 [d]) (.d (.int .i64 0))=some (.dptr ([d].map i9) 0):=fun h=>rfl
 have hld:∀ h:Hp,ld1 h (.dptr ([d].map i9) 0)=some (I d):=fun h=>rfl
 have hla:∃ j:Nat,lenV (nat9 a.natAbs)=some (I j)∧j≤1:=by
  by_cases h0:a.natAbs=0
  ·exact ⟨0,by rw [h0]; rfl,by omega⟩
  ·exact ⟨1,by unfold nat9; rw [dig_one (by omega) ha]; rfl,by omega⟩
 obtain ⟨j,hj,hj1⟩:=hla
 obtain ⟨s9,hs9⟩:∃ s9,decide (a < 0)=s9:=⟨_,rfl⟩
 unfold intW
 rw [hs9] at hl ⊢
 have hok9:=okV9 a.natAbs
 simp (disch:=first|omega|simp<;>omega|fail)[schismaref03_Make,wh]
 refine cd hsg' ?_ (by simp [snaps,snap])
 simp (disch:=first|omega|simp<;>omega|fail)[]
 refine jo_in ?_
 simp (disch:=first|omega|simp<;>omega|fail)[hj,hix,hld]
 refine cd (args:=[.agg [.d (.bool s9),nat9 a.natAbs],I d]) hl ?_ (by simp [snaps,snap,nat9])
 simp (disch:=first|omega|simp<;>omega|fail)[txV]
 exact out_sn (by simp [snap,snaps])
theorem frac_ok {a:Int} {d:Nat} (ha:a.natAbs < 1000000000) (hd0:0 < d) (hd:d < 1000000000):CP Y F.schismaref03_Frac [I a,I d] (txV (frT a d)):=by
 refine schismaref03_Frac_i ?_
 simp (disch:=first|omega|simp<;>omega|fail)[schismaref03_Frac]
 refine cd (of_ok9 (z:=a) (by omega) (by omega)) ?_
 simp (disch:=first|omega|simp<;>omega|fail)[]
 refine cd (of_ok9 (z:=(d:Int)) (by omega) (by omega)) ?_
 simp (disch:=first|omega|simp<;>omega|fail)[]
 refine cd (make_ok ha hd0 hd) ?_ (by simp [snaps,snap,intW,wh,nat9])
 simp (disch:=first|omega|simp<;>omega|fail)[txV]
 exact out_sn (by simp [snap,snaps])
end Go.Vm
