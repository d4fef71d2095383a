/- Fractions of the checker. -/
import Derived.Test.YtbdajblfnkoagaaGreatDoorQCkRead
set_option linter.unusedVariables false
set_option linter.unusedSimpArgs false
namespace Go.Vm
open Go Go.Am Go.Big
def frL (z:Int) (d:Nat):List V:=[.d (.bool (decide (z < 0))),.d (natD z.natAbs),.d (natD d)]
def frV3 (z:Int) (d:Nat):V:=.agg (frL z d)
theorem rd_bound {s:List UInt8} {z:Int} (h:rd s=some z):z.natAbs < 10 ^ 400:=by
 rw [rd_eq] at h
 split at h
 ·rename_i hc
  simp only [Option.some.injEq] at h
  have hi:=hornB_hi (rdT s) 0 hc.2.2.2
  have:hornB 0 (rdT s) < 10 ^ 400:=Nat.lt_of_lt_of_le hi (by set_option exponentiation.threshold 1000 in rw [Nat.zero_add,Nat.one_mul]; exact Nat.pow_le_pow_right (by decide) hc.1)
  have hz:z.natAbs=hornB 0 (rdT s):=by
   rw [← h]; split <;> simp
  rw [hz]; exact this
 ·cases h
theorem rd_len {s:List UInt8} {z:Int} (h:rd s=some z):len z.natAbs≤400:=len_dec (rd_bound h)
def rdF (a b:List UInt8):Option (Int × Nat):=match rd a,rd b with
 | some n,some d=>if 0 < d∧Nat.gcd n.natAbs d.natAbs=1 then some (n,d.natAbs) else none
 | _,_=>none
def rdFV (o:Option (Int × Nat)):V:=.tup [frV3 (o.getD (0,0)).1 (o.getD (0,0)).2,B o.isSome]
theorem out_nof (h:Hp):out (rdFV none) (.tup [.agg [.d (.bool false),.d (.pl (.slice none 0 0)),.d (.pl (.slice none 0 0))],.d (.bool false)]) h:=⟨h,by simp [rdFV,snap,snaps,frV3,frL,natD_zero]⟩
theorem parts_ok (a b:List UInt8):CP Y F.checker_parts [.agg [S a,S b]] (rdFV (rdF a b)):=by
 refine checker_parts_i ?_
 have h40:(2:Nat) ^ 40=1099511627776:=by decide
 have ra:=read_ok a
 have rb:=read_ok b
 cases ha:rd a with
 | none =>
  have hF:rdF a b=none:=by simp [rdF,ha]
  rw [hF]
  rw [ha] at ra
  simp (disch:=first|omega|simp<;>omega|fail)[checker_parts]
  refine cd ra ?_
  simp (disch:=first|omega|simp<;>omega|fail)[rdV,intV,intL]
  refine cd rb ?_
  simp (disch:=first|omega|simp<;>omega|fail)[rdV,intV,intL]
  exact out_nof _
 | some n =>
  have hnl:=rd_len ha
  rw [ha] at ra
  cases hb:rd b with
  | none =>
   have hF:rdF a b=none:=by simp [rdF,ha,hb]
   rw [hF]
   rw [hb] at rb
   simp (disch:=first|omega|simp<;>omega|fail)[checker_parts]
   refine cd ra ?_
   simp (disch:=first|omega|simp<;>omega|fail)[rdV,intV,intL]
   refine cd rb ?_
   simp (disch:=first|omega|simp<;>omega|fail)[rdV,intV,intL]
   exact out_nof _
  | some d =>
   have hdl:=rd_len hb
   rw [hb] at rb
   by_cases hd0:0 < d
   ·have hde:d.natAbs=d:=by omega
    have hdp:¬ len d.natAbs=0:=by have:=len_pos (n:=d.natAbs); omega
    have hdn:¬ d < 0:=by omega
    have hli:∀ h,lisR 1 [D.int IntKind.u32 0] [(0,.d (.int .u32 1))] h=some ([.int .u32 1],h):=fun h=>by simp [lisR,repl,toDs,toD]
    have hco:=common_ok (a:=n.natAbs) (b:=d.natAbs) (by omega) (by omega)
    have hgl:len (Nat.gcd n.natAbs d.natAbs)≤len d.natAbs:=len_mono (Nat.gcd_le_right _ (by omega))
    have hor:=order_ok (a:=Nat.gcd n.natAbs d.natAbs) (b:=1) (by omega) (by have:=len_le (n:=1) (k:=1) (by decide); omega)
    have hF:rdF a b=if Nat.gcd n.natAbs d.natAbs=1 then some (n,d.natAbs) else none:=by simp [rdF,ha,hb,hd0]
    rw [hF]
    rw [nat_natD,nat_natD] at hco
    rw [nat_one] at hor
    simp (disch:=first|omega|simp<;>omega|fail)[checker_parts]
    refine cd ra ?_
    simp (disch:=first|omega|simp<;>omega|fail)[rdV,intV,intL]
    refine cd rb ?_
    simp (disch:=first|omega|simp<;>omega|fail)[rdV,intV,intL,hdn,hdp]
    refine cd hco ?_
    simp (disch:=first|omega|simp<;>omega|fail)[]
    rw [hli]
    simp (disch:=first|omega|simp<;>omega|fail)[]
    refine cd hor ?_
    by_cases hg:Nat.gcd n.natAbs d.natAbs=1
    ·have hc:=cmp_zero.2 hg
     rw [if_pos hg]
     simp (disch:=first|omega|simp<;>omega|fail)[hc]
     exact out_sn (by simp [rdFV,snap,snaps,frV3,frL])
    ·have hc:¬ cmp (Nat.gcd n.natAbs d.natAbs) 1=0:=fun h=>hg (cmp_zero.1 h)
     rw [if_neg hg]
     simp (disch:=first|omega|simp<;>omega|fail)[hc]
     exact out_nof _
   ·have hF:rdF a b=none:=by simp [rdF,ha,hb,hd0]
    rw [hF]
    by_cases hdn:d < 0
    ·simp (disch:=first|omega|simp<;>omega|fail)[checker_parts]
     refine cd ra ?_
     simp (disch:=first|omega|simp<;>omega|fail)[rdV,intV,intL]
     refine cd rb ?_
     simp (disch:=first|omega|simp<;>omega|fail)[rdV,intV,intL,hdn]
     exact out_nof _
    ·have hz:d=0:=by omega
     subst hz
     have hl0:len 0=0:=len_zero
     simp (disch:=first|omega|simp<;>omega|fail)[checker_parts]
     refine cd ra ?_
     simp (disch:=first|omega|simp<;>omega|fail)[rdV,intV,intL]
     refine cd rb ?_
     simp (disch:=first|omega|simp<;>omega|fail)[rdV,intV,intL,hl0]
     exact out_nof _
theorem number_okF (a b:List UInt8):CP Y F.checker_Number [.agg [S a,S b]] (B (rdF a b).isSome):=by
 refine checker_Number_i ?_
 simp (disch:=first|omega|simp<;>omega|fail)[checker_Number]
 refine cd (parts_ok a b) ?_
 simp (disch:=first|omega|simp<;>omega|fail)[rdFV,frV3,frL]
theorem zero_ok (z:Int) (d:Nat):CP Y F.checker_fraction_zero [frV3 z d] (B (decide (z=0))):=by
 refine checker_fraction_zero_i ?_
 simp (disch:=first|omega|simp<;>omega|fail)[checker_fraction_zero,frV3,frL]
 exact out_b (by have:=len_pos (n:=z.natAbs); rw [decide_eq_decide]; omega)
theorem nothing_ok:CP Y F.checker_nothing [] (frV3 0 1):=by
 refine checker_nothing_i ?_
 have hli:∀ h,lisR 1 [D.int IntKind.u32 0] [(0,.d (.int .u32 1))] h=some ([.int .u32 1],h):=fun h=>by simp [lisR,repl,toDs,toD]
 have h1:natD 1=.sl 1 [.int .u32 1]:=rfl
 simp (disch:=first|omega|simp<;>omega|fail)[checker_nothing]
 rw [hli]
 simp (disch:=first|omega|simp<;>omega|fail)[]
 exact out_sn (by simp [snap,snaps,frV3,frL,natD_zero,h1])
theorem frtimes_ok {x y:Int} {c d:Nat} (hx:fits x) (hy:fits y) (hc:len c < 2 ^ 40) (hd:len d < 2 ^ 40):CP Y F.checker_fraction_times [frV3 x c,frV3 y d] (frV3 (x * y) (c * d)):=by
 refine checker_fraction_times_i ?_
 have ht:=times_ok hx hy
 have hp:=product_ok hc hd
 rw [nat_natD,nat_natD] at hp
 simp (disch:=first|omega|simp<;>omega|fail)[checker_fraction_times,frV3,frL]
 refine cd ht ?_
 simp (disch:=first|omega|simp<;>omega|fail)[]
 refine cd hp ?_
 simp (disch:=first|omega|simp<;>omega|fail)[intV,intL,nat_natD]
 exact out_sn (by simp [snap,snaps])
def fadd (a b:Int × Nat):Int × Nat:=if a.2=b.2 then (a.1+b.1,a.2) else (a.1 * b.2+b.1 * a.2,a.2 * b.2)
theorem fradd_ok {x y:Int} {c d:Nat} (hx:fits x) (hy:fits y) (hc:fits c) (hd:fits d) (h1:fits (x * d)) (h2:fits (y * c)):CP Y F.checker_fraction_add [frV3 x c,frV3 y d] (frV3 (fadd (x,c) (y,d)).1 (fadd (x,c) (y,d)).2):=by
 refine checker_fraction_add_i ?_
 have hor:=order_ok (a:=c) (b:=d) hc hd
 rw [nat_natD,nat_natD] at hor
 unfold fadd
 by_cases h:c=d
 ·subst h
  have ha:=add_ok hx hy
  have hz:=cmp_zero.2 (rfl:c=c)
  simp (disch:=first|omega|simp<;>omega|fail)[checker_fraction_add,frV3,frL]
  refine cd hor ?_
  simp (disch:=first|omega|simp<;>omega|fail)[hz]
  refine cd ha ?_
  simp (disch:=first|omega|simp<;>omega|fail)[intV,intL]
  exact out_sn (by simp [snap,snaps])
 ·have hz:¬ cmp c d=0:=fun g=>h (cmp_zero.1 g)
  have t1:=times_ok (a:=x) (b:=(d:Int)) hx hd
  have t2:=times_ok (a:=y) (b:=(c:Int)) hy hc
  have ha:=add_ok h1 h2
  have hp:=product_ok hc hd
  have e1:intV (d:Int)=.agg [.d (.bool false),.d (natD d)]:=intV_eq (by simp) (by simp)
  have e2:intV (c:Int)=.agg [.d (.bool false),.d (natD c)]:=intV_eq (by simp) (by simp)
  rw [e1] at t1
  rw [e2] at t2
  rw [nat_natD,nat_natD] at hp
  rw [if_neg h]
  simp (disch:=first|omega|simp<;>omega|fail)[checker_fraction_add,frV3,frL]
  refine cd hor ?_
  simp (disch:=first|omega|simp<;>omega|fail)[hz]
  refine cd t1 ?_
  simp (disch:=first|omega|simp<;>omega|fail)[]
  refine cd t2 ?_
  simp (disch:=first|omega|simp<;>omega|fail)[]
  refine cd ha ?_
  simp (disch:=first|omega|simp<;>omega|fail)[]
  refine cd hp ?_
  simp (disch:=first|omega|simp<;>omega|fail)[intV,intL,nat_natD]
  exact out_sn (by simp [snap,snaps])
end Go.Vm
