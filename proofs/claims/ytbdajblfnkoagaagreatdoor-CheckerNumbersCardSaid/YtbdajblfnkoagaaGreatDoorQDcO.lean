/- Integers and fractions: Sign, Abs, Gcd; fraction.Check. -/
import Derived.Test.YtbdajblfnkoagaaGreatDoorQDcN
set_option linter.unusedVariables false
set_option linter.unusedSimpArgs false
namespace Go.Vm
open Go Go.Am Go.Big
theorem itoa_rdT (z:Int):rdT (itoa z)=itoaN z.natAbs:=by
 unfold itoa rdT
 split
 ·simp
 ·rw [if_neg (itoaN_hd _)]
theorem absW_ok (z:Int):CP Y F.whole_Abs [S (itoa z)] (S (itoaN z.natAbs)):=by
 refine whole_Abs_i ?_
 have:=split_ok (itoa z)
 rw [itoa_rdT] at this
 simp (disch:=first|omega|simp<;>omega|fail)[whole_Abs]
 refine cd this ?_
 simp (disch:=first|omega|simp<;>omega|fail)[] <;> exact out_s rfl
def sgn (z:Int):Int:=if z=0 then 0 else if z < 0 then -1 else 1
theorem signS_ok (z:Int):CP Y F.whole_Sign [S (itoa z)] (I (sgn z)):=by
 refine whole_Sign_i ?_
 by_cases h0:z=0
 ·subst h0
  have e:itoa 0=[48]:=itoaN_zero
  rw [e]
  simp (disch:=first|omega|simp<;>omega|fail)[whole_Sign] <;> exact out_i rfl
 ·have hne:¬ itoa z=[48]:=by
   intro e
   have h1:=rdS_itoa z
   have h2:=rdS_itoa 0
   rw [show itoa 0=[48] from itoaN_zero,← e,h1] at h2
   exact h0 (Option.some.inj h2)
  by_cases hn:z < 0
  ·have e:itoa z=45 :: itoaN z.natAbs:=by unfold itoa; rw [if_pos hn]
   have hix:ixS (S (itoa z)) (.d (.int .i64 0))=some (.d (.int .u8 45)):=by rw [e]; rfl
   simp (disch:=first|omega|simp<;>omega|fail)[whole_Sign,hne,hix] <;> exact out_i (by simp [sgn,h0,hn])
  ·have e:itoa z=itoaN z.natAbs:=by unfold itoa; rw [if_neg hn]
   obtain ⟨c,t,hct⟩:∃ c t,itoaN z.natAbs=c :: t:=by
    cases h:itoaN z.natAbs with
    | nil=>exact absurd h (itoaN_ne _)
    | cons c t=>exact ⟨c,t,rfl⟩
   have hhd:=itoaN_hd z.natAbs
   rw [hct] at hhd
   have hix:ixS (S (itoa z)) (.d (.int .i64 0))=some (.d (.int .u8 c.toNat)):=by rw [e,hct]; rfl
   have hc:¬ (c.toNat:Int)=45:=fun g=>hhd (by apply UInt8.toNat.inj; simpa using (by omega:c.toNat=45))
   simp (disch:=first|omega|simp<;>omega|fail)[whole_Sign,hne,hix,hc] <;> exact out_i (by simp [sgn,h0,hn])
theorem gcdW_ok {z w:Int} (hz:ndg z.natAbs < 1000000) (hw:ndg w.natAbs < 1000000):CP Y F.whole_Gcd [S (itoa z),S (itoa w)] (S (itoaN (Nat.gcd z.natAbs w.natAbs))):=by
 refine whole_Gcd_i ?_
 have l1:=little_ok9 z.natAbs
 have l2:=little_ok9 w.natAbs
 have gg:=gcdD_ok hz hw
 simp (disch:=first|omega|simp<;>omega|fail)[whole_Gcd]
 refine cd (absW_ok z) ?_
 simp (disch:=first|omega|simp<;>omega|fail)[]
 refine cd (absW_ok w) ?_
 simp (disch:=first|omega|simp<;>omega|fail)[]
 by_cases h1:ndg z.natAbs≤18
 ·rw [if_pos h1] at l1
  refine cd l1 ?_
  simp (disch:=first|omega|simp<;>omega|fail)[]
  by_cases h2:ndg w.natAbs≤18
  ·rw [if_pos h2] at l2
   refine jo_in ?_
   simp (disch:=first|omega|simp<;>omega|fail)[]
   refine cd l2 ?_
   have b1:z.natAbs < 1000000000000000000:=by have:=ndg_hi z.natAbs; have:=Nat.pow_le_pow_right (n:=10) (by decide) h1; omega
   have b2:w.natAbs < 1000000000000000000:=by have:=ndg_hi w.natAbs; have:=Nat.pow_le_pow_right (n:=10) (by decide) h2; omega
   have gi:=gcdI_ok b1 b2
   have gb:Nat.gcd z.natAbs w.natAbs < 9223372036854775808:=by
    rcases Nat.eq_zero_or_pos w.natAbs with h | h
    ·rw [h,Nat.gcd_zero_right]; omega
    ·have:=Nat.gcd_le_right z.natAbs h
     omega
   generalize Nat.gcd z.natAbs w.natAbs=G at *
   generalize z.natAbs=a at *
   generalize w.natAbs=b at *
   simp (disch:=first|omega|simp<;>omega|fail)[]
   refine cd gi ?_
   simp (disch:=first|omega|simp<;>omega|fail)[]
   refine cd (ofW_ok gb) ?_
   exact out_s rfl
  ·rw [if_neg h2] at l2
   refine jo_in ?_
   simp (disch:=first|omega|simp<;>omega|fail)[]
   refine cd l2 ?_
   simp (disch:=first|omega|simp<;>omega|fail)[]
   refine cd gg ?_
   exact out_s rfl
 ·rw [if_neg h1] at l1
  refine cd l1 ?_
  simp (disch:=first|omega|simp<;>omega|fail)[]
  refine cd (u:=.mk) gg ?_
  exact out_s rfl
theorem rd_text {s:List UInt8} {z:Int} (h:rd s=some z):s=itoa z∧ndg z.natAbs < 1000000:=by
 have hb:=rd_bound h
 unfold rd at h
 split at h
 ·exact ⟨rdS_some h,by have:=ndg_le hb (by decide); omega⟩
 ·cases h
theorem rdF_isSome (a b:List UInt8):(rdF a b).isSome=match rd a,rd b with
  | some n,some d=>decide (0 < d∧Nat.gcd n.natAbs d.natAbs=1)
  | _,_=>false:=by
 unfold rdF
 cases rd a <;> cases rd b <;> simp
 split <;> simp_all
theorem checkF_ok (a b:List UInt8) (ha:a.length < 1000000000) (hb:b.length < 1000000000):CP Y F.fraction_Check [.agg [S a,S b]] (I (if (rdF a b).isSome then 0 else 2)):=by
 refine fraction_Check_i ?_
 have ca:=checkW_ok a ha
 have cb:=checkW_ok b hb
 rw [rdF_isSome]
 simp (disch:=first|omega|simp<;>omega|fail)[fraction_Check]
 refine cd ca ?_
 cases hra:rd a with
 | none =>
  simp (disch:=first|omega|simp<;>omega|fail)[]
  refine jo_in ?_
  simp (disch:=first|omega|simp<;>omega|fail)[] <;> exact out_i rfl
 | some z =>
  cases hrb:rd b with
  | none =>
   rw [hrb] at cb
   simp (disch:=first|omega|simp<;>omega|fail)[]
   refine jo_in ?_
   simp (disch:=first|omega|simp<;>omega|fail)[]
   refine cd cb ?_
   simp (disch:=first|omega|simp<;>omega|fail)[] <;> exact out_i rfl
  | some w =>
   rw [hrb] at cb
   obtain ⟨ea,na⟩:=rd_text hra
   obtain ⟨eb,nb⟩:=rd_text hrb
   subst ea
   subst eb
   have sg:=signS_ok w
   have gg:=gcdW_ok na nb
   simp (disch:=first|omega|simp<;>omega|fail)[]
   refine jo_in ?_
   simp (disch:=first|omega|simp<;>omega|fail)[]
   refine cd cb ?_
   simp (disch:=first|omega|simp<;>omega|fail)[]
   refine cd sg ?_
   by_cases hw:0 < w
   ·have hs:¬ sgn w≤0:=by unfold sgn; rw [if_neg (by omega),if_neg (by omega)]; decide
    simp (disch:=first|omega|simp<;>omega|fail)[hs]
    refine jo_in ?_
    simp (disch:=first|omega|simp<;>omega|fail)[]
    refine cd gg ?_
    by_cases hg:Nat.gcd z.natAbs w.natAbs=1
    ·have e1:itoaN 1=[49]:=by rw [itoaN,show ndg 1=1 by unfold ndg; simp]; rfl
     rw [show itoaN (Nat.gcd z.natAbs w.natAbs)=[49] by rw [hg,e1]]
     simp (disch:=first|omega|simp<;>omega|fail)[] <;> exact out_i (by simp [hw]; exact hg)
    ·have e1:¬ itoaN (Nat.gcd z.natAbs w.natAbs)=[49]:=by
      intro e
      have:=congrArg (hornB 0) e
      rw [hornB_itoaN] at this
      exact hg this
     simp (disch:=first|omega|simp<;>omega|fail)[e1] <;> exact out_i (by simp [hw,hg])
   ·have hs:sgn w≤0:=by unfold sgn; split; decide; rw [if_pos (by omega)]; decide
    simp (disch:=first|omega|simp<;>omega|fail)[hs]
    refine jo_in ?_
    simp (disch:=first|omega|simp<;>omega|fail)[hs] <;> exact out_i (by simp [hw])
end Go.Vm
