/- Bounds, Primes, Size of the checker. -/
import Derived.Test.YtbdajblfnkoagaaGreatDoorQCkLog
set_option linter.unusedVariables false
set_option linter.unusedSimpArgs false
namespace Go.Vm
open Go Go.Am Go.Big
def boundsB (p b:Int) (l:List UInt8):Bool:=match rd l with
 | some z=>decide (0≤z) && primeB p && decide (0≤b) && decide (b≤64) && (logN p.toNat b.toNat 160 == some z.toNat)
 | none=>false
theorem primeB_le {p:Int} (h:primeB p=true):2≤p∧p≤97:=by
 simp only [primeB,Bool.and_eq_true,decide_eq_true_eq] at h
 exact h.1
theorem log_some {p b:Nat} (hp:primeB (p:Int)=true) (hb:b≤64):∃ r,logN p b 160=some r:=by
 have h97:=primeB_le hp
 have h:=log_all ⟨p,by omega⟩ hp
 rw [show (64:Nat)=b+(64 - b) by omega] at h
 have:=logF_some (w:=160) b (64 - b) _ _ _ h
 exact Option.isSome_iff_exists.1 this
theorem logF_lt {w:Nat}:∀ (n:Nat) {j low high ou r:Nat},ou < 2 ^ j→logF w n low high ou=some r→r < 2 ^ (j+n)
 | 0,j,low,high,ou,r,ho,h=>by simp only [logF,Option.some.injEq] at h; subst h; exact ho
 | n+1,j,low,high,ou,r,ho,h=>by
  simp only [logF] at h
  generalize (if high * high / 2 ^ w * 2 ^ w=high * high then high * high / 2 ^ w else high * high / 2 ^ w+1)=H at h
  have h1:ou * 2+1 < 2 ^ (j+1):=by rw [Nat.pow_succ]; omega
  have h2:ou * 2 < 2 ^ (j+1):=by omega
  rw [show j+(n+1)=j+1+n by omega]
  by_cases g:2 ^ (w+1)≤low * low / 2 ^ w
  ·rw [if_pos g] at h
   exact logF_lt n h1 h
  ·rw [if_neg g] at h
   by_cases g2:2 ^ (w+1)≤H
   ·rw [if_pos g2] at h; cases h
   ·rw [if_neg g2] at h
    exact logF_lt n h2 h
theorem bounds_ok (p b:Int) (l:List UInt8):CP Y F.checker_Bounds [.agg [I p,I b,S l]] (B (boundsB p b l)):=by
 refine checker_Bounds_i ?_
 have h40:(2:Nat) ^ 40=1099511627776:=by decide
 have rl:=read_ok l
 unfold boundsB
 cases hl:rd l with
 | none =>
  rw [hl] at rl
  simp (disch:=first|omega|simp<;>omega|fail)[checker_Bounds]
  refine cd rl ?_
  simp (disch:=first|omega|simp<;>omega|fail)[rdV,intV,intL]
 | some z =>
  have hzl:=rd_len hl
  rw [hl] at rl
  simp only []
  by_cases hz:z < 0
  ·simp (disch:=first|omega|simp<;>omega|fail)[checker_Bounds]
   refine cd rl ?_
   simp (disch:=first|omega|simp<;>omega|fail)[rdV,intV,intL,hz]
   exact out_b (by simp; intro; omega)
  ·by_cases hp:primeB p=true
   rotate_left
   ·simp (disch:=first|omega|simp<;>omega|fail)[checker_Bounds]
    refine cd rl ?_
    simp (disch:=first|omega|simp<;>omega|fail)[rdV,intV,intL,hz]
    refine cd (isPrime_ok p) ?_
    simp (disch:=first|omega|simp<;>omega|fail)[hp]
   ·have h97:=primeB_le hp
    by_cases hb0:b < 0
    ·simp (disch:=first|omega|simp<;>omega|fail)[checker_Bounds]
     refine cd rl ?_
     simp (disch:=first|omega|simp<;>omega|fail)[rdV,intV,intL,hz]
     refine cd (isPrime_ok p) ?_
     simp (disch:=first|omega|simp<;>omega|fail)[hp,hb0]
     exact out_b (by simp; omega)
    ·by_cases hb1:64 < b
     ·simp (disch:=first|omega|simp<;>omega|fail)[checker_Bounds]
      refine cd rl ?_
      simp (disch:=first|omega|simp<;>omega|fail)[rdV,intV,intL,hz]
      refine cd (isPrime_ok p) ?_
      simp (disch:=first|omega|simp<;>omega|fail)[hp,hb0,hb1]
      exact out_b (by simp; omega)
     ·obtain ⟨pn,rfl⟩:∃ n:Nat,p=n:=⟨p.toNat,by omega⟩
      obtain ⟨bn,rfl⟩:∃ n:Nat,b=n:=⟨b.toNat,by omega⟩
      obtain ⟨zn,rfl⟩:∃ n:Nat,z=n:=⟨z.toNat,by omega⟩
      obtain ⟨r,hr⟩:=log_some hp (b:=bn) (by omega)
      have lg:=logarithm_ok (p:=pn) (n:=bn) (w:=160) (by omega) (by omega) (by omega) (by omega) (by omega)
      rw [hr] at lg
      rw [show ((160:Nat):Int)=160 from rfl] at lg
      have e:(decide (0≤(zn:Int)) && primeB (pn:Int) && decide (0≤(bn:Int)) && decide ((bn:Int)≤64) && (logN (pn:Int).toNat (bn:Int).toNat 160 == some (zn:Int).toNat))=decide (r=zn):=by
       rw [show decide (0≤(zn:Int))=true by simp,show decide (0≤(bn:Int))=true by simp,show decide ((bn:Int)≤64)=true by simp; omega,hp,Int.toNat_natCast,Int.toNat_natCast,Int.toNat_natCast,hr,Bool.eq_iff_iff]
       simp
      rw [e]
      simp (disch:=first|omega|simp<;>omega|fail)[checker_Bounds]
      refine cd rl ?_
      simp (disch:=first|omega|simp<;>omega|fail)[rdV,intV,intL,hz]
      refine cd (isPrime_ok pn) ?_
      simp (disch:=first|omega|simp<;>omega|fail)[hp,hb0,hb1]
      refine lo (lp_in ?_)
      simp (disch:=first|omega|simp<;>omega|fail)[checker_Bounds_l0]
      refine cd lg ?_
      have hrl:=len_pow (Nat.le_of_lt (logF_lt bn (j:=64) (by
       have:=bln_le_of (n:=pn) (k:=32) (Nat.lt_of_lt_of_le (by omega:pn < 128) (by decide))
       have h2:(32:Nat) < 2 ^ 64:=by decide
       omega) hr))
      rw [Int.natAbs_natCast] at hzl
      have hor:CP Y F.checker_order [nat r,nat zn] (I (cmp r zn)):=order_ok (by omega) (by omega)
      rw [nat_natD zn] at hor
      simp (disch:=first|omega|simp<;>omega|fail)[logV]
      refine cd hor ?_
      simp (disch:=first|omega|simp<;>omega|fail)[]
      exact out_b (by rw [decide_eq_decide,cmp_zero])
end Go.Vm
