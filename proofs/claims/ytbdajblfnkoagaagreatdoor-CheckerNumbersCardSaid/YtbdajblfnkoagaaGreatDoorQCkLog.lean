/- Logarithms of the checker. -/
import Derived.Test.YtbdajblfnkoagaaGreatDoorQCkFrac
set_option linter.unusedVariables false
set_option linter.unusedSimpArgs false
namespace Go.Vm
open Go Go.Am Go.Big
theorem len_pow {n j:Nat} (h:n≤2 ^ j):len n≤j+1:=by
 refine len_le (Nat.lt_of_le_of_lt h ?_)
 have h1:2 ^ j≤W ^ j:=Nat.pow_le_pow_left (by decide) j
 have h2:W ^ j < W ^ (j+1):=Nat.pow_lt_pow_right (by decide) (by omega)
 omega
theorem lis_one (h:Hp):lisR 1 [D.int IntKind.u32 0] [(0,.d (.int .u32 1))] h=some ([.int .u32 1],h):=by simp [lisR,repl,toDs,toD]
theorem log_loop {w N:Nat} (hw0:0 < w) (hw:w < 100000000) (hN:N < 100000000) (k:KL):∀ (n i low high ou:Nat),i+n=N→low≤2 ^ (w+1)→high≤2 ^ (w+1)→ou < 2 ^ (i+64) →
  (∀ r,logF w n low high ou=some r→k (.exit 0) [nat r] [])→(logF w n low high ou=none→k .ret [.d (.pl (.slice none 0 0)),B false] []) →
  lp (checker_logarithm_l0 (CX Y) (I w) (nat (2 ^ (w+1))) (I N)) [] [] [nat low,nat high,nat ou,I i] [] k
 | 0,i,low,high,ou,hi,hl,hh,ho,h1,h2=>by
  refine lp_in ?_
  simp (disch:=first|omega|simp<;>omega|fail)[checker_logarithm_l0]
  exact h1 ou rfl
 | n+1,i,low,high,ou,hi,hl,hh,ho,h1,h2=>by
  have h40:(2:Nat) ^ 40=1099511627776:=by decide
  have ih:=log_loop hw0 hw hN k n (i+1)
  have b1:=len_pow hl
  have b2:=len_pow hh
  have b3:=len_pow (Nat.le_of_lt ho)
  have q1:=sq_lo hl
  have q2:=sq_up hh
  have e2:2 ^ (w+1) * 2 ^ (w+1)=2 ^ (2 * w+2):=by rw [← Nat.pow_add]; congr 1; omega
  have c1:=len_pow (n:=low * low) (j:=2 * w+2) (by rw [← e2]; exact Nat.mul_le_mul hl hl)
  have c2:=len_pow (n:=high * high) (j:=2 * w+2) (by rw [← e2]; exact Nat.mul_le_mul hh hh)
  have hq:high * high / 2 ^ w≤2 ^ (w+2):=sq_lo hh
  have c3:=len_pow hq
  have c4:=len_pow q1
  have hqm:high * high / 2 ^ w * 2 ^ w≤high * high:=Nat.div_mul_le_self _ _
  have c5:=len_mono hqm
  have p1:=product_ok (a:=low) (b:=low) (by omega) (by omega)
  have p2:=product_ok (a:=high) (b:=high) (by omega) (by omega)
  have s1:=shr_ok (a:=low * low) (n:=w) (by omega) hw0 (by omega)
  have s2:=shr_ok (a:=high * high) (n:=w) (by omega) hw0 (by omega)
  have s3:=shl_ok (a:=high * high / 2 ^ w) (n:=w) (by omega) (by omega)
  have o1:=order_ok (a:=high * high / 2 ^ w * 2 ^ w) (b:=high * high) (by omega) (by omega)
  have s4:=shl_ok (a:=ou) (n:=1) (by omega) (by omega)
  have l1:=len_le (n:=1) (k:=1) (by decide)
  have pl:=plus_ok (a:=high * high / 2 ^ w) (b:=1) (by omega) (by omega)
  have lt:=len_pow (Nat.le_refl (2 ^ (w+1)))
  rw [Nat.pow_one,show ((1:Nat):Int)=1 from rfl] at s4
  rw [nat_one] at pl
  simp only [logF] at h1 h2
  have hox:ou * 2+1 < 2 ^ (i+1+64):=by rw [show i+1+64=(i+64)+1 by omega,Nat.pow_succ]; omega
  have ho2:ou * 2 < 2 ^ (i+1+64):=by omega
  have d1:=len_pow (Nat.le_of_lt ho2)
  have pl3:=plus_ok (a:=ou * 2) (b:=1) (by omega) (by omega)
  rw [nat_one] at pl3
  have hpw:2 ^ (w+2)=2 ^ (w+1) * 2:=Nat.pow_succ ..
  generalize hL2:low * low=L2 at *
  generalize hLq:L2 / 2 ^ w=Lq at *
  generalize hH2:high * high=H2 at *
  generalize hHq:H2 / 2 ^ w=Hq at *
  obtain ⟨H',hH'⟩:∃ H',(if Hq * 2 ^ w=H2 then Hq else Hq+1)=H':=⟨_,rfl⟩
  rw [hH'] at q2 h1 h2
  have c6:=len_pow q2
  have s5:=shr_ok (a:=Lq) (n:=1) (by omega) (by omega) (by omega)
  have s6:=shr_ok (a:=H'+1) (n:=1) (by have:=len_pow (n:=H'+1) (j:=w+3) (by rw [Nat.pow_succ]; have:=Nat.two_pow_pos (w+2); omega); omega) (by omega) (by omega)
  rw [Nat.pow_one,show (-((1:Nat):Int)) = -1 from rfl] at s5 s6
  have o2:=order_ok (a:=Lq) (b:=2 ^ (w+1)) (by omega) (by omega)
  have o3:=order_ok (a:=H') (b:=2 ^ (w+1)) (by omega) (by omega)
  have pl2:=plus_ok (a:=H') (b:=1) (by omega) (by omega)
  rw [nat_one] at pl2
  refine lp_in ?_
  simp (disch:=first|omega|simp<;>omega|fail)[checker_logarithm_l0]
  refine jo_in ?_
  simp (disch:=first|omega|simp<;>omega|fail)[]
  refine cd p1 ?_
  simp (disch:=first|omega|simp<;>omega|fail)[]
  refine cd s1 ?_
  simp (disch:=first|omega|simp<;>omega|fail)[]
  refine cd p2 ?_
  simp (disch:=first|omega|simp<;>omega|fail)[]
  refine cd s2 ?_
  simp (disch:=first|omega|simp<;>omega|fail)[]
  refine cd s3 ?_
  simp (disch:=first|omega|simp<;>omega|fail)[]
  refine cd o1 ?_
  by_cases he:Hq * 2 ^ w=H2
  ·have hc:=cmp_zero.2 he
   rw [if_pos he] at hH'
   simp (disch:=first|omega|simp<;>omega|fail)[hc]
   refine jo_in ?_
   simp (disch:=first|omega|simp<;>omega|fail)[]
   rw [hH']
   refine cd s4 ?_
   simp (disch:=first|omega|simp<;>omega|fail)[]
   refine jo_in ?_
   simp (disch:=first|omega|simp<;>omega|fail)[]
   refine cd o2 ?_
   by_cases ht:2 ^ (w+1)≤Lq
   ·have hcm:(0:Int)≤cmp Lq (2 ^ (w+1)):=by unfold cmp; rw [if_neg (by omega)]; split <;> omega
    rw [if_pos ht] at h1 h2
    simp (disch:=first|omega|simp<;>omega|fail)[hcm]
    refine jo_in ?_
    simp (disch:=first|omega|simp<;>omega|fail)[hcm,lis_one]
    refine cd pl3 ?_
    simp (disch:=first|omega|simp<;>omega|fail)[]
    refine cd s5 ?_
    simp (disch:=first|omega|simp<;>omega|fail)[lis_one]
    refine cd pl2 ?_
    simp (disch:=first|omega|simp<;>omega|fail)[]
    refine cd s6 ?_
    simp (disch:=first|omega|simp<;>omega|fail)[]
    exact ih (Lq / 2) ((H'+1) / 2) (ou * 2+1) (by omega) (by omega) (by omega) hox h1 h2
   ·have hcm:¬ (0:Int)≤cmp Lq (2 ^ (w+1)):=by unfold cmp; rw [if_pos (by omega)]; omega
    rw [if_neg ht] at h1 h2
    simp (disch:=first|omega|simp<;>omega|fail)[hcm]
    refine jo_in ?_
    simp (disch:=first|omega|simp<;>omega|fail)[hcm]
    refine cd o3 ?_
    by_cases hu:2 ^ (w+1)≤H'
    ·have hcm2:(0:Int)≤cmp H' (2 ^ (w+1)):=by unfold cmp; rw [if_neg (by omega)]; split <;> omega
     rw [if_pos hu] at h1 h2
     simp (disch:=first|omega|simp<;>omega|fail)[hcm2]
     exact h2 rfl
    ·have hcm2:¬ (0:Int)≤cmp H' (2 ^ (w+1)):=by unfold cmp; rw [if_pos (by omega)]; omega
     rw [if_neg hu] at h1 h2
     simp (disch:=first|omega|simp<;>omega|fail)[hcm2]
     exact ih Lq H' (ou * 2) (by omega) (by omega) (by omega) ho2 h1 h2
  ·have hc:¬ cmp (Hq * 2 ^ w) H2=0:=fun h=>he (cmp_zero.1 h)
   rw [if_neg he] at hH'
   simp (disch:=first|omega|simp<;>omega|fail)[hc]
   refine jo_in ?_
   simp (disch:=first|omega|simp<;>omega|fail)[lis_one]
   refine cd pl ?_
   rw [hH']
   simp (disch:=first|omega|simp<;>omega|fail)[]
   refine cd s4 ?_
   simp (disch:=first|omega|simp<;>omega|fail)[]
   refine jo_in ?_
   simp (disch:=first|omega|simp<;>omega|fail)[]
   refine cd o2 ?_
   by_cases ht:2 ^ (w+1)≤Lq
   ·have hcm:(0:Int)≤cmp Lq (2 ^ (w+1)):=by unfold cmp; rw [if_neg (by omega)]; split <;> omega
    rw [if_pos ht] at h1 h2
    simp (disch:=first|omega|simp<;>omega|fail)[hcm]
    refine jo_in ?_
    simp (disch:=first|omega|simp<;>omega|fail)[hcm,lis_one]
    refine cd pl3 ?_
    simp (disch:=first|omega|simp<;>omega|fail)[]
    refine cd s5 ?_
    simp (disch:=first|omega|simp<;>omega|fail)[lis_one]
    refine cd pl2 ?_
    simp (disch:=first|omega|simp<;>omega|fail)[]
    refine cd s6 ?_
    simp (disch:=first|omega|simp<;>omega|fail)[]
    exact ih (Lq / 2) ((H'+1) / 2) (ou * 2+1) (by omega) (by omega) (by omega) hox h1 h2
   ·have hcm:¬ (0:Int)≤cmp Lq (2 ^ (w+1)):=by unfold cmp; rw [if_pos (by omega)]; omega
    rw [if_neg ht] at h1 h2
    simp (disch:=first|omega|simp<;>omega|fail)[hcm]
    refine jo_in ?_
    simp (disch:=first|omega|simp<;>omega|fail)[hcm]
    refine cd o3 ?_
    by_cases hu:2 ^ (w+1)≤H'
    ·have hcm2:(0:Int)≤cmp H' (2 ^ (w+1)):=by unfold cmp; rw [if_neg (by omega)]; split <;> omega
     rw [if_pos hu] at h1 h2
     simp (disch:=first|omega|simp<;>omega|fail)[hcm2]
     exact h2 rfl
    ·have hcm2:¬ (0:Int)≤cmp H' (2 ^ (w+1)):=by unfold cmp; rw [if_pos (by omega)]; omega
     rw [if_neg hu] at h1 h2
     simp (disch:=first|omega|simp<;>omega|fail)[hcm2]
     exact ih Lq H' (ou * 2) (by omega) (by omega) (by omega) ho2 h1 h2
def logV (o:Option Nat):V:=.tup [nat (o.getD 0),B o.isSome]
theorem logarithm_ok {p n w:Nat} (hp:1≤p) (hp2:p < 4294967296) (hn:n < 100000000) (hw0:32≤w) (hw:w < 100000000):CP Y F.checker_logarithm [I p,I n,I w] (logV (logN p n w)):=by
 refine checker_logarithm_i ?_
 have h40:(2:Nat) ^ 40=1099511627776:=by decide
 have lp1:=len_le (n:=p) (k:=1) (by simp only [W]; omega)
 have hb:=bln_le_of (n:=p) (k:=32) (by simpa using hp2)
 have hb0:=bln_pos (n:=p) (by omega)
 have hbl:=bln_lt p
 obtain ⟨j,hj⟩:∃ j,bln p=j+1:=⟨bln p - 1,by omega⟩
 have o1:=of_ok (n:=p) (by omega)
 have b1:=bits_ok (a:=p) (by omega)
 have o2:=of_ok (n:=j) (by omega)
 have s1:=shl_ok (a:=p) (n:=w - j) (by omega) (by omega)
 have l1:=len_le (n:=1) (k:=1) (by decide)
 have s2:=shl_ok (a:=1) (n:=w+1) (by omega) (by omega)
 rw [Nat.one_mul,nat_one] at s2
 rw [hj] at b1 hbl
 have e1:((w:Int) - (j:Int))=((w - j:Nat):Int):=by omega
 have e2:((w:Int)+1)=((w+1:Nat):Int):=by omega
 have hlow:p * 2 ^ (w - j)≤2 ^ (w+1):=by
  have:=Nat.mul_le_mul_right (2 ^ (w - j)) (Nat.le_of_lt hbl)
  rw [← Nat.pow_add,show j+1+(w - j)=w+1 by omega] at this
  exact this
 have hN:logN p n w=logF w n (p * 2 ^ (w - j)) (p * 2 ^ (w - j)) j:=by unfold logN; rw [hj]; rfl
 have hjb:j < 2 ^ (0+64):=by
  have:(32:Nat) < 2 ^ (0+64):=by decide
  omega
 simp (disch:=first|omega|simp<;>omega|fail)[checker_logarithm]
 refine cd o1 ?_
 simp (disch:=first|omega|simp<;>omega|fail)[]
 refine cd b1 ?_
 simp (disch:=first|omega|simp<;>omega|fail)[]
 refine cd o2 ?_
 simp (disch:=first|omega|simp<;>omega|fail)[]
 rw [e1]
 refine cd s1 ?_
 simp (disch:=first|omega|simp<;>omega|fail)[lis_one]
 rw [e2]
 refine cd s2 ?_
 simp (disch:=first|omega|simp<;>omega|fail)[]
 refine lo (log_loop (w:=w) (N:=n) (by omega) hw hn _ n 0 _ _ _ (by omega) hlow hlow hjb (fun r hr=>?_) (fun hr=>?_))
 ·rw [hN,hr]
  simp (disch:=first|omega|simp<;>omega|fail)[]
  exact out_sn (by simp [snap,snaps,logV])
 ·rw [hN,hr]
  simp (disch:=first|omega|simp<;>omega|fail)[]
  exact out_sn (by simp [snap,snaps,logV,nat,dig_zero,lst])
theorem logF_some {w:Nat}:∀ (n m low high ou:Nat),(logF w (n+m) low high ou).isSome=true→(logF w n low high ou).isSome=true
 | 0,m,low,high,ou,h=>rfl
 | n+1,m,low,high,ou,h=>by
  rw [show n+1+m=(n+m)+1 by omega] at h
  simp only [logF] at h ⊢
  generalize (if high * high / 2 ^ w * 2 ^ w=high * high then high * high / 2 ^ w else high * high / 2 ^ w+1)=H at h ⊢
  by_cases g:2 ^ (w+1)≤low * low / 2 ^ w
  ·rw [if_pos g] at h ⊢
   exact logF_some n m _ _ _ h
  ·rw [if_neg g] at h ⊢
   by_cases g2:2 ^ (w+1)≤H
   ·rw [if_pos g2] at h; cases h
   ·rw [if_neg g2] at h ⊢
    exact logF_some n m _ _ _ h
def primeGo (n:Nat):Nat→Nat→Bool
 | 0,_=>true
 | k+1,d=>if n % d=0 then false else primeGo n k (d+1)
def primeB (n:Int):Bool:=decide (2≤n) && decide (n≤97) && primeGo n.toNat (n.toNat - 2) 2
theorem log_all:∀ p:Fin 98,primeB p.val=true→(logN p.val 64 160).isSome=true:=by decide +kernel
theorem prime_loop (n:Nat) (hn:n≤97) (k:KL):∀ (r d:Nat),2≤d→d+r=n→(primeGo n r d=true→k (.exit 0) [] [])→(primeGo n r d=false→k .ret [B false] []) →
  lp (checker_isPrime_l0 (CX Y) (I n)) [] [] [I d] [] k
 | 0,d,hd,hr,h0,h1=>by
  refine lp_in ?_
  simp (disch:=first|omega|simp<;>omega|fail)[checker_isPrime_l0]
  exact h0 rfl
 | r+1,d,hd,hr,h0,h1=>by
  have e:((n:Int).tmod d=0)↔n % d=0:=by
   rw [Int.tmod_eq_emod_of_nonneg (by omega)]
   omega
  refine lp_in ?_
  simp only [primeGo] at h0 h1
  by_cases h:n % d=0
  ·have e':=eq_true (e.2 h)
   rw [if_pos h] at h1
   simp (disch:=first|omega|simp<;>omega|fail)[checker_isPrime_l0,e']
   exact h1 rfl
  ·have e':¬ (n:Int).tmod d=0:=fun g=>h (e.1 g)
   rw [if_neg h] at h0 h1
   have:=prime_loop n hn k r (d+1) (by omega) (by omega) h0 h1
   simp (disch:=first|omega|simp<;>omega|fail)[checker_isPrime_l0,e']
   simpa using this
theorem isPrime_ok (n:Int):CP Y F.checker_isPrime [I n] (B (primeB n)):=by
 refine checker_isPrime_i ?_
 by_cases h1:n < 2
 ·simp (disch:=first|omega|simp<;>omega|fail)[checker_isPrime,h1]
  exact out_b (by simp [primeB]; omega)
 ·by_cases h2:97 < n
  ·simp (disch:=first|omega|simp<;>omega|fail)[checker_isPrime,h1,h2]
   exact out_b (by simp [primeB]; omega)
  ·obtain ⟨m,rfl⟩:∃ m:Nat,n=m:=⟨n.toNat,by omega⟩
   have hp:primeB (m:Int)=primeGo m (m - 2) 2:=by
    unfold primeB
    rw [show decide ((2:Int)≤m)=true by simp; omega,show decide ((m:Int)≤97)=true by simp; omega]
    simp
   rw [hp]
   simp (disch:=first|omega|simp<;>omega|fail)[checker_isPrime,h1,h2]
   refine lo (prime_loop m (by omega) _ (m - 2) 2 (by omega) (by omega) (fun g=>?_) (fun g=>?_))
   ·rw [g]; simp (disch:=first|omega|simp<;>omega|fail)[]
   ·rw [g]; simp (disch:=first|omega|simp<;>omega|fail)[]
end Go.Vm
