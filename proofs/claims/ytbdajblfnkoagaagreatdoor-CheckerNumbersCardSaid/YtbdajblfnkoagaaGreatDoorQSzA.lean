/- prime.Check, size.Check. -/
import Derived.Test.YtbdajblfnkoagaaGreatDoorQCkSize
import Derived.Test.YtbdajblfnkoagaaGreatDoorQDcO
import Derived.Test.YtbdajblfnkoagaaGreatDoorQT
set_option linter.unusedVariables false
set_option linter.unusedSimpArgs false
namespace Go.Vm
open Go Go.Am Go.Big
def sqGo (n:Nat):Nat→Nat→Bool
 | 0,_=>true
 | r+1,d=>if d * d≤n then (if n % d=0 then false else sqGo n r (d+1)) else true
theorem sq_all:∀ n:Fin 98,2≤n.val→sqGo n.val 10 2=primeB n.val:=by decide +kernel
theorem sq_loop (n:Nat) (hn:n≤97) (k:KL):∀ (r d:Nat),2≤d→d+r=12→(sqGo n r d=true→k (.exit 0) [] [])→(sqGo n r d=false→k .ret [B false] []) →
  lp (prime_IsPrime_l0 (CX Y) (I n)) [] [] [I d] [] k
 | 0,d,hd,hr,h0,h1=>by
  have:d=12:=by omega
  subst this
  have g:¬ ((12:Nat):Int) * ((12:Nat):Int)≤(n:Int):=by omega
  have g2:¬ (144:Int)≤(n:Int):=by omega
  refine lp_in ?_
  simp (disch:=first|omega|simp<;>omega|fail)[prime_IsPrime_l0,g,g2]
  exact h0 rfl
 | r+1,d,hd,hr,h0,h1=>by
  have ih:=sq_loop n hn k r (d+1) (by omega) (by omega)
  have hd12:d≤12:=by omega
  obtain ⟨s,hs⟩:∃ s,d * d=s:=⟨_,rfl⟩
  have hsb:s≤144:=by rw [← hs]; exact Nat.mul_le_mul hd12 hd12
  have e1:(d:Int) * (d:Int)=(s:Int):=by rw [← hs]; simp
  rw [sqGo,hs] at h0 h1
  refine lp_in ?_
  by_cases g:s≤n
  ·have g':(s:Int)≤(n:Int):=by omega
   rw [if_pos g] at h0 h1
   have hd0:¬ ((d:Int)=0):=by omega
   have hd0':¬ (d=0):=by omega
   obtain ⟨m,hm⟩:∃ m,n % d=m:=⟨_,rfl⟩
   have e2:(n:Int) % (d:Int)=(m:Int):=by rw [← hm]; simp
   rw [hm] at h0 h1
   by_cases h:m=0
   ·have h':(m:Int)=0:=by omega
    rw [if_pos h] at h1
    simp (disch:=first|omega|simp<;>omega|fail)[prime_IsPrime_l0,e1,g',hd0,hd0',Int.tmod_eq_emod_of_nonneg,e2,h',h]
    exact h1 rfl
   ·have h':¬ (m:Int)=0:=by omega
    rw [if_neg h] at h0 h1
    have:=ih h0 h1
    simp (disch:=first|omega|simp<;>omega|fail)[prime_IsPrime_l0,e1,g',hd0,hd0',Int.tmod_eq_emod_of_nonneg,e2,h',h]
    simpa using this
  ·have g':¬ (s:Int)≤(n:Int):=by omega
   rw [if_neg g] at h0
   simp (disch:=first|omega|simp<;>omega|fail)[prime_IsPrime_l0,e1,g']
   exact h0 rfl
theorem isPrimeP_ok (n:Int):CP Y F.prime_IsPrime [I n] (B (primeB n)):=by
 refine prime_IsPrime_i ?_
 by_cases h1:n < 2
 ·simp (disch:=first|omega|simp<;>omega|fail)[prime_IsPrime,h1] <;> exact out_b (by simp [primeB]; omega)
 by_cases h2:97 < n
 ·simp (disch:=first|omega|simp<;>omega|fail)[prime_IsPrime,h1,h2] <;> exact out_b (by simp [primeB]; omega)
 obtain ⟨m,rfl⟩:∃ m:Nat,n=m:=⟨n.toNat,by omega⟩
 have ha:=sq_all ⟨m,by omega⟩ (by simp; omega)
 simp only at ha
 simp (disch:=first|omega|simp<;>omega|fail)[prime_IsPrime,h1,h2]
 refine lo (sq_loop m (by omega) _ 10 2 (by omega) rfl (fun e=>?_) (fun e=>?_))
 ·simp only [exK_exit]
  exact out_b (by rw [← ha,e])
 ·simp only [exK_ret2,exK_ret]
  exact out_b (by rw [← ha,e])
def prevOk (prev:Option Int) (x:Int):Bool:=match prev with | some y=>decide (y < x) | none=>true
def pcGo:Option Int→List Int→Int
 | _,[]=>0
 | prev,x :: q=>cond (primeB x) (cond (prevOk prev x) (pcGo (some x) q) 6) 25
theorem pcGo_zero:∀ (q:List Int) (prev:Option Int),decide (pcGo prev q=0)=incGo prev q
 | [],_=>by simp [pcGo,incGo]
 | x :: q,prev=>by
  have e:incGo prev (x :: q)=(primeB x && prevOk prev x && incGo (some x) q):=by cases prev <;> rfl
  rw [e]
  cases h1:primeB x with
  | false=>simp only [pcGo,h1,cond_false,Bool.false_and]; rfl
  | true =>
   cases h2:prevOk prev x with
   | false=>simp only [pcGo,h1,h2,cond_true,cond_false,Bool.true_and,Bool.false_and]; rfl
   | true =>
    simp only [pcGo,h1,h2,cond_true,Bool.true_and]
    exact pcGo_zero q (some x)
theorem pc_loop (k:KL):∀ (q a:List Int),(a++q).length < 1000000000→(pcGo a.getLast? q=0→k (.exit 1) [] [])→(pcGo a.getLast? q≠0→k .ret [I (pcGo a.getLast? q)] []) →
  lp (prime_Check_l0 (CX Y) (lst di (a++q)) (lst di (a++q)) (I (a++q).length)) [] [] [I a.length] [] k
 | []=>by
  intro a hN h0 h1
  refine lp_in ?_
  simp (disch:=first|omega|simp<;>omega|fail)[prime_Check_l0]
  exact h0 rfl
 | x :: q=>by
  intro a hN h0 h1
  simp at hN
  have ih:=pc_loop k q (a++[x]) (by simp; omega)
  rw [List.getLast?_concat] at ih
  refine lp_in ?_
  simp (disch:=first|omega|simp<;>omega|fail)[prime_Check_l0]
  refine cd (isPrimeP_ok x) ?_
  by_cases hp:primeB x=true
  ·rcases List.eq_nil_or_concat a with rfl | ⟨b,y,rfl⟩
   ·simp only [pcGo,hp,List.getLast?_nil,prevOk,cond_true] at h0 h1
    simp (disch:=first|omega|simp<;>omega|fail)[hp]
    have:=ih h0 h1
    simpa using this
   ·rw [List.concat_eq_append] at *
    have hny:nth 0 (b++[y]++x :: q) b.length=y:=by rw [List.append_assoc]; simp
    rw [List.getLast?_concat] at h0 h1
    simp only [pcGo,hp,prevOk,cond_true] at h0 h1
    have eI:∀ h:Hp,ixV h 1 (lst di (b++[y]++x :: q)) (.d (.int .i64 (b.length:Int)))=some (.dptr ((b++[y]++x :: q).map di) b.length):=fun h=>ix_lst di _ h rfl (by simp)
    have eL:∀ h:Hp,ld1 h (.dptr ((b++[y]++x :: q).map di) b.length)=some (.d (di y)):=fun h=>by
     have:=ld_row (b++[y]++x :: q) h (j:=b.length) (by simp)
     rw [hny] at this
     exact this
    have hA:b++[y]++[x]++q=b++[y]++x :: q:=by simp
    have hn:(b++[y]).length=b.length+1:=by simp
    have hn2:(b++[y]++[x]).length=b.length+1+1:=by simp
    rw [hA,hn2] at ih
    rw [hn] at hN ⊢
    generalize b++[y]++x :: q=A at *
    generalize b.length=m at *
    have e':((m+1:Nat):Int) - 1=(m:Int):=by omega
    have hl0:(0:Int) < ((m+1:Nat):Int):=by omega
    obtain ⟨m1,hm1⟩:∃ m1,m1=m+1:=⟨_,rfl⟩
    rw [← hm1] at e' hl0 ih ⊢
    by_cases hyx:y < x
    ·have g1:¬ x≤y:=by omega
     rw [show decide (y < x)=true by simpa using hyx] at h0 h1
     simp only [cond_true] at h0 h1
     have:=ih h0 h1
     simp (disch:=first|omega|simp<;>omega|fail)[hp,e',hl0,eI,eL,g1]
     simpa using this
    ·have g1:x≤y:=by omega
     rw [show decide (y < x)=false by simpa using hyx] at h1
     simp only [cond_false] at h1
     simp (disch:=first|omega|simp<;>omega|fail)[hp,e',hl0,eI,eL,g1]
     simpa using h1
  ·have hpf:primeB x=false:=by simpa using hp
   simp only [pcGo,hpf,cond_false] at h1
   simp (disch:=first|omega|simp<;>omega|fail)[hpf]
   simpa using h1
def pcB (p:List Int):Int:=if p.length=0 then 13 else if 6 < p.length then 4 else pcGo none p
theorem pcB_zero (p:List Int):decide (pcB p=0)=primesB p:=by
 unfold pcB primesB
 by_cases h1:p.length=0
 ·simp [h1]
 ·by_cases h2:6 < p.length
  ·have:¬ p.length≤6:=by omega
   simp [h1,h2,this]
  ·rw [if_neg h1,if_neg h2,pcGo_zero]
   have h3:0 < p.length:=by omega
   have h4:p.length≤6:=by omega
   simp [h3,h4]
theorem primeCheck_ok {p:List Int} (hN:p.length < 1000000000):CP Y F.prime_Check [lst di p] (I (pcB p)):=by
 refine prime_Check_i ?_
 have lp':lenV (lst di p)=some (I p.length):=rfl
 by_cases h1:(p.length:Int)=0
 ·have e:pcB p=13:=by unfold pcB; exact if_pos (by omega)
  have hnil:p=[]:=List.length_eq_zero_iff.1 (by omega)
  rw [e]
  subst hnil
  simp (disch:=first|omega|simp<;>omega|fail)[prime_Check] <;> exact out_i rfl
 have h1':¬ p.length=0:=by omega
 have hne:¬ p=[]:=fun e=>h1' (by rw [e]; rfl)
 by_cases h2:(6:Int) < p.length
 ·have e:pcB p=4:=by unfold pcB; exact (if_neg h1').trans (if_pos (by omega))
  rw [e]
  simp (disch:=first|omega|simp<;>omega|fail)[prime_Check,lp',h1,h2,hne] <;> exact out_i rfl
 have e:pcB p=pcGo none p:=by unfold pcB; exact (if_neg h1').trans (if_neg (by omega))
 unfold prime_Check
 rw [e]
 have main:=pc_loop (exK [((.exit 1),fun l6 h=>out (I (pcGo none p)) (.d (.int .i64 0)) h),(.ret,fun l6 h=>out (I (pcGo none p)) (ge l6 0) h)]) p [] (by simpa using hN) (fun g=>by
  simp only [List.getLast?_nil] at g
  simp only [exK_exit]
  exact out_i g.symm) (fun g=>by
  simp only [List.getLast?_nil] at g ⊢
  simp only [exK_ret2,exK_ret]
  exact out_i rfl)
 simp (disch:=first|omega|simp<;>omega|fail)[lp',h1,h2,hne]
 exact main
end Go.Vm
