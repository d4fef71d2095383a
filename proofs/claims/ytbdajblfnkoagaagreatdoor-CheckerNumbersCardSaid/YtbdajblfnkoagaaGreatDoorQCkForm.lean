/- Normal forms, by the checker. -/
import Derived.Test.YtbdajblfnkoagaaGreatDoorQCkMat
set_option linter.unusedVariables false
set_option linter.unusedSimpArgs false
namespace Go.Vm
open Go Go.Am Go.Big
def piv (r:List Int):Int:=idx (fun n=>n != 0) r
theorem pivotF_ok (n:Int):CP Y F.checker_pivot_F1 [I n] (B (n != 0)):=by
 refine checker_pivot_F1_i ?_
 simp (disch:=first|omega|simp<;>omega|fail)[checker_pivot_F1]
 exact out_b (by rw [Bool.eq_iff_iff]; simp)
theorem pivot_ok {r:List Int} (hr:r.length < 4611686018427387904):CP Y F.checker_pivot [lst di r] (I (piv r)):=by
 refine checker_pivot_i ?_
 simp (disch:=first|omega|simp<;>omega|fail)[checker_pivot]
 refine cd (indexRow_ok r hr fun n _=>pivotF_ok n) ?_
 exact out_i rfl
theorem piv_lt (r:List Int) : -1≤piv r∧piv r < r.length:=by
 unfold piv idx
 cases h:r.findIdx? (fun n=>n != 0) with
 | none=>simp; omega
 | some i=>have:=(List.findIdx?_eq_some_iff_getElem.1 h).1; simp; omega
def upOk (p:Nat) (r:List Int) (done:List (List Int)):Bool:=done.all fun o=>!(decide (nth 0 o p < 0) || decide (nth 0 r p≤nth 0 o p))
def formGo:Int→List (List Int)→List (List Int)→Bool
 | _,_,[]=>true
 | before,done,r :: q=>if piv r≤before∨nth 0 r (piv r).toNat≤0 then false else if upOk (piv r).toNat r done=true then formGo (piv r) (done++[r]) q else false
theorem up_loop (p:Nat) (r:List Int) (hp:p < r.length) (k:KL):∀ (q:List (List Int)),∀ a:List (List Int),(a++q).length≤1000→(∀ o ∈ q,p < o.length) →
  (upOk p r q=true→k (.exit 2) [] [])→(upOk p r q=false→k .ret [B false] []) →
  lp (checker_Form_l1 (CX Y) (lst di r) (I p) (lst row (a++q)) (I (a++q).length)) [] [] [I a.length] [] k
 | []=>by
  intro a hN hq h0 h1
  refine lp_in ?_
  simp (disch:=first|omega|simp<;>omega|fail)[checker_Form_l1]
  exact h0 rfl
 | o :: q=>by
  intro a hN hq h0 h1
  simp at hN hq
  refine lp_in ?_
  simp (disch:=first|omega|simp<;>omega|fail)[checker_Form_l1]
  refine br_in (fun h=>?_) (fun h=>?_) <;> try simp (disch:=first|omega|simp<;>omega|fail)[h]
  ·refine br_in (fun h2=>?_) (fun h2=>?_) <;> try simp (disch:=first|omega|simp<;>omega|fail)[h2]
   ·exact h1 (by simp [upOk,h2])
   ·have:=up_loop p r hp k q (a++[o]) (by simp; omega) hq.2 (fun g=>h0 ?_) (fun g=>h1 ?_)
    ·simpa using this
    ·simp [upOk] at g ⊢; exact ⟨⟨by omega,by omega⟩,g⟩
    ·simp only [upOk,List.all_cons,Bool.and_eq_false_iff]; right; simpa [upOk] using g
  ·exact h1 (by simp [upOk]; omega)
theorem form_loop (k:KL):∀ (q:List (List Int)),∀ (a:List (List Int)) (before:Int),-1≤before→(a++q).length≤1000→(∀ r ∈ a++q,∀ s ∈ a++q,r.length=s.length)→(∀ r ∈ q,r.length < 1000) →
  (formGo before a q=true→k (.exit 0) [] [])→(formGo before a q=false→k .ret [B false] []) →
  lp (checker_Form_l0 (CX Y) (lst row (a++q)) (lst row (a++q)) (I (a++q).length)) [] [] [I before,I a.length] [] k
 | []=>by
  intro a before hb hN hl hs h0 h1
  refine lp_in ?_
  simp (disch:=first|omega|simp<;>omega|fail)[checker_Form_l0]
  exact h0 rfl
 | r :: q=>by
  intro a before hb hN hl hs h0 h1
  simp at hN hs
  have hp:=piv_lt r
  refine lp_in ?_
  simp (disch:=first|omega|simp<;>omega|fail)[checker_Form_l0]
  refine cd (pivot_ok (r:=r) (by omega)) ?_
  simp only [formGo] at h0 h1
  by_cases hb1:piv r≤before
  ·simp (disch:=first|omega|simp<;>omega|fail)[hb1]
   exact h1 (by simp [hb1])
  ·obtain ⟨p,hpp⟩:∃ p:Nat,piv r=p:=⟨(piv r).toNat,by omega⟩
   have hpr:p < r.length:=by omega
   rw [hpp] at h0 h1 hb1 ⊢
   by_cases h:nth 0 r p≤0
   ·simp (disch:=first|omega|simp<;>omega|fail)[hb1,h]
    exact h1 (by simp [h])
   ·simp (disch:=first|omega|simp<;>omega|fail)[hb1,h]
    refine lo (up_loop p r hpr _ a [] (by simp; omega) (fun o ho=>?_) (fun g=>?_) (fun g=>?_))
    ·have:=hl r (by simp) o (by simp [ho]); omega
    ·simp (disch:=first|omega|simp<;>omega|fail)[]
     have:=form_loop k q (a++[r]) p (by omega) (by simp; omega) (by simpa using hl) hs.2 (fun e=>h0 ?_) (fun e=>h1 ?_)
     ·simpa using this
     ·simp [hb1,g,h]; exact e
     ·simp [g]; intro _ _; exact e
    ·simp (disch:=first|omega|simp<;>omega|fail)[]
     exact h1 (by simp [g])
def formI (m:List (List Int)):Bool:=okMat m && formGo (-1) [] m
theorem form_ok {m:List (List Int)} (hN:m.length < 4611686018427387904) (hr:∀ r ∈ m,r.length < 4611686018427387904):CP Y F.checker_Form [mat m] (B (formI m)):=by
 refine checker_Form_i ?_
 simp (disch:=first|omega|simp<;>omega|fail)[checker_Form]
 refine cd (matrix_ok m hN hr) ?_
 by_cases h:okMat m=true
 ·simp (disch:=first|omega|simp<;>omega|fail)[h]
  have hl:m.length≤12:=by simp only [okMat,Bool.and_eq_true,decide_eq_true_eq] at h; exact h.1
  refine lo (form_loop _ m [] (-1) (by omega) (by simp; omega) (fun r hr s hs=>?_) (fun r hr=>?_) (fun g=>?_) (fun g=>?_))
  ·rw [(okMat_row h r hr).1,(okMat_row h s hs).1]
  ·have:=(okMat_row h r hr).2.1; omega
  ·simp (disch:=first|omega|simp<;>omega|fail)[]
   exact out_b (by simp [formI,h,g])
  ·simp (disch:=first|omega|simp<;>omega|fail)[]
   exact out_b (by simp [formI,h,g])
 ·simp (disch:=first|omega|simp<;>omega|fail)[h]
  exact out_b (by simp [formI,h])
end Go.Vm
