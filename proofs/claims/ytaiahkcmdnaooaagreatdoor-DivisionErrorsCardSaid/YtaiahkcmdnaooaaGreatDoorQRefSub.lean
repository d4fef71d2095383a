/- ref03.minus. -/
import Derived.Test.YtaiahkcmdnaooaaGreatDoorQRefNat
set_option linter.unusedVariables false
set_option linter.unusedSimpArgs false
namespace Go.Vm
open Go Go.Am Go.Big
def aY:Nat->Nat->List Nat
 | 0,_=>[]
 | w+1,n=>n % Z::aY w (n / Z)
theorem cr:∀ w n,(aY w n).length=w
 | 0,_=>rfl
 | w+1,n=>by simp [aY,cr w]
theorem qn:∀ w n,aD Z (aY w n)
 | 0,_=>fun x hx=>by simp [aY] at hx
 | w+1,n=>fun x hx=>by
  simp only [aY,Zr] at hx;rcases hx with rfl | hx
  ·exact Y3 _ bg
  ·exact qn w _ x hx
theorem rU:∀ w n,n<Z ^ w->val Z (aY w n)=n
 | 0,n,h=>by simp at h;subst h;rfl
 | w+1,n,h=>by
  have hZ:Z=1000000000:=rfl;simp only [aY,val];rw [rU w (n / Z) (Xa (by rw [Nat.pow_succ,Zx] at h;exact h))];have:=X3 n Z;omega
theorem yB:∀ l:List Nat,aD Z l->l=aY l.length (val Z l)
 | [],_=>rfl
 | x::l,h=>by
  have hx:x<Z:=h x af;have hl:=yB l (fun y hy=>h y (by simp [hy]));have hZ:Z=1000000000:=rfl;simp only [List.length_cons,aY,val];have e1:(x+Z*val Z l) % Z=x:=by rw [Yf];exact Yp hx
  have e2:(x+Z*val Z l) / Z=val Z l:=by rw [Yx _ _ bg,Xm hx,Zj]
  rw [e1,e2,<- hl]
end Go.Vm
