/- ref03.minus. -/
import Derived.Test.YtaiahkcmdnaooaaGreatDoorQRefNat
set_option linter.unusedVariables false
set_option linter.unusedSimpArgs false
namespace Go.Vm
open Go Go.Am Go.Big
def aY:Nat->Nat->List Nat
 | 0,_=>[]
 | w+1,n=>n % Z::aY w (n / Z)
theorem cg:∀ w n,(aY w n).length=w
 | 0,_=>rfl
 | w+1,n=>by simp [aY,cg w]
theorem rX:∀ w n,aE Z (aY w n)
 | 0,_=>fun x hx=>by simp [aY] at hx
 | w+1,n=>fun x hx=>by
  simp only [aY,Zr] at hx;rcases hx with rfl | hx
  ·exact Yw _ bf
  ·exact rX w _ x hx
theorem tZ:∀ w n,n<Z ^ w->val Z (aY w n)=n
 | 0,n,h=>by simp at h;subst h;rfl
 | w+1,n,h=>by
  have hZ:Z=1000000000:=rfl;simp only [aY,val];rw [tZ w (n / Z) (Yf (by rw [Nat.pow_succ,Zy] at h;exact h))];have:=Xh n Z;omega
theorem Ae:∀ l:List Nat,aE Z l->l=aY l.length (val Z l)
 | [],_=>rfl
 | x::l,h=>by
  have hx:x<Z:=h x af;have hl:=Ae l (fun y hy=>h y (by simp [hy]));have hZ:Z=1000000000:=rfl;simp only [List.length_cons,aY,val];have e1:(x+Z*val Z l) % Z=x:=by rw [Xt];exact Yb hx
  have e2:(x+Z*val Z l) / Z=val Z l:=by rw [Yl _ _ bf,Ww hx,Zh]
  rw [e1,e2,<- hl]
end Go.Vm
