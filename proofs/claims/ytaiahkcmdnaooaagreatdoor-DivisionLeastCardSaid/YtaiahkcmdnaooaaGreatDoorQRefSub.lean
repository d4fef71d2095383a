/- ref03.minus. -/
import Derived.Test.YtaiahkcmdnaooaaGreatDoorQRefNat
namespace Go.Vm
open Go Go.Am Go.Big
def aY:Nat->Nat->List Nat
 | 0,_=>[]
 | w+1,n=>n % Z::aY w (n / Z)
theorem b6:∀ w n,(aY w n).length=w
 | 0,_=>rfl
 | w+1,n=>by simp [aY,b6 w]
theorem qx:∀ w n,aF Z (aY w n)
 | 0,_=>fun x hx=>by simp [aY] at hx
 | w+1,n=>fun x hx=>by
  simp only [aY,Zt] at hx;rcases hx with rfl | hx
  ·exact Yt _ bf
  ·exact qx w _ x hx
theorem sH:∀ w n,n<Z ^ w->val Z (aY w n)=n
 | 0,n,h=>by simp at h;subst h;rfl
 | w+1,n,h=>by
  have hZ:Z=1000000000:=rfl;simp only [aY,val];rw [sH w (n / Z) (Ye (by rw [Nat.pow_succ,Zw] at h;exact h))];have:=Xj n Z;omega
theorem yW:∀ l:List Nat,aF Z l->l=aY l.length (val Z l)
 | [],_=>rfl
 | x::l,h=>by
  have hx:x<Z:=h x af;have hl:=yW l (fun y hy=>h y (by simp [hy]));have hZ:Z=1000000000:=rfl;simp only [List.length_cons,aY,val];have e1:(x+Z*val Z l) % Z=x:=by rw [Xs];exact Yb hx
  have e2:(x+Z*val Z l) / Z=val Z l:=by rw [Yk _ _ bf,Wy hx,Zm]
  rw [e1,e2,<- hl]
end Go.Vm
