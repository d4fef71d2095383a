/- ref03.minus. -/
import Derived.Test.YtaiahkcmdnaooaaGreatDoorQRefNat
namespace Go.Vm
open Go Go.Am Go.Big
def aO:Nat->Nat->List Nat
 | 0,_=>[]
 | w+1,n=>n % Z::aO w (n / Z)
theorem bJ:∀ w n,(aO w n).length=w
 | 0,_=>rfl
 | w+1,n=>by simp [aO,bJ w]
theorem pr:∀ w n,au Z (aO w n)
 | 0,_=>fun x hx=>by simp [aO] at hx
 | w+1,n=>fun x hx=>by
  simp only [aO,Zt] at hx;rcases hx with rfl | hx
  ·exact Y8 _ aS
  ·exact pr w _ x hx
theorem qP:∀ w n,n<Z ^ w->val Z (aO w n)=n
 | 0,n,h=>by simp at h;subst h;rfl
 | w+1,n,h=>by
  have hZ:Z=1000000000:=rfl;simp only [aO,val];rw [qP w (n / Z) (Yk (by rw [Nat.pow_succ,Zy] at h;exact h))];have:=Xp n Z;omega
theorem xo:∀ l:List Nat,au Z l->l=aO l.length (val Z l)
 | [],_=>rfl
 | x::l,h=>by
  have hx:x<Z:=h x (by simp);have hl:=xo l (fun y hy=>h y (by simp [hy]));have hZ:Z=1000000000:=rfl;simp only [List.length_cons,aO,val];have e1:(x+Z*val Z l) % Z=x:=by rw [X0];exact Yh hx
  have e2:(x+Z*val Z l) / Z=val Z l:=by rw [Yt _ _ aS,Xc hx,Zk]
  rw [e1,e2,<- hl]
end Go.Vm
