/- ref03.minus. -/
import Derived.Test.YtaiahkcmdnaooaaGreatDoorQRefNat
namespace Go.Vm
open Go Go.Am Go.Big
def aN:Nat->Nat->List Nat
 | 0,_=>[]
 | w+1,n=>n % Z :: aN w (n / Z)
theorem bK:∀ w n,(aN w n).length=w
 | 0,_=>rfl
 | w+1,n=>by simp [aN,bK w]
theorem pq:∀ w n,au Z (aN w n)
 | 0,_=>fun x hx=>by simp [aN] at hx
 | w+1,n=>fun x hx=>by
  simp only [aN,Zt] at hx;rcases hx with rfl | hx
  ·exact Yz _ aR
  ·exact pq w _ x hx
theorem qK:∀ w n,n < Z ^ w->val Z (aN w n)=n
 | 0,n,h=>by simp at h;subst h;rfl
 | w+1,n,h=>by
  have hZ:Z=1000000000:=rfl;simp only [aN,val];rw [qK w (n / Z) (Yk (by rw [Nat.pow_succ,Zy] at h;exact h))];have:=Xp n Z;omega
theorem xi:∀ l:List Nat,au Z l->l=aN l.length (val Z l)
 | [],_=>rfl
 | x :: l,h=>by
  have hx:x < Z:=h x (by simp);have hl:=xi l (fun y hy=>h y (by simp [hy]));have hZ:Z=1000000000:=rfl;simp only [List.length_cons,aN,val];have e1:(x+Z * val Z l) % Z=x:=by rw [X3];exact Yh hx
  have e2:(x+Z * val Z l) / Z=val Z l:=by rw [Yt _ _ aR,Xc hx,Zk]
  rw [e1,e2,<- hl]
end Go.Vm
