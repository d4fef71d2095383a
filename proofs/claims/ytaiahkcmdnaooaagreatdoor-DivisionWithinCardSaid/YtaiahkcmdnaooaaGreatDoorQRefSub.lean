/- ref03.minus. -/
import Derived.Test.YtaiahkcmdnaooaaGreatDoorQRefNat
set_option linter.unusedVariables false
set_option linter.unusedSimpArgs false
namespace Go.Vm
open Go Go.Am Go.Big
def bh:Nat->Nat->List Nat
 | 0,_=>[]
 | w+1,n=>n % Z::bh w (n / Z)
theorem cI:∀ w n,(bh w n).length=w
 | 0,_=>rfl
 | w+1,n=>by simp [bh,cI w]
theorem tI:∀ w n,aH Z (bh w n)
 | 0,_=>fun x hx=>by simp [bh] at hx
 | w+1,n=>fun x hx=>by
  simp only [bh,Zt] at hx;rcases hx with rfl | hx
  ·exact Yw _ bp
  ·exact tI w _ x hx
theorem u5:∀ w n,n<Z ^ w->val Z (bh w n)=n
 | 0,n,h=>by simp at h;subst h;rfl
 | w+1,n,h=>by
  have hZ:Z=1000000000:=rfl;simp only [bh,val];rw [u5 w (n / Z) (Yj (by rw [Nat.pow_succ,Zy] at h;exact h))];have:=Xp n Z;omega
theorem Bw:∀ l:List Nat,aH Z l->l=bh l.length (val Z l)
 | [],_=>rfl
 | x::l,h=>by
  have hx:x<Z:=h x ag;have hl:=Bw l (fun y hy=>h y (by simp [hy]));have hZ:Z=1000000000:=rfl;simp only [List.length_cons,bh,val];have e1:(x+Z*val Z l) % Z=x:=by rw [Xz];exact Yf hx
  have e2:(x+Z*val Z l) / Z=val Z l:=by rw [Yn _ _ bp,Wz hx,Zg]
  rw [e1,e2,<- hl]
end Go.Vm
