/- More lemmas for walking. -/
import Derived.Test.YtaiahkcmdnaooaaGreatDoorQVmSx
namespace Go.Vm
open Go Go.Am
theorem x9 (z:D):∀ n,fW n [z]=List.replicate n z
 | 0=>rfl
 | n+1=>by simp [fW,x9 z n,List.replicate_succ]
@[simp] theorem Uz (s by_:Nat) (z:D) (h:Hp) (i:Int) (k:V->Hp->Prop) (u:PU k) (h0:0<=i) (hb:by_ * i<=281474976710656) (h1:i<=9223372036854775807) :
  rh (mkS s by_ [z] h (.d (.int .i64 i)) (.d (.int .i64 i))) k u=rn (bnh h[s]?) (fun y=>k (.ref s (y.1+1) 0 i.toNat i.toNat i.toNat) (h.set s (y.1+1,.data 1 (List.replicate i.toNat z) true false))) .mk:=by
 unfold rh rn;simp only [mkS];rw [if_pos ⟨h0,Int.le_refl _,by simp,hb,h1⟩,w8];simp only [x9,Y3,List.length_singleton]
@[simp] theorem TE (s e off len cap tot:Nat):am (.ref s e off len cap tot)=some (.d (.int .i64 (len:Int))):=id rfl
theorem jX {T:(V->Hp->Prop)->Prop} {k:V->Hp->Prop} {u:PU k} (h:T k):rh T k u:=h
theorem cdz {C:nE} {h h':Hp} {f:FuncId} {args ds:List V} {v:V} {k:V->Hp->Prop} {u:PU k} (hs:ae h args=some (ds,h')) (hc:C f ds v) (hk:k v (if fu v then h else h')):rh (cal C h (.fn f [] []) args) k u:=
 GX hs hc hk
section
variable {α:Type} {f:α->D} {o:List α} {h:Hp} {s e n:Nat} {ex fr:Bool}
end
theorem F6 (clr:List Nat) (i:Nat) (x0 x:Nat × Bk) (h0 h:Hp):ax clr i (x0 :: h0) (x :: h)=(if dd clr i=true then x else (x0.1,.none)) :: ax clr (i+1) h0 h:=by
 cases x0;cases x;rfl
theorem Jr (clr:List Nat) (i:Nat) (x:Nat × Bk) (h:Hp):nh clr i (x :: h)=((!dd clr i || offB clr x.2) && nh clr (i+1) h):=by
 cases x;rfl
theorem Js (s:Nat):dd [] s=true:=rfl
theorem Gk (t:Nat) (l:List Nat) (s:Nat):dd (t :: l) s=(!(Nat.beq t s) && dd l s):=rfl
theorem beq_lit (a b:Nat):Nat.beq a b=decide (a=b):=by
 by_cases h:a=b
 ·subst h;simp []
 ·rw [decide_eq_false h];cases hb:Nat.beq a b with
  | false=>rfl
  | true=>exact absurd (Zi hb) h
end Go.Vm
