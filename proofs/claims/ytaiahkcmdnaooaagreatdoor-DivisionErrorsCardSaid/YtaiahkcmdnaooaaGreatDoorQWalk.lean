/- More lemmas for walking. -/
import Derived.Test.YtaiahkcmdnaooaaGreatDoorQVmSx
set_option linter.unusedVariables false
set_option linter.unusedSimpArgs false
namespace Go.Vm
open Go Go.Am
theorem zz (z:D):∀ n,iS n [z]=List.replicate n z
 | 0=>rfl
 | n+1=>by simp [iS,zz z n,List.replicate_succ]
@[simp] theorem XK (s by_:Nat) (z:D) (h:Hp) (i:Int) (k:V->Hp->Prop) (u:PU k) (h0:0<=i) (hb:by_*i<=281474976710656) (h1:i<=9223372036854775807) :
  rh (mkS s by_ [z] h (.d (.int .i64 i)) (.d (.int .i64 i))) k u=rn (bnh h[s]?) (fun y=>k (.ref s (y.1+1) 0 i.toNat i.toNat i.toNat) (h.set s (y.1+1,.data 1 (List.replicate i.toNat z) true false))) .mk:=by
 unfold rh rn;simp only [mkS];rw [if_pos ⟨h0,Int.le_refl _,af,hb,h1⟩,yv];simp only [zz,Y8,List.length_singleton]
@[simp] theorem VU (s e off len cap tot:Nat):bq (.ref s e off len cap tot)=some (.d (.int .i64 (len:Int))):=id rfl
theorem kg {T:(V->Hp->Prop)->Prop} {k:V->Hp->Prop} {u:PU k} (h:T k):rh T k u:=h
theorem cdz {C:nr} {h h':Hp} {f:FuncId} {args ds:List V} {v:V} {k:V->Hp->Prop} {u:PU k} (hs:aH h args=some (ds,h')) (hc:C f ds v) (hk:k v (if gP v then h else h')):rh (cal C h (.fn f [] []) args) k u:=
 IK hs hc hk
section
variable {α:Type} {f:α->D} {o:List α} {h:Hp} {s e n:Nat} {ex fr:Bool}
end
theorem HO (clr:List Nat) (i:Nat) (x0 x:Nat × Bk) (h0 h:Hp):aK clr i (x0::h0) (x::h)=(if ek clr i=true then x else (x0.1,.none))::aK clr (i+1) h0 h:=by
 cases x0;cases x;rfl
theorem Lk (clr:List Nat) (i:Nat) (x:Nat × Bk) (h:Hp):oh clr i (x::h)=((!ek clr i || offB clr x.2) && oh clr (i+1) h):=by
 cases x;rfl
theorem Ll (s:Nat):ek [] s=true:=rfl
theorem H5 (t:Nat) (l:List Nat) (s:Nat):ek (t::l) s=(!(Nat.beq t s) && ek l s):=rfl
theorem beq_lit (a b:Nat):Nat.beq a b=decide (a=b):=by
 by_cases h:a=b
 ·subst h;simp [Yb]
 ·rw [decide_eq_false h];cases hb:Nat.beq a b with
  | false=>rfl
  | true=>exact absurd (Zo hb) h
end Go.Vm
