/- More lemmas for walking. -/
import Derived.Test.YtbdajblfnkoagaaGreatDoorQVmSx
set_option linter.unusedVariables false
set_option linter.unusedSimpArgs false
namespace Go.Vm
open Go Go.Am
theorem repl_one (z:D):∀ n,repl n [z]=List.replicate n z
 | 0=>rfl
 | n+1=>by simp [repl,repl_one z n,List.replicate_succ]
@[simp] theorem rh_mk1 (s by_:Nat) (z:D) (h:Hp) (i:Int) (k:V→Hp→Prop) (u:PU k) (h0:0≤i) (hb:by_ * i≤281474976710656) (h1:i≤9223372036854775807) :
  rh (mkS s by_ [z] h (.d (.int .i64 i)) (.d (.int .i64 i))) k u=rn (bnh h[s]?) (fun y=>k (.ref s (y.1+1) 0 i.toNat i.toNat i.toNat) (h.set s (y.1+1,.data 1 (List.replicate i.toNat z) true false))) .mk:=by
 unfold rh rn
 simp only [mkS]
 rw [if_pos ⟨h0,Int.le_refl _,by simp,hb,h1⟩,new_bnh]
 simp only [repl_one,List.length_replicate,List.length_singleton]
@[simp] theorem lenV_rf (s e off len cap tot:Nat):lenV (.ref s e off len cap tot)=some (.d (.int .i64 (len:Int))):=id rfl
theorem out_sn {v r:V} {h:Hp} (e:snap h r=some (v,h)):out v r h:=⟨h,e⟩
theorem rh_in {T:(V→Hp→Prop)→Prop} {k:V→Hp→Prop} {u:PU k} (h:T k):rh T k u:=h
theorem cdz {C:Calls1} {h h':Hp} {f:FuncId} {args ds:List V} {v:V} {k:V→Hp→Prop} {u:PU k} (hs:snaps h args=some (ds,h')) (hc:C f ds v) (hk:k v (if plainV v then h else h')):rh (cal C h (.fn f [] []) args) k u :=
 cal_of hs hc hk
section
variable {α:Type} {f:α→D} {o:List α} {h:Hp} {s e n:Nat} {ex fr:Bool}
theorem ixB (hs:h[s]? = some (e,.data 1 (o.map f) ex fr)) (hn:o.length=n) {i:Nat} (hi:i < n) (k:IntKind):ixV h 1 (.ref s e 0 n n n) (.d (.int k (i:Int)))=some (.ptr s e i n):=by
 simp only [ixV,hget,hs,if_true]
 rw [if_pos ⟨by simp [hn],by omega,by omega⟩]
 simp
theorem ldB (d:α) (hs:h[s]? = some (e,.data 1 (o.map f) ex fr)) (hn:o.length=n) {i:Nat} (hi:i < n):ld1 h (.ptr s e i n)=some (.d (f (nth d o i))):=by
 have hi':i < o.length:=by omega
 rw [nth_eq d o i hi']
 simp only [ld1,hget,hs,if_true,List.length_map,hn,List.getElem?_map,List.getElem?_eq_getElem hi',Option.map_some]
theorem stB (hs:h[s]? = some (e,.data 1 (o.map f) ex false)) (hn:o.length=n) {i:Nat} (hi:i < n) {x:α} (hx:norm (f x)=f x):st h 1 (.ptr s e i n) (.d (f x))=some (h.set s (e,.data 1 ((o.set i x).map f) ex false)):=by
 have e1:(o.map f).take i++[f x]++(o.map f).drop (i+1)=(o.set i x).map f:=by
  rw [List.map_set,List.set_eq_take_append_cons_drop,if_pos (by simp; omega)]
  simp
 simp only [st,if_true,sto,hget,hs,toDs,toD,hx]
 rw [if_pos ⟨trivial,by simp [hn],by simp; omega⟩]
 simp only [hset,List.length_singleton,e1]
end
theorem reset_cons (clr:List Nat) (i:Nat) (x0 x:Nat × Bk) (h0 h:Hp):resetGo clr i (x0 :: h0) (x :: h)=(if notIn clr i=true then x else (x0.1,.none)) :: resetGo clr (i+1) h0 h:=by
 cases x0; cases x; rfl
theorem reset_end (clr:List Nat) (i:Nat) (h:Hp):resetGo clr i [] h=h:=by cases h <;> rfl
theorem offH_cons (clr:List Nat) (i:Nat) (x:Nat × Bk) (h:Hp):offH clr i (x :: h)=((!notIn clr i || offB clr x.2) && offH clr (i+1) h):=by
 cases x; rfl
theorem offS_acc (clr:List Nat) (a:Acc) (L:Nat) (c:List D) (h:notIn clr a.s=true):offS clr (a.v L c)=true:=by
 cases L with
 | zero=>rfl
 | succ n=>exact h
theorem offB_acc (clr:List Nat) (a:Acc) (L:Nat) (c:List D) (h:offB clr a.b0=true):offB clr (a.b L c).2=true:=by
 cases L with
 | zero=>exact h
 | succ n=>rfl
theorem offS_int (clr:List Nat) (x:D):offS clr (.d x)=true:=rfl
theorem offB_none (clr:List Nat):offB clr .none=true:=rfl
theorem notIn_nil (s:Nat):notIn [] s=true:=rfl
theorem notIn_cons (t:Nat) (l:List Nat) (s:Nat):notIn (t :: l) s=(!(Nat.beq t s) && notIn l s):=rfl
theorem beq_lit (a b:Nat):Nat.beq a b=decide (a=b):=by
 by_cases h:a=b
 ·subst h; simp [Nat.beq_refl]
 ·rw [decide_eq_false h]
  cases hb:Nat.beq a b with
  | false=>rfl
  | true=>exact absurd (Nat.eq_of_beq_eq_true hb) h
end Go.Vm
