/- ref03.trim. -/
import Derived.Test.YtbdajblfnkoagaaGreatDoorQRefSub
import Derived.Test.YtbdajblfnkoagaaGreatDoorQStr
set_option linter.unusedVariables false
set_option linter.unusedSimpArgs false
namespace Go.Vm
open Go Go.Am Go.Big
theorem st_lst (a c:V) (b1:Nat × Bk) (l:List Nat):st [(1,.vars [a,c]),b1] 1 (.ptr 0 1 1 2) (lst i9 l)=some [(1,.vars [a,lst i9 l]),b1]:=by
 simp [st,sto,lst,hget,hset,okV]
theorem trim9_loop (k:KL) (h0:Hp) (hh:h0.length=2) (s:D) (b1:Nat × Bk):∀ (n:Nat) (l:List Nat),l.length=n→n < 1000000000 →
  (k (.exit 0) [] [(1,.vars [.d s,lst i9 (trimL l)]),b1]) →
  lp (schismaref03_trim_l0 (CX Y) (.ptr 0 1 0 2)) [] h0 [] [(1,.vars [.d s,lst i9 l]),b1] k:=by
 intro n
 induction n with
 | zero =>
  intro l hl hn hk
  have:l=[]:=List.eq_nil_of_length_eq_zero hl
  subst this
  refine lp_in ?_
  simp (disch:=first|omega|simp<;>omega|fail)[schismaref03_trim_l0]
  exact hk
 | succ n ih =>
  intro l hl hn hk
  obtain ⟨l,x,rfl⟩:∃ l' x,l=l'++[x]:=⟨l.dropLast,l.getLast (by intro e; simp [e] at hl),(List.dropLast_concat_getLast _).symm⟩
  have hl2:l.length=n:=by simpa using hl
  refine lp_in ?_
  simp (disch:=first|omega|simp<;>omega|fail)[schismaref03_trim_l0]
  by_cases hx:x=0
  ·subst hx
   rw [trimL_snoc_zero] at hk
   simp (disch:=first|omega|simp<;>omega|fail)[i9,hh]
   rw [st_lst]
   simp (disch:=first|omega|simp<;>omega|fail)[hh]
   exact ih l hl2 (by omega) hk
  ·rw [trimL_snoc hx] at hk
   simp (disch:=first|omega|simp<;>omega|fail)[i9,show ¬ (x:Int)=0 by omega]
   exact hk
def wh (s:Bool) (n:Nat):V:=.agg [.d (.bool s),nat9 n]
theorem out_wh (s:Bool) (n:Nat) (h:Hp):out (wh s n) (.agg [.d (.bool s),lst i9 (dig Z n)]) h:=by
 refine ⟨h,?_⟩
 unfold wh nat9
 simp [snap,snaps]
theorem trim9_ok {s:Bool} {l:List Nat} (hl:Small Z l) (hn:l.length < 1000000000):CP Y F.schismaref03_trim [.agg [.d (.bool s),lst i9 l]] (wh (s && decide (0 < val Z l)) (val Z l)):=by
 refine schismaref03_trim_i ?_
 simp (disch:=first|omega|simp<;>omega|fail)[schismaref03_trim]
 refine lo (trim9_loop _ _ rfl (.bool s) _ l.length l rfl hn ?_)
 have ht:lst i9 (trimL l)=nat9 (val Z l):=by rw [nat9,dig_val two_le_Z hl]
 rw [ht]
 have hp:(0 < (dig Z (val Z l)).length)↔(0 < val Z l):=by
  have:=dig_eq_nil two_le_Z (n:=val Z l)
  rw [List.length_pos_iff,ne_eq,this]
  omega
 have ho:∀ f:List Nat,okV (lst i9 f)=true:=fun _=>rfl
 generalize hD:dig Z (val Z l)=d9 at *
 cases s
 ·simp (disch:=first|omega|simp<;>omega|fail)[nat9,hD,ho]
  subst hD
  exact out_wh _ _ _
 ·simp (disch:=first|omega|simp<;>omega|fail)[nat9,hD,ho]
  subst hD
  simp only [hp]
  exact out_wh _ _ _
end Go.Vm
namespace Go.Vm
open Go Go.Am Go.Big
end Go.Vm
namespace Go.Vm
open Go Go.Am Go.Big
theorem okV9 (n:Nat):okV (nat9 n)=true:=rfl
theorem trim9_fix (s:Bool) {w n:Nat} (hw:w < 1000000000) (hn:n < Z ^ w):CP Y F.schismaref03_trim [.agg [.d (.bool s),lst i9 (fixZ w n)]] (wh (s && decide (0 < n)) n):=by
 have:=trim9_ok (s:=s) (fixZ_small w n) (by rw [fixZ_len]; exact hw)
 rwa [fixZ_val w n hn] at this
end Go.Vm
namespace Go.Vm
open Go Go.Am Go.Big
theorem signW_ok {s:Bool} {n:Nat} (hn:len9 n < 1000000000):CP Y F.schismaref03_SignW [wh s n] (I (if n=0 then 0 else if s then -1 else 1)):=by
 refine schismaref03_SignW_i ?_
 have hz:=dig_eq_nil two_le_Z (n:=n)
 by_cases h:n=0
 ·subst h
  simp (disch:=first|omega|simp<;>omega|fail)[schismaref03_SignW,wh,nat9,dig_zero]
 ·have hl:¬ (dig Z n).length=0:=fun e=>h (hz.1 (List.eq_nil_of_length_eq_zero e))
  cases s
  ·simp (disch:=first|omega|simp<;>omega|fail)[schismaref03_SignW,wh,nat9,h,hl]
  ·simp (disch:=first|omega|simp<;>omega|fail)[schismaref03_SignW,wh,nat9,h,hl]
end Go.Vm
namespace Go.Vm
open Go Go.Am Go.Big
def intW (z:Int):V:=wh (decide (z < 0)) z.natAbs
theorem wh_eq {s t:Bool} {n m:Nat} (h1:s=t) (h2:n=m):wh s n=wh t m:=by rw [h1,h2]
end Go.Vm
namespace Go.Vm
open Go Go.Am Go.Big
theorem refInt_ok {z:Int} (h1 : -9223372036854775808 < z) (h2:z < 9223372036854775808):CP Y F.schismaref03_Int [I z] (S (itoa z)):=by
 refine schismaref03_Int_i ?_
 simp (disch:=first|omega|simp<;>omega|fail)[schismaref03_Int]
 refine cd (itoa_ok h1 h2) ?_
 exact out_s rfl
end Go.Vm
