/- Natural numbers to the base 10^9 of the reference: what its functions find. -/
import Derived.Test.YtbdajblfnkoagaaGreatDoorQCkForm
import Derived.Test.YtbdajblfnkoagaaGreatDoorQT
set_option linter.unusedVariables false
set_option linter.unusedSimpArgs false
namespace Go.Vm
open Go Go.Am Go.Big
def Z:Nat:=1000000000
theorem two_le_Z:2≤Z:=by decide
theorem Z_pos:0 < Z:=by decide
def i9 (n:Nat):D:=.int .i64 n
def nat9 (n:Nat):V:=lst i9 (dig Z n)
def len9 (n:Nat):Nat:=(dig Z n).length
theorem len9_le {n k:Nat} (h:n < Z ^ k):len9 n≤k:=(dig_len two_le_Z).2 h
theorem above_loop (a b:List Nat) (hab:a.length=b.length) (hs:a.length < 2 ^ 40) (k:KL):∀ i:Nat,i≤a.length→(ordL a b i=0→k (.exit 0) [] [])→(ordL a b i≠0→k .ret [I (ordL a b i)] []) →
  lp (schismaref03_above_l0 (CX Y) (lst i9 a) (lst i9 b)) [] [] [I ((i:Int) - 1)] [] k
 | 0,_,h0,_=>by
  refine lp_in ?_
  simp [schismaref03_above_l0]
  exact h0 rfl
 | i+1,hi,h0,h1=>by
  refine lp_in ?_
  have ha:i < a.length:=by omega
  have hb:i < b.length:=by omega
  have h40:(2:Nat) ^ 40=1099511627776:=by decide
  have e1:((i+1:Nat):Int) - 1=i:=by omega
  simp only [schismaref03_above_l0,e1,ge_zero,biI_geq,bnd_some,cnd_dec]
  rw [if_pos (by omega)]
  simp only [ix_lst i9 a [] rfl ha,ix_lst i9 b [] rfl hb,ld_lst i9 _ [] ha,ld_lst i9 _ [] hb,bnd_some,i9,biI_lss,biI_gtr,cnd_dec,Int.ofNat_lt]
  have ea:a.getD i 0=a[i]:=by simp [ha]
  have eb:b.getD i 0=b[i]:=by simp [hb]
  simp only [ordL,ea,eb] at h0 h1
  split
  ·rename_i hlt
   rw [if_pos hlt] at h1
   exact h1 (by decide)
  ·rename_i hlt
   rw [if_neg hlt] at h0 h1
   split
   ·rename_i hgt
    rw [if_pos hgt] at h1
    exact h1 (by decide)
   ·rename_i hgt
    rw [if_neg hgt] at h0 h1
    rw [sub64 (by omega)]
    simp only [bnd_some,lpK_normal,clean_nil,true_and]
    exact above_loop a b hab hs k i (by omega) h0 h1
theorem above_ok {a b:Nat} (ha:len9 a < 2 ^ 40) (hb:len9 b < 2 ^ 40):CP Y F.schismaref03_above [nat9 a,nat9 b] (I (cmp a b)):=by
 have h40:(2:Nat) ^ 40=1099511627776:=by decide
 refine schismaref03_above_i ?_
 simp only [schismaref03_above,List.replicate,nat9,lenV_lst,bnd_some,biI_neq,cnd_dec,biI_lss]
 by_cases hl:(dig Z a).length=(dig Z b).length
 ·rw [if_neg (by omega)]
  rw [sub64 (by unfold len9 at ha; omega)]
  simp only [bnd_some]
  have ho:=ordL_eq Z_pos (dig_small two_le_Z a) (dig_small two_le_Z b) (dig Z a).length (Nat.le_refl _) (by omega)
  rw [List.take_length,hl,List.take_length,val_dig two_le_Z,val_dig two_le_Z,← hl] at ho
  refine above_loop (dig Z a) (dig Z b) hl ha _ _ (Nat.le_refl _) (fun h0=>?_) (fun h0=>?_)
  ·simp only [exK_exit]
   rw [← ho,h0]; exact out_int ..
  ·simp only [exK_ret2,exK_ret,ge_zero]
   rw [← ho]; exact out_int ..
 ·rw [if_pos (by omega)]
  split
  ·rename_i h
   have:=cmp_len two_le_Z (m:=a) (n:=b) (by omega)
   rw [show cmp a b = -1 by simp [cmp,this]]
   exact out_int ..
  ·rename_i h
   have:=cmp_len two_le_Z (m:=b) (n:=a) (by omega)
   rw [show cmp a b=1 by unfold cmp; rw [if_neg (by omega),if_pos this]]
   exact out_int ..
theorem dig_cons {n:Nat} (h:0 < n):dig Z n=n % Z :: dig Z (n / Z):=by
 refine norm_inj Z_pos (dig_small two_le_Z n) ?_ (dig_norm two_le_Z n) ?_ ?_
 ·intro x hx
  simp only [List.mem_cons] at hx
  rcases hx with rfl | hx
  ·exact Nat.mod_lt _ Z_pos
  ·exact dig_small two_le_Z _ x hx
 ·intro hne
  by_cases hz:n / Z=0
  ·have hm:n % Z=n:=Nat.mod_eq_of_lt (by (have:=Nat.div_eq_zero_iff (a:=n) (b:=Z)); simp only [Z] at *; omega)
   simp only [hz,dig_zero,List.getLast_singleton,hm]
   omega
  ·have hne2:dig Z (n / Z)≠[]:=fun e=>hz ((dig_eq_nil two_le_Z).1 e)
   rw [List.getLast_cons hne2]
   exact dig_norm two_le_Z _ hne2
 ·rw [val_dig two_le_Z,val,val_dig two_le_Z]
  have:=Nat.mod_add_div n Z
  omega
def ac1:Acc:=⟨0,0,1,.none⟩
def acH (d:List Nat):Hp:=[ac1.b d.length (d.map i9)]
def acV (d:List Nat):V:=ac1.v d.length (d.map i9)
theorem ac_app {d:List Nat} {x:Nat} {q:V→Hp→Prop} {u:PU q} (hb:d.length < 1000000000000) (hq:q (acV (d++[x])) (acH (d++[x]))):rh (apV false 0 1 8 (acV d) (.d (.sl 1 [i9 x])) (acH d)) q u:=by
 refine acc_app ac1 (k:=1) (cs:=[i9 x]) (by omega) (by rfl) (by simp [ac1]) (by simp [ac1]) rfl (by simp) (by omega) (by simp [ac1]) ?_
 simpa [acV,acH,ac1] using hq
end Go.Vm
