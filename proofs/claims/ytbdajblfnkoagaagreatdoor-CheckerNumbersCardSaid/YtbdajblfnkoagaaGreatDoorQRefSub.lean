/- ref03.minus. -/
import Derived.Test.YtbdajblfnkoagaaGreatDoorQRefNat
set_option linter.unusedVariables false
set_option linter.unusedSimpArgs false
namespace Go.Vm
open Go Go.Am Go.Big
theorem minus9_loop {a b:List Nat} (ha:Small Z a) (hb:Small Z b) (hla:a.length < 1000000000) (hlb:b.length≤a.length) (k:KL) (h0:Hp) (hh:h0.length=1) :
  ∀ (r c i:Nat) (d:List Nat),i+r=a.length→c≤1→d.length=i→Small Z d→val Z (b.drop i)+c≤val Z (a.drop i) →
  (∀ d':List Nat,d'.length=a.length→Small Z d'→val Z d'=val Z d+Z ^ i * (val Z (a.drop i) - val Z (b.drop i) - c)→k (.exit 0) [acV d'] (acH d')) →
  lp (schismaref03_minus_l0 (CX Y) (lst i9 a) (lst i9 b)) [] h0 [I c,acV d,I i] (acH d) k:=by
 intro r
 induction r with
 | zero =>
  intro c i d hi hc hd hs hle hk
  refine lp_in ?_
  have g:¬ i < a.length:=by omega
  simp (disch:=first|omega|simp<;>omega|fail)[schismaref03_minus_l0,g]
  have e1:a.drop i=[]:=List.drop_eq_nil_of_le (by omega)
  have e2:b.drop i=[]:=List.drop_eq_nil_of_le (by omega)
  exact hk d (by omega) hs (by rw [e1,e2]; simp [val])
 | succ r ih =>
  intro c i d hi hc hd hs hle hk
  refine lp_in ?_
  have g:i < a.length:=by omega
  have hxa:=ha.getD Z_pos i
  have hxb:=hb.getD Z_pos i
  have hy0:¬ i < b.length→b.getD i 0=0:=fun h=>by rw [List.getD_eq_getElem?_getD,List.getElem?_eq_none (by omega)]; rfl
  have nx:nth 0 a i=a.getD i 0:=rfl
  have ny:nth 0 b i=b.getD i 0:=rfl
  rw [val_drop a i,val_drop b i] at hle
  simp only [val_drop a i,val_drop b i] at hk
  generalize a.getD i 0=x at *
  generalize b.getD i 0=y at *
  simp only [Z] at hxa hxb
  simp (disch:=first|omega|simp<;>omega|fail)[schismaref03_minus_l0,g]
  rw [ld_nth i9 0 a _ g,nx]
  simp (disch:=first|omega|simp<;>omega|fail)[i9]
  refine jo_to (l:=[I ((x:Int) - c - y)]) (h:=acH d) (fun q=>?_) ?_
  ·by_cases h:i < b.length
   ·simp (disch:=first|omega|simp<;>omega|fail)[h]
    rw [ld_nth i9 0 b _ h,ny]
    simp (disch:=first|omega|simp<;>omega|fail)[i9]
   ·have:=hy0 h
    subst this
    simp (disch:=first|omega|simp<;>omega|fail)[h]
  simp (disch:=first|omega|simp<;>omega|fail)[]
  obtain ⟨e,c',hc',he,hec⟩:∃ e c':Nat,c'≤1∧e < 1000000000∧((x < c+y∧c'=1∧e+c+y=x+1000000000)∨(¬ x < c+y∧c'=0∧e+c+y=x)):=by
   by_cases h:x < c+y
   ·exact ⟨x+1000000000 - c - y,1,by omega,by omega,.inl ⟨h,rfl,by omega⟩⟩
   ·exact ⟨x - c - y,0,by omega,by omega,.inr ⟨h,rfl,by omega⟩⟩
  refine jo_to (l:=[I e,I c']) (h:=acH d) (fun q=>?_) ?_
  ·rcases hec with ⟨h1,rfl,h2⟩ | ⟨h1,rfl,h2⟩
   ·have e1:((x:Int) - c - y+1000000000)=e:=by omega
    simp (disch:=first|omega|simp<;>omega|fail)[show (x:Int) - c - y < 0 by omega,e1]
   ·have e1:((x:Int) - c - y)=e:=by omega
    simp (disch:=first|omega|simp<;>omega|fail)[show ¬ (x:Int) - c - y < 0 by omega,e1]
  simp (disch:=first|omega|simp<;>omega|fail)[]
  have hl:lisR 1 [D.int IntKind.i64 0] [(0,I e)] (acH d)=some ([i9 e],acH d):=by
   simp [lisR,i9,repl,toDs,toD]
  rw [hl]
  simp (disch:=first|omega|simp<;>omega|fail)[]
  refine ac_app (by omega) ?_
  simp (disch:=first|omega|simp<;>omega|fail)[]
  rw [reset_nil 0 h0 _ (by simp [acH,hh]),show ((i:Int)+1)=((i+1:Nat):Int) by omega]
  generalize hAA:val Z (a.drop (i+1))=A at *
  generalize hBB:val Z (b.drop (i+1))=B at *
  have hZ:Z=1000000000:=rfl
  refine ih c' (i+1) (d++[e]) (by omega) hc' (by simp [hd]) (hs.snoc he) ?_ ?_
  ·rw [hAA,hBB]
   simp only [hZ] at *
   omega
  ·intro d' h1 h2 h3
   refine hk d' h1 h2 ?_
   rw [h3,val_snoc,hd,Nat.pow_succ,Nat.mul_assoc,Nat.add_assoc,← Nat.mul_add,hAA,hBB]
   congr 2
   simp only [hZ] at *
   omega
def fixZ:Nat→Nat→List Nat
 | 0,_=>[]
 | w+1,n=>n % Z :: fixZ w (n / Z)
theorem fixZ_len:∀ w n,(fixZ w n).length=w
 | 0,_=>rfl
 | w+1,n=>by simp [fixZ,fixZ_len w]
theorem fixZ_small:∀ w n,Small Z (fixZ w n)
 | 0,_=>fun x hx=>by simp [fixZ] at hx
 | w+1,n=>fun x hx=>by
  simp only [fixZ,List.mem_cons] at hx
  rcases hx with rfl | hx
  ·exact Nat.mod_lt _ Z_pos
  ·exact fixZ_small w _ x hx
theorem fixZ_val:∀ w n,n < Z ^ w→val Z (fixZ w n)=n
 | 0,n,h=>by simp at h; subst h; rfl
 | w+1,n,h=>by
  have hZ:Z=1000000000:=rfl
  simp only [fixZ,val]
  rw [fixZ_val w (n / Z) (Nat.div_lt_of_lt_mul (by rw [Nat.pow_succ,Nat.mul_comm] at h; exact h))]
  have:=Nat.mod_add_div n Z
  omega
theorem fixZ_eq:∀ l:List Nat,Small Z l→l=fixZ l.length (val Z l)
 | [],_=>rfl
 | x :: l,h=>by
  have hx:x < Z:=h x (by simp)
  have hl:=fixZ_eq l (fun y hy=>h y (by simp [hy]))
  have hZ:Z=1000000000:=rfl
  simp only [List.length_cons,fixZ,val]
  have e1:(x+Z * val Z l) % Z=x:=by rw [Nat.add_mul_mod_self_left]; exact Nat.mod_eq_of_lt hx
  have e2:(x+Z * val Z l) / Z=val Z l:=by rw [Nat.add_mul_div_left _ _ Z_pos,Nat.div_eq_of_lt hx,Nat.zero_add]
  rw [e1,e2,← hl]
theorem minus9_ok {a b:Nat} (hba:b≤a) (ha:len9 a < 1000000000):CP Y F.schismaref03_minus [nat9 a,nat9 b] (lst i9 (fixZ (len9 a) (a - b))):=by
 have hlen:len9 b≤len9 a:=by
  unfold len9
  refine (dig_len two_le_Z).2 ?_
  exact Nat.lt_of_le_of_lt hba ((dig_len two_le_Z (n:=a)).1 (Nat.le_refl _))
 refine schismaref03_minus_i ?_
 unfold schismaref03_minus
 refine minus9_loop (dig_small two_le_Z a) (dig_small two_le_Z b) ha hlen _ _ rfl (len9 a) 0 0 [] (by unfold len9; omega) (by omega) rfl (fun x hx=>by simp at hx) (by simpa [val_dig two_le_Z] using hba) fun d h1 h2 h3=>?_
 have e:d=fixZ (len9 a) (a - b):=by
  have:=fixZ_eq d h2
  rw [h1,h3] at this
  simpa [val,val_dig two_le_Z,len9] using this
 simp (disch:=first|omega|simp<;>omega|fail)[]
 rw [← e]
 exact acc_out ac1 (h:=acH d) (L:=d.length) (cells:=d.map i9) rfl (by simp [ac1])
end Go.Vm
