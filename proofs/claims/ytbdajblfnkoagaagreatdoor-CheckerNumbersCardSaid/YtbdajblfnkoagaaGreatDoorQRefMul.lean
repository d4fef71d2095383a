/- ref03.MulW. -/
import Derived.Test.YtbdajblfnkoagaaGreatDoorQMath
import Derived.Test.YtbdajblfnkoagaaGreatDoorQRefW
import Derived.Test.YtbdajblfnkoagaaGreatDoorQWalk
set_option linter.unusedVariables false
set_option linter.unusedSimpArgs false
namespace Go.Vm
open Go Go.Am Go.Big
@[simp] theorem d_i9 (n:Nat):V.d (i9 n)=I n:=id rfl
@[simp] theorem ld_i9 (l:List Nat) (h:Hp) {j:Nat} (hl:j < l.length):ld1 h (.dptr (l.map i9) j)=some (I ((nth 0 l j:Nat):Int)):=ld_nth i9 0 l h hl
theorem set_i9 (l:List Nat) (j x:Nat):(l.map i9).set j (.int .i64 x)=(l.set j x).map i9:=by
 rw [List.map_set]; rfl
def mulH (sa sb:Bool) (da db o:List Nat) (b2:Nat × Bk):Hp:=[(1,.vars [.d (.bool sa),lst i9 da]),(1,.vars [.d (.bool sb),lst i9 db]),b2,(1,.data 1 (o.map i9) true false)]
theorem mul_in {sa sb:Bool} {da db:List Nat} {b2:Nat × Bk} (hda:Small Z da) (hdb:Small Z db) (hla:da.length < 1000000000) (hlb:db.length < 1000000000) (k:KL) (h0:Hp) (hh:h0.length=4) (N:Nat) (hN:N=da.length+db.length+1) {i:Nat} (hi:i < da.length) (T:Nat) (hT:T < Z ^ (i+db.length+1)) :
  ∀ (r c j:Nat) (o:List Nat),j+r=db.length+1→c < Z→o.length=N→Small Z o→val Z o+Z ^ (i+j) * (c+da.getD i 0 * val Z (db.drop j))=T →
  (∀ o':List Nat,o'.length=N→Small Z o'→val Z o'=T→k (.exit 2) [] (mulH sa sb da db o' b2)) →
  lp (schismaref03_MulW_l1 (CX Y) (.ptr 0 1 0 2) (.ptr 1 1 0 2) (.ref 3 1 0 N N N) (I i)) [] h0 [I c,I j] (mulH sa sb da db o b2) k:=by
 intro r
 induction r with
 | zero =>
  intro c j o hj hc ho hs hv hk
  have hd:db.drop j=[]:=List.drop_eq_nil_of_le (by omega)
  rw [hd] at hv
  simp only [val,Nat.mul_zero,Nat.add_zero] at hv
  have c0:c=0:=by
   rcases Nat.eq_zero_or_pos c with h | h
   ·exact h
   ·have:=Nat.mul_le_mul_left (Z ^ (i+j)) h
    rw [show i+db.length+1=i+j by omega] at hT
    omega
  subst c0
  refine lp_in ?_
  have g:¬ j < db.length:=by omega
  simp (disch:=first|omega|simp<;>omega|fail)[schismaref03_MulW_l1,mulH,g]
  exact hk o ho hs (by omega)
 | succ r ih =>
  intro c j o hj hc ho hs hv hk
  obtain ⟨m,hm⟩:∃ m,m=i+j:=⟨_,rfl⟩
  rw [← hm] at hv
  have hij:m < o.length:=by omega
  have hcase:(¬ j < db.length∧c=0)∨j < db.length∨(¬ j < db.length∧0 < c):=by omega
  obtain ⟨x,hx1,hx2⟩:∃ x,da[i]=x∧da.getD i 0=x:=⟨_,rfl,by simp [hi]⟩
  obtain ⟨y,hy2⟩:∃ y,db.getD j 0=y:=⟨_,rfl⟩
  have hx:=hda.getD Z_pos i
  have hy:=hdb.getD Z_pos j
  have hw:=hs.getD Z_pos m
  have hst:=mul_step (B:=Z) (o:=o) (j:=m) (c:=c) (a:=da.getD i 0) (y:=db.getD j 0) (v:=val Z (db.drop (j+1))) hij
  rw [← val_drop,hv] at hst
  have hy0:¬ j < db.length→db.getD j 0=0:=fun h=>by rw [List.getD_eq_getElem?_getD,List.getElem?_eq_none (by omega)]; rfl
  rw [hx2] at hx hst
  rw [hy2] at hy hst hy0
  obtain ⟨p,hp⟩:∃ p,p=x * y:=⟨_,rfl⟩
  have hxy:p≤999999999 * 999999999:=by rw [hp]; exact Nat.mul_le_mul (by simp only [Z] at hx; omega) (by simp only [Z] at hy; omega)
  have hpi:(x:Int) * (y:Int)=(p:Int):=by rw [hp]; simp
  rw [← hp] at hst
  have e1:((i:Int)+(j:Int))=(m:Int):=by omega
  have hZ:Z=1000000000:=rfl
  have hNo:(N=o.length)=True:=eq_true ho.symm
  obtain ⟨w,hwm,hwd⟩:∃ w,o[m]=w∧o.getD m 0=w:=⟨_,rfl,by simp [hij]⟩
  rw [hwd] at hst hw
  have main:∀ t:Nat,t=c+w+p →
    bnd (biI .add (I i) (I j)) fun v18 =>
    bnd (biI .rem (I t) (.d (.int .i64 1000000000))) fun v19 =>
    bnd (ixV (mulH sa sb da db o b2) 1 (.ref 3 1 0 N N N) v18) fun v20 =>
    stD (mulH sa sb da db o b2) 1 v20 v19 fun _ h =>
    bnd (biI .quo (I t) (.d (.int .i64 1000000000))) fun v22 =>
    bnd (biI .add (I j) (.d (.int .i64 1))) fun v23 =>
    lpK [] h0 (fun l h=>lp (schismaref03_MulW_l1 (CX Y) (.ptr 0 1 0 2) (.ptr 1 1 0 2) (.ref 3 1 0 N N N) (I i)) [] h0 l h k) k .normal [v22,v23] h:=by
   intro t ht
   have ht2:t < 1000000000000000000:=by simp only [hZ] at *; omega
   have:=ih (t / Z) (j+1) (o.set m (t % Z)) (by omega) (by simp only [hZ] at *; omega) (by simpa using ho) (hs.set (Nat.mod_lt _ Z_pos)) (by rw [ht,show i+(j+1)=m+1 by omega,hx2]; exact hst) hk
   clear hst hk ih ht hv
   simp (disch:=first|omega|simp<;>omega|fail)[mulH,Int.tmod_eq_emod_of_nonneg,Int.tdiv_eq_ediv_of_nonneg,e1]
   rw [show ((t:Int) % 1000000000)=((t % 1000000000:Nat):Int) by omega,set_i9]
   simp (disch:=first|omega|simp<;>omega|fail)[hh,Int.tmod_eq_emod_of_nonneg,Int.tdiv_eq_ediv_of_nonneg]
   simpa [mulH,hZ] using this
  refine lp_in ?_
  rcases hcase with ⟨g,c0⟩ | g | ⟨g,c1⟩
  ·subst c0
   simp (disch:=first|omega|simp<;>omega|fail)[schismaref03_MulW_l1,mulH,g]
   refine hk o ho hs ?_
   rw [List.drop_eq_nil_of_le (by omega)] at hv
   simpa [val] using hv
  ·have hy3:db[j]=y:=by rw [← hy2]; simp [g]
   clear hst hv
   simp (disch:=first|omega|simp<;>omega|fail)[schismaref03_MulW_l1,mulH,g,e1,hNo,hwm]
   refine jo_to (l:=[I (c+w+p:Nat)]) (h:=mulH sa sb da db o b2) (fun q=>?_) (main _ rfl)
   simp (disch:=first|omega|simp<;>omega|fail)[mulH,g,nth_eq,hx1,hy3,hpi]
  ·have hy1:=hy0 g
   subst hy1
   simp only [Nat.mul_zero] at hp
   subst hp
   clear hst hv
   simp (disch:=first|omega|simp<;>omega|fail)[schismaref03_MulW_l1,mulH,g,e1,c1,hNo,hwm]
   refine jo_to (l:=[I (c+w:Nat)]) (h:=mulH sa sb da db o b2) (fun q=>?_) (main _ (by simp))
   simp (disch:=first|omega|simp<;>omega|fail)[mulH,g]
theorem mul_out {sa sb:Bool} {da db:List Nat} {b2:Nat × Bk} (hda:Small Z da) (hdb:Small Z db) (hla:da.length < 1000000000) (hlb:db.length < 1000000000) (k:KL) (h0:Hp) (hh:h0.length=4) (N:Nat) (hN:N=da.length+db.length+1) :
  ∀ (r i:Nat) (o:List Nat),i+r=da.length→o.length=N→Small Z o→val Z o=val Z (da.take i) * val Z db →
  (∀ o':List Nat,o'.length=N→Small Z o'→val Z o'=val Z da * val Z db→k (.exit 0) [] (mulH sa sb da db o' b2)) →
  lp (schismaref03_MulW_l0 (CX Y) (.ptr 0 1 0 2) (.ptr 1 1 0 2) (.ref 3 1 0 N N N)) [] h0 [I i] (mulH sa sb da db o b2) k:=by
 intro r
 induction r with
 | zero =>
  intro i o hi ho hs hv hk
  refine lp_in ?_
  have g:¬ i < da.length:=by omega
  simp (disch:=first|omega|simp<;>omega|fail)[schismaref03_MulW_l0,mulH,g]
  refine hk o ho hs ?_
  rw [hv,List.take_of_length_le (by omega)]
 | succ r ih =>
  intro i o hi ho hs hv hk
  refine lp_in ?_
  have g:i < da.length:=by omega
  have hb:=val_lt Z_pos hdb
  have hta:=val_lt Z_pos (hda.take (i+1))
  rw [List.length_take,Nat.min_eq_left (by omega)] at hta
  have hsum:val Z o+Z ^ i * (da.getD i 0 * val Z db)=val Z (da.take (i+1)) * val Z db:=by
   rw [hv,val_take_succ da g,Nat.add_mul,Nat.mul_assoc]
  simp (disch:=first|omega|simp<;>omega|fail)[schismaref03_MulW_l0,mulH,g]
  refine lo ?_
  have:=mul_in (sa:=sa) (sb:=sb) (b2:=b2) hda hdb hla hlb (exK [(Exit.exit 2,fun l5 h=>bnd (biI .add (I i) (.d (.int .i64 1))) fun v6=>lpK [] h0 (fun l h=>lp (schismaref03_MulW_l0 (CX Y) (.ptr 0 1 0 2) (.ptr 1 1 0 2) (.ref 3 1 0 N N N)) [] h0 l h k) k .normal [v6] h)]) (mulH sa sb da db o b2) rfl N hN g (val Z (da.take (i+1)) * val Z db)
   (by
    rw [show i+db.length+1=(i+1)+db.length by omega,Nat.pow_add]
    exact Nat.mul_lt_mul'' hta hb) (db.length+1) 0 0 o (by omega) Z_pos ho hs (by simpa using hsum) (fun o' h1 h2 h3=>by
     simp (disch:=first|omega|simp<;>omega|fail)[mulH,hh]
     exact ih (i+1) o' (by omega) h1 h2 h3 hk)
  exact this
theorem mulW_ok {x y:Int} (hx:len9 x.natAbs < 400000000) (hy:len9 y.natAbs < 400000000):CP Y F.schismaref03_MulW [intW x,intW y] (intW (x * y)):=by
 refine schismaref03_MulW_i ?_
 have hsgn:(decide (x < 0) != decide (y < 0) && decide (0 < x.natAbs * y.natAbs))=decide (x * y < 0):=by
  rcases Int.lt_trichotomy x 0 with h1 | h1 | h1 <;> rcases Int.lt_trichotomy y 0 with h2 | h2 | h2
  ·have:=Int.mul_pos_of_neg_of_neg h1 h2
   simp [h1,h2]; omega
  ·subst h2; simp
  ·have:=Int.mul_neg_of_neg_of_pos h1 h2
   have h3:0 < x.natAbs * y.natAbs:=Nat.mul_pos (by omega) (by omega)
   simp [h1,h3,this]; omega
  ·subst h1; simp
  ·subst h1; simp
  ·subst h1; simp
  ·have:=Int.mul_neg_of_pos_of_neg h1 h2
   have h3:0 < x.natAbs * y.natAbs:=Nat.mul_pos (by omega) (by omega)
   simp [h2,h3,this]; omega
  ·subst h2; simp
  ·have:=Int.mul_pos h1 h2
   have e1:¬ x < 0:=by omega
   have e2:¬ y < 0:=by omega
   simp [e1,e2]; omega
 unfold intW wh
 rw [Int.natAbs_mul,← hsgn]
 generalize decide (x < 0)=sa at *
 generalize decide (y < 0)=sb at *
 generalize x.natAbs=a at *
 generalize y.natAbs=b at *
 have ha:=dig_small two_le_Z a
 have hb:=dig_small two_le_Z b
 have va:=val_dig two_le_Z a
 have vb:=val_dig two_le_Z b
 unfold len9 at hx hy
 unfold nat9
 generalize dig Z a=da at *
 generalize dig Z b=db at *
 simp (disch:=first|omega|simp<;>omega|fail)[schismaref03_MulW]
 obtain ⟨N,hN⟩:∃ N,N=da.length+db.length+1:=⟨_,rfl⟩
 rw [show ((da.length:Int)+(db.length:Int)+1)=(N:Int) by omega]
 have e0:List.replicate N (D.int IntKind.i64 0)=(List.replicate N 0).map i9:=by simp [i9]
 simp (disch:=first|omega|simp<;>omega|fail)[]
 rw [e0]
 refine lo (mul_out (sa:=sa) (sb:=sb) ha hb (by omega) (by omega) _ _ rfl N hN da.length 0 (List.replicate N 0) (by omega) (by simp) (fun z hz=>by rw [List.mem_replicate] at hz; rw [hz.2]; exact Z_pos) (by simp [val_zeros,val]) fun o h1 h2 h3=>?_)
 rw [va,vb] at h3
 have ht:=trim9_ok (s:=sa != sb) h2 (by omega)
 rw [h3] at ht
 simp (disch:=first|omega|simp<;>omega|fail)[mulH]
 refine cdz (ds:=[.agg [.d (.bool (sa != sb)),lst i9 o]]) (h':=[(1,.vars [.d (.bool sa),lst i9 da]),(1,.vars [.d (.bool sb),lst i9 db]),(1,.vars [.d (.bool false),.d (.pl (.slice none 0 0))]),(1,.data 1 (o.map i9) true true)]) ?_ ht ?_
 ·simp [snaps,snap,toD,hget,lst,h1]
  rw [List.take_of_length_le (by simp [h1])]
 ·simp (disch:=first|omega|simp<;>omega|fail)[wh,okV9,nat9,show plainV (wh (sa != sb && decide (0 < a * b)) (a * b))=false by simp [wh,plainV,plainVs,nat9,lst]]
  exact out_wh _ _ _
end Go.Vm
