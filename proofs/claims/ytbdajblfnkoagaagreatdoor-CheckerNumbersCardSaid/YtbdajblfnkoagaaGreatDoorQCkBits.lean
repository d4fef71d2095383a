/- Natural numbers of the checker: bits, shift, divide, common. -/
import Derived.Test.YtbdajblfnkoagaaGreatDoorQCkInt
import Derived.Test.YtbdajblfnkoagaaGreatDoorQMath
import Derived.Test.YtbdajblfnkoagaaGreatDoorQT
set_option linter.unusedVariables false
set_option linter.unusedSimpArgs false
namespace Go.Vm
open Go Go.Am Go.Big
@[simp] theorem ld_u32 (l:List Nat) (h:Hp) {j:Nat} (hl:j < l.length):ld1 h (.dptr (l.map u32) j)=some (.d (.int .u32 ((nth 0 l j:Nat):Int))):=ld_nth u32 0 l h hl
@[simp] theorem d_u32 (n:Nat):V.d (u32 n)=.d (.int .u32 n):=id rfl
theorem dig_last {a:Nat} (h:a≠0):∃ p x,dig W a=p++[x]∧x≠0∧Small W p∧x < W:=by
 have hne:dig W a≠[]:=fun e=>h ((dig_eq_nil two_le_W).1 e)
 have hs:=dig_small two_le_W a
 refine ⟨(dig W a).dropLast,(dig W a).getLast hne,(List.dropLast_concat_getLast hne).symm,dig_norm two_le_W a hne,fun x hx=>hs x (List.dropLast_subset _ hx),hs _ (List.getLast_mem hne)⟩
theorem bits_loop (k:KL):∀ (x n:Nat),n+bln x < 4611686018427387904→x < W→k (.exit 0) [I (n+bln x:Nat)] []→lp (checker_bits_l0 (CX Y)) [] [] [I n,.d (.int .u32 x)] [] k:=by
 intro x
 induction x using Nat.strongRecOn with
 | _ x ih =>
  intro n hn hx hk
  refine lp_in ?_
  by_cases h0:x=0
  ·subst h0
   simp (disch:=first|omega|simp<;>omega|fail)[checker_bits_l0]
   simpa [bln_zero] using hk
  ·have hb:=bln_half (n:=x) (by omega)
   rw [hb] at hn hk
   simp (disch:=first|omega|simp<;>omega|fail)[checker_bits_l0]
   have:=ih (x / 2) (by omega) (n+1) (by omega) (by omega) (by rw [show n+1+bln (x / 2)=n+(bln (x / 2)+1) by omega]; exact hk)
   simpa using this
theorem bits_ok {a:Nat} (ha:len a < 2 ^ 40):CP Y F.checker_bits [nat a] (I (bln a)):=by
 have h40:(2:Nat) ^ 40=1099511627776:=by decide
 refine checker_bits_i ?_
 by_cases h0:a=0
 ·subst h0
  simp (disch:=first|omega|simp<;>omega|fail)[checker_bits,nat,dig_zero,bln_zero]
 ·obtain ⟨p,x,hd,hx,hp,hxw⟩:=dig_last h0
  have hv:=val_dig two_le_W a
  rw [hd] at hv
  have hb:=bln_snoc (p:=p) (x:=x) hp hx
  rw [← W_eq,hv] at hb
  have hlen:len a=p.length+1:=by simp [len,hd]
  rw [hlen] at ha
  have hb32:bln x≤32:=bln_le_of (by simpa only [W] using hxw)
  have hnx:nth 0 (p++[x]) p.length=x:=by simp
  simp (disch:=first|omega|simp<;>omega|fail)[checker_bits,nat,hd]
  rw [show (32 * (p.length:Int))=((32 * p.length:Nat):Int) by omega]
  refine lo (bits_loop _ x (32 * p.length) (by omega) hxw ?_)
  rw [← hb]
  simp (disch:=first|omega|simp<;>omega|fail)[]
theorem clone_app {n by_:Nat} {h:Hp} {cells:List D} {z:List D} (hn:0 < n) {l:Nat} (hl:0 < l) (hc:cells.length=l * n) (hb:l * by_≤140737488355328) {q:V→Hp→Prop} {u:PU q}
  (hq:q (.ref (h.length+1) 1 0 l l cells.length) (h++[(1,.data n [] true false),(1,.data n cells false false)])) :
  rh (apV false (h.length+1) n by_ (.ref (h.length+0) 1 0 0 0 0) (.d (.sl l cells)) (h++[(1,.data n [] true false),(0,.none)])) q u:=by
 unfold rh apV
 simp only [cellsOf]
 rw [if_pos hc]
 unfold apC
 rw [if_neg (by omega)]
 have hg:hget (h++[(1,Bk.data n [] true false),(0,.none)]) (h.length+0) 1=.data n [] true false:=by simp [hget]
 simp only [hg]
 rw [if_pos ⟨trivial,rfl,Nat.le_refl _,by simp,hc⟩,if_neg (by omega),if_pos (by simpa using hb)]
 simp only [if_true,new]
 have hs:(h++[(1,Bk.data n [] true false),(0,.none)])[h.length+1]? = some (0,.none):=by simp
 simp only [hs]
 simpa using hq
@[simp] theorem nilD_lst {α:Type} (f:α→D) {l:List α} (h:Hp) (hl:0 < l.length) (k:V→Prop) (u:PU k):rn (nilD h .eql (lst f l) (.d (.pl (.slice none 0 0)))) k u=k (.d (.bool false)):=by
 cases l with
 | nil=>simp at hl
 | cons x l=>exact rfl
theorem cloneNat_in {h:Hp} (hu:(h.all fun x=>underB h.length x.2)=true) {l:List Nat} (hl:0 < l.length) (hb:l.length < 1000000000000):CI Y F.slices_Clone_checker_natural_uint32 [lst u32 l] h (.new 1 (l.map u32) false l.length l.length) h:=by
 refine slices_Clone_checker_natural_uint32_i ?_
 simp (disch:=first|omega|simp<;>omega|fail)[slices_Clone_checker_natural_uint32]
 have hli:lisR 0 [D.int IntKind.u32 0] [] (h++[(0,Bk.none),(0,Bk.none)])=some ([],h++[(0,Bk.none),(0,Bk.none)]):=by
  simp [lisR,repl,toDs]
 rw [hli]
 simp (disch:=first|omega|simp<;>omega|fail)[]
 refine clone_app (z:=[]) (by decide) hl (by simp) (by omega) ?_
 simp (disch:=first|omega|simp<;>omega|fail)[]
 refine ⟨by simp,?_,.inr (.inr (.inl ⟨h.length+1,1,l.length,l.length,1,l.map u32,false,by simp,by omega,by simp [hget],rfl⟩))⟩
 simp only [List.all_append,hu,Bool.true_and]
 try simp [underB]
end Go.Vm
