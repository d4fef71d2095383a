/- ref03: To: the whole number of a canonical text. -/
import Derived.Test.YtbdajblfnkoagaaGreatDoorQRefMul
import Derived.Test.YtbdajblfnkoagaaGreatDoorQRefW
set_option linter.unusedVariables false
set_option linter.unusedSimpArgs false
namespace Go.Vm
open Go Go.Am Go.Big
def ac2:Acc:=⟨2,0,1,.none⟩
def toH (s:Bool) (b0:Nat × Bk) (d:List Nat):Hp:=[b0,(1,.vars [.d (.bool s),ac2.v d.length (d.map i9)]),ac2.b d.length (d.map i9)]
@[simp] theorem accV_succ (a:Acc) (n:Nat) (c:List D):a.v (n+1) c=.ref a.s (a.e+1) 0 (n+1) (n+1) c.length:=id rfl
@[simp] theorem accB_succ (a:Acc) (n:Nat) (c:List D):a.b (n+1) c=(a.e+1,.data a.n c false false):=id rfl
theorem accV_zero (a:Acc) (c:List D):a.v 0 c=.d (.pl (.slice none 0 0)):=rfl
theorem accB_zero (a:Acc) (c:List D):a.b 0 c=(a.e,a.b0):=rfl
theorem to_loop (s:Bool) (b0:Nat × Bk) (k:KL) (h0:Hp) (hh:h0.length=3):∀ (w n:Nat) (d:List Nat),w+d.length < 9000000000→n < 10 ^ w→Small Z d →
  (∀ d':List Nat,Small Z d'→d'.length≤d.length+w→val Z d'=val Z d+Z ^ d.length * n→k (.exit 0) [] (toH s b0 d')) →
  lp (schismaref03_To_l0 (CX Y) (.ptr 1 1 0 2)) [] h0 [S (decD n w)] (toH s b0 d) k:=by
 intro w
 induction w using Nat.strongRecOn with
 | _ w ih =>
  intro n d hw hn hs hk
  refine lp_in ?_
  by_cases h0w:w=0
  ·subst h0w
   simp at hn
   subst hn
   simp (disch:=first|omega|simp<;>omega|fail)[schismaref03_To_l0,decD]
   exact hk d hs (by omega) (by simp)
  ·obtain ⟨v,u,hv1,hv9,hvw,hu,huv⟩:∃ v u:Nat,1≤v∧v≤9∧w=u+v∧mx2 true 0 ((w:Int) - 9)=u∧(u=0∨v=9):=by
    by_cases h9:w≤9
    ·exact ⟨w,0,by omega,h9,by omega,by simp [mx2]; omega,.inl rfl⟩
    ·exact ⟨9,w - 9,by omega,by omega,by omega,by simp [mx2]; omega,.inr rfl⟩
   have hD:=decD_add v u n
   rw [← hvw] at hD
   have hl:=decD_len w n
   have hlu:=decD_len u (n / 10 ^ v)
   have e1:(decD n w).drop u=decD (n % 10 ^ v) v:=by
    rw [hD,List.drop_left' hlu]
    have:=decD_mod v (n % 10 ^ v) (n / 10 ^ v)
    rw [Nat.mod_add_div] at this
    exact this
   have e2:(decD n w).take u=decD (n / 10 ^ v) u:=by
    rw [hD,List.take_left' hlu]
   have hp:0 < 10 ^ v:=Nat.pow_pos (by decide)
   have hm:=Nat.mod_lt n hp
   have hZv:10 ^ v≤Z:=by
    have:10 ^ v≤10 ^ 9:=Nat.pow_le_pow_right (by decide) hv9
    exact this
   have hnu:n / 10 ^ v < 10 ^ u:=Nat.div_lt_of_lt_mul (by rw [hvw,Nat.add_comm,Nat.pow_add] at hn; exact hn)
   have hval:n % 10 ^ v+Z * (n / 10 ^ v)=n:=by
    have:=Nat.mod_add_div n (10 ^ v)
    rcases huv with rfl | rfl
    ·rw [Nat.pow_zero] at hnu
     have h3:n / 10 ^ v=0:=Nat.lt_one_iff.1 hnu
     rw [h3] at this ⊢
     simpa using this
    ·exact this
   have:=ih u (by omega) (n / 10 ^ v) (d++[n % 10 ^ v]) (by simp; omega) hnu (hs.snoc (Nat.lt_of_lt_of_le hm hZv)) (fun d' h1 h2 h3=>hk d' h1 (by simp at h2; omega) (by
    rw [h3,val_snoc,List.length_append,List.length_singleton,Nat.pow_succ,Nat.mul_assoc,Nat.add_assoc,← Nat.mul_add,hval]))
   generalize decD n w=L at *
   generalize n % 10 ^ v=r at *
   clear hval hk ih
   simp (disch:=first|omega|simp<;>omega|fail)[schismaref03_To_l0,mxI,hl,hu,e1,e2]
   refine cd (atoi_ok hv1 (by omega) hm) ?_
   simp (disch:=first|omega|simp<;>omega|fail)[toH]
   have hli:lisR 1 [D.int IntKind.i64 0] [(0,I r)] [b0,(1,.vars [.d (.bool s),ac2.v d.length (d.map i9)]),ac2.b d.length (d.map i9)]=some ([i9 r],[b0,(1,.vars [.d (.bool s),ac2.v d.length (d.map i9)]),ac2.b d.length (d.map i9)]):=by
    simp [lisR,i9,repl,toDs,toD]
   rw [hli]
   simp (disch:=first|omega|simp<;>omega|fail)[]
   refine acc_app ac2 (k:=1) (cs:=[i9 r]) (by omega) (by rfl) (by simp [ac2]) (by simp [ac2]) rfl (by simp) (by omega) (by simp [ac2]) ?_
   simp (disch:=first|omega|simp<;>omega|fail)[ac2,hl,hu,e1,e2,hh]
   simpa [toH,ac2] using this
theorem to_main {s:Bool} {w n:Nat} (hw:w < 900000000) (hn:n < 10 ^ w) (T:List UInt8) (hT:T=if s then 45 :: decD n w else decD n w) (hp:[45].isPrefixOf T=s):CP Y F.schismaref03_To [S T] (wh (s && decide (0 < n)) n):=by
 refine schismaref03_To_i ?_
 simp (disch:=first|omega|simp<;>omega|fail)[schismaref03_To]
 refine cd (hp_is s hp) ?_
 simp (disch:=first|omega|simp<;>omega|fail)[]
 refine jo_to (l:=[S (decD n w)]) (h:=toH s (1,.vars [.d (.bool false),.d (.pl (.slice none 0 0))]) []) (fun q=>?_) ?_
 ·cases s
  ·simp at hT
   subst hT
   simp (disch:=first|omega|simp<;>omega|fail)[toH,accV_zero,accB_zero,ac2]
  ·simp at hT
   subst hT
   simp (disch:=first|omega|simp<;>omega|fail)[toH,accV_zero,accB_zero,ac2]
 simp (disch:=first|omega|simp<;>omega|fail)[]
 refine lo (to_loop s _ _ _ rfl w n [] (by simp; omega) hn (fun x hx=>by simp at hx) fun d hd1 hd2 hd3=>?_)
 simp [val] at hd2 hd3
 have ht:=trim9_ok (s:=s) hd1 (by omega)
 rw [hd3] at ht
 simp (disch:=first|omega|simp<;>omega|fail)[toH]
 obtain ⟨h',h1,h2⟩:=acc_snap ac2 (L:=d.length) (cells:=d.map i9) (h:=[(1,.vars [.d (.bool false),.d (.pl (.slice none 0 0))]),(1,.vars [.d (.bool s),ac2.v d.length (d.map i9)]),ac2.b d.length (d.map i9)]) rfl (by simp [ac2])
 refine cdz (ds:=[.agg [.d (.bool s),lst i9 d]]) (h':=h') ?_ ht ?_
 ·simp [snaps,snap,h1,lst]
 ·rw [if_neg (by simp [wh,plainV,plainVs,nat9,lst])]
  rcases h2 with ⟨_,rfl⟩ | ⟨_,rfl⟩
  ·simp (disch:=first|omega|simp<;>omega|fail)[wh,okV9,nat9]
   exact out_wh _ _ _
  ·simp (disch:=first|omega|simp<;>omega|fail)[wh,okV9,nat9,ac2]
   exact out_wh _ _ _
theorem to_ok {z:Int} (hz:ndg z.natAbs < 900000000):CP Y F.schismaref03_To [S (itoa z)] (intW z):=by
 have:=to_main (s:=decide (z < 0)) hz (ndg_hi z.natAbs) (itoa z) (by unfold itoa itoaN; simp) (by
  unfold itoa
  split
  ·rename_i h; simp [h]
  ·rename_i h
   have h1:=itoaN_hd z.natAbs
   cases hI:itoaN z.natAbs with
   | nil=>exact absurd hI (itoaN_ne _)
   | cons b t =>
    rw [hI] at h1
    simp at h1
    simp [h]
    simpa [List.isPrefixOf] using Ne.symm h1)
 have e:(decide (z < 0) && decide (0 < z.natAbs))=decide (z < 0):=by
  rw [← Bool.decide_and,decide_eq_decide]; omega
 rw [e] at this
 exact this
theorem of_ok9 {z:Int} (h1 : -9223372036854775808 < z) (h2:z < 9223372036854775808):CP Y F.schismaref03_Of [I z] (intW z):=by
 refine schismaref03_Of_i ?_
 have hn:ndg z.natAbs≤19:=ndg_le (by simp only [Nat.reducePow]; omega) (by omega)
 have ht:=to_ok (z:=z) (by omega)
 unfold intW at ht ⊢
 generalize decide (z < 0)=s at *
 simp (disch:=first|omega|simp<;>omega|fail)[schismaref03_Of]
 refine cd (refInt_ok h1 h2) ?_
 generalize z.natAbs=n at *
 simp (disch:=first|omega|simp<;>omega|fail)[]
 refine cd ht ?_
 simp (disch:=first|omega|simp<;>omega|fail)[wh,okV9,nat9]
 exact out_wh _ _ _
end Go.Vm
namespace Go.Vm
open Go Go.Am Go.Big
theorem Z_pow (k:Nat):Z ^ k=10 ^ (9 * k):=by rw [Nat.pow_mul]; rfl
theorem fromGo (s:Bool) (k:KL) (h0:Hp) (hh:h0.length=1):∀ (q p:List Nat),(p++q).length < 100000000→Small Z (p++q)→Norm (p++q)→q≠[] →
  (k (.exit 0) [S (itoaN (val Z (p++q)))] [(1,.vars [.d (.bool s),lst i9 (p++q)])]) →
  lp (schismaref03_From_l0 (CX Y) (.ptr 0 1 0 2)) [] h0 [S (decD (val Z p) (9 * p.length)),I p.length] [(1,.vars [.d (.bool s),lst i9 (p++q)])] k
 | []=>fun p hN hs hn hq hk=>absurd rfl hq
 | x :: q=>by
  intro p hN hs hn hq hk
  have hx:x < Z:=hs x (by simp)
  have hx2:x < 1000000000:=hx
  have hvp:val Z p < 10 ^ (9 * p.length):=by rw [← Z_pow]; exact val_lt Z_pos (fun y hy=>hs y (by simp [hy]))
  have hnd:ndg x≤9:=ndg_le (by simpa using hx2) (by decide)
  have hnd1:=ndg_pos x
  have hil:(itoaN x).length=ndg x:=decD_len _ _
  have hit:itoa (x:Int)=itoaN x:=by unfold itoa; rw [if_neg (by omega)]; rfl
  have hpl:(decD (val Z p) (9 * p.length)).length=9 * p.length:=decD_len _ _
  simp at hN
  refine lp_in ?_
  simp (disch:=first|omega|simp<;>omega|fail)[schismaref03_From_l0]
  refine cd (itoa_ok (z:=x) (by omega) (by omega)) ?_
  rw [hit]
  cases q with
  | nil =>
   have hx0:x≠0:=by have:=hn (by simp); simpa using this
   have he:itoaN (val Z (p++[x]))=itoaN x++decD (val Z p) (9 * p.length):=by
    rw [val_snoc,Z_pow]
    exact itoaN_app (by omega) hvp
   rw [he] at hk
   generalize decD (val Z p) (9 * p.length)=L at *
   generalize itoaN x=M at *
   clear he
   simp (disch:=first|omega|simp<;>omega|fail)[]
   refine jo_to (l:=[S M]) (h:=[(1,.vars [.d (.bool s),lst i9 (p++[x])])]) (fun q=>?_) ?_
   ·simp (disch:=first|omega|simp<;>omega|fail)[]
   simp (disch:=first|omega|simp<;>omega|fail)[hil,hpl,hh]
   refine lp_in ?_
   simp (disch:=first|omega|simp<;>omega|fail)[schismaref03_From_l0]
   exact hk
  | cons y q =>
   have hpad:=pad_dec (n:=x) (w:=9) hnd
   have he:decD (val Z (p++[x])) (9 * (p++[x]).length)=decD x 9++decD (val Z p) (9 * p.length):=by
    have:=decD_add (9 * p.length) 9 (val Z (p++[x]))
    rw [List.length_append,List.length_singleton,show 9 * (p.length+1)=9+9 * p.length by omega,this,val_snoc,Z_pow,Nat.add_mul_div_left _ _ (Nat.pow_pos (by decide)),Nat.div_eq_of_lt hvp,Nat.zero_add,decD_mod]
   have:=fromGo s k h0 hh (y :: q) (p++[x]) (by simp; omega) (by simpa using hs) (by simpa using hn) (by simp) (by simpa using hk)
   rw [he] at this
   have hdl:(decD x 9).length=9:=decD_len _ _
   rw [← hpad] at this hdl
   generalize decD (val Z p) (9 * p.length)=L at *
   generalize itoaN x=M at *
   clear he hk hpad hs hn hvp
   simp (disch:=first|omega|simp<;>omega|fail)[]
   refine jo_in ?_
   simp (disch:=first|omega|simp<;>omega|fail)[hil]
   rw [show (9:Int) - (ndg x:Int)=((9 - ndg x:Nat):Int) by omega]
   refine cd (repeat_ok (by omega)) ?_
   simp (disch:=first|omega|simp<;>omega|fail)[hil,hpl,hh]
   simpa using this
theorem from_wh {s:Bool} {n:Nat} (hn:len9 n < 100000000) (hs:n=0→s=false):CP Y F.schismaref03_From [wh s n] (S (if s then 45 :: itoaN n else itoaN n)):=by
 refine schismaref03_From_i ?_
 by_cases h0:n=0
 ·subst h0
  rw [hs rfl]
  simp (disch:=first|omega|simp<;>omega|fail)[schismaref03_From,wh,nat9,dig_zero]
  exact out_s (by unfold itoaN ndg; rfl)
 ·have hd:dig Z n≠[]:=fun e=>h0 ((dig_eq_nil two_le_Z).1 e)
  have hlen:¬ (dig Z n).length=0:=fun e=>hd (List.eq_nil_of_length_eq_zero e)
  have hsm:=dig_small two_le_Z n
  have hno:=dig_norm two_le_Z n
  have hv:=val_dig two_le_Z n
  have hil:(itoaN n).length=ndg n:=decD_len _ _
  have hnn:ndg n≤9 * len9 n:=ndg_le (by
   have:=val_lt Z_pos hsm
   rw [hv,Z_pow] at this
   exact this) (by unfold len9; omega)
  unfold len9 at hn hnn
  generalize hD:dig Z n=d at *
  simp (disch:=first|omega|simp<;>omega|fail)[schismaref03_From,wh,nat9,hD,hlen]
  refine lo (fromGo s _ _ rfl d [] (by simpa using hn) (by simpa using hsm) (by simpa using hno) hd ?_)
  simp only [List.nil_append,hv]
  generalize itoaN n=M at *
  cases s
  ·simp (disch:=first|omega|simp<;>omega|fail)[]
   refine jo_to (l:=[S M]) (h:=[(1,.vars [.d (.bool false),lst i9 d])]) (fun q=>?_) ?_
   ·simp (disch:=first|omega|simp<;>omega|fail)[]
   exact out_s rfl
  ·simp (disch:=first|omega|simp<;>omega|fail)[]
   refine jo_to (l:=[S (45 :: M)]) (h:=[(1,.vars [.d (.bool true),lst i9 d])]) (fun q=>?_) ?_
   ·simp (disch:=first|omega|simp<;>omega|fail)[hil]
   exact out_s rfl
end Go.Vm
