/- Natural numbers of the checker: what its functions find. -/
import Derived.Test.YtbdajblfnkoagaaGreatDoorQMath
import Derived.Test.YtbdajblfnkoagaaGreatDoorQT
import Derived.Test.YtbdajblfnkoagaaGreatDoorQVmLib
set_option linter.unusedVariables false
set_option linter.unusedSimpArgs false
namespace Go.Vm
open Go Go.Am Go.Big
def W:Nat:=4294967296
theorem W_eq:W=4294967296:=rfl
theorem two_le_W:2≤W:=by decide
theorem W_pos:0 < W:=by decide
def u32 (n:Nat):D:=.int .u32 n
def nat (n:Nat):V:=lst u32 (dig W n)
def len (n:Nat):Nat:=(dig W n).length
theorem len_le {n k:Nat} (h:n < W ^ k):len n≤k:=(dig_len two_le_W).2 h
theorem trim_loop (l:List Nat) (hs:l.length < 2 ^ 50) (k:KL) (hk:k (.exit 0) [lst u32 (trimL l)] []):lp (checker_trim_l0 (CX Y)) [] [] [lst u32 l] [] k:=by
 have h50:(2:Nat) ^ 50=1125899906842624:=by decide
 induction hn:l.length generalizing l with
 | zero =>
  have:l=[]:=List.eq_nil_of_length_eq_zero hn
  subst this
  refine lp_in ?_
  simp [checker_trim_l0,biI]
  exact hk
 | succ n ih =>
  obtain ⟨l,x,rfl⟩:∃ l' x,l=l'++[x]:=⟨l.dropLast,l.getLast (by intro e; simp [e] at hn),(List.dropLast_concat_getLast _).symm⟩
  have hl:l.length=n:=by simpa using hn
  refine lp_in ?_
  have h0:0 < (l++[x]).length:=by simp
  have hlt:l.length < (l++[x]).length:=by simp
  have e1:((l++[x]).length:Int) - 1=l.length:=by simp
  simp only [checker_trim_l0,ge_zero,lenV_lst,bnd_some,biI_gtr]
  have hp:(0:Int) < ((l++[x]).length:Int):=by omega
  simp only [gd_yes hp,pick_yes hp,lenV_lst,bnd_some]
  rw [sub64 (by simp at hs ⊢; omega)]
  simp only [e1,bnd_some,ix_lst u32 (l++[x]) [] rfl hlt,ld_lst u32 (l++[x]) [] hlt]
  simp only [show (l++[x])[l.length]=x by simp,u32,biI_eql,bnd_some,cnd_dec]
  by_cases hx:x=0
  ·subst hx
   rw [if_pos (by omega)]
   rw [sl_hi _ _ h0 rfl (by simp)]
   simp only [bnd_some,lpK_normal,clean_nil,true_and,List.take_left]
   rw [trimL_snoc_zero] at hk
   exact ih l (by simp at hs; omega) hk hl
  ·rw [if_neg (by omega)]
   simp only [lpK_exit]
   rw [trimL_snoc hx] at hk
   exact hk
theorem trim_ok {l:List Nat} (hl:Small W l) (hs:l.length < 2 ^ 50):CP Y F.checker_trim [lst u32 l] (nat (val W l)):=by
 refine checker_trim_i ?_
 simp only [checker_trim,List.replicate]
 refine trim_loop l hs _ ?_
 simp only [exK_exit,ge_zero,nat,dig_val two_le_W hl]
 exact out_lst ..
theorem of_ok {n:Nat} (hn:n < 18446744073709551616):CP Y F.checker_of [.d (.int .u64 n)] (nat n):=by
 refine checker_of_i ?_
 have hs:=shr_of (k:=.u64) (l:=.u64) (a:=n) (b:=32) (by decide)
 have e32:(2:Nat) ^ 32=4294967296:=by decide
 rw [e32] at hs
 simp only [checker_of,List.replicate,cv_u32,bnd_some]
 rw [show ((32:Int))=((32:Nat):Int) from rfl,hs]
 simp only [bnd_some,cv_u32]
 have hd:n / 4294967296 % 4294967296=n / 4294967296:=Nat.mod_eq_of_lt (by omega)
 rw [hd]
 have hl:lisD 2 [.int .u32 0] [(0,.d (.int .u32 ((n % 4294967296:Nat):Int))),(1,.d (.int .u32 ((n / 4294967296:Nat):Int)))] []=fun k=>k (lst u32 [n % 4294967296,n / 4294967296]) []:=by
  funext k
  simp [lisD,fillV,cellsV,repl,toDs,toD,lst,u32]
 rw [hl]
 have hsm:Small W [n % 4294967296,n / 4294967296]:=by
  intro x hx
  simp only [List.mem_cons,List.not_mem_nil,or_false,W] at hx ⊢
  omega
 refine cal_d (trim_ok hsm (show 2 < 2 ^ 50 by decide)) (by simp [snaps]) ?_
 have:val W [n % 4294967296,n / 4294967296]=n:=by simp only [val,W]; omega
 rw [this]
 exact out_lst ..
theorem order_loop (a b:List Nat) (hab:a.length=b.length) (hs:a.length < 2 ^ 40) (k:KL):∀ i:Nat,i≤a.length→(ordL a b i=0→k (.exit 0) [] [])→(ordL a b i≠0→k .ret [I (ordL a b i)] []) →
  lp (checker_order_l0 (CX Y) (lst u32 a) (lst u32 b)) [] [] [I ((i:Int) - 1)] [] k
 | 0,_,h0,_=>by
  refine lp_in ?_
  simp [checker_order_l0]
  exact h0 rfl
 | i+1,hi,h0,h1=>by
  refine lp_in ?_
  have ha:i < a.length:=by omega
  have hb:i < b.length:=by omega
  have h40:(2:Nat) ^ 40=1099511627776:=by decide
  have e1:((i+1:Nat):Int) - 1=i:=by omega
  simp only [checker_order_l0,e1,ge_zero,biI_geq,bnd_some,cnd_dec]
  rw [if_pos (by omega)]
  simp only [ix_lst u32 a [] rfl ha,ix_lst u32 b [] rfl hb,ld_lst u32 _ [] ha,ld_lst u32 _ [] hb,bnd_some,u32,biI_lss,biI_gtr,cnd_dec,Int.ofNat_lt]
  have ea:a.getD i 0=a[i]:=by simp [ha]
  have eb:b.getD i 0=b[i]:=by simp [hb]
  simp only [ordL,ea,eb] at h0 h1
  split
  ·rename_i hlt
   rw [if_pos hlt] at h1
   exact h1 (by decide)
  ·rename_i hlt
   rw [if_neg hlt] at h0 h1
   split
   ·rename_i hgt
    rw [if_pos hgt] at h1
    exact h1 (by decide)
   ·rename_i hgt
    rw [if_neg hgt] at h0 h1
    rw [sub64 (by omega)]
    simp only [bnd_some,lpK_normal,clean_nil,true_and]
    exact order_loop a b hab hs k i (by omega) h0 h1
theorem order_ok {a b:Nat} (ha:len a < 2 ^ 40) (hb:len b < 2 ^ 40):CP Y F.checker_order [nat a,nat b] (I (cmp a b)):=by
 have h40:(2:Nat) ^ 40=1099511627776:=by decide
 refine checker_order_i ?_
 simp only [checker_order,List.replicate,nat,lenV_lst,bnd_some,biI_neq,cnd_dec,biI_lss]
 by_cases hl:(dig W a).length=(dig W b).length
 ·rw [if_neg (by omega)]
  rw [sub64 (by unfold len at ha; omega)]
  simp only [bnd_some]
  have ho:=ordL_eq W_pos (dig_small two_le_W a) (dig_small two_le_W b) (dig W a).length (Nat.le_refl _) (by omega)
  rw [List.take_length,hl,List.take_length,val_dig two_le_W,val_dig two_le_W,← hl] at ho
  refine order_loop (dig W a) (dig W b) hl ha _ _ (Nat.le_refl _) (fun h0=>?_) (fun h0=>?_)
  ·simp only [exK_exit]
   rw [← ho,h0]; exact out_int ..
  ·simp only [exK_ret2,exK_ret,ge_zero]
   rw [← ho]; exact out_int ..
 ·rw [if_pos (by omega)]
  split
  ·rename_i h
   have:=cmp_len two_le_W (m:=a) (n:=b) (by omega)
   rw [show cmp a b = -1 by simp [cmp,this]]
   exact out_int ..
  ·rename_i h
   have:=cmp_len two_le_W (m:=b) (n:=a) (by omega)
   rw [show cmp a b=1 by unfold cmp; rw [if_neg (by omega),if_pos this]]
   exact out_int ..
theorem plus_loop (a b:List Nat) (ha:Small W a) (hb:Small W b) (hab:b.length≤a.length) (hs:a.length < 2 ^ 40) (k:KL) (h0:Hp) (hh:h0.length=1) (N:Nat) (hN:N=a.length+1):∀ (r i c:Nat) (d:List Nat),d.length=i→i+r=N→Small W d→c≤1 →
  (a.length < i→c=0)→(∀ d':List Nat,d'.length=N→Small W d'→val W d'=val W d+W ^ i * (val W (a.drop i)+val W (b.drop i)+c)→k (.exit 0) [] [(1,.data 1 (d'.map u32) true false)]) →
  lp (checker_plus_l0 (CX Y) (lst u32 a) (lst u32 b) (.ref 0 1 0 N N N) (I N)) [] h0 [.d (.int .u64 c),I i] [(1,.data 1 ((d++List.replicate r 0).map u32) true false)] k:=by
 have h40:(2:Nat) ^ 40=1099511627776:=by decide
 intro r
 induction r with
 | zero =>
  intro i c d hd hi hsm hc hc0 hk
  refine lp_in ?_
  simp only [checker_plus_l0,ge_one,biI_lss,bnd_some,cnd_dec]
  rw [if_neg (by omega)]
  simp only [lpK_exit]
  have:=hk d (by omega) hsm (by
   rw [hc0 (by omega),List.drop_eq_nil_of_le (by omega),List.drop_eq_nil_of_le (by omega)]; simp [val])
  simpa using this
 | succ r ih =>
  intro i c d hd hi hsm hc hc0 hk
  have hal:=ha.getD W_pos i
  have hbl:=hb.getD W_pos i
  have addA:∀ (l:List Nat) (hl:l.length < 2 ^ 40) (h:Hp) (c x:Nat) (hx:x < W) (hxx:l.getD i 0=x) (hc:c < 2 * W) (q:List V→Hp→Prop),
    (if ((i:Int) < (l.length:Int)) then bnd (ixV h 1 (lst u32 l) (I i)) fun v=>bnd (ld1 h v) fun v=>bnd (cvI .u64 v) fun v=>bnd (biI .add (.d (.int .u64 c)) v) fun v=>q [v] h else q [.d (.int .u64 c)] h)=q [.d (.int .u64 ((c+x:Nat):Int))] h:=by
   intro l hl h c x hx hxx hc q
   simp only [W] at hx hc
   by_cases hi:i < l.length
   ·rw [if_pos (by omega)]
    simp only [ix_lst u32 l h rfl hi,ld_lst u32 l h hi,bnd_some,u32]
    have:l[i]=x:=by rw [← hxx]; simp [hi]
    rw [this,cv_u64 (by omega)]
    simp only [bnd_some]
    rw [add_u64 (by omega)]
    rfl
   ·rw [if_neg (by omega)]
    have:x=0:=by rw [← hxx]; simp [List.getElem?_eq_none (by omega:l.length≤i)]
    subst this; rfl
  have hdl:(d++List.replicate (r+1) 0).length=N:=by simp; omega
  refine lp_in ?_
  simp only [checker_plus_l0,ge_one,ge_zero,biI_lss,bnd_some,cnd_dec,lenV_lst]
  rw [if_pos (by omega),jn_to (addA a hs _ c (a.getD i 0) hal rfl (by simp only [W]; omega))]
  simp only [ge_zero]
  rw [jn_to (addA b (by omega) _ _ (b.getD i 0) hbl rfl (by simp only [W] at hal ⊢; omega))]
  simp only [ge_zero,cv_u32,bnd_some]
  generalize hx:a.getD i 0=x at *
  generalize hy:b.getD i 0=y at *
  rw [ix_blk (l:=d++List.replicate (r+1) 0) (f:=u32) rfl rfl (by omega) (by omega)]
  simp only [bnd_some]
  rw [show (V.d (D.int IntKind.u32 ((c+x+y) % 4294967296:Nat)))=.d (u32 ((c+x+y) % 4294967296)) from rfl,st_blk (l:=d++List.replicate (r+1) 0) (f:=u32) rfl (by omega) (by omega) rfl]
  simp only [List.set_cons_zero]
  rw [show ((32:Int))=((32:Nat):Int) from rfl,shr_of (k:=.u64) (l:=.u64) (by decide),show (2:Nat) ^ 32=4294967296 by decide]
  simp only [bnd_some]
  rw [succN (by omega)]
  simp only [bnd_some,lpK_normal,clean_nil,true_and]
  rw [reset_nil 0 h0 _ (by simp [hh]),← hd,set_front,hd]
  simp only [W] at hal hbl
  refine ih (i+1) ((c+x+y) / 4294967296) (d++[(c+x+y) % 4294967296]) (by simp [hd]) (by omega) (hsm.snoc (by simp only [W]; omega)) (by omega) (fun hlt=>?_) fun d' h1 h2 h3=>hk d' h1 h2 ?_
  ·have ex:x=0:=by rw [← hx]; simp [List.getElem?_eq_none (by omega:a.length≤i)]
   have ey:y=0:=by rw [← hy]; simp [List.getElem?_eq_none (by omega:b.length≤i)]
   omega
  ·rw [h3,val_snoc,hd,val_drop a i,val_drop b i,hx,hy,Nat.pow_succ,Nat.mul_assoc,Nat.add_assoc,← Nat.mul_add]
   congr 2
   simp only [W]
   omega
theorem plus_ok {a b:Nat} (ha:len a < 2 ^ 40) (hb:len b < 2 ^ 40):CP Y F.checker_plus [nat a,nat b] (nat (a+b)):=by
 have h40:(2:Nat) ^ 40=1099511627776:=by decide
 refine checker_plus_i ?_
 have body:∀ (a b:Nat),len a < 2 ^ 40→len b≤len a→∀ hh:Hp,hh=[(0,.none)]→(bnd (lenV (nat a)) fun v6=>bnd (biI .add v6 (.d (.int .i64 1))) fun v7=>mkS 0 4 [.int .u32 0] hh v7 v7 fun v8 h=>bnd (lenV v8) fun v9 =>
   lp (checker_plus_l0 (CX Y) (nat a) (nat b) v8 v9) [] h [(.d (.int .u64 0)),(.d (.int .i64 0))] h (exK [((.exit 0),fun l10 h=>cal (CX Y).p h (.fn F.checker_trim [] []) [v8] fun v11 h=>out (nat (a+b)) v11 h)])):=by
  intro a b ha hab hh hhe
  subst hhe
  simp only [len] at ha hab
  simp only [nat,lenV_lst,bnd_some]
  rw [succN (by omega)]
  simp only [bnd_some]
  refine mk_one (b:=.none) rfl (by omega) (by omega) ?_
  simp only [lenV,bnd_some,List.set_cons_zero]
  have e0:List.replicate ((dig W a).length+1) (D.int IntKind.u32 0)=(([]:List Nat)++List.replicate ((dig W a).length+1) 0).map u32:=by simp [u32]
  rw [e0]
  refine plus_loop (dig W a) (dig W b) (dig_small two_le_W a) (dig_small two_le_W b) hab (by omega) _ _ rfl _ rfl _ 0 0 [] rfl (by omega) (fun x hx=>by cases hx) (by omega) (fun h=>rfl) fun d h1 h2 h3=>?_
  simp only [exK_exit]
  simp only [List.drop_zero,val_dig two_le_W,val,Nat.pow_zero,Nat.one_mul,Nat.zero_add,Nat.add_zero] at h3
  have h50:(2:Nat) ^ 50=1125899906842624:=by decide
  have ht:=trim_ok h2 (by omega)
  rw [h3] at ht
  exact cal_of (snaps_cons (snap_blk rfl h1.symm (Nat.le_refl _) h1.symm) (snaps_nil _)) ht (out_lst ..)
 simp only [checker_plus,List.replicate,nat,lenV_lst,bnd_some,biI_lss,cnd_dec,jn_eq]
 split
 ·rename_i hlt
  simp only [ge_zero,ge_one]
  have:=body b a hb (by unfold len; omega) _ rfl
  rw [Nat.add_comm b a] at this
  exact this
 ·rename_i hlt
  simp only [ge_zero,ge_one]
  exact body a b ha (by unfold len; omega) _ rfl
theorem less_loop (a b:List Nat) (ha:Small W a) (hb:Small W b) (hab:b.length≤a.length) (hs:a.length < 2 ^ 40) (k:KL) (h0:Hp) (hh:h0.length=1) (N:Nat) (hN:N=a.length):∀ (r i c:Nat) (d:List Nat),d.length=i→i+r=N→Small W d→c≤1 →
  (∀ (d':List Nat) (c':Nat),d'.length=N→Small W d'→val W d'+W ^ i * (val W (b.drop i)+c)=val W d+W ^ i * val W (a.drop i)+W ^ N * c'→k (.exit 0) [] [(1,.data 1 (d'.map u32) true false)]) →
  lp (checker_less_l0 (CX Y) (lst u32 a) (lst u32 b) (.ref 0 1 0 N N N) (I N)) [] h0 [I c,I i] [(1,.data 1 ((d++List.replicate r 0).map u32) true false)] k:=by
 have h40:(2:Nat) ^ 40=1099511627776:=by decide
 intro r
 induction r with
 | zero =>
  intro i c d hd hi hsm hc hk
  refine lp_in ?_
  simp only [checker_less_l0,ge_one,biI_lss,bnd_some,cnd_dec]
  rw [if_neg (by omega)]
  simp only [lpK_exit]
  have:=hk d c (by omega) hsm (by
   rw [List.drop_eq_nil_of_le (by omega),List.drop_eq_nil_of_le (by omega),show i=N by omega]; simp [val])
  simpa using this
 | succ r ih =>
  intro i c d hd hi hsm hc hk
  have hia:i < a.length:=by omega
  have hal:=ha.getD W_pos i
  have hbl:=hb.getD W_pos i
  have hax:a[i]=a.getD i 0:=by simp [hia]
  have hdl:(d++List.replicate (r+1) 0).length=N:=by simp; omega
  refine lp_in ?_
  simp only [checker_less_l0,ge_one,ge_zero,biI_lss,bnd_some,cnd_dec,lenV_lst]
  rw [if_pos (by omega)]
  simp only [ix_lst u32 a _ rfl hia,ld_lst u32 a _ hia,bnd_some,u32,hax]
  generalize hx:a.getD i 0=x at *
  generalize hy:b.getD i 0=y at *
  simp only [W] at hal hbl
  rw [cvI_int,wrap_i64 (by omega)]
  simp only [bnd_some]
  rw [sub64 (by omega)]
  simp only [bnd_some]
  have subB:∀ (h:Hp) (q:List V→Hp→Prop),(if ((i:Int) < (b.length:Int)) then bnd (ixV h 1 (lst u32 b) (I i)) fun v=>bnd (ld1 h v) fun v=>bnd (cvI .i64 v) fun v=>bnd (biI .sub (I ((x:Int) - c)) v) fun v=>q [v] h else q [I ((x:Int) - c)] h)=q [I ((x:Int) - c - y)] h:=by
   intro h q
   by_cases hi:i < b.length
   ·rw [if_pos (by omega)]
    simp only [ix_lst u32 b h rfl hi,ld_lst u32 b h hi,bnd_some,u32]
    have:b[i]=y:=by rw [← hy]; simp [hi]
    rw [this,cvI_int,wrap_i64 (by omega)]
    simp only [bnd_some]
    rw [sub64 (by omega)]
    rfl
   ·rw [if_neg (by omega)]
    have:y=0:=by rw [← hy]; simp [List.getElem?_eq_none (by omega:b.length≤i)]
    subst this; simp
  rw [jn_to (subB _)]
  simp only [ge_zero,biI_lss,bnd_some,cnd_dec]
  have bor:∀ (h:Hp) (q:List V→Hp→Prop),(if ((x:Int) - c - y < 0) then bnd (biI .add (I ((x:Int) - c - y)) (.d (.int .i64 4294967296))) fun v=>q [v,.d (.int .i64 1)] h else q [I ((x:Int) - c - y),.d (.int .i64 0)] h) =
    q [I ((if x < c+y then x+4294967296 - (c+y) else x - (c+y):Nat):Int),I ((if x < c+y then 1 else 0:Nat):Int)] h:=by
   intro h q
   by_cases hlt:x < c+y
   ·rw [if_pos (by omega),if_pos hlt,if_pos hlt,add64 (by omega)]
    simp only [bnd_some]
    rw [show ((x:Int) - c - y+4294967296)=((x+4294967296 - (c+y):Nat):Int) by omega]
    rfl
   ·rw [if_neg (by omega),if_neg hlt,if_neg hlt]
    rw [show ((x:Int) - c - y)=((x - (c+y):Nat):Int) by omega]
    rfl
  rw [jn_to (bor _)]
  generalize hz:(if x < c+y then x+4294967296 - (c+y) else x - (c+y))=z
  generalize hc':(if x < c+y then 1 else 0:Nat)=c1
  have hz4:z < 4294967296:=by rw [← hz]; split <;> omega
  have hc1:c1≤1:=by rw [← hc']; split <;> omega
  have heq:z+(y+c)=x+4294967296 * c1:=by rw [← hz,← hc']; split <;> omega
  simp only [ge_zero,ge_one,cv_u32,bnd_some,Nat.mod_eq_of_lt hz4]
  rw [ix_blk (l:=d++List.replicate (r+1) 0) (f:=u32) rfl rfl (by omega) (by omega)]
  simp only [bnd_some]
  rw [show (V.d (D.int IntKind.u32 (z:Nat)))=.d (u32 z) from rfl,st_blk (l:=d++List.replicate (r+1) 0) (f:=u32) rfl (by omega) (by omega) rfl]
  simp only [List.set_cons_zero]
  rw [succN (by omega)]
  simp only [bnd_some,lpK_normal,clean_nil,true_and]
  rw [reset_nil 0 h0 _ (by simp [hh]),← hd,set_front,hd]
  refine ih (i+1) c1 (d++[z]) (by simp [hd]) (by omega) (hsm.snoc (by simp only [W]; omega)) hc1 fun d' c2 h1 h2 h3=>hk d' c2 h1 h2 ?_
  rw [val_snoc,hd,Nat.pow_succ,Nat.mul_assoc,Nat.mul_assoc] at h3
  rw [val_drop a i,val_drop b i,hx,hy]
  generalize val W (b.drop (i+1))=vb at *
  generalize val W (a.drop (i+1))=va at *
  have e1:W ^ i * (y+W * vb+c)+W ^ i * z=W ^ i * (W * (vb+c1))+W ^ i * x:=by
   rw [← Nat.mul_add,← Nat.mul_add]
   congr 1
   simp only [W]; omega
  rw [Nat.mul_add (W ^ i) x]
  omega
theorem less_ok {a b:Nat} (hba:b≤a) (ha:len a < 2 ^ 40):CP Y F.checker_less [nat a,nat b] (nat (a - b)):=by
 have h40:(2:Nat) ^ 40=1099511627776:=by decide
 have h50:(2:Nat) ^ 50=1125899906842624:=by decide
 have hlt:a < W ^ (dig W a).length:=(dig_len two_le_W).1 (Nat.le_refl _)
 have hbl:(dig W b).length≤(dig W a).length:=(dig_len two_le_W).2 (by omega)
 refine checker_less_i ?_
 simp only [len] at ha
 simp only [checker_less,List.replicate,nat,lenV_lst,bnd_some]
 refine mk_one (b:=.none) rfl (by omega) (by omega) ?_
 simp only [List.set_cons_zero]
 have e0:List.replicate ((dig W a).length) (D.int IntKind.u32 0)=(([]:List Nat)++List.replicate ((dig W a).length) 0).map u32:=by simp [u32]
 rw [e0]
 refine less_loop (dig W a) (dig W b) (dig_small two_le_W a) (dig_small two_le_W b) hbl ha _ _ rfl _ rfl _ 0 0 [] rfl (by omega) (fun x hx=>by cases hx) (by omega) fun d c h1 h2 h3=>?_
 simp only [exK_exit]
 simp only [List.drop_zero,val_dig two_le_W,val,Nat.pow_zero,Nat.one_mul,Nat.zero_add,Nat.add_zero] at h3
 have hd:=val_lt W_pos h2
 rw [h1] at hd
 have hc:c=0:=by
  rcases Nat.eq_zero_or_pos c with h | h
  ·exact h
  ·have:=Nat.mul_le_mul_left (W ^ (dig W a).length) h
   omega
 subst hc
 have ht:=trim_ok h2 (by omega)
 rw [show val W d=a - b by omega] at ht
 exact cal_of (snaps_cons (snap_blk rfl h1.symm (Nat.le_refl _) h1.symm) (snaps_nil _)) ht (out_lst ..)
theorem set_mid {α:Type} (p e t z:List α) (v w:α):(p++e++(w :: t)++z).set (p.length+e.length) v=p++(e++[v])++t++z:=by
 rw [List.set_append_left _ _ (by simp),List.set_append_right _ _ (by simp)]
 simp
theorem get_mid {α:Type} (p e t z:List α) (w:α) (h:p.length+e.length < (p++e++(w :: t)++z).length):(p++e++(w :: t)++z)[p.length+e.length]=w:=by
 rw [List.getElem_append_left (by simp),List.getElem_append_right (by simp)]
 simp
theorem product_in (b p z:List Nat) (x:Nat) (hx:x < W) (hb:Small W b) (hp:p.length+b.length+z.length < 2 ^ 50) (k:KL) (h0:Hp) (hh:h0.length=1) (N:Nat) (hN:N=p.length+b.length+z.length):∀ (r:Nat) (e t:List Nat) (c:Nat),
  t.length=r→e.length+r=b.length→Small W e→Small W t→c < W →
  (∀ (e':List Nat) (c':Nat),e'.length=b.length→Small W e'→c' < W→val W e'+W ^ b.length * c'=val W e+W ^ e.length * (val W t+c+x * val W (b.drop e.length))→k (.exit 2) [.d (.int .u64 c')] [(1,.data 1 ((p++e'++z).map u32) true false)]) →
  lp (checker_product_l1 (CX Y) (.ref 0 1 0 N N N) (I p.length) (.d (.int .u32 x)) (lst u32 b) (I b.length)) [] h0 [.d (.int .u64 c),I e.length] [(1,.data 1 ((p++e++t++z).map u32) true false)] k:=by
 have h50:(2:Nat) ^ 50=1125899906842624:=by decide
 intro r
 induction r with
 | zero =>
  intro e t c ht he hse hst hc hk
  have:t=[]:=List.eq_nil_of_length_eq_zero ht
  subst this
  refine lp_in ?_
  simp only [checker_product_l1,ge_one,biI_lss,bnd_some,cnd_dec]
  rw [if_neg (by omega)]
  simp only [lpK_exit,ge_zero]
  have:=hk e c (by omega) hse hc (by
   rw [List.drop_eq_nil_of_le (by omega),show e.length=b.length by omega]; simp [val])
  simpa using this
 | succ r ih =>
  intro e t c ht he hse hst hc hk
  obtain ⟨w,t,rfl⟩:∃ w t',t=w :: t':=by
   cases t with
   | nil=>simp at ht
   | cons w t=>exact ⟨w,t,rfl⟩
  have hw:=hst w (by simp)
  have hib:e.length < b.length:=by omega
  have hy:=hb.get hib
  have hlen:(p++e++(w :: t)++z).length=N:=by simp at ht ⊢; omega
  refine lp_in ?_
  simp only [checker_product_l1,ge_one,ge_zero,biI_lss,bnd_some,cnd_dec]
  rw [if_pos (by omega)]
  simp only [ix_lst u32 b _ rfl hib,ld_lst u32 b _ hib,bnd_some,u32]
  generalize hyy:b[e.length]=y at *
  have hxy:x * y≤4294967295 * 4294967295:=Nat.mul_le_mul (by simp only [W] at hx; omega) (by simp only [W] at hy; omega)
  simp only [W] at hx hy hw hc
  rw [cv_u64 (by omega),bnd_some,cv_u64 (by omega),bnd_some,mul_u64 (by omega),bnd_some,addN (by omega)]
  simp only [bnd_some]
  rw [ix_blk (l:=p++e++(w :: t)++z) (f:=u32) rfl rfl (by omega) hlen.symm]
  simp only [bnd_some]
  rw [ld_blk (l:=p++e++(w :: t)++z) (f:=u32) (ex:=true) (fr:=false) rfl (by omega) hlen.symm,get_mid]
  simp only [bnd_some,u32]
  rw [cv_u64 (by omega),bnd_some,add_u64 (by omega),bnd_some,add_u64 (by omega)]
  simp only [bnd_some,cv_u32]
  generalize hs:c+(x * y+w)=s at *
  rw [show (V.d (D.int IntKind.u32 ((s % 4294967296:Nat):Int)))=.d (u32 (s % 4294967296)) from rfl]
  rw [st_blk (l:=p++e++(w :: t)++z) (f:=u32) rfl (by omega) hlen.symm rfl]
  simp only [List.set_cons_zero]
  rw [show ((32:Int))=((32:Nat):Int) from rfl,shr_of (k:=.u64) (l:=.u64) (by decide),show (2:Nat) ^ 32=4294967296 by decide]
  simp only [bnd_some]
  rw [succN (by omega)]
  simp only [bnd_some,lpK_normal,clean_nil,true_and]
  rw [reset_nil 0 h0 _ (by simp [hh]),set_mid]
  have hel:(e++[s % 4294967296]).length=e.length+1:=by simp
  have:=ih (e++[s % 4294967296]) t (s / 4294967296) (by simpa using ht) (by omega) (hse.snoc (by simp only [W]; omega)) (fun q hq=>hst q (by simp [hq])) (by simp only [W]; omega) fun e' c' h1 h2 h3 h4=>hk e' c' h1 h2 h3 ?_
  ·rw [hel] at this
   exact this
  ·rw [h4,val_snoc,hel,Nat.pow_succ,Nat.mul_assoc,Nat.add_assoc,← Nat.mul_add,val_drop b e.length,show b.getD e.length 0=y by simp [hib,hyy]]
   congr 2
   simp only [val]
   generalize val W (b.drop (e.length+1))=vb at *
   rw [Nat.mul_add x,← Nat.mul_assoc x W,Nat.mul_comm x W,Nat.mul_assoc W x]
   generalize x * vb=xv at *
   simp only [W]
   omega
theorem product_loop (a b:List Nat) (ha:Small W a) (hb:Small W b) (hs:a.length < 2 ^ 40) (hs2:b.length < 2 ^ 40) (k:KL) (h0:Hp) (hh:h0.length=1) (N:Nat) (hN:N=a.length+b.length):∀ (r i:Nat) (d:List Nat),d.length=i+b.length→i+r=a.length→Small W d →
  (∀ d':List Nat,d'.length=N→Small W d'→val W d'=val W d+W ^ i * (val W (a.drop i) * val W b)→k (.exit 0) [] [(1,.data 1 (d'.map u32) true false)]) →
  lp (checker_product_l0 (CX Y) (lst u32 b) (.ref 0 1 0 N N N) (lst u32 a) (I a.length)) [] h0 [I i] [(1,.data 1 ((d++List.replicate r 0).map u32) true false)] k:=by
 have h40:(2:Nat) ^ 40=1099511627776:=by decide
 have h50:(2:Nat) ^ 50=1125899906842624:=by decide
 intro r
 induction r with
 | zero =>
  intro i d hd hi hsm hk
  refine lp_in ?_
  simp only [checker_product_l0,ge_zero,biI_lss,bnd_some,cnd_dec]
  rw [if_neg (by omega)]
  simp only [lpK_exit]
  have:=hk d (by omega) hsm (by rw [List.drop_eq_nil_of_le (by omega)]; simp [val])
  simpa using this
 | succ r ih =>
  intro i d hd hi hsm hk
  have hia:i < a.length:=by omega
  have hx:=ha.get hia
  refine lp_in ?_
  simp only [checker_product_l0,ge_zero,biI_lss,bnd_some,cnd_dec,lenV_lst]
  rw [if_pos (by omega)]
  simp only [ix_lst u32 a _ rfl hia,ld_lst u32 a _ hia,bnd_some]
  generalize hxx:a[i]=x at *
  have hpl:(d.take i).length=i:=by rw [List.length_take]; omega
  have htl:(d.drop i).length=b.length:=by rw [List.length_drop]; omega
  have hdd:d++List.replicate (r+1) 0=d.take i++[]++d.drop i++List.replicate (r+1) 0:=by simp
  rw [hdd]
  have key:=product_in b (d.take i) (List.replicate (r+1) 0) x hx hb (by rw [hpl,List.length_replicate]; omega)
  rw [hpl] at key
  refine key _ _ rfl N (by simp; omega) b.length [] (d.drop i) 0 htl (by simp) (fun q hq=>by cases hq) (hsm.drop i) W_pos fun e c h1 h2 h3 h4=>?_
  simp only [exK_exit,bnd_some,ge_zero]
  rw [addN (by omega)]
  simp only [bnd_some,cv_u32]
  have hlen:(d.take i++e++List.replicate (r+1) 0).length=N:=by simp [hpl,h1]; omega
  rw [ix_blk (l:=d.take i++e++List.replicate (r+1) 0) (f:=u32) rfl rfl (by omega) hlen.symm]
  simp only [bnd_some]
  have hcm:c % 4294967296=c:=Nat.mod_eq_of_lt h3
  rw [hcm,show (V.d (D.int IntKind.u32 (c:Nat)))=.d (u32 c) from rfl,st_blk (l:=d.take i++e++List.replicate (r+1) 0) (f:=u32) rfl (by omega) hlen.symm rfl]
  simp only [List.set_cons_zero]
  rw [succN (by omega)]
  simp only [bnd_some,lpK_normal,clean_nil,true_and]
  have hset:(d.take i++e++List.replicate (r+1) 0).set (i+b.length) c=(d.take i++e++[c])++List.replicate r 0:=by
   have:i+b.length=(d.take i++e).length:=by simp [hpl,h1]
   rw [this,set_front]
  rw [reset_nil 0 h0 _ (by simp [hh]),hset]
  refine ih (i+1) (d.take i++e++[c]) (by simp [hpl,h1]; omega) (by omega) (((hsm.take i).append h2).snoc h3) fun d' g1 g2 g3=>hk d' g1 g2 ?_
  have hv:val W d=val W (d.take i)+W ^ i * val W (d.drop i):=by
   have:=val_append (B:=W) (d.take i) (d.drop i)
   rw [List.take_append_drop,hpl] at this
   exact this
  rw [g3,List.append_assoc,val_append,hpl,val_snoc,h1,h4,hv,val_drop a i,show a.getD i 0=x by simp [hia,hxx]]
  simp only [val,List.length_nil,Nat.pow_zero,Nat.one_mul,Nat.zero_add,Nat.add_zero,List.drop_zero]
  rw [Nat.pow_succ,Nat.mul_assoc,Nat.add_assoc,Nat.add_assoc,← Nat.mul_add,← Nat.mul_add]
  congr 2
  rw [Nat.add_mul,Nat.mul_assoc,Nat.add_assoc]
theorem product_ok {a b:Nat} (ha:len a < 2 ^ 40) (hb:len b < 2 ^ 40):CP Y F.checker_product [nat a,nat b] (nat (a * b)):=by
 have h40:(2:Nat) ^ 40=1099511627776:=by decide
 have h50:(2:Nat) ^ 50=1125899906842624:=by decide
 refine checker_product_i ?_
 simp only [len] at ha hb
 simp only [checker_product,List.replicate,nat,lenV_lst,bnd_some]
 rw [addN (by omega)]
 simp only [bnd_some]
 refine mk_one (b:=.none) rfl (by omega) (by omega) ?_
 simp only [List.set_cons_zero]
 have e0:List.replicate ((dig W a).length+(dig W b).length) (D.int IntKind.u32 0)=(List.replicate (dig W b).length 0++List.replicate (dig W a).length 0).map u32:=by
  rw [List.replicate_append_replicate]; simp [u32,Nat.add_comm]
 rw [e0]
 refine product_loop (dig W a) (dig W b) (dig_small two_le_W a) (dig_small two_le_W b) ha hb _ _ rfl _ rfl _ 0 _ (by simp) (by omega) (fun x hx=>by rw [List.mem_replicate] at hx; rw [hx.2]; exact W_pos) fun d h1 h2 h3=>?_
 simp only [exK_exit]
 rw [val_zeros,List.drop_zero,val_dig two_le_W,val_dig two_le_W,Nat.pow_zero,Nat.one_mul,Nat.zero_add] at h3
 have ht:=trim_ok h2 (by omega)
 rw [h3] at ht
 exact cal_of (snaps_cons (snap_blk rfl h1.symm (Nat.le_refl _) h1.symm) (snaps_nil _)) ht (out_lst ..)
end Go.Vm
