/- Lemmas for walking through texts: what operations find of known values; loops; slices as lists. -/
import Derived.Test.YtbdajblfnkoagaaGreatDoorQVmB
set_option linter.unusedVariables false
set_option linter.unusedSimpArgs false
namespace Go.Vm
open Go Go.Am
@[simp] theorem bnd_some (v:V) (k:V→Prop):bnd (some v) k=k v:=rfl
theorem cnd_dec (p:Prop) [Decidable p] (A B:Prop):cnd (.d (.bool (decide p))) A B=if p then A else B:=by
 unfold cnd
 by_cases h:p <;> simp [h]
theorem gd_yes {p:Prop} [Decidable p] (hp:p) (h:Hp) (T:(V→Hp→Prop)→Prop) (k:V→Hp→Prop):gd (.d (.bool (decide p))) true h T k=T k:=by simp [gd,hp]
theorem pick_yes {p:Prop} [Decidable p] (hp:p) (x y:V):pickV (.d (.bool (decide p))) x y=some x:=by simp [pickV,hp]
theorem pick_no {p:Prop} [Decidable p] (hp:¬ p) (x y:V):pickV (.d (.bool (decide p))) x y=some y:=by simp [pickV,hp]
@[simp low] theorem pick_bool (b:Bool) (x y:V):pickV (.d (.bool b)) x y=some (if b=true then x else y):=by cases b <;> rfl
@[simp] theorem ext_tup (l:List V) (i:Nat) (k:V→Prop):ext (.tup l) i k=bnd l[i]? k:=rfl
theorem jn_eq (k:List V→Hp→Prop) (T:(List V→Hp→Prop)→Prop):jn k T=T k:=rfl
theorem jn_to {k:List V→Hp→Prop} {T:(List V→Hp→Prop)→Prop} {l:List V} {h:Hp} (hT:∀ q,T q=q l h):jn k T=k l h:=hT k
@[simp] theorem ge_zero (x:V) (l:List V):ge (x :: l) 0=x:=rfl
@[simp] theorem ge_succ (x:V) (l:List V) (n:Nat):ge (x :: l) (n+1)=ge l n:=rfl
@[simp] theorem ge_one (x y:V) (l:List V):ge (x :: y :: l) 1=y:=rfl
@[simp] theorem ge_two (x y z:V) (l:List V):ge (x :: y :: z :: l) 2=z:=rfl
@[simp] theorem ge_three (x y z u:V) (l:List V):ge (x :: y :: z :: u :: l) 3=u:=rfl
@[simp] theorem exK_exit (i:Nat) (q:List V→Hp→Prop) (r:List (Exit × (List V→Hp→Prop))) (l:List V) (h:Hp):exK ((.exit i,q) :: r) (.exit i) l h=q l h:=by
 simp only [exK,exEq,Nat.beq_refl]
@[simp] theorem exK_ret (q:List V→Hp→Prop) (r:List (Exit × (List V→Hp→Prop))) (l:List V) (h:Hp):exK ((.ret,q) :: r) .ret l h=q l h:=rfl
@[simp] theorem exK_ret2 (i:Nat) (p:List V→Hp→Prop) (r:List (Exit × (List V→Hp→Prop))) (l:List V) (h:Hp):exK ((.exit i,p) :: r) .ret l h=exK r .ret l h:=rfl
theorem lp_in {step:StepT} {clr:List Nat} {h0:Hp} {l:List V} {h:Hp} {k:KL} (hs:step l h (lpK clr h0 (fun l h=>lp step clr h0 l h k) k)):lp step clr h0 l h k:=by
 intro I hI
 refine hI l h ⟨_,hs,fun ex l' h' hq=>?_⟩
 cases ex
 case normal=>exact ⟨hq.1,hq.2 I hI⟩
 all_goals exact hq
@[simp] theorem lpK_normal (clr:List Nat) (h0:Hp) (I:List V→Hp→Prop) (k:KL) (l:List V) (h:Hp):lpK clr h0 I k .normal l h=(clean clr l h=true∧I l (resetGo clr 0 h0 h)):=rfl
@[simp] theorem lpK_exit (clr:List Nat) (h0:Hp) (I:List V→Hp→Prop) (k:KL) (i:Nat) (l:List V) (h:Hp):lpK clr h0 I k (.exit i) l h=k (.exit i) l h:=rfl
@[simp] theorem lpK_ret (clr:List Nat) (h0:Hp) (I:List V→Hp→Prop) (k:KL) (l:List V) (h:Hp):lpK clr h0 I k .ret l h=k .ret l h:=rfl
theorem offSs_nil:∀ l:List V,offSs [] l=true:=by
 intro l
 have key:∀ x:V,offS [] x=true:=by
  intro x
  induction x using V.rec (motive_2:=fun l=>offSs [] l=true) with
  | agg l ih=>simpa only [offS] using ih
  | tup l ih=>simpa only [offS] using ih
  | fn g a b iha ihb=>simp only [offS,iha,ihb,Bool.and_self]
  | ifc t x ih=>simpa only [offS] using ih
  | nil=>rfl
  | cons x l ih ihl=>simp only [offSs,ih,ihl,Bool.and_self]
  | _=>rfl
 induction l with
 | nil=>rfl
 | cons x l ih=>simp only [offSs,key,ih,Bool.and_self]
theorem offH_nil:∀ (h:Hp) (i:Nat),offH [] i h=true
 | [],_=>rfl
 | (_,b) :: h,i=>by
  simp only [offH,offH_nil h,Bool.and_true,Bool.or_eq_true,Bool.not_eq_true']
  right
  cases b <;> simp [offB,offSs_nil]
@[simp] theorem clean_nil (l:List V) (h:Hp):clean [] l h=true:=by simp [clean,offSs_nil,offH_nil]
theorem reset_nil:∀ (i:Nat) (h0 h:Hp),h.length=h0.length→resetGo [] i h0 h=h
 | _,[],h,_=>by cases h <;> rfl
 | _,_ :: _,[],_=>rfl
 | i,(e0,b0) :: h0,(e,b) :: h,hl=>by
  simp only [resetGo,notIn,if_true]
  rw [reset_nil (i+1) h0 h (by simpa using hl)]
theorem wrap_i64 {n:Int} (h : -9223372036854775808≤n∧n≤9223372036854775807):IntKind.wrap .i64 n=n:=by
 have e1:(2:Int) ^ 64=18446744073709551616:=by decide
 have e2:(2:Int) ^ (64 - 1)=9223372036854775808:=by decide
 simp only [IntKind.wrap,IntKind.bits,IntKind.signed,e1,e2,Bool.true_and,decide_eq_true_eq]
 split <;> omega
theorem wrap_u {k:IntKind} (hk:k.signed=false) {n:Int} (h:0≤n∧n < 2 ^ k.bits):k.wrap n=n:=by
 simp only [IntKind.wrap,hk,Bool.false_and,Bool.false_eq_true,if_false]
 exact Int.emod_eq_of_lt h.1 h.2
theorem wrap_u64 {n:Int} (h:0≤n∧n < 18446744073709551616):IntKind.wrap .u64 n=n:=wrap_u rfl h
theorem wrap_u32 {n:Int} (h:0≤n∧n < 4294967296):IntKind.wrap .u32 n=n:=wrap_u rfl h
theorem wrap_u32' (n:Int):IntKind.wrap .u32 n=n % 4294967296:=by
 simp only [IntKind.wrap,show IntKind.signed .u32=false from rfl,Bool.false_and,Bool.false_eq_true,if_false]; rfl
theorem wrap_u64' (n:Int):IntKind.wrap .u64 n=n % 18446744073709551616:=by
 simp only [IntKind.wrap,show IntKind.signed .u64=false from rfl,Bool.false_and,Bool.false_eq_true,if_false]; rfl
abbrev I (n:Int):V:=.d (.int .i64 n)
abbrev B (b:Bool):V:=.d (.bool b)
@[simp] theorem biI_lss (k:IntKind) (a b:Int):biI .lss (.d (.int k a)) (.d (.int k b))=some (.d (.bool (decide (a < b)))):=by simp [biI,intBin,ofVal,litD]
@[simp] theorem biI_leq (k:IntKind) (a b:Int):biI .leq (.d (.int k a)) (.d (.int k b))=some (.d (.bool (decide (a≤b)))):=by simp [biI,intBin,ofVal,litD]
@[simp] theorem biI_gtr (k:IntKind) (a b:Int):biI .gtr (.d (.int k a)) (.d (.int k b))=some (.d (.bool (decide (b < a)))):=by simp [biI,intBin,ofVal,litD]
@[simp] theorem biI_geq (k:IntKind) (a b:Int):biI .geq (.d (.int k a)) (.d (.int k b))=some (.d (.bool (decide (b≤a)))):=by simp [biI,intBin,ofVal,litD]
@[simp] theorem biI_eql (k:IntKind) (a b:Int):biI .eql (.d (.int k a)) (.d (.int k b))=some (.d (.bool (decide (a=b)))):=by simp [biI,intBin,ofVal,litD]; rfl
@[simp] theorem biI_neq (k:IntKind) (a b:Int):biI .neq (.d (.int k a)) (.d (.int k b))=some (.d (.bool (decide (a≠b)))):=by simp [biI,intBin,ofVal,litD]; rfl
theorem biI_add (k:IntKind) (a b:Int):biI .add (.d (.int k a)) (.d (.int k b))=some (.d (.int k (k.wrap (a+b)))):=by simp [biI,intBin,ofVal,litD]
theorem biI_sub (k:IntKind) (a b:Int):biI .sub (.d (.int k a)) (.d (.int k b))=some (.d (.int k (k.wrap (a - b)))):=by simp [biI,intBin,ofVal,litD]
theorem biI_mul (k:IntKind) (a b:Int):biI .mul (.d (.int k a)) (.d (.int k b))=some (.d (.int k (k.wrap (a * b)))):=by simp [biI,intBin,ofVal,litD]
theorem add64 {a b:Int} (h : -9223372036854775808≤a+b∧a+b≤9223372036854775807):biI .add (I a) (I b)=some (I (a+b)):=by rw [biI_add,wrap_i64 h]
theorem sub64 {a b:Int} (h : -9223372036854775808≤a - b∧a - b≤9223372036854775807):biI .sub (I a) (I b)=some (I (a - b)):=by rw [biI_sub,wrap_i64 h]
@[simp] theorem cvI_int (k l:IntKind) (n:Int):cvI k (.d (.int l n))=some (.d (.int k (k.wrap n))):=rfl
@[simp] theorem biB_eql (a b:Bool):biB .eql (.d (.bool a)) (.d (.bool b))=some (.d (.bool (a == b))):=rfl
@[simp] theorem biB_neq (a b:Bool):biB .neq (.d (.bool a)) (.d (.bool b))=some (.d (.bool (a != b))):=rfl
@[simp] theorem unV_not (b:Bool):unV .not (.d (.bool b))=some (.d (.bool (!b))):=rfl
def lst {α:Type} (f:α→D) (l:List α):V:=.d (.sl l.length (l.map f))
section
variable {α:Type} (f:α→D) (l:List α)
@[simp] theorem lenV_lst:lenV (lst f l)=some (I l.length):=rfl
theorem ix_lst (h:Hp) {k:IntKind} {i:Int} {j:Nat} (hj:i=j) (hl:j < l.length):ixV h 1 (lst f l) (.d (.int k i))=some (.dptr (l.map f) j):=by
 subst hj
 simp only [ixV,lst]
 rw [if_pos ⟨by omega,by omega,by simp⟩]
 simp
theorem ld_lst (h:Hp) {j:Nat} (hl:j < l.length):ld1 h (.dptr (l.map f) j)=some (.d (f l[j])):=by
 simp [ld1,hl]
end
section
variable {α:Type} (f:α→D) (l:List α)
theorem boV_none (d top:Nat):boV d top none=some d:=rfl
theorem boV_some {d top j:Nat} {i:Int} {k:IntKind} (hi:i=j) (hj:j≤top):boV d top (some (.d (.int k i)))=some j:=by
 subst hi
 simp only [boV]
 rw [if_pos ⟨by omega,by omega⟩]
 simp
theorem sl_lst {h:Hp} {lo hi:Option V} {i j:Nat} (h0:0 < l.length) (hj:boV l.length l.length hi=some j) (hi2:boV 0 j lo=some i) (hij:i≤j) (hjl:j≤l.length):slV h 1 (lst f l) lo hi=some (lst f ((l.drop i).take (j - i))):=by
 simp only [slV,lst,hj,hi2]
 rw [if_pos ⟨by simp,h0⟩]
 simp only [Nat.mul_one,List.map_take,List.map_drop,List.length_take,List.length_drop]
 rw [Nat.min_eq_left (by omega)]
theorem sl_hi {h:Hp} {i:Int} {j:Nat} (h0:0 < l.length) (hi:i=j) (hj:j≤l.length):slV h 1 (lst f l) none (some (I i))=some (lst f (l.take j)):=by
 rw [sl_lst f l h0 (boV_some hi hj) (boV_none 0 j) (Nat.zero_le _) hj]; simp
theorem sl_lo {h:Hp} {i:Int} {j:Nat} (h0:0 < l.length) (hi:i=j) (hj:j≤l.length):slV h 1 (lst f l) (some (I i)) none=some (lst f (l.drop j)):=by
 rw [sl_lst f l h0 (boV_none _ _) (boV_some hi hj) hj (Nat.le_refl _)]
 rw [List.take_of_length_le (by simp)]
end
@[simp] theorem snap_d (h:Hp) (x:D):snap h (.d x)=some (.d (norm x),h):=by simp [snap]
@[simp] theorem norm_int (k:IntKind) (n:Int):norm (.int k n)=.int k n:=rfl
@[simp] theorem norm_bool (b:Bool):norm (.bool b)=.bool b:=rfl
@[simp] theorem norm_str (s:List UInt8):norm (.str s)=.str s:=rfl
@[simp] theorem norm_sl (n:Nat) (l:List D):norm (.sl n l)=.sl n l:=rfl
@[simp] theorem norm_nil:norm (.pl (.slice none 0 0))=.sl 0 []:=rfl
@[simp] theorem snap_lst {α:Type} (h:Hp) (f:α→D) (l:List α):snap h (lst f l)=some (lst f l,h):=by simp [lst]
@[simp] theorem snaps_nil (h:Hp):snaps h []=some ([],h):=by simp [snaps]
theorem snaps_cons {h h1 h2:Hp} {v x:V} {l xs:List V} (e1:snap h v=some (x,h1)) (e2:snaps h1 l=some (xs,h2)):snaps h (v :: l)=some (x :: xs,h2):=by
 simp [snaps,e1,e2]
theorem cai_of {D:Calls2} {h h':Hp} {f:FuncId} {args:List V} {v:V} {s:Nat} {k:V→Hp→Prop} (hc:D f args h v h') (hk:k v h') (hn:∀ n cells ex len cap,v≠.new n cells ex len cap) (hn2:∀ n,v≠.cut n:=by simp):cai D h (.fn f [] []) args s k:=by
 simp only [cai,List.nil_append,List.append_nil]
 refine ⟨v,h',hc,?_⟩
 split
 ·exact absurd rfl (hn _ _ _ _ _)
 ·exact absurd rfl (hn2 _)
 ·exact hk
theorem cai_new {h h':Hp} {f:FuncId} {args:List V} {n len cap:Nat} {cells:List D} {s e:Nat} {b:Bk} {ex:Bool} {k:V→Hp→Prop} {DD:Calls2} (hc:DD f args h (.new n cells ex len cap) h') (hs:h'[s]? = some (e,b))
  (hk:k (.ref s (e+1) 0 len cap cells.length) (h'.set s (e+1,.data n cells ex false))):cai DD h (.fn f [] []) args s k:=by
 simp only [cai,List.nil_append,List.append_nil]
 exact ⟨_,h',hc,by simp only [new,hs]; exact hk⟩
theorem cal_of {C:Calls1} {h h':Hp} {f:FuncId} {args ds:List V} {v:V} {k:V→Hp→Prop} (hs:snaps h args=some (ds,h')) (hc:C f ds v) (hk:k v (if plainV v then h else h')):cal C h (.fn f [] []) args k:=by
 simp only [cal,List.nil_append,List.append_nil,hs]
 exact ⟨v,hc,hk⟩
theorem cal_d {C:Calls1} {h:Hp} {f:FuncId} {args:List V} {v:V} {k:V→Hp→Prop} (hc:C f args v) (hs:snaps h args=some (args,h)) (hk:k v h):cal C h (.fn f [] []) args k :=
 cal_of hs hc (by simpa using hk)
theorem out_d {x:D} {h:Hp} (hx:norm x=x):out (.d x) (.d x) h:=⟨h,by simp [hx]⟩
theorem out_lst {α:Type} (f:α→D) (l:List α) (h:Hp):out (lst f l) (lst f l) h:=⟨h,by simp⟩
@[simp] theorem out_int (k:IntKind) (n:Int) (h:Hp):out (.d (.int k n)) (.d (.int k n)) h:=out_d rfl
@[simp] theorem out_bool (b:Bool) (h:Hp):out (.d (.bool b)) (.d (.bool b)) h:=out_d rfl
theorem shr_of {k:IntKind} {a b:Nat} {l:IntKind} (hb:b≤k.bits):biI .shr (.d (.int k a)) (.d (.int l b))=some (.d (.int k ((a / 2 ^ b:Nat):Int))):=by
 have h1:¬ ((b:Int) < 0):=by omega
 simp only [biI,intBin,h1,if_false,ofVal,litD,Int.toNat_natCast,Nat.min_eq_left hb]
 rw [Int.fdiv_eq_ediv_of_nonneg _ (by exact Int.le_of_lt (Int.pow_pos (by decide)))]
 simp
theorem add_u64 {a b:Nat} (h:a+b < 18446744073709551616):biI .add (.d (.int .u64 a)) (.d (.int .u64 b))=some (.d (.int .u64 ((a+b:Nat):Int))):=by
 rw [biI_add,wrap_u64 (by omega)]; simp
theorem mul_u64 {a b:Nat} (h:a * b < 18446744073709551616):biI .mul (.d (.int .u64 a)) (.d (.int .u64 b))=some (.d (.int .u64 ((a * b:Nat):Int))):=by
 rw [biI_mul,wrap_u64 ⟨by rw [← Int.natCast_mul]; omega,by rw [← Int.natCast_mul]; omega⟩]; simp
theorem cv_u64 {k:IntKind} {a:Nat} (h:a < 18446744073709551616):cvI .u64 (.d (.int k a))=some (.d (.int .u64 a)):=by
 rw [cvI_int,wrap_u64 (by omega)]
theorem cv_u32 {k:IntKind} (a:Nat):cvI .u32 (.d (.int k a))=some (.d (.int .u32 ((a % 4294967296:Nat):Int))):=by
 rw [cvI_int,wrap_u32']; simp
theorem addN {a b:Nat} (h:a+b≤9223372036854775807):biI .add (I a) (I b)=some (I ((a+b:Nat):Int)):=by
 rw [add64 (by omega)]; simp
theorem succN {a:Nat} (h:a+1≤9223372036854775807):biI .add (I a) (I 1)=some (I ((a+1:Nat):Int)):=addN h
theorem mk_one {s by_:Nat} {z:D} {h:Hp} {n:Nat} {e:Nat} {b:Bk} {k:V→Hp→Prop} (hs:h[s]? = some (e,b)) (hn:by_ * n≤281474976710656) (hn2:n≤9223372036854775807)
  (hk:k (.ref s (e+1) 0 n n n) (h.set s (e+1,.data 1 (List.replicate n z) true false))):mkS s by_ [z] h (I n) (I n) k:=by
 have hr:∀ n,repl n [z]=List.replicate n z:=fun n=>by
  induction n with
  | zero=>rfl
  | succ n ih=>simp [repl,ih,List.replicate_succ]
 simp only [mkS]
 rw [if_pos ⟨by omega,by omega,by simp,by rw [← Int.natCast_mul]; omega,by omega⟩]
 simp only [new,hs,Int.toNat_natCast,hr,List.length_replicate,List.length_singleton]
 exact hk
section
variable {α:Type} {f:α→D} {l:List α} {h:Hp} {s e:Nat} {ex fr:Bool}
theorem ix_blk (hs:h[s]? = some (e,.data 1 (l.map f) ex fr)) {k:IntKind} {i:Int} {j len cap tot:Nat} (hij:i=j) (hj:j < len) (ht:tot=l.length):ixV h 1 (.ref s e 0 len cap tot) (.d (.int k i))=some (.ptr s e j tot):=by
 subst hij
 simp only [ixV,hget,hs,if_true]
 rw [if_pos ⟨by simp [ht],by omega,by omega⟩]
 simp
theorem ld_blk (hs:h[s]? = some (e,.data 1 (l.map f) ex fr)) {j tot:Nat} (hj:j < l.length) (ht:tot=l.length):ld1 h (.ptr s e j tot)=some (.d (f l[j])):=by
 simp [ld1,hget,hs,ht,hj]
theorem st_blk (hs:h[s]? = some (e,.data 1 (l.map f) ex false)) {j tot:Nat} (hj:j < l.length) (ht:tot=l.length) {x:α} (hn:norm (f x)=f x) {k:V→Hp→Prop} :
  stD h 1 (.ptr s e j tot) (.d (f x)) k=k .junk (h.set s (e,.data 1 ((l.set j x).map f) ex false)):=by
 have e1:(l.map f).take j++[f x]++(l.map f).drop (j+1)=(l.set j x).map f:=by
  rw [List.map_set,List.set_eq_take_append_cons_drop,if_pos (by simpa using hj)]
  simp
 have hle:j+1≤l.length:=hj
 simp only [stD,st,sto,hget,hs,if_true,toDs,toD,hn]
 simp only [List.length_singleton,List.length_map,ht,true_and,hle,if_true,hset,and_self]
 rw [e1]
end
theorem snap_blk {α:Type} {f:α→D} {l:List α} {h:Hp} {s e:Nat} {ex fr:Bool} (hs:h[s]? = some (e,.data 1 (l.map f) ex fr)) {n m tot:Nat} (hn:n=l.length) (hm:n≤m) (ht:tot=l.length) :
  snap h (.ref s e 0 n m tot)=some (lst f l,h.set s (e,.data 1 (l.map f) ex true)):=by
 subst hn; subst ht
 simp only [snap,toD,hget,hs,if_true,List.length_map]
 rw [if_pos ⟨trivial,hm,by omega⟩]
 simp only [List.drop_zero,Nat.mul_one,hset,lst]
 rw [List.take_of_length_le (by simp)]
end Go.Vm
