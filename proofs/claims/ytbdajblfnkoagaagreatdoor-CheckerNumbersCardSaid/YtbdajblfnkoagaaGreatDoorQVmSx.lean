/- Walking by simp: congruences that keep simp at the head; what operations find, as equations. -/
import Derived.Test.YtbdajblfnkoagaaGreatDoorQVmLib
set_option linter.unusedVariables false
set_option linter.unusedSimpArgs false
namespace Go.Vm
open Go Go.Am
inductive PU {α:Type} (k:α):Type where
 | mk
def rn {α:Type} (T:(α→Prop)→Prop) (k:α→Prop) (u:PU k):Prop:=T k
def rh {α β:Type} (T:(α→β→Prop)→Prop) (k:α→β→Prop) (u:PU k):Prop:=T k
def rl (T:KL→Prop) (k:KL) (u:PU k):Prop:=T k
def br (p A B:Prop) (u:PU A) (w:PU B):Prop:=(p→A)∧(¬ p→B)
def jo (k:List V→Hp→Prop) (T:(List V→Hp→Prop)→Prop) (u:PU k) (w:PU T):Prop:=T k
theorem br_in {p A B:Prop} {u:PU A} {w:PU B} (h1:p→A) (h2:¬ p→B):br p A B u w:=⟨h1,h2⟩
@[simp] theorem br_true (A B:Prop) (u:PU A) (w:PU B):br True A B u w=A:=by simp [br]
@[simp] theorem br_false (A B:Prop) (u:PU A) (w:PU B):br False A B u w=B:=by simp [br]
@[simp] theorem br_pos {p A B:Prop} {u:PU A} {w:PU B} (h:p):br p A B u w=A:=by simp [br,h]
@[simp] theorem br_neg {p A B:Prop} {u:PU A} {w:PU B} (h:¬ p):br p A B u w=B:=by simp [br,h]
theorem jo_to {k:List V→Hp→Prop} {T:(List V→Hp→Prop)→Prop} {u:PU k} {w:PU T} {l:List V} {h:Hp} (hT:∀ q,T q=q l h) (hk:k l h):jo k T u w:=by
 unfold jo; rw [hT]; exact hk
theorem jo_in {k:List V→Hp→Prop} {T:(List V→Hp→Prop)→Prop} {u:PU k} {w:PU T} (h:T k):jo k T u w:=h
@[simp ↓] theorem bnd_rn (o:Option V) (k:V→Prop):bnd o k=rn (bnd o) k .mk:=id rfl
@[simp ↓] theorem ext_rn (x:V) (i:Nat) (k:V→Prop):ext x i k=rn (ext x i) k .mk:=id rfl
@[simp ↓] theorem nilD_rn (h:Hp) (op:BinOp) (x y:V) (k:V→Prop):nilD h op x y k=rn (nilD h op x y) k .mk:=id rfl
@[simp ↓] theorem cnd_br (b:Bool) (A B:Prop):cnd (.d (.bool b)) A B=br (b=true) A B .mk .mk:=by cases b <;> simp [cnd,br]
@[simp ↓] theorem gd_true (b:Bool) (h:Hp) (T:(V→Hp→Prop)→Prop) (k:V→Hp→Prop):gd (.d (.bool b)) true h T k=br (b=true) (T k) (k (.tup []) h) .mk .mk:=by cases b <;> simp [gd,br]
@[simp ↓] theorem gd_false (b:Bool) (h:Hp) (T:(V→Hp→Prop)→Prop) (k:V→Hp→Prop):gd (.d (.bool b)) false h T k=br (b=false) (T k) (k (.tup []) h) .mk .mk:=by cases b <;> simp [gd,br]
@[simp ↓] theorem gd_undef (w:Bool) (h:Hp) (T:(V→Hp→Prop)→Prop) (k:V→Hp→Prop):gd (.tup []) w h T k=k (.tup []) h:=id rfl
@[simp ↓] theorem jn_jo (k:List V→Hp→Prop) (T:(List V→Hp→Prop)→Prop):jn k T=jo k T .mk .mk:=id rfl
@[simp ↓] theorem cal_rh (C:Calls1) (h:Hp) (c:V) (args:List V) (k:V→Hp→Prop):cal C h c args k=rh (cal C h c args) k .mk:=id rfl
@[simp ↓] theorem cai_rh (C:Calls2) (h:Hp) (c:V) (args:List V) (s:Nat) (k:V→Hp→Prop):cai C h c args s k=rh (cai C h c args s) k .mk:=id rfl
@[simp ↓] theorem caiP_rh (C:Calls2) (h:Hp) (c:V) (args:List V) (s:Nat) (k:V→Hp→Prop):caiP C h c args s k=rh (caiP C h c args s) k .mk:=id rfl
@[simp ↓] theorem alV_rh (s:Nat) (cs:List V) (h:Hp) (k:V→Hp→Prop):alV s cs h k=rh (alV s cs h) k .mk:=id rfl
@[simp ↓] theorem alD_rh (s n:Nat) (cs:List D) (h:Hp) (k:V→Hp→Prop):alD s n cs h k=rh (alD s n cs h) k .mk:=id rfl
@[simp ↓] theorem boxD_rh (s:Nat) (v:V) (h:Hp) (k:V→Hp→Prop):boxD s v h k=rh (boxD s v h) k .mk:=id rfl
@[simp ↓] theorem lisD_rh (len:Nat) (z:List D) (ps:List (Nat × V)) (h:Hp) (k:V→Hp→Prop):lisD len z ps h k=rh (lisD len z ps h) k .mk:=id rfl
@[simp ↓] theorem lisS_rh (s len:Nat) (z:List D) (ps:List (Nat × V)) (h:Hp) (k:V→Hp→Prop):lisS s len z ps h k=rh (lisS s len z ps h) k .mk:=id rfl
@[simp ↓] theorem mkS_rh (s by_:Nat) (z:List D) (h:Hp) (l c:V) (k:V→Hp→Prop):mkS s by_ z h l c k=rh (mkS s by_ z h l c) k .mk:=id rfl
@[simp ↓] theorem stD_rh (h:Hp) (n:Nat) (p v:V) (k:V→Hp→Prop):stD h n p v k=rh (stD h n p v) k .mk:=id rfl
@[simp ↓] theorem apV_rh (dr:Bool) (s n by_:Nat) (x y:V) (h:Hp) (k:V→Hp→Prop):apV dr s n by_ x y h k=rh (apV dr s n by_ x y h) k .mk:=id rfl
@[simp ↓] theorem apZ_rh (dr:Bool) (s n by_:Nat) (z:List D) (x y:V) (h:Hp) (k:V→Hp→Prop):apZ dr s n by_ z x y h k=rh (apZ dr s n by_ z x y h) k .mk:=id rfl
@[simp ↓] theorem lp_rl (st:StepT) (clr:List Nat) (h0:Hp) (l:List V) (h:Hp) (k:KL):lp st clr h0 l h k=rl (lp st clr h0 l h) k .mk:=id rfl
@[simp] theorem rn_bnd (v:V) (k:V→Prop) (u:PU k):rn (bnd (some v)) k u=k v:=id rfl
@[simp] theorem rn_ext (vs:List V) (i:Nat) (k:V→Prop) (u:PU k):rn (ext (.tup vs) i) k u=rn (bnd vs[i]?) k u:=id rfl
attribute [simp] pick_yes pick_no Int.natCast_inj
@[simp] theorem pick_not (b:Bool) (x y:V):pickV (.d (.bool (!b))) x y=pickV (.d (.bool b)) y x:=by cases b <;> rfl
@[simp] theorem wrap_i64' {n:Int} (h1 : -9223372036854775808≤n) (h2:n≤9223372036854775807):IntKind.wrap .i64 n=n:=wrap_i64 ⟨h1,h2⟩
@[simp] theorem wrap_u64'' {n:Int} (h1:0≤n) (h2:n < 18446744073709551616):IntKind.wrap .u64 n=n:=wrap_u64 ⟨h1,h2⟩
@[simp] theorem wrap_u32'' {n:Int} (h1:0≤n) (h2:n < 4294967296):IntKind.wrap .u32 n=n:=wrap_u32 ⟨h1,h2⟩
@[simp] theorem wrap_u8' {n:Int} (h1:0≤n) (h2:n < 256):IntKind.wrap .u8 n=n:=wrap_u rfl ⟨h1,h2⟩
attribute [simp] biI_add biI_sub biI_mul
@[simp] theorem biI_rem {k:IntKind} {a b:Int} (hb:b≠0):biI .rem (.d (.int k a)) (.d (.int k b))=some (.d (.int k (a.tmod b))):=by simp [biI,intBin,ofVal,litD,hb]
@[simp] theorem biI_quo {k:IntKind} {a b:Int} (hb:b≠0):biI .quo (.d (.int k a)) (.d (.int k b))=some (.d (.int k (k.wrap (a.tdiv b)))):=by simp [biI,intBin,ofVal,litD,hb]
theorem biI_shr {k l:IntKind} {a b:Int} (h0:0≤b) (hb:b.toNat≤k.bits):biI .shr (.d (.int k a)) (.d (.int l b))=some (.d (.int k (a / 2 ^ b.toNat))):=by
 have h1:¬ (b < 0):=by omega
 simp only [biI,intBin,h1,if_false,ofVal,litD,Nat.min_eq_left hb]
 rw [Int.fdiv_eq_ediv_of_nonneg _ (by exact Int.le_of_lt (Int.pow_pos (by decide)))]
theorem biI_shl {k l:IntKind} {a b:Int} (h0:0≤b) (hb:b.toNat≤k.bits):biI .shl (.d (.int k a)) (.d (.int l b))=some (.d (.int k (k.wrap (a * 2 ^ b.toNat)))):=by
 have h1:¬ (b < 0):=by omega
 simp only [biI,intBin,h1,if_false,ofVal,litD,Nat.min_eq_left hb]
@[simp] theorem bits_i64:IntKind.bits .i64=64:=rfl
@[simp] theorem bits_u64:IntKind.bits .u64=64:=rfl
@[simp] theorem bits_u32:IntKind.bits .u32=32:=rfl
@[simp] theorem bits_u8:IntKind.bits .u8=8:=rfl
@[simp] theorem shr_i64 {l:IntKind} {a b:Int} (h0:0≤b) (hb:b≤64):biI .shr (.d (.int .i64 a)) (.d (.int l b))=some (.d (.int .i64 (a / 2 ^ b.toNat))):=biI_shr h0 (by simp; omega)
@[simp] theorem shl_i64 {l:IntKind} {a b:Int} (h0:0≤b) (hb:b≤64):biI .shl (.d (.int .i64 a)) (.d (.int l b))=some (.d (.int .i64 (IntKind.wrap .i64 (a * 2 ^ b.toNat)))):=biI_shl h0 (by simp; omega)
@[simp] theorem shr_u64 {l:IntKind} {a b:Int} (h0:0≤b) (hb:b≤64):biI .shr (.d (.int .u64 a)) (.d (.int l b))=some (.d (.int .u64 (a / 2 ^ b.toNat))):=biI_shr h0 (by simp; omega)
@[simp] theorem shl_u64 {l:IntKind} {a b:Int} (h0:0≤b) (hb:b≤64):biI .shl (.d (.int .u64 a)) (.d (.int l b))=some (.d (.int .u64 (IntKind.wrap .u64 (a * 2 ^ b.toNat)))):=biI_shl h0 (by simp; omega)
@[simp] theorem shr_u32 {l:IntKind} {a b:Int} (h0:0≤b) (hb:b≤32):biI .shr (.d (.int .u32 a)) (.d (.int l b))=some (.d (.int .u32 (a / 2 ^ b.toNat))):=biI_shr h0 (by simp; omega)
@[simp] theorem shl_u32 {l:IntKind} {a b:Int} (h0:0≤b) (hb:b≤32):biI .shl (.d (.int .u32 a)) (.d (.int l b))=some (.d (.int .u32 (IntKind.wrap .u32 (a * 2 ^ b.toNat)))):=biI_shl h0 (by simp; omega)
@[simp] theorem unV_neg (k:IntKind) (n:Int):unV .neg (.d (.int k n))=some (.d (.int k (k.wrap (-n)))):=by simp [unV,intBin,ofVal,litD]
def nth {α:Type} (d:α) (l:List α) (i:Nat):α:=l.getD i d
theorem nth_eq {α:Type} (d:α) (l:List α) (i:Nat) (h:i < l.length):nth d l i=l[i]:=by simp [nth,h]
@[simp] theorem nth_mid {α:Type} (d:α) (p:List α) (x:α) (q:List α):nth d (p++x :: q) p.length=x:=by simp [nth]
section
variable {α:Type} (f:α→D)
@[simp] theorem ix_nth (l:List α) (h:Hp) {k:IntKind} {i:Int} (h0:0≤i) (h1:i < l.length):ixV h 1 (lst f l) (.d (.int k i))=some (.dptr (l.map f) i.toNat) :=
 ix_lst f l h (Int.toNat_of_nonneg h0).symm (by omega)
theorem ld_nth (d:α) (l:List α) (h:Hp) {j:Nat} (hl:j < l.length):ld1 h (.dptr (l.map f) j)=some (.d (f (nth d l j))):=by
 rw [ld_lst f l h hl,nth_eq d l j hl]
@[simp] theorem ix_mid (p:List α) (x:α) (q:List α) (h:Hp) (k:IntKind):ixV h 1 (lst f (p++x :: q)) (.d (.int k p.length))=some (.dptr ((p++x :: q).map f) p.length) :=
 ix_lst f _ h rfl (by simp)
omit f in
@[simp] theorem ld_mid (a:List D) (x:D) (b:List D) (h:Hp) {j:Nat} (hj:j=a.length):ld1 h (.dptr (a++x :: b) j)=some (.d x):=by
 subst hj; simp [ld1]
omit f in
@[simp] theorem ld_hd (x:D) (b:List D) (h:Hp):ld1 h (.dptr (x :: b) 0)=some (.d x):=by simp [ld1]
end
section
variable {α:Type} (f:α→D) (l:List α)
@[simp] theorem sx_hi (h:Hp) {i:Int} (h0:0≤i) (h1:i≤l.length) (hp:0 < l.length):slV h 1 (lst f l) none (some (I i))=some (lst f (l.take i.toNat)):=sl_hi f l hp (by omega) (by omega)
@[simp] theorem sx_lo (h:Hp) {i:Int} (h0:0≤i) (h1:i≤l.length) (hp:0 < l.length):slV h 1 (lst f l) (some (I i)) none=some (lst f (l.drop i.toNat)):=sl_lo f l hp (by omega) (by omega)
end
@[simp] theorem ixP_d (len n:Nat) (cs:List D) (off:Nat) {k:IntKind} {i:Int} (h0:0≤i) (h1:i < len):ixP len n (.dptr cs off) (.d (.int k i))=some (.dptr cs (off+i.toNat * n)):=by
 simp only [ixP]; rw [if_pos ⟨h0,h1⟩]
@[simp] theorem ixP_p (len n:Nat) (s e off tot:Nat) {k:IntKind} {i:Int} (h0:0≤i) (h1:i < len):ixP len n (.ptr s e off tot) (.d (.int k i))=some (.ptr s e (off+i.toNat * n) tot):=by
 simp only [ixP]; rw [if_pos ⟨h0,h1⟩]
theorem ld1_d (h:Hp) (cs:List D) (pos:Nat) {x:D} (hx:cs[pos]? = some x):ld1 h (.dptr cs pos)=some (.d x):=by simp only [ld1,hx]
def lstm {α:Type} (f:α→List D) (l:List α):V:=.d (.sl l.length (l.flatMap f))
section
variable {α:Type} (f:α→List D) {n:Nat} (hf:∀ x,(f x).length=n)
include hf
theorem flat_len (l:List α):(l.flatMap f).length=l.length * n:=by
 induction l with
 | nil=>simp
 | cons x l ih=>simp [List.flatMap_cons,hf,ih,Nat.add_mul,Nat.add_comm]
theorem cut_flat (d:α) (l:List α) {j:Nat} (hj:j < l.length):cut (l.flatMap f) (j * n) n=some (f (nth d l j)):=by
 have hle:j * n+n≤(l.flatMap f).length:=by
  rw [flat_len f hf,← Nat.succ_mul]; exact Nat.mul_le_mul_right n hj
 simp only [cut,if_pos hle,Option.some.injEq]
 clear hle
 induction l generalizing j with
 | nil=>cases hj
 | cons x l ih =>
  cases j with
  | zero=>simp [nth,List.flatMap_cons,← hf x]
  | succ j =>
   have:=ih (j:=j) (by simpa using hj)
   rw [List.flatMap_cons,Nat.succ_mul,Nat.add_comm,← List.drop_drop]
   conv=>lhs; rw [← hf x]
   rw [List.drop_left,hf x,this]
   simp [nth]
theorem ixm_nth (l:List α) (h:Hp) {k:IntKind} {i:Int} (h0:0≤i) (h1:i < l.length):ixV h n (lstm f l) (.d (.int k i))=some (.dptr (l.flatMap f) (i.toNat * n)):=by
 simp only [ixV,lstm]
 rw [if_pos ⟨h0,h1,flat_len f hf l⟩]
theorem ldm_nth (d:α) (l:List α) (h:Hp) {j:Nat} (hj:j < l.length):ldA h n (.dptr (l.flatMap f) (j * n))=some (.agg ((f (nth d l j)).map .d)):=by
 simp only [ldA,cut_flat f hf d l hj]
end
@[simp] theorem lenV_lstm {α:Type} (f:α→List D) (l:List α):lenV (lstm f l)=some (I l.length):=id rfl
@[simp] theorem snap_lstm {α:Type} (h:Hp) (f:α→List D) (l:List α):snap h (lstm f l)=some (lstm f l,h):=by simp [lstm]
def fillX (place:Nat→Option (Nat × Nat)) (cs:List V) (ps:List (Nat × V)):Option (List V):=fillV place cs ps
@[simp] theorem fillX_nil (place:Nat→Option (Nat × Nat)) (cs:List V):fillX place cs []=some cs:=id rfl
def fillP (o:Option (Nat × Nat)) (place:Nat→Option (Nat × Nat)) (cs:List V) (v:V) (r:List (Nat × V)):Option (List V):=match o with
 | none=>none
 | some (off,sz)=>match cellsV v with
  | none=>none
  | some vs=>if vs.length=sz∧off+vs.length≤cs.length then fillX place (cs.take off++vs++cs.drop (off+vs.length)) r else none
@[simp] theorem fillX_cons (place:Nat→Option (Nat × Nat)) (cs:List V) (i:Nat) (v:V) (r:List (Nat × V)):fillX place cs ((i,v) :: r)=fillP (place i) place cs v r:=id rfl
@[simp] theorem fillP_d (place:Nat→Option (Nat × Nat)) (cs:List V) (x:D) (r:List (Nat × V)) (off sz:Nat) :
  fillP (some (off,sz)) place cs (.d x) r=if 1=sz∧off+1≤cs.length then fillX place (cs.take off++[.d x]++cs.drop (off+1)) r else none:=id rfl
@[simp] theorem fillP_agg (place:Nat→Option (Nat × Nat)) (cs:List V) (vs:List V) (r:List (Nat × V)) (off sz:Nat) :
  fillP (some (off,sz)) place cs (.agg vs) r=if vs.length=sz∧off+vs.length≤cs.length then fillX place (cs.take off++vs++cs.drop (off+vs.length)) r else none:=id rfl
@[simp] theorem fillP_ref (place:Nat→Option (Nat × Nat)) (cs:List V) (a b c d e f:Nat) (r:List (Nat × V)) (off sz:Nat) :
  fillP (some (off,sz)) place cs (.ref a b c d e f) r=if 1=sz∧off+1≤cs.length then fillX place (cs.take off++[.ref a b c d e f]++cs.drop (off+1)) r else none:=id rfl
def bldX (fs:List (Nat × Nat)) (z:List D) (ps:List (Nat × V)):Option V:=bld fs z ps
def bldY (n:Nat) (z:List D) (ps:List (Nat × V)):Option V:=bldA n z ps
@[simp] theorem rn_bld (fs:List (Nat × Nat)) (z:List D) (ps:List (Nat × V)) (k:V→Prop) (u:PU k):rn (bnd (bld fs z ps)) k u=rn (bnd (bldX fs z ps)) k u:=id rfl
@[simp] theorem rn_bldA (n:Nat) (z:List D) (ps:List (Nat × V)) (k:V→Prop) (u:PU k):rn (bnd (bldA n z ps)) k u=rn (bnd (bldY n z ps)) k u:=id rfl
@[simp] theorem bldX_eq (fs:List (Nat × Nat)) (z:List D) (ps:List (Nat × V)):bldX fs z ps=(fillX (fun i=>fs[i]?) (z.map .d) ps).map .agg:=id (by unfold bldX bld fillX; cases fillV (fun i=>fs[i]?) (z.map .d) ps <;> rfl)
@[simp] theorem bldY_eq (n:Nat) (z:List D) (ps:List (Nat × V)):bldY n z ps=(fillX (fun i=>some (i * n,n)) (z.map .d) ps).map .agg:=id (by unfold bldY bldA fillX; cases fillV (fun i=>some (i * n,n)) (z.map .d) ps <;> rfl)
@[simp] theorem fi_one (off n:Nat) (vs:List V):fiV off n true (.agg vs)=vs[off]?:=id rfl
@[simp] theorem fa_dptr (cs:List D) (o off:Nat):faV off (.dptr cs o)=some (.dptr cs (o+off)):=id rfl
@[simp] theorem fa_ptr (s e o tot off:Nat):faV off (.ptr s e o tot)=some (.ptr s e (o+off) tot):=id rfl
def bnh {α:Type} (o:Option α) (k:α→Prop):Prop:=match o with
 | some x=>k x
 | none=>False
@[simp] theorem rn_bnh {α:Type} (x:α) (k:α→Prop) (u:PU k):rn (bnh (some x)) k u=k x:=id rfl
@[simp] theorem rh_stD (h:Hp) (n:Nat) (p v:V) (k:V→Hp→Prop) (u:PU k):rh (stD h n p v) k u=rn (bnh (st h n p v)) (fun h'=>k .junk h') .mk:=by
 unfold rh rn stD bnh; cases st h n p v <;> rfl
theorem new_bnh (h:Hp) (s:Nat) (b:Bk) (k:Nat→Hp→Prop):new h s b k=bnh h[s]? fun x=>k (x.1+1) (h.set s (x.1+1,b)):=by
 unfold new bnh; cases h[s]? <;> rfl
@[simp] theorem rh_alV (s:Nat) (cs:List V) (h:Hp) (k:V→Hp→Prop) (u:PU k):rh (alV s cs h) k u=rn (bnh h[s]?) (fun x=>k (.ptr s (x.1+1) 0 cs.length) (h.set s (x.1+1,.vars cs))) .mk:=by unfold rh rn alV; exact new_bnh ..
@[simp] theorem rh_boxD (s:Nat) (vs:List V) (h:Hp) (k:V→Hp→Prop) (u:PU k):rh (boxD s (.agg vs) h) k u=rh (alV s vs h) k u:=id rfl
@[simp] theorem rh_boxD1 (s:Nat) (x:D) (h:Hp) (k:V→Hp→Prop) (u:PU k):rh (boxD s (.d x) h) k u=rh (alV s [.d x] h) k u:=id rfl
def lisR (len:Nat) (z:List D) (ps:List (Nat × V)) (h:Hp):Option (List D × Hp):=match fillX (fun i=>some (i * z.length,z.length)) ((repl len z).map .d) ps with
 | some vs=>if 0 < z.length∧len * z.length≤16777216 then toDs h vs else none
 | none=>none
@[simp] theorem rh_lisD (len:Nat) (z:List D) (ps:List (Nat × V)) (h:Hp) (k:V→Hp→Prop) (u:PU k):rh (lisD len z ps h) k u=rn (bnh (lisR len z ps h)) (fun x=>k (.d (.sl len x.1)) x.2) .mk:=by
 unfold rh rn lisD lisR bnh fillX
 cases fillV (fun i=>some (i * z.length,z.length)) ((repl len z).map .d) ps with
 | none=>rfl
 | some vs =>
  simp only
  split
  ·cases toDs h vs <;> rfl
  ·rfl
@[simp] theorem rh_lisS (s len:Nat) (z:List D) (ps:List (Nat × V)) (h:Hp) (k:V→Hp→Prop) (u:PU k):rh (lisS s len z ps h) k u=rn (bnh (lisR len z ps h)) (fun x=>rn (bnh x.2[s]?) (fun y=>k (.ref s (y.1+1) 0 len len x.1.length) (x.2.set s (y.1+1,.data z.length x.1 true false))) .mk) .mk:=by
 unfold rh rn lisS lisR bnh fillX
 cases fillV (fun i=>some (i * z.length,z.length)) ((repl len z).map .d) ps with
 | none=>rfl
 | some vs =>
  simp only
  split
  ·cases toDs h vs with
   | none=>rfl
   | some x=>simp only [new_bnh]; rfl
  ·rfl
def hgetX (h:Hp) (s e:Nat):Bk:=hget h s e
@[simp] theorem hgetX_zero (e0:Nat) (b:Bk) (h:Hp) (e:Nat):hgetX ((e0,b) :: h) 0 e=if e0=e then b else .none:=id rfl
@[simp] theorem hgetX_succ (x:Nat × Bk) (h:Hp) (s e:Nat):hgetX (x :: h) (s+1) e=hgetX h s e:=id rfl
@[simp] theorem hgetX_one (x:Nat × Bk) (h:Hp) (e:Nat):hgetX (x :: h) 1 e=hgetX h 0 e:=id rfl
@[simp] theorem hgetX_two (x:Nat × Bk) (h:Hp) (e:Nat):hgetX (x :: h) 2 e=hgetX h 1 e:=id rfl
@[simp] theorem hgetX_three (x:Nat × Bk) (h:Hp) (e:Nat):hgetX (x :: h) 3 e=hgetX h 2 e:=id rfl
@[simp] theorem hgetX_four (x:Nat × Bk) (h:Hp) (e:Nat):hgetX (x :: h) 4 e=hgetX h 3 e:=id rfl
def ld1X (b:Bk) (off tot:Nat):Option V:=match b with
 | .vars cs=>if tot=cs.length then cs[off]? else none
 | .data _ cs _ _=>if tot=cs.length then cs[off]?.map .d else none
 | .none=>none
def ldAX (b:Bk) (n off tot:Nat):Option V:=match b with
 | .vars cs=>if tot=cs.length then (cut cs off n).map .agg else none
 | .data _ cs _ _=>if tot=cs.length then (cut cs off n).map fun l=>.agg (l.map .d) else none
 | .none=>none
theorem ld1_X (h:Hp) (s e off tot:Nat):ld1 h (.ptr s e off tot)=ld1X (hgetX h s e) off tot:=by
 unfold hgetX
 simp only [ld1]
 cases hget h s e with
 | none=>rfl
 | vars cs=>rfl
 | data n cs a b =>
  simp only [ld1X]
  split
  ·cases cs[off]? <;> rfl
  ·rfl
theorem ldA_X (h:Hp) (n s e off tot:Nat):ldA h n (.ptr s e off tot)=ldAX (hgetX h s e) n off tot:=by
 unfold hgetX
 simp only [ldA]
 cases hget h s e with
 | none=>rfl
 | vars cs =>
  simp only [ldAX]
  split
  ·cases cut cs off n <;> rfl
  ·rfl
 | data m cs a b =>
  simp only [ldAX]
  split
  ·cases cut cs off n <;> rfl
  ·rfl
@[simp] theorem rn_ld1 (h:Hp) (s e off tot:Nat) (k:V→Prop) (u:PU k):rn (bnd (ld1 h (.ptr s e off tot))) k u=rn (bnd (ld1X (hgetX h s e) off tot)) k u:=by rw [ld1_X]
@[simp] theorem rn_ldA (h:Hp) (n s e off tot:Nat) (k:V→Prop) (u:PU k):rn (bnd (ldA h n (.ptr s e off tot))) k u=rn (bnd (ldAX (hgetX h s e) n off tot)) k u:=by rw [ldA_X]
@[simp] theorem ld1X_vars (cs:List V) (off tot:Nat):ld1X (.vars cs) off tot=if tot=cs.length then cs[off]? else none:=id rfl
@[simp] theorem ld1X_data (n:Nat) (cs:List D) (a b:Bool) (off tot:Nat):ld1X (.data n cs a b) off tot=if tot=cs.length then cs[off]?.map .d else none:=id rfl
@[simp] theorem ldAX_vars (cs:List V) (n off tot:Nat):ldAX (.vars cs) n off tot=if tot=cs.length then (cut cs off n).map .agg else none:=id rfl
@[simp] theorem ldAX_data (m:Nat) (cs:List D) (a b:Bool) (n off tot:Nat):ldAX (.data m cs a b) n off tot=if tot=cs.length then (cut cs off n).map (fun l=>.agg (l.map .d)) else none:=id rfl
def stX (b:Bk) (h:Hp) (s e off tot:Nat) (vs:List V):Option Hp:=match b with
 | .vars cs=>if tot=cs.length∧off+vs.length≤cs.length∧vs.all okV=true then some (hset h s e (.vars (cs.take off++vs++cs.drop (off+vs.length)))) else none
 | _=>sto h s e off tot vs
theorem sto_X (h:Hp) (s e off tot:Nat) (vs:List V):sto h s e off tot vs=stX (hgetX h s e) h s e off tot vs:=by
 unfold hgetX stX
 cases hb:hget h s e with
 | vars cs=>simp [sto,hb]
 | none=>rfl
 | data n cs a b=>rfl
@[simp] theorem rn_stA (h:Hp) (n s e off tot:Nat) (vs:List V) (k:Hp→Prop) (u:PU k):rn (bnh (st h n (.ptr s e off tot) (.agg vs))) k u=rn (bnh (if vs.length=n then stX (hgetX h s e) h s e off tot vs else none)) k u:=by
 simp only [rn,st,sto_X]
def st1X (b:Bk) (h:Hp) (s e off tot:Nat) (x:D):Option Hp:=match b with
 | .vars cs=>if tot=cs.length∧off+1≤cs.length then some (hset h s e (.vars (cs.take off++[.d x]++cs.drop (off+1)))) else none
 | .data n cs ex fr=>if fr=false∧tot=cs.length∧off+1≤cs.length then some (hset h s e (.data n (cs.set off (norm x)) ex false)) else none
 | .none=>none
theorem st1_X (h:Hp) (s e off tot:Nat) (x:D):st h 1 (.ptr s e off tot) (.d x)=st1X (hgetX h s e) h s e off tot x:=by
 unfold hgetX
 simp only [st,if_true]
 cases hb:hget h s e with
 | none=>simp [sto,hb,st1X]
 | vars cs=>simp [sto,hb,st1X,okV]
 | data n cs ex fr =>
  simp only [sto,hb,toDs,toD,st1X]
  by_cases hc:fr=false∧tot=cs.length∧off+1≤cs.length
  ·rw [if_pos hc,if_pos (by simpa using hc)]
   rw [List.set_eq_take_append_cons_drop,if_pos (by omega)]
   simp
  ·rw [if_neg hc,if_neg (by simpa using hc)]
@[simp] theorem rn_st1 (h:Hp) (s e off tot:Nat) (x:D) (k:Hp→Prop) (u:PU k):rn (bnh (st h 1 (.ptr s e off tot) (.d x))) k u=rn (bnh (st1X (hgetX h s e) h s e off tot x)) k u:=by rw [st1_X]
@[simp] theorem st1X_vars (cs:List V) (h:Hp) (s e off tot:Nat) (x:D):st1X (.vars cs) h s e off tot x=if tot=cs.length∧off+1≤cs.length then some (hset h s e (.vars (cs.take off++[.d x]++cs.drop (off+1)))) else none:=id rfl
@[simp] theorem st1X_data (n:Nat) (cs:List D) (ex:Bool) (h:Hp) (s e off tot:Nat) (x:D) (ht:tot=cs.length) (ho:off < cs.length):st1X (.data n cs ex false) h s e off tot x=some (hset h s e (.data n (cs.set off (norm x)) ex false)):=by
 simp only [st1X]; simp [ht]; omega
def ixX (b:Bk) (n s e off len tot:Nat) (i:Int):Option V:=match b with
 | .data _ cs _ _=>if tot=cs.length∧0≤i∧i < len then some (.ptr s e (off+i.toNat * n) tot) else none
 | _=>none
@[simp] theorem rn_ixR (h:Hp) (n s e off len cap tot:Nat) (kd:IntKind) (i:Int) (k:V→Prop) (u:PU k):rn (bnd (ixV h n (.ref s e off len cap tot) (.d (.int kd i)))) k u=rn (bnd (ixX (hgetX h s e) n s e off len tot i)) k u:=by
 have:ixV h n (.ref s e off len cap tot) (.d (.int kd i))=ixX (hgetX h s e) n s e off len tot i:=by
  unfold hgetX; simp only [ixV,ixX]; cases hget h s e <;> rfl
 rw [this]
@[simp] theorem ixX_data (m:Nat) (cs:List D) (a b:Bool) (n s e off len tot:Nat) (i:Int) (ht:tot=cs.length) (h0:0≤i) (h1:i < len):ixX (.data m cs a b) n s e off len tot i=some (.ptr s e (off+i.toNat * n) tot):=by
 simp only [ixX]; rw [if_pos ⟨ht,h0,h1⟩]
@[simp] theorem rn_stR (h:Hp) (n s e off tot a b c d f g:Nat) (k:Hp→Prop) (u:PU k):rn (bnh (st h n (.ptr s e off tot) (.ref a b c d f g))) k u=rn (bnh (if n=1 then stX (hgetX h s e) h s e off tot [.ref a b c d f g] else none)) k u:=by
 simp only [rn,st,sto_X]
@[simp] theorem stX_vars (cs:List V) (h:Hp) (s e off tot:Nat) (vs:List V):stX (.vars cs) h s e off tot vs=if tot=cs.length∧off+vs.length≤cs.length∧vs.all okV=true then some (hset h s e (.vars (cs.take off++vs++cs.drop (off+vs.length)))) else none:=id rfl
@[simp] theorem hset_eq (h:Hp) (s e:Nat) (b:Bk):hset h s e b=h.set s (e,b):=rfl
@[simp] theorem okV_d (x:D):okV (.d x)=true:=rfl
@[simp] theorem okV_ref (a b c d e f:Nat):okV (.ref a b c d e f)=true:=rfl
@[simp] theorem cut_eq {α:Type} (l:List α) (off n:Nat):cut l off n=if off+n≤l.length then some ((l.drop off).take n) else none:=id rfl
@[simp] theorem reset_keep (i:Nat) (h0 h:Hp) (hl:h.length=h0.length):resetGo [] i h0 h=h:=reset_nil i h0 h hl
structure Acc where
 s:Nat
 e:Nat
 n:Nat
 b0:Bk
def Acc.v (a:Acc) (L:Nat) (cells:List D):V:=match L with
 | 0=>.d (.pl (.slice none 0 0))
 | _=>.ref a.s (a.e+1) 0 L L cells.length
def Acc.b (a:Acc) (L:Nat) (cells:List D):Nat × Bk:=match L with
 | 0=>(a.e,a.b0)
 | _=>(a.e+1,.data a.n cells false false)
theorem acc_app (a:Acc) {L by_ k:Nat} {cells cs:List D} {h:Hp} {y:V} {q:V→Hp→Prop} {u:PU q} (hk:0 < k) (hs:h[a.s]? = some (a.b L cells)) (hc:cells.length=L * a.n) (hcs:cs.length=k * a.n)
  (hy:cellsOf h y=some (k,cs)) (hyn:∀ t,y≠.d (.str t)) (hb:(L+k) * by_≤140737488355328) (hn:0 < a.n) (hq:q (a.v (L+k) (cells++cs)) (h.set a.s (a.b (L+k) (cells++cs)))):rh (apV false a.s a.n by_ (a.v L cells) y h) q u:=by
 have e1:apV false a.s a.n by_ (a.v L cells) y h q=apC false a.s a.n by_ (a.v L cells) k cs h q:=by
  unfold apV
  split
  ·rename_i t; exact absurd rfl (hyn t)
  ·rw [hy]; simp only [hcs,if_true]
 show apV false a.s a.n by_ (a.v L cells) y h q
 rw [e1]
 have hlt:=(List.getElem?_eq_some_iff.1 hs).1
 obtain ⟨m,hm⟩:∃ m,L+k=m+1:=⟨L+k - 1,by omega⟩
 cases L with
 | zero =>
  have:cells=[]:=List.eq_nil_of_length_eq_zero (by simpa using hc)
  subst this
  simp only [Nat.zero_add,List.nil_append] at *
  simp only [Acc.v]
  unfold apC
  rw [if_neg (by omega)]
  simp only []
  rw [if_pos (by omega)]
  simp only [new,hs,Acc.b]
  subst hm
  simpa only [Acc.v,Acc.b] using hq
 | succ L =>
  simp only [Acc.v]
  unfold apC
  rw [if_neg (by omega)]
  have hg:hget h a.s (a.e+1)=.data a.n cells false false:=by simp only [hget,hs,Acc.b,if_true]
  simp only [hg,true_and,Nat.zero_add]
  rw [if_pos ⟨Nat.le_refl _,by omega,hcs⟩,if_neg (by omega),if_pos hb]
  simp only [Bool.false_eq_true,if_false,Bool.or_self]
  have hpos:0 < cs.length:=by rw [hcs]; exact Nat.mul_pos hk hn
  rw [if_pos ⟨by omega,by rw [hc]; omega⟩]
  rw [hm] at hq ⊢
  simp only [Acc.v,Acc.b,List.length_append,hset,hc] at hq ⊢
  simp only [List.drop_zero]
  rw [List.take_of_length_le (by omega)]
  exact hq
theorem acc_snap (a:Acc) {L:Nat} {cells:List D} {h:Hp} (hs:h[a.s]? = some (a.b L cells)) (hc:cells.length=L * a.n) :
  ∃ h',snap h (a.v L cells)=some (.d (.sl L cells),h')∧((L=0∧h'=h)∨(0 < L∧h'=h.set a.s (a.e+1,.data a.n cells false true))):=by
 cases L with
 | zero =>
  have:cells=[]:=List.eq_nil_of_length_eq_zero (by simpa using hc)
  subst this
  exact ⟨h,by simp [Acc.v],.inl ⟨rfl,rfl⟩⟩
 | succ L =>
  have hg:hget h a.s (a.e+1)=.data a.n cells false false:=by simp only [hget,hs,Acc.b,if_true]
  refine ⟨_,?_,.inr ⟨Nat.succ_pos _,rfl⟩⟩
  simp only [Acc.v,snap,toD,hg,true_and,Nat.zero_add]
  rw [if_pos ⟨Nat.le_refl _,by omega⟩]
  simp only [List.drop_zero,hset]
  rw [List.take_of_length_le (by omega)]
theorem acc_out (a:Acc) {L:Nat} {cells:List D} {h:Hp} (hs:h[a.s]? = some (a.b L cells)) (hc:cells.length=L * a.n):out (.d (.sl L cells)) (a.v L cells) h:=by
 obtain ⟨h',h1,_⟩:=acc_snap a hs hc
 exact ⟨h',h1⟩
theorem out_b {b b':Bool} {h:Hp} (e:b'=b):out (B b) (.d (.bool b')) h:=by subst e; exact out_bool ..
theorem out_i {k:IntKind} {a b:Int} {h:Hp} (e:b=a):out (.d (.int k a)) (.d (.int k b)) h:=by subst e; exact out_int ..
theorem cd {C:Calls1} {h:Hp} {f:FuncId} {args:List V} {v:V} {k:V→Hp→Prop} {u:PU k} (hc:C f args v) (hk:k v h) (hs:snaps h args=some (args,h):=by simp [snaps,snap]):rh (cal C h (.fn f [] []) args) k u:=cal_d hc hs hk
theorem cdx {C:Calls1} {h:Hp} {f:FuncId} {args ds:List V} {v:V} {k:V→Hp→Prop} {u:PU k} (hs:snaps h args=some (ds,h)) (hc:C f ds v) (hk:k v h):rh (cal C h (.fn f [] []) args) k u :=
 cal_of hs hc (by simpa using hk)
theorem lo {st:StepT} {clr:List Nat} {h0:Hp} {l:List V} {h:Hp} {k:KL} {u:PU k} (hl:lp st clr h0 l h k):rl (lp st clr h0 l h) k u:=hl
end Go.Vm
