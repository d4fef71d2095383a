/- Walking by simp: congruences that keep simp at the head; what operations find, as equations. -/
import Derived.Test.YtaiahkcmdnaooaaGreatDoorQVmLib
set_option linter.unusedVariables false
set_option linter.unusedSimpArgs false
namespace Go.Vm
open Go Go.Am
inductive PU {α:Type} (k:α):Type where
 | mk
def rn {α:Type} (T:(α->Prop)->Prop) (k:α->Prop) (u:PU k):Prop:=T k
def rh {α β:Type} (T:(α->β->Prop)->Prop) (k:α->β->Prop) (u:PU k):Prop:=T k
def rl (T:KL->Prop) (k:KL) (u:PU k):Prop:=T k
def br (p A B:Prop) (u:PU A) (w:PU B):Prop:=(p->A)∧(¬ p->B)
def jo (k:List V->Hp->Prop) (T:(List V->Hp->Prop)->Prop) (u:PU k) (w:PU T):Prop:=T k
theorem PV {p A B:Prop} {u:PU A} {w:PU B} (h1:p->A) (h2:¬ p->B):br p A B u w:=⟨h1,h2⟩
@[simp] theorem T8 (A B:Prop) (u:PU A) (w:PU B):br True A B u w=A:=by simp [br]
@[simp] theorem Tm (A B:Prop) (u:PU A) (w:PU B):br False A B u w=B:=by simp [br]
@[simp] theorem Vr {p A B:Prop} {u:PU A} {w:PU B} (h:p):br p A B u w=A:=by simp [br,h]
@[simp] theorem Vs {p A B:Prop} {u:PU A} {w:PU B} (h:¬ p):br p A B u w=B:=by simp [br,h]
theorem eU {k:List V->Hp->Prop} {T:(List V->Hp->Prop)->Prop} {u:PU k} {w:PU T} {l:List V} {h:Hp} (hT:∀ q,T q=q l h) (hk:k l h):jo k T u w:=by
 unfold jo;rw [hT];exact hk
theorem bC {k:List V->Hp->Prop} {T:(List V->Hp->Prop)->Prop} {u:PU k} {w:PU T} (h:T k):jo k T u w:=h
@[simp ↓] theorem Vt (o:Option V) (k:V->Prop):bnd o k=rn (bnd o) k .mk:=id rfl
@[simp ↓] theorem Vd (x:V) (i:Nat) (k:V->Prop):ext x i k=rn (ext x i) k .mk:=id rfl
@[simp ↓] theorem TS (h:Hp) (op:BinOp) (x y:V) (k:V->Prop):Cd h op x y k=rn (Cd h op x y) k .mk:=id rfl
@[simp ↓] theorem Vg (b:Bool) (A B:Prop):cnd (.d (.bool b)) A B=br (b=true) A B .mk .mk:=by cases b <;> simp [cnd,br]
@[simp ↓] theorem T1 (b:Bool) (h:Hp) (T:(V->Hp->Prop)->Prop) (k:V->Hp->Prop):gd (.d (.bool b)) true h T k=br (b=true) (T k) (k (.tup []) h) .mk .mk:=by cases b <;> simp [gd,br]
@[simp ↓] theorem S4 (b:Bool) (h:Hp) (T:(V->Hp->Prop)->Prop) (k:V->Hp->Prop):gd (.d (.bool b)) false h T k=br (b=false) (T k) (k (.tup []) h) .mk .mk:=by cases b <;> simp [gd,br]
@[simp ↓] theorem SZ (w:Bool) (h:Hp) (T:(V->Hp->Prop)->Prop) (k:V->Hp->Prop):gd (.tup []) w h T k=k (.tup []) h:=id rfl
@[simp ↓] theorem VF (k:List V->Hp->Prop) (T:(List V->Hp->Prop)->Prop):jn k T=jo k T .mk .mk:=id rfl
@[simp ↓] theorem Vi (C:mq) (h:Hp) (c:V) (args:List V) (k:V->Hp->Prop):cal C h c args k=rh (cal C h c args) k .mk:=id rfl
@[simp ↓] theorem Vj (C:mp) (h:Hp) (c:V) (args:List V) (s:Nat) (k:V->Hp->Prop):cai C h c args s k=rh (cai C h c args s) k .mk:=id rfl
@[simp ↓] theorem T7 (C:mp) (h:Hp) (c:V) (args:List V) (s:Nat) (k:V->Hp->Prop):M9 C h c args s k=rh (M9 C h c args s) k .mk:=id rfl
@[simp ↓] theorem Vy (s:Nat) (cs:List V) (h:Hp) (k:V->Hp->Prop):alV s cs h k=rh (alV s cs h) k .mk:=id rfl
@[simp ↓] theorem Vz (s n:Nat) (cs:List D) (h:Hp) (k:V->Hp->Prop):alD s n cs h k=rh (alD s n cs h) k .mk:=id rfl
@[simp ↓] theorem T9 (s:Nat) (v:V) (h:Hp) (k:V->Hp->Prop):jK s v h k=rh (jK s v h) k .mk:=id rfl
@[simp ↓] theorem TV (len:Nat) (z:List D) (ps:List (Nat × V)) (h:Hp) (k:V->Hp->Prop):dd len z ps h k=rh (dd len z ps h) k .mk:=id rfl
@[simp ↓] theorem TU (s len:Nat) (z:List D) (ps:List (Nat × V)) (h:Hp) (k:V->Hp->Prop):yC s len z ps h k=rh (yC s len z ps h) k .mk:=id rfl
@[simp ↓] theorem UX (s by_:Nat) (z:List D) (h:Hp) (l c:V) (k:V->Hp->Prop):mkS s by_ z h l c k=rh (mkS s by_ z h l c) k .mk:=id rfl
@[simp ↓] theorem Uy (h:Hp) (n:Nat) (p v:V) (k:V->Hp->Prop):stD h n p v k=rh (stD h n p v) k .mk:=id rfl
@[simp ↓] theorem Vv (dr:Bool) (s n by_:Nat) (x y:V) (h:Hp) (k:V->Hp->Prop):apV dr s n by_ x y h k=rh (apV dr s n by_ x y h) k .mk:=id rfl
@[simp ↓] theorem Vu (dr:Bool) (s n by_:Nat) (z:List D) (x y:V) (h:Hp) (k:V->Hp->Prop):apZ dr s n by_ z x y h k=rh (apZ dr s n by_ z x y h) k .mk:=id rfl
@[simp ↓] theorem VC (st:bq) (clr:List Nat) (h0:Hp) (l:List V) (h:Hp) (k:KL):lp st clr h0 l h k=rl (lp st clr h0 l h) k .mk:=id rfl
def rk (T:(Exit->Hp->Prop)->Prop) (k:Exit->Hp->Prop) (u:PU k):Prop:=T k
@[simp ↓] theorem UV (o:Option (List (List Value))) (n:Nat) (st:zt) (clr:List Nat) (h:Hp) (k:Exit->Hp->Prop):rgO o n st clr h k=rk (rgO o n st clr h) k .mk:=id rfl
theorem ro {o:Option (List (List Value))} {xs:List (List Value)} {n:Nat} {st:zt} {clr:List Nat} {h:Hp} {k:Exit->Hp->Prop} {u:PU k} (hq:o=some xs) (hr:rg n st clr h k xs h):rk (rgO o n st clr h) k u:=by
 subst hq;exact hr
theorem HE {n:Nat} {st:zt} {clr:List Nat} {h0 h:Hp} {k:Exit->Hp->Prop} {x:List Value} {xs:List (List Value)} (hl:x.length=n) (hs:st (x.map fun v=>.d (gn v)) h fun ex h'=>match ex with
  | .normal=>m8 clr 0 h'=true∧rg n st clr h0 k xs (ay clr 0 h0 h')
  | ex=>k ex h'):rg n st clr h0 k (x::xs) h:=⟨hl,hs⟩
@[simp] theorem Qj (v:V) (k:V->Prop) (u:PU k):rn (bnd (some v)) k u=k v:=id rfl
@[simp] theorem UO (vs:List V) (i:Nat) (k:V->Prop) (u:PU k):rn (ext (.tup vs) i) k u=rn (bnd vs[i]?) k u:=id rfl
attribute [simp] Ln N2 Int.natCast_inj
@[simp] theorem Sw (b:Bool) (x y:V):aN (.d (.bool (!b))) x y=aN (.d (.bool b)) y x:=by cases b <;> rfl
@[simp] theorem oe {n:Int} (h1 : -9223372036854775808<=n) (h2:n<=9223372036854775807):IntKind.wrap .i64 n=n:=wrap_i64 ⟨h1,h2⟩
@[simp] theorem FR {n:Int} (h1:0<=n) (h2:n<18446744073709551616):IntKind.wrap .u64 n=n:=wrap_u64 ⟨h1,h2⟩
@[simp] theorem P3 {n:Int} (h1:0<=n) (h2:n<4294967296):IntKind.wrap .u32 n=n:=wrap_u32 ⟨h1,h2⟩
@[simp] theorem wrap_u8' {n:Int} (h1:0<=n) (h2:n<256):IntKind.wrap .u8 n=n:=FS rfl ⟨h1,h2⟩
attribute [simp] rQ pF kq
@[simp] theorem IH {k:IntKind} {a b:Int} (hb:b≠0):biI .rem (.d (.int k a)) (.d (.int k b))=some (.d (.int k (a.tmod b))):=by simp [biI,fj,jC,gn,hb]
@[simp] theorem II {k:IntKind} {a b:Int} (hb:b≠0):biI .quo (.d (.int k a)) (.d (.int k b))=some (.d (.int k (k.wrap (a.tdiv b)))):=by simp [biI,fj,jC,gn,hb]
theorem CN {k l:IntKind} {a b:Int} (h0:0<=b) (hb:b.toNat<=k.bits):biI .shr (.d (.int k a)) (.d (.int l b))=some (.d (.int k (a / 2 ^ b.toNat))):=by
 have h1:¬ (b<0):=by omega
 simp only [biI,fj,h1,if_false,jC,gn,Za hb];rw [Int.fdiv_eq_ediv_of_nonneg _ (by exact Int.le_of_lt (Int.pow_pos (by decide)))]
theorem uH {k l:IntKind} {a b:Int} (h0:0<=b) (hb:b.toNat<=k.bits):biI .shl (.d (.int k a)) (.d (.int l b))=some (.d (.int k (k.wrap (a*2 ^ b.toNat)))):=by
 have h1:¬ (b<0):=by omega
 simp only [biI,fj,h1,if_false,jC,gn,Za hb]
@[simp] theorem Tr:IntKind.bits .i64=64:=rfl
@[simp] theorem Tp:IntKind.bits .u64=64:=rfl
@[simp] theorem Tq:IntKind.bits .u32=32:=rfl
@[simp] theorem Uc:IntKind.bits .u8=8:=rfl
@[simp] theorem NL {l:IntKind} {a b:Int} (h0:0<=b) (hb:b<=64):biI .shr (.d (.int .i64 a)) (.d (.int l b))=some (.d (.int .i64 (a / 2 ^ b.toNat))):=CN h0 (by simp;omega)
@[simp] theorem TH {l:IntKind} {a b:Int} (h0:0<=b) (hb:b<=64):biI .shl (.d (.int .i64 a)) (.d (.int l b))=some (.d (.int .i64 (IntKind.wrap .i64 (a*2 ^ b.toNat)))):=uH h0 (by simp;omega)
@[simp] theorem TD {l:IntKind} {a b:Int} (h0:0<=b) (hb:b<=64):biI .shr (.d (.int .u64 a)) (.d (.int l b))=some (.d (.int .u64 (a / 2 ^ b.toNat))):=CN h0 (by simp;omega)
@[simp] theorem TF {l:IntKind} {a b:Int} (h0:0<=b) (hb:b<=64):biI .shl (.d (.int .u64 a)) (.d (.int l b))=some (.d (.int .u64 (IntKind.wrap .u64 (a*2 ^ b.toNat)))):=uH h0 (by simp;omega)
@[simp] theorem TE {l:IntKind} {a b:Int} (h0:0<=b) (hb:b<=32):biI .shr (.d (.int .u32 a)) (.d (.int l b))=some (.d (.int .u32 (a / 2 ^ b.toNat))):=CN h0 (by simp;omega)
@[simp] theorem TG {l:IntKind} {a b:Int} (h0:0<=b) (hb:b<=32):biI .shl (.d (.int .u32 a)) (.d (.int l b))=some (.d (.int .u32 (IntKind.wrap .u32 (a*2 ^ b.toNat)))):=uH h0 (by simp;omega)
@[simp] theorem rj (k:IntKind) (n:Int):unV .neg (.d (.int k n))=some (.d (.int k (k.wrap (-n)))):=by simp [unV,fj,jC,gn]
def nth {α:Type} (d:α) (l:List α) (i:Nat):α:=l.getD i d
theorem gk {α:Type} (d:α) (l:List α) (i:Nat) (h:i<l.length):nth d l i=l[i]:=by simp [nth,h]
@[simp] theorem TP {α:Type} (d:α) (p:List α) (x:α) (q:List α):nth d (p++x::q) p.length=x:=by simp [nth]
section
variable {α:Type} (f:α->D)
@[simp] theorem d6 (l:List α) (h:Hp) {k:IntKind} {i:Int} (h0:0<=i) (h1:i<l.length):ixV h 1 (lst f l) (.d (.int k i))=some (.dptr (l.map f) i.toNat):=
 GJ f l h (Wl h0).symm (by omega)
theorem fA (d:α) (l:List α) (h:Hp) {j:Nat} (hl:j<l.length):ld1 h (.dptr (l.map f) j)=some (.d (f (nth d l j))):=by
 rw [QI f l h hl,gk d l j hl]
@[simp] theorem U4 (p:List α) (x:α) (q:List α) (h:Hp) (k:IntKind):ixV h 1 (lst f (p++x::q)) (.d (.int k p.length))=some (.dptr ((p++x::q).map f) p.length):=
 GJ f _ h rfl (by simp)
omit f in
@[simp] theorem U1 (a:List D) (x:D) (b:List D) (h:Hp) {j:Nat} (hj:j=a.length):ld1 h (.dptr (a++x::b) j)=some (.d x):=by
 subst hj;simp [ld1]
omit f in
@[simp] theorem VE (x:D) (b:List D) (h:Hp):ld1 h (.dptr (x::b) 0)=some (.d x):=by simp [ld1]
end
section
variable {α:Type} (f:α->D) (l:List α)
@[simp] theorem Sg (h:Hp) {i:Int} (h0:0<=i) (h1:i<=l.length) (hp:0<l.length):slV h 1 (lst f l) none (some (I i))=some (lst f (l.take i.toNat)):=Sr f l hp (by omega) (by omega)
@[simp] theorem VA (h:Hp) {i:Int} (h0:0<=i) (h1:i<=l.length) (hp:0<l.length):slV h 1 (lst f l) (some (I i)) none=some (lst f (l.drop i.toNat)):=Sq f l hp (by omega) (by omega)
end
@[simp] theorem VH (len n:Nat) (cs:List D) (off:Nat) {k:IntKind} {i:Int} (h0:0<=i) (h1:i<len):ixP len n (.dptr cs off) (.d (.int k i))=some (.dptr cs (off+i.toNat*n)):=by
 simp only [ixP];rw [if_pos ⟨h0,h1⟩]
@[simp] theorem VG (len n:Nat) (s e off tot:Nat) {k:IntKind} {i:Int} (h0:0<=i) (h1:i<len):ixP len n (.ptr s e off tot) (.d (.int k i))=some (.ptr s e (off+i.toNat*n) tot):=by
 simp only [ixP];rw [if_pos ⟨h0,h1⟩]
theorem SS (h:Hp) (cs:List D) (pos:Nat) {x:D} (hx:cs[pos]? = some x):ld1 h (.dptr cs pos)=some (.d x):=by simp only [ld1,hx]
def dI {α:Type} (f:α->List D) (l:List α):V:=.d (.sl l.length (l.flatMap f))
section
variable {α:Type} (f:α->List D) {n:Nat} (hf:∀ x,(f x).length=n)
include hf
theorem gS (l:List α):(l.flatMap f).length=l.length*n:=by
 induction l with
 | nil=>simp
 | cons x l ih=>simp [Yn,hf,ih,Nat.add_mul,Wn]
theorem Fv (d:α) (l:List α) {j:Nat} (hj:j<l.length):cut (l.flatMap f) (j*n) n=some (f (nth d l j)):=by
 have hle:j*n+n<=(l.flatMap f).length:=by
  rw [gS f hf,<- Xu];exact Z1 n hj
 simp only [cut,if_pos hle,Z9];clear hle
 induction l generalizing j with
 | nil=>cases hj
 | cons x l ih=>
  cases j with
  | zero=>simp [nth,Yn,<- hf x]
  | succ j=>
   have:=ih (j:=j) (by simpa using hj);rw [Yn,Xu,Wn,<- List.drop_drop]
   conv=>lhs;rw [<- hf x]
   rw [List.drop_left,hf x,this];simp [nth]
theorem jS (l:List α) (h:Hp) {k:IntKind} {i:Int} (h0:0<=i) (h1:i<l.length):ixV h n (dI f l) (.d (.int k i))=some (.dptr (l.flatMap f) (i.toNat*n)):=by
 simp only [ixV,dI];rw [if_pos ⟨h0,h1,gS f hf l⟩]
theorem jR (d:α) (l:List α) (h:Hp) {j:Nat} (hj:j<l.length):ldA h n (.dptr (l.flatMap f) (j*n))=some (.agg ((f (nth d l j)).map .d)):=by
 simp only [ldA,Fv f hf d l hj]
end
@[simp] theorem RH {α:Type} (f:α->List D) (l:List α):am (dI f l)=some (I l.length):=id rfl
@[simp] theorem Rx {α:Type} (h:Hp) (f:α->List D) (l:List α):aA h (dI f l)=some (dI f l,h):=by simp [dI]
def nM (place:Nat->Option (Nat × Nat)) (cs:List V) (ps:List (Nat × V)):Option (List V):=kS place cs ps
@[simp] theorem RQ (place:Nat->Option (Nat × Nat)) (cs:List V):nM place cs []=some cs:=id rfl
def E8 (o:Option (Nat × Nat)) (place:Nat->Option (Nat × Nat)) (cs:List V) (v:V) (r:List (Nat × V)):Option (List V):=match o with
 | none=>none
 | some (off,sz)=>match qY v with
  | none=>none
  | some vs=>if vs.length=sz∧off+vs.length<=cs.length then nM place (cs.take off++vs++cs.drop (off+vs.length)) r else none
@[simp] theorem QX (place:Nat->Option (Nat × Nat)) (cs:List V) (i:Nat) (v:V) (r:List (Nat × V)):nM place cs ((i,v)::r)=E8 (place i) place cs v r:=id rfl
@[simp] theorem T2 (place:Nat->Option (Nat × Nat)) (cs:List V) (x:D) (r:List (Nat × V)) (off sz:Nat) :
  E8 (some (off,sz)) place cs (.d x) r=if 1=sz∧off+1<=cs.length then nM place (cs.take off++[.d x]++cs.drop (off+1)) r else none:=id rfl
@[simp] theorem RU (place:Nat->Option (Nat × Nat)) (cs:List V) (vs:List V) (r:List (Nat × V)) (off sz:Nat) :
  E8 (some (off,sz)) place cs (.agg vs) r=if vs.length=sz∧off+vs.length<=cs.length then nM place (cs.take off++vs++cs.drop (off+vs.length)) r else none:=id rfl
@[simp] theorem RR (place:Nat->Option (Nat × Nat)) (cs:List V) (a b c d e f:Nat) (r:List (Nat × V)) (off sz:Nat) :
  E8 (some (off,sz)) place cs (.ref a b c d e f) r=if 1=sz∧off+1<=cs.length then nM place (cs.take off++[.ref a b c d e f]++cs.drop (off+1)) r else none:=id rfl
def Rl (fs:List (Nat × Nat)) (z:List D) (ps:List (Nat × V)):Option V:=bld fs z ps
def Rk (n:Nat) (z:List D) (ps:List (Nat × V)):Option V:=Kg n z ps
@[simp] theorem UQ (fs:List (Nat × Nat)) (z:List D) (ps:List (Nat × V)) (k:V->Prop) (u:PU k):rn (bnd (bld fs z ps)) k u=rn (bnd (Rl fs z ps)) k u:=id rfl
@[simp] theorem TJ (n:Nat) (z:List D) (ps:List (Nat × V)) (k:V->Prop) (u:PU k):rn (bnd (Kg n z ps)) k u=rn (bnd (Rk n z ps)) k u:=id rfl
@[simp] theorem Ub (fs:List (Nat × Nat)) (z:List D) (ps:List (Nat × V)):Rl fs z ps=(nM (fun i=>fs[i]?) (z.map .d) ps).map .agg:=id (by unfold Rl bld nM;cases kS (fun i=>fs[i]?) (z.map .d) ps <;> rfl)
@[simp] theorem Ua (n:Nat) (z:List D) (ps:List (Nat × V)):Rk n z ps=(nM (fun i=>some (i*n,n)) (z.map .d) ps).map .agg:=id (by unfold Rk Kg nM;cases kS (fun i=>some (i*n,n)) (z.map .d) ps <;> rfl)
@[simp] theorem Va (off n:Nat) (vs:List V):fiV off n true (.agg vs)=vs[off]?:=id rfl
@[simp] theorem T4 (cs:List D) (o off:Nat):faV off (.dptr cs o)=some (.dptr cs (o+off)):=id rfl
@[simp] theorem Vb (s e o tot off:Nat):faV off (.ptr s e o tot)=some (.ptr s e (o+off) tot):=id rfl
def bnh {α:Type} (o:Option α) (k:α->Prop):Prop:=match o with
 | some x=>k x
 | none=>False
@[simp] theorem UP {α:Type} (x:α) (k:α->Prop) (u:PU k):rn (bnh (some x)) k u=k x:=id rfl
@[simp] theorem UR (h:Hp) (n:Nat) (p v:V) (k:V->Hp->Prop) (u:PU k):rh (stD h n p v) k u=rn (bnh (st h n p v)) (fun h'=>k .junk h') .mk:=by
 unfold rh rn stD bnh;cases st h n p v <;> rfl
theorem xe (h:Hp) (s:Nat) (b:Bk) (k:Nat->Hp->Prop):new h s b k=bnh h[s]? fun x=>k (x.1+1) (h.set s (x.1+1,b)):=by
 unfold new bnh;cases h[s]? <;> rfl
@[simp] theorem UT (s:Nat) (cs:List V) (h:Hp) (k:V->Hp->Prop) (u:PU k):rh (alV s cs h) k u=rn (bnh h[s]?) (fun x=>k (.ptr s (x.1+1) 0 cs.length) (h.set s (x.1+1,.vars cs))) .mk:=by unfold rh rn alV;exact xe ..
@[simp] theorem TM (s:Nat) (vs:List V) (h:Hp) (k:V->Hp->Prop) (u:PU k):rh (jK s (.agg vs) h) k u=rh (alV s vs h) k u:=id rfl
@[simp] theorem Su (s:Nat) (x:D) (h:Hp) (k:V->Hp->Prop) (u:PU k):rh (jK s (.d x) h) k u=rh (alV s [.d x] h) k u:=id rfl
def dk (len:Nat) (z:List D) (ps:List (Nat × V)) (h:Hp):Option (List D × Hp):=match nM (fun i=>some (i*z.length,z.length)) ((fY len z).map .d) ps with
 | some vs=>if 0<z.length∧len*z.length<=16777216 then iz h vs else none
 | none=>none
@[simp] theorem TL (len:Nat) (z:List D) (ps:List (Nat × V)) (h:Hp) (k:V->Hp->Prop) (u:PU k):rh (dd len z ps h) k u=rn (bnh (dk len z ps h)) (fun x=>k (.d (.sl len x.1)) x.2) .mk:=by
 unfold rh rn dd dk bnh nM;cases kS (fun i=>some (i*z.length,z.length)) ((fY len z).map .d) ps with
 | none=>rfl
 | some vs=>
  simp only;split
  ·cases iz h vs <;> rfl
  ·rfl
@[simp] theorem TK (s len:Nat) (z:List D) (ps:List (Nat × V)) (h:Hp) (k:V->Hp->Prop) (u:PU k):rh (yC s len z ps h) k u=rn (bnh (dk len z ps h)) (fun x=>rn (bnh x.2[s]?) (fun y=>k (.ref s (y.1+1) 0 len len x.1.length) (x.2.set s (y.1+1,.data z.length x.1 true false))) .mk) .mk:=by
 unfold rh rn yC dk bnh nM;cases kS (fun i=>some (i*z.length,z.length)) ((fY len z).map .d) ps with
 | none=>rfl
 | some vs=>
  simp only;split
  ·cases iz h vs with
   | none=>rfl
   | some x=>simp only [xe];rfl
  ·rfl
def ie (h:Hp) (s e:Nat):Bk:=hget h s e
@[simp] theorem QP (e0:Nat) (b:Bk) (h:Hp) (e:Nat):ie ((e0,b)::h) 0 e=if e0=e then b else .none:=id rfl
@[simp] theorem QQ (x:Nat × Bk) (h:Hp) (s e:Nat):ie (x::h) (s+1) e=ie h s e:=id rfl
@[simp] theorem RP (x:Nat × Bk) (h:Hp) (e:Nat):ie (x::h) 1 e=ie h 0 e:=id rfl
@[simp] theorem RO (x:Nat × Bk) (h:Hp) (e:Nat):ie (x::h) 2 e=ie h 1 e:=id rfl
@[simp] theorem PM (x:Nat × Bk) (h:Hp) (e:Nat):ie (x::h) 3 e=ie h 2 e:=id rfl
@[simp] theorem QR (x:Nat × Bk) (h:Hp) (e:Nat):ie (x::h) 4 e=ie h 3 e:=id rfl
def L3 (b:Bk) (off tot:Nat):Option V:=match b with
 | .vars cs=>if tot=cs.length then cs[off]? else none
 | .data _ cs _ _=>if tot=cs.length then cs[off]?.map .d else none
 | .none=>none
def JL (b:Bk) (n off tot:Nat):Option V:=match b with
 | .vars cs=>if tot=cs.length then (cut cs off n).map .agg else none
 | .data _ cs _ _=>if tot=cs.length then (cut cs off n).map fun l=>.agg (l.map .d) else none
 | .none=>none
theorem PK (h:Hp) (s e off tot:Nat):ld1 h (.ptr s e off tot)=L3 (ie h s e) off tot:=by
 unfold ie;simp only [ld1];cases hget h s e with
 | none=>rfl
 | vars cs=>rfl
 | data n cs a b=>
  simp only [L3];split
  ·cases cs[off]? <;> rfl
  ·rfl
theorem SR (h:Hp) (n s e off tot:Nat):ldA h n (.ptr s e off tot)=JL (ie h s e) n off tot:=by
 unfold ie;simp only [ldA];cases hget h s e with
 | none=>rfl
 | vars cs=>
  simp only [JL];split
  ·cases cut cs off n <;> rfl
  ·rfl
 | data m cs a b=>
  simp only [JL];split
  ·cases cut cs off n <;> rfl
  ·rfl
@[simp] theorem UL (h:Hp) (s e off tot:Nat) (k:V->Prop) (u:PU k):rn (bnd (ld1 h (.ptr s e off tot))) k u=rn (bnd (L3 (ie h s e) off tot)) k u:=by rw [PK]
@[simp] theorem UK (h:Hp) (n s e off tot:Nat) (k:V->Prop) (u:PU k):rn (bnd (ldA h n (.ptr s e off tot))) k u=rn (bnd (JL (ie h s e) n off tot)) k u:=by rw [SR]
@[simp] theorem RL (cs:List V) (off tot:Nat):L3 (.vars cs) off tot=if tot=cs.length then cs[off]? else none:=id rfl
@[simp] theorem RN (n:Nat) (cs:List D) (a b:Bool) (off tot:Nat):L3 (.data n cs a b) off tot=if tot=cs.length then cs[off]?.map .d else none:=id rfl
@[simp] theorem RI (cs:List V) (n off tot:Nat):JL (.vars cs) n off tot=if tot=cs.length then (cut cs off n).map .agg else none:=id rfl
@[simp] theorem RJ (m:Nat) (cs:List D) (a b:Bool) (n off tot:Nat):JL (.data m cs a b) n off tot=if tot=cs.length then (cut cs off n).map (fun l=>.agg (l.map .d)) else none:=id rfl
def stX (b:Bk) (h:Hp) (s e off tot:Nat) (vs:List V):Option Hp:=match b with
 | .vars cs=>if tot=cs.length∧off+vs.length<=cs.length∧vs.all okV=true then some (cU h s e (.vars (cs.take off++vs++cs.drop (off+vs.length)))) else none
 | _=>sto h s e off tot vs
theorem Py (h:Hp) (s e off tot:Nat) (vs:List V):sto h s e off tot vs=stX (ie h s e) h s e off tot vs:=by
 unfold ie stX;cases hb:hget h s e with
 | vars cs=>simp [sto,hb]
 | none=>rfl
 | data n cs a b=>rfl
@[simp] theorem UI (h:Hp) (n s e off tot:Nat) (vs:List V) (k:Hp->Prop) (u:PU k):rn (bnh (st h n (.ptr s e off tot) (.agg vs))) k u=rn (bnh (if vs.length=n then stX (ie h s e) h s e off tot vs else none)) k u:=by
 simp only [rn,st,Py]
def Dv (b:Bk) (h:Hp) (s e off tot:Nat) (x:D):Option Hp:=match b with
 | .vars cs=>if tot=cs.length∧off+1<=cs.length then some (cU h s e (.vars (cs.take off++[.d x]++cs.drop (off+1)))) else none
 | .data n cs ex fr=>if fr=false∧tot=cs.length∧off+1<=cs.length then some (cU h s e (.data n (cs.set off (norm x)) ex false)) else none
 | .none=>none
theorem Sl (h:Hp) (s e off tot:Nat) (x:D):st h 1 (.ptr s e off tot) (.d x)=Dv (ie h s e) h s e off tot x:=by
 unfold ie;simp only [st,if_true];cases hb:hget h s e with
 | none=>simp [sto,hb,Dv]
 | vars cs=>simp [sto,hb,Dv,okV]
 | data n cs ex fr=>
  simp only [sto,hb,iz,toD,Dv];by_cases hc:fr=false∧tot=cs.length∧off+1<=cs.length
  ·rw [if_pos hc,if_pos (by simpa using hc)];rw [Xi,if_pos (by omega)];simp
  ·rw [if_neg hc,if_neg (by simpa using hc)]
@[simp] theorem UJ (h:Hp) (s e off tot:Nat) (x:D) (k:Hp->Prop) (u:PU k):rn (bnh (st h 1 (.ptr s e off tot) (.d x))) k u=rn (bnh (Dv (ie h s e) h s e off tot x)) k u:=by rw [Sl]
@[simp] theorem Ru (cs:List V) (h:Hp) (s e off tot:Nat) (x:D):Dv (.vars cs) h s e off tot x=if tot=cs.length∧off+1<=cs.length then some (cU h s e (.vars (cs.take off++[.d x]++cs.drop (off+1)))) else none:=id rfl
@[simp] theorem Jd (n:Nat) (cs:List D) (ex:Bool) (h:Hp) (s e off tot:Nat) (x:D) (ht:tot=cs.length) (ho:off<cs.length):Dv (.data n cs ex false) h s e off tot x=some (cU h s e (.data n (cs.set off (norm x)) ex false)):=by
 simp only [Dv];simp [ht];omega
def ixX (b:Bk) (n s e off len tot:Nat) (i:Int):Option V:=match b with
 | .data _ cs _ _=>if tot=cs.length∧0<=i∧i<len then some (.ptr s e (off+i.toNat*n) tot) else none
 | _=>none
@[simp] theorem UM (h:Hp) (n s e off len cap tot:Nat) (kd:IntKind) (i:Int) (k:V->Prop) (u:PU k):rn (bnd (ixV h n (.ref s e off len cap tot) (.d (.int kd i)))) k u=rn (bnd (ixX (ie h s e) n s e off len tot i)) k u:=by
 have:ixV h n (.ref s e off len cap tot) (.d (.int kd i))=ixX (ie h s e) n s e off len tot i:=by
  unfold ie;simp only [ixV,ixX];cases hget h s e <;> rfl
 rw [this]
@[simp] theorem SU (m:Nat) (cs:List D) (a b:Bool) (n s e off len tot:Nat) (i:Int) (ht:tot=cs.length) (h0:0<=i) (h1:i<len):ixX (.data m cs a b) n s e off len tot i=some (.ptr s e (off+i.toNat*n) tot):=by
 simp only [ixX];rw [if_pos ⟨ht,h0,h1⟩]
@[simp] theorem UH (h:Hp) (n s e off tot a b c d f g:Nat) (k:Hp->Prop) (u:PU k):rn (bnh (st h n (.ptr s e off tot) (.ref a b c d f g))) k u=rn (bnh (if n=1 then stX (ie h s e) h s e off tot [.ref a b c d f g] else none)) k u:=by
 simp only [rn,st,Py]
@[simp] theorem Sj (cs:List V) (h:Hp) (s e off tot:Nat) (vs:List V):stX (.vars cs) h s e off tot vs=if tot=cs.length∧off+vs.length<=cs.length∧vs.all okV=true then some (cU h s e (.vars (cs.take off++vs++cs.drop (off+vs.length)))) else none:=id rfl
@[simp] theorem TY (h:Hp) (s e:Nat) (b:Bk):cU h s e b=h.set s (e,b):=rfl
@[simp] theorem VB (x:D):okV (.d x)=true:=rfl
@[simp] theorem TN (a b c d e f:Nat):okV (.ref a b c d e f)=true:=rfl
@[simp] theorem Vf {α:Type} (l:List α) (off n:Nat):cut l off n=if off+n<=l.length then some ((l.drop off).take n) else none:=id rfl
@[simp] theorem et (i:Nat) (h0 h:Hp) (hl:h.length=h0.length):ay [] i h0 h=h:=AJ i h0 h hl
@[simp] theorem T6 (q:List V->Hp->Prop) (r:List (Exit × (List V->Hp->Prop))) (l:List V) (h:Hp):exK ((.normal,q)::r) .normal l h=q l h:=rfl
@[simp] theorem PR (q:List V->Hp->Prop) (r:List (Exit × (List V->Hp->Prop))) (l:List V) (h:Hp):exK ((.normal,q)::r) .ret l h=exK r .ret l h:=rfl
@[simp] theorem PQ (q:List V->Hp->Prop) (r:List (Exit × (List V->Hp->Prop))) (l:List V) (h:Hp):exK ((.ret,q)::r) .normal l h=exK r .normal l h:=rfl
@[congr] theorem Sm {h h':Hp} {x:V} {ys:List V} {k:Prop} (e:h=h'):sp h x ys k=sp h' x ys k:=by rw [e]
@[congr] theorem Sp {h h':Hp} {x y:V} {k:Prop} (e:h=h'):sm h x y k=sm h' x y k:=by rw [e]
theorem Dw {h:Hp} {x:V} {k:Prop}:∀ {ys:List V},ys.all (apt h x)=true->k->sp h x ys k
 | [],_,hk=>hk
 | y::ys,hb,hk=>by
  simp only [List.all_cons,Z8] at hb;unfold sp;rw [hb.1];exact Dw hb.2 hk
theorem KJ {h:Hp} {x y:V} {k:Prop} (hb:smB h x y=true) (hk:k):sm h x y k:=by
 unfold sm;rw [hb];exact hk
structure Acc where
 s:Nat
 e:Nat
 n:Nat
 b0:Bk
def Acc.v (a:Acc) (L:Nat) (cells:List D):V:=match L with
 | 0=>.d (.pl (.slice none 0 0))
 | _=>.ref a.s (a.e+1) 0 L L cells.length
def Acc.b (a:Acc) (L:Nat) (cells:List D):Nat × Bk:=match L with
 | 0=>(a.e,a.b0)
 | _=>(a.e+1,.data a.n cells false false)
theorem pG (a:Acc) {L by_ k:Nat} {cells cs:List D} {h:Hp} {y:V} {q:V->Hp->Prop} {u:PU q} (hk:0<k) (hs:h[a.s]? = some (a.b L cells)) (hc:cells.length=L*a.n) (hcs:cs.length=k*a.n)
  (hy:cellsOf h y=some (k,cs)) (hyn:∀ t,y≠.d (.str t)) (hb:(L+k)*by_<=140737488355328) (hn:0<a.n) (hq:q (a.v (L+k) (cells++cs)) (h.set a.s (a.b (L+k) (cells++cs)))):rh (apV false a.s a.n by_ (a.v L cells) y h) q u:=by
 have e1:apV false a.s a.n by_ (a.v L cells) y h q=apC false a.s a.n by_ (a.v L cells) k cs h q:=by
  unfold apV;split
  ·rename_i t;exact absurd rfl (hyn t)
  ·rw [hy];simp only [hcs,if_true]
 show apV false a.s a.n by_ (a.v L cells) y h q
 rw [e1];have hlt:=(List.getElem?_eq_some_iff.1 hs).1;obtain ⟨m,hm⟩:∃ m,L+k=m+1:=⟨L+k-1,by omega⟩;cases L with
 | zero=>
  have:cells=[]:=Zl (by simpa using hc);subst this;simp only [Zk,List.nil_append] at *;simp only [Acc.v];unfold apC;rw [if_neg (by omega)];simp only [];rw [if_pos (by omega)];simp only [new,hs,Acc.b];subst hm;simpa only [Acc.v,Acc.b] using hq
 | succ L=>
  simp only [Acc.v];unfold apC;rw [if_neg (by omega)];have hg:hget h a.s (a.e+1)=.data a.n cells false false:=by simp only [hget,hs,Acc.b,if_true]
  simp only [hg,true_and,Zk];rw [if_pos ⟨Z7 _,by omega,hcs⟩,if_neg (by omega),if_pos hb];simp only [Zn,if_false,Bool.or_self];have hpos:0<cs.length:=by rw [hcs];exact Yu hk hn
  rw [if_pos ⟨by omega,by rw [hc];omega⟩];rw [hm] at hq ⊢;simp only [Acc.v,Acc.b,Zm,cU,hc] at hq ⊢;simp only [Y3];rw [Zu (by omega)];exact hq
theorem oR (a:Acc) {L:Nat} {cells:List D} {h:Hp} (hs:h[a.s]? = some (a.b L cells)) (hc:cells.length=L*a.n) :
  ∃ h',aA h (a.v L cells)=some (.d (.sl L cells),h')∧((L=0∧h'=h)∨(0<L∧h'=h.set a.s (a.e+1,.data a.n cells false true))):=by
 cases L with
 | zero=>
  have:cells=[]:=Zl (by simpa using hc);subst this;exact ⟨h,by simp [Acc.v],.inl ⟨rfl,rfl⟩⟩
 | succ L=>
  have hg:hget h a.s (a.e+1)=.data a.n cells false false:=by simp only [hget,hs,Acc.b,if_true]
  refine ⟨_,?_,.inr ⟨Nat.succ_pos _,rfl⟩⟩;simp only [Acc.v,aA,toD,hg,true_and,Zk];rw [if_pos ⟨Z7 _,by omega⟩];simp only [Y3,cU];rw [Zu (by omega)]
theorem iP {b b':Bool} {h:Hp} (e:b'=b):out (B b) (.d (.bool b')) h:=by subst e;exact yn ..
theorem bH {k:IntKind} {a b:Int} {h:Hp} (e:b=a):out (.d (.int k a)) (.d (.int k b)) h:=by subst e;exact N7 ..
theorem cd {C:mq} {h:Hp} {f:FuncId} {args:List V} {v:V} {k:V->Hp->Prop} {u:PU k} (hc:C f args v) (hk:k v h) (hs:ae h args=some (args,h):=by simp [ae,aA]):rh (cal C h (.fn f [] []) args) k u:=Tj hc hs hk
theorem cdx {C:mq} {h:Hp} {f:FuncId} {args ds:List V} {v:V} {k:V->Hp->Prop} {u:PU k} (hs:ae h args=some (ds,h)) (hc:C f ds v) (hk:k v h):rh (cal C h (.fn f [] []) args) k u:=
 G6 hs hc (by simpa using hk)
theorem lo {st:bq} {clr:List Nat} {h0:Hp} {l:List V} {h:Hp} {k:KL} {u:PU k} (hl:lp st clr h0 l h k):rl (lp st clr h0 l h) k u:=hl
end Go.Vm
