/- Walking by simp: congruences that keep simp at the head; what operations find, as equations. -/
import Derived.Test.YtaiahkcmdnaooaaGreatDoorQVmLib
set_option linter.unusedVariables false
set_option linter.unusedSimpArgs false
namespace Go.Vm
open Go Go.Am
inductive PU {α:Type} (k:α):Type where
 | mk
def rn {α:Type} (T:(α->Prop)->Prop) (k:α->Prop) (u:PU k):Prop:=T k
def rh {α β:Type} (T:(α->β->Prop)->Prop) (k:α->β->Prop) (u:PU k):Prop:=T k
def rl (T:KL->Prop) (k:KL) (u:PU k):Prop:=T k
def br (p A B:Prop) (u:PU A) (w:PU B):Prop:=(p->A)∧(¬ p->B)
def jo (k:List V->Hp->Prop) (T:(List V->Hp->Prop)->Prop) (u:PU k) (w:PU T):Prop:=T k
theorem Sb {p A B:Prop} {u:PU A} {w:PU B} (h1:p->A) (h2:¬ p->B):br p A B u w:=⟨h1,h2⟩
@[simp] theorem V4 (A B:Prop) (u:PU A) (w:PU B):br True A B u w=A:=by simp [br]
@[simp] theorem Vp (A B:Prop) (u:PU A) (w:PU B):br False A B u w=B:=by simp [br]
@[simp] theorem YL {p A B:Prop} {u:PU A} {w:PU B} (h:p):br p A B u w=A:=by simp_all
@[simp] theorem YM {p A B:Prop} {u:PU A} {w:PU B} (h:¬ p):br p A B u w=B:=by simp_all
theorem fk {k:List V->Hp->Prop} {T:(List V->Hp->Prop)->Prop} {u:PU k} {w:PU T} {l:List V} {h:Hp} (hT:∀ q,T q=q l h) (hk:k l h):jo k T u w:=by
 grind [jo]
theorem aC {k:List V->Hp->Prop} {T:(List V->Hp->Prop)->Prop} {u:PU k} {w:PU T} (h:T k):jo k T u w:=h
@[simp ↓] theorem YN (o:Option V) (k:V->Prop):bnd o k=rn (bnd o) k .mk:=id rfl
@[simp ↓] theorem YD (x:V) (i:Nat) (k:V->Prop):ext x i k=rn (ext x i) k .mk:=id rfl
@[simp ↓] theorem VQ (h:Hp) (op:BinOp) (x y:V) (k:V->Prop):tQ h op x y k=rn (tQ h op x y) k .mk:=id rfl
@[simp ↓] theorem YG (b:Bool) (A B:Prop):cnd (.d (.bool b)) A B=br (b=true) A B .mk .mk:=by cases b <;> simp [cnd,br]
@[simp ↓] theorem VY (b:Bool) (h:Hp) (T:(V->Hp->Prop)->Prop) (k:V->Hp->Prop):gd (.d (.bool b)) true h T k=br (b=true) (T k) (k (.tup []) h) .mk .mk:=by cases b <;> simp [gd,br]
@[simp ↓] theorem U9 (b:Bool) (h:Hp) (T:(V->Hp->Prop)->Prop) (k:V->Hp->Prop):gd (.d (.bool b)) false h T k=br (b=false) (T k) (k (.tup []) h) .mk .mk:=by cases b <;> simp [gd,br]
@[simp ↓] theorem U8 (w:Bool) (h:Hp) (T:(V->Hp->Prop)->Prop) (k:V->Hp->Prop):gd (.tup []) w h T k=k (.tup []) h:=id rfl
@[simp ↓] theorem YZ (k:List V->Hp->Prop) (T:(List V->Hp->Prop)->Prop):jn k T=jo k T .mk .mk:=id rfl
@[simp ↓] theorem YI (C:nr) (h:Hp) (c:V) (args:List V) (k:V->Hp->Prop):cal C h c args k=rh (cal C h c args) k .mk:=id rfl
@[simp ↓] theorem YJ (C:nm) (h:Hp) (c:V) (args:List V) (s:Nat) (k:V->Hp->Prop):cai C h c args s k=rh (cai C h c args s) k .mk:=id rfl
@[simp ↓] theorem V3 (C:nm) (h:Hp) (c:V) (args:List V) (s:Nat) (k:V->Hp->Prop):Pq C h c args s k=rh (Pq C h c args s) k .mk:=id rfl
@[simp ↓] theorem YS (s:Nat) (cs:List V) (h:Hp) (k:V->Hp->Prop):alV s cs h k=rh (alV s cs h) k .mk:=id rfl
@[simp ↓] theorem YT (s n:Nat) (cs:List D) (h:Hp) (k:V->Hp->Prop):alD s n cs h k=rh (alD s n cs h) k .mk:=id rfl
@[simp ↓] theorem V5 (s:Nat) (v:V) (h:Hp) (k:V->Hp->Prop):iI s v h k=rh (iI s v h) k .mk:=id rfl
@[simp ↓] theorem VT (len:Nat) (z:List D) (ps:List (Nat × V)) (h:Hp) (k:V->Hp->Prop):eh len z ps h k=rh (eh len z ps h) k .mk:=id rfl
@[simp ↓] theorem VS (s len:Nat) (z:List D) (ps:List (Nat × V)) (h:Hp) (k:V->Hp->Prop):tf s len z ps h k=rh (tf s len z ps h) k .mk:=id rfl
@[simp ↓] theorem XR (s by_:Nat) (z:List D) (h:Hp) (l c:V) (k:V->Hp->Prop):mkS s by_ z h l c k=rh (mkS s by_ z h l c) k .mk:=id rfl
@[simp ↓] theorem WP (h:Hp) (n:Nat) (p v:V) (k:V->Hp->Prop):stD h n p v k=rh (stD h n p v) k .mk:=id rfl
@[simp ↓] theorem YP (dr:Bool) (s n by_:Nat) (x y:V) (h:Hp) (k:V->Hp->Prop):apV dr s n by_ x y h k=rh (apV dr s n by_ x y h) k .mk:=id rfl
@[simp ↓] theorem YO (dr:Bool) (s n by_:Nat) (z:List D) (x y:V) (h:Hp) (k:V->Hp->Prop):apZ dr s n by_ z x y h k=rh (apZ dr s n by_ z x y h) k .mk:=id rfl
@[simp ↓] theorem YW (st:bh) (clr:List Nat) (h0:Hp) (l:List V) (h:Hp) (k:KL):lp st clr h0 l h k=rl (lp st clr h0 l h) k .mk:=id rfl
def rk (T:(Exit->Hp->Prop)->Prop) (k:Exit->Hp->Prop) (u:PU k):Prop:=T k
@[simp ↓] theorem XN (o:Option (List (List Value))) (n:Nat) (st:AY) (clr:List Nat) (h:Hp) (k:Exit->Hp->Prop):rgO o n st clr h k=rk (rgO o n st clr h) k .mk:=id rfl
theorem ro {o:Option (List (List Value))} {xs:List (List Value)} {n:Nat} {st:AY} {clr:List Nat} {h:Hp} {k:Exit->Hp->Prop} {u:PU k} (hq:o=some xs) (hr:rg n st clr h k xs h):rk (rgO o n st clr h) k u:=by
 subst hq;exact hr
theorem Jq {n:Nat} {st:AY} {clr:List Nat} {h0 h:Hp} {k:Exit->Hp->Prop} {x:List Value} {xs:List (List Value)} (hl:x.length=n) (hs:st (x.map fun v=>.d (gF v)) h fun ex h'=>match ex with
  | .normal=>oh clr 0 h'=true∧rg n st clr h0 k xs (aK clr 0 h0 h')
  | ex=>k ex h'):rg n st clr h0 k (x::xs) h:=⟨hl,hs⟩
@[simp] theorem XH (v:V) (k:V->Prop) (u:PU k):rn (bnd (some v)) k u=k v:=id rfl
@[simp] theorem XF (vs:List V) (i:Nat) (k:V->Prop) (u:PU k):rn (ext (.tup vs) i) k u=rn (bnd vs[i]?) k u:=id rfl
attribute [simp] Nw Qi Int.natCast_inj
@[simp] theorem UF (b:Bool) (x y:V):cW (.d (.bool (!b))) x y=cW (.d (.bool b)) y x:=by cases b <;> rfl
@[simp] theorem pn {n:Int} (h1 : -9223372036854775808<=n) (h2:n<=9223372036854775807):IntKind.wrap .i64 n=n:=wrap_i64 ⟨h1,h2⟩
@[simp] theorem Hl {n:Int} (h1:0<=n) (h2:n<18446744073709551616):IntKind.wrap .u64 n=n:=wrap_u64 ⟨h1,h2⟩
@[simp] theorem Sk {n:Int} (h1:0<=n) (h2:n<4294967296):IntKind.wrap .u32 n=n:=wrap_u32 ⟨h1,h2⟩
@[simp] theorem wrap_u8' {n:Int} (h1:0<=n) (h2:n<256):IntKind.wrap .u8 n=n:=Hm rfl ⟨h1,h2⟩
attribute [simp] sX qy kG
@[simp] theorem Wb {k:IntKind} {a b:Int} (hb:b≠0):biI .rem (.d (.int k a)) (.d (.int k b))=some (.d (.int k (a.tmod b))):=by simp [biI,fA,jK,gF,hb]
@[simp] theorem Km {k:IntKind} {a b:Int} (hb:b≠0):biI .quo (.d (.int k a)) (.d (.int k b))=some (.d (.int k (k.wrap (a.tdiv b)))):=by simp [biI,fA,jK,gF,hb]
theorem EG {k l:IntKind} {a b:Int} (h0:0<=b) (hb:b.toNat<=k.bits):biI .shr (.d (.int k a)) (.d (.int l b))=some (.d (.int k (a / 2 ^ b.toNat))):=by
 have h1:¬ (b<0):=aa
 grind [biI,fA,jK,gF]
theorem vH {k l:IntKind} {a b:Int} (h0:0<=b) (hb:b.toNat<=k.bits):biI .shl (.d (.int k a)) (.d (.int l b))=some (.d (.int k (k.wrap (a*2 ^ b.toNat)))):=by
 have h1:¬ (b<0):=aa
 grind [biI,fA,jK,gF]
@[simp] theorem Vt:IntKind.bits .i64=64:=rfl
@[simp] theorem Vr:IntKind.bits .u64=64:=rfl
@[simp] theorem Vs:IntKind.bits .u32=32:=rfl
@[simp] theorem V8:IntKind.bits .u8=8:=rfl
@[simp] theorem P1 {l:IntKind} {a b:Int} (h0:0<=b) (hb:b<=64):biI .shr (.d (.int .i64 a)) (.d (.int l b))=some (.d (.int .i64 (a / 2 ^ b.toNat))):=EG h0 aR
@[simp] theorem VE {l:IntKind} {a b:Int} (h0:0<=b) (hb:b<=64):biI .shl (.d (.int .i64 a)) (.d (.int l b))=some (.d (.int .i64 (IntKind.wrap .i64 (a*2 ^ b.toNat)))):=vH h0 aR
@[simp] theorem VA {l:IntKind} {a b:Int} (h0:0<=b) (hb:b<=64):biI .shr (.d (.int .u64 a)) (.d (.int l b))=some (.d (.int .u64 (a / 2 ^ b.toNat))):=EG h0 aR
@[simp] theorem VC {l:IntKind} {a b:Int} (h0:0<=b) (hb:b<=64):biI .shl (.d (.int .u64 a)) (.d (.int l b))=some (.d (.int .u64 (IntKind.wrap .u64 (a*2 ^ b.toNat)))):=vH h0 aR
@[simp] theorem VB {l:IntKind} {a b:Int} (h0:0<=b) (hb:b<=32):biI .shr (.d (.int .u32 a)) (.d (.int l b))=some (.d (.int .u32 (a / 2 ^ b.toNat))):=EG h0 aR
@[simp] theorem VD {l:IntKind} {a b:Int} (h0:0<=b) (hb:b<=32):biI .shl (.d (.int .u32 a)) (.d (.int l b))=some (.d (.int .u32 (IntKind.wrap .u32 (a*2 ^ b.toNat)))):=vH h0 aR
@[simp] theorem sk (k:IntKind) (n:Int):unV .neg (.d (.int k n))=some (.d (.int k (k.wrap (-n)))):=by simp [unV,fA,jK,gF]
def nth {α:Type} (d:α) (l:List α) (i:Nat):α:=l.getD i d
theorem gD {α:Type} (d:α) (l:List α) (i:Nat) (h:i<l.length):nth d l i=l[i]:=by simp [nth,h]
@[simp] theorem VN {α:Type} (d:α) (p:List α) (x:α) (q:List α):nth d (p++x::q) p.length=x:=by simp [nth]
section
variable {α:Type} (f:α->D)
@[simp] theorem dP (l:List α) (h:Hp) {k:IntKind} {i:Int} (h0:0<=i) (h1:i<l.length):ixV h 1 (lst f l) (.d (.int k i))=some (.dptr (l.map f) i.toNat):=
 Im f l h (Int.toNat_of_nonneg h0).symm aa
theorem eZ (d:α) (l:List α) (h:Hp) {j:Nat} (hl:j<l.length):ld1 h (.dptr (l.map f) j)=some (.d (f (nth d l j))):=by
 rw [S4 f l h hl,gD d l j hl]
@[simp] theorem XW (p:List α) (x:α) (q:List α) (h:Hp) (k:IntKind):ixV h 1 (lst f (p++x::q)) (.d (.int k p.length))=some (.dptr ((p++x::q).map f) p.length):=
 Im f _ h rfl af
omit f in
@[simp] theorem XU (a:List D) (x:D) (b:List D) (h:Hp) {j:Nat} (hj:j=a.length):ld1 h (.dptr (a++x::b) j)=some (.d x):=by
 subst hj;simp [ld1]
omit f in
@[simp] theorem YY (x:D) (b:List D) (h:Hp):ld1 h (.dptr (x::b) 0)=some (.d x):=by rfl
end
section
variable {α:Type} (f:α->D) (l:List α)
@[simp] theorem Ut (h:Hp) {i:Int} (h0:0<=i) (h1:i<=l.length) (hp:0<l.length):slV h 1 (lst f l) none (some (I i))=some (lst f (l.take i.toNat)):=UB f l hp aa aa
@[simp] theorem YU (h:Hp) {i:Int} (h0:0<=i) (h1:i<=l.length) (hp:0<l.length):slV h 1 (lst f l) (some (I i)) none=some (lst f (l.drop i.toNat)):=UA f l hp aa aa
end
@[simp] theorem ZB (len n:Nat) (cs:List D) (off:Nat) {k:IntKind} {i:Int} (h0:0<=i) (h1:i<len):ixP len n (.dptr cs off) (.d (.int k i))=some (.dptr cs (off+i.toNat*n)):=by
 simp only [ixP];rw [if_pos ⟨h0,h1⟩]
@[simp] theorem ZA (len n:Nat) (s e off tot:Nat) {k:IntKind} {i:Int} (h0:0<=i) (h1:i<len):ixP len n (.ptr s e off tot) (.d (.int k i))=some (.ptr s e (off+i.toNat*n) tot):=by
 simp only [ixP];rw [if_pos ⟨h0,h1⟩]
theorem U2 (h:Hp) (cs:List D) (pos:Nat) {x:D} (hx:cs[pos]? = some x):ld1 h (.dptr cs pos)=some (.d x):=by grind [ld1]
def iU {α:Type} (f:α->List D) (l:List α):V:=.d (.sl l.length (l.flatMap f))
section
variable {α:Type} (f:α->List D) {n:Nat} (hf:∀ x,(f x).length=n)
include hf
theorem ji (l:List α):(l.flatMap f).length=l.length*n:=by
 induction l with
 | nil=>simp
 | cons x l ih=>grind
theorem G0 (d:α) (l:List α) {j:Nat} (hj:j<l.length):cut (l.flatMap f) (j*n) n=some (f (nth d l j)):=by
 have hle:j*n+n<=(l.flatMap f).length:=by
  rw [ji f hf,<- Ya];exact Z0 n hj
 simp only [cut,if_pos hle,Z9];clear hle
 induction l generalizing j with
 | nil=>cases hj
 | cons x l ih=>
  cases j with
  | zero=>grind [nth]
  | succ j=>
   grind [Ya,List.drop_drop,List.drop_left,nth]
theorem j3 (l:List α) (h:Hp) {k:IntKind} {i:Int} (h0:0<=i) (h1:i<l.length):ixV h n (iU f l) (.d (.int k i))=some (.dptr (l.flatMap f) (i.toNat*n)):=by
 grind [ixV,iU,ji]
theorem jZ (d:α) (l:List α) (h:Hp) {j:Nat} (hj:j<l.length):ldA h n (.dptr (l.flatMap f) (j*n))=some (.agg ((f (nth d l j)).map .d)):=by
 grind [ldA,G0]
end
@[simp] theorem T4 {α:Type} (f:α->List D) (l:List α):bq (iU f l)=some (I l.length):=id rfl
@[simp] theorem TV {α:Type} (h:Hp) (f:α->List D) (l:List α):bY h (iU f l)=some (iU f l,h):=by rfl
def oP (place:Nat->Option (Nat × Nat)) (cs:List V) (ps:List (Nat × V)):Option (List V):=lJ place cs ps
@[simp] theorem Ub (place:Nat->Option (Nat × Nat)) (cs:List V):oP place cs []=some cs:=id rfl
def GJ (o:Option (Nat × Nat)) (place:Nat->Option (Nat × Nat)) (cs:List V) (v:V) (r:List (Nat × V)):Option (List V):=match o with
 | none=>none
 | some (off,sz)=>match r8 v with
  | none=>none
  | some vs=>if vs.length=sz∧off+vs.length<=cs.length then oP place (cs.take off++vs++cs.drop (off+vs.length)) r else none
@[simp] theorem Tl (place:Nat->Option (Nat × Nat)) (cs:List V) (i:Nat) (v:V) (r:List (Nat × V)):oP place cs ((i,v)::r)=GJ (place i) place cs v r:=id rfl
@[simp] theorem VZ (place:Nat->Option (Nat × Nat)) (cs:List V) (x:D) (r:List (Nat × V)) (off sz:Nat) :
  GJ (some (off,sz)) place cs (.d x) r=if 1=sz∧off+1<=cs.length then oP place (cs.take off++[.d x]++cs.drop (off+1)) r else none:=id rfl
@[simp] theorem Ue (place:Nat->Option (Nat × Nat)) (cs:List V) (vs:List V) (r:List (Nat × V)) (off sz:Nat) :
  GJ (some (off,sz)) place cs (.agg vs) r=if vs.length=sz∧off+vs.length<=cs.length then oP place (cs.take off++vs++cs.drop (off+vs.length)) r else none:=id rfl
@[simp] theorem Uc (place:Nat->Option (Nat × Nat)) (cs:List V) (a b c d e f:Nat) (r:List (Nat × V)) (off sz:Nat) :
  GJ (some (off,sz)) place cs (.ref a b c d e f) r=if 1=sz∧off+1<=cs.length then oP place (cs.take off++[.ref a b c d e f]++cs.drop (off+1)) r else none:=id rfl
def TM (fs:List (Nat × Nat)) (z:List D) (ps:List (Nat × V)):Option V:=bld fs z ps
def TL (n:Nat) (z:List D) (ps:List (Nat × V)):Option V:=L4 n z ps
@[simp] theorem XI (fs:List (Nat × Nat)) (z:List D) (ps:List (Nat × V)) (k:V->Prop) (u:PU k):rn (bnd (bld fs z ps)) k u=rn (bnd (TM fs z ps)) k u:=id rfl
@[simp] theorem VG (n:Nat) (z:List D) (ps:List (Nat × V)) (k:V->Prop) (u:PU k):rn (bnd (L4 n z ps)) k u=rn (bnd (TL n z ps)) k u:=id rfl
@[simp] theorem V7 (fs:List (Nat × Nat)) (z:List D) (ps:List (Nat × V)):TM fs z ps=(oP (fun i=>fs[i]?) (z.map .d) ps).map .agg:=id (by unfold TM bld oP;cases lJ (fun i=>fs[i]?) (z.map .d) ps <;> rfl)
@[simp] theorem V6 (n:Nat) (z:List D) (ps:List (Nat × V)):TL n z ps=(oP (fun i=>some (i*n,n)) (z.map .d) ps).map .agg:=id (by unfold TL L4 oP;cases lJ (fun i=>some (i*n,n)) (z.map .d) ps <;> rfl)
@[simp] theorem YB (off n:Nat) (vs:List V):fiV off n true (.agg vs)=vs[off]?:=id rfl
@[simp] theorem V0 (cs:List D) (o off:Nat):faV off (.dptr cs o)=some (.dptr cs (o+off)):=id rfl
@[simp] theorem YC (s e o tot off:Nat):faV off (.ptr s e o tot)=some (.ptr s e (o+off) tot):=id rfl
def bnh {α:Type} (o:Option α) (k:α->Prop):Prop:=match o with
 | some x=>k x
 | none=>False
@[simp] theorem XG {α:Type} (x:α) (k:α->Prop) (u:PU k):rn (bnh (some x)) k u=k x:=id rfl
@[simp] theorem XJ (h:Hp) (n:Nat) (p v:V) (k:V->Hp->Prop) (u:PU k):rh (stD h n p v) k u=rn (bnh (st h n p v)) (fun h'=>k .junk h') .mk:=by
 unfold rh rn stD bnh;cases st h n p v <;> rfl
theorem yv (h:Hp) (s:Nat) (b:Bk) (k:Nat->Hp->Prop):new h s b k=bnh h[s]? fun x=>k (x.1+1) (h.set s (x.1+1,b)):=by
 grind [new,bnh]
@[simp] theorem XL (s:Nat) (cs:List V) (h:Hp) (k:V->Hp->Prop) (u:PU k):rh (alV s cs h) k u=rn (bnh h[s]?) (fun x=>k (.ptr s (x.1+1) 0 cs.length) (h.set s (x.1+1,.vars cs))) .mk:=by unfold rh rn alV;exact yv ..
@[simp] theorem VJ (s:Nat) (vs:List V) (h:Hp) (k:V->Hp->Prop) (u:PU k):rh (iI s (.agg vs) h) k u=rh (alV s vs h) k u:=id rfl
@[simp] theorem UD (s:Nat) (x:D) (h:Hp) (k:V->Hp->Prop) (u:PU k):rh (iI s (.d x) h) k u=rh (alV s [.d x] h) k u:=id rfl
def eY (len:Nat) (z:List D) (ps:List (Nat × V)) (h:Hp):Option (List D × Hp):=match oP (fun i=>some (i*z.length,z.length)) ((iS len z).map .d) ps with
 | some vs=>if 0<z.length∧len*z.length<=16777216 then kI h vs else none
 | none=>none
@[simp] theorem VI (len:Nat) (z:List D) (ps:List (Nat × V)) (h:Hp) (k:V->Hp->Prop) (u:PU k):rh (eh len z ps h) k u=rn (bnh (eY len z ps h)) (fun x=>k (.d (.sl len x.1)) x.2) .mk:=by
 unfold rh rn eh eY bnh oP;cases lJ (fun i=>some (i*z.length,z.length)) ((iS len z).map .d) ps with
 | none=>rfl
 | some vs=>
  simp only;split
  ·cases kI h vs <;> rfl
  ·rfl
@[simp] theorem VH (s len:Nat) (z:List D) (ps:List (Nat × V)) (h:Hp) (k:V->Hp->Prop) (u:PU k):rh (tf s len z ps h) k u=rn (bnh (eY len z ps h)) (fun x=>rn (bnh x.2[s]?) (fun y=>k (.ref s (y.1+1) 0 len len x.1.length) (x.2.set s (y.1+1,.data z.length x.1 true false))) .mk) .mk:=by
 unfold rh rn tf eY bnh oP;cases lJ (fun i=>some (i*z.length,z.length)) ((iS len z).map .d) ps with
 | none=>rfl
 | some vs=>
  simp only;split
  ·cases kI h vs with
   | none=>rfl
   | some x=>simp only [yv];rfl
  ·rfl
def iq (h:Hp) (s e:Nat):Bk:=aO h s e
@[simp] theorem Tc (e0:Nat) (b:Bk) (h:Hp) (e:Nat):iq ((e0,b)::h) 0 e=if e0=e then b else .none:=id rfl
@[simp] theorem Te (x:Nat × Bk) (h:Hp) (s e:Nat):iq (x::h) (s+1) e=iq h s e:=id rfl
@[simp] theorem Ua (x:Nat × Bk) (h:Hp) (e:Nat):iq (x::h) 1 e=iq h 0 e:=id rfl
@[simp] theorem T9 (x:Nat × Bk) (h:Hp) (e:Nat):iq (x::h) 2 e=iq h 1 e:=id rfl
@[simp] theorem R3 (x:Nat × Bk) (h:Hp) (e:Nat):iq (x::h) 3 e=iq h 2 e:=id rfl
@[simp] theorem Tf (x:Nat × Bk) (h:Hp) (e:Nat):iq (x::h) 4 e=iq h 3 e:=id rfl
def N9 (b:Bk) (off tot:Nat):Option V:=match b with
 | .vars cs=>if tot=cs.length then cs[off]? else none
 | .data _ cs _ _=>if tot=cs.length then cs[off]?.map .d else none
 | .none=>none
def Lr (b:Bk) (n off tot:Nat):Option V:=match b with
 | .vars cs=>if tot=cs.length then (cut cs off n).map .agg else none
 | .data _ cs _ _=>if tot=cs.length then (cut cs off n).map fun l=>.agg (l.map .d) else none
 | .none=>none
theorem RZ (h:Hp) (s e off tot:Nat):ld1 h (.ptr s e off tot)=N9 (iq h s e) off tot:=by
 unfold iq;simp only [ld1];cases aO h s e with
 | none=>rfl
 | vars cs=>rfl
 | data n cs a b=>
  simp only [N9];split
  ·cases cs[off]? <;> rfl
  ·rfl
theorem U1 (h:Hp) (n s e off tot:Nat):ldA h n (.ptr s e off tot)=Lr (iq h s e) n off tot:=by
 unfold iq;simp only [ldA];cases aO h s e with
 | none=>rfl
 | vars cs=>
  simp only [Lr];split
  ·cases cut cs off n <;> rfl
  ·rfl
 | data m cs a b=>
  simp only [Lr];split
  ·cases cut cs off n <;> rfl
  ·rfl
@[simp] theorem XD (h:Hp) (s e off tot:Nat) (k:V->Prop) (u:PU k):rn (bnd (ld1 h (.ptr s e off tot))) k u=rn (bnd (N9 (iq h s e) off tot)) k u:=by rw [RZ]
@[simp] theorem XC (h:Hp) (n s e off tot:Nat) (k:V->Prop) (u:PU k):rn (bnd (ldA h n (.ptr s e off tot))) k u=rn (bnd (Lr (iq h s e) n off tot)) k u:=by rw [U1]
@[simp] theorem T7 (cs:List V) (off tot:Nat):N9 (.vars cs) off tot=if tot=cs.length then cs[off]? else none:=id rfl
@[simp] theorem T8 (n:Nat) (cs:List D) (a b:Bool) (off tot:Nat):N9 (.data n cs a b) off tot=if tot=cs.length then cs[off]?.map .d else none:=id rfl
@[simp] theorem T5 (cs:List V) (n off tot:Nat):Lr (.vars cs) n off tot=if tot=cs.length then (cut cs off n).map .agg else none:=id rfl
@[simp] theorem T6 (m:Nat) (cs:List D) (a b:Bool) (n off tot:Nat):Lr (.data m cs a b) n off tot=if tot=cs.length then (cut cs off n).map (fun l=>.agg (l.map .d)) else none:=id rfl
def stX (b:Bk) (h:Hp) (s e off tot:Nat) (vs:List V):Option Hp:=match b with
 | .vars cs=>if tot=cs.length∧off+vs.length<=cs.length∧vs.all okV=true then some (du h s e (.vars (cs.take off++vs++cs.drop (off+vs.length)))) else none
 | _=>sto h s e off tot vs
theorem RL (h:Hp) (s e off tot:Nat) (vs:List V):sto h s e off tot vs=stX (iq h s e) h s e off tot vs:=by
 unfold iq stX;cases hb:aO h s e with
 | vars cs=>simp [sto,hb]
 | none=>rfl
 | data n cs a b=>rfl
@[simp] theorem XA (h:Hp) (n s e off tot:Nat) (vs:List V) (k:Hp->Prop) (u:PU k):rn (bnh (st h n (.ptr s e off tot) (.agg vs))) k u=rn (bnh (if vs.length=n then stX (iq h s e) h s e off tot vs else none)) k u:=by
 simp only [rn,st,RL]
def Fj (b:Bk) (h:Hp) (s e off tot:Nat) (x:D):Option Hp:=match b with
 | .vars cs=>if tot=cs.length∧off+1<=cs.length then some (du h s e (.vars (cs.take off++[.d x]++cs.drop (off+1)))) else none
 | .data n cs ex fr=>if fr=false∧tot=cs.length∧off+1<=cs.length then some (du h s e (.data n (cs.set off (norm x)) ex false)) else none
 | .none=>none
theorem Uw (h:Hp) (s e off tot:Nat) (x:D):st h 1 (.ptr s e off tot) (.d x)=Fj (iq h s e) h s e off tot x:=by
 unfold iq;simp only [st,if_true];cases hb:aO h s e with
 | none=>simp [sto,hb,Fj]
 | vars cs=>simp [sto,hb,Fj,okV]
 | data n cs ex fr=>
  simp only [sto,hb,kI,toD,Fj];by_cases hc:fr=false∧tot=cs.length∧off+1<=cs.length
  ·rw [if_pos hc,if_pos aa];rw [Xv,if_pos aa];simp
  ·rw [if_neg hc,if_neg aa]
@[simp] theorem XB (h:Hp) (s e off tot:Nat) (x:D) (k:Hp->Prop) (u:PU k):rn (bnh (st h 1 (.ptr s e off tot) (.d x))) k u=rn (bnh (Fj (iq h s e) h s e off tot x)) k u:=by rw [Uw]
@[simp] theorem TT (cs:List V) (h:Hp) (s e off tot:Nat) (x:D):Fj (.vars cs) h s e off tot x=if tot=cs.length∧off+1<=cs.length then some (du h s e (.vars (cs.take off++[.d x]++cs.drop (off+1)))) else none:=id rfl
@[simp] theorem KS (n:Nat) (cs:List D) (ex:Bool) (h:Hp) (s e off tot:Nat) (x:D) (ht:tot=cs.length) (ho:off<cs.length):Fj (.data n cs ex false) h s e off tot x=some (du h s e (.data n (cs.set off (norm x)) ex false)):=by
 simp only [Fj];simp [ht];omega
def ixX (b:Bk) (n s e off len tot:Nat) (i:Int):Option V:=match b with
 | .data _ cs _ _=>if tot=cs.length∧0<=i∧i<len then some (.ptr s e (off+i.toNat*n) tot) else none
 | _=>none
@[simp] theorem XE (h:Hp) (n s e off len cap tot:Nat) (kd:IntKind) (i:Int) (k:V->Prop) (u:PU k):rn (bnd (ixV h n (.ref s e off len cap tot) (.d (.int kd i)))) k u=rn (bnd (ixX (iq h s e) n s e off len tot i)) k u:=by
 have:ixV h n (.ref s e off len cap tot) (.d (.int kd i))=ixX (iq h s e) n s e off len tot i:=by
  unfold iq;simp only [ixV,ixX];cases aO h s e <;> rfl
 rfl
@[simp] theorem U3 (m:Nat) (cs:List D) (a b:Bool) (n s e off len tot:Nat) (i:Int) (ht:tot=cs.length) (h0:0<=i) (h1:i<len):ixX (.data m cs a b) n s e off len tot i=some (.ptr s e (off+i.toNat*n) tot):=by
 simp only [ixX];rw [if_pos ⟨ht,h0,h1⟩]
@[simp] theorem WZ (h:Hp) (n s e off tot a b c d f g:Nat) (k:Hp->Prop) (u:PU k):rn (bnh (st h n (.ptr s e off tot) (.ref a b c d f g))) k u=rn (bnh (if n=1 then stX (iq h s e) h s e off tot [.ref a b c d f g] else none)) k u:=by
 simp only [rn,st,RL]
@[simp] theorem Uv (cs:List V) (h:Hp) (s e off tot:Nat) (vs:List V):stX (.vars cs) h s e off tot vs=if tot=cs.length∧off+vs.length<=cs.length∧vs.all okV=true then some (du h s e (.vars (cs.take off++vs++cs.drop (off+vs.length)))) else none:=id rfl
@[simp] theorem VW (h:Hp) (s e:Nat) (b:Bk):du h s e b=h.set s (e,b):=rfl
@[simp] theorem YV (x:D):okV (.d x)=true:=rfl
@[simp] theorem VL (a b c d e f:Nat):okV (.ref a b c d e f)=true:=rfl
@[simp] theorem YF {α:Type} (l:List α) (off n:Nat):cut l off n=if off+n<=l.length then some ((l.drop off).take n) else none:=id rfl
@[simp] theorem eE (i:Nat) (h0 h:Hp) (hl:h.length=h0.length):aK [] i h0 h=h:=Cm i h0 h hl
@[simp] theorem V2 (q:List V->Hp->Prop) (r:List (Exit × (List V->Hp->Prop))) (l:List V) (h:Hp):exK ((.normal,q)::r) .normal l h=q l h:=rfl
@[simp] theorem R8 (q:List V->Hp->Prop) (r:List (Exit × (List V->Hp->Prop))) (l:List V) (h:Hp):exK ((.normal,q)::r) .ret l h=exK r .ret l h:=rfl
@[simp] theorem R7 (q:List V->Hp->Prop) (r:List (Exit × (List V->Hp->Prop))) (l:List V) (h:Hp):exK ((.ret,q)::r) .normal l h=exK r .normal l h:=rfl
@[congr] theorem Ux {h h':Hp} {x:V} {ys:List V} {k:Prop} (e:h=h'):sp h x ys k=sp h' x ys k:=by rw [e]
@[congr] theorem Uz {h h':Hp} {x y:V} {k:Prop} (e:h=h'):sm h x y k=sm h' x y k:=by rw [e]
theorem Fl {h:Hp} {x:V} {k:Prop}:∀ {ys:List V},ys.all (apt h x)=true->k->sp h x ys k
 | [],_,hk=>hk
 | y::ys,hb,hk=>by
  simp only [List.all_cons,Z8] at hb;unfold sp;rw [hb.1];exact Fl hb.2 hk
theorem Mx {h:Hp} {x y:V} {k:Prop} (hb:smB h x y=true) (hk:k):sm h x y k:=by
 grind [sm]
structure Acc where
 s:Nat
 e:Nat
 n:Nat
 b0:Bk
def Acc.v (a:Acc) (L:Nat) (cells:List D):V:=match L with
 | 0=>.d (.pl (.slice none 0 0))
 | _=>.ref a.s (a.e+1) 0 L L cells.length
def Acc.b (a:Acc) (L:Nat) (cells:List D):Nat × Bk:=match L with
 | 0=>(a.e,a.b0)
 | _=>(a.e+1,.data a.n cells false false)
theorem qz (a:Acc) {L by_ k:Nat} {cells cs:List D} {h:Hp} {y:V} {q:V->Hp->Prop} {u:PU q} (hk:0<k) (hs:h[a.s]? = some (a.b L cells)) (hc:cells.length=L*a.n) (hcs:cs.length=k*a.n)
  (hy:cellsOf h y=some (k,cs)) (hyn:∀ t,y≠.d (.str t)) (hb:(L+k)*by_<=140737488355328) (hn:0<a.n) (hq:q (a.v (L+k) (cells++cs)) (h.set a.s (a.b (L+k) (cells++cs)))):rh (apV false a.s a.n by_ (a.v L cells) y h) q u:=by
 have e1:apV false a.s a.n by_ (a.v L cells) y h q=apC false a.s a.n by_ (a.v L cells) k cs h q:=by
  unfold apV;split
  ·trivial
  ·grind
 show apV false a.s a.n by_ (a.v L cells) y h q
 rw [e1];have hlt:=(List.getElem?_eq_some_iff.1 hs).1;obtain ⟨m,hm⟩:∃ m,L+k=m+1:=⟨L+k-1,aa⟩;cases L with
 | zero=>
  have:cells=[]:=Zi aa;subst this;simp only [Zj,List.nil_append] at *;simp only [Acc.v];unfold apC;rw [if_neg aa];simp only [];rw [if_pos aa]
  simp_all [new,Acc.b,Acc.v]
 | succ L=>
  simp only [Acc.v];unfold apC;rw [if_neg aa];have hg:aO h a.s (a.e+1)=.data a.n cells false false:=by simp only [aO,hs,Acc.b,if_true]
  simp only [hg,true_and,Zj];rw [if_pos ⟨Z7 _,aa,hcs⟩,if_neg aa,if_pos hb];simp only [Y9,if_false,Bool.or_self];have hpos:0<cs.length:=by rw [hcs];exact Yz hk hn
  rw [if_pos ⟨aa,aa⟩];rw [hm] at hq ⊢;simp only [Acc.v,Acc.b,Zg,du,hc] at hq ⊢;simp only [Yo];rw [Zw aa];exact hq
theorem pS (a:Acc) {L:Nat} {cells:List D} {h:Hp} (hs:h[a.s]? = some (a.b L cells)) (hc:cells.length=L*a.n) :
  ∃ h',bY h (a.v L cells)=some (.d (.sl L cells),h')∧((L=0∧h'=h)∨(0<L∧h'=h.set a.s (a.e+1,.data a.n cells false true))):=by
 cases L with
 | zero=>
  simp_all [Acc.v]
 | succ L=>
  have hg:aO h a.s (a.e+1)=.data a.n cells false false:=by simp only [aO,hs,Acc.b,if_true]
  refine ⟨_,?_,.inr ⟨Nat.succ_pos _,rfl⟩⟩;simp only [Acc.v,bY,toD,hg,true_and,Zj];rw [if_pos ⟨Z7 _,aa⟩];simp only [Yo,du];rw [Zw aa]
theorem jg {b b':Bool} {h:Hp} (e:b'=b):out (B b) (.d (.bool b')) h:=by simp_all
theorem ci {k:IntKind} {a b:Int} {h:Hp} (e:b=a):out (.d (.int k a)) (.d (.int k b)) h:=by simp_all
theorem cd {C:nr} {h:Hp} {f:FuncId} {args:List V} {v:V} {k:V->Hp->Prop} {u:PU k} (hc:C f args v) (hk:k v h) (hs:aH h args=some (args,h):=by simp [aH,bY]):rh (cal C h (.fn f [] []) args) k u:=Vl hc hs hk
theorem cdx {C:nr} {h:Hp} {f:FuncId} {args ds:List V} {v:V} {k:V->Hp->Prop} {u:PU k} (hs:aH h args=some (ds,h)) (hc:C f ds v) (hk:k v h):rh (cal C h (.fn f [] []) args) k u:=
 IK hs hc (by grind)
theorem lo {st:bh} {clr:List Nat} {h0:Hp} {l:List V} {h:Hp} {k:KL} {u:PU k} (hl:lp st clr h0 l h k):rl (lp st clr h0 l h) k u:=hl
end Go.Vm
