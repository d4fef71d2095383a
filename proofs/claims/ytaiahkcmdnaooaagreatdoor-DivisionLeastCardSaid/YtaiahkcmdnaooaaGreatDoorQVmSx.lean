/- Walking by simp: congruences that keep simp at the head; what operations find, as equations. -/
import Derived.Test.YtaiahkcmdnaooaaGreatDoorQVmLib
set_option linter.unusedVariables false
set_option linter.unusedSimpArgs false
namespace Go.Vm
open Go Go.Am
inductive PU {α:Type} (k:α):Type where
 | mk
def rn {α:Type} (T:(α->Prop)->Prop) (k:α->Prop) (u:PU k):Prop:=T k
def rh {α β:Type} (T:(α->β->Prop)->Prop) (k:α->β->Prop) (u:PU k):Prop:=T k
def rl (T:KL->Prop) (k:KL) (u:PU k):Prop:=T k
def br (p A B:Prop) (u:PU A) (w:PU B):Prop:=(p->A)∧(¬ p->B)
def jo (k:List V->Hp->Prop) (T:(List V->Hp->Prop)->Prop) (u:PU k) (w:PU T):Prop:=T k
theorem Ss {p A B:Prop} {u:PU A} {w:PU B} (h1:p->A) (h2:¬ p->B):br p A B u w:=⟨h1,h2⟩
@[simp] theorem WS (A B:Prop) (u:PU A) (w:PU B):br True A B u w=A:=by simp [br]
@[simp] theorem Vv (A B:Prop) (u:PU A) (w:PU B):br False A B u w=B:=by simp [br]
@[simp] theorem ZS {p A B:Prop} {u:PU A} {w:PU B} (h:p):br p A B u w=A:=by simp [br,h]
@[simp] theorem ZT {p A B:Prop} {u:PU A} {w:PU B} (h:¬ p):br p A B u w=B:=by simp [br,h]
theorem fp {k:List V->Hp->Prop} {T:(List V->Hp->Prop)->Prop} {u:PU k} {w:PU T} {l:List V} {h:Hp} (hT:∀ q,T q=q l h) (hk:k l h):jo k T u w:=by
 unfold jo;rw [hT];exact hk
theorem bj {k:List V->Hp->Prop} {T:(List V->Hp->Prop)->Prop} {u:PU k} {w:PU T} (h:T k):jo k T u w:=h
@[simp ↓] theorem ZU (o:Option V) (k:V->Prop):bnd o k=rn (bnd o) k .mk:=id rfl
@[simp ↓] theorem ZF (x:V) (i:Nat) (k:V->Prop):ext x i k=rn (ext x i) k .mk:=id rfl
@[simp ↓] theorem WC (h:Hp) (op:BinOp) (x y:V) (k:V->Prop):Ek h op x y k=rn (Ek h op x y) k .mk:=id rfl
@[simp ↓] theorem ZI (b:Bool) (A B:Prop):cnd (.d (.bool b)) A B=br (b=true) A B .mk .mk:=by cases b <;> simp [cnd,br]
@[simp ↓] theorem WM (b:Bool) (h:Hp) (T:(V->Hp->Prop)->Prop) (k:V->Hp->Prop):gd (.d (.bool b)) true h T k=br (b=true) (T k) (k (.tup []) h) .mk .mk:=by cases b <;> simp [gd,br]
@[simp ↓] theorem Ve (b:Bool) (h:Hp) (T:(V->Hp->Prop)->Prop) (k:V->Hp->Prop):gd (.d (.bool b)) false h T k=br (b=false) (T k) (k (.tup []) h) .mk .mk:=by cases b <;> simp [gd,br]
@[simp ↓] theorem Vd (w:Bool) (h:Hp) (T:(V->Hp->Prop)->Prop) (k:V->Hp->Prop):gd (.tup []) w h T k=k (.tup []) h:=id rfl
@[simp ↓] theorem aag (k:List V->Hp->Prop) (T:(List V->Hp->Prop)->Prop):jn k T=jo k T .mk .mk:=id rfl
@[simp ↓] theorem ZK (C:oN) (h:Hp) (c:V) (args:List V) (k:V->Hp->Prop):cal C h c args k=rh (cal C h c args) k .mk:=id rfl
@[simp ↓] theorem ZL (C:nr) (h:Hp) (c:V) (args:List V) (s:Nat) (k:V->Hp->Prop):cai C h c args s k=rh (cai C h c args s) k .mk:=id rfl
@[simp ↓] theorem WR (C:nr) (h:Hp) (c:V) (args:List V) (s:Nat) (k:V->Hp->Prop):PG C h c args s k=rh (PG C h c args s) k .mk:=id rfl
@[simp ↓] theorem ZZ (s:Nat) (cs:List V) (h:Hp) (k:V->Hp->Prop):alV s cs h k=rh (alV s cs h) k .mk:=id rfl
@[simp ↓] theorem aaa (s n:Nat) (cs:List D) (h:Hp) (k:V->Hp->Prop):alD s n cs h k=rh (alD s n cs h) k .mk:=id rfl
@[simp ↓] theorem WT (s:Nat) (v:V) (h:Hp) (k:V->Hp->Prop):jZ s v h k=rh (jZ s v h) k .mk:=id rfl
@[simp ↓] theorem WH (len:Nat) (z:List D) (ps:List (Nat × V)) (h:Hp) (k:V->Hp->Prop):dN len z ps h k=rh (dN len z ps h) k .mk:=id rfl
@[simp ↓] theorem WG (s len:Nat) (z:List D) (ps:List (Nat × V)) (h:Hp) (k:V->Hp->Prop):BV s len z ps h k=rh (BV s len z ps h) k .mk:=id rfl
@[simp ↓] theorem YS (s by_:Nat) (z:List D) (h:Hp) (l c:V) (k:V->Hp->Prop):mkS s by_ z h l c k=rh (mkS s by_ z h l c) k .mk:=id rfl
@[simp ↓] theorem XT (h:Hp) (n:Nat) (p v:V) (k:V->Hp->Prop):stD h n p v k=rh (stD h n p v) k .mk:=id rfl
@[simp ↓] theorem ZW (dr:Bool) (s n by_:Nat) (x y:V) (h:Hp) (k:V->Hp->Prop):apV dr s n by_ x y h k=rh (apV dr s n by_ x y h) k .mk:=id rfl
@[simp ↓] theorem ZV (dr:Bool) (s n by_:Nat) (z:List D) (x y:V) (h:Hp) (k:V->Hp->Prop):apZ dr s n by_ z x y h k=rh (apZ dr s n by_ z x y h) k .mk:=id rfl
@[simp ↓] theorem aad (st:bz) (clr:List Nat) (h0:Hp) (l:List V) (h:Hp) (k:KL):lp st clr h0 l h k=rl (lp st clr h0 l h) k .mk:=id rfl
def rk (T:(Exit->Hp->Prop)->Prop) (k:Exit->Hp->Prop) (u:PU k):Prop:=T k
@[simp ↓] theorem YP (o:Option (List (List Value))) (n:Nat) (st:Bu) (clr:List Nat) (h:Hp) (k:Exit->Hp->Prop):rgO o n st clr h k=rk (rgO o n st clr h) k .mk:=id rfl
theorem ro {o:Option (List (List Value))} {xs:List (List Value)} {n:Nat} {st:Bu} {clr:List Nat} {h:Hp} {k:Exit->Hp->Prop} {u:PU k} (hq:o=some xs) (hr:rg n st clr h k xs h):rk (rgO o n st clr h) k u:=by
 subst hq;exact hr
theorem JU {n:Nat} {st:Bu} {clr:List Nat} {h0 h:Hp} {k:Exit->Hp->Prop} {x:List Value} {xs:List (List Value)} (hl:x.length=n) (hs:st (x.map fun v=>.d (gV v)) h fun ex h'=>match ex with
  | .normal=>oC clr 0 h'=true∧rg n st clr h0 k xs (aE clr 0 h0 h')
  | ex=>k ex h'):rg n st clr h0 k (x::xs) h:=⟨hl,hs⟩
@[simp] theorem SO (v:V) (k:V->Prop) (u:PU k):rn (bnd (some v)) k u=k v:=id rfl
@[simp] theorem YI (vs:List V) (i:Nat) (k:V->Prop) (u:PU k):rn (ext (.tup vs) i) k u=rn (bnd vs[i]?) k u:=id rfl
attribute [simp] NU Qw Int.natCast_inj
@[simp] theorem UM (b:Bool) (x y:V):aP (.d (.bool (!b))) x y=aP (.d (.bool b)) y x:=by cases b <;> rfl
@[simp] theorem pu {n:Int} (h1 : -9223372036854775808<=n) (h2:n<=9223372036854775807):IntKind.wrap .i64 n=n:=wrap_i64 ⟨h1,h2⟩
@[simp] theorem HW {n:Int} (h1:0<=n) (h2:n<18446744073709551616):IntKind.wrap .u64 n=n:=wrap_u64 ⟨h1,h2⟩
@[simp] theorem SD {n:Int} (h1:0<=n) (h2:n<4294967296):IntKind.wrap .u32 n=n:=wrap_u32 ⟨h1,h2⟩
@[simp] theorem wrap_u8' {n:Int} (h1:0<=n) (h2:n<256):IntKind.wrap .u8 n=n:=HX rfl ⟨h1,h2⟩
attribute [simp] tF qF kZ
@[simp] theorem RF {k:IntKind} {a b:Int} (hb:b≠0):biI .rem (.d (.int k a)) (.d (.int k b))=some (.d (.int k (a.tmod b))):=by simp [biI,fP,kg,gV,hb]
@[simp] theorem KR {k:IntKind} {a b:Int} (hb:b≠0):biI .quo (.d (.int k a)) (.d (.int k b))=some (.d (.int k (k.wrap (a.tdiv b)))):=by simp [biI,fP,kg,gV,hb]
theorem EU {k l:IntKind} {a b:Int} (h0:0<=b) (hb:b.toNat<=k.bits):biI .shr (.d (.int k a)) (.d (.int l b))=some (.d (.int k (a / 2 ^ b.toNat))):=by
 have h1:¬ (b<0):=aa;simp only [biI,fP,h1,if_false,kg,gV,Y8 hb];rw [Int.fdiv_eq_ediv_of_nonneg _ (by exact Int.le_of_lt (Int.pow_pos ae))]
theorem wi {k l:IntKind} {a b:Int} (h0:0<=b) (hb:b.toNat<=k.bits):biI .shl (.d (.int k a)) (.d (.int l b))=some (.d (.int k (k.wrap (a*2 ^ b.toNat)))):=by
 have h1:¬ (b<0):=aa;simp only [biI,fP,h1,if_false,kg,gV,Y8 hb]
@[simp] theorem VC:IntKind.bits .i64=64:=rfl
@[simp] theorem VA:IntKind.bits .u64=64:=rfl
@[simp] theorem VB:IntKind.bits .u32=32:=rfl
@[simp] theorem WW:IntKind.bits .u8=8:=rfl
@[simp] theorem Qi {l:IntKind} {a b:Int} (h0:0<=b) (hb:b<=64):biI .shr (.d (.int .i64 a)) (.d (.int l b))=some (.d (.int .i64 (a / 2 ^ b.toNat))):=EU h0 am
@[simp] theorem VQ {l:IntKind} {a b:Int} (h0:0<=b) (hb:b<=64):biI .shl (.d (.int .i64 a)) (.d (.int l b))=some (.d (.int .i64 (IntKind.wrap .i64 (a*2 ^ b.toNat)))):=wi h0 am
@[simp] theorem VM {l:IntKind} {a b:Int} (h0:0<=b) (hb:b<=64):biI .shr (.d (.int .u64 a)) (.d (.int l b))=some (.d (.int .u64 (a / 2 ^ b.toNat))):=EU h0 am
@[simp] theorem VO {l:IntKind} {a b:Int} (h0:0<=b) (hb:b<=64):biI .shl (.d (.int .u64 a)) (.d (.int l b))=some (.d (.int .u64 (IntKind.wrap .u64 (a*2 ^ b.toNat)))):=wi h0 am
@[simp] theorem VN {l:IntKind} {a b:Int} (h0:0<=b) (hb:b<=32):biI .shr (.d (.int .u32 a)) (.d (.int l b))=some (.d (.int .u32 (a / 2 ^ b.toNat))):=EU h0 am
@[simp] theorem VP {l:IntKind} {a b:Int} (h0:0<=b) (hb:b<=32):biI .shl (.d (.int .u32 a)) (.d (.int l b))=some (.d (.int .u32 (IntKind.wrap .u32 (a*2 ^ b.toNat)))):=wi h0 am
@[simp] theorem sW (k:IntKind) (n:Int):unV .neg (.d (.int k n))=some (.d (.int k (k.wrap (-n)))):=by simp [unV,fP,kg,gV]
def nth {α:Type} (d:α) (l:List α) (i:Nat):α:=l.getD i d
theorem f9 {α:Type} (d:α) (l:List α) (i:Nat) (h:i<l.length):nth d l i=l[i]:=by simp [nth,h]
@[simp] theorem VY {α:Type} (d:α) (p:List α) (x:α) (q:List α):nth d (p++x::q) p.length=x:=by simp [nth]
section
variable {α:Type} (f:α->D)
@[simp] theorem dO (l:List α) (h:Hp) {k:IntKind} {i:Int} (h0:0<=i) (h1:i<l.length):ixV h 1 (lst f l) (.d (.int k i))=some (.dptr (l.map f) i.toNat):=
 IV f l h (Wz h0).symm aa
theorem eU (d:α) (l:List α) (h:Hp) {j:Nat} (hl:j<l.length):ld1 h (.dptr (l.map f) j)=some (.d (f (nth d l j))):=by
 rw [Tl f l h hl,f9 d l j hl]
@[simp] theorem YY (p:List α) (x:α) (q:List α) (h:Hp) (k:IntKind):ixV h 1 (lst f (p++x::q)) (.d (.int k p.length))=some (.dptr ((p++x::q).map f) p.length):=
 IV f _ h rfl af
omit f in
@[simp] theorem YV (a:List D) (x:D) (b:List D) (h:Hp) {j:Nat} (hj:j=a.length):ld1 h (.dptr (a++x::b) j)=some (.d x):=by
 subst hj;simp [ld1]
omit f in
@[simp] theorem aaf (x:D) (b:List D) (h:Hp):ld1 h (.dptr (x::b) 0)=some (.d x):=by simp [ld1]
end
section
variable {α:Type} (f:α->D) (l:List α)
@[simp] theorem R7 (h:Hp) {i:Int} (h0:0<=i) (h1:i<=l.length) (hp:0<l.length):slV h 1 (lst f l) none (some (I i))=some (lst f (l.take i.toNat)):=UJ f l hp aa aa
@[simp] theorem aab (h:Hp) {i:Int} (h0:0<=i) (h1:i<=l.length) (hp:0<l.length):slV h 1 (lst f l) (some (I i)) none=some (lst f (l.drop i.toNat)):=UI f l hp aa aa
end
@[simp] theorem aai (len n:Nat) (cs:List D) (off:Nat) {k:IntKind} {i:Int} (h0:0<=i) (h1:i<len):ixP len n (.dptr cs off) (.d (.int k i))=some (.dptr cs (off+i.toNat*n)):=by
 simp only [ixP];rw [if_pos ⟨h0,h1⟩]
@[simp] theorem aah (len n:Nat) (s e off tot:Nat) {k:IntKind} {i:Int} (h0:0<=i) (h1:i<len):ixP len n (.ptr s e off tot) (.d (.int k i))=some (.ptr s e (off+i.toNat*n) tot):=by
 simp only [ixP];rw [if_pos ⟨h0,h1⟩]
theorem U6 (h:Hp) (cs:List D) (pos:Nat) {x:D} (hx:cs[pos]? = some x):ld1 h (.dptr cs pos)=some (.d x):=by simp only [ld1,hx]
def bN {α:Type} (f:α->List D) (l:List α):V:=.d (.sl l.length (l.flatMap f))
section
variable {α:Type} (f:α->List D) {n:Nat} (hf:∀ x,(f x).length=n)
include hf
theorem iW (l:List α):(l.flatMap f).length=l.length*n:=by
 induction l with
 | nil=>simp
 | cons x l ih=>simp [X0,hf,ih,Nat.add_mul,Wc]
theorem Hw (d:α) (l:List α) {j:Nat} (hj:j<l.length):cut (l.flatMap f) (j*n) n=some (f (nth d l j)):=by
 have hle:j*n+n<=(l.flatMap f).length:=by
  rw [iW f hf,<- Xn];exact Z3 n hj
 simp only [cut,if_pos hle,Z9];clear hle
 induction l generalizing j with
 | nil=>cases hj
 | cons x l ih=>
  cases j with
  | zero=>simp [nth,X0,<- hf x]
  | succ j=>
   have:=ih (j:=j) (by simpa using hj);rw [X0,Xn,Wc,<- List.drop_drop]
   conv=>lhs;rw [<- hf x]
   rw [List.drop_left,hf x,this];simp [nth]
theorem jT (l:List α) (h:Hp) {k:IntKind} {i:Int} (h0:0<=i) (h1:i<l.length):ixV h n (bN f l) (.d (.int k i))=some (.dptr (l.flatMap f) (i.toNat*n)):=by
 simp only [ixV,bN];rw [if_pos ⟨h0,h1,iW f hf l⟩]
theorem jS (d:α) (l:List α) (h:Hp) {j:Nat} (hj:j<l.length):ldA h n (.dptr (l.flatMap f) (j*n))=some (.agg ((f (nth d l j)).map .d)):=by
 simp only [ldA,Hw f hf d l hj]
end
@[simp] theorem Ue {α:Type} (f:α->List D) (l:List α):aA (bN f l)=some (I l.length):=id rfl
@[simp] theorem T7 {α:Type} (h:Hp) (f:α->List D) (l:List α):aI h (bN f l)=some (bN f l,h):=by simp [bN]
def oU (place:Nat->Option (Nat × Nat)) (cs:List V) (ps:List (Nat × V)):Option (List V):=md place cs ps
@[simp] theorem Ul (place:Nat->Option (Nat × Nat)) (cs:List V):oU place cs []=some cs:=id rfl
def Ha (o:Option (Nat × Nat)) (place:Nat->Option (Nat × Nat)) (cs:List V) (v:V) (r:List (Nat × V)):Option (List V):=match o with
 | none=>none
 | some (off,sz)=>match sQ v with
  | none=>none
  | some vs=>if vs.length=sz∧off+vs.length<=cs.length then oU place (cs.take off++vs++cs.drop (off+vs.length)) r else none
@[simp] theorem TD (place:Nat->Option (Nat × Nat)) (cs:List V) (i:Nat) (v:V) (r:List (Nat × V)):oU place cs ((i,v)::r)=Ha (place i) place cs v r:=id rfl
@[simp] theorem WN (place:Nat->Option (Nat × Nat)) (cs:List V) (x:D) (r:List (Nat × V)) (off sz:Nat) :
  Ha (some (off,sz)) place cs (.d x) r=if 1=sz∧off+1<=cs.length then oU place (cs.take off++[.d x]++cs.drop (off+1)) r else none:=id rfl
@[simp] theorem Uo (place:Nat->Option (Nat × Nat)) (cs:List V) (vs:List V) (r:List (Nat × V)) (off sz:Nat) :
  Ha (some (off,sz)) place cs (.agg vs) r=if vs.length=sz∧off+vs.length<=cs.length then oU place (cs.take off++vs++cs.drop (off+vs.length)) r else none:=id rfl
@[simp] theorem Um (place:Nat->Option (Nat × Nat)) (cs:List V) (a b c d e f:Nat) (r:List (Nat × V)) (off sz:Nat) :
  Ha (some (off,sz)) place cs (.ref a b c d e f) r=if 1=sz∧off+1<=cs.length then oU place (cs.take off++[.ref a b c d e f]++cs.drop (off+1)) r else none:=id rfl
def TY (fs:List (Nat × Nat)) (z:List D) (ps:List (Nat × V)):Option V:=bld fs z ps
def TX (n:Nat) (z:List D) (ps:List (Nat × V)):Option V:=Mr n z ps
@[simp] theorem YK (fs:List (Nat × Nat)) (z:List D) (ps:List (Nat × V)) (k:V->Prop) (u:PU k):rn (bnd (bld fs z ps)) k u=rn (bnd (TY fs z ps)) k u:=id rfl
@[simp] theorem VS (n:Nat) (z:List D) (ps:List (Nat × V)) (k:V->Prop) (u:PU k):rn (bnd (Mr n z ps)) k u=rn (bnd (TX n z ps)) k u:=id rfl
@[simp] theorem WV (fs:List (Nat × Nat)) (z:List D) (ps:List (Nat × V)):TY fs z ps=(oU (fun i=>fs[i]?) (z.map .d) ps).map .agg:=id (by unfold TY bld oU;cases md (fun i=>fs[i]?) (z.map .d) ps <;> rfl)
@[simp] theorem WU (n:Nat) (z:List D) (ps:List (Nat × V)):TX n z ps=(oU (fun i=>some (i*n,n)) (z.map .d) ps).map .agg:=id (by unfold TX Mr oU;cases md (fun i=>some (i*n,n)) (z.map .d) ps <;> rfl)
@[simp] theorem ZD (off n:Nat) (vs:List V):fiV off n true (.agg vs)=vs[off]?:=id rfl
@[simp] theorem WO (cs:List D) (o off:Nat):faV off (.dptr cs o)=some (.dptr cs (o+off)):=id rfl
@[simp] theorem ZE (s e o tot off:Nat):faV off (.ptr s e o tot)=some (.ptr s e (o+off) tot):=id rfl
def bnh {α:Type} (o:Option α) (k:α->Prop):Prop:=match o with
 | some x=>k x
 | none=>False
@[simp] theorem YJ {α:Type} (x:α) (k:α->Prop) (u:PU k):rn (bnh (some x)) k u=k x:=id rfl
@[simp] theorem YL (h:Hp) (n:Nat) (p v:V) (k:V->Hp->Prop) (u:PU k):rh (stD h n p v) k u=rn (bnh (st h n p v)) (fun h'=>k .junk h') .mk:=by
 unfold rh rn stD bnh;cases st h n p v <;> rfl
theorem yO (h:Hp) (s:Nat) (b:Bk) (k:Nat->Hp->Prop):new h s b k=bnh h[s]? fun x=>k (x.1+1) (h.set s (x.1+1,b)):=by
 unfold new bnh;cases h[s]? <;> rfl
@[simp] theorem YN (s:Nat) (cs:List V) (h:Hp) (k:V->Hp->Prop) (u:PU k):rh (alV s cs h) k u=rn (bnh h[s]?) (fun x=>k (.ptr s (x.1+1) 0 cs.length) (h.set s (x.1+1,.vars cs))) .mk:=by unfold rh rn alV;exact yO ..
@[simp] theorem VV (s:Nat) (vs:List V) (h:Hp) (k:V->Hp->Prop) (u:PU k):rh (jZ s (.agg vs) h) k u=rh (alV s vs h) k u:=id rfl
@[simp] theorem UL (s:Nat) (x:D) (h:Hp) (k:V->Hp->Prop) (u:PU k):rh (jZ s (.d x) h) k u=rh (alV s [.d x] h) k u:=id rfl
def dY (len:Nat) (z:List D) (ps:List (Nat × V)) (h:Hp):Option (List D × Hp):=match oU (fun i=>some (i*z.length,z.length)) ((gT len z).map .d) ps with
 | some vs=>if 0<z.length∧len*z.length<=16777216 then jw h vs else none
 | none=>none
@[simp] theorem VU (len:Nat) (z:List D) (ps:List (Nat × V)) (h:Hp) (k:V->Hp->Prop) (u:PU k):rh (dN len z ps h) k u=rn (bnh (dY len z ps h)) (fun x=>k (.d (.sl len x.1)) x.2) .mk:=by
 unfold rh rn dN dY bnh oU;cases md (fun i=>some (i*z.length,z.length)) ((gT len z).map .d) ps with
 | none=>rfl
 | some vs=>
  simp only;split
  ·cases jw h vs <;> rfl
  ·rfl
@[simp] theorem VT (s len:Nat) (z:List D) (ps:List (Nat × V)) (h:Hp) (k:V->Hp->Prop) (u:PU k):rh (BV s len z ps h) k u=rn (bnh (dY len z ps h)) (fun x=>rn (bnh x.2[s]?) (fun y=>k (.ref s (y.1+1) 0 len len x.1.length) (x.2.set s (y.1+1,.data z.length x.1 true false))) .mk) .mk:=by
 unfold rh rn BV dY bnh oU;cases md (fun i=>some (i*z.length,z.length)) ((gT len z).map .d) ps with
 | none=>rfl
 | some vs=>
  simp only;split
  ·cases jw h vs with
   | none=>rfl
   | some x=>simp only [yO];rfl
  ·rfl
def iM (h:Hp) (s e:Nat):Bk:=hget h s e
@[simp] theorem Tr (e0:Nat) (b:Bk) (h:Hp) (e:Nat):iM ((e0,b)::h) 0 e=if e0=e then b else .none:=id rfl
@[simp] theorem Tt (x:Nat × Bk) (h:Hp) (s e:Nat):iM (x::h) (s+1) e=iM h s e:=id rfl
@[simp] theorem Uk (x:Nat × Bk) (h:Hp) (e:Nat):iM (x::h) 1 e=iM h 0 e:=id rfl
@[simp] theorem Uj (x:Nat × Bk) (h:Hp) (e:Nat):iM (x::h) 2 e=iM h 1 e:=id rfl
@[simp] theorem Sk (x:Nat × Bk) (h:Hp) (e:Nat):iM (x::h) 3 e=iM h 2 e:=id rfl
@[simp] theorem Tu (x:Nat × Bk) (h:Hp) (e:Nat):iM (x::h) 4 e=iM h 3 e:=id rfl
def Oz (b:Bk) (off tot:Nat):Option V:=match b with
 | .vars cs=>if tot=cs.length then cs[off]? else none
 | .data _ cs _ _=>if tot=cs.length then cs[off]?.map .d else none
 | .none=>none
def LR (b:Bk) (n off tot:Nat):Option V:=match b with
 | .vars cs=>if tot=cs.length then (cut cs off n).map .agg else none
 | .data _ cs _ _=>if tot=cs.length then (cut cs off n).map fun l=>.agg (l.map .d) else none
 | .none=>none
theorem Si (h:Hp) (s e off tot:Nat):ld1 h (.ptr s e off tot)=Oz (iM h s e) off tot:=by
 unfold iM;simp only [ld1];cases hget h s e with
 | none=>rfl
 | vars cs=>rfl
 | data n cs a b=>
  simp only [Oz];split
  ·cases cs[off]? <;> rfl
  ·rfl
theorem U5 (h:Hp) (n s e off tot:Nat):ldA h n (.ptr s e off tot)=LR (iM h s e) n off tot:=by
 unfold iM;simp only [ldA];cases hget h s e with
 | none=>rfl
 | vars cs=>
  simp only [LR];split
  ·cases cut cs off n <;> rfl
  ·rfl
 | data m cs a b=>
  simp only [LR];split
  ·cases cut cs off n <;> rfl
  ·rfl
@[simp] theorem YG (h:Hp) (s e off tot:Nat) (k:V->Prop) (u:PU k):rn (bnd (ld1 h (.ptr s e off tot))) k u=rn (bnd (Oz (iM h s e) off tot)) k u:=by rw [Si]
@[simp] theorem YF (h:Hp) (n s e off tot:Nat) (k:V->Prop) (u:PU k):rn (bnd (ldA h n (.ptr s e off tot))) k u=rn (bnd (LR (iM h s e) n off tot)) k u:=by rw [U5]
@[simp] theorem Uh (cs:List V) (off tot:Nat):Oz (.vars cs) off tot=if tot=cs.length then cs[off]? else none:=id rfl
@[simp] theorem Ui (n:Nat) (cs:List D) (a b:Bool) (off tot:Nat):Oz (.data n cs a b) off tot=if tot=cs.length then cs[off]?.map .d else none:=id rfl
@[simp] theorem Uf (cs:List V) (n off tot:Nat):LR (.vars cs) n off tot=if tot=cs.length then (cut cs off n).map .agg else none:=id rfl
@[simp] theorem Ug (m:Nat) (cs:List D) (a b:Bool) (n off tot:Nat):LR (.data m cs a b) n off tot=if tot=cs.length then (cut cs off n).map (fun l=>.agg (l.map .d)) else none:=id rfl
def stX (b:Bk) (h:Hp) (s e off tot:Nat) (vs:List V):Option Hp:=match b with
 | .vars cs=>if tot=cs.length∧off+vs.length<=cs.length∧vs.all okV=true then some (dp h s e (.vars (cs.take off++vs++cs.drop (off+vs.length)))) else none
 | _=>sto h s e off tot vs
theorem R8 (h:Hp) (s e off tot:Nat) (vs:List V):sto h s e off tot vs=stX (iM h s e) h s e off tot vs:=by
 unfold iM stX;cases hb:hget h s e with
 | vars cs=>simp [sto,hb]
 | none=>rfl
 | data n cs a b=>rfl
@[simp] theorem YD (h:Hp) (n s e off tot:Nat) (vs:List V) (k:Hp->Prop) (u:PU k):rn (bnh (st h n (.ptr s e off tot) (.agg vs))) k u=rn (bnh (if vs.length=n then stX (iM h s e) h s e off tot vs else none)) k u:=by
 simp only [rn,st,R8]
def FI (b:Bk) (h:Hp) (s e off tot:Nat) (x:D):Option Hp:=match b with
 | .vars cs=>if tot=cs.length∧off+1<=cs.length then some (dp h s e (.vars (cs.take off++[.d x]++cs.drop (off+1)))) else none
 | .data n cs ex fr=>if fr=false∧tot=cs.length∧off+1<=cs.length then some (dp h s e (.data n (cs.set off (norm x)) ex false)) else none
 | .none=>none
theorem UE (h:Hp) (s e off tot:Nat) (x:D):st h 1 (.ptr s e off tot) (.d x)=FI (iM h s e) h s e off tot x:=by
 unfold iM;simp only [st,if_true];cases hb:hget h s e with
 | none=>simp [sto,hb,FI]
 | vars cs=>simp [sto,hb,FI,okV]
 | data n cs ex fr=>
  simp only [sto,hb,jw,toD,FI];by_cases hc:fr=false∧tot=cs.length∧off+1<=cs.length
  ·rw [if_pos hc,if_pos (by simpa using hc)];rw [Xb,if_pos aa];simp
  ·rw [if_neg hc,if_neg (by simpa using hc)]
@[simp] theorem YE (h:Hp) (s e off tot:Nat) (x:D) (k:Hp->Prop) (u:PU k):rn (bnh (st h 1 (.ptr s e off tot) (.d x))) k u=rn (bnh (FI (iM h s e) h s e off tot x)) k u:=by rw [UE]
@[simp] theorem T6 (cs:List V) (h:Hp) (s e off tot:Nat) (x:D):FI (.vars cs) h s e off tot x=if tot=cs.length∧off+1<=cs.length then some (dp h s e (.vars (cs.take off++[.d x]++cs.drop (off+1)))) else none:=id rfl
@[simp] theorem Lg (n:Nat) (cs:List D) (ex:Bool) (h:Hp) (s e off tot:Nat) (x:D) (ht:tot=cs.length) (ho:off<cs.length):FI (.data n cs ex false) h s e off tot x=some (dp h s e (.data n (cs.set off (norm x)) ex false)):=by
 simp only [FI];simp [ht];omega
def ixX (b:Bk) (n s e off len tot:Nat) (i:Int):Option V:=match b with
 | .data _ cs _ _=>if tot=cs.length∧0<=i∧i<len then some (.ptr s e (off+i.toNat*n) tot) else none
 | _=>none
@[simp] theorem YH (h:Hp) (n s e off len cap tot:Nat) (kd:IntKind) (i:Int) (k:V->Prop) (u:PU k):rn (bnd (ixV h n (.ref s e off len cap tot) (.d (.int kd i)))) k u=rn (bnd (ixX (iM h s e) n s e off len tot i)) k u:=by
 have:ixV h n (.ref s e off len cap tot) (.d (.int kd i))=ixX (iM h s e) n s e off len tot i:=by
  unfold iM;simp only [ixV,ixX];cases hget h s e <;> rfl
 rw [this]
@[simp] theorem U7 (m:Nat) (cs:List D) (a b:Bool) (n s e off len tot:Nat) (i:Int) (ht:tot=cs.length) (h0:0<=i) (h1:i<len):ixX (.data m cs a b) n s e off len tot i=some (.ptr s e (off+i.toNat*n) tot):=by
 simp only [ixX];rw [if_pos ⟨ht,h0,h1⟩]
@[simp] theorem YC (h:Hp) (n s e off tot a b c d f g:Nat) (k:Hp->Prop) (u:PU k):rn (bnh (st h n (.ptr s e off tot) (.ref a b c d f g))) k u=rn (bnh (if n=1 then stX (iM h s e) h s e off tot [.ref a b c d f g] else none)) k u:=by
 simp only [rn,st,R8]
@[simp] theorem UC (cs:List V) (h:Hp) (s e off tot:Nat) (vs:List V):stX (.vars cs) h s e off tot vs=if tot=cs.length∧off+vs.length<=cs.length∧vs.all okV=true then some (dp h s e (.vars (cs.take off++vs++cs.drop (off+vs.length)))) else none:=id rfl
@[simp] theorem WK (h:Hp) (s e:Nat) (b:Bk):dp h s e b=h.set s (e,b):=rfl
@[simp] theorem aac (x:D):okV (.d x)=true:=rfl
@[simp] theorem VW (a b c d e f:Nat):okV (.ref a b c d e f)=true:=rfl
@[simp] theorem ZH {α:Type} (l:List α) (off n:Nat):cut l off n=if off+n<=l.length then some ((l.drop off).take n) else none:=id rfl
@[simp] theorem cQ (i:Nat) (h0 h:Hp) (hl:h.length=h0.length):aE [] i h0 h=h:=Cz i h0 h hl
@[simp] theorem WQ (q:List V->Hp->Prop) (r:List (Exit × (List V->Hp->Prop))) (l:List V) (h:Hp):exK ((.normal,q)::r) .normal l h=q l h:=rfl
@[simp] theorem Sq (q:List V->Hp->Prop) (r:List (Exit × (List V->Hp->Prop))) (l:List V) (h:Hp):exK ((.normal,q)::r) .ret l h=exK r .ret l h:=rfl
@[simp] theorem Sp (q:List V->Hp->Prop) (r:List (Exit × (List V->Hp->Prop))) (l:List V) (h:Hp):exK ((.ret,q)::r) .normal l h=exK r .normal l h:=rfl
@[congr] theorem UF {h h':Hp} {x:V} {ys:List V} {k:Prop} (e:h=h'):sp h x ys k=sp h' x ys k:=by rw [e]
@[congr] theorem UH {h h':Hp} {x y:V} {k:Prop} (e:h=h'):sm h x y k=sm h' x y k:=by rw [e]
theorem FJ {h:Hp} {x:V} {k:Prop}:∀ {ys:List V},ys.all (apt h x)=true->k->sp h x ys k
 | [],_,hk=>hk
 | y::ys,hb,hk=>by
  simp only [List.all_cons,Z7] at hb;unfold sp;rw [hb.1];exact FJ hb.2 hk
theorem MZ {h:Hp} {x y:V} {k:Prop} (hb:smB h x y=true) (hk:k):sm h x y k:=by
 unfold sm;rw [hb];exact hk
structure Acc where
 s:Nat
 e:Nat
 n:Nat
 b0:Bk
def Acc.v (a:Acc) (L:Nat) (cells:List D):V:=match L with
 | 0=>.d (.pl (.slice none 0 0))
 | _=>.ref a.s (a.e+1) 0 L L cells.length
def Acc.b (a:Acc) (L:Nat) (cells:List D):Nat × Bk:=match L with
 | 0=>(a.e,a.b0)
 | _=>(a.e+1,.data a.n cells false false)
theorem oV (a:Acc) {L by_ k:Nat} {cells cs:List D} {h:Hp} {y:V} {q:V->Hp->Prop} {u:PU q} (hk:0<k) (hs:h[a.s]? = some (a.b L cells)) (hc:cells.length=L*a.n) (hcs:cs.length=k*a.n)
  (hy:cellsOf h y=some (k,cs)) (hyn:∀ t,y≠.d (.str t)) (hb:(L+k)*by_<=140737488355328) (hn:0<a.n) (hq:q (a.v (L+k) (cells++cs)) (h.set a.s (a.b (L+k) (cells++cs)))):rh (apV false a.s a.n by_ (a.v L cells) y h) q u:=by
 have e1:apV false a.s a.n by_ (a.v L cells) y h q=apC false a.s a.n by_ (a.v L cells) k cs h q:=by
  unfold apV;split
  ·rename_i t;exact absurd rfl (hyn t)
  ·rw [hy];simp only [hcs,if_true]
 show apV false a.s a.n by_ (a.v L cells) y h q
 rw [e1];have hlt:=(List.getElem?_eq_some_iff.1 hs).1;obtain ⟨m,hm⟩:∃ m,L+k=m+1:=⟨L+k-1,aa⟩;cases L with
 | zero=>
  have:cells=[]:=Zj (by simpa using hc);subst this;simp only [Zm,List.nil_append] at *;simp only [Acc.v];unfold apC;rw [if_neg aa];simp only [];rw [if_pos aa];simp only [new,hs,Acc.b];subst hm;simpa only [Acc.v,Acc.b] using hq
 | succ L=>
  simp only [Acc.v];unfold apC;rw [if_neg aa];have hg:hget h a.s (a.e+1)=.data a.n cells false false:=by simp only [hget,hs,Acc.b,if_true]
  simp only [hg,true_and,Zm];rw [if_pos ⟨Z6 _,aa,hcs⟩,if_neg aa,if_pos hb];simp only [Zl,if_false,Bool.or_self];have hpos:0<cs.length:=by rw [hcs];exact Yp hk hn
  rw [if_pos ⟨aa,by rw [hc];omega⟩];rw [hm] at hq ⊢;simp only [Acc.v,Acc.b,Zk,dp,hc] at hq ⊢;simp only [Y3];rw [Zv aa];exact hq
theorem oM (a:Acc) {L:Nat} {cells:List D} {h:Hp} (hs:h[a.s]? = some (a.b L cells)) (hc:cells.length=L*a.n) :
  ∃ h',aI h (a.v L cells)=some (.d (.sl L cells),h')∧((L=0∧h'=h)∨(0<L∧h'=h.set a.s (a.e+1,.data a.n cells false true))):=by
 cases L with
 | zero=>
  have:cells=[]:=Zj (by simpa using hc);subst this;exact ⟨h,by simp [Acc.v],.inl ⟨rfl,rfl⟩⟩
 | succ L=>
  have hg:hget h a.s (a.e+1)=.data a.n cells false false:=by simp only [hget,hs,Acc.b,if_true]
  refine ⟨_,?_,.inr ⟨Nat.succ_pos _,rfl⟩⟩;simp only [Acc.v,aI,toD,hg,true_and,Zm];rw [if_pos ⟨Z6 _,aa⟩];simp only [Y3,dp];rw [Zv aa]
theorem jA {b b':Bool} {h:Hp} (e:b'=b):out (B b) (.d (.bool b')) h:=by subst e;exact Ai ..
theorem bU {k:IntKind} {a b:Int} {h:Hp} (e:b=a):out (.d (.int k a)) (.d (.int k b)) h:=by subst e;exact Qz ..
theorem cd {C:oN} {h:Hp} {f:FuncId} {args:List V} {v:V} {k:V->Hp->Prop} {u:PU k} (hc:C f args v) (hk:k v h) (hs:aj h args=some (args,h):=by simp [aj,aI]):rh (cal C h (.fn f [] []) args) k u:=Vs hc hs hk
theorem lo {st:bz} {clr:List Nat} {h0:Hp} {l:List V} {h:Hp} {k:KL} {u:PU k} (hl:lp st clr h0 l h k):rl (lp st clr h0 l h) k u:=hl
end Go.Vm
