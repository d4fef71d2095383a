/- Walking by simp: congruences that keep simp at the head; what operations find, as equations. -/
import Derived.Test.YtaiahkcmdnaooaaGreatDoorQVmLib
set_option linter.unusedVariables false
set_option linter.unusedSimpArgs false
namespace Go.Vm
open Go Go.Am
inductive PU {α:Type} (k:α):Type where
 | mk
def rn {α:Type} (T:(α->Prop)->Prop) (k:α->Prop) (u:PU k):Prop:=T k
def rh {α β:Type} (T:(α->β->Prop)->Prop) (k:α->β->Prop) (u:PU k):Prop:=T k
def rl (T:KL->Prop) (k:KL) (u:PU k):Prop:=T k
def br (p A B:Prop) (u:PU A) (w:PU B):Prop:=(p->A)∧(¬ p->B)
def jo (k:List V->Hp->Prop) (T:(List V->Hp->Prop)->Prop) (u:PU k) (w:PU T):Prop:=T k
theorem SJ {p A B:Prop} {u:PU A} {w:PU B} (h1:p->A) (h2:¬ p->B):br p A B u w:=⟨h1,h2⟩
@[simp] theorem abI (A B:Prop) (u:PU A) (w:PU B):br True A B u w=A:=by simp [br]
@[simp] theorem aaZ (A B:Prop) (u:PU A) (w:PU B):br False A B u w=B:=by simp [br]
@[simp] theorem ac9 {p A B:Prop} {u:PU A} {w:PU B} (h:p):br p A B u w=A:=by simp_all
@[simp] theorem ada {p A B:Prop} {u:PU A} {w:PU B} (h:¬ p):br p A B u w=B:=by simp_all
theorem fY {k:List V->Hp->Prop} {T:(List V->Hp->Prop)->Prop} {u:PU k} {w:PU T} {l:List V} {h:Hp} (hT:∀ q,T q=q l h) (hk:k l h):jo k T u w:=by
 grind [jo]
theorem aZ {k:List V->Hp->Prop} {T:(List V->Hp->Prop)->Prop} {u:PU k} {w:PU T} (h:T k):jo k T u w:=h
@[simp ↓] theorem adb (o:Option V) (k:V->Prop):bnd o k=rn (bnd o) k .mk:=id rfl
@[simp ↓] theorem acV (x:V) (i:Nat) (k:V->Prop):ext x i k=rn (ext x i) k .mk:=id rfl
@[simp ↓] theorem abv (h:Hp) (op:BinOp) (x y:V) (k:V->Prop):GR h op x y k=rn (GR h op x y) k .mk:=id rfl
@[simp ↓] theorem acZ (b:Bool) (A B:Prop):cnd (.d (.bool b)) A B=br (b=true) A B .mk .mk:=by cases b <;> simp [cnd,br]
@[simp ↓] theorem abC (b:Bool) (h:Hp) (T:(V->Hp->Prop)->Prop) (k:V->Hp->Prop):gd (.d (.bool b)) true h T k=br (b=true) (T k) (k (.tup []) h) .mk .mk:=by cases b <;> simp [gd,br]
@[simp ↓] theorem aaF (b:Bool) (h:Hp) (T:(V->Hp->Prop)->Prop) (k:V->Hp->Prop):gd (.d (.bool b)) false h T k=br (b=false) (T k) (k (.tup []) h) .mk .mk:=by cases b <;> simp [gd,br]
@[simp ↓] theorem aaE (w:Bool) (h:Hp) (T:(V->Hp->Prop)->Prop) (k:V->Hp->Prop):gd (.tup []) w h T k=k (.tup []) h:=id rfl
@[simp ↓] theorem ado (k:List V->Hp->Prop) (T:(List V->Hp->Prop)->Prop):jn k T=jo k T .mk .mk:=id rfl
@[simp ↓] theorem ac1 (C:pG) (h:Hp) (c:V) (args:List V) (k:V->Hp->Prop):cal C h c args k=rh (cal C h c args) k .mk:=id rfl
@[simp ↓] theorem ac2 (C:pF) (h:Hp) (c:V) (args:List V) (s:Nat) (k:V->Hp->Prop):cai C h c args s k=rh (cai C h c args s) k .mk:=id rfl
@[simp ↓] theorem abH (C:pF) (h:Hp) (c:V) (args:List V) (s:Nat) (k:V->Hp->Prop):SF C h c args s k=rh (SF C h c args s) k .mk:=id rfl
@[simp ↓] theorem adh (s:Nat) (cs:List V) (h:Hp) (k:V->Hp->Prop):alV s cs h k=rh (alV s cs h) k .mk:=id rfl
@[simp ↓] theorem adi (s n:Nat) (cs:List D) (h:Hp) (k:V->Hp->Prop):alD s n cs h k=rh (alD s n cs h) k .mk:=id rfl
@[simp ↓] theorem abJ (s:Nat) (v:V) (h:Hp) (k:V->Hp->Prop):iR s v h k=rh (iR s v h) k .mk:=id rfl
@[simp ↓] theorem aby (len:Nat) (z:List D) (ps:List (Nat × V)) (h:Hp) (k:V->Hp->Prop):dW len z ps h k=rh (dW len z ps h) k .mk:=id rfl
@[simp ↓] theorem abx (s len:Nat) (z:List D) (ps:List (Nat × V)) (h:Hp) (k:V->Hp->Prop):En s len z ps h k=rh (En s len z ps h) k .mk:=id rfl
@[simp ↓] theorem acD (s by_:Nat) (z:List D) (h:Hp) (l c:V) (k:V->Hp->Prop):mkS s by_ z h l c k=rh (mkS s by_ z h l c) k .mk:=id rfl
@[simp ↓] theorem aca (h:Hp) (n:Nat) (p v:V) (k:V->Hp->Prop):stD h n p v k=rh (stD h n p v) k .mk:=id rfl
@[simp ↓] theorem ade (dr:Bool) (s n by_:Nat) (x y:V) (h:Hp) (k:V->Hp->Prop):apV dr s n by_ x y h k=rh (apV dr s n by_ x y h) k .mk:=id rfl
@[simp ↓] theorem adc (dr:Bool) (s n by_:Nat) (z:List D) (x y:V) (h:Hp) (k:V->Hp->Prop):apZ dr s n by_ z x y h k=rh (apZ dr s n by_ z x y h) k .mk:=id rfl
@[simp ↓] theorem adl (st:aQ) (clr:List Nat) (h0:Hp) (l:List V) (h:Hp) (k:KL):lp st clr h0 l h k=rl (lp st clr h0 l h) k .mk:=id rfl
def rk (T:(Exit->Hp->Prop)->Prop) (k:Exit->Hp->Prop) (u:PU k):Prop:=T k
@[simp ↓] theorem acz (o:Option (List (List Value))) (n:Nat) (st:Aq) (clr:List Nat) (h:Hp) (k:Exit->Hp->Prop):rgO o n st clr h k=rk (rgO o n st clr h) k .mk:=id rfl
theorem ro {o:Option (List (List Value))} {xs:List (List Value)} {n:Nat} {st:Aq} {clr:List Nat} {h:Hp} {k:Exit->Hp->Prop} {u:PU k} (hq:o=some xs) (hr:rg n st clr h k xs h):rk (rgO o n st clr h) k u:=by
 subst hq;exact hr
theorem GC {n:Nat} {st:Aq} {clr:List Nat} {h0 h:Hp} {k:Exit->Hp->Prop} {x:List Value} {xs:List (List Value)} (hl:x.length=n) (hs:st (x.map fun v=>.d (iD v)) h fun ex h'=>match ex with
  | .normal=>qG clr 0 h'=true∧rg n st clr h0 k xs (aC clr 0 h0 h')
  | ex=>k ex h'):rg n st clr h0 k (x::xs) h:=⟨hl,hs⟩
@[simp] theorem VW (v:V) (k:V->Prop) (u:PU k):rn (bnd (some v)) k u=k v:=id rfl
@[simp] theorem acr (vs:List V) (i:Nat) (k:V->Prop) (u:PU k):rn (ext (.tup vs) i) k u=rn (bnd vs[i]?) k u:=id rfl
attribute [simp] QN TK Int.natCast_inj
@[simp] theorem aac (b:Bool) (x y:V):jb (.d (.bool (!b))) x y=jb (.d (.bool b)) y x:=by cases b <;> rfl
@[simp] theorem rZ {n:Int} (h1 : -9223372036854775808<=n) (h2:n<=9223372036854775807):IntKind.wrap .i64 n=n:=wrap_i64 ⟨h1,h2⟩
@[simp] theorem KG {n:Int} (h1:0<=n) (h2:n<18446744073709551616):IntKind.wrap .u64 n=n:=wrap_u64 ⟨h1,h2⟩
@[simp] theorem VK {n:Int} (h1:0<=n) (h2:n<4294967296):IntKind.wrap .u32 n=n:=wrap_u32 ⟨h1,h2⟩
@[simp] theorem wrap_u8' {n:Int} (h1:0<=n) (h2:n<256):IntKind.wrap .u8 n=n:=KH rfl ⟨h1,h2⟩
attribute [simp] vR tR mO
@[simp] theorem UX {k:IntKind} {a b:Int} (hb:b≠0):biI .rem (.d (.int k a)) (.d (.int k b))=some (.d (.int k (a.tmod b))):=by simp [biI,gN,lI,iD,hb]
@[simp] theorem NG {k:IntKind} {a b:Int} (hb:b≠0):biI .quo (.d (.int k a)) (.d (.int k b))=some (.d (.int k (k.wrap (a.tdiv b)))):=by simp [biI,gN,lI,iD,hb]
theorem Hv {k l:IntKind} {a b:Int} (h0:0<=b) (hb:b.toNat<=k.bits):biI .shr (.d (.int k a)) (.d (.int l b))=some (.d (.int k (a / 2 ^ b.toNat))):=by
 have h1:¬ (b<0):=aa
 grind [biI,gN,lI,iD]
theorem yC {k l:IntKind} {a b:Int} (h0:0<=b) (hb:b.toNat<=k.bits):biI .shl (.d (.int k a)) (.d (.int l b))=some (.d (.int k (k.wrap (a*2 ^ b.toNat)))):=by
 have h1:¬ (b<0):=aa
 grind [biI,gN,lI,iD]
@[simp] theorem aa5:IntKind.bits .i64=64:=rfl
@[simp] theorem aa3:IntKind.bits .u64=64:=rfl
@[simp] theorem aa4:IntKind.bits .u32=32:=rfl
@[simp] theorem abM:IntKind.bits .u8=8:=rfl
@[simp] theorem Tr {l:IntKind} {a b:Int} (h0:0<=b) (hb:b<=64):biI .shr (.d (.int .i64 a)) (.d (.int l b))=some (.d (.int .i64 (a / 2 ^ b.toNat))):=Hv h0 ak
@[simp] theorem abi {l:IntKind} {a b:Int} (h0:0<=b) (hb:b<=64):biI .shl (.d (.int .i64 a)) (.d (.int l b))=some (.d (.int .i64 (IntKind.wrap .i64 (a*2 ^ b.toNat)))):=yC h0 ak
@[simp] theorem abe {l:IntKind} {a b:Int} (h0:0<=b) (hb:b<=64):biI .shr (.d (.int .u64 a)) (.d (.int l b))=some (.d (.int .u64 (a / 2 ^ b.toNat))):=Hv h0 ak
@[simp] theorem abg {l:IntKind} {a b:Int} (h0:0<=b) (hb:b<=64):biI .shl (.d (.int .u64 a)) (.d (.int l b))=some (.d (.int .u64 (IntKind.wrap .u64 (a*2 ^ b.toNat)))):=yC h0 ak
@[simp] theorem abf {l:IntKind} {a b:Int} (h0:0<=b) (hb:b<=32):biI .shr (.d (.int .u32 a)) (.d (.int l b))=some (.d (.int .u32 (a / 2 ^ b.toNat))):=Hv h0 ak
@[simp] theorem abh {l:IntKind} {a b:Int} (h0:0<=b) (hb:b<=32):biI .shl (.d (.int .u32 a)) (.d (.int l b))=some (.d (.int .u32 (IntKind.wrap .u32 (a*2 ^ b.toNat)))):=yC h0 ak
@[simp] theorem vp (k:IntKind) (n:Int):unV .neg (.d (.int k n))=some (.d (.int k (k.wrap (-n)))):=by simp [unV,gN,lI,iD]
def nth {α:Type} (d:α) (l:List α) (i:Nat):α:=l.getD i d
theorem fK {α:Type} (d:α) (l:List α) (i:Nat) (h:i<l.length):nth d l i=l[i]:=by simp [nth,h]
@[simp] theorem abr {α:Type} (d:α) (p:List α) (x:α) (q:List α):nth d (p++x::q) p.length=x:=by simp [nth]
section
variable {α:Type} (f:α->D)
@[simp] theorem ci (l:List α) (h:Hp) {k:IntKind} {i:Int} (h0:0<=i) (h1:i<l.length):ixV h 1 (lst f l) (.d (.int k i))=some (.dptr (l.map f) i.toNat):=
 G3 f l h (X7 h0).symm aa
theorem cU (d:α) (l:List α) (h:Hp) {j:Nat} (hl:j<l.length):ld1 h (.dptr (l.map f) j)=some (.d (f (nth d l j))):=by
 rw [WQ f l h hl,fK d l j hl]
@[simp] theorem acM (p:List α) (x:α) (q:List α) (h:Hp) (k:IntKind):ixV h 1 (lst f (p++x::q)) (.d (.int k p.length))=some (.dptr ((p++x::q).map f) p.length):=
 G3 f _ h rfl ag
omit f in
@[simp] theorem acH (a:List D) (x:D) (b:List D) (h:Hp) {j:Nat} (hj:j=a.length):ld1 h (.dptr (a++x::b) j)=some (.d x):=by
 subst hj;simp [ld1]
omit f in
@[simp] theorem adn (x:D) (b:List D) (h:Hp):ld1 h (.dptr (x::b) 0)=some (.d x):=by rfl
end
section
variable {α:Type} (f:α->D) (l:List α)
@[simp] theorem ZQ (h:Hp) {i:Int} (h0:0<=i) (h1:i<=l.length) (hp:0<l.length):slV h 1 (lst f l) none (some (I i))=some (lst f (l.take i.toNat)):=ZZ f l hp aa aa
@[simp] theorem adj (h:Hp) {i:Int} (h0:0<=i) (h1:i<=l.length) (hp:0<l.length):slV h 1 (lst f l) (some (I i)) none=some (lst f (l.drop i.toNat)):=ZY f l hp aa aa
end
@[simp] theorem adq (len n:Nat) (cs:List D) (off:Nat) {k:IntKind} {i:Int} (h0:0<=i) (h1:i<len):ixP len n (.dptr cs off) (.d (.int k i))=some (.dptr cs (off+i.toNat*n)):=by
 simp only [ixP];rw [if_pos ⟨h0,h1⟩]
@[simp] theorem adp (len n:Nat) (s e off tot:Nat) {k:IntKind} {i:Int} (h0:0<=i) (h1:i<len):ixP len n (.ptr s e off tot) (.d (.int k i))=some (.ptr s e (off+i.toNat*n) tot):=by
 simp only [ixP];rw [if_pos ⟨h0,h1⟩]
theorem aay (h:Hp) (cs:List D) (pos:Nat) {x:D} (hx:cs[pos]? = some x):ld1 h (.dptr cs pos)=some (.d x):=by grind [ld1]
def bU {α:Type} (f:α->List D) (l:List α):V:=.d (.sl l.length (l.flatMap f))
section
variable {α:Type} (f:α->List D) {n:Nat} (hf:∀ x,(f x).length=n)
include hf
theorem ku (l:List α):(l.flatMap f).length=l.length*n:=by
 induction l with
 | nil=>simp
 | cons x l ih=>grind
theorem Kh (d:α) (l:List α) {j:Nat} (hj:j<l.length):cut (l.flatMap f) (j*n) n=some (f (nth d l j)):=by
 have hle:j*n+n<=(l.flatMap f).length:=by
  rw [ku f hf,<- Xt];exact Z3 n hj
 simp only [cut,if_pos hle,Z9];clear hle
 induction l generalizing j with
 | nil=>cases hj
 | cons x l ih=>
  cases j with
  | zero=>grind [nth]
  | succ j=>
   grind [Xt,List.drop_drop,List.drop_left,nth]
theorem kT (l:List α) (h:Hp) {k:IntKind} {i:Int} (h0:0<=i) (h1:i<l.length):ixV h n (bU f l) (.d (.int k i))=some (.dptr (l.flatMap f) (i.toNat*n)):=by
 grind [ixV,bU,ku]
theorem kS (d:α) (l:List α) (h:Hp) {j:Nat} (hj:j<l.length):ldA h n (.dptr (l.flatMap f) (j*n))=some (.agg ((f (nth d l j)).map .d)):=by
 grind [ldA,Kh]
end
@[simp] theorem YQ {α:Type} (f:α->List D) (l:List α):bm (bU f l)=some (I l.length):=id rfl
@[simp] theorem YJ {α:Type} (h:Hp) (f:α->List D) (l:List α):aF h (bU f l)=some (bU f l,h):=by rfl
def rE (place:Nat->Option (Nat × Nat)) (cs:List V) (ps:List (Nat × V)):Option (List V):=lS place cs ps
@[simp] theorem YX (place:Nat->Option (Nat × Nat)) (cs:List V):rE place cs []=some cs:=id rfl
def JV (o:Option (Nat × Nat)) (place:Nat->Option (Nat × Nat)) (cs:List V) (v:V) (r:List (Nat × V)):Option (List V):=match o with
 | none=>none
 | some (off,sz)=>match pD v with
  | none=>none
  | some vs=>if vs.length=sz∧off+vs.length<=cs.length then rE place (cs.take off++vs++cs.drop (off+vs.length)) r else none
@[simp] theorem XE (place:Nat->Option (Nat × Nat)) (cs:List V) (i:Nat) (v:V) (r:List (Nat × V)):rE place cs ((i,v)::r)=JV (place i) place cs v r:=id rfl
@[simp] theorem abD (place:Nat->Option (Nat × Nat)) (cs:List V) (x:D) (r:List (Nat × V)) (off sz:Nat) :
  JV (some (off,sz)) place cs (.d x) r=if 1=sz∧off+1<=cs.length then rE place (cs.take off++[.d x]++cs.drop (off+1)) r else none:=id rfl
@[simp] theorem ZA (place:Nat->Option (Nat × Nat)) (cs:List V) (vs:List V) (r:List (Nat × V)) (off sz:Nat) :
  JV (some (off,sz)) place cs (.agg vs) r=if vs.length=sz∧off+vs.length<=cs.length then rE place (cs.take off++vs++cs.drop (off+vs.length)) r else none:=id rfl
@[simp] theorem YY (place:Nat->Option (Nat × Nat)) (cs:List V) (a b c d e f:Nat) (r:List (Nat × V)) (off sz:Nat) :
  JV (some (off,sz)) place cs (.ref a b c d e f) r=if 1=sz∧off+1<=cs.length then rE place (cs.take off++[.ref a b c d e f]++cs.drop (off+1)) r else none:=id rfl
def YA (fs:List (Nat × Nat)) (z:List D) (ps:List (Nat × V)):Option V:=bld fs z ps
def XZ (n:Nat) (z:List D) (ps:List (Nat × V)):Option V:=Ph n z ps
@[simp] theorem acu (fs:List (Nat × Nat)) (z:List D) (ps:List (Nat × V)) (k:V->Prop) (u:PU k):rn (bnd (bld fs z ps)) k u=rn (bnd (YA fs z ps)) k u:=id rfl
@[simp] theorem abk (n:Nat) (z:List D) (ps:List (Nat × V)) (k:V->Prop) (u:PU k):rn (bnd (Ph n z ps)) k u=rn (bnd (XZ n z ps)) k u:=id rfl
@[simp] theorem abL (fs:List (Nat × Nat)) (z:List D) (ps:List (Nat × V)):YA fs z ps=(rE (fun i=>fs[i]?) (z.map .d) ps).map .agg:=id (by unfold YA bld rE;cases lS (fun i=>fs[i]?) (z.map .d) ps <;> rfl)
@[simp] theorem abK (n:Nat) (z:List D) (ps:List (Nat × V)):XZ n z ps=(rE (fun i=>some (i*n,n)) (z.map .d) ps).map .agg:=id (by unfold XZ Ph rE;cases lS (fun i=>some (i*n,n)) (z.map .d) ps <;> rfl)
@[simp] theorem acT (off n:Nat) (vs:List V):fiV off n true (.agg vs)=vs[off]?:=id rfl
@[simp] theorem abE (cs:List D) (o off:Nat):faV off (.dptr cs o)=some (.dptr cs (o+off)):=id rfl
@[simp] theorem acU (s e o tot off:Nat):faV off (.ptr s e o tot)=some (.ptr s e (o+off) tot):=id rfl
def bnh {α:Type} (o:Option α) (k:α->Prop):Prop:=match o with
 | some x=>k x
 | none=>False
@[simp] theorem acs {α:Type} (x:α) (k:α->Prop) (u:PU k):rn (bnh (some x)) k u=k x:=id rfl
@[simp] theorem acv (h:Hp) (n:Nat) (p v:V) (k:V->Hp->Prop) (u:PU k):rh (stD h n p v) k u=rn (bnh (st h n p v)) (fun h'=>k .junk h') .mk:=by
 unfold rh rn stD bnh;cases st h n p v <;> rfl
theorem Bl (h:Hp) (s:Nat) (b:Bk) (k:Nat->Hp->Prop):new h s b k=bnh h[s]? fun x=>k (x.1+1) (h.set s (x.1+1,b)):=by
 grind [new,bnh]
@[simp] theorem acx (s:Nat) (cs:List V) (h:Hp) (k:V->Hp->Prop) (u:PU k):rh (alV s cs h) k u=rn (bnh h[s]?) (fun x=>k (.ptr s (x.1+1) 0 cs.length) (h.set s (x.1+1,.vars cs))) .mk:=by unfold rh rn alV;exact Bl ..
@[simp] theorem abn (s:Nat) (vs:List V) (h:Hp) (k:V->Hp->Prop) (u:PU k):rh (iR s (.agg vs) h) k u=rh (alV s vs h) k u:=id rfl
@[simp] theorem aab (s:Nat) (x:D) (h:Hp) (k:V->Hp->Prop) (u:PU k):rh (iR s (.d x) h) k u=rh (alV s [.d x] h) k u:=id rfl
def dF (len:Nat) (z:List D) (ps:List (Nat × V)) (h:Hp):Option (List D × Hp):=match rE (fun i=>some (i*z.length,z.length)) ((gC len z).map .d) ps with
 | some vs=>if 0<z.length∧len*z.length<=16777216 then jy h vs else none
 | none=>none
@[simp] theorem abm (len:Nat) (z:List D) (ps:List (Nat × V)) (h:Hp) (k:V->Hp->Prop) (u:PU k):rh (dW len z ps h) k u=rn (bnh (dF len z ps h)) (fun x=>k (.d (.sl len x.1)) x.2) .mk:=by
 unfold rh rn dW dF bnh rE;cases lS (fun i=>some (i*z.length,z.length)) ((gC len z).map .d) ps with
 | none=>rfl
 | some vs=>
  simp only;split
  ·cases jy h vs <;> rfl
  ·rfl
@[simp] theorem abl (s len:Nat) (z:List D) (ps:List (Nat × V)) (h:Hp) (k:V->Hp->Prop) (u:PU k):rh (En s len z ps h) k u=rn (bnh (dF len z ps h)) (fun x=>rn (bnh x.2[s]?) (fun y=>k (.ref s (y.1+1) 0 len len x.1.length) (x.2.set s (y.1+1,.data z.length x.1 true false))) .mk) .mk:=by
 unfold rh rn En dF bnh rE;cases lS (fun i=>some (i*z.length,z.length)) ((gC len z).map .d) ps with
 | none=>rfl
 | some vs=>
  simp only;split
  ·cases jy h vs with
   | none=>rfl
   | some x=>simp only [Bl];rfl
  ·rfl
def jh (h:Hp) (s e:Nat):Bk:=aP h s e
@[simp] theorem WX (e0:Nat) (b:Bk) (h:Hp) (e:Nat):jh ((e0,b)::h) 0 e=if e0=e then b else .none:=id rfl
@[simp] theorem WY (x:Nat × Bk) (h:Hp) (s e:Nat):jh (x::h) (s+1) e=jh h s e:=id rfl
@[simp] theorem YW (x:Nat × Bk) (h:Hp) (e:Nat):jh (x::h) 1 e=jh h 0 e:=id rfl
@[simp] theorem YV (x:Nat × Bk) (h:Hp) (e:Nat):jh (x::h) 2 e=jh h 1 e:=id rfl
@[simp] theorem Vw (x:Nat × Bk) (h:Hp) (e:Nat):jh (x::h) 3 e=jh h 2 e:=id rfl
@[simp] theorem WZ (x:Nat × Bk) (h:Hp) (e:Nat):jh (x::h) 4 e=jh h 3 e:=id rfl
def Ru (b:Bk) (off tot:Nat):Option V:=match b with
 | .vars cs=>if tot=cs.length then cs[off]? else none
 | .data _ cs _ _=>if tot=cs.length then cs[off]?.map .d else none
 | .none=>none
def OL (b:Bk) (n off tot:Nat):Option V:=match b with
 | .vars cs=>if tot=cs.length then (cut cs off n).map .agg else none
 | .data _ cs _ _=>if tot=cs.length then (cut cs off n).map fun l=>.agg (l.map .d) else none
 | .none=>none
theorem Vu (h:Hp) (s e off tot:Nat):ld1 h (.ptr s e off tot)=Ru (jh h s e) off tot:=by
 unfold jh;simp only [ld1];cases aP h s e with
 | none=>rfl
 | vars cs=>rfl
 | data n cs a b=>
  simp only [Ru];split
  ·cases cs[off]? <;> rfl
  ·rfl
theorem aax (h:Hp) (n s e off tot:Nat):ldA h n (.ptr s e off tot)=OL (jh h s e) n off tot:=by
 unfold jh;simp only [ldA];cases aP h s e with
 | none=>rfl
 | vars cs=>
  simp only [OL];split
  ·cases cut cs off n <;> rfl
  ·rfl
 | data m cs a b=>
  simp only [OL];split
  ·cases cut cs off n <;> rfl
  ·rfl
@[simp] theorem aco (h:Hp) (s e off tot:Nat) (k:V->Prop) (u:PU k):rn (bnd (ld1 h (.ptr s e off tot))) k u=rn (bnd (Ru (jh h s e) off tot)) k u:=by rw [Vu]
@[simp] theorem acn (h:Hp) (n s e off tot:Nat) (k:V->Prop) (u:PU k):rn (bnd (ldA h n (.ptr s e off tot))) k u=rn (bnd (OL (jh h s e) n off tot)) k u:=by rw [aax]
@[simp] theorem YT (cs:List V) (off tot:Nat):Ru (.vars cs) off tot=if tot=cs.length then cs[off]? else none:=id rfl
@[simp] theorem YU (n:Nat) (cs:List D) (a b:Bool) (off tot:Nat):Ru (.data n cs a b) off tot=if tot=cs.length then cs[off]?.map .d else none:=id rfl
@[simp] theorem YR (cs:List V) (n off tot:Nat):OL (.vars cs) n off tot=if tot=cs.length then (cut cs off n).map .agg else none:=id rfl
@[simp] theorem YS (m:Nat) (cs:List D) (a b:Bool) (n off tot:Nat):OL (.data m cs a b) n off tot=if tot=cs.length then (cut cs off n).map (fun l=>.agg (l.map .d)) else none:=id rfl
def stX (b:Bk) (h:Hp) (s e off tot:Nat) (vs:List V):Option Hp:=match b with
 | .vars cs=>if tot=cs.length∧off+vs.length<=cs.length∧vs.all okV=true then some (cw h s e (.vars (cs.take off++vs++cs.drop (off+vs.length)))) else none
 | _=>sto h s e off tot vs
theorem Vh (h:Hp) (s e off tot:Nat) (vs:List V):sto h s e off tot vs=stX (jh h s e) h s e off tot vs:=by
 unfold jh stX;cases hb:aP h s e with
 | vars cs=>simp [sto,hb]
 | none=>rfl
 | data n cs a b=>rfl
@[simp] theorem acl (h:Hp) (n s e off tot:Nat) (vs:List V) (k:Hp->Prop) (u:PU k):rn (bnh (st h n (.ptr s e off tot) (.agg vs))) k u=rn (bnh (if vs.length=n then stX (jh h s e) h s e off tot vs else none)) k u:=by
 simp only [rn,st,Vh]
def Ik (b:Bk) (h:Hp) (s e off tot:Nat) (x:D):Option Hp:=match b with
 | .vars cs=>if tot=cs.length∧off+1<=cs.length then some (cw h s e (.vars (cs.take off++[.d x]++cs.drop (off+1)))) else none
 | .data n cs ex fr=>if fr=false∧tot=cs.length∧off+1<=cs.length then some (cw h s e (.data n (cs.set off (norm x)) ex false)) else none
 | .none=>none
theorem ZU (h:Hp) (s e off tot:Nat) (x:D):st h 1 (.ptr s e off tot) (.d x)=Ik (jh h s e) h s e off tot x:=by
 unfold jh;simp only [st,if_true];cases hb:aP h s e with
 | none=>simp [sto,hb,Ik]
 | vars cs=>simp [sto,hb,Ik,okV]
 | data n cs ex fr=>
  simp only [sto,hb,jy,toD,Ik];by_cases hc:fr=false∧tot=cs.length∧off+1<=cs.length
  ·rw [if_pos hc,if_pos aa];rw [Xc,if_pos aa];simp
  ·rw [if_neg hc,if_neg aa]
@[simp] theorem acm (h:Hp) (s e off tot:Nat) (x:D) (k:Hp->Prop) (u:PU k):rn (bnh (st h 1 (.ptr s e off tot) (.d x))) k u=rn (bnh (Ik (jh h s e) h s e off tot x)) k u:=by rw [ZU]
@[simp] theorem YH (cs:List V) (h:Hp) (s e off tot:Nat) (x:D):Ik (.vars cs) h s e off tot x=if tot=cs.length∧off+1<=cs.length then some (cw h s e (.vars (cs.take off++[.d x]++cs.drop (off+1)))) else none:=id rfl
@[simp] theorem N9 (n:Nat) (cs:List D) (ex:Bool) (h:Hp) (s e off tot:Nat) (x:D) (ht:tot=cs.length) (ho:off<cs.length):Ik (.data n cs ex false) h s e off tot x=some (cw h s e (.data n (cs.set off (norm x)) ex false)):=by
 simp only [Ik];simp [ht];omega
def ixX (b:Bk) (n s e off len tot:Nat) (i:Int):Option V:=match b with
 | .data _ cs _ _=>if tot=cs.length∧0<=i∧i<len then some (.ptr s e (off+i.toNat*n) tot) else none
 | _=>none
@[simp] theorem acp (h:Hp) (n s e off len cap tot:Nat) (kd:IntKind) (i:Int) (k:V->Prop) (u:PU k):rn (bnd (ixV h n (.ref s e off len cap tot) (.d (.int kd i)))) k u=rn (bnd (ixX (jh h s e) n s e off len tot i)) k u:=by
 have:ixV h n (.ref s e off len cap tot) (.d (.int kd i))=ixX (jh h s e) n s e off len tot i:=by
  unfold jh;simp only [ixV,ixX];cases aP h s e <;> rfl
 rfl
@[simp] theorem aaz (m:Nat) (cs:List D) (a b:Bool) (n s e off len tot:Nat) (i:Int) (ht:tot=cs.length) (h0:0<=i) (h1:i<len):ixX (.data m cs a b) n s e off len tot i=some (.ptr s e (off+i.toNat*n) tot):=by
 simp only [ixX];rw [if_pos ⟨ht,h0,h1⟩]
@[simp] theorem ack (h:Hp) (n s e off tot a b c d f g:Nat) (k:Hp->Prop) (u:PU k):rn (bnh (st h n (.ptr s e off tot) (.ref a b c d f g))) k u=rn (bnh (if n=1 then stX (jh h s e) h s e off tot [.ref a b c d f g] else none)) k u:=by
 simp only [rn,st,Vh]
@[simp] theorem ZS (cs:List V) (h:Hp) (s e off tot:Nat) (vs:List V):stX (.vars cs) h s e off tot vs=if tot=cs.length∧off+vs.length<=cs.length∧vs.all okV=true then some (cw h s e (.vars (cs.take off++vs++cs.drop (off+vs.length)))) else none:=id rfl
@[simp] theorem abA (h:Hp) (s e:Nat) (b:Bk):cw h s e b=h.set s (e,b):=rfl
@[simp] theorem adk (x:D):okV (.d x)=true:=rfl
@[simp] theorem abp (a b c d e f:Nat):okV (.ref a b c d e f)=true:=rfl
@[simp] theorem acY {α:Type} (l:List α) (off n:Nat):cut l off n=if off+n<=l.length then some ((l.drop off).take n) else none:=id rfl
@[simp] theorem bO (i:Nat) (h0 h:Hp) (hl:h.length=h0.length):aC [] i h0 h=h:=E6 i h0 h hl
@[simp] theorem abG (q:List V->Hp->Prop) (r:List (Exit × (List V->Hp->Prop))) (l:List V) (h:Hp):exK ((.normal,q)::r) .normal l h=q l h:=rfl
@[simp] theorem VC (q:List V->Hp->Prop) (r:List (Exit × (List V->Hp->Prop))) (l:List V) (h:Hp):exK ((.normal,q)::r) .ret l h=exK r .ret l h:=rfl
@[simp] theorem VB (q:List V->Hp->Prop) (r:List (Exit × (List V->Hp->Prop))) (l:List V) (h:Hp):exK ((.ret,q)::r) .normal l h=exK r .normal l h:=rfl
@[congr] theorem ZV {h h':Hp} {x:V} {ys:List V} {k:Prop} (e:h=h'):sp h x ys k=sp h' x ys k:=by rw [e]
@[congr] theorem ZX {h h':Hp} {x y:V} {k:Prop} (e:h=h'):sm h x y k=sm h' x y k:=by rw [e]
theorem Im {h:Hp} {x:V} {k:Prop}:∀ {ys:List V},ys.all (apt h x)=true->k->sp h x ys k
 | [],_,hk=>hk
 | y::ys,hb,hk=>by
  simp only [List.all_cons,Z8] at hb;unfold sp;rw [hb.1];exact Im hb.2 hk
theorem PR {h:Hp} {x y:V} {k:Prop} (hb:smB h x y=true) (hk:k):sm h x y k:=by
 grind [sm]
structure Acc where
 s:Nat
 e:Nat
 n:Nat
 b0:Bk
def Acc.v (a:Acc) (L:Nat) (cells:List D):V:=match L with
 | 0=>.d (.pl (.slice none 0 0))
 | _=>.ref a.s (a.e+1) 0 L L cells.length
def Acc.b (a:Acc) (L:Nat) (cells:List D):Nat × Bk:=match L with
 | 0=>(a.e,a.b0)
 | _=>(a.e+1,.data a.n cells false false)
theorem kY (a:Acc) {L by_ k:Nat} {cells cs:List D} {h:Hp} {y:V} {q:V->Hp->Prop} {u:PU q} (hk:0<k) (hs:h[a.s]? = some (a.b L cells)) (hc:cells.length=L*a.n) (hcs:cs.length=k*a.n)
  (hy:cellsOf h y=some (k,cs)) (hyn:∀ t,y≠.d (.str t)) (hb:(L+k)*by_<=140737488355328) (hn:0<a.n) (hq:q (a.v (L+k) (cells++cs)) (h.set a.s (a.b (L+k) (cells++cs)))):rh (apV false a.s a.n by_ (a.v L cells) y h) q u:=by
 have e1:apV false a.s a.n by_ (a.v L cells) y h q=apC false a.s a.n by_ (a.v L cells) k cs h q:=by
  unfold apV;split
  ·trivial
  ·grind
 show apV false a.s a.n by_ (a.v L cells) y h q
 rw [e1];have hlt:=(List.getElem?_eq_some_iff.1 hs).1;obtain ⟨m,hm⟩:∃ m,L+k=m+1:=⟨L+k-1,aa⟩;cases L with
 | zero=>
  have:cells=[]:=Zm aa;subst this;simp only [Zg,List.nil_append] at *;simp only [Acc.v];unfold apC;rw [if_neg aa];simp only [];rw [if_pos aa]
  simp_all [new,Acc.b,Acc.v]
 | succ L=>
  simp only [Acc.v];unfold apC;rw [if_neg aa];have hg:aP h a.s (a.e+1)=.data a.n cells false false:=by simp only [aP,hs,Acc.b,if_true]
  simp only [hg,true_and,Zg];rw [if_pos ⟨Z7 _,aa,hcs⟩,if_neg aa,if_pos hb];simp only [Zk,if_false,Bool.or_self];have hpos:0<cs.length:=by rw [hcs];exact Ys hk hn
  rw [if_pos ⟨aa,aa⟩];rw [hm] at hq ⊢;simp only [Acc.v,Acc.b,Zl,cw,hc] at hq ⊢;simp only [Yl];rw [Zx aa];exact hq
theorem jP (a:Acc) {L:Nat} {cells:List D} {h:Hp} (hs:h[a.s]? = some (a.b L cells)) (hc:cells.length=L*a.n) :
  ∃ h',aF h (a.v L cells)=some (.d (.sl L cells),h')∧((L=0∧h'=h)∨(0<L∧h'=h.set a.s (a.e+1,.data a.n cells false true))):=by
 cases L with
 | zero=>
  simp_all [Acc.v]
 | succ L=>
  have hg:aP h a.s (a.e+1)=.data a.n cells false false:=by simp only [aP,hs,Acc.b,if_true]
  refine ⟨_,?_,.inr ⟨Nat.succ_pos _,rfl⟩⟩;simp only [Acc.v,aF,toD,hg,true_and,Zg];rw [if_pos ⟨Z7 _,aa⟩];simp only [Yl,cw];rw [Zx aa]
theorem ip {b b':Bool} {h:Hp} (e:b'=b):out (B b) (.d (.bool b')) h:=by simp_all
theorem bX {k:IntKind} {a b:Int} {h:Hp} (e:b=a):out (.d (.int k a)) (.d (.int k b)) h:=by simp_all
theorem cd {C:pG} {h:Hp} {f:FuncId} {args:List V} {v:V} {k:V->Hp->Prop} {u:PU k} (hc:C f args v) (hk:k v h) (hs:ai h args=some (args,h):=by simp [ai,aF]):rh (cal C h (.fn f [] []) args) k u:=aaW hc hs hk
theorem cdx {C:pG} {h:Hp} {f:FuncId} {args ds:List V} {v:V} {k:V->Hp->Prop} {u:PU k} (hs:ai h args=some (ds,h)) (hc:C f ds v) (hk:k v h):rh (cal C h (.fn f [] []) args) k u:=
 L3 hs hc (by grind)
theorem lo {st:aQ} {clr:List Nat} {h0:Hp} {l:List V} {h:Hp} {k:KL} {u:PU k} (hl:lp st clr h0 l h k):rl (lp st clr h0 l h) k u:=hl
end Go.Vm
