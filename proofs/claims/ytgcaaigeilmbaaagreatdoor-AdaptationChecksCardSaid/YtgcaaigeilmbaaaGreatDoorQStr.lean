/- Lemmas. -/
import Derived.Test.YtgcaaigeilmbaaaGreatDoorQT
import Derived.Shelf.Pu.ParseUintPublic10
import Derived.Shelf.Strconv.ParseIntPublic10
import Derived.RangeFuncBox
import Derived.Shelf.Abstract
import Derived.WalkKit
import Derived.OwnWalkIn
import Derived.TacticsInMore
import Derived.LoopIn
set_option linter.unusedVariables false
set_option linter.unusedSimpArgs false
namespace Go.Vm
open Go Go.Am Go.Big
variable{k:IntKind}{T:(LwQ->Hp->Prop)->Prop}{xs:List LvQ}{clr:LnQ}{h0 h':Hp}{a i z:Int}{j L d i1 cap w:Nat}{ys args ds:LwQ}{cells:LdQ}{C:fR}
def W:Nat:=4294967296
def u32(n:Nat):D:=.int .u32 n
def nat(n:Nat):V:=lst u32 (dig W n)
def len(n:Nat):Nat:=(dig W n).length
inductive PU{α:Type}(k:α):Type where
 |mk
def rn{α:Type}(T:(α->Prop)->Prop)(k:α->Prop)(u:PU k):Prop:=T k
def rh{α β:Type}(T:(α->β->Prop)->Prop)(k:α->β->Prop)(u:PU k):Prop:=T k
def rl(T:KL->Prop)(k:KL)(u:PU k):Prop:=T k
def br(p A B:Prop)(u:PU A)(w:PU B):Prop:=(p->A)∧(¬p->B)
def jo(k:LwQ->Hp->Prop)(T:(LwQ->Hp->Prop)->Prop)(u:PU k)(w:PU T):Prop:=T k
theorem abB{p A B:Prop}{u:PU A}{w:PU B}(h1:p->A)(h2:¬p->B):br p A B u w:=⟨h1,h2⟩
@[simp]theorem yd(A B:Prop)(u:PU A)(w:PU B):br True A B u w=A:=by simp[br]
@[simp]theorem xk(A B:Prop)(u:PU A)(w:PU B):br False A B u w=B:=by simp[br]
@[simp]theorem zS{p A B:Prop}{u:PU A}{w:PU B}(h:p):br p A B u w=A:=by simp_all
@[simp]theorem afW{p A B:Prop}{u:PU A}{w:PU B}(h:¬p):br p A B u w=B:=by simp_all
theorem D8{k:LwQ->Hp->Prop}{u:PU k}{w:PU T}{l:LwQ}{h:Hp}(hT:∀q,T q=q l h)(hk:k l h):jo k T u w:=by grind[jo]
theorem AN{k:LwQ->Hp->Prop}{u:PU k}{w:PU T}(h:T k):jo k T u w:=h
@[simp ↓] theorem zU (o:Option V)(k:V->Prop):bnd o k=rn (bnd o) k .mk:=id rfl
@[simp ↓] theorem zM (x:V)(i:Nat)(k:V->Prop):ext x i k=rn (ext x i) k .mk:=id rfl
@[simp ↓] theorem xQ (h:Hp)(op:BinOp)(x y:V)(k:V->Prop):oA h op x y k=rn (oA h op x y) k .mk:=id rfl
@[simp ↓] theorem zP (b:Bool)(A B:Prop):cnd (.d (.bool b)) A B=br (b=true) A B .mk .mk:=by cases b<;>simp[cnd,br]
@[simp ↓] theorem xZ (b:Bool)(h:Hp)(T:kkQ->Prop)(k:kkQ):gd (.d (.bool b)) true h T k=br (b=true) (T k) (k (.tup []) h) .mk .mk:=by cases b<;>simp[gd,br]
@[simp ↓] theorem w8 (b:Bool)(h:Hp)(T:kkQ->Prop)(k:kkQ):gd (.d (.bool b)) false h T k=br (b=false) (T k) (k (.tup []) h) .mk .mk:=by cases b<;>simp[gd,br]
@[simp ↓] theorem w7 (w:Bool)(h:Hp)(T:kkQ->Prop)(k:kkQ):gd (.tup []) w h T k=k (.tup []) h:=id rfl
@[simp ↓] theorem afY (k:LwQ->Hp->Prop)(T:(LwQ->Hp->Prop)->Prop):jn k T=jo k T .mk .mk:=id rfl
@[simp ↓] theorem zQ (C:fR)(h:Hp)(c:V)(args:LwQ)(k:kkQ):cal C h c args k=rh (cal C h c args) k .mk:=id rfl
@[simp ↓] theorem zR (C:ee)(h:Hp)(c:V)(args:LwQ)(s:Nat)(k:kkQ):cai C h c args s k=rh (cai C h c args s) k .mk:=id rfl
@[simp ↓] theorem yc (C:ee)(h:Hp)(c:V)(args:LwQ)(s:Nat)(k:kkQ):abz C h c args s k=rh (abz C h c args s) k .mk:=id rfl
@[simp ↓] theorem zZ (s:Nat)(cs:LwQ)(h:Hp)(k:kkQ):alV s cs h k=rh (alV s cs h) k .mk:=id rfl
@[simp ↓] theorem z8 (s n:Nat)(cs:LdQ)(h:Hp)(k:kkQ):alD s n cs h k=rh (alD s n cs h) k .mk:=id rfl
@[simp ↓] theorem ye (s:Nat)(v:V)(h:Hp)(k:kkQ):oR s v h k=rh (oR s v h) k .mk:=id rfl
@[simp ↓] theorem xT (len:Nat)(z:LdQ)(ps:List (Nat×V))(h:Hp)(k:kkQ):mB len z ps h k=rh (mB len z ps h) k .mk:=id rfl
@[simp ↓] theorem xS (s len:Nat)(z:LdQ)(ps:List (Nat×V))(h:Hp)(k:kkQ):mA s len z ps h k=rh (mA s len z ps h) k .mk:=id rfl
@[simp ↓] theorem zr (s by_:Nat)(z:LdQ)(h:Hp)(l c:V)(k:kkQ):mkS s by_ z h l c k=rh (mkS s by_ z h l c) k .mk:=id rfl
@[simp ↓] theorem yI (h:Hp)(n:Nat)(p v:V)(k:kkQ):stD h n p v k=rh (stD h n p v) k .mk:=id rfl
@[simp ↓] theorem zW (dr:Bool)(s n by_:Nat)(x y:V)(h:Hp)(k:kkQ):apV dr s n by_ x y h k=rh (apV dr s n by_ x y h) k .mk:=id rfl
@[simp ↓] theorem zV (dr:Bool)(s n by_:Nat)(z:LdQ)(x y:V)(h:Hp)(k:kkQ):apZ dr s n by_ z x y h k=rh (apZ dr s n by_ z x y h) k .mk:=id rfl
@[simp ↓] theorem Ak (st:AP)(clr:LnQ)(h0:Hp)(l:LwQ)(h:Hp)(k:KL):lp st clr h0 l h k=rl (lp st clr h0 l h) k .mk:=id rfl
@[simp ↓] theorem zJ (v:V)(h:Hp)(k:kkQ):fzD v h k=rh (fzD v h) k .mk:=id rfl
def rk(T:(Exit->Hp->Prop)->Prop)(k:Exit->Hp->Prop)(u:PU k):Prop:=T k
@[simp ↓] theorem zh (o:Option (List LvQ))(n:Nat)(st:nN)(clr:LnQ)(h:Hp)(k:Exit->Hp->Prop):rgO o n st clr h k=rk (rgO o n st clr h) k .mk:=id rfl
theorem ro{o:Option (List LvQ)}{n:Nat}{st:nN}{h:Hp}{k:Exit->Hp->Prop}{u:PU k}(hq:o=some xs)(hr:rg n st clr h k xs h):rk (rgO o n st clr h) k u:=by subst hq;exact hr
theorem Rj{n:Nat}{st:nN}{h:Hp}{k:Exit->Hp->Prop}{x:LvQ}(hl:x.length=n)(hs:st (x.map fun v=>.d (bv v)) h fun ex h'=>match ex with
  |.normal=>jF clr 0 h'=true∧rg n st clr h0 k xs (aL clr 0 h0 h')
  |ex=>k ex h'):rg n st clr h0 k (x::xs) h:=⟨hl,hs⟩
@[simp]theorem za(v:V)(k:V->Prop)(u:PU k):rn (bnd (some v)) k u=k v:=id rfl
@[simp]theorem yZ(vs:LwQ)(i:Nat)(k:V->Prop)(u:PU k):rn (ext (.tup vs) i) k u=rn (bnd vs[i]?) k u:=id rfl
attribute [simp] pW rU Int.natCast_inj
@[simp]theorem wq(b:Bool)(x y:V):Hk (.d (.bool (!b))) x y=Hk (.d (.bool b)) y x:=by cases b<;>rfl
@[simp]theorem vd{n:Int}(h1 : -9223372036854775808<=n)(h2:n<=9223372036854775807):IntKind.wrap .i64 n=n:=wrap_i64 ⟨h1,h2⟩
@[simp]theorem tO{n:Int}(h1:0<=n)(h2:n<18446744073709551616):IntKind.wrap .u64 n=n:=wrap_u64 ⟨h1,h2⟩
@[simp]theorem tP{n:Int}(h1:0<=n)(h2:n<4294967296):IntKind.wrap .u32 n=n:=wrap_u32 ⟨h1,h2⟩
@[simp]theorem wrap_u8'{n:Int}(h1:0<=n)(h2:n<256):IntKind.wrap .u8 n=n:=lV rfl ⟨h1,h2⟩
attribute [simp] K6 ta tc
@[simp]theorem yl{b:Int}(hb:b≠0):biI .rem (.d (.int k a)) (.d (.int k b))=some (.d (.int k (a.tmod b))):=by simp[biI,bf,Fi,bv,hb]
@[simp]theorem ym{b:Int}(hb:b≠0):biI .quo (.d (.int k a)) (.d (.int k b))=some (.d (.int k (k.wrap (a.tdiv b)))):=by simp[biI,bf,Fi,bv,hb]
theorem jZ{l:IntKind}{b:Int}(h0:0<=b)(hb:b.toNat<=k.bits):biI .shr (.d (.int k a)) (.d (.int l b))=some (.d (.int k (a/2^b.toNat))):=by
 have h1:¬(b<0):=aa
 grind[biI,bf,Fi,bv]
theorem MB{l:IntKind}{b:Int}(h0:0<=b)(hb:b.toNat<=k.bits):biI .shl (.d (.int k a)) (.d (.int l b))=some (.d (.int k (k.wrap (a*2^b.toNat)))):=by
 have h1:¬(b<0):=aa
 grind[biI,bf,Fi,bv]
@[simp]theorem xp:IntKind.bits .i64=64:=rfl
@[simp]theorem xn:IntKind.bits .u64=64:=rfl
@[simp]theorem xo:IntKind.bits .u32=32:=rfl
@[simp]theorem yh:IntKind.bits .u8=8:=rfl
@[simp]theorem xC{l:IntKind}{b:Int}(h0:0<=b)(hb:b<=64):biI .shr (.d (.int .i64 a)) (.d (.int l b))=some (.d (.int .i64 (a/2^b.toNat))):=jZ h0 bW
@[simp]theorem xF{l:IntKind}{b:Int}(h0:0<=b)(hb:b<=64):biI .shl (.d (.int .i64 a)) (.d (.int l b))=some (.d (.int .i64 (IntKind.wrap .i64 (a*2^b.toNat)))):=MB h0 bW
@[simp]theorem xA{l:IntKind}{b:Int}(h0:0<=b)(hb:b<=64):biI .shr (.d (.int .u64 a)) (.d (.int l b))=some (.d (.int .u64 (a/2^b.toNat))):=jZ h0 bW
@[simp]theorem xD{l:IntKind}{b:Int}(h0:0<=b)(hb:b<=64):biI .shl (.d (.int .u64 a)) (.d (.int l b))=some (.d (.int .u64 (IntKind.wrap .u64 (a*2^b.toNat)))):=MB h0 bW
@[simp]theorem xB{l:IntKind}{b:Int}(h0:0<=b)(hb:b<=32):biI .shr (.d (.int .u32 a)) (.d (.int l b))=some (.d (.int .u32 (a/2^b.toNat))):=jZ h0 bW
@[simp]theorem xE{l:IntKind}{b:Int}(h0:0<=b)(hb:b<=32):biI .shl (.d (.int .u32 a)) (.d (.int l b))=some (.d (.int .u32 (IntKind.wrap .u32 (a*2^b.toNat)))):=MB h0 bW
@[simp]theorem xx(k:IntKind)(n:Int):unV .neg (.d (.int k n))=some (.d (.int k (k.wrap (-n)))):=by simp[unV,bf,Fi,bv]
def nth{α:Type}(d:α)(l:List α)(i:Nat):α:=l.getD i d
theorem dM{α:Type}(d:α)(l:List α)(i:Nat)(h:i<l.length):nth d l i=l[i]:=by simp[nth,h]
@[simp]theorem nr{α:Type}(d:α)(p:List α)(x:α)(q:List α):nth d (p++x::q) p.length=x:=by simp[nth]
section
variable{α:Type}(f:α->D)
@[simp] theorem uA (l:List α)(h:Hp)(h0:0<=i)(h1:i<l.length):ixV h 1 (lst f l) (.d (.int k i))=some (.dptr (l.map f) i.toNat):=
 qw f l h (Int.toNat_of_nonneg h0).symm aa
theorem jO(d:α)(l:List α)(h:Hp)(hl:j<l.length):ld1 h (.dptr (l.map f) j)=some (.d (f (nth d l j))):=by rw[uv f l h hl,dM d l j hl]
@[simp] theorem zD (p:List α)(x:α)(q:List α)(h:Hp)(k:IntKind):ixV h 1 (lst f (p++x::q)) (.d (.int k p.length))=some (.dptr ((p++x::q).map f) p.length):=
 qw f _ h rfl mR
omit f in
@[simp] theorem afS (a:LdQ)(x:D)(b:LdQ)(h:Hp)(hj:j=a.length):ld1 h (.dptr (a++x::b) j)=some (.d x):=by subst hj;simp[ld1]
omit f in
@[simp]theorem An(x:D)(b:LdQ)(h:Hp):ld1 h (.dptr (x::b) 0)=some (.d x):=by rfl
end
section
variable{α:Type}(f:α->D)(l:List α)
@[simp]theorem Ai(h:Hp)(h0:0<=i)(h1:i<=l.length)(hp:0<l.length):slV h 1 (lst f l) none (some (I i))=some (lst f (l.take i.toNat)):=vZ f l hp aa aa
@[simp]theorem Ah(h:Hp)(h0:0<=i)(h1:i<=l.length)(hp:0<l.length):slV h 1 (lst f l) (some (I i)) none=some (lst f (l.drop i.toNat)):=vY f l hp aa aa
end
@[simp] theorem Aq (len n:Nat)(cs:LdQ)(off:Nat)(h0:0<=i)(h1:i<len):ixP len n (.dptr cs off) (.d (.int k i))=some (.dptr cs (off+i.toNat*n)):=by simp only[ixP];rw[if_pos ⟨h0,h1⟩]
@[simp] theorem Ap (len n:Nat)(s e off tot:Nat)(h0:0<=i)(h1:i<len):ixP len n (.ptr s e off tot) (.d (.int k i))=some (.ptr s e (off+i.toNat*n) tot):=by simp only[ixP];rw[if_pos ⟨h0,h1⟩]
theorem afm(h:Hp)(cs:LdQ)(pos:Nat){x:D}(hx:cs[pos]?=some x):ld1 h (.dptr cs pos)=some (.d x):=by grind[ld1]
def sk{α:Type}(f:α->LdQ)(l:List α):V:=.d (.sl l.length (l.flatMap f))
section
variable{α:Type}(f:α->LdQ){n:Nat}(hf:∀x,(f x).length=n)
include hf
theorem CB(l:List α):(l.flatMap f).length=l.length*n:=by
 induction l with
 |nil=>simp
 |cons x l ih=>grind
theorem TO(d:α)(l:List α)(hj:j<l.length):cut (l.flatMap f) (j*n) n=some (f (nth d l j)):=by
 have hle:j*n+n<=(l.flatMap f).length:=by
  rw[CB f hf,<-X6];exact Zw n hj
 simp only[cut,if_pos hle,Z9];clear hle
 induction l generalizing j with
 |nil=>cases hj
 | cons x l ih=>
  cases j with
  |zero=>grind[nth]
  | succ j=>
   grind[X6,List.drop_drop,List.drop_left,nth]
theorem GE(l:List α)(h:Hp)(h0:0<=i)(h1:i<l.length):ixV h n (sk f l) (.d (.int k i))=some (.dptr (l.flatMap f) (i.toNat*n)):=by grind[ixV,sk,CB]
theorem GD(d:α)(l:List α)(h:Hp)(hj:j<l.length):ldA h n (.dptr (l.flatMap f) (j*n))=some (.agg ((f (nth d l j)).map .d)):=by grind[ldA,TO]
end
@[simp]theorem vq{α:Type}(f:α->LdQ)(l:List α):fL (sk f l)=some (I l.length):=id rfl
@[simp]theorem vh{α:Type}(h:Hp)(f:α->LdQ)(l:List α):cX h (sk f l)=some (sk f l,h):=by rfl
def dt(place:Nat->Option (Nat×Nat))(cs:LwQ)(ps:List (Nat×V)):Option LwQ:=cG place cs ps
@[simp]theorem vB(place:Nat->Option (Nat×Nat))(cs:LwQ):dt place cs []=some cs:=id rfl
def lu(o:Option (Nat×Nat))(place:Nat->Option (Nat×Nat))(cs:LwQ)(v:V)(r:List (Nat×V)):Option LwQ:=match o with
 |none=>none
 | some (off,sz)=>match Lz v with
  |none=>none
  |some vs=>if vs.length=sz∧off+vs.length<=cs.length then dt place (cs.take off++vs++cs.drop (off+vs.length)) r else none
@[simp]theorem uL(place:Nat->Option (Nat×Nat))(cs:LwQ)(i:Nat)(v:V)(r:List (Nat×V)):dt place cs ((i,v)::r)=lu (place i) place cs v r:=id rfl
@[simp] theorem afI (place:Nat->Option (Nat×Nat))(cs:LwQ)(x:D)(r:List (Nat×V))(off sz:Nat):
  lu (some (off,sz)) place cs (.d x) r=if 1=sz∧off+1<=cs.length then dt place (cs.take off++[.d x]++cs.drop (off+1)) r else none:=id rfl
@[simp] theorem vE (place:Nat->Option (Nat×Nat))(cs:LwQ)(vs:LwQ)(r:List (Nat×V))(off sz:Nat):
  lu (some (off,sz)) place cs (.agg vs) r=if vs.length=sz∧off+vs.length<=cs.length then dt place (cs.take off++vs++cs.drop (off+vs.length)) r else none:=id rfl
@[simp] theorem vC (place:Nat->Option (Nat×Nat))(cs:LwQ)(a b c d e f:Nat)(r:List (Nat×V))(off sz:Nat):
  lu (some (off,sz)) place cs (.ref a b c d e f) r=if 1=sz∧off+1<=cs.length then dt place (cs.take off++[.ref a b c d e f]++cs.drop (off+1)) r else none:=id rfl
def uX(fs:List (Nat×Nat))(z:LdQ)(ps:List (Nat×V)):Option V:=bld fs z ps
def uW(n:Nat)(z:LdQ)(ps:List (Nat×V)):Option V:=oS n z ps
@[simp]theorem zb(fs:List (Nat×Nat))(z:LdQ)(ps:List (Nat×V))(k:V->Prop)(u:PU k):rn (bnd (bld fs z ps)) k u=rn (bnd (uX fs z ps)) k u:=id rfl
@[simp]theorem xH(n:Nat)(z:LdQ)(ps:List (Nat×V))(k:V->Prop)(u:PU k):rn (bnd (oS n z ps)) k u=rn (bnd (uW n z ps)) k u:=id rfl
@[simp]theorem yg(fs:List (Nat×Nat))(z:LdQ)(ps:List (Nat×V)):uX fs z ps=(dt (fun i=>fs[i]?) (z.map .d) ps).map .agg:=id (by unfold uX bld dt;cases cG (fun i=>fs[i]?) (z.map .d) ps<;>rfl)
@[simp]theorem yf(n:Nat)(z:LdQ)(ps:List (Nat×V)):uW n z ps=(dt (fun i=>some (i*n,n)) (z.map .d) ps).map .agg:=id (by unfold uW oS dt;cases cG (fun i=>some (i*n,n)) (z.map .d) ps<;>rfl)
@[simp]theorem zK(off n:Nat)(vs:LwQ):fiV off n true (.agg vs)=vs[off]?:=id rfl
@[simp]theorem afJ(cs:LdQ)(o off:Nat):faV off (.dptr cs o)=some (.dptr cs (o+off)):=id rfl
@[simp]theorem zL(s e o tot off:Nat):faV off (.ptr s e o tot)=some (.ptr s e (o+off) tot):=id rfl
def bnh{α:Type}(o:Option α)(k:α->Prop):Prop:=match o with
 |some x=>k x
 |none=>False
@[simp]theorem y9{α:Type}(x:α)(k:α->Prop)(u:PU k):rn (bnh (some x)) k u=k x:=id rfl
@[simp] theorem zc (h:Hp)(n:Nat)(p v:V)(k:kkQ)(u:PU k):rh (stD h n p v) k u=rn (bnh (st h n p v)) (fun h'=>k .junk h') .mk:=by unfold rh rn stD bnh;cases st h n p v<;>rfl
theorem gE(h:Hp)(s:Nat)(b:Bk)(k:Nat->Hp->Prop):new h s b k=bnh h[s]? fun x=>k (x.1+1) (h.set s (x.1+1,b)):=by grind[new,bnh]
@[simp]theorem ze(s:Nat)(cs:LwQ)(h:Hp)(k:kkQ)(u:PU k):rh (alV s cs h) k u=rn (bnh h[s]?) (fun x=>k (.ptr s (x.1+1) 0 cs.length) (h.set s (x.1+1,.vars cs))) .mk:=by unfold rh rn alV;exact gE ..
@[simp]theorem xK(s:Nat)(vs:LwQ)(h:Hp)(k:kkQ)(u:PU k):rh (oR s (.agg vs) h) k u=rh (alV s vs h) k u:=id rfl
@[simp]theorem wh(s:Nat)(x:D)(h:Hp)(k:kkQ)(u:PU k):rh (oR s (.d x) h) k u=rh (alV s [.d x] h) k u:=id rfl
def BS(len:Nat)(z:LdQ)(ps:List (Nat×V))(h:Hp):Option (LdQ×Hp):=match dt (fun i=>some (i*z.length,z.length)) ((cY len z).map .d) ps with
 |some vs=>if 0<z.length∧len*z.length<=16777216 then eA h vs else none
 |none=>none
@[simp] theorem xJ (len:Nat)(z:LdQ)(ps:List (Nat×V))(h:Hp)(k:kkQ)(u:PU k):rh (mB len z ps h) k u=rn (bnh (BS len z ps h)) (fun x=>k (.d (.sl len x.1)) x.2) .mk:=by
 unfold rh rn mB BS bnh dt;cases cG (fun i=>some (i*z.length,z.length)) ((cY len z).map .d) ps with
 |none=>rfl
 | some vs=>
  simp only;split
  .cases eA h vs<;>rfl
  .rfl
@[simp] theorem xI (s len:Nat)(z:LdQ)(ps:List (Nat×V))(h:Hp)(k:kkQ)(u:PU k):rh (mA s len z ps h) k u=rn (bnh (BS len z ps h)) (fun x=>rn (bnh x.2[s]?) (fun y=>k (.ref s (y.1+1) 0 len len x.1.length) (x.2.set s (y.1+1,.data z.length x.1 true false))) .mk) .mk:=by
 unfold rh rn mA BS bnh dt;cases cG (fun i=>some (i*z.length,z.length)) ((cY len z).map .d) ps with
 |none=>rfl
 | some vs=>
  simp only;split
  .cases eA h vs with
   |none=>rfl
   |some x=>simp only[gE];rfl
  .rfl
def bB(h:Hp)(s e:Nat):Bk:=aj h s e
@[simp]theorem uE(e0:Nat)(b:Bk)(h:Hp)(e:Nat):bB ((e0,b)::h) 0 e=if e0=e then b else .none:=id rfl
@[simp]theorem uF(x:Nat×Bk)(h:Hp)(s e:Nat):bB (x::h) (s+1) e=bB h s e:=id rfl
@[simp]theorem vz(x:Nat×Bk)(h:Hp)(e:Nat):bB (x::h) 1 e=bB h 0 e:=id rfl
@[simp]theorem vy(x:Nat×Bk)(h:Hp)(e:Nat):bB (x::h) 2 e=bB h 1 e:=id rfl
@[simp]theorem tE(x:Nat×Bk)(h:Hp)(e:Nat):bB (x::h) 3 e=bB h 2 e:=id rfl
@[simp]theorem uG(x:Nat×Bk)(h:Hp)(e:Nat):bB (x::h) 4 e=bB h 3 e:=id rfl
def qp(b:Bk)(off tot:Nat):Option V:=match b with
 |.vars cs=>if tot=cs.length then cs[off]? else none
 |.data _ cs _ _=>if tot=cs.length then cs[off]?.map .d else none
 |.none=>none
def oD(b:Bk)(n off tot:Nat):Option V:=match b with
 |.vars cs=>if tot=cs.length then(cut cs off n).map .agg else none
 |.data _ cs _ _=>if tot=cs.length then(cut cs off n).map fun l=>.agg (l.map .d)else none
 |.none=>none
theorem wW(h:Hp)(s e off tot:Nat):ld1 h (.ptr s e off tot)=qp (bB h s e) off tot:=by
 unfold bB;simp only[ld1];cases aj h s e with
 |none=>rfl
 |vars cs=>rfl
 | data n cs a b=>
  simp only[qp];split
  .cases cs[off]?<;>rfl
  .rfl
theorem wV(h:Hp)(n s e off tot:Nat):ldA h n (.ptr s e off tot)=oD (bB h s e) n off tot:=by
 unfold bB;simp only[ldA];cases aj h s e with
 |none=>rfl
 | vars cs=>
  simp only[oD];split
  .cases cut cs off n<;>rfl
  .rfl
 | data m cs a b=>
  simp only[oD];split
  .cases cut cs off n<;>rfl
  .rfl
@[simp]theorem yX(h:Hp)(s e off tot:Nat)(k:V->Prop)(u:PU k):rn (bnd (ld1 h (.ptr s e off tot))) k u=rn (bnd (qp (bB h s e) off tot)) k u:=by rw[wW]
@[simp]theorem yW(h:Hp)(n s e off tot:Nat)(k:V->Prop)(u:PU k):rn (bnd (ldA h n (.ptr s e off tot))) k u=rn (bnd (oD (bB h s e) n off tot)) k u:=by rw[wV]
@[simp]theorem vu(cs:LwQ)(off tot:Nat):qp (.vars cs) off tot=if tot=cs.length then cs[off]? else none:=id rfl
@[simp]theorem vv(n:Nat)(cs:LdQ)(a b:Bool)(off tot:Nat):qp (.data n cs a b) off tot=if tot=cs.length then cs[off]?.map .d else none:=id rfl
@[simp]theorem vr(cs:LwQ)(n off tot:Nat):oD (.vars cs) n off tot=if tot=cs.length then(cut cs off n).map .agg else none:=id rfl
@[simp]theorem vt(m:Nat)(cs:LdQ)(a b:Bool)(n off tot:Nat):oD (.data m cs a b) n off tot=if tot=cs.length then(cut cs off n).map (fun l=>.agg (l.map .d))else none:=id rfl
def stX(b:Bk)(h:Hp)(s e off tot:Nat)(vs:LwQ):Option Hp:=match b with
 |.vars cs=>if tot=cs.length∧off+vs.length<=cs.length∧vs.all okV=true then some (aM h s e (.vars (cs.take off++vs++cs.drop (off+vs.length))))else none
 |_=>sto h s e off tot vs
theorem tv(h:Hp)(s e off tot:Nat)(vs:LwQ):sto h s e off tot vs=stX (bB h s e) h s e off tot vs:=by
 unfold bB stX;cases hb:aj h s e with
 |vars cs=>simp[sto,hb]
 |none=>rfl
 |data n cs a b=>rfl
@[simp] theorem yU (h:Hp)(n s e off tot:Nat)(vs:LwQ)(k:Hp->Prop)(u:PU k):rn (bnh (st h n (.ptr s e off tot) (.agg vs))) k u=rn (bnh (if vs.length=n then stX (bB h s e) h s e off tot vs else none)) k u:=by simp only[rn,st,tv]
def ku(b:Bk)(h:Hp)(s e off tot:Nat)(x:D):Option Hp:=match b with
 |.vars cs=>if tot=cs.length∧off+1<=cs.length then some (aM h s e (.vars (cs.take off++[.d x]++cs.drop (off+1))))else none
 |.data n cs ex fr=>if fr=false∧tot=cs.length∧off+1<=cs.length then some (aM h s e (.data n (cs.set off (norm x)) ex false))else none
 |.none=>none
theorem vU(h:Hp)(s e off tot:Nat)(x:D):st h 1 (.ptr s e off tot) (.d x)=ku (bB h s e) h s e off tot x:=by
 unfold bB;simp only[st,if_true];cases hb:aj h s e with
 |none=>simp[sto,hb,ku]
 |vars cs=>simp[sto,hb,ku,okV]
 | data n cs ex fr=>
  simp only[sto,hb,eA,toD,ku];by_cases hc:fr=false∧tot=cs.length∧off+1<=cs.length
  .rw[if_pos hc,if_pos aa];rw[X7,if_pos aa];simp
  .rw[if_neg hc,if_neg aa]
@[simp]theorem yV(h:Hp)(s e off tot:Nat)(x:D)(k:Hp->Prop)(u:PU k):rn (bnh (st h 1 (.ptr s e off tot) (.d x))) k u=rn (bnh (ku (bB h s e) h s e off tot x)) k u:=by rw[vU]
@[simp]theorem ve(cs:LwQ)(h:Hp)(s e off tot:Nat)(x:D):ku (.vars cs) h s e off tot x=if tot=cs.length∧off+1<=cs.length then some (aM h s e (.vars (cs.take off++[.d x]++cs.drop (off+1))))else none:=id rfl
@[simp] theorem vf (n:Nat)(cs:LdQ)(ex:Bool)(h:Hp)(s e off tot:Nat)(x:D)(ht:tot=cs.length)(ho:off<cs.length):ku (.data n cs ex false) h s e off tot x=some (aM h s e (.data n (cs.set off (norm x)) ex false)):=by simp only[ku];simp[ht];omega
def ixX(b:Bk)(n s e off len tot:Nat)(i:Int):Option V:=match b with
 |.data _ cs _ _=>if tot=cs.length∧0<=i∧i<len then some (.ptr s e (off+i.toNat*n) tot)else none
 |.vars cs=>if tot=cs.length∧0<=i∧i<len then some (.ptr s e (off+i.toNat*n) tot)else none
 |_=>none
@[simp] theorem yY (h:Hp)(n s e off len cap tot:Nat)(kd:IntKind)(i:Int)(k:V->Prop)(u:PU k):rn (bnd (ixV h n (.ref s e off len cap tot) (.d (.int kd i)))) k u=rn (bnd (ixX (bB h s e) n s e off len tot i)) k u:=by
 have:ixV h n (.ref s e off len cap tot) (.d (.int kd i))=ixX (bB h s e) n s e off len tot i:=by
  unfold bB;simp only[ixV,ixX];cases aj h s e<;>rfl
 rfl
@[simp] theorem wY (m:Nat)(cs:LdQ)(a b:Bool)(n s e off len tot:Nat)(i:Int)(ht:tot=cs.length)(h0:0<=i)(h1:i<len):ixX (.data m cs a b) n s e off len tot i=some (.ptr s e (off+i.toNat*n) tot):=by simp only[ixX];rw[if_pos ⟨ht,h0,h1⟩]
@[simp] theorem wX (cs:LwQ)(n s e off len tot:Nat)(i:Int)(ht:tot=cs.length)(h0:0<=i)(h1:i<len):ixX (.vars cs) n s e off len tot i=some (.ptr s e (off+i.toNat*n) tot):=by simp only[ixX];rw[if_pos ⟨ht,h0,h1⟩]
@[simp] theorem yT (h:Hp)(n s e off tot a b c d f g:Nat)(k:Hp->Prop)(u:PU k):rn (bnh (st h n (.ptr s e off tot) (.ref a b c d f g))) k u=rn (bnh (if n=1 then stX (bB h s e) h s e off tot [.ref a b c d f g]else none)) k u:=by simp only[rn,st,tv]
@[simp]theorem vT(cs:LwQ)(h:Hp)(s e off tot:Nat)(vs:LwQ):stX (.vars cs) h s e off tot vs=if tot=cs.length∧off+vs.length<=cs.length∧vs.all okV=true then some (aM h s e (.vars (cs.take off++vs++cs.drop (off+vs.length))))else none:=id rfl
@[simp]theorem xW(h:Hp)(s e:Nat)(b:Bk):aM h s e b=h.set s (e,b):=rfl
@[simp]theorem Aj(x:D):okV (.d x)=true:=rfl
@[simp]theorem xM(a b c d e f:Nat):okV (.ref a b c d e f)=true:=rfl
@[simp]theorem zO{α:Type}(l:List α)(off n:Nat):cut l off n=if off+n<=l.length then some ((l.drop off).take n)else none:=id rfl
@[simp]theorem ua(i:Nat)(h0 h:Hp)(hl:h.length=h0.length):aL [] i h0 h=h:=ja i h0 h hl
@[simp]theorem x9(q:LwQ->Hp->Prop)(r:List (Exit×(LwQ->Hp->Prop)))(l:LwQ)(h:Hp):exK ((.normal,q)::r) .normal l h=q l h:=rfl
@[simp]theorem tI(q:LwQ->Hp->Prop)(r:List (Exit×(LwQ->Hp->Prop)))(l:LwQ)(h:Hp):exK ((.normal,q)::r) .ret l h=exK r .ret l h:=rfl
@[simp]theorem tG(q:LwQ->Hp->Prop)(r:List (Exit×(LwQ->Hp->Prop)))(l:LwQ)(h:Hp):exK ((.ret,q)::r) .normal l h=exK r .normal l h:=rfl
@[congr]theorem vA{l:List Gh}{h:Hp}{k:Hp->Prop}(e:h=h'):ghG l h k=ghG l h' k:=by rw[e]
theorem adS{g:Gh}{l:List Gh}{h:Hp}{k:Hp->Prop}(hg:ghS g h=some h')(hk:ghG l h' k):ghG (g::l) h k:=by unfold ghG;rw[hg];exact hk
@[congr]theorem vV{h:Hp}{x:V}{k:Prop}(e:h=h'):sp h x ys k=sp h' x ys k:=by rw[e]
@[congr]theorem vX{h:Hp}{x y:V}{k:Prop}(e:h=h'):sm h x y k=sm h' x y k:=by rw[e]
theorem Qq{h:Hp}{x:V}{k:Prop}:∀{ys:LwQ},ys.all (apt h x)=true->k->sp h x ys k
 |[],_,hk=>hk
 | y::ys,hb,hk=>by
  simp only[List.all_cons,Z7]at hb;unfold sp;rw[hb.1];exact Qq hb.2 hk
theorem SF{h:Hp}{x y:V}{k:Prop}(hb:smB h x y=true)(hk:k):sm h x y k:=by grind[sm]
structure Acc where
 s:Nat
 e:Nat
 n:Nat
 b0:Bk
def Acc.v(a:Acc)(L:Nat)(cells:LdQ):V:=match L with
 |0=>.d nPQ
 |_=>.ref a.s (a.e+1) 0 L L cells.length
def Acc.b(a:Acc)(L:Nat)(cells:LdQ):Nat×Bk:=match L with
 |0=>(a.e,a.b0)
 |_=>(a.e+1,.data a.n cells false false)
theorem D7(a:Acc){L by_ k:Nat}{cells cs:LdQ}{h:Hp}{y:V}{q:kkQ}{u:PU q}(hk:0<k)(hs:h[a.s]?=some (a.b L cells))(hc:cells.length=L*a.n)(hcs:cs.length=k*a.n)
  (hy:cellsOf h y=some (k,cs)) (hyn:∀t,y≠.d (.str t)) (hb:(L+k)*by_<=140737488355328) (hn:0<a.n) (hq:q (a.v (L+k) (cells++cs)) (h.set a.s (a.b (L+k) (cells++cs)))):rh (apV false a.s a.n by_ (a.v L cells) y h) q u:=by
 have e1:apV false a.s a.n by_ (a.v L cells) y h q=apC false a.s a.n by_ (a.v L cells) k cs h q:=by
  unfold apV;split
  .trivial
  .grind
 show apV false a.s a.n by_ (a.v L cells) y h q
 rw[e1];have hlt:=(List.getElem?_eq_some_iff.1 hs).1;obtain⟨m,hm⟩:∃m,L+k=m+1:=⟨L+k-1,aa⟩;cases L with
 | zero=>
  have:cells=[]:=Zo aa;subst this;simp only[Y9,List.nil_append]at *;simp only[Acc.v];unfold apC;rw[if_neg aa];simp only[];rw[if_pos aa]
  simp_all[new,Acc.b,Acc.v]
 | succ L=>
  simp only[Acc.v];unfold apC;rw[if_neg aa];have hg:aj h a.s (a.e+1)=.data a.n cells false false:=by simp only[aj,hs,Acc.b,if_true]
  simp only[hg,true_and,Y9];rw[if_pos ⟨Z5 _,aa,hcs⟩,if_neg aa,if_pos hb];simp only[Zt,if_false,Bool.or_self];have hpos:0<cs.length:=by rw[hcs];exact Yi hk hn
  rw[if_pos ⟨aa,aa⟩];rw[hm]at hq ⊢;simp only[Acc.v,Acc.b,Zy,aM,hc]at hq ⊢;simp only[Y0];rw[Zd aa];exact hq
theorem KE(a:Acc){h:Hp}(hs:h[a.s]?=some (a.b L cells))(hc:cells.length=L*a.n):
  ∃h',cX h (a.v L cells)=some (.d (.sl L cells),h')∧((L=0∧h'=h)∨(0<L∧h'=h.set a.s (a.e+1,.data a.n cells false true))):=by
 cases L with
 | zero=>
  simp_all[Acc.v]
 | succ L=>
  have hg:aj h a.s (a.e+1)=.data a.n cells false false:=by simp only[aj,hs,Acc.b,if_true]
  refine⟨_,?_,.inr ⟨Nat.succ_pos _,rfl⟩⟩;simp only[Acc.v,cX,toD,hg,true_and,Y9];rw[if_pos ⟨Z5 _,aa⟩];simp only[Y0,aM];rw[Zd aa]
theorem F5{b b':Bool}{h:Hp}(e:b'=b):out (B b) (.d (.bool b')) h:=by simp_all
theorem A3{b:Int}{h:Hp}(e:b=a):out (.d (.int k a)) (.d (.int k b)) h:=by simp_all
theorem cd{h:Hp}{f:FuncId}{v:V}{k:kkQ}{u:PU k}(hc:C f args v)(hk:k v h)(hs:AT h args=some (args,h):=by simp[AT,cX]):rh (cal C h (.fn f [] []) args) k u:=xj hc hs hk
theorem cdx{h:Hp}{f:FuncId}{v:V}{k:kkQ}{u:PU k}(hs:AT h args=some (ds,h))(hc:C f ds v)(hk:k v h):rh (cal C h (.fn f [] []) args) k u:=
 uV hs hc (by grind)
theorem lo{st:AP}{l:LwQ}{h:Hp}{k:KL}{u:PU k}(hl:lp st clr h0 l h k):rl (lp st clr h0 l h) k u:=hl
def sf(n:Nat):D:=.sl (len n) ((dig W n).map u32)
@[simp]theorem ae6(n:Nat):norm (sf n)=sf n:=rfl
@[simp]theorem vW(h:Hp)(n:Nat):cX h (nat n)=some (nat n,h):=pf ..
@[simp]theorem vn(n:Nat):fL (.d (sf n))=some (I (len n)):=rfl
def wZ(z:Int):LwQ:=[.d (.bool (decide (z<0))),.d (sf z.natAbs)]
def uC(z:Int):V:=.agg (wZ z)
@[simp]theorem vi(h:Hp)(z:Int):cX h (uC z)=some (uC z,h):=by simp[uC,wZ,cX,AT]
def fits(z:Int):Prop:=len z.natAbs<2^40
def di(n:Int):D:=.int .i64 n
def row(l:LiQ):D:=.sl l.length (l.map di)
abbrev mat(m:LLQ):V:=lst row m
@[simp]theorem Ay(n:Int):V.d (di n)=I n:=id rfl
@[simp]theorem xP(n:Int):norm (di n)=di n:=rfl
@[simp]theorem wG(l:LiQ):norm (row l)=row l:=rfl
@[simp]theorem zC(l:LiQ)(h:Hp)(h0:0<=i)(h1:i<l.length):ixV h 1 (.d (row l)) (.d (.int k i))=some (.dptr (l.map di) i.toNat):=uA di l h h0 h1
@[simp]theorem zz(l:LiQ)(h:Hp)(hl:j<l.length):ld1 h (.dptr (l.map di) j)=some (.d (di (nth 0 l j))):=jO di 0 l h hl
@[simp]theorem xV(m:LLQ)(h:Hp)(hl:j<m.length):ld1 h (.dptr (m.map row) j)=some (.d (row (nth [] m j))):=jO row [] m h hl
@[simp]theorem wQ(l:LiQ):fL (.d (row l))=some (I l.length):=rfl
def idx{α:Type}(p:α->Bool)(l:List α):Int:=match l.findIdx? p with
 |some i=>i
 |none=>-1
theorem cdf{h:Hp}{f:FuncId}{fs cs:LwQ}{v:V}{k:kkQ}{u:PU k}(hc:C f (fs++args++cs) v)(hs:AT h (fs++args++cs)=some (fs++args++cs,h))(hk:k v h):rh (cal C h (.fn f fs cs) args) k u:=by simp only[rh,cal,hs];exact⟨v,hc,by simpa using hk⟩
section
variable{α:Type}{f:α->D}{g:FuncId}{fs cs:LwQ}{p:α->Bool}
theorem Tr(hs:∀x,AT [] (fs++[.d (f x)]++cs)=some (fs++[.d (f x)]++cs,[]))(k:KL):∀(q a:List α),(a++q).length<4611686018427387904->(∀x∈q,CP Y g (fs++[.d (f x)]++cs) (B (p x))) ->
  (idx p q = -1->k (.exit 0) [] [])->(∀i:Nat,idx p q=i->k .ret [I (a.length+i:Nat)] []) ->
  lp (BX (CX Y) (lst f (a++q)) (.fn g fs cs) (I (a++q).length)) [] [] [I a.length] [] k
 | [],a,hN,_,h0,_=>by
  refine AJ ?_;simp[BX];exact h0 rfl
 | x::q,a,hN,hp,h0,h1=>by
  simp at hN;refine AJ ?_;simp(disch:=try exact zN)[BX];refine cdf (hp x mR) (hs x) ?_;simp;refine abB (fun h=>?_) (fun h=>?_)<;>try simp(disch:=try exact zN)[h]
  .have e:idx p (x::q)=(0:Nat):=by simp[idx,List.findIdx?_cons,h]
   simpa using h1 0 e
  .have hl:=hs;have:=Tr hs k q (a++[x]) bW (fun y hy=>hp y (by simp[hy])) (fun e=>h0 ?_) (fun i e=>?_)
   .simpa[Wp]using this
   .simp only[idx,List.findIdx?_cons,h,Zt,if_false]at e ⊢;cases hq:List.findIdx? p q<;>simp[hq]at e ⊢
   .have:=h1 (i+1) ?_
    .simpa[Xr,Nat.add_comm 1 i]using this
    .simp only[idx,List.findIdx?_cons,h,Zt,if_false]at e ⊢;cases hq:List.findIdx? p q<;>simp[hq]at e ⊢
     exact e
theorem acQ(l:List α)(hN:l.length<4611686018427387904)(hs:∀x,AT [] (fs++[.d (f x)]++cs)=some (fs++[.d (f x)]++cs,[]))(hp:∀x∈l,CP Y g (fs++[.d (f x)]++cs) (B (p x))):
  Bh (CX Y) (lst f l) (.fn g fs cs) (out (I (idx p l))):=by
 simp[Bh];refine lo (Tr hs _ l [] (by simpa using hN) hp (fun e=>?_) (fun i e=>?_))
 .simp[e]
 .simp[e]
end
theorem RG{α:Type}(p:α->Bool)(l:List α):0<=idx p l↔l.any p=true:=by
 unfold idx;cases h:l.findIdx? p with
 |none=>simp[List.findIdx?_eq_none_iff]at h ⊢;exact h
 | some i=>
  simp[List.findIdx?_eq_some_iff_getElem]at h ⊢;obtain⟨hi,h1,_⟩:=h;exact⟨l[i],Xq hi,h1⟩
@[simp]theorem xy(h:Hp)(g:FuncId):cX h (.fn g [] [])=some (.fn g [] [],h):=by simp[cX,AT]
theorem Tp{g:FuncId}{p:Int->Bool}(l:LiQ)(hN:l.length<4611686018427387904)(hp:∀x∈l,CP Y g [I x] (B (p x))):CP Y F.Bh [lst di l,.fn g [] []] (I (idx p l)):=
 G0 (acQ l hN (fun x=>by simp[AT]) hp)
theorem Kx{g:FuncId}{p:Int->Bool}(l:LiQ)(hN:l.length<4611686018427387904)(hp:∀x∈l,CP Y g [I x] (B (p x))):CP Y F.AY [lst di l,.fn g [] []] (B (l.any p)):=by
 refine Gv ?_;simp[AY];refine cd (Tp l hN hp) ?_;simp;have:=RG p l;have e:decide (0<=idx p l)=l.any p:=by rw[X5];simpa using this
 rw[e];exact ww ..
def II(n:Int):Bool:=decide (-1000000000<=n∧n<=1000000000)
theorem MX{n:Int}:II n=true↔-1000000000<=n∧n<=1000000000:=by simp[II]
theorem BD{α:Type}{d:α}{l:List α}{i:Nat}(h:i<l.length):nth d l i∈l:=by grind[dM]
def Z:Nat:=1000000000
theorem ko:2<=Z:=AF
theorem xr:0<Z:=AF
def i9(n:Nat):D:=.int .i64 n
def aeJ(n:Nat):Nat:=(dig Z n).length
def iq:Nat->Nat->LnQ
 |0,_=>[]
 |w+1,n=>n%Z::iq w (n/Z)
theorem ip:∀w n,(iq w n).length=w
 |0,_=>rfl
 |w+1,n=>by simp[iq,ip w]
theorem io:∀w n,bH Z (iq w n)
 |0,_=>fun x hx=>by simp[iq]at hx
 | w+1,n=>fun x hx=>by
  simp only[iq,Zs]at hx;rcases hx with rfl|hx
  .exact Yt _ xr
  .exact io w _ x hx
theorem Kv:∀w n,n<Z^w->val Z (iq w n)=n
 |0,n,h=>by simp at h;subst h;rfl
 | w+1,n,h=>by
  have hZ:Z=1000000000:=rfl;simp only[iq,val];rw[Kv w (n/Z) (W0 (by rw[Nat.pow_succ,Y5]at h;exact h))];have:=Xw n Z;omega
theorem On:∀l:LnQ,bH Z l->l=iq l.length (val Z l)
 |[],_=>rfl
 | x::l,h=>by
  have hx:x<Z:=h x mR;have hl:=On l (fun y hy=>h y (by simp[hy]));have hZ:Z=1000000000:=rfl;simp only[List.length_cons,iq,val];have e1:(x+Z*val Z l)%Z=x:=by rw[Xm];exact Ya hx
  have e2:(x+Z*val Z l)/Z=val Z l:=by rw[Yc _ _ xr,Xd hx,Y9]
  rw[e1,e2,<-hl]
abbrev S(s:LuQ):V:=.d (.str s)
@[simp]theorem zx(s:LuQ):sy (S s)=some (I s.length):=id rfl
@[simp] theorem yO (s:LuQ){j:Int}(h0:0<=j)(h1:j<=s.length):slS (S s) none (some (I j))=some (S (s.take j.toNat)):=by simp only[slS,boV];rw[if_pos ⟨h0,aa⟩];simp
@[simp] theorem yN (s:LuQ)(h0:0<=i)(h1:i<=s.length):slS (S s) (some (I i)) none=some (S (s.drop i.toNat)):=by simp only[slS,boV];rw[if_pos ⟨h0,aa⟩];simp only;rw[Zd mR]
@[simp]theorem yj(a b:LuQ):biS .eql (S a) (S b)=some (.d (.bool (a == b))):=id rfl
@[simp]theorem yi(a b:LuQ):biS .neq (S a) (S b)=some (.d (.bool (!(a == b)))):=id rfl
@[simp]theorem yk(a b:LuQ)(h:a.length+b.length<=9223372036854775807):biS .add (S a) (S b)=some (S (a++b)):=by simp[biS,Uk,h]
theorem uB(s:LuQ){x:UInt8}(h0:0<=i)(h:s[i.toNat]?=some x):ixS (S s) (.d (.int k i))=some (.d (.int .u8 x.toNat)):=by simp only[ixS];rw[if_pos h0,h]
theorem Cu{a b:LuQ}{h:Hp}(e:b=a):out (S a) (S b) h:=by subst e;exact tB rfl
theorem abD(b:Bool):CP Y F.CJ [B b] (I (if b=true then 1 else 0)):=by refine JP ?_;cases b<;>simp[CJ]
theorem aaQ{x:Nat}(h:x<=64):CP Y F.CH [I x] (I ((x*78913/262144:Nat):Int)):=by refine JO ?_;simp(disch:=try exact zN)[CH]
def ia(n:Nat):Nat:=if n=0 then 0 else n.log2+1
theorem Lv{n k:Nat}(h:2^k<=n):ia n=ia (n/2^k)+k:=by
 have hp:0<2^k:=Xy AF;have h0:n≠0:=aa;have h1:n/2^k≠0:=by have:=Wo h hp;omega
 simp only[ia,h0,h1,if_false]
 have e:n.log2=(n/2^k).log2+k:=by
  rw[Nat.log2_eq_iff h0];have h2:=(Nat.log2_eq_iff h1).1 rfl;constructor
  .rw[Yh];exact Zq (Zw _ h2.1) (Nat.div_mul_le_self n _)
  .have:n/2^k+1<=2^((n/2^k).log2+1):=h2.2
   have h3:n<(n/2^k+1)*2^k:=by
    have:=Nat.lt_mul_div_succ n hp;rw[Y5];exact this
   have h4:=Zw (2^k) this;rw[<-Yh]at h4;rw[show(n/2^k).log2+k+1=(n/2^k).log2+1+k by omega];omega
 omega
def adQ:LuQ:=[0,1,2,2,3,3,3,3,4,4,4,4,4,4,4,4,5,5,5,5,5,5,5,5,5,5,5,5,5,5,5,5,6,6,6,6,6,6,6,6,6,6,6,6,6,6,6,6,6,6,6,6,6,6,6,6,6,6,6,6,6,6,6,6]++(List.replicate 64 7++List.replicate 128 8)
theorem len8:∀x:Fin 256,adQ[x.val]?=some (UInt8.ofNat (ia x.val)):=dQ
theorem XH{x:Nat}{a:Nat}{n:Nat}(hx:x<256)(hn:ia n=ia x+a)(ha:a<=56){h:Hp}:
  (bnd (cvI .u8 (.d (.int .u64 x))) fun v10=>bnd (ixS (S adQ) v10) fun v11=>
   bnd (cvI .i64 v11) fun v12=>bnd (biI .add (I a) v12) fun v13=>out (I (ia n)) v13 h):=by
 have hb:ia x<=8:=by
  unfold ia;split
  .omega
  .rename_i h0;have:=(Nat.log2_lt h0 (k:=8)).2 aa;omega
 have h8:=len8 ⟨x,hx⟩;simp(disch:=try exact zN);rw[uB _ aa (x:=UInt8.ofNat (ia x)) (by simpa using h8)];have e:(UInt8.ofNat (ia x)).toNat=ia x:=by simp;omega
 simp(disch:=try exact zN)[e];exact A3 aa
set_option maxRecDepth 20000 in
theorem O3{n:Nat}(h:n<18446744073709551616):CP Y F.Cp [.d (.int .u64 n)] (I (ia n)):=by
 refine Mh ?_
 obtain ⟨x1,a1,hx1,he1,ha1,h1⟩:∃x1 a1:Nat,x1<4294967296∧ia n=ia x1+a1∧a1<=32∧((4294967296<=n∧x1=n/4294967296∧a1=32)∨(n<4294967296∧x1=n∧a1=0)):=by
  by_cases hh:4294967296<=n
  .exact⟨n/4294967296,32,aa,Lv (k:=32) hh,aa,.inl ⟨hh,rfl,rfl⟩⟩
  .exact⟨n,0,aa,rfl,aa,.inr ⟨aa,rfl,rfl⟩⟩
 obtain ⟨x2,a2,hx2,he2,ha2,h2⟩:∃x2 a2:Nat,x2<65536∧ia n=ia x2+a2∧a2<=48∧((65536<=x1∧x2=x1/65536∧a2=a1+16)∨(x1<65536∧x2=x1∧a2=a1)):=by
  by_cases hh:65536<=x1
  .exact⟨x1/65536,a1+16,aa,by(have:=Lv (n:=x1) (k:=16) hh;simp only[Nat.reducePow]at this;omega),aa,.inl ⟨hh,rfl,rfl⟩⟩
  .exact⟨x1,a1,aa,he1,aa,.inr ⟨aa,rfl,rfl⟩⟩
 obtain ⟨x3,a3,hx3,he3,ha3,h3⟩:∃x3 a3:Nat,x3<256∧ia n=ia x3+a3∧a3<=56∧((256<=x2∧x3=x2/256∧a3=a2+8)∨(x2<256∧x3=x2∧a3=a2)):=by
  by_cases hh:256<=x2
  .exact⟨x2/256,a2+8,aa,by(have:=Lv (n:=x2) (k:=8) hh;simp only[Nat.reducePow]at this;omega),aa,.inl ⟨hh,rfl,rfl⟩⟩
  .exact⟨x2,a2,aa,he2,aa,.inr ⟨aa,rfl,rfl⟩⟩
 simp[Cp];have key:=XH (h:=[]) hx3 he3 ha3;refine D8 (l:=[.d (.int .u64 x1),I a1]) (h:=[]) (fun q=>?_) ?_
 .rcases h1 with⟨g,rfl,rfl⟩|⟨g,rfl,rfl⟩<;>simp(disch:=try exact zN)[g]
 simp;refine D8 (l:=[.d (.int .u64 x2),I a2]) (h:=[]) (fun q=>?_) ?_
 .rcases h2 with⟨g,rfl,rfl⟩|⟨g,rfl,rfl⟩<;>simp(disch:=try exact zN)[g]
 simp;refine D8 (l:=[.d (.int .u64 x3),I a3]) (h:=[]) (fun q=>?_) ?_
 .rcases h3 with⟨g,rfl,rfl⟩|⟨g,rfl,rfl⟩<;>simp(disch:=try exact zN)[g]
 exact key
theorem acn:uj=(List.range 20).map fun i=>D.int .u64 ((10^i:Nat):Int):=by simp only[uj,List.range,List.range.loop,List.map];rfl
theorem aex{i:Nat}(h:i<20):uj[i]?=some (.int .u64 ((10^i:Nat):Int)):=by rw[acn,List.getElem?_map,List.getElem?_range h];rfl
theorem aeM:gl FZ=.dptr uj 0:=by unfold gl;rfl
theorem aeD:∀b:Fin 65,1<=b.val->(10^(b.val*78913/262144)<=2^b.val∧2^b.val<=10^(b.val*78913/262144+1)∧(b.val*78913/262144=0∨10^(b.val*78913/262144-1)<2^(b.val-1))∧b.val*78913/262144<20):=dQ
theorem HK{n:Nat}(h:0<n):2^(ia n-1)<=n∧n<2^ia n∧1<=ia n:=by have h0:n≠0:=aa;have:=(Nat.log2_eq_iff h0).1 rfl;simp only[ia,h0,if_false];exact⟨this.1,this.2,aa⟩
theorem Mc{n:Nat}(h1:10^(d-1)<=n)(h2:n<10^d)(hd:1<=d)(h:n<18446744073709551616):CP Y F.BO [.d (.int .u64 n)] (I d):=by
 have h0:0<n:=Zv (Xy AF) h1;obtain⟨b1,b2,b3⟩:=HK h0
 have hb:ia n<=64:=by
  unfold ia;split
  .omega
  .rename_i hz;have:=(Nat.log2_lt hz (k:=64)).2 (by simpa using h);omega
 obtain⟨t1,t2,t3,t4⟩:=aeD ⟨ia n,aa⟩ b3;simp only at t1 t2 t3 t4;refine JN ?_;simp[BO];refine cd (O3 h) ?_;simp;refine cd (aaQ hb) ?_;generalize hk:ia n*78913/262144=k at *;have hg:gl FZ=.dptr uj 0:=aeM;simp(disch:=try exact zN)[hg];rw[afm _ _ _ (aex t4)]
 have hpk:10^(k+1)=10*10^k:=by rw[Nat.pow_succ,Y5]
 have hpd:10^d=10*10^(d-1):=by
  obtain⟨e,rfl⟩:∃e,d=e+1:=⟨d-1,aa⟩;rw[Nat.pow_succ,Y5];rfl
 have a1:10^k<=n->d=k+1:=fun hc=>by
  have a1:k<d:=(Ym (a:=10) AF).1 aa;have a2:d-1<k+1:=(Ym (a:=10) AF).1 aa;omega
 have a2:¬10^k<=n->d=k:=fun hc=>by
  have hk1:1<=k:=by
   rcases Yz k with e|e
   .subst e;simp at hc;omega
   .exact e
  have a1:d-1<k:=(Ym (a:=10) AF).1 aa
  have a2:k-1<d:=by
   rcases t3 with e|e
   .omega
   .exact(Ym (a:=10) AF).1 aa
  omega
 generalize 10^k=P at *;simp;refine cd (abD (decide (P<=n))) ?_;by_cases hc:P<=n
 .have:=a1 hc;simp(disch:=try exact zN)[hc];exact A3 aa
 .have:=a2 hc;simp(disch:=try exact zN)[hc];exact A3 aa
def dg(n:Nat):UInt8:=UInt8.ofNat (48+n)
def xg:Nat->Nat->LuQ
 |_,0=>[]
 |n,w+1=>xg (n/10) w++[dg (n%10)]
theorem A0:∀(w n:Nat),(xg n w).length=w
 |0,_=>rfl
 |w+1,n=>by simp[xg,A0 w]
def u8(b:UInt8):D:=.int .u8 b.toNat
def eY:LuQ:=[48,48,48,49,48,50,48,51,48,52,48,53,48,54,48,55,48,56,48,57,49,48,49,49,49,50,49,51,49,52,49,53,49,54,49,55,49,56,49,57,50,48,50,49,50,50,50,51,50,52,50,53,50,54,50,55,50,56,50,57,51,48,51,49,51,50,51,51,51,52,51,53,51,54,51,55,51,56,51,57,52,48,52,49,52,50,52,51,52,52,52,53,52,54,52,55,52,56,52,57,53,48,53,49,53,50,53,51,53,52,53,53,53,54,53,55,53,56,53,57,54,48,54,49,54,50,54,51,54,52,54,53,54,54,54,55,54,56,54,57,55,48,55,49,55,50,55,51,55,52,55,53,55,54,55,55,55,56,55,57,56,48,56,49,56,50,56,51,56,52,56,53,56,54,56,55,56,56,56,57,57,48,57,49,57,50,57,51,57,52,57,53,57,54,57,55,57,56,57,57]
theorem Q4:([48,48,48,49,48,50,48,51,48,52,48,53,48,54,48,55,48,56,48,57,49,48,49,49,49,50,49,51,49,52,49,53,49,54,49,55,49,56,49,57,50,48,50,49,50,50,50,51,50,52,50,53,50,54,50,55,50,56,50,57,51,48,51,49,51,50,51,51,51,52,51,53,51,54,51,55,51,56,51,57,52,48,52,49,52,50,52,51,52,52,52,53,52,54,52,55,52,56,52,57,53,48,53,49,53,50,53,51,53,52,53,53,53,54,53,55,53,56,53,57,54,48,54,49,54,50,54,51,54,52,54,53,54,54,54,55,54,56,54,57,55,48,55,49,55,50,55,51,55,52,55,53,55,54,55,55,55,56,55,57,56,48,56,49,56,50,56,51,56,52,56,53,56,54,56,55,56,56,56,57,57,48,57,49,57,50,57,51,57,52,57,53,57,54,57,55,57,56,57,57]:LuQ)=eY:=rfl
theorem WL:∀x:Fin 200,eY[x.val]?=some (dg (if x.val%2=0 then x.val/2/10 else x.val/2%10)):=dQ
def smV(i:Int):D:=u8 (dg (if i%2=0 then i.toNat/2/10 else i.toNat/2%10))
@[simp] theorem vj (k:IntKind)(i:Int)(K:V->Prop)(u:PU K)(h0:0<=i)(h1:i<200):rn (bnd (ixS (.d (.str eY)) (.d (.int k i)))) K u=K (.d (smV i)):=by
 have h:=uB eY (k:=k) h0 (WL ⟨i.toNat,aa⟩);unfold rn;rw[show V.d (.str eY)=S eY from rfl,h]
 have e:(if i.toNat%2=0 then i.toNat/2/10 else i.toNat/2%10)=(if i%2=0 then i.toNat/2/10 else i.toNat/2%10):=by
  by_cases hc:i%2=0
  .rw[if_pos hc,if_pos aa]
  .rw[if_neg hc,if_neg aa]
 simp_all[smV,u8]
theorem aer{x:Nat}:smV (2*(x:Int))=u8 (dg (x/10)):=by grind[smV]
theorem aeq{x:Nat}:smV (2*(x:Int)+1)=u8 (dg (x%10)):=by grind[smV]
theorem Pt(n w:Nat):xg n (w+2)=xg (n/100) w++[dg (n%100/10),dg (n%100%10)]:=by
 simp only[xg,List.append_assoc,List.singleton_append];rw[Xu];have e1:n/10%10=n%100/10:=aa;have e2:n%10=n%100%10:=aa
 grind
theorem afi{α:Type}:∀(l:List α),l.length=8->∃c0 c1 c2 c3 c4 c5 c6 c7,l=[c0,c1,c2,c3,c4,c5,c6,c7]
 |[c0,c1,c2,c3,c4,c5,c6,c7],_=>⟨c0,c1,c2,c3,c4,c5,c6,c7,rfl⟩
 |[],h|[_],h|[_,_],h|[_,_,_],h|[_,_,_,_],h|[_,_,_,_,_],h|[_,_,_,_,_,_],h|[_,_,_,_,_,_,_],h=>by simp at h
 |_::_::_::_::_::_::_::_::_::_,h=>by simp at h
@[simp]theorem wR(s e off len cap tot:Nat):fL (.ref s e off len cap tot)=some (I len):=rfl
theorem afM(B:LdQ)(c0 c1 c2 c3 c4 c5 c6 c7 x0 x1 x2 x3 x4 x5 x6 x7:D){i1 i2 i3 i4 i5 i6 i7:Nat}
  (h1:i1=1) (h2:i2=2) (h3:i3=3) (h4:i4=4) (h5:i5=5) (h6:i6=6) (h7:i7=7) :
  ((((((((c0::c1::c2::c3::c4::c5::c6::c7::B).set i7 x7).set i6 x6).set i5 x5).set i4 x4).set i3 x3).set i2 x2).set i1 x1).set 0 x0=x0::x1::x2::x3::x4::x5::x6::x7::B:=by simp_all
theorem afN(B:LdQ)(c0 c1 c2 c3 x0 x1 x2 x3:D){i2 i3:Nat}(h1:i1=1)(h2:i2=2)(h3:i3=3):
  ((((c0::c1::c2::c3::B).set i3 x3).set i2 x2).set i1 x1).set 0 x0=x0::x1::x2::x3::B:=by grind
theorem set2(B:LdQ)(c0 c1 x0 x1:D)(h1:i1=1):((c0::c1::B).set i1 x1).set 0 x0=x0::x1::B:=by grind
@[simp]theorem afg(i:Int):norm (smV i)=smV i:=rfl
theorem Jt{x:Nat}(h:i=2*(x:Int)+1):smV i=u8 (dg (x%10)):=by rw[h,aeq]
theorem Ju{x:Nat}(h:i=2*(x:Int)):smV i=u8 (dg (x/10)):=by rw[h,aer]
theorem afw(n w:Nat):xg n (w+8)=xg (n/100000000) w++[dg (n/1000000%100/10),dg (n/1000000%100%10),dg (n/10000%100/10),dg (n/10000%100%10),dg (n/100%100/10),dg (n/100%100%10),dg (n%100/10),dg (n%100%10)]:=by simp[Pt,Xu]
theorem acU(h0:Hp)(hh:h0.length=2)(k:KL)(off len cap tot:Nat)(pre post:LdQ)(hpre:pre.length=off):∀(r nd n:Nat)(mid done:LdQ),nd<=r->mid.length=nd->nd+done.length=len->len<=24->tot=off+len+post.length ->
  n<10^nd->n<18446744073709551616 ->
  (∀(n' nd':Nat)(mid' done':LdQ),nd'<8->mid'.length=nd'->nd'+done'.length=len->n'<10^nd'->(xg n' nd').map u8++done'=(xg n nd).map u8++done->k (.exit 0) [.d (.int .u64 n'),I nd'] [(1,.data 1 (pre++(mid'++(done'++post))) true false),nnQ]) ->
  lp (Cc (CX Y) 2 (.ref 0 1 off len cap tot)) [] h0 [.d (.int .u64 n),I nd] [(1,.data 1 (pre++(mid++(done++post))) true false),nnQ] k:=by
 intro r
 induction r with
 | zero=> 
  intro nd n mid done hr hm hd hl ht hn h64 hk;refine AJ ?_;simp(disch:=try exact zN)[Cc];exact hk n nd mid done aa hm hd hn rfl
 | succ r ih=>
  intro nd n mid done hr hm hd hl ht hn h64 hk;refine AJ ?_;by_cases h8:8<=nd
  ·obtain ⟨m',c0,c1,c2,c3,c4,c5,c6,c7,rfl⟩:∃(m':LdQ)(c0 c1 c2 c3 c4 c5 c6 c7:D),mid=m'++[c0,c1,c2,c3,c4,c5,c6,c7]:=by
    obtain⟨c0,c1,c2,c3,c4,c5,c6,c7,e⟩:=afi (mid.drop (nd-8)) (by grind);exact⟨mid.take (nd-8),c0,c1,c2,c3,c4,c5,c6,c7,by rw[<-e,X8]⟩
   have e0:pre++(m'++[c0,c1,c2,c3,c4,c5,c6,c7]++(done++post))=(pre++m')++c0::c1::c2::c3::c4::c5::c6::c7::(done++post):=mR;rw[e0];simp only[Zy,List.length_cons,List.length_nil]at hm;have hA:(pre++m').length=off+nd-8:=by simp;omega
   have e9:∀x0 x1 x2 x3 x4 x5 x6 x7:D,(pre++m')++x0::x1::x2::x3::x4::x5::x6::x7::(done++post)=pre++(m'++((x0::x1::x2::x3::x4::x5::x6::x7::done)++post)):=by intros;simp
   generalize pre++m'=A at *;unfold Cc;simp only[Q4];simp(disch:=try exact zN)[Y3,Y1];rw[afM _ _ _ _ _ _ _ _ _ _ _ _ _ _ _ _ _ aa aa aa aa aa aa aa,e9]
   rw[Jt (x:=n%100) (i:=(n:Int)%100*2+1) aa,Ju (x:=n%100) (i:=(n:Int)%100*2) aa,Jt (x:=n/100%100) (i:=(n:Int)%10000/100*2+1) aa,Ju (x:=n/100%100) (i:=(n:Int)%10000/100*2) aa,Jt (x:=n/10000%100) (i:=(n:Int)%100000000/10000%100*2+1) aa,Ju (x:=n/10000%100) (i:=(n:Int)%100000000/10000%100*2) aa,Jt (x:=n/1000000%100) (i:=(n:Int)%100000000/10000/100*2+1) aa,Ju (x:=n/1000000%100) (i:=(n:Int)%100000000/10000/100*2) aa]
   obtain⟨w,rfl⟩:∃w,nd=w+8:=⟨nd-8,aa⟩;have hd8:=afw n w;rw[show((w+8:Nat):Int)-8=(w:Nat) by omega,show(n:Int)/100000000=((n/100000000:Nat):Int) by omega]
   refine ih w (n/100000000) m' (u8 (dg (n/1000000%100/10))::u8 (dg (n/1000000%100%10))::u8 (dg (n/10000%100/10))::u8 (dg (n/10000%100%10))::u8 (dg (n/100%100/10))::u8 (dg (n/100%100%10))::u8 (dg (n%100/10))::u8 (dg (n%100%10))::done) aa aa bW hl ht ?_ aa ?_
   .grind
   .intro n' nd' mid' done' g1 g2 g3 g4 g5;refine hk n' nd' mid' done' g1 g2 g3 g4 ?_;rw[g5,hd8];simp
  .simp(disch:=try exact zN)[Cc];exact hk n nd mid done aa hm hd hn rfl
theorem Vf{x:Nat}(h:x<10):u8 (dg x)=.int .u8 (48+x):=by unfold u8 dg;congr 1;simp;omega
theorem afj{α:Type}:∀(l:List α),l.length=4->∃c0 c1 c2 c3,l=[c0,c1,c2,c3]
 |[c0,c1,c2,c3],_=>⟨c0,c1,c2,c3,rfl⟩
 |[],h|[_],h|[_,_],h|[_,_,_],h=>by simp at h
 |_::_::_::_::_::_,h=>by grind
theorem afk{α:Type}:∀(l:List α),l.length=2->∃c0 c1,l=[c0,c1]
 |[c0,c1],_=>⟨c0,c1,rfl⟩
 |[],h|[_],h=>by simp at h
 |_::_::_::_,h=>by grind
theorem acV(n nd:Nat)(mid B:LdQ)(h8:nd<8)(hm:mid.length=nd)(hn:n<10^nd):∃(n1 nd1:Nat)(mid1 B1:LdQ),nd1<4∧mid1.length=nd1∧n1<10^nd1∧nd1+B1.length=nd+B.length∧(xg n1 nd1).map u8++B1=(xg n nd).map u8++B ∧
  ((4<=nd∧n1=n/10000∧nd1=nd-4∧(∃c0 c1 c2 c3,mid=mid1++[c0,c1,c2,c3])∧B1=u8 (dg (n/100%100/10))::u8 (dg (n/100%100%10))::u8 (dg (n%100/10))::u8 (dg (n%100%10))::B)∨(¬4<=nd∧n1=n∧nd1=nd∧mid1=mid∧B1=B)):=by
 by_cases h4:4<=nd
 .obtain⟨w,rfl⟩:∃w,nd=w+4:=⟨nd-4,aa⟩;obtain⟨c0,c1,c2,c3,e⟩:=afj (mid.drop w) (by grind);refine⟨n/10000,w,mid.take w,_,aa,by grind,?_,?_,?_,.inl ⟨h4,rfl,aa,⟨c0,c1,c2,c3,by rw[<-e,X8]⟩,rfl⟩⟩
  .grind
  .grind
  simp[Pt,Xu]
 .exact⟨n,nd,mid,B,aa,hm,hn,rfl,rfl,.inr ⟨h4,rfl,rfl,rfl,rfl⟩⟩
theorem aeP(n nd:Nat)(mid B:LdQ)(h8:nd<4)(hm:mid.length=nd)(hn:n<10^nd):∃(n1 nd1:Nat)(mid1 B1:LdQ),nd1<2∧mid1.length=nd1∧n1<10^nd1∧nd1+B1.length=nd+B.length∧(xg n1 nd1).map u8++B1=(xg n nd).map u8++B ∧
  ((2<=nd∧n1=n/100∧nd1=nd-2∧(∃c0 c1,mid=mid1++[c0,c1])∧B1=u8 (dg (n%100/10))::u8 (dg (n%100%10))::B)∨(¬2<=nd∧n1=n∧nd1=nd∧mid1=mid∧B1=B)):=by
 by_cases h4:2<=nd
 .obtain⟨w,rfl⟩:∃w,nd=w+2:=⟨nd-2,aa⟩;obtain⟨c0,c1,e⟩:=afk (mid.drop w) (by grind);refine⟨n/100,w,mid.take w,_,aa,by grind,?_,?_,?_,.inl ⟨h4,rfl,aa,⟨c0,c1,by rw[<-e,X8]⟩,rfl⟩⟩
  .grind
  .grind
  simp[Pt]
 .exact⟨n,nd,mid,B,aa,hm,hn,rfl,rfl,.inr ⟨h4,rfl,rfl,rfl,rfl⟩⟩
def fbH(pre mid B:LdQ):Hp:=[(1,.data 1 (pre++(mid++B)) true false),nnQ]
theorem adT{off tot n:Nat}{pre mid post:LdQ}(hpre:pre.length=off)(hm:mid.length=d)(hd:d<=24)(ht:tot=off+d+post.length)(hn:n<10^d)(h64:n<18446744073709551616):
  CI Y F.Bj [.ref 0 1 off d cap tot,.d (.int .u64 n)] [(1,.data 1 (pre++(mid++post)) true false),nnQ] (.tup []) [(1,.data 1 (pre++((xg n d).map u8++post)) true false),nnQ]:=by
 refine IS ?_;unfold Bj;simp only[Q4];simp;refine lo (acU _ rfl _ off d cap tot pre post hpre d d n mid [] aa hm mR hd ht hn h64 (fun n' nd mid' done g1 g2 g3 g4 g5=>?_));have hp8:10^nd<=10^7:=Zc AF aa;simp only[Nat.reducePow]at hp8;simp(disch:=try exact zN)
 obtain⟨n1,d1,mid1,B1,f1,f2,f3,f4,f5,f6⟩:=acV n' nd mid' (done++post) g1 g2 g4;refine D8 (l:=[.d (.int .u32 n1),I d1]) (h:=fbH pre mid1 B1) (fun q=>?_) ?_
 .rcases f6 with⟨c,rfl,rfl,⟨c0,c1,c2,c3,rfl⟩,rfl⟩|⟨c,rfl,rfl,rfl,rfl⟩
  .have e0:pre++(mid1++[c0,c1,c2,c3]++(done++post))=(pre++mid1)++c0::c1::c2::c3::(done++post):=mR;rw[e0];simp only[Zy,List.length_cons,List.length_nil]at g2;have hA:(pre++mid1).length=off+nd-4:=by simp;omega
   have e9:∀x0 x1 x2 x3:D,(pre++mid1)++x0::x1::x2::x3::(done++post)=pre++(mid1++(x0::x1::x2::x3::(done++post))):=by intros;simp
   generalize pre++mid1=A at *;simp(disch:=try exact zN)[c,Y3,Y1];rw[afN _ _ _ _ _ _ _ _ _ aa aa aa,e9]
   rw[Jt (x:=n'%100) (i:=(n':Int)%100*2+1) aa,Ju (x:=n'%100) (i:=(n':Int)%100*2) aa,Jt (x:=n'/100%100) (i:=(n':Int)%10000/100*2+1) aa,Ju (x:=n'/100%100) (i:=(n':Int)%10000/100*2) aa];simp[fbH,I,show((nd-4:Nat):Int)=(nd:Int)-4 by omega]
  .simp(disch:=try exact zN)[c,fbH]
 have hp4:10^d1<=10^3:=Zc AF aa;simp only[Nat.reducePow]at hp4;simp;obtain⟨n2,d2,mid2,B2,e1,e2,e3,e4,e5,e6⟩:=aeP n1 d1 mid1 B1 f1 f2 f3;refine D8 (l:=[.d (.int .u32 n2),I d2]) (h:=fbH pre mid2 B2) (fun q=>?_) ?_
 .rcases e6 with⟨c,rfl,rfl,⟨c0,c1,rfl⟩,rfl⟩|⟨c,rfl,rfl,rfl,rfl⟩
  .have e0:pre++(mid2++[c0,c1]++B1)=(pre++mid2)++c0::c1::B1:=mR;rw[fbH,e0];simp only[Zy,List.length_cons,List.length_nil]at f2;have hA:(pre++mid2).length=off+d1-2:=by simp;omega
   have hB:tot=off+d1+B1.length:=by simp at f4;omega
   have e9:∀x0 x1:D,(pre++mid2)++x0::x1::B1=pre++(mid2++(x0::x1::B1)):=by intros;simp
   generalize pre++mid2=A at *;simp(disch:=try exact zN)[c,Y3,Y1];rw[set2 _ _ _ _ _ aa,e9];rw[Jt (x:=n1%100) (i:=(n1:Int)%100*2+1) aa,Ju (x:=n1%100) (i:=(n1:Int)%100*2) aa];simp[fbH,I,show((d1-2:Nat):Int)=(d1:Int)-2 by omega]
  .simp(disch:=try exact zN)[c,fbH]
 simp
 have hend:fbH pre ((xg n2 d2).map u8) B2=[(1,.data 1 (pre++((xg n d).map u8++post)) true false),nnQ]:=by
  simp only[fbH];rw[e5,f5,<-List.append_assoc ((xg n' nd).map u8),g5];simp
 refine D8 (l:=[]) (h:=fbH pre ((xg n2 d2).map u8) B2) (fun q=>?_) ?_
 .match d2,e1,mid2,e2 with
  |0,_,[],_=>simp[fbH,xg]
  | 1,_,[c0],_=>
   have hn2:n2<10:=by simpa using e3
   have hB:tot=off+1+B2.length:=by simp at f4;omega
   simp(disch:=try exact zN)[fbH,xg];rw[Ya hn2,Vf hn2]
 rw[hend];simp[pY];exact⟨by trivial,.inl (by trivial)⟩
@[simp]theorem zg(s n:Nat)(cs:LdQ)(h:Hp)(k:kkQ)(u:PU k):rh (alD s n cs h) k u=rn (bnh h[s]?) (fun x=>k (.ptr s (x.1+1) 0 cs.length) (h.set s (x.1+1,.data n cs true false))) .mk:=by unfold rh rn alD;exact gE ..
def ndg(n:Nat):Nat:=if n<10 then 1 else ndg (n/10)+1
theorem se(n:Nat):1<=ndg n:=by unfold ndg;split<;>omega
theorem BI:∀n:Nat,n<10^ndg n:=by
 intro n
 induction n using Nat.strongRecOn with
 | _ n ih=>
  unfold ndg;split
  .simpa using ‹n<10›
  .have:=ih (n/10) aa;rw[Nat.pow_succ];omega
theorem uq:∀n:Nat,0<n->10^(ndg n-1)<=n:=by
 intro n
 induction n using Nat.strongRecOn with
 | _ n ih=>
  intro h0;unfold ndg;split
  .simp;omega
  .have h1:=ih (n/10) aa aa;have h2:=se (n/10);rw[show ndg (n/10)+1-1=(ndg (n/10)-1)+1 by omega,Nat.pow_succ];omega
theorem jK{n:Nat}(h:n<10^d)(hd:1<=d):ndg n<=d:=by
 rcases Yz n with e|e
 .subst e;unfold ndg;rw[if_pos aa];exact hd
 .have h1:=uq n e;have:ndg n-1<d:=(Ym (a:=10) AF).1 aa;omega
def AI(n:Nat):LuQ:=xg n (ndg n)
def itoa(z:Int):LuQ:=if z<0 then 45::AI z.natAbs else AI z.natAbs
def abd:LuQ:=[48,49,50,51,52,53,54,55,56,57,97,98,99,100,101,102,103,104,105,106,107,108,109,110,111,112,113,114,115,116,117,118,119,120,121,122]
theorem afs:([48,49,50,51,52,53,54,55,56,57,97,98,99,100,101,102,103,104,105,106,107,108,109,110,111,112,113,114,115,116,117,118,119,120,121,122]:LuQ)=abd:=rfl
theorem ZC:∀x:Fin 10,(abd.drop x.val).take 1=AI x.val:=dQ
theorem ZD:∀x:Fin 100,10<=x.val->(eY.drop (2*x.val)).take 2=AI x.val:=by intro x hx;have h1:=(show ∀x:Fin 100,(eY.drop (2*x.val)).take 2=xg x.val 2 by decide+kernel) x;rw[h1,AI];congr 1;unfold ndg;rw[if_neg aa];unfold ndg;rw[if_pos aa]
theorem Um{s:LuQ}{l:IntKind}{j:Int}(a b:Nat)(hi:i=a)(hj:j=b)(h1:a<=b)(h2:b<=s.length):slS (.d (.str s)) (some (.d (.int k i))) (some (.d (.int l j)))=some (.d (.str ((s.drop a).take (b-a)))):=by subst hi hj;simp only[slS,boV];rw[if_pos aa];simp only[];rw[if_pos aa];simp
theorem SE{n:Nat}(h:n<100):CP Y F.Dq [I n] (S (AI n)):=by
 refine Mm ?_;unfold Dq;simp only[Q4,afs];by_cases c:n<10
 .simp(disch:=try exact zN)[c];rw[Um n (n+1) aa aa aa (by rw[show abd.length=36 from rfl];omega)];have:=ZC ⟨n,c⟩;simp only[]at this;simp[this];exact Cu rfl
 .simp(disch:=try exact zN)[c];rw[Um (2*n) (2*n+2) aa aa aa (by rw[show eY.length=200 from rfl];omega)];have:=ZD ⟨n,h⟩ (by simpa using c);simp only[]at this;simp[this];exact Cu rfl
theorem Nm:∀l:LuQ,bytesD (l.map u8)=some l
 |[]=>rfl
 | b::l=>by
  have hb:=b.toNat_lt;simp only[Z0,u8,bytesD];rw[if_pos aa];have:=Nm l;rw[this];simp
abbrev cH(cells:LdQ):Hp:=[(1,.data 1 cells true false),nnQ]
theorem ZF(hc:cells.length=24){l:IntKind}{j:Int}(a b:Nat)(hi:i=a)(hj:j=b)(h1:a<=b)(h2:b<=24):
  slP 24 1 (cH cells) (.ptr 0 1 0 24) (some (.d (.int k i))) (some (.d (.int l j)))=some (.ref 0 1 a (b-a) (24-a) 24):=by simp only[slP,cH,aj];simp[lK hj h2,lK hi h1,hc]
theorem Q6(hc:cells.length=24){l:IntKind}{j:Int}(b:Nat)(hj:j=b)(h2:b<=24):
  slP 24 1 (cH cells) (.ptr 0 1 0 24) none (some (.d (.int l j)))=some (.ref 0 1 0 b 24 24):=by simp only[slP,cH,aj];simp[lK hj h2,PH,hc]
theorem UW(hc:cells.length=24){i len:Nat}{bs:LuQ}(hl:i+len<=24)(he:(cells.drop i).take len=bs.map u8)(hb:bs.length=len):cvT (cH cells) (.ref 0 1 i len cap 24)=some (S bs):=by simp only[cvT,cellsOf,cH,aj];simp[hc,hl,he,hb,Nm]
theorem XO(h1 : -9223372036854775808<z)(h2:z<9223372036854775808):CP Y F.BP [I z,I 10] (S (itoa z)):=by
 refine JQ ?_;have hd1:=se z.natAbs;have hd2:ndg z.natAbs<=19:=jK aa aa;have hn:=BI z.natAbs;by_cases hs:0<=z∧z<100
 .obtain⟨hs1,hs2⟩:=hs;obtain⟨n,rfl⟩:∃n:Nat,z=n:=⟨z.toNat,aa⟩;simp[BP,hs1,hs2];refine cd (SE (n:=n) aa) ?_;rw[show itoa (n:Int)=AI n by unfold itoa;rw[if_neg aa];rfl];exact Cu rfl
 .have hcs:(0<=z∧¬z<100)∨¬0<=z:=aa;have hw:z<0->IntKind.wrap .u64 z=z+18446744073709551616:=fun h=>by rw[Qi];omega
  have hw2:z<0->IntKind.wrap .u64 (-(z+18446744073709551616)) = -z:=fun h=>by rw[Qi];omega
  have hn64:z.natAbs<18446744073709551616:=aa;have hn0:0<z.natAbs:=aa;have hab:(z.natAbs:Int)=if z<0 then -z else z:=by split<;>omega
  have hit:itoa z=if z<0 then 45::xg z.natAbs (ndg z.natAbs)else xg z.natAbs (ndg z.natAbs):=rfl
  have hlo:=uq z.natAbs hn0;generalize ndg z.natAbs=d at *;generalize z.natAbs=n at *
  obtain ⟨mid,post,hm,hp,hcell⟩:∃mid post:LdQ,mid.length=d∧post.length=23-d∧List.replicate 24 (D.int .u8 0)=[D.int .u8 0]++(mid++post):=by
   refine⟨List.replicate d (.int .u8 0),List.replicate (23-d) (.int .u8 0),mR,mR,?_⟩;rw[List.replicate_append_replicate,show d+(23-d)=23 by omega];rfl
  have hmain:cal (CX Y).p (cH ([D.int .u8 0]++(mid++post))) (.fn F.BO [] []) [.d (.int .u64 n)] fun v12 h=>
    bnd (biI .add (.d (.int .i64 1)) v12) fun v13=>
    bnd (slP 24 1 h (.ptr 0 1 0 24) (some (.d (.int .i64 1))) (some v13)) fun v14=>
    cai (CX Y).i h (.fn F.Bj [] []) [v14,.d (.int .u64 n)] 1 fun v15 h=>
    bnd (biI .lss (I z) (.d (.int .i64 0))) fun v16=>
    cnd v16 (
     bnd (ixP 24 1 (.ptr 0 1 0 24) (.d (.int .i64 0))) fun v17=>
     stD h 1 v17 (.d (.int .u8 45)) fun _ h=>
     bnd (biI .add (.d (.int .i64 1)) v12) fun v19=>
     bnd (slP 24 1 h (.ptr 0 1 0 24) none (some v19)) fun v20=>
     bnd (cvT h v20) fun v21=>
     out (S (itoa z)) v21 h) (
     bnd (biI .add (.d (.int .i64 1)) v12) fun v22=>
     bnd (slP 24 1 h (.ptr 0 1 0 24) (some (.d (.int .i64 1))) (some v22)) fun v23=>
     bnd (cvT h v23) fun v24=>
     out (S (itoa z)) v24 h):=by
   refine cd (u:=.mk) (Mc hlo hn hd1 hn64) ?_;simp(disch:=try exact zN);rw[ZF bW 1 (d+1) aa aa aa aa];simp;refine GN (h':=cH ([D.int .u8 0]++((xg n d).map u8++post))) (adT (pre:=[D.int .u8 0]) rfl hm aa aa hn hn64) ?_ mR;by_cases g:z<0
   .rw[if_pos g]at hit;simp[g,A0,hp];rw[vf _ _ _ _ _ _ _ _ _ (by simp[A0];omega) mR];simp(disch:=try exact zN)[aM];rw[Q6 (by simp[A0];omega) (d+1) aa aa];simp;rw[UW (bs:=45::xg n d) (by simp[A0];omega) aa (by simp[u8,A0,List.take_append,Zd]) (by simp[A0])]
    rw[hit];simp;exact Cu rfl
   .rw[if_neg g]at hit;simp(disch:=try exact zN)[g];rw[ZF (by simp[A0];omega) 1 (d+1) aa aa aa aa];simp;rw[UW (bs:=xg n d) (by simp[A0];omega) aa (by simp[A0,List.take_append,Zd]) (by simp[A0])];rw[hit];simp;exact Cu rfl
  rcases hcs with⟨g1,g2⟩|g1
  .have g3:¬z<0:=aa;rw[if_neg g3]at hab;simp[BP,g1,g2];refine D8 (l:=[.d (.int .u64 n)]) (h:=cH ([D.int .u8 0]++(mid++post))) (fun q=>?_) hmain;rw[<-hcell];simp(disch:=try exact zN)[g3,hab]
  .have g3:z<0:=aa;rw[if_pos g3]at hab;simp[BP,g1];refine D8 (l:=[.d (.int .u64 n)]) (h:=cH ([D.int .u8 0]++(mid++post))) (fun q=>?_) hmain;rw[<-hcell];simp[g3,hab,hw g3,hw2 g3]
theorem aeK(h1 : -9223372036854775808<z)(h2:z<9223372036854775808):CP Y F.EK [I z] (S (itoa z)):=by refine M3 ?_;simp[EK];refine cd (XO h1 h2) ?_;exact Cu rfl
theorem Om(h1 : -9223372036854775808<z)(h2:z<9223372036854775808):CP Y F.strconv_Itoa [I z] (S (itoa z)):=by refine OJ ?_;simp[strconv_Itoa];refine cd (aeK h1 h2) ?_;exact Cu rfl
def zF(b:UInt8):Bool:=decide (48<=b.toNat)&&decide (b.toNat<=57)
theorem E6{b:UInt8}:zF b=true↔48<=b.toNat∧b.toNat<=57:=by simp[zF]
def ik(a:Nat)(s:LuQ):Nat:=s.foldl (fun a b=>a*10+(b.toNat-48)) a
@[simp]theorem vw(a:Nat):ik a []=a:=by unfold ik;rw[List.foldl_nil]
@[simp]theorem uD(a:Nat)(b:UInt8)(s:LuQ):ik a (b::s)=ik (a*10+(b.toNat-48)) s:=by unfold ik;rw[List.foldl_cons]
theorem RN(x:Nat):(dg x).toNat=(48+x)%256:=by simp[dg]
theorem afu{b:UInt8}(h:zF b=true):dg (b.toNat-48)=b:=by rw[E6]at h;apply UInt8.toNat.inj;rw[RN];omega
theorem QN:∀(s:LuQ)(a w:Nat),s.all zF=true->xg (ik a s) (w+s.length)=xg a w++s
 |[],a,w,_=>by simp
 | b::s,a,w,h=>by
  simp only[List.all_cons,Z7]at h;have:=QN s (a*10+(b.toNat-48)) (w+1) h.2;have hb:=E6.1 h.1;rw[uD,List.length_cons,show w+(s.length+1)=w+1+s.length by omega,this];simp only[xg];rw[show(a*10+(b.toNat-48))/10=a by omega,show(a*10+(b.toNat-48))%10=b.toNat-48 by omega,afu h.1];simp
theorem O9:∀(s:LuQ)(a:Nat),a*10^s.length<=ik a s
 |[],a=>by simp
 | b::s,a=>by
  have:=O9 s (a*10+(b.toNat-48));rw[uD,List.length_cons,Nat.pow_succ];refine Zq ?_ this;rw[Y5 (10^s.length),<-Nat.mul_assoc];exact Zw _ aa
theorem Jg:∀(s:LuQ)(a:Nat),s.all zF=true->ik a s<(a+1)*10^s.length
 |[],a,_=>by simp
 | b::s,a,h=>by
  simp only[List.all_cons,Z7]at h;have:=Jg s (a*10+(b.toNat-48)) h.2;have hb:=E6.1 h.1;rw[uD,List.length_cons,Nat.pow_succ];refine Zv this ?_;rw[Y5 (10^s.length),<-Nat.mul_assoc];exact Zw _ aa
theorem aaD{n:Nat}(h1:10^d<=n)(h2:n<10^(d+1)):ndg n=d+1:=by have:=jK h2 aa;have h3:=BI n;have:d<ndg n:=(Ym (a:=10) AF).1 aa;omega
def Hn(s:LuQ):Bool:=!s.isEmpty&&s.all zF && !(decide (1<s.length)&&decide (s.headD 0=48))
theorem O5{s:LuQ}(h:Hn s=true):AI (ik 0 s)=s:=by
 simp only[Hn,Z7,Zp,Xo,decide_eq_false_iff_not]at h;obtain⟨⟨h0,h1⟩,h2⟩:=h;cases s with
 |nil=>simp at h0
 | cons b s=>
  have hd:=QN (b::s) 0 0 h1;simp only[List.all_cons,Z7]at h1;have hb:=E6.1 h1.1;simp only[Y9,xg,List.nil_append]at hd
  have hn:ndg (ik 0 (b::s))=(b::s).length:=by
   have lo:=O9 s (b.toNat-48);have hi:=Jg s (b.toNat-48) h1.2;simp only[uD,Wu,Y9,List.length_cons]at *;by_cases hs:s=[]
   .subst hs;simp only[vw,List.length_nil,Y9];unfold ndg;rw[if_pos aa]
   .have hl:0<s.length:=Wx.2 hs
    have hb0:b.toNat≠48:=by
     rcases h2 with h2|h2
     .omega
     .intro e;apply h2;simp only[List.headD_cons];apply UInt8.toNat.inj;rw[e];rfl
    refine aaD ?_ ?_
    .refine Zq ?_ lo;have:=Zw (10^s.length) (show 1<=b.toNat-48 by omega);omega
    .refine Zv hi ?_;rw[Nat.pow_succ,Y5];exact Zr _ aa
  unfold AI;rw[hn];exact hd
theorem acO{x:Nat}(h:x<10):zF (dg x)=true:=by rw[E6,RN];omega
theorem aeQ{x:Nat}(h:x<10):(dg x).toNat=48+x:=by rw[RN];omega
theorem Kw:∀(w n:Nat),(xg n w).all zF=true
 |0,_=>rfl
 | w+1,n=>by
  simp only[xg,Yb,Kw w,List.all_cons,List.all_nil,Yj,Yv];exact acO aa
theorem JC:∀(s t:LuQ)(a:Nat),ik a (s++t)=ik (ik a s) t
 |[],t,a=>rfl
 |b::s,t,a=>by rw[List.cons_append,uD,uD,JC s t]
theorem KX:∀(w n:Nat),n<10^w->ik 0 (xg n w)=n
 |0,n,h=>by simp at h;subst h;rfl
 | w+1,n,h=>by
  have:=KX w (n/10) (by rw[Nat.pow_succ]at h;omega);simp only[xg,JC,this,uD,vw];rw[aeQ aa];omega
theorem Iw(n:Nat):Hn (AI n)=true:=by
 have hl:(AI n).length=ndg n:=A0 ..;have hp:=se n;have ha:(AI n).all zF=true:=Kw ..;have hh:ik 0 (AI n)=n:=KX _ _ (BI n);cases he:AI n with
 |nil=>rw[he]at hl;simp at hl;omega
 | cons b s=>
  rw[he]at hl ha hh;simp only[Hn,List.isEmpty_cons,Bool.not_false,Yv,ha,List.headD_cons,Zp,Xo,decide_eq_false_iff_not];by_cases h1:1<(b::s).length
  .right;refine decide_eq_false fun e=>?_
   subst e;simp only[List.all_cons,Z7]at ha;have hi:=Jg s 0 ha.2;simp only[uD,List.length_cons]at *;have e48:(48:UInt8).toNat=48:=rfl;rw[e48]at hh;simp only[Nat.sub_self,Wu,Y9,Xh]at *;rw[hh]at hi
   have lo:=uq n (by
    rcases Yz n with e|e
    .have e1:ndg 0=1:=by unfold ndg;rfl
     rw[e,e1]at hl;omega
    .exact e)
   rw[<-hl]at lo;simp at lo;omega
  .left;simpa using h1
theorem B5(n:Nat):ik 0 (AI n)=n:=KX _ _ (BI n)
def rdS(s:LuQ):Option Int:=if s.headD 0=45 then(if Hn s.tail=true∧s.tail≠[48]then some (-(ik 0 s.tail:Int))else none)else if Hn s=true then some (ik 0 s:Int)else none
theorem Kt(n:Nat):AI n≠[]:=by intro e;have:(AI n).length=ndg n:=A0 ..;have:=se n;rw[e]at *;simp at *;omega
theorem Ir(n:Nat):(AI n).headD 0≠45:=by
 have ha:(AI n).all zF=true:=Kw ..;cases he:AI n with
 |nil=>exact absurd he (Kt n)
 | cons b s=>
  rw[he]at ha;simp only[List.all_cons,Z7,E6]at ha;simp only[List.headD_cons];intro e;subst e;have:(45:UInt8).toNat=45:=rfl;omega
theorem S5(z:Int):rdS (itoa z)=some z:=by
 unfold rdS itoa;by_cases hz:z<0
 .rw[if_pos hz,List.headD_cons,if_pos rfl,List.tail_cons,Iw,B5,if_pos]
  .congr 1;omega
  .refine⟨rfl,fun e=>?_⟩;have:=B5 z.natAbs;rw[e]at this;have e2:ik 0 [48]=0:=rfl;omega
 .rw[if_neg hz,if_neg (Ir _),if_pos (Iw _),B5];congr 1;omega
theorem aag{s:LuQ}(h:rdS s=some z):s=itoa z:=by
 unfold rdS at h;split at h
 .rename_i hd;split at h
  .rename_i hc;simp only[Z9]at h;subst h;cases s with
   |nil=>simp at hd
   | cons b s=>
    simp only[List.headD_cons]at hd;subst hd;simp only[List.tail_cons]at *;have he:=O5 hc.1
    have h0:ik 0 s≠0:=by
     intro e;rw[e]at he;apply hc.2;rw[<-he];unfold AI ndg;rfl
    unfold itoa;rw[if_pos aa,Int.natAbs_neg,Int.natAbs_natCast,he]
  .cases h
 .split at h
  .rename_i hc;simp only[Z9]at h;subst h;unfold itoa;rw[if_neg aa,Int.natAbs_natCast,O5 hc]
  .cases h
theorem Mx:∀(v w n:Nat),xg n (w+v)=xg (n/10^v) w++xg n v
 |0,w,n=>by simp[xg]
 | v+1,w,n=>by
  rw[show w+(v+1)=(w+v)+1 by omega];simp only[xg];rw[Mx v w (n/10),Xu,Nat.pow_succ,Y5 10,List.append_assoc]
theorem Mw:∀(w n m:Nat),xg (n+10^w*m) w=xg n w
 |0,_,_=>rfl
 | w+1,n,m=>by
  simp only[xg];have e:n+10^(w+1)*m=n+10*(10^w*m):=by rw[Nat.pow_succ,Y5 (10^w) 10,Nat.mul_assoc]
  rw[e,Yc _ _ AF,Xm,Mw w]
theorem XI{t k r:Nat}(ht:0<t)(hr:r<10^k):AI (r+10^k*t)=AI t++xg r k:=by
 have h1:=uq t ht;have h2:=BI t;have h3:=se t;obtain⟨d,hd⟩:∃d,ndg t=d+1:=⟨ndg t-1,aa⟩
 have hn:ndg (r+10^k*t)=ndg t+k:=by
  rw[hd]at h1 h2 ⊢;simp only[Wv]at h1;rw[show d+1+k=(d+k)+1 by omega];refine aaD ?_ ?_
  .rw[Yh,Y5];have:=Zr (10^k) h1;omega
  .rw[show d+k+1=k+(d+1) by omega,Yh];have:=Zr (10^k) h2;rw[Nat.mul_succ]at this;omega
 have e:=Mx k (ndg t) (r+10^k*t);rw[<-hn,Yc _ _ (Nat.pos_of_ne_zero (by have:=Xy (a:=10) (n:=k) AF;omega)),Xd hr,Y9,Mw]at e;exact e
theorem fP:∀a:Fin 10,biI .and (.d (.int .u64 a.val)) (.d (.int .u64 4294967295))=some (.d (.int .u64 a.val)):=by
 intro a
 match a with
 |0|1|2|3|4|5|6|7|8|9=>rfl
@[simp]theorem afZ{n:Nat}(h:n<10):biI .and (.d (.int .u64 (n:Int))) (.d (.int .u64 4294967295))=some (.d (.int .u64 n)):=fP ⟨n,h⟩
@[simp]theorem zX:biI .and (.d (.int .u64 1)) (.d (.int .u64 4294967295))=some (.d (.int .u64 1)):=fP 1
@[simp]theorem zY:biI .and (.d (.int .u64 0)) (.d (.int .u64 4294967295))=some (.d (.int .u64 0)):=fP 0
theorem afl:sy (.d (.str [48]))=some (I 1):=rfl
def Ni:Nat->Nat->LnQ
 |_,0=>[]
 |n,w+1=>Ni (n/10) w++[n%10]
theorem Ps:∀(w n:Nat),(Ni n w).length=w
 |0,_=>rfl
 |w+1,n=>by simp[Ni,Ps w]
theorem Oo:∀(w n:Nat),∀x∈Ni n w,x<10
 |0,_=>by simp[Ni]
 | w+1,n=>by
  intro x hx;simp only[Ni,Y6,List.mem_singleton]at hx;rcases hx with hx|hx
  .exact Oo w _ x hx
  .omega
theorem RP:∀(w n:Nat),xg n w=(Ni n w).map dg
 |0,_=>rfl
 |w+1,n=>by simp[xg,Ni,RP w]
def acR(a:Nat)(l:LnQ):Nat:=l.foldl (fun a d=>a*10+d) a
theorem O8:∀(w n:Nat),n<10^w->acR 0 (Ni n w)=n
 |0,n,h=>by simp at h;subst h;rfl
 | w+1,n,h=>by
  have:=O8 w (n/10) (by rw[Nat.pow_succ]at h;omega);unfold acR at this;simp only[acR,Ni,List.foldl_append,this,List.foldl_cons,List.foldl_nil];omega
def f8(x:Nat):D:=.int .u8 (48+x)
theorem abg(n w:Nat):(xg n w).map u8=(Ni n w).map f8:=by rw[RP,Yg];apply List.map_congr_left;intro x hx;exact Vf (Oo w n x hx)
theorem RY(k:KL)(h0:Hp)(hh:h0.length=0):∀(r a:LnQ)(s:Nat),(a++r).length<=18->(∀x∈r,x<10)->s<10^a.length ->
  (k (.exit 0) [I (acR s r)] []) ->
  lp (Fl (CX Y) (lst f8 (a++r)) (I (a++r).length)) [] h0 [I s,I a.length] [] k
 | []=>by
  intro a s hN hx hs hk;refine AJ ?_;simp[Fl];exact hk
 | x::r=>by
  intro a s hN hx hs hk;simp at hN hx;have hs18:s<10^17:=Zv hs (Zc AF aa);simp only[Nat.reducePow]at hs18;have hx1:=hx.1;refine AJ ?_;simp(disch:=try exact zN)[Fl,f8];have:=RY k h0 hh r (a++[x]) (s*10+x) bW hx.2 (by simp[Nat.pow_succ];omega) hk;simp at this
  rw[show(48+(x:Int)-48)=x by omega];exact this
theorem adg{n:Nat}(h1:1<=w)(h2:w<=18)(hn:n<10^w):CP Y F.C7 [S (xg n w)] (.tup [I n,.d (.pl .nilIface)]):=by
 refine Jf ?_;have hl:=Ps w n;have hlt:=Oo w n;have hh:=O8 w n hn;have he:=abg n w;have hD:=RP w n;generalize xg n w=L at *;generalize Ni n w=l at *;cases l with
 |nil=>simp at hl;omega
 | cons x l=>
  have hx:=hlt x mR
  have hi:ixS (S L) (.d (.int .i64 0))=some (.d (.int .u8 (48+x))):=by
   rw[hD];simp[ixS];have e:=Vf hx;unfold u8 at e;injection e
  have hlen:L.length=w:=by rw[hD];simpa using hl
  have hlw:sy (S L)=some (I w):=by rw[zx,hlen]
  simp(disch:=try exact zN)[C7,hlw,hi]
  have hcv:∀(k:kkQ),cvB (S L) [] k=k (lst f8 (x::l)) []:=by
   intro k
   have:V.d (.sl L.length (L.map fun b=>.int .u8 b.toNat))=lst f8 (x::l):=by
    unfold lst;rw[hlen,hl,<-he];rfl
   simp only[cvB,this]
  refine D8 (l:=[S L]) (h:=[]) (fun q=>?_) ?_
  .simp[show ¬(48+(x:Int)=43) by omega]
  show cvB (S L) [] _
  rw[hcv];simp;refine lo (RY _ _ rfl (x::l) [] 0 (by simp at hl;simp;omega) hlt mR ?_);simp[hi,hh];refine D8 (l:=[I n]) (h:=[]) (fun q=>?_) ?_
  .simp[hh,show ¬(48+(x:Int)=45) by omega]
  exact⟨[],by simp[cX,AT,norm]⟩
theorem Rt:biF .neq (.d (.pl .nilIface)) (.d (.pl .nilIface))=some (.d (.bool false)):=rfl
theorem RX{n:Nat}(h1:1<=w)(h2:w<=18)(hn:n<10^w):CP Y F.strconv_Atoi [S (xg n w)] (.tup [I n,.d (.pl .nilIface)]):=by refine J7 ?_;simp[strconv_Atoi];refine cd (adg h1 h2 hn) ?_;simp[Rt];exact⟨[],by simp[cX,AT,norm]⟩
theorem kC(z:D):∀n,cY n [z]=List.replicate n z
 |0=>rfl
 |n+1=>by simp[cY,kC z n,List.replicate_succ]
@[simp] theorem zd (s by_:Nat)(z:D)(h:Hp)(i:Int)(k:kkQ)(u:PU k)(h0:0<=i)(hb:by_*i<=281474976710656)(h1:i<=9223372036854775807):
  rh (mkS s by_ [z] h (.d (.int .i64 i)) (.d (.int .i64 i))) k u=rn (bnh h[s]?) (fun y=>k (.ref s (y.1+1) 0 i.toNat i.toNat i.toNat) (h.set s (y.1+1,.data 1 (List.replicate i.toNat z) true false))) .mk:=by unfold rh rn;simp only[mkS];rw[if_pos ⟨h0,Int.le_refl _,mR,hb,h1⟩,gE];simp only[kC,Yy,List.length_singleton]
@[simp]theorem xU(s e off len cap tot:Nat):fL (.ref s e off len cap tot)=some (.d (.int .i64 (len:Int))):=id rfl
theorem EH{T:kkQ->Prop}{k:kkQ}{u:PU k}(h:T k):rh T k u:=h
theorem cdz{h:Hp}{f:FuncId}{v:V}{k:kkQ}{u:PU k}(hs:AT h args=some (ds,h'))(hc:C f ds v)(hk:k v (if cj v then h else h')):rh (cal C h (.fn f [] []) args) k u:=
 uV hs hc hk
section
variable{α:Type}{f:α->D}{o:List α}{h:Hp}{s e n:Nat}{ex fr:Bool}
theorem ixB(hs:h[s]?=some (e,.data 1 (o.map f) ex fr))(hn:o.length=n){i:Nat}(hi:i<n)(k:IntKind):ixV h 1 (.ref s e 0 n n n) (.d (.int k (i:Int)))=some (.ptr s e i n):=by simp only[ixV,aj,hs,if_true];rw[if_pos ⟨by simp[hn],aa,aa⟩];simp
theorem ldB(d:α)(hs:h[s]?=some (e,.data 1 (o.map f) ex fr))(hn:o.length=n){i:Nat}(hi:i<n):ld1 h (.ptr s e i n)=some (.d (f (nth d o i))):=by have hi':i<o.length:=aa;rw[dM d o i hi'];simp only[ld1,aj,hs,if_true,List.length_map,hn,List.getElem?_map,List.getElem?_eq_getElem hi',Option.map_some]
end
theorem Jy(clr:LnQ)(i:Nat)(x0 x:Nat×Bk)(h0 h:Hp):aL clr i (x0::h0) (x::h)=(if d9 clr i=true then x else(x0.1,.none))::aL clr (i+1) h0 h:=by cases x0;cases x;rfl
theorem Qz(clr:LnQ)(i:Nat)(h:Hp):aL clr i [] h=h:=by cases h<;>rfl
theorem FK(clr:LnQ)(i:Nat)(x:Nat×Bk)(h:Hp):jF clr i (x::h)=((!d9 clr i||offB clr x.2)&&jF clr (i+1) h):=by cases x;rfl
theorem Io(clr:LnQ)(a:Acc)(L:Nat)(c:LdQ)(h:d9 clr a.s=true):E4 clr (a.v L c)=true:=by
 cases L with
 |zero=>rfl
 |succ n=>exact h
theorem Du(clr:LnQ)(a:Acc)(L:Nat)(c:LdQ)(h:offB clr a.b0=true):offB clr (a.b L c).2=true:=by
 cases L with
 |zero=>exact h
 |succ n=>rfl
theorem Im(clr:LnQ)(x:D):E4 clr (.d x)=true:=rfl
theorem MZ(s:Nat):d9 [] s=true:=rfl
theorem Jz(t:Nat)(l:LnQ)(s:Nat):d9 (t::l) s=(!(Nat.beq t s)&&d9 l s):=rfl
theorem beq_lit(a b:Nat):Nat.beq a b=decide (a=b):=by
 by_cases h:a=b
 .subst h;simp[Za]
 .rw[decide_eq_false h];cases hb:Nat.beq a b with
  |false=>rfl
  |true=>exact absurd (Z2 hb) h
@[simp]theorem Ax(n:Nat):V.d (i9 n)=I n:=id rfl
@[simp]theorem Al(l:LnQ)(h:Hp)(hl:j<l.length):ld1 h (.dptr (l.map i9) j)=some (I ((nth 0 l j:Nat):Int)):=jO i9 0 l h hl
@[simp]theorem zy(l:LnQ)(h:Hp)(hl:j<l.length):ld1 h (.dptr (l.map u32) j)=some (.d (.int .u32 ((nth 0 l j:Nat):Int))):=jO u32 0 l h hl
@[simp]theorem As(n:Nat):V.d (u32 n)=.d (.int .u32 n):=id rfl
theorem K5{n by_:Nat}{h:Hp}{cells:LdQ}{z:LdQ}(hn:0<n){l:Nat}(hl:0<l)(hc:cells.length=l*n)(hb:l*by_<=140737488355328){q:kkQ}{u:PU q}
  (hq:q (.ref (h.length+1) 1 0 l l cells.length) (h++[(1,.data n [] true false),(1,.data n cells false false)])) :
  rh (apV false (h.length+1) n by_ (.ref (h.length+0) 1 0 0 0 0) (.d (.sl l cells)) (h++[(1,.data n [] true false),nnQ])) q u:=by
 unfold rh apV;simp only[cellsOf];rw[if_pos hc];unfold apC;rw[if_neg aa];have hg:aj (h++[(1,Bk.data n [] true false),nnQ]) (h.length+0) 1=.data n [] true false:=by simp[aj]
 simp only[hg];rw[if_pos ⟨trivial,rfl,Z5 _,mR,hc⟩,if_neg aa,if_pos (by simpa using hb)];simp only[if_true,new];have hs:(h++[(1,Bk.data n [] true false),nnQ])[h.length+1]?=some nnQ:=mR;simp only[hs];simpa using hq
@[simp] theorem wK {α:Type}(f:α->D){l:List α}(h:Hp)(hl:0<l.length)(k:V->Prop)(u:PU k):rn (oA h .eql (lst f l) (.d nPQ)) k u=k (.d (.bool false)):=by
 cases l with
 |nil=>simp at hl
 |cons x l=>exact rfl
end Go.Vm
namespace Go.Proofs
open Go.Shelf
def Tryz.laysPu14_ren:Go.Shelf.Ren:=⟨fun|14=>163|16=>160|17=>110|19=>177|20=>178|21=>135|22=>136|23=>137|24=>138|25=>161|27=>92|26=>162|28=>108|29=>133|30=>156|31=>157|32=>158|33=>159|35=>173|34=>172|36=>174|37=>175|38=>176|39=>184|40=>185|n=>n,fun|9=>9|3=>3|22=>180|24=>161|25=>230|4=>4|34=>202|5=>5|36=>232|37=>178|0=>0|39=>205|21=>21|44=>235|47=>252|50=>255|48=>253|2=>2|52=>225|55=>228|59=>246|60=>247|20=>20|61=>248|65=>259|66=>260|67=>261|n=>n,fun|0=>0|1=>1|2=>2|3=>3|4=>4|n=>n⟩
theorem Tryz.laysPu14:Go.Proofs.LaysPu.n14 Tryz.prog Tryz.laysPu14_ren:={
 mixed:=AG
 f14:=Tryz.func163.trans (congrArg some AG)
 f16:=Tryz.func160.trans (congrArg some AG)
 f17:=Tryz.func110.trans (congrArg some AG)
 f19:=Tryz.func177.trans (congrArg some AG)
 f20:=Tryz.func178.trans (congrArg some AG)
 f21:=Tryz.func135.trans (congrArg some AG)
 f22:=Tryz.func136.trans (congrArg some AG)
 f23:=Tryz.func137.trans (congrArg some AG)
 f24:=Tryz.func138.trans (congrArg some AG)
 f25:=Tryz.func161.trans (congrArg some AG)
 f26:=Tryz.func162.trans (congrArg some AG)
 f27:=Tryz.func92.trans (congrArg some AG)
 f28:=Tryz.func108.trans (congrArg some AG)
 f29:=Tryz.func133.trans (congrArg some AG)
 f30:=Tryz.func156.trans (congrArg some AG)
 f31:=Tryz.func157.trans (congrArg some AG)
 f32:=Tryz.func158.trans (congrArg some AG)
 f33:=Tryz.func159.trans (congrArg some AG)
 f34:=Tryz.func172.trans (congrArg some AG)
 f35:=Tryz.func173.trans (congrArg some AG)
 f36:=Tryz.func174.trans (congrArg some AG)
 f37:=Tryz.func175.trans (congrArg some AG)
 f38:=Tryz.func176.trans (congrArg some AG)
 f39:=Tryz.func184.trans (congrArg some AG)
 f40:=Tryz.func185.trans (congrArg some AG)
 t0:=Tryz.underlying0
 a0:=Tryz.isAgg0
 z0:=Tryz.sizeOf0
 v0:=Tryz.zeroValue0
 i0:=AG
 t2:=Tryz.underlying2
 a2:=Tryz.isAgg2
 z2:=Tryz.sizeOf2
 v2:=Tryz.zeroValue2
 i2:=AG
 t3:=Tryz.underlying3
 a3:=Tryz.isAgg3
 z3:=Tryz.sizeOf3
 v3:=Tryz.zeroValue3
 i3:=AG
 t4:=Tryz.underlying4
 a4:=Tryz.isAgg4
 z4:=Tryz.sizeOf4
 v4:=Tryz.zeroValue4
 i4:=AG
 t5:=Tryz.underlying5
 a5:=Tryz.isAgg5
 z5:=Tryz.sizeOf5
 v5:=Tryz.zeroValue5
 i5:=AG
 t9:=Tryz.underlying9
 a9:=Tryz.isAgg9
 z9:=Tryz.sizeOf9
 v9:=Tryz.zeroValue9
 i9:=AG
 t20:=Tryz.underlying20
 a20:=Tryz.isAgg20
 z20:=Tryz.sizeOf20
 v20:=Tryz.zeroValue20
 i20:=AG
 t21:=Tryz.underlying21
 a21:=Tryz.isAgg21
 z21:=Tryz.sizeOf21
 v21:=Tryz.zeroValue21
 i21:=AG
 t22:=Tryz.underlying180
 a22:=Tryz.isAgg180
 z22:=Tryz.sizeOf180
 v22:=Tryz.zeroValue180
 i22:=AG
 t24:=Tryz.underlying161
 a24:=Tryz.isAgg161
 z24:=Tryz.sizeOf161
 v24:=Tryz.zeroValue161
 i24:=AG
 t25:=Tryz.underlying230
 a25:=Tryz.isAgg230
 z25:=Tryz.sizeOf230
 v25:=Tryz.zeroValue230
 i25:=AG
 t34:=Tryz.underlying202
 a34:=Tryz.isAgg202
 z34:=Tryz.sizeOf202
 v34:=Tryz.zeroValue202
 i34:=AG
 c34:=AG
 t36:=Tryz.underlying232
 a36:=Tryz.isAgg232
 z36:=Tryz.sizeOf232
 v36:=Tryz.zeroValue232
 i36:=AG
 t37:=Tryz.underlying178
 a37:=Tryz.isAgg178
 z37:=Tryz.sizeOf178
 v37:=Tryz.zeroValue178
 i37:=AG
 t39:=Tryz.underlying205
 a39:=Tryz.isAgg205
 z39:=Tryz.sizeOf205
 v39:=Tryz.zeroValue205
 i39:=AG
 t44:=Tryz.underlying235
 a44:=Tryz.isAgg235
 z44:=Tryz.sizeOf235
 v44:=Tryz.zeroValue235
 i44:=AG
 t47:=Tryz.underlying252
 a47:=Tryz.isAgg252
 z47:=Tryz.sizeOf252
 v47:=Tryz.zeroValue252
 i47:=AG
 t48:=Tryz.underlying253
 a48:=Tryz.isAgg253
 z48:=Tryz.sizeOf253
 v48:=Tryz.zeroValue253
 i48:=AG
 t50:=Tryz.underlying255
 a50:=Tryz.isAgg255
 z50:=Tryz.sizeOf255
 v50:=Tryz.zeroValue255
 i50:=AG
 t52:=Tryz.underlying225
 a52:=Tryz.isAgg225
 z52:=Tryz.sizeOf225
 v52:=Tryz.zeroValue225
 i52:=AG
 t55:=Tryz.underlying228
 a55:=Tryz.isAgg228
 z55:=Tryz.sizeOf228
 v55:=Tryz.zeroValue228
 i55:=AG
 t59:=Tryz.underlying246
 a59:=Tryz.isAgg246
 z59:=Tryz.sizeOf246
 v59:=Tryz.zeroValue246
 i59:=AG
 t60:=Tryz.underlying247
 a60:=Tryz.isAgg247
 z60:=Tryz.sizeOf247
 v60:=Tryz.zeroValue247
 i60:=AG
 t61:=Tryz.underlying248
 a61:=Tryz.isAgg248
 z61:=Tryz.sizeOf248
 t65:=Tryz.underlying259
 a65:=Tryz.isAgg259
 z65:=Tryz.sizeOf259
 v65:=Tryz.zeroValue259
 i65:=AG
 t66:=Tryz.underlying260
 a66:=Tryz.isAgg260
 z66:=Tryz.sizeOf260
 v66:=Tryz.zeroValue260
 i66:=AG
 t67:=Tryz.underlying261
 a67:=Tryz.isAgg261
 z67:=Tryz.sizeOf261
 v67:=Tryz.zeroValue261
 i67:=AG
 g0:=AG
 m0:=AG
 g1:=AG
 m1:=AG
 g2:=AG
 m2:=AG
 g3:=AG
 m3:=AG
 g4:=AG
 m4:=by kernel_rfl}
def Tryz.laysC174_ren:Go.Shelf.Ren:=⟨fun|174=>179|247=>134|245=>110|287=>160|279=>135|280=>136|281=>137|282=>138|321=>177|322=>178|316=>161|171=>92|205=>162|243=>108|246=>133|283=>156|284=>157|285=>158|286=>159|129=>173|317=>172|318=>174|319=>175|320=>176|337=>184|338=>185|n=>n,fun|9=>9|3=>3|2=>2|75=>161|85=>203|4=>4|167=>202|5=>5|53=>180|175=>230|46=>232|168=>205|37=>178|0=>0|210=>235|21=>21|127=>252|145=>255|143=>253|171=>225|173=>228|212=>246|51=>247|20=>20|213=>248|232=>259|233=>260|80=>261|n=>n,fun|15=>0|16=>1|17=>2|18=>3|19=>4|n=>n⟩
theorem Tryz.laysC174:Go.Proofs.LaysC.n174 Tryz.prog Tryz.laysC174_ren:={
 mixed:=AG
 f129:=Tryz.func173.trans (congrArg some AG)
 f171:=Tryz.func92.trans (congrArg some AG)
 f174:=Tryz.func179.trans (congrArg some AG)
 f205:=Tryz.func162.trans (congrArg some AG)
 f243:=Tryz.func108.trans (congrArg some AG)
 f245:=Tryz.func110.trans (congrArg some AG)
 f246:=Tryz.func133.trans (congrArg some AG)
 f247:=Tryz.func134.trans (congrArg some AG)
 f279:=Tryz.func135.trans (congrArg some AG)
 f280:=Tryz.func136.trans (congrArg some AG)
 f281:=Tryz.func137.trans (congrArg some AG)
 f282:=Tryz.func138.trans (congrArg some AG)
 f283:=Tryz.func156.trans (congrArg some AG)
 f284:=Tryz.func157.trans (congrArg some AG)
 f285:=Tryz.func158.trans (congrArg some AG)
 f286:=Tryz.func159.trans (congrArg some AG)
 f287:=Tryz.func160.trans (congrArg some AG)
 f316:=Tryz.func161.trans (congrArg some AG)
 f317:=Tryz.func172.trans (congrArg some AG)
 f318:=Tryz.func174.trans (congrArg some AG)
 f319:=Tryz.func175.trans (congrArg some AG)
 f320:=Tryz.func176.trans (congrArg some AG)
 f321:=Tryz.func177.trans (congrArg some AG)
 f322:=Tryz.func178.trans (congrArg some AG)
 f337:=Tryz.func184.trans (congrArg some AG)
 f338:=Tryz.func185.trans (congrArg some AG)
 t0:=Tryz.underlying0
 a0:=Tryz.isAgg0
 z0:=Tryz.sizeOf0
 v0:=Tryz.zeroValue0
 t2:=Tryz.underlying2
 a2:=Tryz.isAgg2
 z2:=Tryz.sizeOf2
 v2:=Tryz.zeroValue2
 t3:=Tryz.underlying3
 a3:=Tryz.isAgg3
 z3:=Tryz.sizeOf3
 v3:=Tryz.zeroValue3
 t4:=Tryz.underlying4
 a4:=Tryz.isAgg4
 z4:=Tryz.sizeOf4
 v4:=Tryz.zeroValue4
 t5:=Tryz.underlying5
 a5:=Tryz.isAgg5
 z5:=Tryz.sizeOf5
 v5:=Tryz.zeroValue5
 t9:=Tryz.underlying9
 a9:=Tryz.isAgg9
 z9:=Tryz.sizeOf9
 v9:=Tryz.zeroValue9
 t20:=Tryz.underlying20
 a20:=Tryz.isAgg20
 z20:=Tryz.sizeOf20
 v20:=Tryz.zeroValue20
 t21:=Tryz.underlying21
 a21:=Tryz.isAgg21
 z21:=Tryz.sizeOf21
 v21:=Tryz.zeroValue21
 t37:=Tryz.underlying178
 a37:=Tryz.isAgg178
 z37:=Tryz.sizeOf178
 v37:=Tryz.zeroValue178
 t46:=Tryz.underlying232
 a46:=Tryz.isAgg232
 z46:=Tryz.sizeOf232
 v46:=Tryz.zeroValue232
 t51:=Tryz.underlying247
 a51:=Tryz.isAgg247
 z51:=Tryz.sizeOf247
 v51:=Tryz.zeroValue247
 t53:=Tryz.underlying180
 a53:=Tryz.isAgg180
 z53:=Tryz.sizeOf180
 v53:=Tryz.zeroValue180
 t75:=Tryz.underlying161
 a75:=Tryz.isAgg161
 z75:=Tryz.sizeOf161
 v75:=Tryz.zeroValue161
 t85:=Tryz.underlying203
 a85:=Tryz.isAgg203
 z85:=Tryz.sizeOf203
 v85:=Tryz.zeroValue203
 t127:=Tryz.underlying252
 a127:=Tryz.isAgg252
 z127:=Tryz.sizeOf252
 v127:=Tryz.zeroValue252
 t143:=Tryz.underlying253
 a143:=Tryz.isAgg253
 z143:=Tryz.sizeOf253
 v143:=Tryz.zeroValue253
 t145:=Tryz.underlying255
 a145:=Tryz.isAgg255
 z145:=Tryz.sizeOf255
 v145:=Tryz.zeroValue255
 t167:=Tryz.underlying202
 a167:=Tryz.isAgg202
 z167:=Tryz.sizeOf202
 v167:=Tryz.zeroValue202
 t168:=Tryz.underlying205
 a168:=Tryz.isAgg205
 z168:=Tryz.sizeOf205
 v168:=Tryz.zeroValue205
 t171:=Tryz.underlying225
 a171:=Tryz.isAgg225
 z171:=Tryz.sizeOf225
 v171:=Tryz.zeroValue225
 t173:=Tryz.underlying228
 a173:=Tryz.isAgg228
 z173:=Tryz.sizeOf228
 v173:=Tryz.zeroValue228
 t175:=Tryz.underlying230
 a175:=Tryz.isAgg230
 z175:=Tryz.sizeOf230
 v175:=Tryz.zeroValue230
 t210:=Tryz.underlying235
 a210:=Tryz.isAgg235
 z210:=Tryz.sizeOf235
 v210:=Tryz.zeroValue235
 t212:=Tryz.underlying246
 a212:=Tryz.isAgg246
 z212:=Tryz.sizeOf246
 v212:=Tryz.zeroValue246
 t213:=Tryz.underlying248
 a213:=Tryz.isAgg248
 z213:=Tryz.sizeOf248
 t232:=Tryz.underlying259
 a232:=Tryz.isAgg259
 z232:=Tryz.sizeOf259
 v232:=Tryz.zeroValue259
 t233:=Tryz.underlying260
 a233:=Tryz.isAgg260
 z233:=Tryz.sizeOf260
 v233:=Tryz.zeroValue260
 g15:=AG
 g16:=AG
 g17:=AG
 g18:=AG
 g19:=AG
 t80:=Tryz.underlying261
 a80:=Tryz.isAgg261
 z80:=Tryz.sizeOf261
 v80:=Tryz.zeroValue261
 i0:=AG
 i2:=AG
 i3:=AG
 i4:=AG
 i5:=AG
 i9:=AG
 i20:=AG
 i21:=AG
 i37:=AG
 i46:=AG
 i51:=AG
 i53:=AG
 i75:=AG
 i80:=AG
 i85:=AG
 i127:=AG
 i143:=AG
 i145:=AG
 i167:=AG
 i168:=AG
 i171:=AG
 i173:=AG
 i175:=AG
 i210:=AG
 i212:=AG
 i232:=AG
 i233:=AG
 m15:=AG
 m16:=AG
 m17:=AG
 m18:=AG
 m19:=AG
 c0:=AG
 c2:=AG
 c3:=AG
 c4:=AG
 c5:=AG
 c9:=AG
 c20:=AG
 c21:=AG
 c37:=AG
 c46:=AG
 c51:=AG
 c53:=AG
 c75:=AG
 c80:=AG
 c85:=AG
 c127:=AG
 c143:=AG
 c145:=AG
 c167:=AG
 c168:=AG
 c171:=AG
 c173:=AG
 c175:=AG
 c210:=AG
 c212:=AG
 c213:=AG
 c232:=AG
 c233:=by kernel_rfl}
end Go.Proofs
namespace Go.Vm
open Go Go.Am
variable{l:LuQ}
theorem nH:∀(l:LuQ)(a:Nat),a<=de a l
 |[],a=>Z5 _
 | c::l,a=>by
  have h:a*10+(c.toNat-48)<=de (a*10+(c.toNat-48)) l:=nH l _;have e:de a (c::l)=de (a*10+(c.toNat-48)) l:=rfl;generalize de a (c::l)=y at *;generalize de (a*10+(c.toNat-48)) l=z at *;generalize c.toNat-48=d at *;omega
theorem HJ:∀(l:LuQ)(a:Nat),l.all dP=true->de a l<10000000000000000000->Lib.parseUintM (2^64-1) a l=.ok (de a l)
 |[],a,_,_=>rfl
 | c::l,a,h,hd=>by
  simp only[List.all_cons,Z7,dP,Nat.ble_eq]at h;have e:de a (c::l)=de (a*10+(c.toNat-48)) l:=rfl;rw[e]at hd ⊢;have hge:=nH l (a*10+(c.toNat-48));rw[Lib.parseUintM,if_pos h.1,if_neg aa,if_neg aa];exact HJ l _ h.2 hd
theorem frz(w:World)(e:TypeId)(s:ByteArray):w.heap.size<=(Lib.bytesWorld w e s).heap.size∧(∀c,c<w.heap.size->(Lib.bytesWorld w e s).heap[c]?=w.heap[c]?)∧(Lib.bytesWorld w e s).os=w.os∧(Lib.bytesWorld w e s).output=w.output:=
 ⟨by rw[Lib.bytesWorld_size];omega,fun c hc=>Lib.bytesWorld_at_old w e s c hc,rfl,rfl⟩
theorem qR{c:UInt8}(h:dP c=true):¬c.toNat=43∧¬c.toNat=45:=by simp only[dP,Z7,Nat.ble_eq]at h;omega
theorem ot(hne:l≠[])(hall:l.all dP=true)(hlt:de 0 l<9223372036854775808):Lib.parseIntB 64 l=.ok (de 0 l:Int):=by
 cases l with
 |nil=>exact absurd rfl hne
 | cons c r=>
  have hc:=qR (Z3.1 hall c mR)
  have hp:Lib.parseUintB 64 (c::r)=.ok (de 0 (c::r)):=by
   rw[Lib.parseUintB,if_neg hne];exact HJ _ _ hall aa
  unfold Lib.parseIntB;simp only[hc.1,hc.2,or_self,if_false,hp];rw[if_neg bW,if_neg mR]
theorem WY(hne:l≠[])(hall:l.all dP=true)(hlt:de 0 l<9223372036854775808):Lib.parseIntB 64 (45::l)=.ok (-(de 0 l:Int)):=by
 have hp:Lib.parseUintB 64 l=.ok (de 0 l):=by
  rw[Lib.parseUintB,if_neg hne];exact HJ _ _ hall aa
 have h45:(45:UInt8).toNat=45:=rfl;unfold Lib.parseIntB;simp only[h45,or_true,if_true,hp];rw[if_neg mR,if_neg bW]
theorem wy:tL X:=by
 intro f args v h;simp only[X]at h;split at h
 .rename_i hf;obtain rfl:=Z2 hf;unfold tz at h;split at h
  .rename_i s a b;split at h
   .rename_i hc;obtain⟨rfl,rfl,hne,hall,hsz,hlt⟩:=hc;obtain rfl:=Option.some.inj h;refine⟨rfl,rfl,.inr ⟨⟨_,Go.Proofs.Tryz.func163,AG,AG⟩,fun w=>?_⟩⟩
    have hp:Lib.parseUintB 64 s.data.toList=.ok (de 0 s.data.toList):=by
     rw[Lib.parseUintB,if_neg hne];exact HJ _ _ hall hlt
    have hsz2:s.size=s.data.toList.length:=by rw[Array.length_toList];rfl
    have hmax:s.size≤9223372036854775806:=aa;refine(Go.Proofs.Any.strconv_ParseUint_10_at64_ok Go.Proofs.Tryz.laysPu14 s hmax _ hp w).mono ?_;rintro e w' ⟨rfl,rfl|rfl⟩
    .exact⟨rfl,Z5 _,fun _ _=>rfl,rfl,rfl⟩
    .exact⟨rfl,frz w _ s⟩
   .cases h
  .cases h
 .split at h
  .rename_i hf;obtain rfl:=Z2 hf
   have key:∀(s:ByteArray)(z:Int),s.data.toList.length≤1001→Lib.parseIntB 64 s.data.toList=.ok z→v=.tuple #[.int .i64 z,.nilIface]→args=[.string s,.int .i64 10,.int .i64 64] →
     Et args=true∧plain v=true∧(mQ X F.bV args v∨(∃fn,Go.Proofs.Tryz.prog.funcs[F.bV]?=some fn∧fn.body.isNone=false∧(fn.name == "runtime.NumGoroutine")=false) ∧
     ∀w,Calls Go.Proofs.Tryz.prog F.bV args.toArray w fun e w'=>e=.returned v∧w.heap.size≤w'.heap.size∧(∀c,c<w.heap.size→w'.heap[c]?=w.heap[c]?)∧w'.os=w.os∧w'.output=w.output):=by
    intro s z hl hp hv ha;subst hv;subst ha;refine⟨rfl,rfl,.inr ⟨⟨_,Go.Proofs.Tryz.func179,AG,AG⟩,fun w=>?_⟩⟩;have hsz2:s.size=s.data.toList.length:=by rw[Array.length_toList];rfl
    refine(Go.Proofs.Any.strconv_ParseInt_10_at64_ok Go.Proofs.Tryz.laysC174 s aa z hp w).mono ?_;rintro e w' ⟨rfl,rfl|⟨t,rfl⟩⟩
    .exact⟨rfl,Z5 _,fun _ _=>rfl,rfl,rfl⟩
    .exact⟨rfl,frz w _ t⟩
   unfold tA at h;split at h
   .rename_i s a b;split at h
    .rename_i hab;obtain⟨rfl,rfl⟩:=hab;split at h
     .rename_i l hs;split at h
      .rename_i hc;obtain⟨hne,hall,hsz,hlt⟩:=hc;obtain rfl:=Option.some.inj h;exact key s _ (by rw[hs];simp;omega) (by rw[hs];exact WY hne hall hlt) rfl rfl
      .cases h
     .rename_i l hs;split at h
      .rename_i hc;obtain⟨hne,hall,hsz,hlt⟩:=hc;obtain rfl:=Option.some.inj h;exact key s _ aa (ot hne hall hlt) rfl rfl
      .cases h
    .cases h
   .cases h
  .cases h
end Go.Vm
namespace Go.Proofs
open Go.RowKit Go.Shelf
attribute [local go_sem] Oper.semAt_some
def u9(W:World)(B o k c s:Nat):Prop:=∃(a:Option Addr)(cap:Nat),W.cell? ⟨B,o,none⟩=some (.slice a k cap)∧(0<k->a=some ⟨c,s,none⟩)
def adl(W:World)(B o B2 o2 k c s c2 s2:Nat)(us vs:LvQ):Prop:=
 u9 W B o k c s∧u9 W B2 o2 k c2 s2∧(∀(i:Nat) v,us[i]?=some v->W.cell? ⟨c,s+i,none⟩=some v)∧∀(i:Nat) v,vs[i]?=some v->W.cell? ⟨c2,s2+i,none⟩=some v
set_option maxRecDepth 100000 in
set_option maxHeartbeats 2000000 in
theorem adj(l B o k c s c2 s2:Nat)(us vs:LvQ)(hu:us.length=k)(hv:vs.length=k)(hk:k<4611686018427387904)(J Jx:Nat->World->Prop)
  (hV:∀i W1,J i W1->adl W1 B o B (o+1) k c s c2 s2 us vs)
  (hY:∀(i:Nat) x y W1,J i W1->us[i]?=some x->vs[i]?=some y->YieldAt (Go.Am.Fw none) 0 Tryz.prog l #[x,y] W1 fun e W'=>(e=.returned (.bool true)∧J (i+1) W')∨(e=.returned (.bool false)∧Jx (i+1) W'))
  (W:World) (h0:J 0 W) :
  CallsIn (Go.Am.Fw none) 1 Tryz.prog 169 #[.func (.yield l) #[] #[],.pointer (some ⟨B,o,none⟩)] W fun e W'=>(∃v,e=.returned v)∧(J k W'∨∃i,Jx i W'):=by
 refine callsIn_of_wp Tryz.func169 rfl trivial ?_ rfl;simp only[Tryz.ntmps169,List.size_toArray,List.length_cons,List.length_nil,Nat.reduceAdd,Nat.reduceSub,Array.replicate_succ,Array.replicate_zero,List.push_toArray,List.append_toArray,List.nil_append,List.cons_append];obtain⟨⟨a,cap,hc0,ha⟩,_⟩:=hV 0 W h0
 gi_wp2
 gi_loopw [8] (fun i wr=>∃j:Nat,j<=k∧i=.int .i64 j∧J j wr) (fun i _=>k-(intOf i).toNat)
 case atStart=>grind
 case round=>
  obtain⟨j,hj,rfl,hJs⟩:=hrel;by_cases hlt:j<k
  .obtain rfl:=ha aa;have ex:∃x,us[j]?=some x:=⟨_,List.getElem?_eq_getElem aa⟩;have ey:∃y,vs[j]?=some y:=⟨_,List.getElem?_eq_getElem aa⟩;obtain⟨x,hx⟩:=ex;obtain⟨y,hy'⟩:=ey;obtain⟨_,⟨a2,cap2,hc2,ha2⟩,hus,hvs⟩:=hV j wr hJs;obtain rfl:=ha2 aa;have hcx:=hus j x hx;have hcy:=hvs j y hy';obtain⟨fn,tmps,assign,body,hy,hR⟩:=hY j x y wr hJs hx hy'
   clear hx hy' hus hvs
   gi_wp2
   refine hR.mono ?_;rintro e W3 (⟨rfl,hJ3⟩|⟨rfl,hJx3⟩)
   .gi_wp2
    go_roundw
    case rel=>exact⟨j+1,aa,mR,hJ3⟩
    case measure=>simp[intOf];omega
   .gi_wp2
    refine bodyPost_ret (results_none rfl _ _ _) rfl ?_;exact⟨⟨_,rfl⟩,.inr ⟨_,hJx3⟩⟩
  .obtain rfl:j=k:=aa
   gi_wp2
   simp_all[bodyPost_end,results_none]
set_option maxRecDepth 100000 in
set_option maxHeartbeats 2000000 in
theorem ou(l B o B2 o2 k c s c2 s2:Nat)(us vs:LvQ)(hu:us.length=k)(hv:vs.length=k)(hk:k<4611686018427387904)(J Jx:Nat->World->Prop)
  (hV:∀i W1,J i W1->adl W1 B o B2 o2 k c s c2 s2 us vs)
  (hY:∀(i:Nat) x y W1,J i W1->us[i]?=some x->vs[i]?=some y->YieldAt (Go.Am.Fw none) 0 Tryz.prog l #[x,y] W1 fun e W'=>(e=.returned (.bool true)∧J (i+1) W')∨(e=.returned (.bool false)∧Jx (i+1) W'))
  (W:World) (h0:J 0 W) :
  CallsIn (Go.Am.Fw none) 1 Tryz.prog 105 #[.func (.yield l) #[] #[],.pointer (some ⟨B,o,none⟩),.pointer (some ⟨B2,o2,none⟩)] W fun e W'=>(∃v,e=.returned v)∧(J k W'∨∃i,Jx i W'):=by
 refine callsIn_of_wp Tryz.func105 rfl trivial ?_ rfl;simp only[Tryz.ntmps105,List.size_toArray,List.length_cons,List.length_nil,Nat.reduceAdd,Nat.reduceSub,Array.replicate_succ,Array.replicate_zero,List.push_toArray,List.append_toArray,List.nil_append,List.cons_append];obtain⟨⟨a,cap,hc0,ha⟩,_⟩:=hV 0 W h0
 gi_wp2
 gi_loopw [8] (fun i wr=>∃j:Nat,j<=k∧i=.int .i64 j∧J j wr) (fun i _=>k-(intOf i).toNat)
 case atStart=>grind
 case round=>
  obtain⟨j,hj,rfl,hJs⟩:=hrel;by_cases hlt:j<k
  .obtain rfl:=ha aa;have ex:∃x,us[j]?=some x:=⟨_,List.getElem?_eq_getElem aa⟩;have ey:∃y,vs[j]?=some y:=⟨_,List.getElem?_eq_getElem aa⟩;obtain⟨x,hx⟩:=ex;obtain⟨y,hy'⟩:=ey;obtain⟨_,⟨a2,cap2,hc2,ha2⟩,hus,hvs⟩:=hV j wr hJs;obtain rfl:=ha2 aa;have hcx:=hus j x hx;have hcy:=hvs j y hy';obtain⟨fn,tmps,assign,body,hy,hR⟩:=hY j x y wr hJs hx hy'
   clear hx hy' hus hvs
   gi_wp2
   refine hR.mono ?_;rintro e W3 (⟨rfl,hJ3⟩|⟨rfl,hJx3⟩)
   .gi_wp2
    go_roundw
    case rel=>exact⟨j+1,aa,mR,hJ3⟩
    case measure=>simp[intOf];omega
   .gi_wp2
    refine bodyPost_ret (results_none rfl _ _ _) rfl ?_;exact⟨⟨_,rfl⟩,.inr ⟨_,hJx3⟩⟩
  .obtain rfl:j=k:=aa
   gi_wp2
   simp_all[bodyPost_end,results_none]
end Go.Proofs
namespace Go.Vm
open Go Go.Am Go.Proofs
noncomputable section
variable{f:FuncId}{p q v a b:Value}{xs:List LvQ}
theorem jt{P:Program}{args:Array Value}{w:World}{R:Ending->World->Prop}(h:CallsIn (Fw none) 1 P f args w R):CallsIn (Fw none) 0 P f args w R:=
 ⟨h.1,fun cs _=>h.2 cs (fun d hd=>by trivial)⟩
def hd1(x:LvQ):Value:=x.headD default
def sd1(x:LvQ):Value:=x.tail.headD default
theorem zip_map:∀(us vs:LvQ),us.length=vs.length->(((us.zip vs).map fun x=>[x.1,x.2]).map hd1)=us∧(((us.zip vs).map fun x=>[x.1,x.2]).map sd1)=vs
 |[],[],_=>⟨rfl,rfl⟩
 | u::us,v::vs,h=>by
  obtain⟨h1,h2⟩:=zip_map us vs (by grind);simp only[List.zip_cons_cons,Z0,h1,h2];trivial
 |[],_::_,h=>by simp at h
 |_::_,[],h=>by simp at h
theorem eU{H:AH}(h:R8 H p q=some xs):FS H 1 p=some (xs.length,xs.map hd1)∧FS H 1 q=some (xs.length,xs.map sd1)∧xs.length<4611686018427387904∧mD p=true∧mD q=true ∧
  ∀x∈xs,x=[hd1 x,sd1 x]∧plain (hd1 x)=true∧plain (sd1 x)=true:=by
 unfold R8 at h;split at h
 case h_2=>cases h
 rename_i k us k' vs hp hq;split at h
 case isFalse=>cases h
 rename_i hc;obtain⟨h1,h2,h3,h4,h5,h6,h7⟩:=hc;simp only[Z9]at h;subst h;obtain⟨m1,m2⟩:=zip_map us vs aa;have hl:((us.zip vs).map fun x=>[x.1,x.2]).length=k:=by simp;omega
 rw[m1,m2,hl];simp only[Z7]at h5;refine⟨hp,by rw[hq,h1],h4,h5.1,h5.2,fun x hx=>?_⟩;obtain⟨⟨a,b⟩,hab,rfl⟩:=Zi.1 hx;have:=List.of_mem_zip hab;have e1:=Z3.1 h6 a this.1;have e2:=Z3.1 h7 b this.2;simp only[Z7]at e1 e2;exact⟨rfl,e1.1,e2.1⟩
theorem N9{X:Cfg}{φ:au}(hp:mD p=true)(hv:ag φ p v):∃c s:Nat,∀(φ':au)(H':AH)(w':World)(k:Nat)(us:LvQ),ak X φ' H' w'->PLe φ φ'->FS H' 1 p=some (k,us)->us.length=k->(∀u∈us,plain u=true) ->
  ∀B o v',w'.cell? ⟨B,o,none⟩=some v'->ag φ' p v'->u9 w' B o k c s∧∀(i:Nat) u,us[i]?=some u->w'.cell? ⟨c,s+i,none⟩=some u:=by
 cases p<;>simp only[mD]at hp<;>try cases hp
 rename_i a n cap;cases a with
 | none=>
  refine⟨0,0,fun φ' H' w' k us hh _ hs hk _ B o v' hc hv'=>?_⟩;have e:=aT hv';subst e;cases n with
  | zero=>
   simp only[FS,Z9,Z8]at hs;obtain⟨rfl,rfl⟩:=hs;exact⟨⟨none,cap,hc,fun h=>absurd h aa⟩,fun i u hi=>by simp at hi⟩
  |succ n=>trivial
 | some a=>
  obtain⟨a',c',rfl,hs⟩:=aU hv
  have hpl:a.spot=none∧∃pl,φ a.block=some pl:=by
   rcases hs with⟨h1,_,pl,hp,_⟩|⟨h1,_,_,_,pl,hp⟩
   .grind
   .grind
  obtain⟨hsp,pl,hpl⟩:=hpl;obtain⟨b,off,sp⟩:=a;simp only at hsp hpl;subst hsp;refine⟨pl.c,pl.s+off,fun φ' H' w' k us hh hle hs' hk hpl' B o v' hc hv'=>?_⟩;obtain⟨⟨b2,o2,s2⟩,c2,rfl,hs2⟩:=aU hv';have hpb:=hle _ _ hpl;simp only[FS]at hs';split at hs'
  .rename_i hn;simp only[Z9,Z8]at hs';obtain⟨rfl,rfl⟩:=hs';subst hn;exact⟨⟨_,c2,hc,fun h=>absurd h aa⟩,fun i u hi=>by simp at hi⟩
  .rename_i hn;simp only[X9,Z6,Z8]at hs';obtain⟨cs,hr,rfl,rfl⟩:=hs';obtain⟨cs',r1,r2,r3,r4⟩:=hh.read hr hpb
   have hb:b2=pl.c∧o2=pl.s+off∧s2=none:=by
    rcases hs2 with⟨_,h2,pl2,hp2,h3,h4,_⟩|⟨_,h0,_⟩
    .grind
    .omega
   obtain⟨rfl,rfl,rfl⟩:=hb;refine⟨⟨_,c2,hc,fun _=>rfl⟩,fun i u hi=>?_⟩
   grind[af.at,FO,ag.of_plain]
theorem jc{x:LvQ}(h:x=[hd1 x,sd1 x]∧plain (hd1 x)=true∧plain (sd1 x)=true):Et x=true:=by grind[Et]
theorem YL(hpl:∀x∈xs,x=[hd1 x,sd1 x]∧plain (hd1 x)=true∧plain (sd1 x)=true){i:Nat}(ha:(xs.map hd1)[i]?=some a)(hb:(xs.map sd1)[i]?=some b):xs[i]?=some [a,b]:=by grind
theorem qD {fn:Func}(h:Tryz.prog.funcs[f]?=some fn)(hb:fn.body.isNone=false)(hn:(fn.name == "runtime.NumGoroutine")=false):∃fn,X.P.funcs[f]?=some fn∧fn.body.isNone=false∧(fn.name == "runtime.NumGoroutine")=false:=⟨fn,h,hb,hn⟩
set_option maxRecDepth 100000 in
theorem uK:∃fn,X.P.funcs[169]?=some fn∧fn.body.isNone=false∧(fn.name == "runtime.NumGoroutine")=false:=qD Tryz.func169 rfl (by rfl)
set_option maxRecDepth 100000 in
theorem qE:∃fn,X.P.funcs[105]?=some fn∧fn.body.isNone=false∧(fn.name == "runtime.NumGoroutine")=false:=qD Tryz.func105 rfl (by rfl)
theorem afd:nO X:=by
 intro gf lb H xs h0;have h:gT gf lb H=some xs:=h0;clear h0;unfold gT at h;split at h
 .rename_i hg;have hg:gf=169:=Z2 hg;subst hg;split at h
  case h_2=>cases h
  rename_i b o;split at h
  case h_2=>cases h
  rename_i p q d hrd;obtain⟨s1,s2,s3,s4,s5,hpl⟩:=eU h;refine⟨fun x hx=>jc (hpl x hx),uK,fun φ w lb' hh hl=>?_⟩;simp only[af]at hl;obtain⟨v',r,rfl,hv',rfl⟩:=hl;obtain⟨pl,hpb,rfl⟩:=cQ hv';obtain⟨cs',r1,r2,r3,r4⟩:=hh.read hrd hpb;simp only[af]at r1;obtain⟨p',_,rfl,hp',q',_,rfl,hq',d',_,rfl,hd',rfl⟩:=r1;obtain⟨c,s,base⟩:=N9 (X:=X) s4 hp'
  obtain⟨c2,s2',nM⟩:=N9 (X:=X) s5 hq';refine⟨fun W=>adl W pl.c (pl.s+o) pl.c (pl.s+o+1) xs.length c s c2 s2' (xs.map hd1) (xs.map sd1),fun φ' H' w' hh' hle hl' hs hk=>?_,fun l J Jx W hV hY h0=>?_⟩
  .have hk:(am H' b o 3).getD []=(am H b o 3).getD []:=hk;have hs:gT 169 [.pointer (some ⟨b,o,none⟩)] H'=some xs:=hs;rw[hrd]at hk
   have hrd':am H' b o 3=some [p,q,d]:=by
    cases hr:am H' b o 3 with
    |none=>grind
    |some cs=>grind
   have hz:R8 H' p q=some xs:=by
    unfold gT at hs;rw[show Nat.beq 169 F.bN=true from rfl]at hs;simp only[hrd']at hs;exact hs
   obtain⟨t1,t2,_⟩:=eU hz;obtain⟨ds',u1,u2,u3,u4⟩:=hh'.read hrd' (hle _ _ hpb);simp only[af]at u1;obtain⟨p2,_,rfl,hp2,q2,_,rfl,hq2,d2,_,rfl,hd2,rfl⟩:=u1;have k0:=u4 0 p2 rfl;have k1:=u4 1 q2 rfl;rw[FO]at k0 k1;obtain⟨w1,w2⟩:=base φ' H' w' _ _ hh' hle t1 mR (fun u hu=>by grind) _ _ _ k0 hp2
   obtain⟨w3,w4⟩:=nM φ' H' w' _ _ hh' hle t2 mR (fun u hu=>by grind) _ _ _ k1 hq2;trivial
  .exact jt (adj l pl.c (pl.s+o) xs.length c s c2 s2' (xs.map hd1) (xs.map sd1) mR mR s3 J Jx hV (fun i x y W1 hJ hx hy=>hY i [x,y] W1 hJ (YL hpl hx hy)) W h0)
 .split at h
  case h_2=>cases h
  rename_i hg;have hg:gf=105:=Z2 hg;subst hg;split at h
  case h_2=>cases h
  rename_i b o b2 o2;split at h
  case h_2=>cases h
  rename_i p q hrd hrd2;obtain⟨s1,s2,s3,s4,s5,hpl⟩:=eU h;refine⟨fun x hx=>jc (hpl x hx),qE,fun φ w lb' hh hl=>?_⟩;simp only[af]at hl;obtain⟨v',r,rfl,hv',v2',r2',rfl,hv2',rfl⟩:=hl;obtain⟨pl,hpb,rfl⟩:=cQ hv';obtain⟨pl2,hpb2,rfl⟩:=cQ hv2';obtain⟨cs',r1,r2,r3,r4⟩:=hh.read hrd hpb;simp only[af]at r1;obtain⟨p',_,rfl,hp',rfl⟩:=r1
  obtain⟨cs2',e1,e2,e3,e4⟩:=hh.read hrd2 hpb2;simp only[af]at e1;obtain⟨q',_,rfl,hq',rfl⟩:=e1;obtain⟨c,s,base⟩:=N9 (X:=X) s4 hp';obtain⟨c2,s2',nM⟩:=N9 (X:=X) s5 hq';refine⟨fun W=>adl W pl.c (pl.s+o) pl2.c (pl2.s+o2) xs.length c s c2 s2' (xs.map hd1) (xs.map sd1),fun φ' H' w' hh' hle hl' hs hk=>?_,fun l J Jx W hV hY h0=>?_⟩
  .have hk:(am H' b o 1).getD []++(am H' b2 o2 1).getD []=(am H b o 1).getD []++(am H b2 o2 1).getD []:=hk;have hs:gT 105 [.pointer (some ⟨b,o,none⟩),.pointer (some ⟨b2,o2,none⟩)] H'=some xs:=hs;rw[hrd,hrd2]at hk
   have hz:am H' b o 1=some [p]∧am H' b2 o2 1=some [q]∧R8 H' p q=some xs:=by
    unfold gT at hs;rw[show Nat.beq 105 F.bN=false from rfl,show Nat.beq 105 F.FH=true from rfl]at hs;simp only at hs;split at hs
    case h_2=>cases hs
    rename_i p0 q0 g1 g2;rw[g1,g2]at hk;simp only[Option.getD_some,List.cons_append,List.nil_append,List.cons.injEq,and_true]at hk;obtain⟨rfl,rfl⟩:=hk;exact⟨g1,g2,hs⟩
   obtain⟨hrd',hrd2',hz⟩:=hz;obtain⟨t1,t2,_⟩:=eU hz;obtain⟨ds',u1,u2,u3,u4⟩:=hh'.read hrd' (hle _ _ hpb);simp only[af]at u1;obtain⟨p2,_,rfl,hp2,rfl⟩:=u1;obtain⟨ds2',x1,x2,x3,x4⟩:=hh'.read hrd2' (hle _ _ hpb2);simp only[af]at x1;obtain⟨q2,_,rfl,hq2,rfl⟩:=x1;have k0:=u4 0 p2 rfl;have k1:=x4 0 q2 rfl;rw[FO]at k0 k1
   obtain⟨w1,w2⟩:=base φ' H' w' _ _ hh' hle t1 mR (fun u hu=>by grind) _ _ _ k0 hp2;obtain⟨w3,w4⟩:=nM φ' H' w' _ _ hh' hle t2 mR (fun u hu=>by grind) _ _ _ k1 hq2;trivial
  .exact jt (ou l pl.c (pl.s+o) pl2.c (pl2.s+o2) xs.length c s c2 s2' (xs.map hd1) (xs.map sd1) mR mR s3 J Jx hV (fun i x y W1 hJ hx hy=>hY i [x,y] W1 hJ (YL hpl hx hy)) W h0)
end
end Go.Vm
set_option maxRecDepth 100000
namespace Go.Vm
open Go Go.Am
theorem uI:(List.range X.P.funcs.size).all (fun f=>!X.allow f||match X.P.funcs[f]? with
  |some fn=>acv X.P fn&&(match fn.body with|some c=>Ek Y fn.ntmps c|none=>true)
  |none=>true)=true:=dQ
theorem tF{f:FuncId}{fn:Func}(ha:X.allow f=true)(hf:X.P.funcs[f]?=some fn):acv X.P fn=true∧(match fn.body with|some c=>Ek Y fn.ntmps c|none=>true)=true:=by
 have hlt:f<X.P.funcs.size:=by
  rcases Zx f X.P.funcs.size with h|h
  .exact h
  .rw[Array.getElem?_eq_none h]at hf;cases hf
 have:=Z3.1 uI f (Zb.2 hlt);rw[ha,hf]at this;simpa using this
theorem vOk:VOk Y where
 y:=yOk
 fns f fn c ha hf hc:=by have:=(tF ha hf).2;rw[hc]at this;exact this
theorem uo:mP X where
 mixed:=by rfl
 fns f fn ha hf:=(tF ha hf).1
 orc:=wy
 seq:=afd
end Go.Vm
