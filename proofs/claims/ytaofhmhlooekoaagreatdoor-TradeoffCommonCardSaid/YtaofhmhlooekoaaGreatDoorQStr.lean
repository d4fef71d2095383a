/- Lemmas. -/
import Derived.Test.YtaofhmhlooekoaaGreatDoorQT
import Derived.Shelf.Pu.ParseUintPublic10
import Derived.Shelf.Strconv.ParseIntPublic10
import Derived.RangeFuncBox
import Derived.Shelf.Abstract
import Derived.WalkKit
import Derived.OwnWalkIn
import Derived.TacticsInMore
import Derived.LoopIn
import Derived.ProofKit
import Derived.OpenShut
import Derived.Deep.DeepHandedRow
import Derived.Deep.Matrix
import Derived.Lib.LaidTab
import Derived.Test.YtaofhmhlooekoaaGreatDoorTie
import Derived.Test.YtaofhmhlooekoaaGreatDoorCards
set_option linter.unusedVariables false
set_option linter.unusedSimpArgs false
namespace Go.Vm
open Go Go.Am Go.Big
variable{k:IntKind}{T:(LwQ->Hp->Prop)->Prop}{z a i:Int}{xs:List LvQ}{clr:LnQ}{h0 h':Hp}{j L i1 cap:Nat}{ys args ds:LwQ}{cells:LdQ}{C:vJ}
def W:Nat:=4294967296
def u32(n:Nat):D:=.int .u32 n
def nat(n:Nat):V:=lst u32 (dig W n)
def len(n:Nat):Nat:=(dig W n).length
inductive PU{α:Type}(k:α):Type where
 |mk
def rn{α:Type}(T:(α->Prop)->Prop)(k:α->Prop)(u:PU k):Prop:=T k
def rh{α β:Type}(T:(α->β->Prop)->Prop)(k:α->β->Prop)(u:PU k):Prop:=T k
def rl(T:KL->Prop)(k:KL)(u:PU k):Prop:=T k
def br(p A B:Prop)(u:PU A)(w:PU B):Prop:=(p->A)∧(¬p->B)
def jo(k:LwQ->Hp->Prop)(T:(LwQ->Hp->Prop)->Prop)(u:PU k)(w:PU T):Prop:=T k
theorem KT{p A B:Prop}{u:PU A}{w:PU B}(h1:p->A)(h2:¬p->B):br p A B u w:=⟨h1,h2⟩
@[simp]theorem aff(A B:Prop)(u:PU A)(w:PU B):br True A B u w=A:=by simp[br]
@[simp]theorem aeq(A B:Prop)(u:PU A)(w:PU B):br False A B u w=B:=by simp[br]
@[simp]theorem agA{p A B:Prop}{u:PU A}{w:PU B}(h:p):br p A B u w=A:=by simp_all
@[simp]theorem agB{p A B:Prop}{u:PU A}{w:PU B}(h:¬p):br p A B u w=B:=by simp_all
theorem gH{k:LwQ->Hp->Prop}{u:PU k}{w:PU T}{l:LwQ}{h:Hp}(hT:∀q,T q=q l h)(hk:k l h):jo k T u w:=by grind[jo]
theorem aj{k:LwQ->Hp->Prop}{u:PU k}{w:PU T}(h:T k):jo k T u w:=h
@[simp ↓] theorem agC (o:Option V)(k:V->Prop):bnd o k=rn (bnd o) k .mk:=id rfl
@[simp ↓] theorem ags (x:V)(i:Nat)(k:V->Prop):ext x i k=rn (ext x i) k .mk:=id rfl
@[simp ↓] theorem ae0 (h:Hp)(op:BinOp)(x y:V)(k:V->Prop):xi h op x y k=rn (xi h op x y) k .mk:=id rfl
@[simp ↓] theorem agv (b:Bool)(A B:Prop):cnd (.d (.bool b)) A B=br (b=true) A B .mk .mk:=by cases b<;>simp[cnd,br]
@[simp ↓] theorem ae9 (b:Bool)(h:Hp)(T:kkQ->Prop)(k:kkQ):gd (.d (.bool b)) true h T k=br (b=true) (T k) (k (.tup []) h) .mk .mk:=by cases b<;>simp[gd,br]
@[simp ↓] theorem ad0 (b:Bool)(h:Hp)(T:kkQ->Prop)(k:kkQ):gd (.d (.bool b)) false h T k=br (b=false) (T k) (k (.tup []) h) .mk .mk:=by cases b<;>simp[gd,br]
@[simp ↓] theorem adZ (w:Bool)(h:Hp)(T:kkQ->Prop)(k:kkQ):gd (.tup []) w h T k=k (.tup []) h:=id rfl
@[simp ↓] theorem agT (k:LwQ->Hp->Prop)(T:(LwQ->Hp->Prop)->Prop):jn k T=jo k T .mk .mk:=id rfl
@[simp ↓] theorem agx (C:vJ)(h:Hp)(c:V)(args:LwQ)(k:kkQ):cal C h c args k=rh (cal C h c args) k .mk:=id rfl
@[simp ↓] theorem agy (C:oQ)(h:Hp)(c:V)(args:LwQ)(s:Nat)(k:kkQ):cai C h c args s k=rh (cai C h c args s) k .mk:=id rfl
@[simp ↓] theorem afe (C:oQ)(h:Hp)(c:V)(args:LwQ)(s:Nat)(k:kkQ):Aj C h c args s k=rh (Aj C h c args s) k .mk:=id rfl
@[simp ↓] theorem agI (s:Nat)(cs:LwQ)(h:Hp)(k:kkQ):alV s cs h k=rh (alV s cs h) k .mk:=id rfl
@[simp ↓] theorem agJ (s n:Nat)(cs:LdQ)(h:Hp)(k:kkQ):alD s n cs h k=rh (alD s n cs h) k .mk:=id rfl
@[simp ↓] theorem afg (s:Nat)(v:V)(h:Hp)(k:kkQ):eT s v h k=rh (eT s v h) k .mk:=id rfl
@[simp ↓] theorem ae4 (len:Nat)(z:LdQ)(ps:List (Nat×V))(h:Hp)(k:kkQ):dD len z ps h k=rh (dD len z ps h) k .mk:=id rfl
@[simp ↓] theorem ae3 (s len:Nat)(z:LdQ)(ps:List (Nat×V))(h:Hp)(k:kkQ):tC s len z ps h k=rh (tC s len z ps h) k .mk:=id rfl
@[simp ↓] theorem age (s by_:Nat)(z:LdQ)(h:Hp)(l c:V)(k:kkQ):mkS s by_ z h l c k=rh (mkS s by_ z h l c) k .mk:=id rfl
def ra(f:Nat->Prop)(u:PU f):Prop:=∃s,f s
@[simp ↓] theorem afw (f:Nat->Prop):anyS f=ra f .mk:=id rfl
theorem yM{f:Nat->Prop}{u:PU f}(s:Nat)(h:f s):ra f u:=⟨s,h⟩
@[simp ↓] theorem ae2 (s len:Nat)(z:LdQ)(ps:List (Nat×V))(h:Hp)(k:kkQ):AY s len z ps h k=rh (AY s len z ps h) k .mk:=id rfl
@[simp ↓] theorem agE (dr:Bool)(s n by_:Nat)(x y:V)(h:Hp)(k:kkQ):apW dr s n by_ x y h k=rh (apW dr s n by_ x y h) k .mk:=id rfl
theorem Mb{s e:Nat}{b:Bk}{z:D}{v:V}{h:Hp}{k:kkQ}{u:PU k}(hs:h[s]?=some (e,b))(hv:vF v=some [v])(hk:k (.ref s (e+1) 0 1 1 1) (h.set s (e+1,.vars [v]))):rh (AY s 1 [z] [(0,v)] h) k u:=by
 show AY s 1 [z] [(0,v)] h k
 have hf:nC (fun i=>some (i * [z].length,[z].length)) ((gD 1 [z]).map .d) [(0,v)]=some [v]:=by
  simp[nC,hv,gD]
 unfold AY;rw[hf];simp only[new,hs];rw[if_pos ⟨⟨af,af⟩,rfl⟩];exact hk
theorem ab6{dr:Bool}{s e by_ k:Nat}{b:Bk}{y:V}{vs:LwQ}{h:Hp}{q:kkQ}{u:PU q}(hy:rj h y=some (k,vs))(ho:vs.all okV=true)(hk:0<k)(hb:k*by_<=140737488355328)(hs:h[s]?=some (e,b))
  (hq:q (.ref s (e+1) 0 k k vs.length) (h.set s (e+1,.vars vs))):rh (apW dr s 1 by_ (.d nPQ) y h) q u:=by
 show apW dr s 1 by_ _ y h q
 unfold apW;rw[hy];simp only[new,hs];rw[if_pos ⟨ho,hk,trivial⟩,if_pos hb];exact hq
theorem ZJ{s s' e by_ k off len cap:Nat}{y:V}{vs old:LwQ}{h:Hp}{q:kkQ}{u:PU q}(hy:rj h y=some (k,vs))(ho:vs.all okV=true)(hk:0<k)(hg:h[s']?=some (e,.vars old))(hl:len=cap)(hc:off+cap=old.length)(h0:old.length<len+k)
  (hb:(len+k)*by_<=140737488355328) (hq:q (.ref s' (e+1) 0 (len+k) (len+k) (len+k)) (h.set s' (e+1,.vars ((old.drop off).take len++vs)))):rh (apW false s 1 by_ (.ref s' e off len cap old.length) y h) q u:=by
 show apW false s 1 by_ _ y h q
 have hg':aC h s' e=.vars old:=by simp[aC,hg]
 unfold apW;rw[hy];simp only[hg'];rw[if_pos ⟨ho,hk,trivial⟩,if_pos ⟨trivial,trivial,aa,aa⟩,if_neg aa,if_pos ⟨hb,hc,h0⟩];exact hq
@[simp ↓] theorem afJ (h:Hp)(n:Nat)(p v:V)(k:kkQ):stD h n p v k=rh (stD h n p v) k .mk:=id rfl
@[simp ↓] theorem agF (dr:Bool)(s n by_:Nat)(x y:V)(h:Hp)(k:kkQ):apV dr s n by_ x y h k=rh (apV dr s n by_ x y h) k .mk:=id rfl
@[simp ↓] theorem agD (dr:Bool)(s n by_:Nat)(z:LdQ)(x y:V)(h:Hp)(k:kkQ):apZ dr s n by_ z x y h k=rh (apZ dr s n by_ z x y h) k .mk:=id rfl
@[simp ↓] theorem agQ (st:aS)(clr:LnQ)(h0:Hp)(l:LwQ)(h:Hp)(k:KL):lp st clr h0 l h k=rl (lp st clr h0 l h) k .mk:=id rfl
@[simp ↓] theorem agp (v:V)(h:Hp)(k:kkQ):fzD v h k=rh (fzD v h) k .mk:=id rfl
def rk(T:(Exit->Hp->Prop)->Prop)(k:Exit->Hp->Prop)(u:PU k):Prop:=T k
@[simp ↓] theorem aga (o:Option (List LvQ))(n:Nat)(st:Et)(clr:LnQ)(h:Hp)(k:Exit->Hp->Prop):rgO o n st clr h k=rk (rgO o n st clr h) k .mk:=id rfl
theorem ro{o:Option (List LvQ)}{n:Nat}{st:Et}{h:Hp}{k:Exit->Hp->Prop}{u:PU k}(hq:o=some xs)(hr:rg n st clr h k xs h):rk (rgO o n st clr h) k u:=by subst hq;exact hr
theorem Nt{n:Nat}{st:Et}{h:Hp}{k:Exit->Hp->Prop}{x:LvQ}(hl:x.length=n)(hs:st (x.map fun v=>.d (iS v)) h fun ex h'=>match ex with
  |.normal=>oU clr 0 h'=true∧rg n st clr h0 k xs (aL clr 0 h0 h')
  |ex=>k ex h'):rg n st clr h0 k (x::xs) h:=⟨hl,hs⟩
@[simp]theorem aa2(v:V)(k:V->Prop)(u:PU k):rn (bnd (some v)) k u=k v:=id rfl
@[simp]theorem af3(vs:LwQ)(i:Nat)(k:V->Prop)(u:PU k):rn (ext (.tup vs) i) k u=rn (bnd vs[i]?) k u:=id rfl
attribute [simp] SN V4 Int.natCast_inj
@[simp]theorem adk(b:Bool)(x y:V):jD (.d (.bool (!b))) x y=jD (.d (.bool b)) y x:=by cases b<;>rfl
@[simp]theorem rP{n:Int}(h1 : -9223372036854775808<=n)(h2:n<=9223372036854775807):IntKind.wrap .i64 n=n:=wrap_i64 ⟨h1,h2⟩
@[simp]theorem La{n:Int}(h1:0<=n)(h2:n<18446744073709551616):IntKind.wrap .u64 n=n:=wrap_u64 ⟨h1,h2⟩
@[simp]theorem aaH{n:Int}(h1:0<=n)(h2:n<4294967296):IntKind.wrap .u32 n=n:=wrap_u32 ⟨h1,h2⟩
@[simp]theorem wrap_u8'{n:Int}(h1:0<=n)(h2:n<256):IntKind.wrap .u8 n=n:=Lb rfl ⟨h1,h2⟩
attribute [simp] yK yH yJ
@[simp]theorem OM{b:Int}(hb:b≠0):biI .rem (.d (.int k a)) (.d (.int k b))=some (.d (.int k (a.tmod b))):=by simp[biI,ik,mI,iS,hb]
@[simp]theorem afm{b:Int}(hb:b≠0):biI .quo (.d (.int k a)) (.d (.int k b))=some (.d (.int k (k.wrap (a.tdiv b)))):=by simp[biI,ik,mI,iS,hb]
theorem If{l:IntKind}{b:Int}(h0:0<=b)(hb:b.toNat<=k.bits):biI .shr (.d (.int k a)) (.d (.int l b))=some (.d (.int k (a/2^b.toNat))):=by
 have h1:¬(b<0):=aa
 grind[biI,ik,mI,iS]
theorem yI{l:IntKind}{b:Int}(h0:0<=b)(hb:b.toNat<=k.bits):biI .shl (.d (.int k a)) (.d (.int l b))=some (.d (.int k (k.wrap (a*2^b.toNat)))):=by
 have h1:¬(b<0):=aa
 grind[biI,ik,mI,iS]
@[simp]theorem aeu:IntKind.bits .i64=64:=rfl
@[simp]theorem aes:IntKind.bits .u64=64:=rfl
@[simp]theorem aet:IntKind.bits .u32=32:=rfl
@[simp]theorem afj:IntKind.bits .u8=8:=rfl
@[simp]theorem VM{l:IntKind}{b:Int}(h0:0<=b)(hb:b<=64):biI .shr (.d (.int .i64 a)) (.d (.int l b))=some (.d (.int .i64 (a/2^b.toNat))):=If h0 aM
@[simp]theorem aeO{l:IntKind}{b:Int}(h0:0<=b)(hb:b<=64):biI .shl (.d (.int .i64 a)) (.d (.int l b))=some (.d (.int .i64 (IntKind.wrap .i64 (a*2^b.toNat)))):=yI h0 aM
@[simp]theorem aeK{l:IntKind}{b:Int}(h0:0<=b)(hb:b<=64):biI .shr (.d (.int .u64 a)) (.d (.int l b))=some (.d (.int .u64 (a/2^b.toNat))):=If h0 aM
@[simp]theorem aeM{l:IntKind}{b:Int}(h0:0<=b)(hb:b<=64):biI .shl (.d (.int .u64 a)) (.d (.int l b))=some (.d (.int .u64 (IntKind.wrap .u64 (a*2^b.toNat)))):=yI h0 aM
@[simp]theorem aeL{l:IntKind}{b:Int}(h0:0<=b)(hb:b<=32):biI .shr (.d (.int .u32 a)) (.d (.int l b))=some (.d (.int .u32 (a/2^b.toNat))):=If h0 aM
@[simp]theorem aeN{l:IntKind}{b:Int}(h0:0<=b)(hb:b<=32):biI .shl (.d (.int .u32 a)) (.d (.int l b))=some (.d (.int .u32 (IntKind.wrap .u32 (a*2^b.toNat)))):=yI h0 aM
@[simp]theorem aeH(k:IntKind)(n:Int):unV .neg (.d (.int k n))=some (.d (.int k (k.wrap (-n)))):=by simp[unV,ik,mI,iS]
def nth{α:Type}(d:α)(l:List α)(i:Nat):α:=l.getD i d
theorem cF{α:Type}(d:α)(l:List α)(i:Nat)(h:i<l.length):nth d l i=l[i]:=by simp[nth,h]
@[simp]theorem BI{α:Type}(d:α)(p:List α)(x:α)(q:List α):nth d (p++x::q) p.length=x:=by simp[nth]
section
variable{α:Type}(f:α->D)
@[simp] theorem mK (l:List α)(h:Hp)(h0:0<=i)(h1:i<l.length):ixV h 1 (lst f l) (.d (.int k i))=some (.dptr (l.map f) i.toNat):=
 iC f l h (Int.toNat_of_nonneg h0).symm aa
theorem fB(d:α)(l:List α)(h:Hp)(hl:j<l.length):ld1 h (.dptr (l.map f) j)=some (.d (f (nth d l j))):=by rw[lY f l h hl,cF d l j hl]
@[simp] theorem oC (p:List α)(x:α)(q:List α)(h:Hp)(k:IntKind):ixV h 1 (lst f (p++x::q)) (.d (.int k p.length))=some (.dptr ((p++x::q).map f) p.length):=
 iC f _ h rfl af
omit f in
@[simp] theorem agi (a:LdQ)(x:D)(b:LdQ)(h:Hp)(hj:j=a.length):ld1 h (.dptr (a++x::b) j)=some (.d x):=by subst hj;simp[ld1]
omit f in
@[simp]theorem agS(x:D)(b:LdQ)(h:Hp):ld1 h (.dptr (x::b) 0)=some (.d x):=by rfl
end
section
variable{α:Type}(f:α->D)(l:List α)
@[simp]theorem ac0(h:Hp)(h0:0<=i)(h1:i<=l.length)(hp:0<l.length):slV h 1 (lst f l) none (some (I i))=some (lst f (l.take i.toNat)):=aaa f l hp aa aa
@[simp]theorem agO(h:Hp)(h0:0<=i)(h1:i<=l.length)(hp:0<l.length):slV h 1 (lst f l) (some (I i)) none=some (lst f (l.drop i.toNat)):=ac8 f l hp aa aa
end
@[simp] theorem agV (len n:Nat)(cs:LdQ)(off:Nat)(h0:0<=i)(h1:i<len):ixP len n (.dptr cs off) (.d (.int k i))=some (.dptr cs (off+i.toNat*n)):=by simp only[ixP];rw[if_pos ⟨h0,h1⟩]
@[simp] theorem agU (len n:Nat)(s e off tot:Nat)(h0:0<=i)(h1:i<len):ixP len n (.ptr s e off tot) (.d (.int k i))=some (.ptr s e (off+i.toNat*n) tot):=by simp only[ixP];rw[if_pos ⟨h0,h1⟩]
theorem adP(h:Hp)(cs:LdQ)(pos:Nat){x:D}(hx:cs[pos]?=some x):ld1 h (.dptr cs pos)=some (.d x):=by grind[ld1]
def sv{α:Type}(f:α->LdQ)(l:List α):V:=.d (.sl l.length (l.flatMap f))
section
variable{α:Type}(f:α->LdQ){n:Nat}(hf:∀x,(f x).length=n)
include hf
theorem gP(l:List α):(l.flatMap f).length=l.length*n:=by
 induction l with
 |nil=>simp
 |cons x l ih=>grind
theorem KG(d:α)(l:List α)(hj:j<l.length):cut (l.flatMap f) (j*n) n=some (f (nth d l j)):=by
 have hle:j*n+n<=(l.flatMap f).length:=by
  rw[gP f hf,<-Xu];exact Zv n hj
 simp only[cut,if_pos hle,Z9];clear hle
 induction l generalizing j with
 |nil=>cases hj
 | cons x l ih=>
  cases j with
  |zero=>grind[nth]
  | succ j=>
   grind[Xu,List.drop_drop,List.drop_left,nth]
theorem qZ(l:List α)(h:Hp)(h0:0<=i)(h1:i<l.length):ixV h n (sv f l) (.d (.int k i))=some (.dptr (l.flatMap f) (i.toNat*n)):=by grind[ixV,sv,gP]
theorem qX(d:α)(l:List α)(h:Hp)(hj:j<l.length):ldA h n (.dptr (l.flatMap f) (j*n))=some (.agg ((f (nth d l j)).map .d)):=by grind[ldA,KG]
end
@[simp]theorem acs{α:Type}(f:α->LdQ)(l:List α):bf (sv f l)=some (I l.length):=id rfl
@[simp]theorem aci{α:Type}(h:Hp)(f:α->LdQ)(l:List α):aJ h (sv f l)=some (sv f l,h):=by rfl
def re(place:Nat->Option (Nat×Nat))(cs:LwQ)(ps:List (Nat×V)):Option LwQ:=nC place cs ps
@[simp]theorem acB(place:Nat->Option (Nat×Nat))(cs:LwQ):re place cs []=some cs:=id rfl
def Gp(o:Option (Nat×Nat))(place:Nat->Option (Nat×Nat))(cs:LwQ)(v:V)(r:List (Nat×V)):Option LwQ:=match o with
 |none=>none
 | some (off,sz)=>match vF v with
  |none=>none
  |some vs=>if vs.length=sz∧off+vs.length<=cs.length then re place (cs.take off++vs++cs.drop (off+vs.length)) r else none
@[simp]theorem abF(place:Nat->Option (Nat×Nat))(cs:LwQ)(i:Nat)(v:V)(r:List (Nat×V)):re place cs ((i,v)::r)=Gp (place i) place cs v r:=id rfl
@[simp] theorem afa (place:Nat->Option (Nat×Nat))(cs:LwQ)(x:D)(r:List (Nat×V))(off sz:Nat):
  Gp (some (off,sz)) place cs (.d x) r=if 1=sz∧off+1<=cs.length then re place (cs.take off++[.d x]++cs.drop (off+1)) r else none:=id rfl
@[simp] theorem acE (place:Nat->Option (Nat×Nat))(cs:LwQ)(vs:LwQ)(r:List (Nat×V))(off sz:Nat):
  Gp (some (off,sz)) place cs (.agg vs) r=if vs.length=sz∧off+vs.length<=cs.length then re place (cs.take off++vs++cs.drop (off+vs.length)) r else none:=id rfl
@[simp] theorem acC (place:Nat->Option (Nat×Nat))(cs:LwQ)(a b c d e f:Nat)(r:List (Nat×V))(off sz:Nat):
  Gp (some (off,sz)) place cs (.ref a b c d e f) r=if 1=sz∧off+1<=cs.length then re place (cs.take off++[.ref a b c d e f]++cs.drop (off+1)) r else none:=id rfl
def ab1(fs:List (Nat×Nat))(z:LdQ)(ps:List (Nat×V)):Option V:=bld fs z ps
def ab0(n:Nat)(z:LdQ)(ps:List (Nat×V)):Option V:=Ap n z ps
@[simp]theorem af5(fs:List (Nat×Nat))(z:LdQ)(ps:List (Nat×V))(k:V->Prop)(u:PU k):rn (bnd (bld fs z ps)) k u=rn (bnd (ab1 fs z ps)) k u:=id rfl
@[simp]theorem aeQ(n:Nat)(z:LdQ)(ps:List (Nat×V))(k:V->Prop)(u:PU k):rn (bnd (Ap n z ps)) k u=rn (bnd (ab0 n z ps)) k u:=id rfl
@[simp]theorem afi(fs:List (Nat×Nat))(z:LdQ)(ps:List (Nat×V)):ab1 fs z ps=(re (fun i=>fs[i]?) (z.map .d) ps).map .agg:=id (by unfold ab1 bld re;cases nC (fun i=>fs[i]?) (z.map .d) ps<;>rfl)
@[simp]theorem afh(n:Nat)(z:LdQ)(ps:List (Nat×V)):ab0 n z ps=(re (fun i=>some (i*n,n)) (z.map .d) ps).map .agg:=id (by unfold ab0 Ap re;cases nC (fun i=>some (i*n,n)) (z.map .d) ps<;>rfl)
@[simp]theorem agq(off n:Nat)(vs:LwQ):fiV off n true (.agg vs)=vs[off]?:=id rfl
@[simp]theorem afb(cs:LdQ)(o off:Nat):faV off (.dptr cs o)=some (.dptr cs (o+off)):=id rfl
@[simp]theorem agr(s e o tot off:Nat):faV off (.ptr s e o tot)=some (.ptr s e (o+off) tot):=id rfl
def bnh{α:Type}(o:Option α)(k:α->Prop):Prop:=match o with
 |some x=>k x
 |none=>False
@[simp]theorem af4{α:Type}(x:α)(k:α->Prop)(u:PU k):rn (bnh (some x)) k u=k x:=id rfl
@[simp] theorem af6 (h:Hp)(n:Nat)(p v:V)(k:kkQ)(u:PU k):rh (stD h n p v) k u=rn (bnh (st h n p v)) (fun h'=>k .junk h') .mk:=by unfold rh rn stD bnh;cases st h n p v<;>rfl
theorem BL(h:Hp)(s:Nat)(b:Bk)(k:Nat->Hp->Prop):new h s b k=bnh h[s]? fun x=>k (x.1+1) (h.set s (x.1+1,b)):=by grind[new,bnh]
@[simp]theorem af8(s:Nat)(cs:LwQ)(h:Hp)(k:kkQ)(u:PU k):rh (alV s cs h) k u=rn (bnh h[s]?) (fun x=>k (.ptr s (x.1+1) 0 cs.length) (h.set s (x.1+1,.vars cs))) .mk:=by unfold rh rn alV;exact BL ..
@[simp]theorem aeT(s:Nat)(vs:LwQ)(h:Hp)(k:kkQ)(u:PU k):rh (eT s (.agg vs) h) k u=rh (alV s vs h) k u:=id rfl
@[simp]theorem adc(s:Nat)(x:D)(h:Hp)(k:kkQ)(u:PU k):rh (eT s (.d x) h) k u=rh (alV s [.d x] h) k u:=id rfl
def dW(len:Nat)(z:LdQ)(ps:List (Nat×V))(h:Hp):Option (LdQ×Hp):=match re (fun i=>some (i*z.length,z.length)) ((gD len z).map .d) ps with
 |some vs=>if 0<z.length∧len*z.length<=16777216 then iW h vs else none
 |none=>none
@[simp] theorem aeS (len:Nat)(z:LdQ)(ps:List (Nat×V))(h:Hp)(k:kkQ)(u:PU k):rh (dD len z ps h) k u=rn (bnh (dW len z ps h)) (fun x=>k (.d (.sl len x.1)) x.2) .mk:=by
 unfold rh rn dD dW bnh re;cases nC (fun i=>some (i*z.length,z.length)) ((gD len z).map .d) ps with
 |none=>rfl
 | some vs=>
  simp only;split
  .cases iW h vs<;>rfl
  .rfl
@[simp] theorem aeR (s len:Nat)(z:LdQ)(ps:List (Nat×V))(h:Hp)(k:kkQ)(u:PU k):rh (tC s len z ps h) k u=rn (bnh (dW len z ps h)) (fun x=>rn (bnh x.2[s]?) (fun y=>k (.ref s (y.1+1) 0 len len x.1.length) (x.2.set s (y.1+1,.data z.length x.1 true false))) .mk) .mk:=by
 unfold rh rn tC dW bnh re;cases nC (fun i=>some (i*z.length,z.length)) ((gD len z).map .d) ps with
 |none=>rfl
 | some vs=>
  simp only;split
  .cases iW h vs with
   |none=>rfl
   |some x=>simp only[BL];rfl
  .rfl
def jm(h:Hp)(s e:Nat):Bk:=aC h s e
@[simp]theorem abu(e0:Nat)(b:Bk)(h:Hp)(e:Nat):jm ((e0,b)::h) 0 e=if e0=e then b else .none:=id rfl
@[simp]theorem abv(x:Nat×Bk)(h:Hp)(s e:Nat):jm (x::h) (s+1) e=jm h s e:=id rfl
@[simp]theorem acz(x:Nat×Bk)(h:Hp)(e:Nat):jm (x::h) 1 e=jm h 0 e:=id rfl
@[simp]theorem acy(x:Nat×Bk)(h:Hp)(e:Nat):jm (x::h) 2 e=jm h 1 e:=id rfl
@[simp]theorem aaj(x:Nat×Bk)(h:Hp)(e:Nat):jm (x::h) 3 e=jm h 2 e:=id rfl
@[simp]theorem abw(x:Nat×Bk)(h:Hp)(e:Nat):jm (x::h) 4 e=jm h 3 e:=id rfl
def TS(b:Bk)(off tot:Nat):Option V:=match b with
 |.vars cs=>if tot=cs.length then cs[off]? else none
 |.data _ cs _ _=>if tot=cs.length then cs[off]?.map .d else none
 |.none=>none
def AZ(b:Bk)(n off tot:Nat):Option V:=match b with
 |.vars cs=>if tot=cs.length then(cut cs off n).map .agg else none
 |.data _ cs _ _=>if tot=cs.length then(cut cs off n).map fun l=>.agg (l.map .d)else none
 |.none=>none
theorem adQ(h:Hp)(s e off tot:Nat):ld1 h (.ptr s e off tot)=TS (jm h s e) off tot:=by
 unfold jm;simp only[ld1];cases aC h s e with
 |none=>rfl
 |vars cs=>rfl
 | data n cs a b=>
  simp only[TS];split
  .cases cs[off]?<;>rfl
  .rfl
theorem adO(h:Hp)(n s e off tot:Nat):ldA h n (.ptr s e off tot)=AZ (jm h s e) n off tot:=by
 unfold jm;simp only[ldA];cases aC h s e with
 |none=>rfl
 | vars cs=>
  simp only[AZ];split
  .cases cut cs off n<;>rfl
  .rfl
 | data m cs a b=>
  simp only[AZ];split
  .cases cut cs off n<;>rfl
  .rfl
@[simp]theorem af1(h:Hp)(s e off tot:Nat)(k:V->Prop)(u:PU k):rn (bnd (ld1 h (.ptr s e off tot))) k u=rn (bnd (TS (jm h s e) off tot)) k u:=by rw[adQ]
@[simp]theorem af0(h:Hp)(n s e off tot:Nat)(k:V->Prop)(u:PU k):rn (bnd (ldA h n (.ptr s e off tot))) k u=rn (bnd (AZ (jm h s e) n off tot)) k u:=by rw[adO]
@[simp]theorem acw(cs:LwQ)(off tot:Nat):TS (.vars cs) off tot=if tot=cs.length then cs[off]? else none:=id rfl
@[simp]theorem acx(n:Nat)(cs:LdQ)(a b:Bool)(off tot:Nat):TS (.data n cs a b) off tot=if tot=cs.length then cs[off]?.map .d else none:=id rfl
@[simp]theorem acu(cs:LwQ)(n off tot:Nat):AZ (.vars cs) n off tot=if tot=cs.length then(cut cs off n).map .agg else none:=id rfl
@[simp]theorem acv(m:Nat)(cs:LdQ)(a b:Bool)(n off tot:Nat):AZ (.data m cs a b) n off tot=if tot=cs.length then(cut cs off n).map (fun l=>.agg (l.map .d))else none:=id rfl
def stX(b:Bk)(h:Hp)(s e off tot:Nat)(vs:LwQ):Option Hp:=match b with
 |.vars cs=>if tot=cs.length∧off+vs.length<=cs.length∧vs.all okV=true then some (b6 h s e (.vars (cs.take off++vs++cs.drop (off+vs.length))))else none
 |_=>sto h s e off tot vs
theorem ZW(h:Hp)(s e off tot:Nat)(vs:LwQ):sto h s e off tot vs=stX (jm h s e) h s e off tot vs:=by
 unfold jm stX;cases hb:aC h s e with
 |vars cs=>simp[sto,hb]
 |none=>rfl
 |data n cs a b=>rfl
@[simp] theorem afY (h:Hp)(n s e off tot:Nat)(vs:LwQ)(k:Hp->Prop)(u:PU k):rn (bnh (st h n (.ptr s e off tot) (.agg vs))) k u=rn (bnh (if vs.length=n then stX (jm h s e) h s e off tot vs else none)) k u:=by simp only[rn,st,ZW]
def IY(b:Bk)(h:Hp)(s e off tot:Nat)(x:D):Option Hp:=match b with
 |.vars cs=>if tot=cs.length∧off+1<=cs.length then some (b6 h s e (.vars (cs.take off++[.d x]++cs.drop (off+1))))else none
 |.data n cs ex fr=>if fr=false∧tot=cs.length∧off+1<=cs.length then some (b6 h s e (.data n (cs.set off (norm x)) ex false))else none
 |.none=>none
theorem ac4(h:Hp)(s e off tot:Nat)(x:D):st h 1 (.ptr s e off tot) (.d x)=IY (jm h s e) h s e off tot x:=by
 unfold jm;simp only[st,if_true];cases hb:aC h s e with
 |none=>simp[sto,hb,IY]
 |vars cs=>simp[sto,hb,IY,okV]
 | data n cs ex fr=>
  simp only[sto,hb,iW,toD,IY];by_cases hc:fr=false∧tot=cs.length∧off+1<=cs.length
  .rw[if_pos hc,if_pos aa];rw[Yh,if_pos aa];simp
  .rw[if_neg hc,if_neg aa]
@[simp]theorem afZ(h:Hp)(s e off tot:Nat)(x:D)(k:Hp->Prop)(u:PU k):rn (bnh (st h 1 (.ptr s e off tot) (.d x))) k u=rn (bnh (IY (jm h s e) h s e off tot x)) k u:=by rw[ac4]
@[simp]theorem acg(cs:LwQ)(h:Hp)(s e off tot:Nat)(x:D):IY (.vars cs) h s e off tot x=if tot=cs.length∧off+1<=cs.length then some (b6 h s e (.vars (cs.take off++[.d x]++cs.drop (off+1))))else none:=id rfl
@[simp] theorem Pm (n:Nat)(cs:LdQ)(ex:Bool)(h:Hp)(s e off tot:Nat)(x:D)(ht:tot=cs.length)(ho:off<cs.length):IY (.data n cs ex false) h s e off tot x=some (b6 h s e (.data n (cs.set off (norm x)) ex false)):=by simp only[IY];simp[ht];omega
def ixX(b:Bk)(n s e off len tot:Nat)(i:Int):Option V:=match b with
 |.data _ cs _ _=>if tot=cs.length∧0<=i∧i<len then some (.ptr s e (off+i.toNat*n) tot)else none
 |.vars cs=>if tot=cs.length∧0<=i∧i<len then some (.ptr s e (off+i.toNat*n) tot)else none
 |_=>none
@[simp] theorem af2 (h:Hp)(n s e off len cap tot:Nat)(kd:IntKind)(i:Int)(k:V->Prop)(u:PU k):rn (bnd (ixV h n (.ref s e off len cap tot) (.d (.int kd i)))) k u=rn (bnd (ixX (jm h s e) n s e off len tot i)) k u:=by
 have:ixV h n (.ref s e off len cap tot) (.d (.int kd i))=ixX (jm h s e) n s e off len tot i:=by
  unfold jm;simp only[ixV,ixX];cases aC h s e<;>rfl
 rfl
@[simp] theorem adU (m:Nat)(cs:LdQ)(a b:Bool)(n s e off len tot:Nat)(i:Int)(ht:tot=cs.length)(h0:0<=i)(h1:i<len):ixX (.data m cs a b) n s e off len tot i=some (.ptr s e (off+i.toNat*n) tot):=by simp only[ixX];rw[if_pos ⟨ht,h0,h1⟩]
@[simp] theorem adT (cs:LwQ)(n s e off len tot:Nat)(i:Int)(ht:tot=cs.length)(h0:0<=i)(h1:i<len):ixX (.vars cs) n s e off len tot i=some (.ptr s e (off+i.toNat*n) tot):=by simp only[ixX];rw[if_pos ⟨ht,h0,h1⟩]
@[simp] theorem afX (h:Hp)(n s e off tot a b c d f g:Nat)(k:Hp->Prop)(u:PU k):rn (bnh (st h n (.ptr s e off tot) (.ref a b c d f g))) k u=rn (bnh (if n=1 then stX (jm h s e) h s e off tot [.ref a b c d f g]else none)) k u:=by simp only[rn,st,ZW]
@[simp]theorem ac3(cs:LwQ)(h:Hp)(s e off tot:Nat)(vs:LwQ):stX (.vars cs) h s e off tot vs=if tot=cs.length∧off+vs.length<=cs.length∧vs.all okV=true then some (b6 h s e (.vars (cs.take off++vs++cs.drop (off+vs.length))))else none:=id rfl
@[simp]theorem ae7(h:Hp)(s e:Nat)(b:Bk):b6 h s e b=h.set s (e,b):=rfl
@[simp]theorem agP(x:D):okV (.d x)=true:=rfl
@[simp]theorem aeV(a b c d e f:Nat):okV (.ref a b c d e f)=true:=rfl
@[simp]theorem agu{α:Type}(l:List α)(off n:Nat):cut l off n=if off+n<=l.length then some ((l.drop off).take n)else none:=id rfl
@[simp]theorem pf(i:Nat)(h0 h:Hp)(hl:h.length=h0.length):aL [] i h0 h=h:=FR i h0 h hl
@[simp]theorem afd(q:LwQ->Hp->Prop)(r:List (Exit×(LwQ->Hp->Prop)))(l:LwQ)(h:Hp):exK ((.normal,q)::r) .normal l h=q l h:=rfl
@[simp]theorem aao(q:LwQ->Hp->Prop)(r:List (Exit×(LwQ->Hp->Prop)))(l:LwQ)(h:Hp):exK ((.normal,q)::r) .ret l h=exK r .ret l h:=rfl
@[simp]theorem aan(q:LwQ->Hp->Prop)(r:List (Exit×(LwQ->Hp->Prop)))(l:LwQ)(h:Hp):exK ((.ret,q)::r) .normal l h=exK r .normal l h:=rfl
@[congr]theorem acA{l:List Gh}{h:Hp}{k:Hp->Prop}(e:h=h'):ghG l h k=ghG l h' k:=by rw[e]
@[congr]theorem ac5{h:Hp}{x:V}{k:Prop}(e:h=h'):sp h x ys k=sp h' x ys k:=by rw[e]
@[congr]theorem ac7{h:Hp}{x y:V}{k:Prop}(e:h=h'):sm h x y k=sm h' x y k:=by rw[e]
theorem IZ{h:Hp}{x:V}{k:Prop}:∀{ys:LwQ},ys.all (apt h x)=true->k->sp h x ys k
 |[],_,hk=>hk
 | y::ys,hb,hk=>by
  simp only[List.all_cons,Z8]at hb;unfold sp;rw[hb.1];exact IZ hb.2 hk
theorem Rq{h:Hp}{x y:V}{k:Prop}(hb:smB h x y=true)(hk:k):sm h x y k:=by grind[sm]
structure Acc where
 s:Nat
 e:Nat
 n:Nat
 b0:Bk
def Acc.v(a:Acc)(L:Nat)(cells:LdQ):V:=match L with
 |0=>.d nPQ
 |_=>.ref a.s (a.e+1) 0 L L cells.length
def Acc.b(a:Acc)(L:Nat)(cells:LdQ):Nat×Bk:=match L with
 |0=>(a.e,a.b0)
 |_=>(a.e+1,.data a.n cells false false)
theorem oP(a:Acc){L by_ k:Nat}{cells cs:LdQ}{h:Hp}{y:V}{q:kkQ}{u:PU q}(hk:0<k)(hs:h[a.s]?=some (a.b L cells))(hc:cells.length=L*a.n)(hcs:cs.length=k*a.n)
  (hy:cellsOf h y=some (k,cs)) (hyn:∀t,y≠.d (.str t)) (hb:(L+k)*by_<=140737488355328) (hn:0<a.n) (hq:q (a.v (L+k) (cells++cs)) (h.set a.s (a.b (L+k) (cells++cs)))):rh (apV false a.s a.n by_ (a.v L cells) y h) q u:=by
 have e1:apV false a.s a.n by_ (a.v L cells) y h q=apC false a.s a.n by_ (a.v L cells) k cs h q:=by
  unfold apV;split
  .trivial
  .grind
 show apV false a.s a.n by_ (a.v L cells) y h q
 rw[e1];have hlt:=(List.getElem?_eq_some_iff.1 hs).1;obtain⟨m,hm⟩:∃m,L+k=m+1:=⟨L+k-1,aa⟩;cases L with
 | zero=>
  have:cells=[]:=Zp aa;subst this;simp only[Zk,List.nil_append]at *;simp only[Acc.v];unfold apC;rw[if_neg aa];simp only[];rw[if_pos aa]
  simp_all[new,Acc.b,Acc.v]
 | succ L=>
  simp only[Acc.v];unfold apC;rw[if_neg aa];have hg:aC h a.s (a.e+1)=.data a.n cells false false:=by simp only[aC,hs,Acc.b,if_true]
  simp only[hg,true_and,Zk];rw[if_pos ⟨Z7 _,aa,hcs⟩,if_neg aa,if_pos hb];simp only[Ze,if_false,Bool.or_self];have hpos:0<cs.length:=by rw[hcs];exact Yj hk hn
  rw[if_pos ⟨aa,aa⟩];rw[hm]at hq ⊢;simp only[Acc.v,Acc.b,Zs,b6,hc]at hq ⊢;simp only[Yx];rw[Z1 aa];exact hq
theorem oO(a:Acc){h:Hp}(hs:h[a.s]?=some (a.b L cells))(hc:cells.length=L*a.n):
  ∃h',aJ h (a.v L cells)=some (.d (.sl L cells),h')∧((L=0∧h'=h)∨(0<L∧h'=h.set a.s (a.e+1,.data a.n cells false true))):=by
 cases L with
 | zero=>
  simp_all[Acc.v]
 | succ L=>
  have hg:aC h a.s (a.e+1)=.data a.n cells false false:=by simp only[aC,hs,Acc.b,if_true]
  refine⟨_,?_,.inr ⟨Nat.succ_pos _,rfl⟩⟩;simp only[Acc.v,aJ,toD,hg,true_and,Zk];rw[if_pos ⟨Z7 _,aa⟩];simp only[Yx,b6];rw[Z1 aa]
theorem ZQ(a:Acc){h:Hp}(hs:h[a.s]?=some (a.b L cells))(hc:cells.length=L*a.n):out (.d (.sl L cells)) (a.v L cells) h:=by obtain⟨h',h1,_⟩:=oO a hs hc;exact⟨h',h1⟩
theorem dX{b b':Bool}{h:Hp}(e:b'=b):out (B b) (.d (.bool b')) h:=by simp_all
theorem aV{b:Int}{h:Hp}(e:b=a):out (.d (.int k a)) (.d (.int k b)) h:=by simp_all
theorem cd{h:Hp}{f:FuncId}{v:V}{k:kkQ}{u:PU k}(hc:C f args v)(hk:k v h)(hs:aw h args=some (args,h):=by simp[aw,aJ]):rh (cal C h (.fn f [] []) args) k u:=aen hc hs hk
theorem lo{st:aS}{l:LwQ}{h:Hp}{k:KL}{u:PU k}(hl:lp st clr h0 l h k):rl (lp st clr h0 l h) k u:=hl
def WO(n:Nat):D:=.sl (len n) ((dig W n).map u32)
@[simp]theorem acm(n:Nat):norm (WO n)=WO n:=rfl
@[simp]theorem ac6(h:Hp)(n:Nat):aJ h (nat n)=some (nat n,h):=I4 ..
@[simp]theorem acp(n:Nat):bf (.d (WO n))=some (I (len n)):=rfl
def adV(z:Int):LwQ:=[.d (.bool (decide (z<0))),.d (WO z.natAbs)]
def abr(z:Int):V:=.agg (adV z)
@[simp]theorem acj(h:Hp)(z:Int):aJ h (abr z)=some (abr z,h):=by simp[abr,adV,aJ,aw]
def di(n:Int):D:=.int .i64 n
def row(l:LiQ):D:=.sl l.length (l.map di)
abbrev mat(m:LLQ):V:=lst row m
@[simp]theorem ag0(n:Int):V.d (di n)=I n:=id rfl
@[simp]theorem aeZ(n:Int):norm (di n)=di n:=rfl
@[simp]theorem adu(l:LiQ):norm (row l)=row l:=rfl
@[simp]theorem agj(l:LiQ)(h:Hp)(h0:0<=i)(h1:i<l.length):ixV h 1 (.d (row l)) (.d (.int k i))=some (.dptr (l.map di) i.toNat):=mK di l h h0 h1
@[simp]theorem TP(l:LiQ)(h:Hp)(hl:j<l.length):ld1 h (.dptr (l.map di) j)=some (.d (di (nth 0 l j))):=fB di 0 l h hl
@[simp]theorem ae6(m:LLQ)(h:Hp)(hl:j<m.length):ld1 h (.dptr (m.map row) j)=some (.d (row (nth [] m j))):=fB row [] m h hl
@[simp]theorem adG(l:LiQ):bf (.d (row l))=some (I l.length):=rfl
def idx{α:Type}(p:α->Bool)(l:List α):Int:=match l.findIdx? p with
 |some i=>i
 |none=>-1
theorem cdf{h:Hp}{f:FuncId}{fs cs:LwQ}{v:V}{k:kkQ}{u:PU k}(hc:C f (fs++args++cs) v)(hs:aw h (fs++args++cs)=some (fs++args++cs,h))(hk:k v h):rh (cal C h (.fn f fs cs) args) k u:=by simp only[rh,cal,hs];exact⟨v,hc,by simpa using hk⟩
section
variable{α:Type}{f:α->D}{g:FuncId}{fs cs:LwQ}{p:α->Bool}
theorem Kg(hs:∀x,aw [] (fs++[.d (f x)]++cs)=some (fs++[.d (f x)]++cs,[]))(k:KL):∀(q a:List α),(a++q).length<4611686018427387904->(∀x∈q,CP Y g (fs++[.d (f x)]++cs) (B (p x))) ->
  (idx p q = -1->k (.exit 0) [] [])->(∀i:Nat,idx p q=i->k .ret [I (a.length+i:Nat)] []) ->
  lp (dM (CX Y) (lst f (a++q)) (.fn g fs cs) (I (a++q).length)) [] [] [I a.length] [] k
 | [],a,hN,_,h0,_=>by
  refine ak ?_;simp[dM];exact h0 rfl
 | x::q,a,hN,hp,h0,h1=>by
  simp at hN;refine ak ?_;simp(disch:=try exact ac)[dM];refine cdf (hp x af) (hs x) ?_;simp;refine KT (fun h=>?_) (fun h=>?_)<;>try simp(disch:=try exact ac)[h]
  .have e:idx p (x::q)=(0:Nat):=by simp[idx,List.findIdx?_cons,h]
   simpa using h1 0 e
  .have hl:=hs;have:=Kg hs k q (a++[x]) aM (fun y hy=>hp y (by simp[hy])) (fun e=>h0 ?_) (fun i e=>?_)
   .simpa[We]using this
   .simp only[idx,List.findIdx?_cons,h,Ze,if_false]at e ⊢;cases hq:List.findIdx? p q<;>simp[hq]at e ⊢
   .have:=h1 (i+1) ?_
    .simpa[Xw,Nat.add_comm 1 i]using this
    .simp only[idx,List.findIdx?_cons,h,Ze,if_false]at e ⊢;cases hq:List.findIdx? p q<;>simp[hq]at e ⊢
     exact e
theorem HK(l:List α)(hN:l.length<4611686018427387904)(hs:∀x,aw [] (fs++[.d (f x)]++cs)=some (fs++[.d (f x)]++cs,[]))(hp:∀x∈l,CP Y g (fs++[.d (f x)]++cs) (B (p x))):
  aY (CX Y) (lst f l) (.fn g fs cs) (out (I (idx p l))):=by
 simp[aY];refine lo (Kg hs _ l [] (by simpa using hN) hp (fun e=>?_) (fun i e=>?_))
 .simp[e]
 .simp[e]
end
theorem BV{α:Type}(p:α->Bool)(l:List α):0<=idx p l↔l.any p=true:=by
 unfold idx;cases h:l.findIdx? p with
 |none=>simp[List.findIdx?_eq_none_iff]at h ⊢;exact h
 | some i=>
  simp[List.findIdx?_eq_some_iff_getElem]at h ⊢;obtain⟨hi,h1,_⟩:=h;exact⟨l[i],Yu hi,h1⟩
@[simp]theorem aeI(h:Hp)(g:FuncId):aJ h (.fn g [] [])=some (.fn g [] [],h):=by simp[aJ,aw]
theorem AK{g:FuncId}{p:Int->Bool}(l:LiQ)(hN:l.length<4611686018427387904)(hp:∀x∈l,CP Y g [I x] (B (p x))):CP Y F.aY [lst di l,.fn g [] []] (I (idx p l)):=
 o7 (HK l hN (fun x=>by simp[aw]) hp)
theorem vC{g:FuncId}{p:Int->Bool}(l:LiQ)(hN:l.length<4611686018427387904)(hp:∀x∈l,CP Y g [I x] (B (p x))):CP Y F.aZ [lst di l,.fn g [] []] (B (l.any p)):=by
 refine oi ?_;simp[aZ];refine cd (AK l hN hp) ?_;simp;have:=BV p l;have e:decide (0<=idx p l)=l.any p:=by rw[Yi];simpa using this
 rw[e];exact JD ..
def tZ(n:Int):Bool:=decide (-1000000000<=n∧n<=1000000000)
theorem PR{n:Int}:tZ n=true↔-1000000000<=n∧n<=1000000000:=by simp[tZ]
theorem eM{α:Type}{d:α}{l:List α}{i:Nat}(h:i<l.length):nth d l i∈l:=by grind[cF]
def piv(r:LiQ):Int:=idx (fun n=>n !=0) r
theorem aa7(r:LiQ): -1<=piv r∧piv r<r.length:=by
 unfold piv idx;cases h:r.findIdx? (fun n=>n !=0)with
 |none=>simp;omega
 |some i=>have:=(List.findIdx?_eq_some_iff_getElem.1 h).1;simp;omega
def Z:Nat:=1000000000
theorem aB:2<=Z:=ae
theorem bC:0<Z:=ae
def i9(n:Nat):D:=.int .i64 n
def bv:Nat->Nat->LnQ
 |0,_=>[]
 |w+1,n=>n%Z::bv w (n/Z)
theorem dj:∀w n,(bv w n).length=w
 |0,_=>rfl
 |w+1,n=>by simp[bv,dj w]
theorem tL:∀w n,aI Z (bv w n)
 |0,_=>fun x hx=>by simp[bv]at hx
 | w+1,n=>fun x hx=>by
  simp only[bv,Zt]at hx;rcases hx with rfl|hx
  .exact Y5 _ bC
  .exact tL w _ x hx
theorem vy:∀w n,n<Z^w->val Z (bv w n)=n
 |0,n,h=>by simp at h;subst h;rfl
 | w+1,n,h=>by
  have hZ:Z=1000000000:=rfl;simp only[bv,val];rw[vy w (n/Z) (Wr (by rw[Nat.pow_succ,Zq]at h;exact h))];have:=Xo n Z;omega
theorem BW:∀l:LnQ,aI Z l->l=bv l.length (val Z l)
 |[],_=>rfl
 | x::l,h=>by
  have hx:x<Z:=h x af;have hl:=BW l (fun y hy=>h y (by simp[hy]));have hZ:Z=1000000000:=rfl;simp only[List.length_cons,bv,val];have e1:(x+Z*val Z l)%Z=x:=by rw[Xe];exact Ya hx
  have e2:(x+Z*val Z l)/Z=val Z l:=by rw[Yc _ _ bC,W5 hx,Zk]
  rw[e1,e2,<-hl]
abbrev S(s:LuQ):V:=.d (.str s)
@[simp]theorem HI(s:LuQ):nh (S s)=some (I s.length):=id rfl
@[simp] theorem afO (s:LuQ){j:Int}(h0:0<=j)(h1:j<=s.length):slS (S s) none (some (I j))=some (S (s.take j.toNat)):=by simp only[slS,boV];rw[if_pos ⟨h0,aa⟩];simp
@[simp] theorem afN (s:LuQ)(h0:0<=i)(h1:i<=s.length):slS (S s) (some (I i)) none=some (S (s.drop i.toNat)):=by simp only[slS,boV];rw[if_pos ⟨h0,aa⟩];simp only;rw[Z1 af]
@[simp]theorem afl(a b:LuQ):biS .eql (S a) (S b)=some (.d (.bool (a == b))):=id rfl
@[simp]theorem afk(a b:LuQ):biS .neq (S a) (S b)=some (.d (.bool (!(a == b)))):=id rfl
@[simp]theorem ZA(a b:LuQ)(h:a.length+b.length<=9223372036854775807):biS .add (S a) (S b)=some (S (a++b)):=by simp[biS,Lp,h]
theorem T6(s:LuQ){x:UInt8}(h0:0<=i)(h:s[i.toNat]?=some x):ixS (S s) (.d (.int k i))=some (.d (.int .u8 x.toNat)):=by simp only[ixS];rw[if_pos h0,h]
theorem eX{a b:LuQ}{h:Hp}(e:b=a):out (S a) (S b) h:=by subst e;exact SR rfl
theorem U4(b:Bool):CP Y F.fO [B b] (I (if b=true then 1 else 0)):=by refine uz ?_;cases b<;>simp[fO]
theorem Tp{x:Nat}(h:x<=64):CP Y F.fN [I x] (I ((x*78913/262144:Nat):Int)):=by refine uy ?_;simp(disch:=try exact ac)[fN]
def bI(n:Nat):Nat:=if n=0 then 0 else n.log2+1
theorem xj{n k:Nat}(h:2^k<=n):bI n=bI (n/2^k)+k:=by
 have hp:0<2^k:=X3 ae;have h0:n≠0:=aa;have h1:n/2^k≠0:=by have:=Wd h hp;omega
 simp only[bI,h0,h1,if_false]
 have e:n.log2=(n/2^k).log2+k:=by
  rw[Nat.log2_eq_iff h0];have h2:=(Nat.log2_eq_iff h1).1 rfl;constructor
  .rw[Yp];exact Zy (Zv _ h2.1) (Nat.div_mul_le_self n _)
  .have:n/2^k+1<=2^((n/2^k).log2+1):=h2.2
   have h3:n<(n/2^k+1)*2^k:=by
    have:=Nat.lt_mul_div_succ n hp;rw[Zq];exact this
   have h4:=Zv (2^k) this;rw[<-Yp]at h4;rw[show(n/2^k).log2+k+1=(n/2^k).log2+1+k by omega];omega
 omega
def aai:LuQ:=[0,1,2,2,3,3,3,3,4,4,4,4,4,4,4,4,5,5,5,5,5,5,5,5,5,5,5,5,5,5,5,5,6,6,6,6,6,6,6,6,6,6,6,6,6,6,6,6,6,6,6,6,6,6,6,6,6,6,6,6,6,6,6,6]++(List.replicate 64 7++List.replicate 128 8)
theorem len8:∀x:Fin 256,aai[x.val]?=some (UInt8.ofNat (bI x.val)):=aD
theorem P3{x:Nat}{a:Nat}{n:Nat}(hx:x<256)(hn:bI n=bI x+a)(ha:a<=56){h:Hp}:
  (bnd (cvI .u8 (.d (.int .u64 x))) fun v10=>bnd (ixS (S aai) v10) fun v11=>
   bnd (cvI .i64 v11) fun v12=>bnd (biI .add (I a) v12) fun v13=>out (I (bI n)) v13 h):=by
 have hb:bI x<=8:=by
  unfold bI;split
  .omega
  .rename_i h0;have:=(Nat.log2_lt h0 (k:=8)).2 aa;omega
 have h8:=len8 ⟨x,hx⟩;simp(disch:=try exact ac);rw[T6 _ aa (x:=UInt8.ofNat (bI x)) (by simpa using h8)];have e:(UInt8.ofNat (bI x)).toNat=bI x:=by simp;omega
 simp(disch:=try exact ac)[e];exact aV aa
set_option maxRecDepth 20000 in
theorem Dt{n:Nat}(h:n<18446744073709551616):CP Y F.eO [.d (.int .u64 n)] (I (bI n)):=by
 refine ya ?_
 obtain ⟨x1,a1,hx1,he1,ha1,h1⟩:∃x1 a1:Nat,x1<4294967296∧bI n=bI x1+a1∧a1<=32∧((4294967296<=n∧x1=n/4294967296∧a1=32)∨(n<4294967296∧x1=n∧a1=0)):=by
  by_cases hh:4294967296<=n
  .exact⟨n/4294967296,32,aa,xj (k:=32) hh,aa,.inl ⟨hh,rfl,rfl⟩⟩
  .exact⟨n,0,aa,rfl,aa,.inr ⟨aa,rfl,rfl⟩⟩
 obtain ⟨x2,a2,hx2,he2,ha2,h2⟩:∃x2 a2:Nat,x2<65536∧bI n=bI x2+a2∧a2<=48∧((65536<=x1∧x2=x1/65536∧a2=a1+16)∨(x1<65536∧x2=x1∧a2=a1)):=by
  by_cases hh:65536<=x1
  .exact⟨x1/65536,a1+16,aa,by(have:=xj (n:=x1) (k:=16) hh;simp only[Nat.reducePow]at this;omega),aa,.inl ⟨hh,rfl,rfl⟩⟩
  .exact⟨x1,a1,aa,he1,aa,.inr ⟨aa,rfl,rfl⟩⟩
 obtain ⟨x3,a3,hx3,he3,ha3,h3⟩:∃x3 a3:Nat,x3<256∧bI n=bI x3+a3∧a3<=56∧((256<=x2∧x3=x2/256∧a3=a2+8)∨(x2<256∧x3=x2∧a3=a2)):=by
  by_cases hh:256<=x2
  .exact⟨x2/256,a2+8,aa,by(have:=xj (n:=x2) (k:=8) hh;simp only[Nat.reducePow]at this;omega),aa,.inl ⟨hh,rfl,rfl⟩⟩
  .exact⟨x2,a2,aa,he2,aa,.inr ⟨aa,rfl,rfl⟩⟩
 simp[eO];have key:=P3 (h:=[]) hx3 he3 ha3;refine gH (l:=[.d (.int .u64 x1),I a1]) (h:=[]) (fun q=>?_) ?_
 .rcases h1 with⟨g,rfl,rfl⟩|⟨g,rfl,rfl⟩<;>simp(disch:=try exact ac)[g]
 simp;refine gH (l:=[.d (.int .u64 x2),I a2]) (h:=[]) (fun q=>?_) ?_
 .rcases h2 with⟨g,rfl,rfl⟩|⟨g,rfl,rfl⟩<;>simp(disch:=try exact ac)[g]
 simp;refine gH (l:=[.d (.int .u64 x3),I a3]) (h:=[]) (fun q=>?_) ?_
 .rcases h3 with⟨g,rfl,rfl⟩|⟨g,rfl,rfl⟩<;>simp(disch:=try exact ac)[g]
 exact key
theorem V3:JA=(List.range 20).map fun i=>D.int .u64 ((10^i:Nat):Int):=by simp only[JA,List.range,List.range.loop,List.map];rfl
theorem aa5{i:Nat}(h:i<20):JA[i]?=some (.int .u64 ((10^i:Nat):Int)):=by rw[V3,List.getElem?_map,List.getElem?_range h];rfl
theorem aby:gl nA=.dptr JA 0:=by unfold gl;rfl
theorem abf:∀b:Fin 65,1<=b.val->(10^(b.val*78913/262144)<=2^b.val∧2^b.val<=10^(b.val*78913/262144+1)∧(b.val*78913/262144=0∨10^(b.val*78913/262144-1)<2^(b.val-1))∧b.val*78913/262144<20):=aD
theorem qh{n:Nat}(h:0<n):2^(bI n-1)<=n∧n<2^bI n∧1<=bI n:=by have h0:n≠0:=aa;have:=(Nat.log2_eq_iff h0).1 rfl;simp only[bI,h0,if_false];exact⟨this.1,this.2,aa⟩
theorem xY{n d:Nat}(h1:10^(d-1)<=n)(h2:n<10^d)(hd:1<=d)(h:n<18446744073709551616):CP Y F.du [.d (.int .u64 n)] (I d):=by
 have h0:0<n:=Z3 (X3 ae) h1;obtain⟨b1,b2,b3⟩:=qh h0
 have hb:bI n<=64:=by
  unfold bI;split
  .omega
  .rename_i hz;have:=(Nat.log2_lt hz (k:=64)).2 (by simpa using h);omega
 obtain⟨t1,t2,t3,t4⟩:=abf ⟨bI n,aa⟩ b3;simp only at t1 t2 t3 t4;refine uw ?_;simp[du];refine cd (Dt h) ?_;simp;refine cd (Tp hb) ?_;generalize hk:bI n*78913/262144=k at *;have hg:gl nA=.dptr JA 0:=aby;simp(disch:=try exact ac)[hg];rw[adP _ _ _ (aa5 t4)]
 have hpk:10^(k+1)=10*10^k:=by rw[Nat.pow_succ,Zq]
 have hpd:10^d=10*10^(d-1):=by
  obtain⟨e,rfl⟩:∃e,d=e+1:=⟨d-1,aa⟩;rw[Nat.pow_succ,Zq];rfl
 have a1:10^k<=n->d=k+1:=fun hc=>by
  have a1:k<d:=(Yr (a:=10) ae).1 aa;have a2:d-1<k+1:=(Yr (a:=10) ae).1 aa;omega
 have a2:¬10^k<=n->d=k:=fun hc=>by
  have hk1:1<=k:=by
   rcases Zg k with e|e
   .subst e;simp at hc;omega
   .exact e
  have a1:d-1<k:=(Yr (a:=10) ae).1 aa
  have a2:k-1<d:=by
   rcases t3 with e|e
   .omega
   .exact(Yr (a:=10) ae).1 aa
  omega
 generalize 10^k=P at *;simp;refine cd (U4 (decide (P<=n))) ?_;by_cases hc:P<=n
 .have:=a1 hc;simp(disch:=try exact ac)[hc];exact aV aa
 .have:=a2 hc;simp(disch:=try exact ac)[hc];exact aV aa
def dg(n:Nat):UInt8:=UInt8.ofNat (48+n)
def dK:Nat->Nat->LuQ
 |_,0=>[]
 |n,w+1=>dK (n/10) w++[dg (n%10)]
theorem bi:∀(w n:Nat),(dK n w).length=w
 |0,_=>rfl
 |w+1,n=>by simp[dK,bi w]
def u8(b:UInt8):D:=.int .u8 b.toNat
def p9:LuQ:=[48,48,48,49,48,50,48,51,48,52,48,53,48,54,48,55,48,56,48,57,49,48,49,49,49,50,49,51,49,52,49,53,49,54,49,55,49,56,49,57,50,48,50,49,50,50,50,51,50,52,50,53,50,54,50,55,50,56,50,57,51,48,51,49,51,50,51,51,51,52,51,53,51,54,51,55,51,56,51,57,52,48,52,49,52,50,52,51,52,52,52,53,52,54,52,55,52,56,52,57,53,48,53,49,53,50,53,51,53,52,53,53,53,54,53,55,53,56,53,57,54,48,54,49,54,50,54,51,54,52,54,53,54,54,54,55,54,56,54,57,55,48,55,49,55,50,55,51,55,52,55,53,55,54,55,55,55,56,55,57,56,48,56,49,56,50,56,51,56,52,56,53,56,54,56,55,56,56,56,57,57,48,57,49,57,50,57,51,57,52,57,53,57,54,57,55,57,56,57,57]
theorem GT:([48,48,48,49,48,50,48,51,48,52,48,53,48,54,48,55,48,56,48,57,49,48,49,49,49,50,49,51,49,52,49,53,49,54,49,55,49,56,49,57,50,48,50,49,50,50,50,51,50,52,50,53,50,54,50,55,50,56,50,57,51,48,51,49,51,50,51,51,51,52,51,53,51,54,51,55,51,56,51,57,52,48,52,49,52,50,52,51,52,52,52,53,52,54,52,55,52,56,52,57,53,48,53,49,53,50,53,51,53,52,53,53,53,54,53,55,53,56,53,57,54,48,54,49,54,50,54,51,54,52,54,53,54,54,54,55,54,56,54,57,55,48,55,49,55,50,55,51,55,52,55,53,55,54,55,55,55,56,55,57,56,48,56,49,56,50,56,51,56,52,56,53,56,54,56,55,56,56,56,57,57,48,57,49,57,50,57,51,57,52,57,53,57,54,57,55,57,56,57,57]:LuQ)=p9:=rfl
theorem Pn:∀x:Fin 200,p9[x.val]?=some (dg (if x.val%2=0 then x.val/2/10 else x.val/2%10)):=aD
def smV(i:Int):D:=u8 (dg (if i%2=0 then i.toNat/2/10 else i.toNat/2%10))
@[simp] theorem ack (k:IntKind)(i:Int)(K:V->Prop)(u:PU K)(h0:0<=i)(h1:i<200):rn (bnd (ixS (.d (.str p9)) (.d (.int k i)))) K u=K (.d (smV i)):=by
 have h:=T6 p9 (k:=k) h0 (Pn ⟨i.toNat,aa⟩);unfold rn;rw[show V.d (.str p9)=S p9 from rfl,h]
 have e:(if i.toNat%2=0 then i.toNat/2/10 else i.toNat/2%10)=(if i%2=0 then i.toNat/2/10 else i.toNat/2%10):=by
  by_cases hc:i%2=0
  .rw[if_pos hc,if_pos aa]
  .rw[if_neg hc,if_neg aa]
 simp_all[smV,u8]
theorem aaV{x:Nat}:smV (2*(x:Int))=u8 (dg (x/10)):=by grind[smV]
theorem aaU{x:Nat}:smV (2*(x:Int)+1)=u8 (dg (x%10)):=by grind[smV]
theorem Ef(n w:Nat):dK n (w+2)=dK (n/100) w++[dg (n%100/10),dg (n%100%10)]:=by
 simp only[dK,List.append_assoc,List.singleton_append];rw[Xn];have e1:n/10%10=n%100/10:=aa;have e2:n%10=n%100%10:=aa
 grind
theorem adK{α:Type}:∀(l:List α),l.length=8->∃c0 c1 c2 c3 c4 c5 c6 c7,l=[c0,c1,c2,c3,c4,c5,c6,c7]
 |[c0,c1,c2,c3,c4,c5,c6,c7],_=>⟨c0,c1,c2,c3,c4,c5,c6,c7,rfl⟩
 |[],h|[_],h|[_,_],h|[_,_,_],h|[_,_,_,_],h|[_,_,_,_,_],h|[_,_,_,_,_,_],h|[_,_,_,_,_,_,_],h=>by simp at h
 |_::_::_::_::_::_::_::_::_::_,h=>by simp at h
@[simp]theorem adH(s e off len cap tot:Nat):bf (.ref s e off len cap tot)=some (I len):=rfl
theorem afQ(B:LdQ)(c0 c1 c2 c3 c4 c5 c6 c7 x0 x1 x2 x3 x4 x5 x6 x7:D){i1 i2 i3 i4 i5 i6 i7:Nat}
  (h1:i1=1) (h2:i2=2) (h3:i3=3) (h4:i4=4) (h5:i5=5) (h6:i6=6) (h7:i7=7) :
  ((((((((c0::c1::c2::c3::c4::c5::c6::c7::B).set i7 x7).set i6 x6).set i5 x5).set i4 x4).set i3 x3).set i2 x2).set i1 x1).set 0 x0=x0::x1::x2::x3::x4::x5::x6::x7::B:=by simp_all
theorem afR(B:LdQ)(c0 c1 c2 c3 x0 x1 x2 x3:D){i2 i3:Nat}(h1:i1=1)(h2:i2=2)(h3:i3=3):
  ((((c0::c1::c2::c3::B).set i3 x3).set i2 x2).set i1 x1).set 0 x0=x0::x1::x2::x3::B:=by grind
theorem set2(B:LdQ)(c0 c1 x0 x1:D)(h1:i1=1):((c0::c1::B).set i1 x1).set 0 x0=x0::x1::B:=by grind
@[simp]theorem adt(i:Int):norm (smV i)=smV i:=rfl
theorem tc{x:Nat}(h:i=2*(x:Int)+1):smV i=u8 (dg (x%10)):=by rw[h,aaU]
theorem te{x:Nat}(h:i=2*(x:Int)):smV i=u8 (dg (x/10)):=by rw[h,aaV]
theorem aea(n w:Nat):dK n (w+8)=dK (n/100000000) w++[dg (n/1000000%100/10),dg (n/1000000%100%10),dg (n/10000%100/10),dg (n/10000%100%10),dg (n/100%100/10),dg (n/100%100%10),dg (n%100/10),dg (n%100%10)]:=by simp[Ef,Xn]
theorem XW(h0:Hp)(hh:h0.length=2)(k:KL)(off len cap tot:Nat)(pre post:LdQ)(hpre:pre.length=off):∀(r nd n:Nat)(mid done:LdQ),nd<=r->mid.length=nd->nd+done.length=len->len<=24->tot=off+len+post.length ->
  n<10^nd->n<18446744073709551616 ->
  (∀(n' nd':Nat)(mid' done':LdQ),nd'<8->mid'.length=nd'->nd'+done'.length=len->n'<10^nd'->(dK n' nd').map u8++done'=(dK n nd).map u8++done->k (.exit 0) [.d (.int .u64 n'),I nd'] [(1,.data 1 (pre++(mid'++(done'++post))) true false),nnQ]) ->
  lp (d7 (CX Y) 2 (.ref 0 1 off len cap tot)) [] h0 [.d (.int .u64 n),I nd] [(1,.data 1 (pre++(mid++(done++post))) true false),nnQ] k:=by
 intro r
 induction r with
 | zero=> 
  intro nd n mid done hr hm hd hl ht hn h64 hk;refine ak ?_;simp(disch:=try exact ac)[d7];exact hk n nd mid done aa hm hd hn rfl
 | succ r ih=>
  intro nd n mid done hr hm hd hl ht hn h64 hk;refine ak ?_;by_cases h8:8<=nd
  ·obtain ⟨m',c0,c1,c2,c3,c4,c5,c6,c7,rfl⟩:∃(m':LdQ)(c0 c1 c2 c3 c4 c5 c6 c7:D),mid=m'++[c0,c1,c2,c3,c4,c5,c6,c7]:=by
    obtain⟨c0,c1,c2,c3,c4,c5,c6,c7,e⟩:=adK (mid.drop (nd-8)) (by grind);exact⟨mid.take (nd-8),c0,c1,c2,c3,c4,c5,c6,c7,by rw[<-e,X8]⟩
   have e0:pre++(m'++[c0,c1,c2,c3,c4,c5,c6,c7]++(done++post))=(pre++m')++c0::c1::c2::c3::c4::c5::c6::c7::(done++post):=af;rw[e0];simp only[Zs,List.length_cons,List.length_nil]at hm;have hA:(pre++m').length=off+nd-8:=by simp;omega
   have e9:∀x0 x1 x2 x3 x4 x5 x6 x7:D,(pre++m')++x0::x1::x2::x3::x4::x5::x6::x7::(done++post)=pre++(m'++((x0::x1::x2::x3::x4::x5::x6::x7::done)++post)):=by intros;simp
   generalize pre++m'=A at *;unfold d7;simp only[GT];simp(disch:=try exact ac)[Zz,Zu];rw[afQ _ _ _ _ _ _ _ _ _ _ _ _ _ _ _ _ _ aa aa aa aa aa aa aa,e9]
   rw[tc (x:=n%100) (i:=(n:Int)%100*2+1) aa,te (x:=n%100) (i:=(n:Int)%100*2) aa,tc (x:=n/100%100) (i:=(n:Int)%10000/100*2+1) aa,te (x:=n/100%100) (i:=(n:Int)%10000/100*2) aa,tc (x:=n/10000%100) (i:=(n:Int)%100000000/10000%100*2+1) aa,te (x:=n/10000%100) (i:=(n:Int)%100000000/10000%100*2) aa,tc (x:=n/1000000%100) (i:=(n:Int)%100000000/10000/100*2+1) aa,te (x:=n/1000000%100) (i:=(n:Int)%100000000/10000/100*2) aa]
   obtain⟨w,rfl⟩:∃w,nd=w+8:=⟨nd-8,aa⟩;have hd8:=aea n w;rw[show((w+8:Nat):Int)-8=(w:Nat) by omega,show(n:Int)/100000000=((n/100000000:Nat):Int) by omega]
   refine ih w (n/100000000) m' (u8 (dg (n/1000000%100/10))::u8 (dg (n/1000000%100%10))::u8 (dg (n/10000%100/10))::u8 (dg (n/10000%100%10))::u8 (dg (n/100%100/10))::u8 (dg (n/100%100%10))::u8 (dg (n%100/10))::u8 (dg (n%100%10))::done) aa aa aM hl ht ?_ aa ?_
   .grind
   .intro n' nd' mid' done' g1 g2 g3 g4 g5;refine hk n' nd' mid' done' g1 g2 g3 g4 ?_;rw[g5,hd8];simp
  .simp(disch:=try exact ac)[d7];exact hk n nd mid done aa hm hd hn rfl
theorem MY{x:Nat}(h:x<10):u8 (dg x)=.int .u8 (48+x):=by unfold u8 dg;congr 1;simp;omega
theorem adL{α:Type}:∀(l:List α),l.length=4->∃c0 c1 c2 c3,l=[c0,c1,c2,c3]
 |[c0,c1,c2,c3],_=>⟨c0,c1,c2,c3,rfl⟩
 |[],h|[_],h|[_,_],h|[_,_,_],h=>by simp at h
 |_::_::_::_::_::_,h=>by grind
theorem adM{α:Type}:∀(l:List α),l.length=2->∃c0 c1,l=[c0,c1]
 |[c0,c1],_=>⟨c0,c1,rfl⟩
 |[],h|[_],h=>by simp at h
 |_::_::_::_,h=>by grind
theorem XX(n nd:Nat)(mid B:LdQ)(h8:nd<8)(hm:mid.length=nd)(hn:n<10^nd):∃(n1 nd1:Nat)(mid1 B1:LdQ),nd1<4∧mid1.length=nd1∧n1<10^nd1∧nd1+B1.length=nd+B.length∧(dK n1 nd1).map u8++B1=(dK n nd).map u8++B ∧
  ((4<=nd∧n1=n/10000∧nd1=nd-4∧(∃c0 c1 c2 c3,mid=mid1++[c0,c1,c2,c3])∧B1=u8 (dg (n/100%100/10))::u8 (dg (n/100%100%10))::u8 (dg (n%100/10))::u8 (dg (n%100%10))::B)∨(¬4<=nd∧n1=n∧nd1=nd∧mid1=mid∧B1=B)):=by
 by_cases h4:4<=nd
 .obtain⟨w,rfl⟩:∃w,nd=w+4:=⟨nd-4,aa⟩;obtain⟨c0,c1,c2,c3,e⟩:=adL (mid.drop w) (by grind);refine⟨n/10000,w,mid.take w,_,aa,by grind,?_,?_,?_,.inl ⟨h4,rfl,aa,⟨c0,c1,c2,c3,by rw[<-e,X8]⟩,rfl⟩⟩
  .grind
  .grind
  simp[Ef,Xn]
 .exact⟨n,nd,mid,B,aa,hm,hn,rfl,rfl,.inr ⟨h4,rfl,rfl,rfl,rfl⟩⟩
theorem abH(n nd:Nat)(mid B:LdQ)(h8:nd<4)(hm:mid.length=nd)(hn:n<10^nd):∃(n1 nd1:Nat)(mid1 B1:LdQ),nd1<2∧mid1.length=nd1∧n1<10^nd1∧nd1+B1.length=nd+B.length∧(dK n1 nd1).map u8++B1=(dK n nd).map u8++B ∧
  ((2<=nd∧n1=n/100∧nd1=nd-2∧(∃c0 c1,mid=mid1++[c0,c1])∧B1=u8 (dg (n%100/10))::u8 (dg (n%100%10))::B)∨(¬2<=nd∧n1=n∧nd1=nd∧mid1=mid∧B1=B)):=by
 by_cases h4:2<=nd
 .obtain⟨w,rfl⟩:∃w,nd=w+2:=⟨nd-2,aa⟩;obtain⟨c0,c1,e⟩:=adM (mid.drop w) (by grind);refine⟨n/100,w,mid.take w,_,aa,by grind,?_,?_,?_,.inl ⟨h4,rfl,aa,⟨c0,c1,by rw[<-e,X8]⟩,rfl⟩⟩
  .grind
  .grind
  simp[Ef]
 .exact⟨n,nd,mid,B,aa,hm,hn,rfl,rfl,.inr ⟨h4,rfl,rfl,rfl,rfl⟩⟩
def fbH(pre mid B:LdQ):Hp:=[(1,.data 1 (pre++(mid++B)) true false),nnQ]
theorem aal{off tot n d:Nat}{pre mid post:LdQ}(hpre:pre.length=off)(hm:mid.length=d)(hd:d<=24)(ht:tot=off+d+post.length)(hn:n<10^d)(h64:n<18446744073709551616):
  CI Y F.bL [.ref 0 1 off d cap tot,.d (.int .u64 n)] [(1,.data 1 (pre++(mid++post)) true false),nnQ] (.tup []) [(1,.data 1 (pre++((dK n d).map u8++post)) true false),nnQ]:=by
 refine rF ?_;unfold bL;simp only[GT];simp;refine lo (XW _ rfl _ off d cap tot pre post hpre d d n mid [] aa hm af hd ht hn h64 (fun n' nd mid' done g1 g2 g3 g4 g5=>?_));have hp8:10^nd<=10^7:=Z5 ae aa;simp only[Nat.reducePow]at hp8;simp(disch:=try exact ac)
 obtain⟨n1,d1,mid1,B1,f1,f2,f3,f4,f5,f6⟩:=XX n' nd mid' (done++post) g1 g2 g4;refine gH (l:=[.d (.int .u32 n1),I d1]) (h:=fbH pre mid1 B1) (fun q=>?_) ?_
 .rcases f6 with⟨c,rfl,rfl,⟨c0,c1,c2,c3,rfl⟩,rfl⟩|⟨c,rfl,rfl,rfl,rfl⟩
  .have e0:pre++(mid1++[c0,c1,c2,c3]++(done++post))=(pre++mid1)++c0::c1::c2::c3::(done++post):=af;rw[e0];simp only[Zs,List.length_cons,List.length_nil]at g2;have hA:(pre++mid1).length=off+nd-4:=by simp;omega
   have e9:∀x0 x1 x2 x3:D,(pre++mid1)++x0::x1::x2::x3::(done++post)=pre++(mid1++(x0::x1::x2::x3::(done++post))):=by intros;simp
   generalize pre++mid1=A at *;simp(disch:=try exact ac)[c,Zz,Zu];rw[afR _ _ _ _ _ _ _ _ _ aa aa aa,e9]
   rw[tc (x:=n'%100) (i:=(n':Int)%100*2+1) aa,te (x:=n'%100) (i:=(n':Int)%100*2) aa,tc (x:=n'/100%100) (i:=(n':Int)%10000/100*2+1) aa,te (x:=n'/100%100) (i:=(n':Int)%10000/100*2) aa];simp[fbH,I,show((nd-4:Nat):Int)=(nd:Int)-4 by omega]
  .simp(disch:=try exact ac)[c,fbH]
 have hp4:10^d1<=10^3:=Z5 ae aa;simp only[Nat.reducePow]at hp4;simp;obtain⟨n2,d2,mid2,B2,e1,e2,e3,e4,e5,e6⟩:=abH n1 d1 mid1 B1 f1 f2 f3;refine gH (l:=[.d (.int .u32 n2),I d2]) (h:=fbH pre mid2 B2) (fun q=>?_) ?_
 .rcases e6 with⟨c,rfl,rfl,⟨c0,c1,rfl⟩,rfl⟩|⟨c,rfl,rfl,rfl,rfl⟩
  .have e0:pre++(mid2++[c0,c1]++B1)=(pre++mid2)++c0::c1::B1:=af;rw[fbH,e0];simp only[Zs,List.length_cons,List.length_nil]at f2;have hA:(pre++mid2).length=off+d1-2:=by simp;omega
   have hB:tot=off+d1+B1.length:=by simp at f4;omega
   have e9:∀x0 x1:D,(pre++mid2)++x0::x1::B1=pre++(mid2++(x0::x1::B1)):=by intros;simp
   generalize pre++mid2=A at *;simp(disch:=try exact ac)[c,Zz,Zu];rw[set2 _ _ _ _ _ aa,e9];rw[tc (x:=n1%100) (i:=(n1:Int)%100*2+1) aa,te (x:=n1%100) (i:=(n1:Int)%100*2) aa];simp[fbH,I,show((d1-2:Nat):Int)=(d1:Int)-2 by omega]
  .simp(disch:=try exact ac)[c,fbH]
 simp
 have hend:fbH pre ((dK n2 d2).map u8) B2=[(1,.data 1 (pre++((dK n d).map u8++post)) true false),nnQ]:=by
  simp only[fbH];rw[e5,f5,<-List.append_assoc ((dK n' nd).map u8),g5];simp
 refine gH (l:=[]) (h:=fbH pre ((dK n2 d2).map u8) B2) (fun q=>?_) ?_
 .match d2,e1,mid2,e2 with
  |0,_,[],_=>simp[fbH,dK]
  | 1,_,[c0],_=>
   have hn2:n2<10:=by simpa using e3
   have hB:tot=off+1+B2.length:=by simp at f4;omega
   simp(disch:=try exact ac)[fbH,dK];rw[Ya hn2,MY hn2]
 rw[hend];simp[nB];exact⟨by trivial,.inl (by trivial)⟩
@[simp]theorem af9(s n:Nat)(cs:LdQ)(h:Hp)(k:kkQ)(u:PU k):rh (alD s n cs h) k u=rn (bnh h[s]?) (fun x=>k (.ptr s (x.1+1) 0 cs.length) (h.set s (x.1+1,.data n cs true false))) .mk:=by unfold rh rn alD;exact BL ..
def ndg(n:Nat):Nat:=if n<10 then 1 else ndg (n/10)+1
theorem kY(n:Nat):1<=ndg n:=by unfold ndg;split<;>omega
theorem cG:∀n:Nat,n<10^ndg n:=by
 intro n
 induction n using Nat.strongRecOn with
 | _ n ih=>
  unfold ndg;split
  .simpa using ‹n<10›
  .have:=ih (n/10) aa;rw[Nat.pow_succ];omega
theorem zB:∀n:Nat,0<n->10^(ndg n-1)<=n:=by
 intro n
 induction n using Nat.strongRecOn with
 | _ n ih=>
  intro h0;unfold ndg;split
  .simp;omega
  .have h1:=ih (n/10) aa aa;have h2:=kY (n/10);rw[show ndg (n/10)+1-1=(ndg (n/10)-1)+1 by omega,Nat.pow_succ];omega
theorem cS{n d:Nat}(h:n<10^d)(hd:1<=d):ndg n<=d:=by
 rcases Zg n with e|e
 .subst e;unfold ndg;rw[if_pos aa];exact hd
 .have h1:=zB n e;have:ndg n-1<d:=(Yr (a:=10) ae).1 aa;omega
def ai(n:Nat):LuQ:=dK n (ndg n)
def itoa(z:Int):LuQ:=if z<0 then 45::ai z.natAbs else ai z.natAbs
def UA:LuQ:=[48,49,50,51,52,53,54,55,56,57,97,98,99,100,101,102,103,104,105,106,107,108,109,110,111,112,113,114,115,116,117,118,119,120,121,122]
theorem ad7:([48,49,50,51,52,53,54,55,56,57,97,98,99,100,101,102,103,104,105,106,107,108,109,110,111,112,113,114,115,116,117,118,119,120,121,122]:LuQ)=UA:=rfl
theorem Ro:∀x:Fin 10,(UA.drop x.val).take 1=ai x.val:=aD
theorem Rp:∀x:Fin 100,10<=x.val->(p9.drop (2*x.val)).take 2=ai x.val:=by intro x hx;have h1:=(show ∀x:Fin 100,(p9.drop (2*x.val)).take 2=dK x.val 2 by decide+kernel) x;rw[h1,ai];congr 1;unfold ndg;rw[if_neg aa];unfold ndg;rw[if_pos aa]
theorem Lu{s:LuQ}{l:IntKind}{j:Int}(a b:Nat)(hi:i=a)(hj:j=b)(h1:a<=b)(h2:b<=s.length):slS (.d (.str s)) (some (.d (.int k i))) (some (.d (.int l j)))=some (.d (.str ((s.drop a).take (b-a)))):=by subst hi hj;simp only[slS,boV];rw[if_pos aa];simp only[];rw[if_pos aa];simp
theorem I5{n:Nat}(h:n<100):CP Y F.il [I n] (S (ai n)):=by
 refine yi ?_;unfold il;simp only[GT,ad7];by_cases c:n<10
 .simp(disch:=try exact ac)[c];rw[Lu n (n+1) aa aa aa (by rw[show UA.length=36 from rfl];omega)];have:=Ro ⟨n,c⟩;simp only[]at this;simp[this];exact eX rfl
 .simp(disch:=try exact ac)[c];rw[Lu (2*n) (2*n+2) aa aa aa (by rw[show p9.length=200 from rfl];omega)];have:=Rp ⟨n,h⟩ (by simpa using c);simp only[]at this;simp[this];exact eX rfl
theorem Al:∀l:LuQ,bytesD (l.map u8)=some l
 |[]=>rfl
 | b::l=>by
  have hb:=b.toNat_lt;simp only[Zx,u8,bytesD];rw[if_pos aa];have:=Al l;rw[this];simp
abbrev cH(cells:LdQ):Hp:=[(1,.data 1 cells true false),nnQ]
theorem Rt(hc:cells.length=24){l:IntKind}{j:Int}(a b:Nat)(hi:i=a)(hj:j=b)(h1:a<=b)(h2:b<=24):
  slP 24 1 (cH cells) (.ptr 0 1 0 24) (some (.d (.int k i))) (some (.d (.int l j)))=some (.ref 0 1 a (b-a) (24-a) 24):=by simp only[slP,cH,aC];simp[vH hj h2,vH hi h1,hc]
theorem GW(hc:cells.length=24){l:IntKind}{j:Int}(b:Nat)(hj:j=b)(h2:b<=24):
  slP 24 1 (cH cells) (.ptr 0 1 0 24) none (some (.d (.int l j)))=some (.ref 0 1 0 b 24 24):=by simp only[slP,cH,aC];simp[vH hj h2,El,hc]
theorem MA(hc:cells.length=24){i len:Nat}{bs:LuQ}(hl:i+len<=24)(he:(cells.drop i).take len=bs.map u8)(hb:bs.length=len):cvT (cH cells) (.ref 0 1 i len cap 24)=some (S bs):=by simp only[cvT,cellsOf,cH,aC];simp[hc,hl,he,hb,Al]
theorem Qg(h1 : -9223372036854775808<z)(h2:z<9223372036854775808):CP Y F.dw [I z,I 10] (S (itoa z)):=by
 refine uA ?_;have hd1:=kY z.natAbs;have hd2:ndg z.natAbs<=19:=cS aa aa;have hn:=cG z.natAbs;by_cases hs:0<=z∧z<100
 .obtain⟨hs1,hs2⟩:=hs;obtain⟨n,rfl⟩:∃n:Nat,z=n:=⟨z.toNat,aa⟩;simp[dw,hs1,hs2];refine cd (I5 (n:=n) aa) ?_;rw[show itoa (n:Int)=ai n by unfold itoa;rw[if_neg aa];rfl];exact eX rfl
 .have hcs:(0<=z∧¬z<100)∨¬0<=z:=aa;have hw:z<0->IntKind.wrap .u64 z=z+18446744073709551616:=fun h=>by rw[Fs];omega
  have hw2:z<0->IntKind.wrap .u64 (-(z+18446744073709551616)) = -z:=fun h=>by rw[Fs];omega
  have hn64:z.natAbs<18446744073709551616:=aa;have hn0:0<z.natAbs:=aa;have hab:(z.natAbs:Int)=if z<0 then -z else z:=by split<;>omega
  have hit:itoa z=if z<0 then 45::dK z.natAbs (ndg z.natAbs)else dK z.natAbs (ndg z.natAbs):=rfl
  have hlo:=zB z.natAbs hn0;generalize ndg z.natAbs=d at *;generalize z.natAbs=n at *
  obtain ⟨mid,post,hm,hp,hcell⟩:∃mid post:LdQ,mid.length=d∧post.length=23-d∧List.replicate 24 (D.int .u8 0)=[D.int .u8 0]++(mid++post):=by
   refine⟨List.replicate d (.int .u8 0),List.replicate (23-d) (.int .u8 0),af,af,?_⟩;rw[List.replicate_append_replicate,show d+(23-d)=23 by omega];rfl
  have hmain:cal (CX Y).p (cH ([D.int .u8 0]++(mid++post))) (.fn F.du [] []) [.d (.int .u64 n)] fun v12 h=>
    bnd (biI .add (.d (.int .i64 1)) v12) fun v13=>
    bnd (slP 24 1 h (.ptr 0 1 0 24) (some (.d (.int .i64 1))) (some v13)) fun v14=>
    cai (CX Y).i h (.fn F.bL [] []) [v14,.d (.int .u64 n)] 1 fun v15 h=>
    bnd (biI .lss (I z) (.d (.int .i64 0))) fun v16=>
    cnd v16 (
     bnd (ixP 24 1 (.ptr 0 1 0 24) (.d (.int .i64 0))) fun v17=>
     stD h 1 v17 (.d (.int .u8 45)) fun _ h=>
     bnd (biI .add (.d (.int .i64 1)) v12) fun v19=>
     bnd (slP 24 1 h (.ptr 0 1 0 24) none (some v19)) fun v20=>
     bnd (cvT h v20) fun v21=>
     out (S (itoa z)) v21 h) (
     bnd (biI .add (.d (.int .i64 1)) v12) fun v22=>
     bnd (slP 24 1 h (.ptr 0 1 0 24) (some (.d (.int .i64 1))) (some v22)) fun v23=>
     bnd (cvT h v23) fun v24=>
     out (S (itoa z)) v24 h):=by
   refine cd (u:=.mk) (xY hlo hn hd1 hn64) ?_;simp(disch:=try exact ac);rw[Rt aM 1 (d+1) aa aa aa aa];simp;refine io (h':=cH ([D.int .u8 0]++((dK n d).map u8++post))) (aal (pre:=[D.int .u8 0]) rfl hm aa aa hn hn64) ?_ af;by_cases g:z<0
   .rw[if_pos g]at hit;simp[g,bi,hp];rw[Pm _ _ _ _ _ _ _ _ _ (by simp[bi];omega) af];simp(disch:=try exact ac)[b6];rw[GW (by simp[bi];omega) (d+1) aa aa];simp;rw[MA (bs:=45::dK n d) (by simp[bi];omega) aa (by simp[u8,bi,List.take_append,Z1]) (by simp[bi])]
    rw[hit];simp;exact eX rfl
   .rw[if_neg g]at hit;simp(disch:=try exact ac)[g];rw[Rt (by simp[bi];omega) 1 (d+1) aa aa aa aa];simp;rw[MA (bs:=dK n d) (by simp[bi];omega) aa (by simp[bi,List.take_append,Z1]) (by simp[bi])];rw[hit];simp;exact eX rfl
  rcases hcs with⟨g1,g2⟩|g1
  .have g3:¬z<0:=aa;rw[if_neg g3]at hab;simp[dw,g1,g2];refine gH (l:=[.d (.int .u64 n)]) (h:=cH ([D.int .u8 0]++(mid++post))) (fun q=>?_) hmain;rw[<-hcell];simp(disch:=try exact ac)[g3,hab]
  .have g3:z<0:=aa;rw[if_pos g3]at hab;simp[dw,g1];refine gH (l:=[.d (.int .u64 n)]) (h:=cH ([D.int .u8 0]++(mid++post))) (fun q=>?_) hmain;rw[<-hcell];simp[g3,hab,hw g3,hw2 g3]
theorem abq(h1 : -9223372036854775808<z)(h2:z<9223372036854775808):CP Y F.kw [I z] (S (itoa z)):=by refine zQ ?_;simp[kw];refine cd (Qg h1 h2) ?_;exact eX rfl
theorem BS(h1 : -9223372036854775808<z)(h2:z<9223372036854775808):CP Y F.strconv_Itoa [I z] (S (itoa z)):=by refine Cs ?_;simp[strconv_Itoa];refine cd (abq h1 h2) ?_;exact eX rfl
def pq(b:UInt8):Bool:=decide (48<=b.toNat)&&decide (b.toNat<=57)
theorem ly{b:UInt8}:pq b=true↔48<=b.toNat∧b.toNat<=57:=by simp[pq]
def fq(a:Nat)(s:LuQ):Nat:=s.foldl (fun a b=>a*10+(b.toNat-48)) a
@[simp]theorem Gn(a:Nat):fq a []=a:=by unfold fq;rw[List.foldl_nil]
@[simp]theorem jW(a:Nat)(b:UInt8)(s:LuQ):fq a (b::s)=fq (a*10+(b.toNat-48)) s:=by unfold fq;rw[List.foldl_cons]
theorem HV(x:Nat):(dg x).toNat=(48+x)%256:=by simp[dg]
theorem ad8{b:UInt8}(h:pq b=true):dg (b.toNat-48)=b:=by rw[ly]at h;apply UInt8.toNat.inj;rw[HV];omega
theorem Gw:∀(s:LuQ)(a w:Nat),s.all pq=true->dK (fq a s) (w+s.length)=dK a w++s
 |[],a,w,_=>by simp
 | b::s,a,w,h=>by
  simp only[List.all_cons,Z8]at h;have:=Gw s (a*10+(b.toNat-48)) (w+1) h.2;have hb:=ly.1 h.1;rw[jW,List.length_cons,show w+(s.length+1)=w+1+s.length by omega,this];simp only[dK];rw[show(a*10+(b.toNat-48))/10=a by omega,show(a*10+(b.toNat-48))%10=b.toNat-48 by omega,ad8 h.1];simp
theorem DF:∀(s:LuQ)(a:Nat),a*10^s.length<=fq a s
 |[],a=>by simp
 | b::s,a=>by
  have:=DF s (a*10+(b.toNat-48));rw[jW,List.length_cons,Nat.pow_succ];refine Zy ?_ this;rw[Zq (10^s.length),<-Nat.mul_assoc];exact Zv _ aa
theorem sE:∀(s:LuQ)(a:Nat),s.all pq=true->fq a s<(a+1)*10^s.length
 |[],a,_=>by simp
 | b::s,a,h=>by
  simp only[List.all_cons,Z8]at h;have:=sE s (a*10+(b.toNat-48)) h.2;have hb:=ly.1 h.1;rw[jW,List.length_cons,Nat.pow_succ];refine Z3 this ?_;rw[Zq (10^s.length),<-Nat.mul_assoc];exact Zv _ aa
theorem Tb{n d:Nat}(h1:10^d<=n)(h2:n<10^(d+1)):ndg n=d+1:=by have:=cS h2 aa;have h3:=cG n;have:d<ndg n:=(Yr (a:=10) ae).1 aa;omega
def pM(s:LuQ):Bool:=!s.isEmpty&&s.all pq && !(decide (1<s.length)&&decide (s.headD 0=48))
theorem Dw{s:LuQ}(h:pM s=true):ai (fq 0 s)=s:=by
 simp only[pM,Z8,Zb,Xg,decide_eq_false_iff_not]at h;obtain⟨⟨h0,h1⟩,h2⟩:=h;cases s with
 |nil=>simp at h0
 | cons b s=>
  have hd:=Gw (b::s) 0 0 h1;simp only[List.all_cons,Z8]at h1;have hb:=ly.1 h1.1;simp only[Zk,dK,List.nil_append]at hd
  have hn:ndg (fq 0 (b::s))=(b::s).length:=by
   have lo:=DF s (b.toNat-48);have hi:=sE s (b.toNat-48) h1.2;simp only[jW,Wo,Zk,List.length_cons]at *;by_cases hs:s=[]
   .subst hs;simp only[Gn,List.length_nil,Zk];unfold ndg;rw[if_pos aa]
   .have hl:0<s.length:=X4.2 hs
    have hb0:b.toNat≠48:=by
     rcases h2 with h2|h2
     .omega
     .intro e;apply h2;simp only[List.headD_cons];apply UInt8.toNat.inj;rw[e];rfl
    refine Tb ?_ ?_
    .refine Zy ?_ lo;have:=Zv (10^s.length) (show 1<=b.toNat-48 by omega);omega
    .refine Z3 hi ?_;rw[Nat.pow_succ,Zq];exact Zw _ aa
  unfold ai;rw[hn];exact hd
theorem XN{x:Nat}(h:x<10):pq (dg x)=true:=by rw[ly,HV];omega
theorem abN{x:Nat}(h:x<10):(dg x).toNat=48+x:=by rw[HV];omega
theorem vz:∀(w n:Nat),(dK n w).all pq=true
 |0,_=>rfl
 | w+1,n=>by
  simp only[dK,Y3,vz w,List.all_cons,List.all_nil,Yg,Yk];exact XN aa
theorem tK:∀(s t:LuQ)(a:Nat),fq a (s++t)=fq (fq a s) t
 |[],t,a=>rfl
 |b::s,t,a=>by rw[List.cons_append,jW,jW,tK s t]
theorem wc:∀(w n:Nat),n<10^w->fq 0 (dK n w)=n
 |0,n,h=>by simp at h;subst h;rfl
 | w+1,n,h=>by
  have:=wc w (n/10) (by rw[Nat.pow_succ]at h;omega);simp only[dK,tK,this,jW,Gn];rw[abN aa];omega
theorem qN(n:Nat):pM (ai n)=true:=by
 have hl:(ai n).length=ndg n:=bi ..;have hp:=kY n;have ha:(ai n).all pq=true:=vz ..;have hh:fq 0 (ai n)=n:=wc _ _ (cG n);cases he:ai n with
 |nil=>rw[he]at hl;simp at hl;omega
 | cons b s=>
  rw[he]at hl ha hh;simp only[pM,List.isEmpty_cons,Bool.not_false,Yk,ha,List.headD_cons,Zb,Xg,decide_eq_false_iff_not];by_cases h1:1<(b::s).length
  .right;refine decide_eq_false fun e=>?_
   subst e;simp only[List.all_cons,Z8]at ha;have hi:=sE s 0 ha.2;simp only[jW,List.length_cons]at *;have e48:(48:UInt8).toNat=48:=rfl;rw[e48]at hh;simp only[Zd,Wo,Zk,Wt]at *;rw[hh]at hi
   have lo:=zB n (by
    rcases Zg n with e|e
    .have e1:ndg 0=1:=by unfold ndg;rfl
     rw[e,e1]at hl;omega
    .exact e)
   rw[<-hl]at lo;simp at lo;omega
  .left;simpa using h1
theorem dR(n:Nat):fq 0 (ai n)=n:=wc _ _ (cG n)
def rdS(s:LuQ):Option Int:=if s.headD 0=45 then(if pM s.tail=true∧s.tail≠[48]then some (-(fq 0 s.tail:Int))else none)else if pM s=true then some (fq 0 s:Int)else none
theorem vv(n:Nat):ai n≠[]:=by intro e;have:(ai n).length=ndg n:=bi ..;have:=kY n;rw[e]at *;simp at *;omega
theorem qK(n:Nat):(ai n).headD 0≠45:=by
 have ha:(ai n).all pq=true:=vz ..;cases he:ai n with
 |nil=>exact absurd he (vv n)
 | cons b s=>
  rw[he]at ha;simp only[List.all_cons,Z8,ly]at ha;simp only[List.headD_cons];intro e;subst e;have:(45:UInt8).toNat=45:=rfl;omega
theorem Jt(z:Int):rdS (itoa z)=some z:=by
 unfold rdS itoa;by_cases hz:z<0
 .rw[if_pos hz,List.headD_cons,if_pos rfl,List.tail_cons,qN,dR,if_pos]
  .congr 1;omega
  .refine⟨rfl,fun e=>?_⟩;have:=dR z.natAbs;rw[e]at this;have e2:fq 0 [48]=0:=rfl;omega
 .rw[if_neg hz,if_neg (qK _),if_pos (qN _),dR];congr 1;omega
theorem Sv{s:LuQ}(h:rdS s=some z):s=itoa z:=by
 unfold rdS at h;split at h
 .rename_i hd;split at h
  .rename_i hc;simp only[Z9]at h;subst h;cases s with
   |nil=>simp at hd
   | cons b s=>
    simp only[List.headD_cons]at hd;subst hd;simp only[List.tail_cons]at *;have he:=Dw hc.1
    have h0:fq 0 s≠0:=by
     intro e;rw[e]at he;apply hc.2;rw[<-he];unfold ai ndg;rfl
    unfold itoa;rw[if_pos aa,Xj,Int.natAbs_natCast,he]
  .cases h
 .split at h
  .rename_i hc;simp only[Z9]at h;subst h;unfold itoa;rw[if_neg aa,Int.natAbs_natCast,Dw hc]
  .cases h
theorem yD:∀(v w n:Nat),dK n (w+v)=dK (n/10^v) w++dK n v
 |0,w,n=>by simp[dK]
 | v+1,w,n=>by
  rw[show w+(v+1)=(w+v)+1 by omega];simp only[dK];rw[yD v w (n/10),Xn,Nat.pow_succ,Zq 10,List.append_assoc]
theorem yC:∀(w n m:Nat),dK (n+10^w*m) w=dK n w
 |0,_,_=>rfl
 | w+1,n,m=>by
  simp only[dK];have e:n+10^(w+1)*m=n+10*(10^w*m):=by rw[Nat.pow_succ,Zq (10^w) 10,Nat.mul_assoc]
  rw[e,Yc _ _ ae,Xe,yC w]
theorem P6{t k r:Nat}(ht:0<t)(hr:r<10^k):ai (r+10^k*t)=ai t++dK r k:=by
 have h1:=zB t ht;have h2:=cG t;have h3:=kY t;obtain⟨d,hd⟩:∃d,ndg t=d+1:=⟨ndg t-1,aa⟩
 have hn:ndg (r+10^k*t)=ndg t+k:=by
  rw[hd]at h1 h2 ⊢;simp only[Nat.add_sub_cancel]at h1;rw[show d+1+k=(d+k)+1 by omega];refine Tb ?_ ?_
  .rw[Yp,Zq];have:=Zw (10^k) h1;omega
  .rw[show d+k+1=k+(d+1) by omega,Yp];have:=Zw (10^k) h2;rw[Nat.mul_succ]at this;omega
 have e:=yD k (ndg t) (r+10^k*t);rw[<-hn,Yc _ _ (Nat.pos_of_ne_zero (by have:=X3 (a:=10) (n:=k) ae;omega)),W5 hr,Zk,yC]at e;exact e
theorem Aq:∀a:Fin 10,biI .and (.d (.int .u64 a.val)) (.d (.int .u64 4294967295))=some (.d (.int .u64 a.val)):=by
 intro a
 match a with
 |0|1|2|3|4|5|6|7|8|9=>rfl
@[simp]theorem agX{n:Nat}(h:n<10):biI .and (.d (.int .u64 (n:Int))) (.d (.int .u64 4294967295))=some (.d (.int .u64 n)):=Aq ⟨n,h⟩
@[simp]theorem agG:biI .and (.d (.int .u64 1)) (.d (.int .u64 4294967295))=some (.d (.int .u64 1)):=Aq 1
@[simp]theorem agH:biI .and (.d (.int .u64 0)) (.d (.int .u64 4294967295))=some (.d (.int .u64 0)):=Aq 0
theorem ix0:ixS (.d (.str [48])) (.d (.int .i64 0))=some (.d (.int .u8 48)):=rfl
def Ah:Nat->Nat->LnQ
 |_,0=>[]
 |n,w+1=>Ah (n/10) w++[n%10]
theorem Ee:∀(w n:Nat),(Ah n w).length=w
 |0,_=>rfl
 |w+1,n=>by simp[Ah,Ee w]
theorem BZ:∀(w n:Nat),∀x∈Ah n w,x<10
 |0,_=>by simp[Ah]
 | w+1,n=>by
  intro x hx;simp only[Ah,Yn,List.mem_singleton]at hx;rcases hx with hx|hx
  .exact BZ w _ x hx
  .omega
theorem HX:∀(w n:Nat),dK n w=(Ah n w).map dg
 |0,_=>rfl
 |w+1,n=>by simp[dK,Ah,HX w]
def XP(a:Nat)(l:LnQ):Nat:=l.foldl (fun a d=>a*10+d) a
theorem DC:∀(w n:Nat),n<10^w->XP 0 (Ah n w)=n
 |0,n,h=>by simp at h;subst h;rfl
 | w+1,n,h=>by
  have:=DC w (n/10) (by rw[Nat.pow_succ]at h;omega);unfold XP at this;simp only[XP,Ah,List.foldl_append,this,List.foldl_cons,List.foldl_nil];omega
def f8(x:Nat):D:=.int .u8 (48+x)
theorem UE(n w:Nat):(dK n w).map u8=(Ah n w).map f8:=by rw[HX,List.map_map];apply List.map_congr_left;intro x hx;exact MY (BZ w n x hx)
theorem Ii(k:KL)(h0:Hp)(hh:h0.length=0):∀(r a:LnQ)(s:Nat),(a++r).length<=18->(∀x∈r,x<10)->s<10^a.length ->
  (k (.exit 0) [I (XP s r)] []) ->
  lp (mp (CX Y) (lst f8 (a++r)) (I (a++r).length)) [] h0 [I s,I a.length] [] k
 | []=>by
  intro a s hN hx hs hk;refine ak ?_;simp[mp];exact hk
 | x::r=>by
  intro a s hN hx hs hk;simp at hN hx;have hs18:s<10^17:=Z3 hs (Z5 ae aa);simp only[Nat.reducePow]at hs18;have hx1:=hx.1;refine ak ?_;simp(disch:=try exact ac)[mp,f8];have:=Ii k h0 hh r (a++[x]) (s*10+x) aM hx.2 (by simp[Nat.pow_succ];omega) hk;simp at this
  rw[show(48+(x:Int)-48)=x by omega];exact this
theorem ZK{n w:Nat}(h1:1<=w)(h2:w<=18)(hn:n<10^w):CP Y F.gM [S (dK n w)] (.tup [I n,.d (.pl .nilIface)]):=by
 refine sC ?_;have hl:=Ee w n;have hlt:=BZ w n;have hh:=DC w n hn;have he:=UE n w;have hD:=HX w n;generalize dK n w=L at *;generalize Ah n w=l at *;cases l with
 |nil=>simp at hl;omega
 | cons x l=>
  have hx:=hlt x af
  have hi:ixS (S L) (.d (.int .i64 0))=some (.d (.int .u8 (48+x))):=by
   rw[hD];simp[ixS];have e:=MY hx;unfold u8 at e;injection e
  have hlen:L.length=w:=by rw[hD];simpa using hl
  have hlw:nh (S L)=some (I w):=by rw[HI,hlen]
  simp(disch:=try exact ac)[gM,hlw,hi]
  have hcv:∀(k:kkQ),cvB (S L) [] k=k (lst f8 (x::l)) []:=by
   intro k
   have:V.d (.sl L.length (L.map fun b=>.int .u8 b.toNat))=lst f8 (x::l):=by
    unfold lst;rw[hlen,hl,<-he];rfl
   simp only[cvB,this]
  refine gH (l:=[S L]) (h:=[]) (fun q=>?_) ?_
  .simp[show ¬(48+(x:Int)=43) by omega]
  show cvB (S L) [] _
  rw[hcv];simp;refine lo (Ii _ _ rfl (x::l) [] 0 (by simp at hl;simp;omega) hlt af ?_);simp[hi,hh];refine gH (l:=[I n]) (h:=[]) (fun q=>?_) ?_
  .simp[hh,show ¬(48+(x:Int)=45) by omega]
  exact⟨[],by simp[aJ,aw,norm]⟩
theorem Hk:biF .neq (.d (.pl .nilIface)) (.d (.pl .nilIface))=some (.d (.bool false)):=rfl
theorem Ih{n w:Nat}(h1:1<=w)(h2:w<=18)(hn:n<10^w):CP Y F.strconv_Atoi [S (dK n w)] (.tup [I n,.d (.pl .nilIface)]):=by refine uU ?_;simp[strconv_Atoi];refine cd (ZK h1 h2 hn) ?_;simp[Hk];exact⟨[],by simp[aJ,aw,norm]⟩
theorem CU(z:D):∀n,gD n [z]=List.replicate n z
 |0=>rfl
 |n+1=>by simp[gD,CU z n,List.replicate_succ]
@[simp] theorem af7 (s by_:Nat)(z:D)(h:Hp)(i:Int)(k:kkQ)(u:PU k)(h0:0<=i)(hb:by_*i<=281474976710656)(h1:i<=9223372036854775807):
  rh (mkS s by_ [z] h (.d (.int .i64 i)) (.d (.int .i64 i))) k u=rn (bnh h[s]?) (fun y=>k (.ref s (y.1+1) 0 i.toNat i.toNat i.toNat) (h.set s (y.1+1,.data 1 (List.replicate i.toNat z) true false))) .mk:=by unfold rh rn;simp only[mkS];rw[if_pos ⟨h0,Int.le_refl _,af,hb,h1⟩,BL];simp only[CU,Zc,List.length_singleton]
@[simp]theorem ae5(s e off len cap tot:Nat):bf (.ref s e off len cap tot)=some (.d (.int .i64 (len:Int))):=id rfl
theorem nu{T:kkQ->Prop}{k:kkQ}{u:PU k}(h:T k):rh T k u:=h
theorem cdz{h:Hp}{f:FuncId}{v:V}{k:kkQ}{u:PU k}(hs:aw h args=some (ds,h'))(hc:C f ds v)(hk:k v (if f9 v then h else h')):rh (cal C h (.fn f [] []) args) k u:=
 vG hs hc hk
section
variable{α:Type}{f:α->D}{o:List α}{h:Hp}{s e n:Nat}{ex fr:Bool}
end
theorem pi(clr:LnQ)(i:Nat)(x0 x:Nat×Bk)(h0 h:Hp):aL clr i (x0::h0) (x::h)=(if gG clr i=true then x else(x0.1,.none))::aL clr (i+1) h0 h:=by cases x0;cases x;rfl
theorem Pw(clr:LnQ)(i:Nat)(h:Hp):aL clr i [] h=h:=by cases h<;>rfl
theorem vW(clr:LnQ)(i:Nat)(x:Nat×Bk)(h:Hp):oU clr i (x::h)=((!gG clr i||offB clr x.2)&&oU clr (i+1) h):=by cases x;rfl
theorem PT(s:Nat):gG [] s=true:=rfl
theorem Df(t:Nat)(l:LnQ)(s:Nat):gG (t::l) s=(!(Nat.beq t s)&&gG l s):=rfl
theorem beq_lit(a b:Nat):Nat.beq a b=decide (a=b):=by
 by_cases h:a=b
 .subst h;simp[Xv]
 .rw[decide_eq_false h];cases hb:Nat.beq a b with
  |false=>rfl
  |true=>exact absurd (Zm hb) h
@[simp]theorem agZ(n:Nat):V.d (i9 n)=I n:=id rfl
@[simp]theorem agR(l:LnQ)(h:Hp)(hl:j<l.length):ld1 h (.dptr (l.map i9) j)=some (I ((nth 0 l j:Nat):Int)):=fB i9 0 l h hl
@[simp]theorem agh(l:LnQ)(h:Hp)(hl:j<l.length):ld1 h (.dptr (l.map u32) j)=some (.d (.int .u32 ((nth 0 l j:Nat):Int))):=fB u32 0 l h hl
@[simp]theorem agW(n:Nat):V.d (u32 n)=.d (.int .u32 n):=id rfl
theorem Qq{n by_:Nat}{h:Hp}{cells:LdQ}{z:LdQ}(hn:0<n){l:Nat}(hl:0<l)(hc:cells.length=l*n)(hb:l*by_<=140737488355328){q:kkQ}{u:PU q}
  (hq:q (.ref (h.length+1) 1 0 l l cells.length) (h++[(1,.data n [] true false),(1,.data n cells false false)])) :
  rh (apV false (h.length+1) n by_ (.ref (h.length+0) 1 0 0 0 0) (.d (.sl l cells)) (h++[(1,.data n [] true false),nnQ])) q u:=by
 unfold rh apV;simp only[cellsOf];rw[if_pos hc];unfold apC;rw[if_neg aa];have hg:aC (h++[(1,Bk.data n [] true false),nnQ]) (h.length+0) 1=.data n [] true false:=by simp[aC]
 simp only[hg];rw[if_pos ⟨trivial,rfl,Z7 _,af,hc⟩,if_neg aa,if_pos (by simpa using hb)];simp only[if_true,new];have hs:(h++[(1,Bk.data n [] true false),nnQ])[h.length+1]?=some nnQ:=af;simp only[hs];simpa using hq
@[simp] theorem adx {α:Type}(f:α->D){l:List α}(h:Hp)(hl:0<l.length)(k:V->Prop)(u:PU k):rn (xi h .eql (lst f l) (.d nPQ)) k u=k (.d (.bool false)):=by
 cases l with
 |nil=>simp at hl
 |cons x l=>exact rfl
def rZ(k:Int)(a b:LiQ):LiQ:=List.zipWith (fun x y=>x-k*y) a b
def bdZ(B:Nat)(l:LiQ):Bool:=l.all fun x=>decide (x.natAbs<10^B)
section
variable{α:Type}(d:α)(g:α->LiQ)(w:α->LiQ->α)
def xt(m:List α)(i c:Nat):Int:=nth 0 (g (nth d m i)) c
def atG(c:Nat)(m:List α):Nat->Nat->Int->Int
 |0,_,at_=>at_
 |r+1,i,at_=>atG c m r (i+1) (if xt d g m i c≠0∧(at_<0∨(xt d g m i c).natAbs<(xt d g m at_.toNat c).natAbs)then i else at_)
def jy(c o:Nat)(m:List α)(i:Nat):List α:=m.set i (w (nth d m i) (rZ ((xt d g m i c).fdiv (xt d g m o c)) (g (nth d m i)) (g (nth d m o))))
def kT(c o:Nat):Nat->Nat->Bool->List α->Bool×List α
 |0,_,b,m=>(b,m)
 |r+1,i,b,m=>kT c o r (i+1) (b||decide ((xt d g m i c).fmod (xt d g m o c)≠0)) (jy d g w c o m i)
def upG(c o:Nat):Nat->Nat->List α->List α
 |0,_,m=>m
 |r+1,i,m=>upG c o r (i+1) (jy d g w c o m i)
def AW(c o:Nat)(m:List α):List α:=if xt d g m o c<0 then m.set o (w (nth d m o) ((g (nth d m o)).map (- ·)))else m
def mg(m:List α)(i j:Nat):List α:=(m.set i (nth d m j)).set j (nth d m i)
def mG(B c:Nat):Nat->Nat->List α->Option (Nat×List α)
 |0,_,_=>none
 | f+1,o,m=>
  if (m.all fun a=>bdZ B (g a))=true then
   let a:=atG d g c m (m.length-o) o (-1)
   if a<0 then some (o,m)else
    let s:=kT d g w c o (m.length-(o+1)) (o+1) false (mg d m o a.toNat)
    if s.1=true then mG B c f o s.2 else some (o+1,upG d g w c o o 0 (AW d g w c o s.2))
  else none
def wT(B f:Nat):Nat->Nat->Nat->List α->Option (Nat×List α)
 |0,_,o,m=>some (o,m)
 | r+1,c,o,m=>if o<m.length then(match mG d g w B c f o m with
  |some (o',m')=>wT B f r (c+1) o' m'
  |none=>none)else some (o,m)
def DZ(B f columns:Nat)(m:List α):Option (Nat×List α):=wT d g w B f columns 0 0 m
end
section
variable{α:Type}{d:α}{g:α->LiQ}{w:α->LiQ->α}
theorem mP(c o:Nat)(m:List α)(i:Nat):(jy d g w c o m i).length=m.length:=by simp[jy]
theorem kS(c o:Nat):∀(r i:Nat)(b:Bool)(m:List α),(kT d g w c o r i b m).2.length=m.length
 |0,_,_,_=>rfl
 |r+1,i,b,m=>by simp only[kT];rw[kS,mP]
theorem MW(c o:Nat):∀(r i:Nat)(m:List α),(upG d g w c o r i m).length=m.length
 |0,_,_=>rfl
 |r+1,i,m=>by simp only[upG];rw[MW,mP]
theorem Di(c o:Nat)(m:List α):(AW d g w c o m).length=m.length:=by unfold AW;split<;>simp
theorem fJ(m:List α)(i j:Nat):(mg d m i j).length=m.length:=by simp[mg]
theorem MM(c:Nat)(m:List α):∀(r i:Nat)(a:Int),a<i->-1<=a->atG d g c m r i a<(i+r:Nat)∧-1<=atG d g c m r i a
 |0,i,a,h,h0=>⟨by simpa[atG]using h,h0⟩
 | r+1,i,a,h,h0=>by
  simp only[atG];have:=MM c m r (i+1) (if xt d g m i c≠0∧(a<0∨(xt d g m i c).natAbs<(xt d g m a.toNat c).natAbs)then i else a) (by split<;>omega) (by split<;>omega);exact⟨aa,this.2⟩
end
structure uK{α β:Type}(d:α)(g:α->LiQ)(w:α->LiQ->α)(d':β)(g':β->LiQ)(w':β->LiQ->β)(p:α->β):Prop where
 d:p d=d'
 g:∀a,g' (p a)=g a
 w:∀a r,p (w a r)=w' (p a) r
section
variable{α β:Type}{d:α}{g:α->LiQ}{w:α->LiQ->α}{d':β}{g':β->LiQ}{w':β->LiQ->β}{p:α->β}(H:uK d g w d' g' w' p)
include H
theorem uK.nth(m:List α)(i:Nat):nth d' (m.map p) i=p (nth d m i):=by simp only[Go.Vm.nth,Z0,List.getElem?_map];cases m[i]?<;>simp[H.d]
theorem uK.ent(m:List α)(i c:Nat):xt d' g' (m.map p) i c=xt d g m i c:=by simp[xt,H.nth,H.g]
theorem uK.take(c o:Nat)(m:List α)(i:Nat):jy d' g' w' c o (m.map p) i=(jy d g w c o m i).map p:=by simp only[jy,H.ent,H.nth,H.g,Xc,H.w]
theorem uK.at(c:Nat)(m:List α):∀(r i:Nat)(a:Int),atG d' g' c (m.map p) r i a=atG d g c m r i a
 |0,_,_=>rfl
 |r+1,i,a=>by simp only[atG,H.ent,uK.at c m r]
theorem uK.sweep(c o:Nat):∀(r i:Nat)(b:Bool)(m:List α),kT d' g' w' c o r i b (m.map p)=((kT d g w c o r i b m).1,(kT d g w c o r i b m).2.map p)
 |0,_,_,_=>rfl
 |r+1,i,b,m=>by simp only[kT,H.ent,H.take,uK.sweep c o r]
theorem uK.up(c o:Nat):∀(r i:Nat)(m:List α),upG d' g' w' c o r i (m.map p)=(upG d g w c o r i m).map p
 |0,_,_=>rfl
 |r+1,i,m=>by simp only[upG,H.take,uK.up c o r]
theorem uK.neg(c o:Nat)(m:List α):AW d' g' w' c o (m.map p)=(AW d g w c o m).map p:=by simp only[AW,H.ent,H.nth,H.g];split<;>simp[Xc,H.w]
theorem uK.swap(m:List α)(i j:Nat):mg d' (m.map p) i j=(mg d m i j).map p:=by simp[mg,H.nth,Xc]
theorem uK.round(B c:Nat):∀(f o:Nat)(m:List α),mG d' g' w' B c f o (m.map p)=(mG d g w B c f o m).map fun q=>(q.1,q.2.map p)
 |0,_,_=>rfl
 | f+1,o,m=>by
  have e:((m.map p).all fun a=>bdZ B (g' a))=m.all fun a=>bdZ B (g a):=by simp[List.all_map,Function.comp_def,H.g]
  simp only[mG,List.length_map,e,H.at,H.swap,H.sweep,H.neg,H.up,uK.round B c f];split
  .split
   .rfl
   .split<;>rfl
  .rfl
theorem uK.cols(B f:Nat):∀(r c o:Nat)(m:List α),wT d' g' w' B f r c o (m.map p)=(wT d g w B f r c o m).map fun q=>(q.1,q.2.map p)
 |0,_,_,_=>rfl
 | r+1,c,o,m=>by
  simp only[wT,List.length_map,H.round];split
  .cases mG d g w B c f o m with
   |none=>rfl
   |some q=>exact uK.cols B f r (c+1) q.1 q.2
  .rfl
theorem uK.form(B f c:Nat)(m:List α):DZ d' g' w' B f c (m.map p)=(DZ d g w B f c m).map fun q=>(q.1,q.2.map p):=H.cols B f c 0 0 m
end
abbrev Mz:=LLQ
def DY(B f c:Nat)(m:Mz):Option (Nat×Mz):=DZ [] (fun r=>r) (fun _ r=>r) B f c m
def QP(n:Nat)(m:Mz):Mz:=(List.range n).map fun c=>m.map (fun r=>nth 0 r c)++(List.replicate n (0:Int)).set c 1
def Em(k:Nat)(r:LiQ):Bool:=match r.findIdx? fun z=>decide (z≠0)with
 |some i=>decide (k<=i)
 |none=>false
def ab3(B f k n:Nat)(m:Mz):Option Mz:=
 let l:=(m.filter (Em k)).map (List.drop k)
 if l=[]then some []else match DY B f n l with
  |some (o,w)=>some (w.take o)
  |none=>none
def Mj(B f n:Nat)(m:Mz):Option Mz:=
 match DY B f (m.length+n) (QP n m)with
 |some (o,w)=>ab3 B f m.length n (w.take o)
 |none=>none
end Go.Vm
namespace Go.Proofs
open Go.Shelf
def Tryz.laysPu14_ren:Go.Shelf.Ren:=⟨fun|14=>178|16=>145|17=>110|19=>174|20=>175|21=>146|22=>147|23=>148|24=>149|25=>176|27=>52|26=>177|28=>76|29=>100|30=>131|31=>132|32=>133|33=>134|35=>162|34=>161|36=>163|37=>164|38=>165|39=>183|40=>184|n=>n,fun|9=>9|3=>3|22=>165|24=>137|25=>207|4=>4|34=>206|5=>5|36=>209|37=>193|0=>0|39=>210|21=>21|44=>240|47=>248|50=>251|48=>249|2=>2|52=>190|55=>194|59=>225|60=>226|20=>20|61=>227|65=>252|66=>253|67=>256|n=>n,fun|0=>1|1=>2|2=>0|3=>3|4=>4|n=>n⟩
theorem Tryz.laysPu14:Go.Proofs.LaysPu.n14 Tryz.prog Tryz.laysPu14_ren:={
 mixed:=ag
 f14:=Tryz.func178.trans (congrArg some ag)
 f16:=Tryz.func145.trans (congrArg some ag)
 f17:=Tryz.func110.trans (congrArg some ag)
 f19:=Tryz.func174.trans (congrArg some ag)
 f20:=Tryz.func175.trans (congrArg some ag)
 f21:=Tryz.func146.trans (congrArg some ag)
 f22:=Tryz.func147.trans (congrArg some ag)
 f23:=Tryz.func148.trans (congrArg some ag)
 f24:=Tryz.func149.trans (congrArg some ag)
 f25:=Tryz.func176.trans (congrArg some ag)
 f26:=Tryz.func177.trans (congrArg some ag)
 f27:=Tryz.func52.trans (congrArg some ag)
 f28:=Tryz.func76.trans (congrArg some ag)
 f29:=Tryz.func100.trans (congrArg some ag)
 f30:=Tryz.func131.trans (congrArg some ag)
 f31:=Tryz.func132.trans (congrArg some ag)
 f32:=Tryz.func133.trans (congrArg some ag)
 f33:=Tryz.func134.trans (congrArg some ag)
 f34:=Tryz.func161.trans (congrArg some ag)
 f35:=Tryz.func162.trans (congrArg some ag)
 f36:=Tryz.func163.trans (congrArg some ag)
 f37:=Tryz.func164.trans (congrArg some ag)
 f38:=Tryz.func165.trans (congrArg some ag)
 f39:=Tryz.func183.trans (congrArg some ag)
 f40:=Tryz.func184.trans (congrArg some ag)
 t0:=Tryz.underlying0
 a0:=Tryz.isAgg0
 z0:=Tryz.sizeOf0
 v0:=Tryz.zeroValue0
 i0:=ag
 t2:=Tryz.underlying2
 a2:=Tryz.isAgg2
 z2:=Tryz.sizeOf2
 v2:=Tryz.zeroValue2
 i2:=ag
 t3:=Tryz.underlying3
 a3:=Tryz.isAgg3
 z3:=Tryz.sizeOf3
 v3:=Tryz.zeroValue3
 i3:=ag
 t4:=Tryz.underlying4
 a4:=Tryz.isAgg4
 z4:=Tryz.sizeOf4
 v4:=Tryz.zeroValue4
 i4:=ag
 t5:=Tryz.underlying5
 a5:=Tryz.isAgg5
 z5:=Tryz.sizeOf5
 v5:=Tryz.zeroValue5
 i5:=ag
 t9:=Tryz.underlying9
 a9:=Tryz.isAgg9
 z9:=Tryz.sizeOf9
 v9:=Tryz.zeroValue9
 i9:=ag
 t20:=Tryz.underlying20
 a20:=Tryz.isAgg20
 z20:=Tryz.sizeOf20
 v20:=Tryz.zeroValue20
 i20:=ag
 t21:=Tryz.underlying21
 a21:=Tryz.isAgg21
 z21:=Tryz.sizeOf21
 v21:=Tryz.zeroValue21
 i21:=ag
 t22:=Tryz.underlying165
 a22:=Tryz.isAgg165
 z22:=Tryz.sizeOf165
 v22:=Tryz.zeroValue165
 i22:=ag
 t24:=Tryz.underlying137
 a24:=Tryz.isAgg137
 z24:=Tryz.sizeOf137
 v24:=Tryz.zeroValue137
 i24:=ag
 t25:=Tryz.underlying207
 a25:=Tryz.isAgg207
 z25:=Tryz.sizeOf207
 v25:=Tryz.zeroValue207
 i25:=ag
 t34:=Tryz.underlying206
 a34:=Tryz.isAgg206
 z34:=Tryz.sizeOf206
 v34:=Tryz.zeroValue206
 i34:=ag
 c34:=ag
 t36:=Tryz.underlying209
 a36:=Tryz.isAgg209
 z36:=Tryz.sizeOf209
 v36:=Tryz.zeroValue209
 i36:=ag
 t37:=Tryz.underlying193
 a37:=Tryz.isAgg193
 z37:=Tryz.sizeOf193
 v37:=Tryz.zeroValue193
 i37:=ag
 t39:=Tryz.underlying210
 a39:=Tryz.isAgg210
 z39:=Tryz.sizeOf210
 v39:=Tryz.zeroValue210
 i39:=ag
 t44:=Tryz.underlying240
 a44:=Tryz.isAgg240
 z44:=Tryz.sizeOf240
 v44:=Tryz.zeroValue240
 i44:=ag
 t47:=Tryz.underlying248
 a47:=Tryz.isAgg248
 z47:=Tryz.sizeOf248
 v47:=Tryz.zeroValue248
 i47:=ag
 t48:=Tryz.underlying249
 a48:=Tryz.isAgg249
 z48:=Tryz.sizeOf249
 v48:=Tryz.zeroValue249
 i48:=ag
 t50:=Tryz.underlying251
 a50:=Tryz.isAgg251
 z50:=Tryz.sizeOf251
 v50:=Tryz.zeroValue251
 i50:=ag
 t52:=Tryz.underlying190
 a52:=Tryz.isAgg190
 z52:=Tryz.sizeOf190
 v52:=Tryz.zeroValue190
 i52:=ag
 t55:=Tryz.underlying194
 a55:=Tryz.isAgg194
 z55:=Tryz.sizeOf194
 v55:=Tryz.zeroValue194
 i55:=ag
 t59:=Tryz.underlying225
 a59:=Tryz.isAgg225
 z59:=Tryz.sizeOf225
 v59:=Tryz.zeroValue225
 i59:=ag
 t60:=Tryz.underlying226
 a60:=Tryz.isAgg226
 z60:=Tryz.sizeOf226
 v60:=Tryz.zeroValue226
 i60:=ag
 t61:=Tryz.underlying227
 a61:=Tryz.isAgg227
 z61:=Tryz.sizeOf227
 t65:=Tryz.underlying252
 a65:=Tryz.isAgg252
 z65:=Tryz.sizeOf252
 v65:=Tryz.zeroValue252
 i65:=ag
 t66:=Tryz.underlying253
 a66:=Tryz.isAgg253
 z66:=Tryz.sizeOf253
 v66:=Tryz.zeroValue253
 i66:=ag
 t67:=Tryz.underlying256
 a67:=Tryz.isAgg256
 z67:=Tryz.sizeOf256
 v67:=Tryz.zeroValue256
 i67:=ag
 g0:=ag
 m0:=ag
 g1:=ag
 m1:=ag
 g2:=ag
 m2:=ag
 g3:=ag
 m3:=ag
 g4:=ag
 m4:=by kernel_rfl}
def Tryz.laysC174_ren:Go.Shelf.Ren:=⟨fun|174=>80|247=>109|245=>110|287=>145|279=>146|280=>147|281=>148|282=>149|321=>174|322=>175|316=>176|171=>52|205=>177|243=>76|246=>100|283=>131|284=>132|285=>133|286=>134|129=>162|317=>161|318=>163|319=>164|320=>165|337=>183|338=>184|n=>n,fun|9=>9|3=>3|2=>2|75=>137|85=>138|4=>4|167=>206|5=>5|53=>165|175=>207|46=>209|168=>210|37=>193|0=>0|210=>240|21=>21|127=>248|145=>251|143=>249|171=>190|173=>194|212=>225|51=>226|20=>20|213=>227|232=>252|233=>253|80=>256|n=>n,fun|15=>1|16=>2|17=>0|18=>3|19=>4|n=>n⟩
theorem Tryz.laysC174:Go.Proofs.LaysC.n174 Tryz.prog Tryz.laysC174_ren:={
 mixed:=ag
 f129:=Tryz.func162.trans (congrArg some ag)
 f171:=Tryz.func52.trans (congrArg some ag)
 f174:=Tryz.func80.trans (congrArg some ag)
 f205:=Tryz.func177.trans (congrArg some ag)
 f243:=Tryz.func76.trans (congrArg some ag)
 f245:=Tryz.func110.trans (congrArg some ag)
 f246:=Tryz.func100.trans (congrArg some ag)
 f247:=Tryz.func109.trans (congrArg some ag)
 f279:=Tryz.func146.trans (congrArg some ag)
 f280:=Tryz.func147.trans (congrArg some ag)
 f281:=Tryz.func148.trans (congrArg some ag)
 f282:=Tryz.func149.trans (congrArg some ag)
 f283:=Tryz.func131.trans (congrArg some ag)
 f284:=Tryz.func132.trans (congrArg some ag)
 f285:=Tryz.func133.trans (congrArg some ag)
 f286:=Tryz.func134.trans (congrArg some ag)
 f287:=Tryz.func145.trans (congrArg some ag)
 f316:=Tryz.func176.trans (congrArg some ag)
 f317:=Tryz.func161.trans (congrArg some ag)
 f318:=Tryz.func163.trans (congrArg some ag)
 f319:=Tryz.func164.trans (congrArg some ag)
 f320:=Tryz.func165.trans (congrArg some ag)
 f321:=Tryz.func174.trans (congrArg some ag)
 f322:=Tryz.func175.trans (congrArg some ag)
 f337:=Tryz.func183.trans (congrArg some ag)
 f338:=Tryz.func184.trans (congrArg some ag)
 t0:=Tryz.underlying0
 a0:=Tryz.isAgg0
 z0:=Tryz.sizeOf0
 v0:=Tryz.zeroValue0
 t2:=Tryz.underlying2
 a2:=Tryz.isAgg2
 z2:=Tryz.sizeOf2
 v2:=Tryz.zeroValue2
 t3:=Tryz.underlying3
 a3:=Tryz.isAgg3
 z3:=Tryz.sizeOf3
 v3:=Tryz.zeroValue3
 t4:=Tryz.underlying4
 a4:=Tryz.isAgg4
 z4:=Tryz.sizeOf4
 v4:=Tryz.zeroValue4
 t5:=Tryz.underlying5
 a5:=Tryz.isAgg5
 z5:=Tryz.sizeOf5
 v5:=Tryz.zeroValue5
 t9:=Tryz.underlying9
 a9:=Tryz.isAgg9
 z9:=Tryz.sizeOf9
 v9:=Tryz.zeroValue9
 t20:=Tryz.underlying20
 a20:=Tryz.isAgg20
 z20:=Tryz.sizeOf20
 v20:=Tryz.zeroValue20
 t21:=Tryz.underlying21
 a21:=Tryz.isAgg21
 z21:=Tryz.sizeOf21
 v21:=Tryz.zeroValue21
 t37:=Tryz.underlying193
 a37:=Tryz.isAgg193
 z37:=Tryz.sizeOf193
 v37:=Tryz.zeroValue193
 t46:=Tryz.underlying209
 a46:=Tryz.isAgg209
 z46:=Tryz.sizeOf209
 v46:=Tryz.zeroValue209
 t51:=Tryz.underlying226
 a51:=Tryz.isAgg226
 z51:=Tryz.sizeOf226
 v51:=Tryz.zeroValue226
 t53:=Tryz.underlying165
 a53:=Tryz.isAgg165
 z53:=Tryz.sizeOf165
 v53:=Tryz.zeroValue165
 t75:=Tryz.underlying137
 a75:=Tryz.isAgg137
 z75:=Tryz.sizeOf137
 v75:=Tryz.zeroValue137
 t85:=Tryz.underlying138
 a85:=Tryz.isAgg138
 z85:=Tryz.sizeOf138
 v85:=Tryz.zeroValue138
 t127:=Tryz.underlying248
 a127:=Tryz.isAgg248
 z127:=Tryz.sizeOf248
 v127:=Tryz.zeroValue248
 t143:=Tryz.underlying249
 a143:=Tryz.isAgg249
 z143:=Tryz.sizeOf249
 v143:=Tryz.zeroValue249
 t145:=Tryz.underlying251
 a145:=Tryz.isAgg251
 z145:=Tryz.sizeOf251
 v145:=Tryz.zeroValue251
 t167:=Tryz.underlying206
 a167:=Tryz.isAgg206
 z167:=Tryz.sizeOf206
 v167:=Tryz.zeroValue206
 t168:=Tryz.underlying210
 a168:=Tryz.isAgg210
 z168:=Tryz.sizeOf210
 v168:=Tryz.zeroValue210
 t171:=Tryz.underlying190
 a171:=Tryz.isAgg190
 z171:=Tryz.sizeOf190
 v171:=Tryz.zeroValue190
 t173:=Tryz.underlying194
 a173:=Tryz.isAgg194
 z173:=Tryz.sizeOf194
 v173:=Tryz.zeroValue194
 t175:=Tryz.underlying207
 a175:=Tryz.isAgg207
 z175:=Tryz.sizeOf207
 v175:=Tryz.zeroValue207
 t210:=Tryz.underlying240
 a210:=Tryz.isAgg240
 z210:=Tryz.sizeOf240
 v210:=Tryz.zeroValue240
 t212:=Tryz.underlying225
 a212:=Tryz.isAgg225
 z212:=Tryz.sizeOf225
 v212:=Tryz.zeroValue225
 t213:=Tryz.underlying227
 a213:=Tryz.isAgg227
 z213:=Tryz.sizeOf227
 t232:=Tryz.underlying252
 a232:=Tryz.isAgg252
 z232:=Tryz.sizeOf252
 v232:=Tryz.zeroValue252
 t233:=Tryz.underlying253
 a233:=Tryz.isAgg253
 z233:=Tryz.sizeOf253
 v233:=Tryz.zeroValue253
 g15:=ag
 g16:=ag
 g17:=ag
 g18:=ag
 g19:=ag
 t80:=Tryz.underlying256
 a80:=Tryz.isAgg256
 z80:=Tryz.sizeOf256
 v80:=Tryz.zeroValue256
 i0:=ag
 i2:=ag
 i3:=ag
 i4:=ag
 i5:=ag
 i9:=ag
 i20:=ag
 i21:=ag
 i37:=ag
 i46:=ag
 i51:=ag
 i53:=ag
 i75:=ag
 i80:=ag
 i85:=ag
 i127:=ag
 i143:=ag
 i145:=ag
 i167:=ag
 i168:=ag
 i171:=ag
 i173:=ag
 i175:=ag
 i210:=ag
 i212:=ag
 i232:=ag
 i233:=ag
 m15:=ag
 m16:=ag
 m17:=ag
 m18:=ag
 m19:=ag
 c0:=ag
 c2:=ag
 c3:=ag
 c4:=ag
 c5:=ag
 c9:=ag
 c20:=ag
 c21:=ag
 c37:=ag
 c46:=ag
 c51:=ag
 c53:=ag
 c75:=ag
 c80:=ag
 c85:=ag
 c127:=ag
 c143:=ag
 c145:=ag
 c167:=ag
 c168:=ag
 c171:=ag
 c173:=ag
 c175:=ag
 c210:=ag
 c212:=ag
 c213:=ag
 c232:=ag
 c233:=by kernel_rfl}
end Go.Proofs
namespace Go.Vm
open Go Go.Am
variable{l:LuQ}
theorem Oz:∀(l:LuQ)(a:Nat),a<=oV a l
 |[],a=>Z7 _
 | c::l,a=>by
  have h:a*10+(c.toNat-48)<=oV (a*10+(c.toNat-48)) l:=Oz l _;have e:oV a (c::l)=oV (a*10+(c.toNat-48)) l:=rfl;generalize oV a (c::l)=y at *;generalize oV (a*10+(c.toNat-48)) l=z at *;generalize c.toNat-48=d at *;omega
theorem qe:∀(l:LuQ)(a:Nat),l.all nP=true->oV a l<10000000000000000000->Lib.parseUintM (2^64-1) a l=.ok (oV a l)
 |[],a,_,_=>rfl
 | c::l,a,h,hd=>by
  simp only[List.all_cons,Z8,nP,Nat.ble_eq]at h;have e:oV a (c::l)=oV (a*10+(c.toNat-48)) l:=rfl;rw[e]at hd ⊢;have hge:=Oz l (a*10+(c.toNat-48));rw[Lib.parseUintM,if_pos h.1,if_neg aa,if_neg aa];exact qe l _ h.2 hd
theorem frz(w:World)(e:TypeId)(s:ByteArray):w.heap.size<=(Lib.bytesWorld w e s).heap.size∧(∀c,c<w.heap.size->(Lib.bytesWorld w e s).heap[c]?=w.heap[c]?)∧(Lib.bytesWorld w e s).os=w.os∧(Lib.bytesWorld w e s).output=w.output:=
 ⟨by rw[Lib.bytesWorld_size];omega,fun c hc=>Lib.bytesWorld_at_old w e s c hc,rfl,rfl⟩
theorem UB{c:UInt8}(h:nP c=true):¬c.toNat=43∧¬c.toNat=45:=by simp only[nP,Z8,Nat.ble_eq]at h;omega
theorem PI(hne:l≠[])(hall:l.all nP=true)(hlt:oV 0 l<9223372036854775808):Lib.parseIntB 64 l=.ok (oV 0 l:Int):=by
 cases l with
 |nil=>exact absurd rfl hne
 | cons c r=>
  have hc:=UB (Z2.1 hall c af)
  have hp:Lib.parseUintB 64 (c::r)=.ok (oV 0 (c::r)):=by
   rw[Lib.parseUintB,if_neg hne];exact qe _ _ hall aa
  unfold Lib.parseIntB;simp only[hc.1,hc.2,or_self,if_false,hp];rw[if_neg aM,if_neg af]
theorem PH(hne:l≠[])(hall:l.all nP=true)(hlt:oV 0 l<9223372036854775808):Lib.parseIntB 64 (45::l)=.ok (-(oV 0 l:Int)):=by
 have hp:Lib.parseUintB 64 l=.ok (oV 0 l):=by
  rw[Lib.parseUintB,if_neg hne];exact qe _ _ hall aa
 have h45:(45:UInt8).toNat=45:=rfl;unfold Lib.parseIntB;simp only[h45,or_true,if_true,hp];rw[if_neg af,if_neg aM]
theorem adn:aaF X:=by
 intro f args v h;simp only[X]at h;split at h
 .rename_i hf;obtain rfl:=Zm hf;unfold Jy at h;split at h
  .rename_i s a b;split at h
   .rename_i hc;obtain⟨rfl,rfl,hne,hall,hsz,hlt⟩:=hc;obtain rfl:=Option.some.inj h;refine⟨rfl,rfl,.inr ⟨⟨_,Go.Proofs.Tryz.func178,ag,ag⟩,fun w=>?_⟩⟩
    have hp:Lib.parseUintB 64 s.data.toList=.ok (oV 0 s.data.toList):=by
     rw[Lib.parseUintB,if_neg hne];exact qe _ _ hall hlt
    have hsz2:s.size=s.data.toList.length:=by rw[Array.length_toList];rfl
    have hmax:s.size≤9223372036854775806:=aa;refine(Go.Proofs.Any.strconv_ParseUint_10_at64_ok Go.Proofs.Tryz.laysPu14 s hmax _ hp w).mono ?_;rintro e w' ⟨rfl,rfl|rfl⟩
    .exact⟨rfl,Z7 _,fun _ _=>rfl,rfl,rfl⟩
    .exact⟨rfl,frz w _ s⟩
   .cases h
  .cases h
 .split at h
  .rename_i hf;obtain rfl:=Zm hf
   have key:∀(s:ByteArray)(z:Int),s.data.toList.length≤1001→Lib.parseIntB 64 s.data.toList=.ok z→v=.tuple #[.int .i64 z,.nilIface]→args=[.string s,.int .i64 10,.int .i64 64] →
     jP args=true∧plain v=true∧(MR X F.eV args v∨(∃fn,Go.Proofs.Tryz.prog.funcs[F.eV]?=some fn∧fn.body.isNone=false∧(fn.name == "runtime.NumGoroutine")=false) ∧
     ∀w,Calls Go.Proofs.Tryz.prog F.eV args.toArray w fun e w'=>e=.returned v∧w.heap.size≤w'.heap.size∧(∀c,c<w.heap.size→w'.heap[c]?=w.heap[c]?)∧w'.os=w.os∧w'.output=w.output):=by
    intro s z hl hp hv ha;subst hv;subst ha;refine⟨rfl,rfl,.inr ⟨⟨_,Go.Proofs.Tryz.func80,ag,ag⟩,fun w=>?_⟩⟩;have hsz2:s.size=s.data.toList.length:=by rw[Array.length_toList];rfl
    refine(Go.Proofs.Any.strconv_ParseInt_10_at64_ok Go.Proofs.Tryz.laysC174 s aa z hp w).mono ?_;rintro e w' ⟨rfl,rfl|⟨t,rfl⟩⟩
    .exact⟨rfl,Z7 _,fun _ _=>rfl,rfl,rfl⟩
    .exact⟨rfl,frz w _ t⟩
   unfold NK at h;split at h
   .rename_i s a b;split at h
    .rename_i hab;obtain⟨rfl,rfl⟩:=hab;split at h
     .rename_i l hs;split at h
      .rename_i hc;obtain⟨hne,hall,hsz,hlt⟩:=hc;obtain rfl:=Option.some.inj h;exact key s _ (by rw[hs];simp;omega) (by rw[hs];exact PH hne hall hlt) rfl rfl
      .cases h
     .rename_i l hs;split at h
      .rename_i hc;obtain⟨hne,hall,hsz,hlt⟩:=hc;obtain rfl:=Option.some.inj h;exact key s _ aa (PI hne hall hlt) rfl rfl
      .cases h
    .cases h
   .cases h
  .cases h
end Go.Vm
namespace Go.Proofs
open Go.RowKit Go.Shelf
attribute [local go_sem] Oper.semAt_some
def acb(W:World)(B o k c s:Nat):Prop:=∃(a:Option Addr)(cap:Nat),W.cell? ⟨B,o,none⟩=some (.slice a k cap)∧(0<k->a=some ⟨c,s,none⟩)
def aeA(W:World)(B o B2 o2 k c s c2 s2:Nat)(us vs:LvQ):Prop:=
 acb W B o k c s∧acb W B2 o2 k c2 s2∧(∀(i:Nat) v,us[i]?=some v->W.cell? ⟨c,s+i,none⟩=some v)∧∀(i:Nat) v,vs[i]?=some v->W.cell? ⟨c2,s2+i,none⟩=some v
set_option maxRecDepth 100000 in
set_option maxHeartbeats 2000000 in
theorem ZP(l B o k c s c2 s2:Nat)(us vs:LvQ)(hu:us.length=k)(hv:vs.length=k)(hk:k<4611686018427387904)(J Jx:Nat->World->Prop)
  (hV:∀i W1,J i W1->aeA W1 B o B (o+1) k c s c2 s2 us vs)
  (hY:∀(i:Nat) x y W1,J i W1->us[i]?=some x->vs[i]?=some y->YieldAt (Go.Am.Fw none) 0 Tryz.prog l #[x,y] W1 fun e W'=>(e=.returned (.bool true)∧J (i+1) W')∨(e=.returned (.bool false)∧Jx (i+1) W'))
  (W:World) (h0:J 0 W) :
  CallsIn (Go.Am.Fw none) 1 Tryz.prog 127 #[.func (.yield l) #[] #[],.pointer (some ⟨B,o,none⟩)] W fun e W'=>(∃v,e=.returned v)∧(J k W'∨∃i,Jx i W'):=by
 refine callsIn_of_wp Tryz.func127 rfl trivial ?_ rfl;simp only[Tryz.ntmps127,List.size_toArray,List.length_cons,List.length_nil,Nat.reduceAdd,Nat.reduceSub,Array.replicate_succ,Array.replicate_zero,List.push_toArray,List.append_toArray,List.nil_append,List.cons_append];obtain⟨⟨a,cap,hc0,ha⟩,_⟩:=hV 0 W h0
 gi_wp2
 gi_loopw [8] (fun i wr=>∃j:Nat,j<=k∧i=.int .i64 j∧J j wr) (fun i _=>k-(intOf i).toNat)
 case atStart=>grind
 case round=>
  obtain⟨j,hj,rfl,hJs⟩:=hrel;by_cases hlt:j<k
  .obtain rfl:=ha aa;have ex:∃x,us[j]?=some x:=⟨_,List.getElem?_eq_getElem aa⟩;have ey:∃y,vs[j]?=some y:=⟨_,List.getElem?_eq_getElem aa⟩;obtain⟨x,hx⟩:=ex;obtain⟨y,hy'⟩:=ey;obtain⟨_,⟨a2,cap2,hc2,ha2⟩,hus,hvs⟩:=hV j wr hJs;obtain rfl:=ha2 aa;have hcx:=hus j x hx;have hcy:=hvs j y hy';obtain⟨fn,tmps,assign,body,hy,hR⟩:=hY j x y wr hJs hx hy'
   clear hx hy' hus hvs
   gi_wp2
   refine hR.mono ?_;rintro e W3 (⟨rfl,hJ3⟩|⟨rfl,hJx3⟩)
   .gi_wp2
    go_roundw
    case rel=>exact⟨j+1,aa,af,hJ3⟩
    case measure=>simp[intOf];omega
   .gi_wp2
    refine bodyPost_ret (results_none rfl _ _ _) rfl ?_;exact⟨⟨_,rfl⟩,.inr ⟨_,hJx3⟩⟩
  .obtain rfl:j=k:=aa
   gi_wp2
   simp_all[bodyPost_end,results_none]
end Go.Proofs
namespace Go.Vm
open Go Go.Am Go.Proofs
noncomputable section
variable{f:FuncId}{p q v a b:Value}{xs:List LvQ}
theorem Qw{P:Program}{args:Array Value}{w:World}{R:Ending->World->Prop}(h:CallsIn (Fw none) 1 P f args w R):CallsIn (Fw none) 0 P f args w R:=
 ⟨h.1,fun cs _=>h.2 cs (fun d hd=>by trivial)⟩
def hd1(x:LvQ):Value:=x.headD default
def sd1(x:LvQ):Value:=x.tail.headD default
theorem MS:∀(us vs:LvQ),us.length=vs.length->(((us.zip vs).map fun x=>[x.1,x.2]).map hd1)=us∧(((us.zip vs).map fun x=>[x.1,x.2]).map sd1)=vs
 |[],[],_=>⟨rfl,rfl⟩
 | u::us,v::vs,h=>by
  obtain⟨h1,h2⟩:=MS us vs (by grind);simp only[List.zip_cons_cons,Zx,h1,h2];trivial
 |[],_::_,h=>by simp at h
 |_::_,[],h=>by simp at h
theorem Ip{H:AH}(h:K6 H p q=some xs):mC H 1 p=some (xs.length,xs.map hd1)∧mC H 1 q=some (xs.length,xs.map sd1)∧xs.length<4611686018427387904∧Mk p=true∧Mk q=true ∧
  ∀x∈xs,x=[hd1 x,sd1 x]∧plain (hd1 x)=true∧plain (sd1 x)=true:=by
 unfold K6 at h;split at h
 case h_2=>cases h
 rename_i k us k' vs hp hq;split at h
 case isFalse=>cases h
 rename_i hc;obtain⟨h1,h2,h3,h4,h5,h6,h7⟩:=hc;simp only[Z9]at h;subst h;obtain⟨m1,m2⟩:=MS us vs aa;have hl:((us.zip vs).map fun x=>[x.1,x.2]).length=k:=by simp;omega
 rw[m1,m2,hl];simp only[Z8]at h5;refine⟨hp,by rw[hq,h1],h4,h5.1,h5.2,fun x hx=>?_⟩;obtain⟨⟨a,b⟩,hab,rfl⟩:=Zf.1 hx;have:=List.of_mem_zip hab;have e1:=Z2.1 h6 a this.1;have e2:=Z2.1 h7 b this.2;simp only[Z8]at e1 e2;exact⟨rfl,e1.1,e2.1⟩
theorem Ng{X:Cfg}{φ:bK}(hp:Mk p=true)(hv:ax φ p v):∃c s:Nat,∀(φ':bK)(H':AH)(w':World)(k:Nat)(us:LvQ),bw X φ' H' w'->PLe φ φ'->mC H' 1 p=some (k,us)->us.length=k->(∀u∈us,plain u=true) ->
  ∀B o v',w'.cell? ⟨B,o,none⟩=some v'->ax φ' p v'->acb w' B o k c s∧∀(i:Nat) u,us[i]?=some u->w'.cell? ⟨c,s+i,none⟩=some u:=by
 cases p<;>simp only[Mk]at hp<;>try cases hp
 rename_i a n cap;cases a with
 | none=>
  refine⟨0,0,fun φ' H' w' k us hh _ hs hk _ B o v' hc hv'=>?_⟩;have e:=gJ hv';subst e;cases n with
  | zero=>
   simp only[mC,Z9,Z6]at hs;obtain⟨rfl,rfl⟩:=hs;exact⟨⟨none,cap,hc,fun h=>absurd h aa⟩,fun i u hi=>by simp at hi⟩
  |succ n=>trivial
 | some a=>
  obtain⟨a',c',rfl,hs⟩:=gV hv
  have hpl:a.spot=none∧∃pl,φ a.block=some pl:=by
   rcases hs with⟨h1,_,pl,hp,_⟩|⟨h1,_,_,_,pl,hp⟩
   .grind
   .grind
  obtain⟨hsp,pl,hpl⟩:=hpl;obtain⟨b,off,sp⟩:=a;simp only at hsp hpl;subst hsp;refine⟨pl.c,pl.s+off,fun φ' H' w' k us hh hle hs' hk hpl' B o v' hc hv'=>?_⟩;obtain⟨⟨b2,o2,s2⟩,c2,rfl,hs2⟩:=gV hv';have hpb:=hle _ _ hpl;simp only[mC]at hs';split at hs'
  .rename_i hn;simp only[Z9,Z6]at hs';obtain⟨rfl,rfl⟩:=hs';subst hn;exact⟨⟨_,c2,hc,fun h=>absurd h aa⟩,fun i u hi=>by simp at hi⟩
  .rename_i hn;simp only[Ye,Z4,Z6]at hs';obtain⟨cs,hr,rfl,rfl⟩:=hs';obtain⟨cs',r1,r2,r3,r4⟩:=hh.read hr hpb
   have hb:b2=pl.c∧o2=pl.s+off∧s2=none:=by
    rcases hs2 with⟨_,h2,pl2,hp2,h3,h4,_⟩|⟨_,h0,_⟩
    .grind
    .omega
   obtain⟨rfl,rfl,rfl⟩:=hb;refine⟨⟨_,c2,hc,fun _=>rfl⟩,fun i u hi=>?_⟩
   grind[ay.at,nI,ax.of_plain]
theorem PG{x:LvQ}(h:x=[hd1 x,sd1 x]∧plain (hd1 x)=true∧plain (sd1 x)=true):jP x=true:=by grind[jP]
theorem aaO(hpl:∀x∈xs,x=[hd1 x,sd1 x]∧plain (hd1 x)=true∧plain (sd1 x)=true){i:Nat}(ha:(xs.map hd1)[i]?=some a)(hb:(xs.map sd1)[i]?=some b):xs[i]?=some [a,b]:=by grind
theorem abC {fn:Func}(h:Tryz.prog.funcs[f]?=some fn)(hb:fn.body.isNone=false)(hn:(fn.name == "runtime.NumGoroutine")=false):∃fn,X.P.funcs[f]?=some fn∧fn.body.isNone=false∧(fn.name == "runtime.NumGoroutine")=false:=⟨fn,h,hb,hn⟩
set_option maxRecDepth 100000 in
theorem abE:∃fn,X.P.funcs[127]?=some fn∧fn.body.isNone=false∧(fn.name == "runtime.NumGoroutine")=false:=abC Tryz.func127 rfl (by rfl)
theorem ac9:OV X:=by
 intro gf lb H xs h0;have h:G6 gf lb H=some xs:=h0;clear h0;unfold G6 at h;split at h
 .rename_i hg;have hg:gf=127:=Zm hg;subst hg;split at h
  case h_2=>cases h
  rename_i b o;split at h
  case h_2=>cases h
  rename_i p q d hrd;obtain⟨s1,s2,s3,s4,s5,hpl⟩:=Ip h;refine⟨fun x hx=>PG (hpl x hx),abE,fun φ w lb' hh hl=>?_⟩;simp only[ay]at hl;obtain⟨v',r,rfl,hv',rfl⟩:=hl;obtain⟨pl,hpb,rfl⟩:=qR hv';obtain⟨cs',r1,r2,r3,r4⟩:=hh.read hrd hpb;simp only[ay]at r1;obtain⟨p',_,rfl,hp',q',_,rfl,hq',d',_,rfl,hd',rfl⟩:=r1;obtain⟨c,s,base⟩:=Ng (X:=X) s4 hp'
  obtain⟨c2,s2',aaA⟩:=Ng (X:=X) s5 hq';refine⟨fun W=>aeA W pl.c (pl.s+o) pl.c (pl.s+o+1) xs.length c s c2 s2' (xs.map hd1) (xs.map sd1),fun φ' H' w' hh' hle hl' hs hk=>?_,fun l J Jx W hV hY h0=>?_⟩
  .have hk:(b9 H' b o 3).getD []=(b9 H b o 3).getD []:=hk;have hs:G6 127 [.pointer (some ⟨b,o,none⟩)] H'=some xs:=hs;rw[hrd]at hk
   have hrd':b9 H' b o 3=some [p,q,d]:=by
    cases hr:b9 H' b o 3 with
    |none=>grind
    |some cs=>grind
   have hz:K6 H' p q=some xs:=by
    unfold G6 at hs;rw[show Nat.beq 127 F.cR=true from rfl]at hs;simp only[hrd']at hs;exact hs
   obtain⟨t1,t2,_⟩:=Ip hz;obtain⟨ds',u1,u2,u3,u4⟩:=hh'.read hrd' (hle _ _ hpb);simp only[ay]at u1;obtain⟨p2,_,rfl,hp2,q2,_,rfl,hq2,d2,_,rfl,hd2,rfl⟩:=u1;have k0:=u4 0 p2 rfl;have k1:=u4 1 q2 rfl;rw[nI]at k0 k1;obtain⟨w1,w2⟩:=base φ' H' w' _ _ hh' hle t1 af (fun u hu=>by grind) _ _ _ k0 hp2
   obtain⟨w3,w4⟩:=aaA φ' H' w' _ _ hh' hle t2 af (fun u hu=>by grind) _ _ _ k1 hq2;trivial
  .exact Qw (ZP l pl.c (pl.s+o) xs.length c s c2 s2' (xs.map hd1) (xs.map sd1) af af s3 J Jx hV (fun i x y W1 hJ hx hy=>hY i [x,y] W1 hJ (aaO hpl hx hy)) W h0)
 .rename_i hf;split at h
  case h_2=>cases h
  rename_i hg;rw[show F.tf=F.cR from rfl,hf]at hg;cases hg
end
end Go.Vm
set_option maxRecDepth 100000
namespace Go.Vm
open Go Go.Am
variable{f:FuncId}{a:Addr}{vs:LvQ}{n m fuel:Nat}{t e:TypeId}
theorem abB:(List.range X.P.funcs.size).all (fun f=>!X.allow f||match X.P.funcs[f]? with
  |some fn=>WJ X.P fn&&(match fn.body with|some c=>jF Y fn.ntmps c|none=>true)
  |none=>true)=true:=aD
theorem aak{fn:Func}(ha:X.allow f=true)(hf:X.P.funcs[f]?=some fn):WJ X.P fn=true∧(match fn.body with|some c=>jF Y fn.ntmps c|none=>true)=true:=by
 have hlt:f<X.P.funcs.size:=by
  rcases Zl f X.P.funcs.size with h|h
  .exact h
  .rw[Array.getElem?_eq_none h]at hf;cases hf
 have:=Z2.1 abB f (Xk.2 hlt);rw[ha,hf]at this;simpa using this
theorem vOk:VOk Y where
 y:=yOk
 fns f fn c ha hf hc:=by have:=(aak ha hf).2;rw[hc]at this;exact this
theorem abd:MQ X where
 mixed:=by rfl
 fns f fn ha hf:=(aak ha hf).1
 orc:=adn
 seq:=ac9
mutual
def WD(w:World):D->Value->Prop
 |.int k n,v=>v=.int k n
 |.bool b,v=>v=.bool b
 |.str s,v=>v=.string ⟨⟨s⟩⟩
 |.pl u,v=>v=u∧plain u=true∧okCell u=true
 | .sl len cells,v=>(len=0∧cells=[]∧(v=.slice none 0 0∨∃a,v=.slice (some a) 0 0)) ∨
   ∃ c o cap n cs e fz,v=.slice (some ⟨c,o,none⟩) len cap∧len<=cap∧0<n∧cells.length=len*n ∧
    w.heap[c]?=some (.cells cs e fz)∧o+cells.length<=cs.size∧WDs w cells ((cs.toList.drop o).take cells.length)
def WDs(w:World):LdQ->LvQ->Prop
 |[],l=>l=[]
 |x::xs,l=>∃v vs,l=v::vs∧WD w x v∧WDs w xs vs
end
structure Ly(w:World)(φ:bK)(F:Nat->Prop)(H:AH):Prop where
 rel:bw X φ H w
 wf:WF H
 fr:∀c,F c->c<H.n∧∃x,H.get c=some x∧x.st=1
 ro:∀c x,H.get c=some x->x.wr=false
 top:∀b p,φ b=some p->b<H.n
 pg:∃p,φ nA=some p
structure sU(φ:bK)(F:Nat->Prop)(H:AH)(φ':bK)(F':Nat->Prop)(H':AH):Prop where
 n:H.n<=H'.n
 le:PLe φ φ'
 fm:∀c,F c->F' c
 keep:∀c,c<H.n->H'.get c=H.get c
theorem sU.refl(φ:bK)(F:Nat->Prop)(H:AH):sU φ F H φ F H:=⟨Z7 _,PLe.refl _,fun _ h=>h,fun _ _=>rfl⟩
theorem sU.trans{φ φ1 φ2:bK}{F F1 F2:Nat->Prop}{H H1 H2:AH}(a:sU φ F H φ1 F1 H1)(b:sU φ1 F1 H1 φ2 F2 H2):sU φ F H φ2 F2 H2:=
 ⟨Zy a.n b.n,a.le.trans b.le,fun c h=>b.fm c (a.fm c h),fun c h=>by rw[b.keep c (Z3 h a.n),a.keep c h]⟩
theorem sU.leF{φ φ':bK}{F F':Nat->Prop}{H H':AH}{w:World}(L:Ly w φ F H)(a:sU φ F H φ' F' H'):LeF F F' H H':=
 ⟨a.fm,fun c hc=>a.keep c (L.fr c hc).1,fun c x hx h0=>⟨x,by grind[keep,AH.get_lt],h0⟩⟩
def roB(b n:Nat)(cells:LvQ):Blk:={cells,st:=1,wr:=false,fam:=b,start:=0,shared:=false,exact:=true,esz:=n,ver:=1}
theorem Ly.push{w:World}{φ:bK}{F:Nat->Prop}{H:AH}(L:Ly w φ F H){c o n:Nat}{us vs:LvQ}{cs:Array Value}{e:TypeId}{fz:Nat×Nat}(hh:w.heap[c]?=some (.cells cs e fz))
  (hlen:us.length=vs.length) (ho:o+us.length<=cs.size) (hvs:vs=(cs.toList.drop o).take us.length) (hr:ay φ us vs) :
  Ly w (xA φ H.n ⟨c,o,us.length,n,cs.size,true⟩) (fun x=>F x∨x=H.n) (H.push (roB H.n n us)) ∧
  sU φ F H (xA φ H.n ⟨c,o,us.length,n,cs.size,true⟩) (fun x=>F x∨x=H.n) (H.push (roB H.n n us)):=by
 have hnone:φ H.n=none:=by
  cases hq:φ H.n with
  |none=>rfl
  |some p=>have:=L.top _ p hq;omega
 have hle:PLe φ (xA φ H.n ⟨c,o,us.length,n,cs.size,true⟩):=PLe.add hnone;have hn:(H.push (roB H.n n us)).n=H.n+1:=rfl;have old:∀b,b<H.n->(H.push (roB H.n n us)).get b=H.get b:=fun b hb=>AH.get_push aa
 have new:(H.push (roB H.n n us)).get H.n=some (roB H.n n us):=AH.get_push_new H _
 have ro:∀b x,(H.push (roB H.n n us)).get b=some x->x.wr=false:=fun b x hx=>by
  rcases Zl b H.n with h|h
  .grind[ro]
  .have hb:b=H.n:=by have:=AH.get_lt hx;omega
   subst hb;rw[new]at hx;cases hx;rfl
 refine ⟨⟨⟨fun g hg=>?_,fun b p hp=>?_,fun b p x i v hp hx h1 hv=>?_,fun b p x i hp hx h1 hi=>?_,fun b b' p p' x x' _ _ hx hx' _ _ _ _=>.inl ⟨ro b x hx,ro b' x' hx'⟩⟩,?_,fun b hb=>?_,ro,fun b p hp=>?_,L.pg.imp fun p hp=>hle _ p hp⟩,
  ⟨aa,hle,fun x h=>.inl h,old⟩⟩
 .obtain⟨p,hp,h1⟩:=L.rel.glob g hg;exact⟨p,hle g p hp,h1⟩
 .by_cases hb:b=H.n
  .subst hb;rw[dL]at hp;cases hp;exact⟨_,cs,e,fz,new,by simp[roB],rfl,rfl,rfl,hh,rfl,ho⟩
  .rw[fI hb]at hp;obtain⟨x,r⟩:=L.rel.dom b p hp
   grind[top]
 .by_cases hb:b=H.n
  .subst hb;rw[dL]at hp;cases hp;rw[new]at hx;cases hx;obtain⟨v',h1,h2⟩:=hr.at (i:=i) hv
   grind[ax.mono,cell_of_heap]
  .rw[fI hb]at hp;rw[old b (L.top b p hp)]at hx;obtain⟨v',h2,h3⟩:=L.rel.cell b p x i v hp hx h1 hv
   grind[ax.mono]
 .grind
 .refine⟨by simp[AH.push,L.wf.len],fun b x hx=>?_⟩;rcases Zl b H.n with h|h
  .rw[old b h]at hx;exact L.wf.fam b x hx
  .have hb:b=H.n:=by have:=AH.get_lt hx;omega
   subst hb;rw[new]at hx;cases hx;trivial
 .rcases hb with hb|rfl
  .obtain⟨h1,x,h2,h3⟩:=L.fr b hb;exact⟨aa,x,by grind,h3⟩
  .exact⟨aa,_,new,rfl⟩
 .by_cases hb:b=H.n
  .omega
  .rw[fI hb]at hp;have:=L.top b p hp;omega
mutual
theorem lay{w:World}:∀(d:D)(v:Value){φ:bK}{F:Nat->Prop}{H:AH},Ly w φ F H->WD w d v ->
  ∃φ' F' H' u,Ly w φ' F' H'∧sU φ F H φ' F' H'∧ax φ' u v∧RD F' H' d u
 |.int k n,v,φ,F,H,L,h=>⟨φ,F,H,v,L,sU.refl ..,by simp only[WD]at h;subst h;rfl,h⟩
 |.bool b,v,φ,F,H,L,h=>⟨φ,F,H,v,L,sU.refl ..,by simp only[WD]at h;subst h;rfl,h⟩
 |.str s,v,φ,F,H,L,h=>⟨φ,F,H,v,L,sU.refl ..,by simp only[WD]at h;subst h;rfl,h⟩
 |.pl u,v,φ,F,H,L,h=>⟨φ,F,H,v,L,sU.refl ..,by grind[WD,ax.of_plain],h⟩
 | .sl len cells,v,φ,F,H,L,h=>by
  simp only[WD]at h;rcases h with⟨rfl,rfl,rfl|⟨a,rfl⟩⟩|⟨c,o,cap,n,cs,e,fz,rfl,hlc,hn,hlen,hh,ho,hds⟩
  .exact⟨φ,F,H,.slice none 0 0,L,sU.refl ..,rfl,.inl ⟨rfl,rfl,.inl rfl⟩⟩
  .obtain⟨p,hp⟩:=L.pg;obtain⟨x,_,_,_,hx,h0,_⟩:=L.rel.dom _ _ hp;exact⟨φ,F,H,.slice (some ⟨nA,0,none⟩) 0 0,L,sU.refl ..,⟨a,0,rfl,.inr ⟨rfl,rfl,rfl,rfl,p,hp⟩⟩,.inl ⟨rfl,rfl,.inr ⟨_,_,_,rfl,x,hx,h0⟩⟩⟩
  .obtain⟨φ1,F1,H1,us,L1,E1,r1,d1⟩:=lays cells _ L hds;have hl:us.length=cells.length:=by have:=d1.length;omega
   obtain⟨L2,E2⟩:=L1.push (us:=us) (n:=n) (o:=o) hh (by grind) aa (by rw[hl]) r1;refine⟨_,_,_,.slice (some ⟨H1.n,0,none⟩) len cap,L2,E1.trans E2,?_,?_⟩
   .refine⟨⟨c,o,none⟩,cap,rfl,.inl ⟨rfl,rfl,_,dL ..,rfl,rfl,.inl rfl⟩⟩
   .have new:(H1.push (roB H1.n n us)).get H1.n=some (roB H1.n n us):=AH.get_push_new H1 _;by_cases h0:len=0
    .subst h0;exact .inl ⟨rfl,Zp aa,.inr ⟨_,_,_,rfl,_,new,by simp[roB]⟩⟩
    .refine .inr ⟨H1.n,0,cap,us,n,rfl,aa,hlc,hn,hlen,.inr rfl,?_,RDs.mono (E2.leF L1) _ _ d1,_,new,.inl rfl⟩;rw[ko new rfl (by show 0+cells.length<=us.length;omega)]
     show some ((us.drop 0).take cells.length)=_
     grind
theorem lays{w:World}:∀(ds:LdQ)(vs:LvQ){φ:bK}{F:Nat->Prop}{H:AH},Ly w φ F H->WDs w ds vs ->
  ∃φ' F' H' us,Ly w φ' F' H'∧sU φ F H φ' F' H'∧ay φ' us vs∧RDs F' H' ds us
 |[],vs,φ,F,H,L,h=>⟨φ,F,H,[],L,sU.refl ..,by trivial,rfl⟩
 | d::ds,vs,φ,F,H,L,h=>by
  simp only[WDs]at h;obtain⟨v,vs,rfl,h1,h2⟩:=h;obtain⟨φ1,F1,H1,u,L1,E1,r1,d1⟩:=lay d v L h1;obtain⟨φ2,F2,H2,us,L2,E2,r2,d2⟩:=lays ds vs L1 h2;exact⟨φ2,F2,H2,u::us,L2,E1.trans E2,⟨v,vs,rfl,ax.mono E2.le u v r1,r2⟩,⟨u,us,rfl,RD.mono (E2.leF L1) _ _ d1,d2⟩⟩
end
def V6:Nat->List Blk
 |0=>[]
 |n+1=>wW::V6 n
theorem JC:∀(n i:Nat)(x:Blk),(V6 n)[i]?=some x->x=wW
 |0,_,_,h=>by trivial
 |n+1,0,x,h=>by grind[V6]
 |n+1,i+1,x,h=>JC n i x (by trivial)
def zw:LvQ:=[.int .u64 1,.int .u64 10,.int .u64 100,.int .u64 1000,.int .u64 10000,.int .u64 100000,.int .u64 1000000,.int .u64 10000000,.int .u64 100000000,.int .u64 1000000000,.int .u64 10000000000,.int .u64 100000000000,
 .int .u64 1000000000000,.int .u64 10000000000000,.int .u64 100000000000000,.int .u64 1000000000000000,.int .u64 10000000000000000,.int .u64 100000000000000000,.int .u64 1000000000000000000,.int .u64 10000000000000000000]
def OX(w:World):Prop:=∃cs e fz,w.heap[nA]?=some (.cells cs e fz)∧20<=cs.size∧zw=cs.toList.take 20
def H00:AH:=⟨nA,V6 nA⟩
theorem ZT{b:Nat}{x:Blk}(h:H00.get b=some x):x=wW:=by
 unfold AH.get at h;split at h
 .exact JC _ _ _ h
 .trivial
theorem start{w:World}(hp:OX w):∃φ F H,Ly w φ F H∧oX Y F H:=by
 obtain⟨cs,e,fz,hh,hsz,hcs⟩:=hp
 let φ:bK:=fun b=>if b=nA then some ⟨nA,0,20,1,cs.size,true⟩else none
 let H:AH:=H00.push (roB nA 1 zw)
 have hn:H.n=nA+1:=rfl;have new:H.get nA=some (roB nA 1 zw):=AH.get_push_new H00 _
 have old:∀{b x},b≠nA->H.get b=some x->x=wW:=fun{b x} hb hx=>by
  grind[H00,AH.get_push,ZT]
 have hφ:∀{b p},φ b=some p->b=nA∧p=⟨nA,0,20,1,cs.size,true⟩:=fun{b p} h=>by
  grind
 have ro:∀b x,H.get b=some x->x.wr=false:=fun b x hx=>by
  by_cases hb:b=nA
  .subst hb;rw[new]at hx;cases hx;rfl
  .rw[old hb hx];rfl
 have L:Ly w φ (· = nA) H:=by
  refine⟨⟨fun g hg=>?_,fun b p hp=>?_,fun b p x i v hp hx h1 hv=>?_,fun b p x i hp hx h1 hi=>?_,fun b b' p p' x x' _ _ hx hx' _ _ _ _=>.inl ⟨ro b x hx,ro b' x' hx'⟩⟩,?_,?_,ro,fun b p hp=>?_,⟨⟨nA,0,20,1,cs.size,true⟩,by rfl⟩⟩
  .have:g=nA:=by simpa[X]using hg
   exact⟨⟨nA,0,20,1,cs.size,true⟩,by grind,this.symm,rfl⟩
  .grind[roB]
  .obtain⟨rfl,rfl⟩:=hφ hp;rw[new]at hx;cases hx;have hv':zw[i]?=some v:=hv;refine⟨v,?_,?_⟩
   .grind[cell_of_heap]
   .have hm:v∈zw:=Xq hv';have:zw.all plain=true:=rfl
    grind[ax.of_plain]
  .grind
  .refine⟨by rfl,fun b x hx=>?_⟩;by_cases hb:b=nA
   .subst hb;rw[new]at hx;cases hx;trivial
   .rw[old hb hx];exact Yf _
  .rintro c rfl;exact⟨aa,_,new,rfl⟩
  .grind
 refine⟨φ,_,H,L,fun g cs' hg=>?_⟩
 have hgp:g=nA∧cs'=JA:=by
  simp only[Y]at hg;split at hg
  .simp_all
  .cases hg
 obtain⟨rfl,rfl⟩:=hgp;refine⟨Xv _,rfl,zw,?_,?_⟩
 .rfl
 simp[JA,zw,RDs,RD]
open Go.ChangeShapes Go.WideShapes Go.ChangeAt Go.RowKit
section
variable{HH:Type}{enc:TypeId×Value->HH}{P:Program}{w:World}{base:Nat}{held:Bool}
theorem KP{v:Value}(h:w.cell? a=some v):∃cs e fz,w.heap[a.block]?=some (.cells cs e fz)∧a.spot=none∧cs[a.off]?=some v:=by
 unfold World.cell? at h;split at h
 .rename_i c e fz hc;split at h
  .cases h
  .rename_i hs;refine⟨c,e,fz,hc,?_,h⟩;cases hq:a.spot with
   |none=>rfl
   |some s=>rw[hq]at hs;simp at hs
 .cases h
theorem addr_add(a:Addr)(hs:a.spot=none)(i:Nat):a.add i=⟨a.block,a.off+i,none⟩:=by
 unfold Addr.add;split
 .rename_i h;subst h;cases a;simp at hs ⊢;exact hs
 .rfl
theorem GD(h:∀i v,vs[i]?=some v->w.cell? (a.add i)=some v)(hp:0<vs.length):
  ∃cs e fz,w.heap[a.block]?=some (.cells cs e fz)∧a.spot=none∧a.off+vs.length<=cs.size∧vs=(cs.toList.drop a.off).take vs.length:=by
 obtain⟨v0,h0⟩:∃v,vs[0]?=some v:=⟨vs[0],by simp[hp]⟩;obtain⟨cs,e,fz,hc,hs,_⟩:=KP (h 0 v0 h0);have ha0:a.add 0=a:=by unfold Addr.add;simp
 rw[ha0]at hc hs
 have at_:∀i v,vs[i]?=some v->cs[a.off+i]?=some v:=fun i v hv=>by
  obtain⟨cs',e',fz',hc',_,hv'⟩:=KP (h i v hv);rw[addr_add a hs]at hc' hv';simp only at hc' hv';rw[hc]at hc';cases hc';exact hv'
 have hle:a.off+vs.length<=cs.size:=by
  have hl:=at_ (vs.length-1) vs[vs.length-1] (by rw[List.getElem?_eq_getElem]);have:=(Array.getElem?_eq_some_iff.1 hl).1;omega
 refine⟨cs,e,fz,hc,hs,hle,?_⟩;apply X9;intro i;by_cases hi:i<vs.length
 .rw[List.getElem?_take_of_lt hi,List.getElem?_drop];have:=at_ i vs[i] (by rw[List.getElem?_eq_getElem hi]);rw[List.getElem?_eq_getElem hi];simpa using this.symm
 .rw[List.getElem?_eq_none aa,List.getElem?_eq_none aM]
end
inductive Sh where
 |int (k:IntKind)
 |bool
 |str
 |sl (e:Sh)
 |ar (n:Nat) (e:Sh)
 |st (fs:List Sh)
variable{s:Sh}
mutual
/-- A type has a shape. -/
def Typ(P:Program):Sh->TypeId->Prop
 |.int k,t=>P.underlying t=some (.int k)∧P.cellsOf t=1
 |.bool,t=>P.underlying t=some .bool∧P.cellsOf t=1
 |.str,t=>P.underlying t=some .string∧P.cellsOf t=1
 |.sl e,t=>∃u,P.underlying t=some (.slice u)∧P.cellsOf t=1∧0<P.cellsOf u∧Typ P e u
 |.ar n e,t=>∃u,P.underlying t=some (.array n u)∧P.cellsOf t=n*P.cellsOf u∧Typ P e u
 |.st fs,t=>∃l:List Field,P.underlying t=some (.struct l.toArray)∧QI P fs l 0 (P.cellsOf t)
def QI(P:Program):List Sh->List Field->Nat->Nat->Prop
 |[],l,o,n=>l=[]∧o=n
 |s::ss,l,o,n=>∃f r,l=f::r∧f.offset=o∧Typ P s f.type∧QI P ss r (o+P.cellsOf f.type) n
end
mutual
/-- Cells of a shape. -/
def Dat:Sh->LdQ->Prop
 |.int k,ds=>∃n,ds=[.int k n]∧(Lit.int k n).wf=true
 |.bool,ds=>∃b,ds=[.bool b]
 |.str,ds=>∃s:LuQ,ds=[.str s]∧s.length<=maxLen
 |.sl e,ds=>∃xs:List LdQ,ds=[.sl xs.length xs.flatten]∧∀x∈xs,Dat e x
 |.ar n e,ds=>∃xs:List LdQ,ds=xs.flatten∧xs.length=n∧∀x∈xs,Dat e x
 |.st ss,ds=>ace ss ds
def ace:List Sh->LdQ->Prop
 |[],ds=>ds=[]
 |s::ss,ds=>∃a b,ds=a++b∧Dat s a∧ace ss b
end
section
variable{HH:Type}{enc:TypeId×Value->HH}{P:Program}{w:World}{base:Nat}{held:Bool}
theorem WDs.append:∀{a b:LdQ}{u v:LvQ},WDs w a u->WDs w b v->WDs w (a++b) (u++v)
 |[],b,u,v,h,h2=>by grind[WDs]
 | x::a,b,u,v,h,h2=>by
  simp only[WDs]at h;obtain⟨y,u,rfl,h0,h1⟩:=h;exact⟨y,u++v,rfl,h0,h1.append h2⟩
theorem WDs.len:∀{a:LdQ}{u:LvQ},WDs w a u->a.length=u.length
 |[],u,h=>by grind[WDs]
 | x::a,u,h=>by
  simp only[WDs]at h;obtain⟨y,u,rfl,_,h1⟩:=h;simp[h1.len]
theorem tn{α:Type}(C:Nat->List α)(n:Nat):∀m,(∀i,i<m->(C i).length=n)->((List.range m).flatMap C).length=m*n∧∀i j,i<m->j<n->((List.range m).flatMap C)[i*n+j]?=(C i)[j]?
 |0,_=>⟨af,fun i j hi=>by omega⟩
 | m+1,h=>by
  obtain⟨h1,h2⟩:=tn C n m fun i hi=>h i aa
  have e:(List.range (m+1)).flatMap C=(List.range m).flatMap C++C m:=by simp[List.range_succ]
  rw[e];refine⟨by rw[Zs,h1,h m aa,Xu],fun i j hi hj=>?_⟩;by_cases him:i<m
  .rw[List.getElem?_append_left,h2 i j him hj];rw[h1]
   calc i*n+j<i*n+n:=aa
    _=(i+1)*n:=by rw[Xu]
    _<=m*n:=Zv n him
  .obtain rfl:i=m:=aa
   simp_all
theorem yT(C:Nat->LvQ)(X:Nat->LdQ):∀m,(∀i,i<m->WDs w (X i) (C i))->WDs w ((List.range m).flatMap X) ((List.range m).flatMap C)
 |0,_=>rfl
 | m+1,h=>by
  simp only[List.range_succ,List.flatMap_append,Xb,List.flatMap_nil,Zj];exact(yT C X m fun i hi=>h i aa).append (h m aa)
theorem O1{len cap:Nat}{ds:LdQ}(hn:0<n)(hl:len<=cap)(hlen:vs.length=cap*n)(h:∀i v,vs[i]?=some v->w.cell? (a.add i)=some v)(hd:WDs w ds (vs.take (len*n)))(hds:ds.length=len*n):WD w (.sl len ds) (.slice (some a) len cap):=by
 simp only[WD];by_cases h0:cap=0
 .have e:len=0:=aa
  simp_all
 .have hpos:0<vs.length:=by rw[hlen];exact Yj aa hn
  have hle2:len*n<=vs.length:=by rw[hlen];exact Zv n hl
  obtain⟨cs,e,fz,hc,hs,hle,hvs⟩:=GD h hpos;refine .inr ⟨a.block,a.off,cap,n,cs,e,fz,?_,hl,hn,hds,hc,aa,?_⟩
  .cases a;grind
  grind
def Opn(enc:TypeId×Value->HH)(P:Program)(w:World)(base:Nat)(held:Bool)(s:Sh):Prop:=
 ∀(t:TypeId)(fuel:Nat)(cs:LvQ)(x:DataW HH×List MemPlace),Typ P s t->DataW.trod enc P w base (fun _=>true) held fuel t cs=some x->cs.length=P.cellsOf t∧∃ds,Dat s ds∧WDs w ds cs
theorem H5{α:Type}[Inhabited α]{p:Nat->α->Prop}(h:∀i,i<m->∃x,p i x):∃f:Nat->α,∀i,i<m->p i (f i):=
 ⟨fun i=>if hi:i<m then Classical.choose (h i hi)else default,fun i hi=>by
  grind⟩
theorem aa9(ih:Opn enc P w base held s):Opn enc P w base held (.sl s):=by
 intro t fuel cs x ht h;simp only[Typ]at ht;obtain⟨u,hu,hc1,hcu,hs⟩:=ht;rcases Deep.open_slice hu h with⟨rfl,_⟩|⟨a,len,cap,m,n,Dd,Pl,rfl,_,hlc,_,hm,_,hx⟩
 .exact⟨by grind,[.sl 0 []],⟨[],rfl,fun x hx=>by cases hx⟩,_,_,rfl,.inl ⟨rfl,rfl,.inl rfl⟩,rfl⟩
 .simp only[if_true]at hm;subst hm;obtain⟨C,hC⟩:=H5 (α:=LvQ) hx
  obtain ⟨E,hE⟩:=H5 (α:=LdQ) (p:=fun i e=>Dat s e∧WDs w e (C i)) (m:=m) fun i hi=>by
   obtain⟨_,ds,h1,h2⟩:=ih _ _ _ _ hs (hC i hi).2
   grind
  have hCl:∀i,i<m->(C i).length=P.cellsOf u:=fun i hi=>(World.cells?_some (hC i hi).1).2.1
  obtain⟨hl1,hl2⟩:=tn C (P.cellsOf u) m hCl;have hEl:∀i,i<m->(E i).length=P.cellsOf u:=fun i hi=>by rw[(hE i hi).2.len,hCl i hi]
  refine⟨by grind,[.sl ((List.range len).map E).length ((List.range len).map E).flatten],⟨_,rfl,fun x hx=>?_⟩,_,_,rfl,?_,rfl⟩
  .simp only[Zf,Xk]at hx;obtain⟨i,hi,rfl⟩:=hx;exact(hE i aa).1
  .rw[List.length_map,List.length_range,<-List.flatMap_def];refine O1 (vs:=(List.range m).flatMap C) hcu hlc hl1 (fun i v hv=>?_) ?_ (tn E (P.cellsOf u) len fun i hi=>hEl i aa).1
   .have hi:=(List.getElem?_eq_some_iff.1 hv).1;rw[hl1]at hi;have hdm:=X0 i (P.cellsOf u);have hmod:=Y5 i hcu;have hdiv:i/P.cellsOf u<m:=Wr (by grind);have e:i=i/P.cellsOf u*P.cellsOf u+i%P.cellsOf u:=by rw[Zq];exact hdm.symm
    have:=(World.cells?_some (hC _ hdiv).1).2.2 (i%P.cellsOf u) hmod
    grind[Addr.add_add]
   ·have e:((List.range m).flatMap C).take (len*P.cellsOf u)=(List.range len).flatMap C:=by
     have e1:List.range m=List.range len++(List.range (m-len)).map (len + ·):=by
      conv=>lhs;rw[show m=len+(m-len) by omega,List.range_add]
     rw[e1,List.flatMap_append,X6];exact(tn C (P.cellsOf u) len fun i hi=>hCl i aa).1
    rw[e];exact yT C E len fun i hi=>(hE i aa).2
theorem aba(ih:Opn enc P w base held s):Opn enc P w base held (.ar n s):=by
 intro t fuel cs x ht h;simp only[Typ]at ht;obtain⟨u,hu,hct,hs⟩:=ht;obtain⟨xs,m,_,_,hl,hxl,hx⟩:=DataW.trod_array hu h
 let C:Nat->LvQ:=fun i=>(cs.drop (i*P.cellsOf u)).take (P.cellsOf u)
 obtain ⟨E,hE⟩:=H5 (α:=LdQ) (p:=fun i e=>Dat s e∧WDs w e (C i)) (m:=n) fun i hi=>by
  have:=hx i hi;rw[List.getElem?_eq_getElem aa]at this;obtain⟨_,ds,h1,h2⟩:=ih _ _ _ _ hs this
  grind
 refine⟨hl,((List.range n).map E).flatten,⟨_,rfl,af,fun x hx=>?_⟩,?_⟩
 .grind
 .rw[<-List.flatMap_def]
  have e:∀m,m<=n->cs.take (m*P.cellsOf u)=(List.range m).flatMap C:=by
   intro m
   induction m with
   |zero=>simp
   | succ m ihm=>
    intro hm;rw[Xu,List.take_add,ihm aa];simp[List.range_succ,C]
  have:=e n (Z7 _);rw[Z1 aa]at this
  grind[yT]
mutual
theorem opn:∀s:Sh,Opn enc P w base held s
 | .int k=>by
  intro t fuel cs x ht h;simp only[Typ]at ht;obtain⟨n,rfl,_,hw⟩:=DataW.trod_int ht.1 h;exact⟨by grind,[.int k n],⟨n,rfl,hw⟩,_,_,rfl,rfl,rfl⟩
 | .bool=>by
  intro t fuel cs x ht h;simp only[Typ]at ht;obtain⟨b,rfl,_⟩:=DataW.trod_bool ht.1 h;exact⟨by grind,[.bool b],⟨b,rfl⟩,_,_,rfl,rfl,rfl⟩
 | .str=>by
  intro t fuel cs x ht h;simp only[Typ]at ht;obtain⟨s,rfl,_,hs⟩:=DataW.trod_string ht.1 h;exact⟨by grind,[.str s.data.toList],⟨_,rfl,by trivial⟩,_,_,rfl,rfl,rfl⟩
 |.sl e=>aa9 (opn e)
 |.ar n e=>aba (opn e)
 | .st ss=>by
  intro t fuel cs x ht h;simp only[Typ]at ht;obtain⟨l,hu,hl⟩:=ht;obtain⟨xs,m,_,_,hcl,hxl,hx⟩:=DataW.trod_struct hu h;refine⟨hcl,?_⟩
  have:=ado ss (l:=l) (o:=0) (n:=P.cellsOf t) (fuel:=m) (cs:=cs) hl hcl fun f hf=>by
   obtain⟨i,hi⟩:=List.getElem?_of_mem hf;have h1:=hx i f (by grind)
   grind
  trivial
theorem ado:∀(ss:List Sh){l:List Field}{o n fuel:Nat}{cs:LvQ},QI P ss l o n->cs.length=n ->
  (∀f∈l,∃x,DataW.trod enc P w base (fun _=>true) held fuel f.type ((cs.drop f.offset).take (P.cellsOf f.type))=some x)->∃ds,ace ss ds∧WDs w ds (cs.drop o)
 | [],l,o,n,fuel,cs,ht,hl,h=>by
  simp only[QI]at ht;refine⟨[],rfl,?_⟩;rw[Y6 aa];rfl
 | s::ss,l,o,n,fuel,cs,ht,hl,h=>by
  simp only[QI]at ht;obtain⟨f,r,rfl,rfl,h1,h2⟩:=ht;obtain⟨x,hx⟩:=h f af;obtain⟨_,a,ha,wa⟩:=opn s _ _ _ _ h1 hx;obtain⟨b,hb,wb⟩:=ado ss h2 hl fun g hg=>h g (by grind)
  refine⟨a++b,⟨a,b,rfl,ha,hb⟩,?_⟩
  have e:cs.drop f.offset=(cs.drop f.offset).take (P.cellsOf f.type)++cs.drop (f.offset+P.cellsOf f.type):=by
   rw[<-List.drop_drop,X8]
  grind[WDs.append]
end
inductive Ar where
 |one (x:D)
 |many (xs:LdQ)
def Ar.v:Ar->V
 |.one x=>.d x
 |.many xs=>.agg (xs.map .d)
def WA(w:World):Ar->Value->Prop
 |.one x,v=>WD w x v
 |.many xs,v=>∃ws,v=.agg ⟨ws⟩∧WDs w xs ws
def WAs(w:World):List Ar->LvQ->Prop
 |[],l=>l=[]
 |x::xs,l=>∃v vs,l=v::vs∧WA w x v∧WAs w xs vs
theorem RO{F1:Nat->Prop}{H1:AH}(φ0:LnQ)(h0:Hp):∀(ds:LdQ)(us:LvQ),RDs F1 H1 ds us->RVs φ0 F1 H1 h0 (ds.map .d) us
 |[],us,h=>by trivial
 | d::ds,us,h=>by
  simp only[RDs]at h;obtain⟨u,us,rfl,h1,h2⟩:=h;exact⟨u,us,rfl,h1,RO φ0 h0 ds us h2⟩
def RAs(F:Nat->Prop)(H:AH)(rs:List Ar)(us:LvQ):Prop:=∀φ0 h0,RVs φ0 F H h0 (rs.map Ar.v) us
theorem abo:∀(rs:List Ar)(vs:LvQ){φ:bK}{F:Nat->Prop}{H:AH},Ly w φ F H->WAs w rs vs ->
  ∃φ' F' H' us,Ly w φ' F' H'∧sU φ F H φ' F' H'∧ay φ' us vs∧RAs F' H' rs us
 |[],vs,φ,F,H,L,h=>⟨φ,F,H,[],L,sU.refl ..,by trivial,fun _ _=>rfl⟩
 | .one x::rs,vs,φ,F,H,L,h=>by
  simp only[WAs,WA]at h;obtain⟨v,vs,rfl,h1,h2⟩:=h;obtain⟨φ1,F1,H1,u,L1,E1,r1,d1⟩:=lay x v L h1;obtain⟨φ2,F2,H2,us,L2,E2,r2,d2⟩:=abo rs vs L1 h2;exact⟨φ2,F2,H2,u::us,L2,E1.trans E2,⟨v,vs,rfl,ax.mono E2.le u v r1,r2⟩,fun φ0 h0=>⟨u,us,rfl,RD.mono (E2.leF L1) _ _ d1,d2 φ0 h0⟩⟩
 | .many xs::rs,vs,φ,F,H,L,h=>by
  simp only[WAs,WA]at h;obtain⟨v,vs,rfl,⟨ws,rfl,h1⟩,h2⟩:=h;obtain⟨φ1,F1,H1,us1,L1,E1,r1,d1⟩:=lays xs ws L h1;obtain⟨φ2,F2,H2,us,L2,E2,r2,d2⟩:=abo rs vs L1 h2;exact⟨φ2,F2,H2,.agg ⟨us1⟩::us,L2,E1.trans E2,⟨_,vs,rfl,⟨ws,rfl,ay.mono E2.le _ _ r1⟩,r2⟩,fun φ0 h0=>⟨_,us,rfl,⟨us1,rfl,RO φ0 h0 _ _ (RDs.mono (E2.leF L1) _ _ d1)⟩,d2 φ0 h0⟩⟩
theorem H7{rs:List Ar}{b:Bool}{w:World}(hc:CP Y f (rs.map Ar.v) (.d (.bool b)))(hw:WAs w rs vs)(hp:OX w)(h0:∀u,Y.X.orc f u=none:=by exact fun _=>rfl):
  Calls X.P f vs.toArray w fun e w'=>e=.returned (.bool b)∧w'.os=w.os∧w'.output=w.output∧w.heap.size<=w'.heap.size∧∀c,c<w.heap.size->w'.heap[c]?=w.heap[c]?:=by
 obtain⟨φ,F,H,L,g⟩:=start hp;obtain⟨φ1,F1,H1,us,L1,E1,r1,d1⟩:=abo rs vs L hw;obtain⟨n,wv,H2,F2,hcall,hn,_,_,_,_,_,_,_,hr⟩:=aeE vOk hc F1 H1 us L1.wf L1.fr (g.mono (E1.leF L)) d1
 have hv:wv=.bool b:=by
  have:=hr [] [];simpa only[RV,RD]using this
 subst hv;refine(KQ abd hcall L1.rel (args':=vs.toArray) r1 h0).mono ?_;rintro e w' ⟨φ',v',rfl,h1,h2,h3,h4⟩;have hv':v'=.bool b:=(ax.of_plain (.bool b) rfl v').1 h1;subst hv';refine⟨rfl,h3.os,h3.out,h3.size,fun c hc=>h3.frame c hc ?_⟩;rintro⟨b',p,x,_,_,hx,_,hwr⟩
 grind[Ly.ro]
theorem aaI{v:Value}{x:DataW HH×List MemPlace}(ht:Typ P s t)(hc:P.cellsOf t=1)(h:DataW.trod enc P w base (fun _=>true) held fuel t v.cells.toList=some x)(hv:∀cs,v≠.agg cs):
  ∃d,Dat s [d]∧WA w (.one d) v:=by
 obtain⟨hl,ds,h1,h2⟩:=opn s _ _ _ _ ht h
 have hcl:v.cells.toList=[v]:=by
  cases v<;>first|rfl|grind
 rw[hcl]at h2;have:=h2.len;obtain⟨d,rfl⟩:∃d,ds=[d]:=List.length_eq_one_iff.1 this;simp only[WDs]at h2;obtain⟨v',vs',e,h2,_⟩:=h2;simp only[List.cons.injEq]at e;obtain⟨rfl,_⟩:=e;exact⟨d,h1,h2⟩
theorem MV{v:Value}{x:DataW HH×List MemPlace}(ht:Typ P s t)(h:DataW.trod enc P w base (fun _=>true) held fuel t v.cells.toList=some x)(hv:∃cs,v=.agg cs):
  ∃ds,Dat s ds∧WA w (.many ds) v:=by obtain⟨hl,ds,h1,h2⟩:=opn s _ _ _ _ ht h;obtain⟨cs,rfl⟩:=hv;exact⟨ds,h1,cs.toList,rfl,h2⟩
theorem GH{P:Program}{W:World}{base:Nat}{v:Value}(ht:P.underlying t=some (.array n e))(h:Value.okWide P W .any base t v):∃cs,v=.agg cs:=by grind[Value.okWide]
end
def OY(W W':World):Prop:=W'.os=W.os∧W'.output=W.output∧W.heap.size<=W'.heap.size∧∀c,c<W.heap.size->W'.heap[c]?=W.heap[c]?
section
variable{H:Type}{enc:TypeId×Value->H}{P:Program}
theorem OY.but{W W':World}(h:OY W W')(may:MemPlace->Prop):W.keptBut W' may:=by
 refine⟨h.1,h.2.1,fun i hi=>?_⟩;rw[h.2.2.2 i hi];cases hq:W.heap[i]? with
 |none=>simp
 |some o=>cases o<;>simp
theorem PF{f:Func}{s:ChangeSpec}{apart fresh handsOn again:Bool}{W W':World}{args:Array Value}{v:Value}{ds gs:List (DataW H)}{before pa pv:List MemPlace}
  (hW:DataW.Whole enc P f.params.toList s.vars apart W args.toList ds gs before)
  (hres:∀(b:Nat)(sp:Nat->Bool)(hd:Bool),DataW.TrodAll enc P W' b sp hd f.resultTypes.toList (v.resultList f.resultTypes.size) (s.fn H (ds++gs)).results [])
  (hargs:∀sp:Nat->Bool,(∀p∈before,sp p.block=true)->DataW.TrodAll enc P W' 0 sp true f.params.toList args.toList (s.fn H (ds++gs)).args pa)
  (hvars:∀sp:Nat->Bool,(∀p∈before,sp p.block=true)->DataW.TrodVars enc P W' sp s.vars (s.fn H (ds++gs)).vars pv)
  (hps:before=pa++pv) (hk:OY W W')
  (hok:∀(j:Nat)(t:TypeId)(r:Value),f.resultTypes[j]?=some t->(v.resultList f.resultTypes.size)[j]?=some r->Value.okWide P W' .any 0 t r) :
  s.post enc P f apart fresh handsOn again W args v W':=by
 have hold:∀p∈before,(fun b=>decide (b<W.heap.size)) p.block=true:=fun p hp=>by simpa using hW.lt p hp
 have hlt:=hW.lt;refine⟨ds,gs,before,[],pa,pv,hW,hres _ _ _,hargs _ hold,hvars _ hold,World.keptBut_mono (fun p hp=>⟨hp,?_⟩) (hk.but (· ∈ before)),fun _=>?_⟩
 .rw[hps,Yn]at hp;exact Or.inr hp
 .obtain⟨_,_,_,_,_,hz,hn⟩:=hW;refine⟨hok,_,_,([]++pa)++pv,⟨[]++pa,pv,trodAll_append (hargs _ (fun _ _=>rfl)) (hres _ _ _),hvars _ (fun _ _=>rfl),rfl,?_,?_⟩,?_⟩
  .intro b off hp;have hp':MemPlace.cell b off∈before:=by rw[hps];simpa using hp
   have hb:b<W.heap.size:=hlt _ hp';have:=hz b off hp';simp only[World.frozen?]at this ⊢;rw[hk.2.2.2 b hb];exact this
  .intro ha;have:=hn ha;rw[hps]at this;simpa using this
  .intro p hp _;rw[hps];simpa using hp
theorem xE(hl:laidOutB P=true){W W':World}(hk:OY W W'){sp:Nat->Bool}:∀{ts:List TypeId}{vs:LvQ}{ds:List (DataW H)}{ps:List MemPlace},(∀t∈ts,P.readableRec t=true∧t<P.types.size) ->
  DataW.TrodAll enc P W 0 (fun _=>true) true ts vs ds ps->(∀p∈ps,p.block<W.heap.size)->(∀p∈ps,sp p.block=true)->DataW.TrodAll enc P W' 0 sp true ts vs ds ps
 | [],vs,ds,ps,_,h,_,_=>by
  obtain⟨rfl,rfl,rfl⟩:=trodAll_nil h;exact trodAll_mk0
 | t::ts,vs,ds,ps,hr,h,hlt,hsp=>by
  obtain⟨v,vs',d,ds',p,q,rfl,rfl,rfl,h1,h2⟩:=trodAll_cons h;refine trodAll_cons_mk (WideElems.Trod_stays hl (hr t af).1 (hr t af).2 h1 (fun x hx=>?_) fun x hx=>hsp x (by simp[hx])) (xE hl hk (fun u hu=>hr u (by simp[hu])) h2 (fun x hx=>hlt x (by simp[hx])) fun x hx=>hsp x (by simp[hx]));have hb:=hlt x (by simp[hx]);cases x with
  | cell b off=>
   simp only[World.sameAt,World.cell?];rw[hk.2.2.2 b hb]
  |map b=>exact hk.2.2.2 b hb
end
theorem Dv{P:Program}{w:World}:∀{l:List (String×DataW Unit)}{ps:List MemPlace},DataW.LaidVars P w l ps->∀n d,(n,d)∈l ->
  ∃g t cs fuel p,P.globalNamed n=some g∧(P.globals[g]?).map (·.type)=some t∧w.var? P n=some cs∧DataW.trod (fun _=>()) P w 0 (fun _=>true) false fuel t cs.toList=some (d,p)
 |[],_,_,_,_,hm=>by cases hm
 | (n',d')::r,ps,h,n,d,hm=>by
  obtain⟨g,t,cs,fuel,p,q,h1,h2,h3,h4,h5,_⟩:=h;rcases Zt.1 hm with e|e
  .cases e;exact⟨g,t,cs,fuel,p,h1,h2,h3,h4⟩
  .exact Dv h5 n d e
def aa6:LiQ:=[1,10,100,1000,10000,100000,1000000,10000000,100000000,1000000000,10000000000,100000000000,1000000000000,10000000000000,100000000000000,1000000000000000,10000000000000000,100000000000000000,1000000000000000000,10000000000000000000]
theorem aa4{P:Program}{W:World}{name:String}{t e:TypeId}(hg:P.globalNamed name=some nA)(hty:(P.globals[nA]?).map (·.type)=some t)(ht:P.underlying t=some (.array 20 e))(he:P.underlying e=some (.int .u64))(hce:P.cellsOf e=1)(hct:P.cellsOf t=20)
  {l:List (String×DataW Unit)} (hm:(name,Lib.tabData .u64 aa6)∈l) (h:laidMet P l W):OX W:=by
 obtain⟨ps,hv,_⟩:=h;obtain⟨g',t',cs,fuel,p,hg',ht',hvar,hd⟩:=Dv hv _ _ hm;obtain rfl:=Option.some.inj (hg.symm.trans hg');obtain rfl:=Option.some.inj (hty.symm.trans ht')
 have tab:Lib.TabIs P W name .u64 aa6:=by
  unfold Lib.TabIs;rw[hvar,<-Lib.cells_of_tab ht he hce hct hd]
 have hpv:∀i v,zw[i]?=some v->W.cell? ((⟨nA,0,none⟩:Addr).add i)=some v:=by
  intro i v hv;have hi:i<20:=(List.getElem?_eq_some_iff.1 hv).1;rw[addr_add _ rfl];have h1:=tab.cell hg i hi;simp only[Zk];rw[h1];have h2:zw=aa6.map fun z=>Value.int .u64 z:=rfl
  rw[h2,List.getElem?_map,Z4]at hv;obtain⟨z,hz,rfl⟩:=hv;simp[hz]
 obtain⟨cs,e,fz,h1,_,h2,h3⟩:=GD (w:=W) (a:=⟨nA,0,none⟩) (vs:=zw) hpv ae;exact⟨cs,e,fz,h1,by simpa[zw]using h2,by simpa[zw]using h3⟩
end Go.Vm
