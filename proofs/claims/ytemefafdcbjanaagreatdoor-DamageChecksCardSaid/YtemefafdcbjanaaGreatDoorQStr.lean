/- Lemmas. -/
import Derived.Test.YtemefafdcbjanaaGreatDoorQT
import Derived.Shelf.Pu.ParseUintPublic10
import Derived.Shelf.Strconv.ParseIntPublic10
import Derived.RangeFuncBox
import Derived.Shelf.Abstract
import Derived.WalkKit
import Derived.OwnWalkIn
import Derived.TacticsInMore
import Derived.LoopIn
set_option linter.unusedVariables false
set_option linter.unusedSimpArgs false
namespace Go.Vm
open Go Go.Am Go.Big
variable{k:IntKind}{T:(LwQ->Hp->Prop)->Prop}{z a i:Int}{xs:List LvQ}{clr:LnQ}{h0 h':Hp}{j L i1 cap:Nat}{ys args ds:LwQ}{cells:LdQ}{C:rL}
def W:Nat:=4294967296
def u32(n:Nat):D:=.int .u32 n
def nat(n:Nat):V:=lst u32 (dig W n)
def len(n:Nat):Nat:=(dig W n).length
inductive PU{α:Type}(k:α):Type where
 |mk
def rn{α:Type}(T:(α->Prop)->Prop)(k:α->Prop)(u:PU k):Prop:=T k
def rh{α β:Type}(T:(α->β->Prop)->Prop)(k:α->β->Prop)(u:PU k):Prop:=T k
def rl(T:KL->Prop)(k:KL)(u:PU k):Prop:=T k
def br(p A B:Prop)(u:PU A)(w:PU B):Prop:=(p->A)∧(¬p->B)
def jo(k:LwQ->Hp->Prop)(T:(LwQ->Hp->Prop)->Prop)(u:PU k)(w:PU T):Prop:=T k
theorem Vq{p A B:Prop}{u:PU A}{w:PU B}(h1:p->A)(h2:¬p->B):br p A B u w:=⟨h1,h2⟩
@[simp]theorem afp(A B:Prop)(u:PU A)(w:PU B):br True A B u w=A:=by simp[br]
@[simp]theorem aeD(A B:Prop)(u:PU A)(w:PU B):br False A B u w=B:=by simp[br]
@[simp]theorem agQ{p A B:Prop}{u:PU A}{w:PU B}(h:p):br p A B u w=A:=by simp_all
@[simp]theorem agR{p A B:Prop}{u:PU A}{w:PU B}(h:¬p):br p A B u w=B:=by simp_all
theorem gv{k:LwQ->Hp->Prop}{u:PU k}{w:PU T}{l:LwQ}{h:Hp}(hT:∀q,T q=q l h)(hk:k l h):jo k T u w:=by grind[jo]
theorem bB{k:LwQ->Hp->Prop}{u:PU k}{w:PU T}(h:T k):jo k T u w:=h
@[simp ↓] theorem agS (o:Option V)(k:V->Prop):bnd o k=rn (bnd o) k .mk:=id rfl
@[simp ↓] theorem agG (x:V)(i:Nat)(k:V->Prop):ext x i k=rn (ext x i) k .mk:=id rfl
@[simp ↓] theorem afa (h:Hp)(op:BinOp)(x y:V)(k:V->Prop):yf h op x y k=rn (yf h op x y) k .mk:=id rfl
@[simp ↓] theorem agK (b:Bool)(A B:Prop):cnd (.d (.bool b)) A B=br (b=true) A B .mk .mk:=by cases b<;>simp[cnd,br]
@[simp ↓] theorem afj (b:Bool)(h:Hp)(T:kkQ->Prop)(k:kkQ):gd (.d (.bool b)) true h T k=br (b=true) (T k) (k (.tup []) h) .mk .mk:=by cases b<;>simp[gd,br]
@[simp ↓] theorem aek (b:Bool)(h:Hp)(T:kkQ->Prop)(k:kkQ):gd (.d (.bool b)) false h T k=br (b=false) (T k) (k (.tup []) h) .mk .mk:=by cases b<;>simp[gd,br]
@[simp ↓] theorem aej (w:Bool)(h:Hp)(T:kkQ->Prop)(k:kkQ):gd (.tup []) w h T k=k (.tup []) h:=id rfl
@[simp ↓] theorem ag8 (k:LwQ->Hp->Prop)(T:(LwQ->Hp->Prop)->Prop):jn k T=jo k T .mk .mk:=id rfl
@[simp ↓] theorem agN (C:rL)(h:Hp)(c:V)(args:LwQ)(k:kkQ):cal C h c args k=rh (cal C h c args) k .mk:=id rfl
@[simp ↓] theorem afU (C:rL)(h:Hp)(c:V)(args:LwQ)(k:kkQ):soC C h c args k=rh (soC C h c args) k .mk:=id rfl
@[simp ↓] theorem agO (C:qu)(h:Hp)(c:V)(args:LwQ)(s:Nat)(k:kkQ):cai C h c args s k=rh (cai C h c args s) k .mk:=id rfl
@[simp ↓] theorem afo (C:qu)(h:Hp)(c:V)(args:LwQ)(s:Nat)(k:kkQ):Vo C h c args s k=rh (Vo C h c args s) k .mk:=id rfl
@[simp ↓] theorem agY (s:Nat)(cs:LwQ)(h:Hp)(k:kkQ):alV s cs h k=rh (alV s cs h) k .mk:=id rfl
@[simp ↓] theorem agZ (s n:Nat)(cs:LdQ)(h:Hp)(k:kkQ):alD s n cs h k=rh (alD s n cs h) k .mk:=id rfl
@[simp ↓] theorem afq (s:Nat)(v:V)(h:Hp)(k:kkQ):fJ s v h k=rh (fJ s v h) k .mk:=id rfl
@[simp ↓] theorem afe (len:Nat)(z:LdQ)(ps:List (Nat×V))(h:Hp)(k:kkQ):fI len z ps h k=rh (fI len z ps h) k .mk:=id rfl
@[simp ↓] theorem afd (s len:Nat)(z:LdQ)(ps:List (Nat×V))(h:Hp)(k:kkQ):xp s len z ps h k=rh (xp s len z ps h) k .mk:=id rfl
@[simp ↓] theorem agt (s by_:Nat)(z:LdQ)(h:Hp)(l c:V)(k:kkQ):mkS s by_ z h l c k=rh (mkS s by_ z h l c) k .mk:=id rfl
def ra(f:Nat->Prop)(u:PU f):Prop:=∃s,f s
@[simp ↓] theorem afH (f:Nat->Prop):anyS f=ra f .mk:=id rfl
theorem yT{f:Nat->Prop}{u:PU f}(s:Nat)(h:f s):ra f u:=⟨s,h⟩
@[simp ↓] theorem afc (s len:Nat)(z:LdQ)(ps:List (Nat×V))(h:Hp)(k:kkQ):Bc s len z ps h k=rh (Bc s len z ps h) k .mk:=id rfl
@[simp ↓] theorem agU (dr:Bool)(s n by_:Nat)(x y:V)(h:Hp)(k:kkQ):apW dr s n by_ x y h k=rh (apW dr s n by_ x y h) k .mk:=id rfl
theorem MI{s e:Nat}{b:Bk}{z:D}{v:V}{h:Hp}{k:kkQ}{u:PU k}(hs:h[s]?=some (e,b))(hv:vI v=some [v])(hk:k (.ref s (e+1) 0 1 1 1) (h.set s (e+1,.vars [v]))):rh (Bc s 1 [z] [(0,v)] h) k u:=by
 show Bc s 1 [z] [(0,v)] h k
 have hf:nY (fun i=>some (i * [z].length,[z].length)) ((jm 1 [z]).map .d) [(0,v)]=some [v]:=by
  simp[nY,hv,jm]
 unfold Bc;rw[hf];simp only[new,hs];rw[if_pos ⟨⟨ae,ae⟩,rfl⟩];exact hk
theorem acr{dr:Bool}{s e by_ k:Nat}{b:Bk}{y:V}{vs:LwQ}{h:Hp}{q:kkQ}{u:PU q}(hy:sf h y=some (k,vs))(ho:vs.all okV=true)(hk:0<k)(hb:k*by_<=140737488355328)(hs:h[s]?=some (e,b))
  (hq:q (.ref s (e+1) 0 k k vs.length) (h.set s (e+1,.vars vs))):rh (apW dr s 1 by_ (.d nPQ) y h) q u:=by
 show apW dr s 1 by_ _ y h q
 unfold apW;rw[hy];simp only[new,hs];rw[if_pos ⟨ho,hk,trivial⟩,if_pos hb];exact hq
theorem ZY{s s' e by_ k off len cap:Nat}{y:V}{vs old:LwQ}{h:Hp}{q:kkQ}{u:PU q}(hy:sf h y=some (k,vs))(ho:vs.all okV=true)(hk:0<k)(hg:h[s']?=some (e,.vars old))(hl:len=cap)(hc:off+cap=old.length)(h0:old.length<len+k)
  (hb:(len+k)*by_<=140737488355328) (hq:q (.ref s' (e+1) 0 (len+k) (len+k) (len+k)) (h.set s' (e+1,.vars ((old.drop off).take len++vs)))):rh (apW false s 1 by_ (.ref s' e off len cap old.length) y h) q u:=by
 show apW false s 1 by_ _ y h q
 have hg':aC h s' e=.vars old:=by simp[aC,hg]
 unfold apW;rw[hy];simp only[hg'];rw[if_pos ⟨ho,hk,trivial⟩,if_pos ⟨trivial,trivial,aa,aa⟩,if_neg aa,if_pos ⟨hb,hc,h0⟩];exact hq
@[simp ↓] theorem afT (h:Hp)(n:Nat)(p v:V)(k:kkQ):stD h n p v k=rh (stD h n p v) k .mk:=id rfl
@[simp ↓] theorem agV (dr:Bool)(s n by_:Nat)(x y:V)(h:Hp)(k:kkQ):apV dr s n by_ x y h k=rh (apV dr s n by_ x y h) k .mk:=id rfl
@[simp ↓] theorem agT (dr:Bool)(s n by_:Nat)(z:LdQ)(x y:V)(h:Hp)(k:kkQ):apZ dr s n by_ z x y h k=rh (apZ dr s n by_ z x y h) k .mk:=id rfl
@[simp ↓] theorem ag5 (st:aP)(clr:LnQ)(h0:Hp)(l:LwQ)(h:Hp)(k:KL):lp st clr h0 l h k=rl (lp st clr h0 l h) k .mk:=id rfl
@[simp ↓] theorem agD (v:V)(h:Hp)(k:kkQ):fzD v h k=rh (fzD v h) k .mk:=id rfl
def rk(T:(Exit->Hp->Prop)->Prop)(k:Exit->Hp->Prop)(u:PU k):Prop:=T k
@[simp ↓] theorem agn (o:Option (List LvQ))(n:Nat)(st:EE)(clr:LnQ)(h:Hp)(k:Exit->Hp->Prop):rgO o n st clr h k=rk (rgO o n st clr h) k .mk:=id rfl
theorem ro{o:Option (List LvQ)}{n:Nat}{st:EE}{h:Hp}{k:Exit->Hp->Prop}{u:PU k}(hq:o=some xs)(hr:rg n st clr h k xs h):rk (rgO o n st clr h) k u:=by subst hq;exact hr
theorem NU{n:Nat}{st:EE}{h:Hp}{k:Exit->Hp->Prop}{x:LvQ}(hl:x.length=n)(hs:st (x.map fun v=>.d (iR v)) h fun ex h'=>match ex with
  |.normal=>o6 clr 0 h'=true∧rg n st clr h0 k xs (aR clr 0 h0 h')
  |ex=>k ex h'):rg n st clr h0 k (x::xs) h:=⟨hl,hs⟩
@[simp]theorem agh(v:V)(k:V->Prop)(u:PU k):rn (bnd (some v)) k u=k v:=id rfl
@[simp]theorem age(vs:LwQ)(i:Nat)(k:V->Prop)(u:PU k):rn (ext (.tup vs) i) k u=rn (bnd vs[i]?) k u:=id rfl
attribute [simp] Tn WP Int.natCast_inj
@[simp]theorem ady(b:Bool)(x y:V):oM (.d (.bool (!b))) x y=oM (.d (.bool b)) y x:=by cases b<;>rfl
@[simp]theorem sS{n:Int}(h1 : -9223372036854775808<=n)(h2:n<=9223372036854775807):IntKind.wrap .i64 n=n:=wrap_i64 ⟨h1,h2⟩
@[simp]theorem LG{n:Int}(h1:0<=n)(h2:n<18446744073709551616):IntKind.wrap .u64 n=n:=wrap_u64 ⟨h1,h2⟩
@[simp]theorem aa1{n:Int}(h1:0<=n)(h2:n<4294967296):IntKind.wrap .u32 n=n:=wrap_u32 ⟨h1,h2⟩
@[simp]theorem wrap_u8'{n:Int}(h1:0<=n)(h2:n<256):IntKind.wrap .u8 n=n:=LH rfl ⟨h1,h2⟩
attribute [simp] yQ ww uq
@[simp]theorem afx{b:Int}(hb:b≠0):biI .rem (.d (.int k a)) (.d (.int k b))=some (.d (.int k (a.tmod b))):=by simp[biI,ig,mY,iR,hb]
@[simp]theorem afy{b:Int}(hb:b≠0):biI .quo (.d (.int k a)) (.d (.int k b))=some (.d (.int k (k.wrap (a.tdiv b)))):=by simp[biI,ig,mY,iR,hb]
theorem Iv{l:IntKind}{b:Int}(h0:0<=b)(hb:b.toNat<=k.bits):biI .shr (.d (.int k a)) (.d (.int l b))=some (.d (.int k (a/2^b.toNat))):=by
 have h1:¬(b<0):=aa
 grind[biI,ig,mY,iR]
theorem yP{l:IntKind}{b:Int}(h0:0<=b)(hb:b.toNat<=k.bits):biI .shl (.d (.int k a)) (.d (.int l b))=some (.d (.int k (k.wrap (a*2^b.toNat)))):=by
 have h1:¬(b<0):=aa
 grind[biI,ig,mY,iR]
@[simp]theorem aeH:IntKind.bits .i64=64:=rfl
@[simp]theorem aeF:IntKind.bits .u64=64:=rfl
@[simp]theorem aeG:IntKind.bits .u32=32:=rfl
@[simp]theorem afu:IntKind.bits .u8=8:=rfl
@[simp]theorem Wa{l:IntKind}{b:Int}(h0:0<=b)(hb:b<=64):biI .shr (.d (.int .i64 a)) (.d (.int l b))=some (.d (.int .i64 (a/2^b.toNat))):=Iv h0 aG
@[simp]theorem aeY{l:IntKind}{b:Int}(h0:0<=b)(hb:b<=64):biI .shl (.d (.int .i64 a)) (.d (.int l b))=some (.d (.int .i64 (IntKind.wrap .i64 (a*2^b.toNat)))):=yP h0 aG
@[simp]theorem aeU{l:IntKind}{b:Int}(h0:0<=b)(hb:b<=64):biI .shr (.d (.int .u64 a)) (.d (.int l b))=some (.d (.int .u64 (a/2^b.toNat))):=Iv h0 aG
@[simp]theorem aeW{l:IntKind}{b:Int}(h0:0<=b)(hb:b<=64):biI .shl (.d (.int .u64 a)) (.d (.int l b))=some (.d (.int .u64 (IntKind.wrap .u64 (a*2^b.toNat)))):=yP h0 aG
@[simp]theorem aeV{l:IntKind}{b:Int}(h0:0<=b)(hb:b<=32):biI .shr (.d (.int .u32 a)) (.d (.int l b))=some (.d (.int .u32 (a/2^b.toNat))):=Iv h0 aG
@[simp]theorem aeX{l:IntKind}{b:Int}(h0:0<=b)(hb:b<=32):biI .shl (.d (.int .u32 a)) (.d (.int l b))=some (.d (.int .u32 (IntKind.wrap .u32 (a*2^b.toNat)))):=yP h0 aG
@[simp]theorem aeR(k:IntKind)(n:Int):unV .neg (.d (.int k n))=some (.d (.int k (k.wrap (-n)))):=by simp[unV,ig,mY,iR]
def nth{α:Type}(d:α)(l:List α)(i:Nat):α:=l.getD i d
theorem dQ{α:Type}(d:α)(l:List α)(i:Nat)(h:i<l.length):nth d l i=l[i]:=by simp[nth,h]
@[simp]theorem Hy{α:Type}(d:α)(p:List α)(x:α)(q:List α):nth d (p++x::q) p.length=x:=by simp[nth]
section
variable{α:Type}(f:α->D)
@[simp] theorem nU (l:List α)(h:Hp)(h0:0<=i)(h1:i<l.length):ixV h 1 (lst f l) (.d (.int k i))=some (.dptr (l.map f) i.toNat):=
 t8 f l h (Int.toNat_of_nonneg h0).symm aa
theorem md(d:α)(l:List α)(h:Hp)(hl:j<l.length):ld1 h (.dptr (l.map f) j)=some (.d (f (nth d l j))):=by rw[oB f l h hl,dQ d l j hl]
@[simp] theorem o9 (p:List α)(x:α)(q:List α)(h:Hp)(k:IntKind):ixV h 1 (lst f (p++x::q)) (.d (.int k p.length))=some (.dptr ((p++x::q).map f) p.length):=
 t8 f _ h rfl ae
omit f in
@[simp] theorem agw (a:LdQ)(x:D)(b:LdQ)(h:Hp)(hj:j=a.length):ld1 h (.dptr (a++x::b) j)=some (.d x):=by subst hj;simp[ld1]
omit f in
@[simp]theorem ag7(x:D)(b:LdQ)(h:Hp):ld1 h (.dptr (x::b) 0)=some (.d x):=by rfl
end
section
variable{α:Type}(f:α->D)(l:List α)
@[simp]theorem adg(h:Hp)(h0:0<=i)(h1:i<=l.length)(hp:0<l.length):slV h 1 (lst f l) none (some (I i))=some (lst f (l.take i.toNat)):=aas f l hp aa aa
@[simp]theorem ag3(h:Hp)(h0:0<=i)(h1:i<=l.length)(hp:0<l.length):slV h 1 (lst f l) (some (I i)) none=some (lst f (l.drop i.toNat)):=ado f l hp aa aa
end
@[simp] theorem aha (len n:Nat)(cs:LdQ)(off:Nat)(h0:0<=i)(h1:i<len):ixP len n (.dptr cs off) (.d (.int k i))=some (.dptr cs (off+i.toNat*n)):=by simp only[ixP];rw[if_pos ⟨h0,h1⟩]
@[simp] theorem ag9 (len n:Nat)(s e off tot:Nat)(h0:0<=i)(h1:i<len):ixP len n (.ptr s e off tot) (.d (.int k i))=some (.ptr s e (off+i.toNat*n) tot):=by simp only[ixP];rw[if_pos ⟨h0,h1⟩]
theorem ad6(h:Hp)(cs:LdQ)(pos:Nat){x:D}(hx:cs[pos]?=some x):ld1 h (.dptr cs pos)=some (.d x):=by grind[ld1]
def oQ{α:Type}(f:α->LdQ)(l:List α):V:=.d (.sl l.length (l.flatMap f))
section
variable{α:Type}(f:α->LdQ){n:Nat}(hf:∀x,(f x).length=n)
include hf
theorem fv(l:List α):(l.flatMap f).length=l.length*n:=by
 induction l with
 |nil=>simp
 |cons x l ih=>grind
theorem Ep(d:α)(l:List α)(hj:j<l.length):cut (l.flatMap f) (j*n) n=some (f (nth d l j)):=by
 have hle:j*n+n<=(l.flatMap f).length:=by
  rw[fv f hf,<-X7];exact Zy n hj
 simp only[cut,if_pos hle,Z9];clear hle
 induction l generalizing j with
 |nil=>cases hj
 | cons x l ih=>
  cases j with
  |zero=>grind[nth]
  | succ j=>
   grind[X7,List.drop_drop,List.drop_left,nth]
theorem j9(l:List α)(h:Hp)(h0:0<=i)(h1:i<l.length):ixV h n (oQ f l) (.d (.int k i))=some (.dptr (l.flatMap f) (i.toNat*n)):=by grind[ixV,oQ,fv]
theorem kY(d:α)(l:List α)(h:Hp)(hj:j<l.length):ldA h n (.dptr (l.flatMap f) (j*n))=some (.agg ((f (nth d l j)).map .d)):=by grind[ldA,Ep]
theorem yn(d:α)(l:List α)(h:Hp){o:Nat}{x:D}(hj:j<l.length)(ho:o<n)(hx:(f (nth d l j))[o]?=some x):ld1 h (.dptr (l.flatMap f) (j*n+o))=some (.d x):=by
 have hc:=Ep f hf d l hj
 grind[cut,ld1]
end
@[simp]theorem acN{α:Type}(f:α->LdQ)(l:List α):aW (oQ f l)=some (I l.length):=id rfl
@[simp]theorem acD{α:Type}(h:Hp)(f:α->LdQ)(l:List α):bg h (oQ f l)=some (oQ f l,h):=by rfl
def sd(place:Nat->Option (Nat×Nat))(cs:LwQ)(ps:List (Nat×V)):Option LwQ:=nY place cs ps
@[simp]theorem acX(place:Nat->Option (Nat×Nat))(cs:LwQ):sd place cs []=some cs:=id rfl
def KN(o:Option (Nat×Nat))(place:Nat->Option (Nat×Nat))(cs:LwQ)(v:V)(r:List (Nat×V)):Option LwQ:=match o with
 |none=>none
 | some (off,sz)=>match vI v with
  |none=>none
  |some vs=>if vs.length=sz∧off+vs.length<=cs.length then sd place (cs.take off++vs++cs.drop (off+vs.length)) r else none
@[simp]theorem abY(place:Nat->Option (Nat×Nat))(cs:LwQ)(i:Nat)(v:V)(r:List (Nat×V)):sd place cs ((i,v)::r)=KN (place i) place cs v r:=id rfl
@[simp] theorem afk (place:Nat->Option (Nat×Nat))(cs:LwQ)(x:D)(r:List (Nat×V))(off sz:Nat):
  KN (some (off,sz)) place cs (.d x) r=if 1=sz∧off+1<=cs.length then sd place (cs.take off++[.d x]++cs.drop (off+1)) r else none:=id rfl
@[simp] theorem ac0 (place:Nat->Option (Nat×Nat))(cs:LwQ)(vs:LwQ)(r:List (Nat×V))(off sz:Nat):
  KN (some (off,sz)) place cs (.agg vs) r=if vs.length=sz∧off+vs.length<=cs.length then sd place (cs.take off++vs++cs.drop (off+vs.length)) r else none:=id rfl
@[simp] theorem acY (place:Nat->Option (Nat×Nat))(cs:LwQ)(a b c d e f:Nat)(r:List (Nat×V))(off sz:Nat):
  KN (some (off,sz)) place cs (.ref a b c d e f) r=if 1=sz∧off+1<=cs.length then sd place (cs.take off++[.ref a b c d e f]++cs.drop (off+1)) r else none:=id rfl
def ack(fs:List (Nat×Nat))(z:LdQ)(ps:List (Nat×V)):Option V:=bld fs z ps
def acj(n:Nat)(z:LdQ)(ps:List (Nat×V)):Option V:=Q4 n z ps
@[simp]theorem agi(fs:List (Nat×Nat))(z:LdQ)(ps:List (Nat×V))(k:V->Prop)(u:PU k):rn (bnd (bld fs z ps)) k u=rn (bnd (ack fs z ps)) k u:=id rfl
@[simp]theorem ae0(n:Nat)(z:LdQ)(ps:List (Nat×V))(k:V->Prop)(u:PU k):rn (bnd (Q4 n z ps)) k u=rn (bnd (acj n z ps)) k u:=id rfl
@[simp]theorem afs(fs:List (Nat×Nat))(z:LdQ)(ps:List (Nat×V)):ack fs z ps=(sd (fun i=>fs[i]?) (z.map .d) ps).map .agg:=id (by unfold ack bld sd;cases nY (fun i=>fs[i]?) (z.map .d) ps<;>rfl)
@[simp]theorem afr(n:Nat)(z:LdQ)(ps:List (Nat×V)):acj n z ps=(sd (fun i=>some (i*n,n)) (z.map .d) ps).map .agg:=id (by unfold acj Q4 sd;cases nY (fun i=>some (i*n,n)) (z.map .d) ps<;>rfl)
@[simp]theorem agE(off n:Nat)(vs:LwQ):fiV off n true (.agg vs)=vs[off]?:=id rfl
@[simp]theorem afl(cs:LdQ)(o off:Nat):faV off (.dptr cs o)=some (.dptr cs (o+off)):=id rfl
@[simp]theorem agF(s e o tot off:Nat):faV off (.ptr s e o tot)=some (.ptr s e (o+off) tot):=id rfl
def bnh{α:Type}(o:Option α)(k:α->Prop):Prop:=match o with
 |some x=>k x
 |none=>False
@[simp]theorem agf{α:Type}(x:α)(k:α->Prop)(u:PU k):rn (bnh (some x)) k u=k x:=id rfl
@[simp] theorem agj (h:Hp)(n:Nat)(p v:V)(k:kkQ)(u:PU k):rh (stD h n p v) k u=rn (bnh (st h n p v)) (fun h'=>k .junk h') .mk:=by unfold rh rn stD bnh;cases st h n p v<;>rfl
theorem BO(h:Hp)(s:Nat)(b:Bk)(k:Nat->Hp->Prop):new h s b k=bnh h[s]? fun x=>k (x.1+1) (h.set s (x.1+1,b)):=by grind[new,bnh]
@[simp]theorem agl(s:Nat)(cs:LwQ)(h:Hp)(k:kkQ)(u:PU k):rh (alV s cs h) k u=rn (bnh h[s]?) (fun x=>k (.ptr s (x.1+1) 0 cs.length) (h.set s (x.1+1,.vars cs))) .mk:=by unfold rh rn alV;exact BO ..
@[simp]theorem ae3(s:Nat)(vs:LwQ)(h:Hp)(k:kkQ)(u:PU k):rh (fJ s (.agg vs) h) k u=rh (alV s vs h) k u:=id rfl
@[simp]theorem ads(s:Nat)(x:D)(h:Hp)(k:kkQ)(u:PU k):rh (fJ s (.d x) h) k u=rh (alV s [.d x] h) k u:=id rfl
def fO(len:Nat)(z:LdQ)(ps:List (Nat×V))(h:Hp):Option (LdQ×Hp):=match sd (fun i=>some (i*z.length,z.length)) ((jm len z).map .d) ps with
 |some vs=>if 0<z.length∧len*z.length<=16777216 then ly h vs else none
 |none=>none
@[simp] theorem ae2 (len:Nat)(z:LdQ)(ps:List (Nat×V))(h:Hp)(k:kkQ)(u:PU k):rh (fI len z ps h) k u=rn (bnh (fO len z ps h)) (fun x=>k (.d (.sl len x.1)) x.2) .mk:=by
 unfold rh rn fI fO bnh sd;cases nY (fun i=>some (i*z.length,z.length)) ((jm len z).map .d) ps with
 |none=>rfl
 | some vs=>
  simp only;split
  .cases ly h vs<;>rfl
  .rfl
@[simp] theorem ae1 (s len:Nat)(z:LdQ)(ps:List (Nat×V))(h:Hp)(k:kkQ)(u:PU k):rh (xp s len z ps h) k u=rn (bnh (fO len z ps h)) (fun x=>rn (bnh x.2[s]?) (fun y=>k (.ref s (y.1+1) 0 len len x.1.length) (x.2.set s (y.1+1,.data z.length x.1 true false))) .mk) .mk:=by
 unfold rh rn xp fO bnh sd;cases nY (fun i=>some (i*z.length,z.length)) ((jm len z).map .d) ps with
 |none=>rfl
 | some vs=>
  simp only;split
  .cases ly h vs with
   |none=>rfl
   |some x=>simp only[BO];rfl
  .rfl
def iL(h:Hp)(s e:Nat):Bk:=aC h s e
@[simp]theorem abP(e0:Nat)(b:Bk)(h:Hp)(e:Nat):iL ((e0,b)::h) 0 e=if e0=e then b else .none:=id rfl
@[simp]theorem abQ(x:Nat×Bk)(h:Hp)(s e:Nat):iL (x::h) (s+1) e=iL h s e:=id rfl
@[simp]theorem acV(x:Nat×Bk)(h:Hp)(e:Nat):iL (x::h) 1 e=iL h 0 e:=id rfl
@[simp]theorem acT(x:Nat×Bk)(h:Hp)(e:Nat):iL (x::h) 2 e=iL h 1 e:=id rfl
@[simp]theorem aaC(x:Nat×Bk)(h:Hp)(e:Nat):iL (x::h) 3 e=iL h 2 e:=id rfl
@[simp]theorem abR(x:Nat×Bk)(h:Hp)(e:Nat):iL (x::h) 4 e=iL h 3 e:=id rfl
def Ul(b:Bk)(off tot:Nat):Option V:=match b with
 |.vars cs=>if tot=cs.length then cs[off]? else none
 |.data _ cs _ _=>if tot=cs.length then cs[off]?.map .d else none
 |.none=>none
def HX(b:Bk)(n off tot:Nat):Option V:=match b with
 |.vars cs=>if tot=cs.length then(cut cs off n).map .agg else none
 |.data _ cs _ _=>if tot=cs.length then(cut cs off n).map fun l=>.agg (l.map .d)else none
 |.none=>none
theorem ad7(h:Hp)(s e off tot:Nat):ld1 h (.ptr s e off tot)=Ul (iL h s e) off tot:=by
 unfold iL;simp only[ld1];cases aC h s e with
 |none=>rfl
 |vars cs=>rfl
 | data n cs a b=>
  simp only[Ul];split
  .cases cs[off]?<;>rfl
  .rfl
theorem ad5(h:Hp)(n s e off tot:Nat):ldA h n (.ptr s e off tot)=HX (iL h s e) n off tot:=by
 unfold iL;simp only[ldA];cases aC h s e with
 |none=>rfl
 | vars cs=>
  simp only[HX];split
  .cases cut cs off n<;>rfl
  .rfl
 | data m cs a b=>
  simp only[HX];split
  .cases cut cs off n<;>rfl
  .rfl
@[simp]theorem agc(h:Hp)(s e off tot:Nat)(k:V->Prop)(u:PU k):rn (bnd (ld1 h (.ptr s e off tot))) k u=rn (bnd (Ul (iL h s e) off tot)) k u:=by rw[ad7]
@[simp]theorem agb(h:Hp)(n s e off tot:Nat)(k:V->Prop)(u:PU k):rn (bnd (ldA h n (.ptr s e off tot))) k u=rn (bnd (HX (iL h s e) n off tot)) k u:=by rw[ad5]
@[simp]theorem acR(cs:LwQ)(off tot:Nat):Ul (.vars cs) off tot=if tot=cs.length then cs[off]? else none:=id rfl
@[simp]theorem acS(n:Nat)(cs:LdQ)(a b:Bool)(off tot:Nat):Ul (.data n cs a b) off tot=if tot=cs.length then cs[off]?.map .d else none:=id rfl
@[simp]theorem acO(cs:LwQ)(n off tot:Nat):HX (.vars cs) n off tot=if tot=cs.length then(cut cs off n).map .agg else none:=id rfl
@[simp]theorem acQ(m:Nat)(cs:LdQ)(a b:Bool)(n off tot:Nat):HX (.data m cs a b) n off tot=if tot=cs.length then(cut cs off n).map (fun l=>.agg (l.map .d))else none:=id rfl
def stX(b:Bk)(h:Hp)(s e off tot:Nat)(vs:LwQ):Option Hp:=match b with
 |.vars cs=>if tot=cs.length∧off+vs.length<=cs.length∧vs.all okV=true then some (cw h s e (.vars (cs.take off++vs++cs.drop (off+vs.length))))else none
 |_=>sto h s e off tot vs
theorem aan(h:Hp)(s e off tot:Nat)(vs:LwQ):sto h s e off tot vs=stX (iL h s e) h s e off tot vs:=by
 unfold iL stX;cases hb:aC h s e with
 |vars cs=>simp[sto,hb]
 |none=>rfl
 |data n cs a b=>rfl
@[simp] theorem af9 (h:Hp)(n s e off tot:Nat)(vs:LwQ)(k:Hp->Prop)(u:PU k):rn (bnh (st h n (.ptr s e off tot) (.agg vs))) k u=rn (bnh (if vs.length=n then stX (iL h s e) h s e off tot vs else none)) k u:=by simp only[rn,st,aan]
def Je(b:Bk)(h:Hp)(s e off tot:Nat)(x:D):Option Hp:=match b with
 |.vars cs=>if tot=cs.length∧off+1<=cs.length then some (cw h s e (.vars (cs.take off++[.d x]++cs.drop (off+1))))else none
 |.data n cs ex fr=>if fr=false∧tot=cs.length∧off+1<=cs.length then some (cw h s e (.data n (cs.set off (norm x)) ex false))else none
 |.none=>none
theorem adk(h:Hp)(s e off tot:Nat)(x:D):st h 1 (.ptr s e off tot) (.d x)=Je (iL h s e) h s e off tot x:=by
 unfold iL;simp only[st,if_true];cases hb:aC h s e with
 |none=>simp[sto,hb,Je]
 |vars cs=>simp[sto,hb,Je,okV]
 | data n cs ex fr=>
  simp only[sto,hb,ly,toD,Je];by_cases hc:fr=false∧tot=cs.length∧off+1<=cs.length
  .rw[if_pos hc,if_pos aa];rw[Yn,if_pos aa];simp
  .rw[if_neg hc,if_neg aa]
@[simp]theorem aga(h:Hp)(s e off tot:Nat)(x:D)(k:Hp->Prop)(u:PU k):rn (bnh (st h 1 (.ptr s e off tot) (.d x))) k u=rn (bnh (Je (iL h s e) h s e off tot x)) k u:=by rw[adk]
@[simp]theorem acB(cs:LwQ)(h:Hp)(s e off tot:Nat)(x:D):Je (.vars cs) h s e off tot x=if tot=cs.length∧off+1<=cs.length then some (cw h s e (.vars (cs.take off++[.d x]++cs.drop (off+1))))else none:=id rfl
@[simp] theorem PL (n:Nat)(cs:LdQ)(ex:Bool)(h:Hp)(s e off tot:Nat)(x:D)(ht:tot=cs.length)(ho:off<cs.length):Je (.data n cs ex false) h s e off tot x=some (cw h s e (.data n (cs.set off (norm x)) ex false)):=by simp only[Je];simp[ht];omega
def ixX(b:Bk)(n s e off len tot:Nat)(i:Int):Option V:=match b with
 |.data _ cs _ _=>if tot=cs.length∧0<=i∧i<len then some (.ptr s e (off+i.toNat*n) tot)else none
 |.vars cs=>if tot=cs.length∧0<=i∧i<len then some (.ptr s e (off+i.toNat*n) tot)else none
 |_=>none
@[simp] theorem agd (h:Hp)(n s e off len cap tot:Nat)(kd:IntKind)(i:Int)(k:V->Prop)(u:PU k):rn (bnd (ixV h n (.ref s e off len cap tot) (.d (.int kd i)))) k u=rn (bnd (ixX (iL h s e) n s e off len tot i)) k u:=by
 have:ixV h n (.ref s e off len cap tot) (.d (.int kd i))=ixX (iL h s e) n s e off len tot i:=by
  unfold iL;simp only[ixV,ixX];cases aC h s e<;>rfl
 rfl
@[simp] theorem aee (m:Nat)(cs:LdQ)(a b:Bool)(n s e off len tot:Nat)(i:Int)(ht:tot=cs.length)(h0:0<=i)(h1:i<len):ixX (.data m cs a b) n s e off len tot i=some (.ptr s e (off+i.toNat*n) tot):=by simp only[ixX];rw[if_pos ⟨ht,h0,h1⟩]
@[simp] theorem aed (cs:LwQ)(n s e off len tot:Nat)(i:Int)(ht:tot=cs.length)(h0:0<=i)(h1:i<len):ixX (.vars cs) n s e off len tot i=some (.ptr s e (off+i.toNat*n) tot):=by simp only[ixX];rw[if_pos ⟨ht,h0,h1⟩]
@[simp] theorem af8 (h:Hp)(n s e off tot a b c d f g:Nat)(k:Hp->Prop)(u:PU k):rn (bnh (st h n (.ptr s e off tot) (.ref a b c d f g))) k u=rn (bnh (if n=1 then stX (iL h s e) h s e off tot [.ref a b c d f g]else none)) k u:=by simp only[rn,st,aan]
@[simp]theorem adj(cs:LwQ)(h:Hp)(s e off tot:Nat)(vs:LwQ):stX (.vars cs) h s e off tot vs=if tot=cs.length∧off+vs.length<=cs.length∧vs.all okV=true then some (cw h s e (.vars (cs.take off++vs++cs.drop (off+vs.length))))else none:=id rfl
@[simp]theorem afh(h:Hp)(s e:Nat)(b:Bk):cw h s e b=h.set s (e,b):=rfl
@[simp]theorem ag4(x:D):okV (.d x)=true:=rfl
@[simp]theorem ae5(a b c d e f:Nat):okV (.ref a b c d e f)=true:=rfl
@[simp]theorem agI{α:Type}(l:List α)(off n:Nat):cut l off n=if off+n<=l.length then some ((l.drop off).take n)else none:=id rfl
@[simp]theorem rD(i:Nat)(h0 h:Hp)(hl:h.length=h0.length):aR [] i h0 h=h:=F7 i h0 h hl
@[simp]theorem afn(q:LwQ->Hp->Prop)(r:List (Exit×(LwQ->Hp->Prop)))(l:LwQ)(h:Hp):exK ((.normal,q)::r) .normal l h=q l h:=rfl
@[simp]theorem aaJ(q:LwQ->Hp->Prop)(r:List (Exit×(LwQ->Hp->Prop)))(l:LwQ)(h:Hp):exK ((.normal,q)::r) .ret l h=exK r .ret l h:=rfl
@[simp]theorem aaI(q:LwQ->Hp->Prop)(r:List (Exit×(LwQ->Hp->Prop)))(l:LwQ)(h:Hp):exK ((.ret,q)::r) .normal l h=exK r .normal l h:=rfl
@[congr]theorem acW{l:List Gh}{h:Hp}{k:Hp->Prop}(e:h=h'):ghG l h k=ghG l h' k:=by rw[e]
@[congr]theorem adl{h:Hp}{x:V}{k:Prop}(e:h=h'):sp h x ys k=sp h' x ys k:=by rw[e]
@[congr]theorem adn{h:Hp}{x y:V}{k:Prop}(e:h=h'):sm h x y k=sm h' x y k:=by rw[e]
theorem Jf{h:Hp}{x:V}{k:Prop}:∀{ys:LwQ},ys.all (apt h x)=true->k->sp h x ys k
 |[],_,hk=>hk
 | y::ys,hb,hk=>by
  simp only[List.all_cons,Z8]at hb;unfold sp;rw[hb.1];exact Jf hb.2 hk
theorem R7{h:Hp}{x y:V}{k:Prop}(hb:smB h x y=true)(hk:k):sm h x y k:=by grind[sm]
structure Acc where
 s:Nat
 e:Nat
 n:Nat
 b0:Bk
def Acc.v(a:Acc)(L:Nat)(cells:LdQ):V:=match L with
 |0=>.d nPQ
 |_=>.ref a.s (a.e+1) 0 L L cells.length
def Acc.b(a:Acc)(L:Nat)(cells:LdQ):Nat×Bk:=match L with
 |0=>(a.e,a.b0)
 |_=>(a.e+1,.data a.n cells false false)
theorem om(a:Acc){L by_ k:Nat}{cells cs:LdQ}{h:Hp}{y:V}{q:kkQ}{u:PU q}(hk:0<k)(hs:h[a.s]?=some (a.b L cells))(hc:cells.length=L*a.n)(hcs:cs.length=k*a.n)
  (hy:cellsOf h y=some (k,cs)) (hyn:∀t,y≠.d (.str t)) (hb:(L+k)*by_<=140737488355328) (hn:0<a.n) (hq:q (a.v (L+k) (cells++cs)) (h.set a.s (a.b (L+k) (cells++cs)))):rh (apV false a.s a.n by_ (a.v L cells) y h) q u:=by
 have e1:apV false a.s a.n by_ (a.v L cells) y h q=apC false a.s a.n by_ (a.v L cells) k cs h q:=by
  unfold apV;split
  .trivial
  .grind
 show apV false a.s a.n by_ (a.v L cells) y h q
 rw[e1];have hlt:=(List.getElem?_eq_some_iff.1 hs).1;obtain⟨m,hm⟩:∃m,L+k=m+1:=⟨L+k-1,aa⟩;cases L with
 | zero=>
  have:cells=[]:=Zq aa;subst this;simp only[Zk,List.nil_append]at *;simp only[Acc.v];unfold apC;rw[if_neg aa];simp only[];rw[if_pos aa]
  simp_all[new,Acc.b,Acc.v]
 | succ L=>
  simp only[Acc.v];unfold apC;rw[if_neg aa];have hg:aC h a.s (a.e+1)=.data a.n cells false false:=by simp only[aC,hs,Acc.b,if_true]
  simp only[hg,true_and,Zk];rw[if_pos ⟨Z7 _,aa,hcs⟩,if_neg aa,if_pos hb];simp only[Zf,if_false,Bool.or_self];have hpos:0<cs.length:=by rw[hcs];exact Yk hk hn
  rw[if_pos ⟨aa,aa⟩];rw[hm]at hq ⊢;simp only[Acc.v,Acc.b,List.length_append,cw,hc]at hq ⊢;simp only[Yo];rw[Zz aa];exact hq
theorem py(a:Acc){h:Hp}(hs:h[a.s]?=some (a.b L cells))(hc:cells.length=L*a.n):
  ∃h',bg h (a.v L cells)=some (.d (.sl L cells),h')∧((L=0∧h'=h)∨(0<L∧h'=h.set a.s (a.e+1,.data a.n cells false true))):=by
 cases L with
 | zero=>
  simp_all[Acc.v]
 | succ L=>
  have hg:aC h a.s (a.e+1)=.data a.n cells false false:=by simp only[aC,hs,Acc.b,if_true]
  refine⟨_,?_,.inr ⟨Nat.succ_pos _,rfl⟩⟩;simp only[Acc.v,bg,toD,hg,true_and,Zk];rw[if_pos ⟨Z7 _,aa⟩];simp only[Yo,cw];rw[Zz aa]
theorem aaf(a:Acc){h:Hp}(hs:h[a.s]?=some (a.b L cells))(hc:cells.length=L*a.n):out (.d (.sl L cells)) (a.v L cells) h:=by obtain⟨h',h1,_⟩:=py a hs hc;exact⟨h',h1⟩
theorem cx{b b':Bool}{h:Hp}(e:b'=b):out (B b) (.d (.bool b')) h:=by simp_all
theorem bP{b:Int}{h:Hp}(e:b=a):out (.d (.int k a)) (.d (.int k b)) h:=by simp_all
theorem cd{h:Hp}{f:FuncId}{v:V}{k:kkQ}{u:PU k}(hc:C f args v)(hk:k v h)(hs:aA h args=some (args,h):=by simp[aA,bg]):rh (cal C h (.fn f [] []) args) k u:=aeA hc hs hk
theorem cds{h:Hp}{f:FuncId}{v:V}{k:kkQ}{u:PU k}(hc:C f args v)(hk:k v h)(hp:oe args=true:=by rfl):rh (soC C h (.fn f [] []) args) k u:=by
 show soC C h (.fn f [] []) args k
 unfold soC;rw[hp];exact⟨v,hc,hk⟩
theorem lo{st:aP}{l:LwQ}{h:Hp}{k:KL}{u:PU k}(hl:lp st clr h0 l h k):rl (lp st clr h0 l h) k u:=hl
def XF(n:Nat):D:=.sl (len n) ((dig W n).map u32)
@[simp]theorem acH(n:Nat):norm (XF n)=XF n:=rfl
@[simp]theorem adm(h:Hp)(n:Nat):bg h (nat n)=some (nat n,h):=Ji ..
@[simp]theorem acL(n:Nat):aW (.d (XF n))=some (I (len n)):=rfl
def aef(z:Int):LwQ:=[.d (.bool (decide (z<0))),.d (XF z.natAbs)]
def abO(z:Int):V:=.agg (aef z)
@[simp]theorem acE(h:Hp)(z:Int):bg h (abO z)=some (abO z,h):=by simp[abO,aef,bg,aA]
def di(n:Int):D:=.int .i64 n
def row(l:LiQ):D:=.sl l.length (l.map di)
abbrev mat(m:LLQ):V:=lst row m
@[simp]theorem ahf(n:Int):V.d (di n)=I n:=id rfl
@[simp]theorem ae9(n:Int):norm (di n)=di n:=rfl
@[simp]theorem adK(l:LiQ):norm (row l)=row l:=rfl
@[simp]theorem agx(l:LiQ)(h:Hp)(h0:0<=i)(h1:i<l.length):ixV h 1 (.d (row l)) (.d (.int k i))=some (.dptr (l.map di) i.toNat):=nU di l h h0 h1
@[simp]theorem Ui(l:LiQ)(h:Hp)(hl:j<l.length):ld1 h (.dptr (l.map di) j)=some (.d (di (nth 0 l j))):=md di 0 l h hl
@[simp]theorem afg(m:LLQ)(h:Hp)(hl:j<m.length):ld1 h (.dptr (m.map row) j)=some (.d (row (nth [] m j))):=md row [] m h hl
@[simp]theorem adW(l:LiQ):aW (.d (row l))=some (I l.length):=rfl
def idx{α:Type}(p:α->Bool)(l:List α):Int:=match l.findIdx? p with
 |some i=>i
 |none=>-1
theorem cdf{h:Hp}{f:FuncId}{fs cs:LwQ}{v:V}{k:kkQ}{u:PU k}(hc:C f (fs++args++cs) v)(hs:aA h (fs++args++cs)=some (fs++args++cs,h))(hk:k v h):rh (cal C h (.fn f fs cs) args) k u:=by simp only[rh,cal,hs];exact⟨v,hc,by simpa using hk⟩
section
variable{α:Type}{f:α->D}{g:FuncId}{fs cs:LwQ}{p:α->Bool}
theorem KC(hs:∀x,aA [] (fs++[.d (f x)]++cs)=some (fs++[.d (f x)]++cs,[]))(k:KL):∀(q a:List α),(a++q).length<4611686018427387904->(∀x∈q,CP Y g (fs++[.d (f x)]++cs) (B (p x))) ->
  (idx p q = -1->k (.exit 0) [] [])->(∀i:Nat,idx p q=i->k .ret [I (a.length+i:Nat)] []) ->
  lp (dM (CX Y) (lst f (a++q)) (.fn g fs cs) (I (a++q).length)) [] [] [I a.length] [] k
 | [],a,hN,_,h0,_=>by
  refine ai ?_;simp[dM];exact h0 rfl
 | x::q,a,hN,hp,h0,h1=>by
  simp at hN;refine ai ?_;simp(disch:=try exact ac)[dM];refine cdf (hp x ae) (hs x) ?_;simp;refine Vq (fun h=>?_) (fun h=>?_)<;>try simp(disch:=try exact ac)[h]
  .have e:idx p (x::q)=(0:Nat):=by simp[idx,List.findIdx?_cons,h]
   simpa using h1 0 e
  .have hl:=hs;have:=KC hs k q (a++[x]) aG (fun y hy=>hp y (by simp[hy])) (fun e=>h0 ?_) (fun i e=>?_)
   .simpa[Wl]using this
   .simp only[idx,List.findIdx?_cons,h,Zf,if_false]at e ⊢;cases hq:List.findIdx? p q<;>simp[hq]at e ⊢
   .have:=h1 (i+1) ?_
    .simpa[X1,Nat.add_comm 1 i]using this
    .simp only[idx,List.findIdx?_cons,h,Zf,if_false]at e ⊢;cases hq:List.findIdx? p q<;>simp[hq]at e ⊢
     exact e
theorem HY(l:List α)(hN:l.length<4611686018427387904)(hs:∀x,aA [] (fs++[.d (f x)]++cs)=some (fs++[.d (f x)]++cs,[]))(hp:∀x∈l,CP Y g (fs++[.d (f x)]++cs) (B (p x))):
  bh (CX Y) (lst f l) (.fn g fs cs) (out (I (idx p l))):=by
 simp[bh];refine lo (KC hs _ l [] (by simpa using hN) hp (fun e=>?_) (fun i e=>?_))
 .simp[e]
 .simp[e]
end
theorem BW{α:Type}(p:α->Bool)(l:List α):0<=idx p l↔l.any p=true:=by
 unfold idx;cases h:l.findIdx? p with
 |none=>simp[List.findIdx?_eq_none_iff]at h ⊢;exact h
 | some i=>
  simp[List.findIdx?_eq_some_iff_getElem]at h ⊢;obtain⟨hi,h1,_⟩:=h;exact⟨l[i],X3 hi,h1⟩
@[simp]theorem aeS(h:Hp)(g:FuncId):bg h (.fn g [] [])=some (.fn g [] [],h):=by simp[bg,aA]
theorem AR{g:FuncId}{p:Int->Bool}(l:LiQ)(hN:l.length<4611686018427387904)(hp:∀x∈l,CP Y g [I x] (B (p x))):CP Y F.bh [lst di l,.fn g [] []] (I (idx p l)):=
 pJ (HY l hN (fun x=>by simp[aA]) hp)
theorem vG{g:FuncId}{p:Int->Bool}(l:LiQ)(hN:l.length<4611686018427387904)(hp:∀x∈l,CP Y g [I x] (B (p x))):CP Y F.bi [lst di l,.fn g [] []] (B (l.any p)):=by
 refine oP ?_;simp[bi];refine cd (AR l hN hp) ?_;simp;have:=BW p l;have e:decide (0<=idx p l)=l.any p:=by rw[Yp];simpa using this
 rw[e];exact JP ..
def Dg(n:Int):Bool:=decide (-1000000000<=n∧n<=1000000000)
theorem o7{α:Type}{d:α}{l:List α}{i:Nat}(h:i<l.length):nth d l i∈l:=by grind[dQ]
def piv(r:LiQ):Int:=idx (fun n=>n !=0) r
theorem abr(r:LiQ): -1<=piv r∧piv r<r.length:=by
 unfold piv idx;cases h:r.findIdx? (fun n=>n !=0)with
 |none=>simp;omega
 |some i=>have:=(List.findIdx?_eq_some_iff_getElem.1 h).1;simp;omega
def Z:Nat:=1000000000
theorem ay:2<=Z:=af
theorem bI:0<Z:=af
def i9(n:Nat):D:=.int .i64 n
def bC:Nat->Nat->LnQ
 |0,_=>[]
 |w+1,n=>n%Z::bC w (n/Z)
theorem dp:∀w n,(bC w n).length=w
 |0,_=>rfl
 |w+1,n=>by simp[bC,dp w]
theorem ug:∀w n,aK Z (bC w n)
 |0,_=>fun x hx=>by simp[bC]at hx
 | w+1,n=>fun x hx=>by
  simp only[bC,Zs]at hx;rcases hx with rfl|hx
  .exact Y1 _ bI
  .exact ug w _ x hx
theorem vA:∀w n,n<Z^w->val Z (bC w n)=n
 |0,n,h=>by simp at h;subst h;rfl
 | w+1,n,h=>by
  have hZ:Z=1000000000:=rfl;simp only[bC,val];rw[vA w (n/Z) (Wv (by rw[Nat.pow_succ,Zr]at h;exact h))];have:=Xw n Z;omega
theorem BX:∀l:LnQ,aK Z l->l=bC l.length (val Z l)
 |[],_=>rfl
 | x::l,h=>by
  have hx:x<Z:=h x ae;have hl:=BX l (fun y hy=>h y (by simp[hy]));have hZ:Z=1000000000:=rfl;simp only[List.length_cons,bC,val];have e1:(x+Z*val Z l)%Z=x:=by rw[Xo];exact Yd hx
  have e2:(x+Z*val Z l)/Z=val Z l:=by rw[Yf _ _ bI,Xe hx,Zk]
  rw[e1,e2,<-hl]
abbrev S(s:LuQ):V:=.d (.str s)
@[simp]theorem HU(s:LuQ):ju (S s)=some (I s.length):=id rfl
@[simp] theorem afZ (s:LuQ){j:Int}(h0:0<=j)(h1:j<=s.length):slS (S s) none (some (I j))=some (S (s.take j.toNat)):=by simp only[slS,boV];rw[if_pos ⟨h0,aa⟩];simp
@[simp] theorem afY (s:LuQ)(h0:0<=i)(h1:i<=s.length):slS (S s) (some (I i)) none=some (S (s.drop i.toNat)):=by simp only[slS,boV];rw[if_pos ⟨h0,aa⟩];simp only;rw[Zz ae]
@[simp]theorem afw(a b:LuQ):biS .eql (S a) (S b)=some (.d (.bool (a == b))):=id rfl
@[simp]theorem afv(a b:LuQ):biS .neq (S a) (S b)=some (.d (.bool (!(a == b)))):=id rfl
@[simp]theorem ZN(a b:LuQ)(h:a.length+b.length<=9223372036854775807):biS .add (S a) (S b)=some (S (a++b)):=by simp[biS,LY,h]
theorem Ut(s:LuQ){x:UInt8}(h0:0<=i)(h:s[i.toNat]?=some x):ixS (S s) (.d (.int k i))=some (.d (.int .u8 x.toNat)):=by simp only[ixS];rw[if_pos h0,h]
theorem eU{a b:LuQ}{h:Hp}(e:b=a):out (S a) (S b) h:=by subst e;exact Tt rfl
theorem Vs(b:Bool):CP Y F.fH [B b] (I (if b=true then 1 else 0)):=by refine uI ?_;cases b<;>simp[fH]
theorem TW{x:Nat}(h:x<=64):CP Y F.fG [I x] (I ((x*78913/262144:Nat):Int)):=by refine uH ?_;simp(disch:=try exact ac)[fG]
def bQ(n:Nat):Nat:=if n=0 then 0 else n.log2+1
theorem xn{n k:Nat}(h:2^k<=n):bQ n=bQ (n/2^k)+k:=by
 have hp:0<2^k:=X6 af;have h0:n≠0:=aa;have h1:n/2^k≠0:=by have:=Wj h hp;omega
 simp only[bQ,h0,h1,if_false]
 have e:n.log2=(n/2^k).log2+k:=by
  rw[Nat.log2_eq_iff h0];have h2:=(Nat.log2_eq_iff h1).1 rfl;constructor
  .rw[Yq];exact Zu (Zy _ h2.1) (Nat.div_mul_le_self n _)
  .have:n/2^k+1<=2^((n/2^k).log2+1):=h2.2
   have h3:n<(n/2^k+1)*2^k:=by
    have:=Nat.lt_mul_div_succ n hp;rw[Zr];exact this
   have h4:=Zy (2^k) this;rw[<-Yq]at h4;rw[show(n/2^k).log2+k+1=(n/2^k).log2+1+k by omega];omega
 omega
def aaA:LuQ:=[0,1,2,2,3,3,3,3,4,4,4,4,4,4,4,4,5,5,5,5,5,5,5,5,5,5,5,5,5,5,5,5,6,6,6,6,6,6,6,6,6,6,6,6,6,6,6,6,6,6,6,6,6,6,6,6,6,6,6,6,6,6,6,6]++(List.replicate 64 7++List.replicate 128 8)
theorem len8:∀x:Fin 256,aaA[x.val]?=some (UInt8.ofNat (bQ x.val)):=aF
theorem Qv{x:Nat}{a:Nat}{n:Nat}(hx:x<256)(hn:bQ n=bQ x+a)(ha:a<=56){h:Hp}:
  (bnd (cvI .u8 (.d (.int .u64 x))) fun v10=>bnd (ixS (S aaA) v10) fun v11=>
   bnd (cvI .i64 v11) fun v12=>bnd (biI .add (I a) v12) fun v13=>out (I (bQ n)) v13 h):=by
 have hb:bQ x<=8:=by
  unfold bQ;split
  .omega
  .rename_i h0;have:=(Nat.log2_lt h0 (k:=8)).2 aa;omega
 have h8:=len8 ⟨x,hx⟩;simp(disch:=try exact ac);rw[Ut _ aa (x:=UInt8.ofNat (bQ x)) (by simpa using h8)];have e:(UInt8.ofNat (bQ x)).toNat=bQ x:=by simp;omega
 simp(disch:=try exact ac)[e];exact bP aa
set_option maxRecDepth 20000 in
theorem Dy{n:Nat}(h:n<18446744073709551616):CP Y F.eJ [.d (.int .u64 n)] (I (bQ n)):=by
 refine yi ?_
 obtain ⟨x1,a1,hx1,he1,ha1,h1⟩:∃x1 a1:Nat,x1<4294967296∧bQ n=bQ x1+a1∧a1<=32∧((4294967296<=n∧x1=n/4294967296∧a1=32)∨(n<4294967296∧x1=n∧a1=0)):=by
  by_cases hh:4294967296<=n
  .exact⟨n/4294967296,32,aa,xn (k:=32) hh,aa,.inl ⟨hh,rfl,rfl⟩⟩
  .exact⟨n,0,aa,rfl,aa,.inr ⟨aa,rfl,rfl⟩⟩
 obtain ⟨x2,a2,hx2,he2,ha2,h2⟩:∃x2 a2:Nat,x2<65536∧bQ n=bQ x2+a2∧a2<=48∧((65536<=x1∧x2=x1/65536∧a2=a1+16)∨(x1<65536∧x2=x1∧a2=a1)):=by
  by_cases hh:65536<=x1
  .exact⟨x1/65536,a1+16,aa,by(have:=xn (n:=x1) (k:=16) hh;simp only[Nat.reducePow]at this;omega),aa,.inl ⟨hh,rfl,rfl⟩⟩
  .exact⟨x1,a1,aa,he1,aa,.inr ⟨aa,rfl,rfl⟩⟩
 obtain ⟨x3,a3,hx3,he3,ha3,h3⟩:∃x3 a3:Nat,x3<256∧bQ n=bQ x3+a3∧a3<=56∧((256<=x2∧x3=x2/256∧a3=a2+8)∨(x2<256∧x3=x2∧a3=a2)):=by
  by_cases hh:256<=x2
  .exact⟨x2/256,a2+8,aa,by(have:=xn (n:=x2) (k:=8) hh;simp only[Nat.reducePow]at this;omega),aa,.inl ⟨hh,rfl,rfl⟩⟩
  .exact⟨x2,a2,aa,he2,aa,.inr ⟨aa,rfl,rfl⟩⟩
 simp[eJ];have key:=Qv (h:=[]) hx3 he3 ha3;refine gv (l:=[.d (.int .u64 x1),I a1]) (h:=[]) (fun q=>?_) ?_
 .rcases h1 with⟨g,rfl,rfl⟩|⟨g,rfl,rfl⟩<;>simp(disch:=try exact ac)[g]
 simp;refine gv (l:=[.d (.int .u64 x2),I a2]) (h:=[]) (fun q=>?_) ?_
 .rcases h2 with⟨g,rfl,rfl⟩|⟨g,rfl,rfl⟩<;>simp(disch:=try exact ac)[g]
 simp;refine gv (l:=[.d (.int .u64 x3),I a3]) (h:=[]) (fun q=>?_) ?_
 .rcases h3 with⟨g,rfl,rfl⟩|⟨g,rfl,rfl⟩<;>simp(disch:=try exact ac)[g]
 exact key
theorem WO:JL=(List.range 20).map fun i=>D.int .u64 ((10^i:Nat):Int):=by simp only[JL,List.range,List.range.loop,List.map];rfl
theorem abp{i:Nat}(h:i<20):JL[i]?=some (.int .u64 ((10^i:Nat):Int)):=by rw[WO,List.getElem?_map,List.getElem?_range h];rfl
theorem abS:gl nX=.dptr JL 0:=by unfold gl;rfl
theorem abA:∀b:Fin 65,1<=b.val->(10^(b.val*78913/262144)<=2^b.val∧2^b.val<=10^(b.val*78913/262144+1)∧(b.val*78913/262144=0∨10^(b.val*78913/262144-1)<2^(b.val-1))∧b.val*78913/262144<20):=aF
theorem qJ{n:Nat}(h:0<n):2^(bQ n-1)<=n∧n<2^bQ n∧1<=bQ n:=by have h0:n≠0:=aa;have:=(Nat.log2_eq_iff h0).1 rfl;simp only[bQ,h0,if_false];exact⟨this.1,this.2,aa⟩
theorem ye{n d:Nat}(h1:10^(d-1)<=n)(h2:n<10^d)(hd:1<=d)(h:n<18446744073709551616):CP Y F.dy [.d (.int .u64 n)] (I d):=by
 have h0:0<n:=Z3 (X6 af) h1;obtain⟨b1,b2,b3⟩:=qJ h0
 have hb:bQ n<=64:=by
  unfold bQ;split
  .omega
  .rename_i hz;have:=(Nat.log2_lt hz (k:=64)).2 (by simpa using h);omega
 obtain⟨t1,t2,t3,t4⟩:=abA ⟨bQ n,aa⟩ b3;simp only at t1 t2 t3 t4;refine uG ?_;simp[dy];refine cd (Dy h) ?_;simp;refine cd (TW hb) ?_;generalize hk:bQ n*78913/262144=k at *;have hg:gl nX=.dptr JL 0:=abS;simp(disch:=try exact ac)[hg];rw[ad6 _ _ _ (abp t4)]
 have hpk:10^(k+1)=10*10^k:=by rw[Nat.pow_succ,Zr]
 have hpd:10^d=10*10^(d-1):=by
  obtain⟨e,rfl⟩:∃e,d=e+1:=⟨d-1,aa⟩;rw[Nat.pow_succ,Zr];rfl
 have a1:10^k<=n->d=k+1:=fun hc=>by
  have a1:k<d:=(Yv (a:=10) af).1 aa;have a2:d-1<k+1:=(Yv (a:=10) af).1 aa;omega
 have a2:¬10^k<=n->d=k:=fun hc=>by
  have hk1:1<=k:=by
   rcases Zi k with e|e
   .subst e;simp at hc;omega
   .exact e
  have a1:d-1<k:=(Yv (a:=10) af).1 aa
  have a2:k-1<d:=by
   rcases t3 with e|e
   .omega
   .exact(Yv (a:=10) af).1 aa
  omega
 generalize 10^k=P at *;simp;refine cd (Vs (decide (P<=n))) ?_;by_cases hc:P<=n
 .have:=a1 hc;simp(disch:=try exact ac)[hc];exact bP aa
 .have:=a2 hc;simp(disch:=try exact ac)[hc];exact bP aa
def dg(n:Nat):UInt8:=UInt8.ofNat (48+n)
def dJ:Nat->Nat->LuQ
 |_,0=>[]
 |n,w+1=>dJ (n/10) w++[dg (n%10)]
theorem bu:∀(w n:Nat),(dJ n w).length=w
 |0,_=>rfl
 |w+1,n=>by simp[dJ,bu w]
def u8(b:UInt8):D:=.int .u8 b.toNat
def qB:LuQ:=[48,48,48,49,48,50,48,51,48,52,48,53,48,54,48,55,48,56,48,57,49,48,49,49,49,50,49,51,49,52,49,53,49,54,49,55,49,56,49,57,50,48,50,49,50,50,50,51,50,52,50,53,50,54,50,55,50,56,50,57,51,48,51,49,51,50,51,51,51,52,51,53,51,54,51,55,51,56,51,57,52,48,52,49,52,50,52,51,52,52,52,53,52,54,52,55,52,56,52,57,53,48,53,49,53,50,53,51,53,52,53,53,53,54,53,55,53,56,53,57,54,48,54,49,54,50,54,51,54,52,54,53,54,54,54,55,54,56,54,57,55,48,55,49,55,50,55,51,55,52,55,53,55,54,55,55,55,56,55,57,56,48,56,49,56,50,56,51,56,52,56,53,56,54,56,55,56,56,56,57,57,48,57,49,57,50,57,51,57,52,57,53,57,54,57,55,57,56,57,57]
theorem G5:([48,48,48,49,48,50,48,51,48,52,48,53,48,54,48,55,48,56,48,57,49,48,49,49,49,50,49,51,49,52,49,53,49,54,49,55,49,56,49,57,50,48,50,49,50,50,50,51,50,52,50,53,50,54,50,55,50,56,50,57,51,48,51,49,51,50,51,51,51,52,51,53,51,54,51,55,51,56,51,57,52,48,52,49,52,50,52,51,52,52,52,53,52,54,52,55,52,56,52,57,53,48,53,49,53,50,53,51,53,52,53,53,53,54,53,55,53,56,53,57,54,48,54,49,54,50,54,51,54,52,54,53,54,54,54,55,54,56,54,57,55,48,55,49,55,50,55,51,55,52,55,53,55,54,55,55,55,56,55,57,56,48,56,49,56,50,56,51,56,52,56,53,56,54,56,55,56,56,56,57,57,48,57,49,57,50,57,51,57,52,57,53,57,54,57,55,57,56,57,57]:LuQ)=qB:=rfl
theorem PO:∀x:Fin 200,qB[x.val]?=some (dg (if x.val%2=0 then x.val/2/10 else x.val/2%10)):=aF
def smV(i:Int):D:=u8 (dg (if i%2=0 then i.toNat/2/10 else i.toNat/2%10))
@[simp] theorem acF (k:IntKind)(i:Int)(K:V->Prop)(u:PU K)(h0:0<=i)(h1:i<200):rn (bnd (ixS (.d (.str qB)) (.d (.int k i)))) K u=K (.d (smV i)):=by
 have h:=Ut qB (k:=k) h0 (PO ⟨i.toNat,aa⟩);unfold rn;rw[show V.d (.str qB)=S qB from rfl,h]
 have e:(if i.toNat%2=0 then i.toNat/2/10 else i.toNat/2%10)=(if i%2=0 then i.toNat/2/10 else i.toNat/2%10):=by
  by_cases hc:i%2=0
  .rw[if_pos hc,if_pos aa]
  .rw[if_neg hc,if_neg aa]
 simp_all[smV,u8]
theorem abi{x:Nat}:smV (2*(x:Int))=u8 (dg (x/10)):=by grind[smV]
theorem abh{x:Nat}:smV (2*(x:Int)+1)=u8 (dg (x%10)):=by grind[smV]
theorem El(n w:Nat):dJ n (w+2)=dJ (n/100) w++[dg (n%100/10),dg (n%100%10)]:=by
 simp only[dJ,List.append_assoc,List.singleton_append];rw[Xv];have e1:n/10%10=n%100/10:=aa;have e2:n%10=n%100%10:=aa
 grind
theorem ad0{α:Type}:∀(l:List α),l.length=8->∃c0 c1 c2 c3 c4 c5 c6 c7,l=[c0,c1,c2,c3,c4,c5,c6,c7]
 |[c0,c1,c2,c3,c4,c5,c6,c7],_=>⟨c0,c1,c2,c3,c4,c5,c6,c7,rfl⟩
 |[],h|[_],h|[_,_],h|[_,_,_],h|[_,_,_,_],h|[_,_,_,_,_],h|[_,_,_,_,_,_],h|[_,_,_,_,_,_,_],h=>by simp at h
 |_::_::_::_::_::_::_::_::_::_,h=>by simp at h
@[simp]theorem adX(s e off len cap tot:Nat):aW (.ref s e off len cap tot)=some (I len):=rfl
theorem af1(B:LdQ)(c0 c1 c2 c3 c4 c5 c6 c7 x0 x1 x2 x3 x4 x5 x6 x7:D){i1 i2 i3 i4 i5 i6 i7:Nat}
  (h1:i1=1) (h2:i2=2) (h3:i3=3) (h4:i4=4) (h5:i5=5) (h6:i6=6) (h7:i7=7) :
  ((((((((c0::c1::c2::c3::c4::c5::c6::c7::B).set i7 x7).set i6 x6).set i5 x5).set i4 x4).set i3 x3).set i2 x2).set i1 x1).set 0 x0=x0::x1::x2::x3::x4::x5::x6::x7::B:=by simp_all
theorem af2(B:LdQ)(c0 c1 c2 c3 x0 x1 x2 x3:D){i2 i3:Nat}(h1:i1=1)(h2:i2=2)(h3:i3=3):
  ((((c0::c1::c2::c3::B).set i3 x3).set i2 x2).set i1 x1).set 0 x0=x0::x1::x2::x3::B:=by grind
theorem set2(B:LdQ)(c0 c1 x0 x1:D)(h1:i1=1):((c0::c1::B).set i1 x1).set 0 x0=x0::x1::B:=by grind
@[simp]theorem adJ(i:Int):norm (smV i)=smV i:=rfl
theorem tP{x:Nat}(h:i=2*(x:Int)+1):smV i=u8 (dg (x%10)):=by rw[h,abh]
theorem tQ{x:Nat}(h:i=2*(x:Int)):smV i=u8 (dg (x/10)):=by rw[h,abi]
theorem aes(n w:Nat):dJ n (w+8)=dJ (n/100000000) w++[dg (n/1000000%100/10),dg (n/1000000%100%10),dg (n/10000%100/10),dg (n/10000%100%10),dg (n/100%100/10),dg (n/100%100%10),dg (n%100/10),dg (n%100%10)]:=by simp[El,Xv]
theorem YH(h0:Hp)(hh:h0.length=2)(k:KL)(off len cap tot:Nat)(pre post:LdQ)(hpre:pre.length=off):∀(r nd n:Nat)(mid done:LdQ),nd<=r->mid.length=nd->nd+done.length=len->len<=24->tot=off+len+post.length ->
  n<10^nd->n<18446744073709551616 ->
  (∀(n' nd':Nat)(mid' done':LdQ),nd'<8->mid'.length=nd'->nd'+done'.length=len->n'<10^nd'->(dJ n' nd').map u8++done'=(dJ n nd).map u8++done->k (.exit 0) [.d (.int .u64 n'),I nd'] [(1,.data 1 (pre++(mid'++(done'++post))) true false),nnQ]) ->
  lp (d6 (CX Y) 2 (.ref 0 1 off len cap tot)) [] h0 [.d (.int .u64 n),I nd] [(1,.data 1 (pre++(mid++(done++post))) true false),nnQ] k:=by
 intro r
 induction r with
 | zero=> 
  intro nd n mid done hr hm hd hl ht hn h64 hk;refine ai ?_;simp(disch:=try exact ac)[d6];exact hk n nd mid done aa hm hd hn rfl
 | succ r ih=>
  intro nd n mid done hr hm hd hl ht hn h64 hk;refine ai ?_;by_cases h8:8<=nd
  ·obtain ⟨m',c0,c1,c2,c3,c4,c5,c6,c7,rfl⟩:∃(m':LdQ)(c0 c1 c2 c3 c4 c5 c6 c7:D),mid=m'++[c0,c1,c2,c3,c4,c5,c6,c7]:=by
    obtain⟨c0,c1,c2,c3,c4,c5,c6,c7,e⟩:=ad0 (mid.drop (nd-8)) (by grind);exact⟨mid.take (nd-8),c0,c1,c2,c3,c4,c5,c6,c7,by rw[<-e,Yc]⟩
   have e0:pre++(m'++[c0,c1,c2,c3,c4,c5,c6,c7]++(done++post))=(pre++m')++c0::c1::c2::c3::c4::c5::c6::c7::(done++post):=ae;rw[e0];simp only[List.length_append,List.length_cons,List.length_nil]at hm;have hA:(pre++m').length=off+nd-8:=by simp;omega
   have e9:∀x0 x1 x2 x3 x4 x5 x6 x7:D,(pre++m')++x0::x1::x2::x3::x4::x5::x6::x7::(done++post)=pre++(m'++((x0::x1::x2::x3::x4::x5::x6::x7::done)++post)):=by intros;simp
   generalize pre++m'=A at *;unfold d6;simp only[G5];simp(disch:=try exact ac)[Zw,Zv];rw[af1 _ _ _ _ _ _ _ _ _ _ _ _ _ _ _ _ _ aa aa aa aa aa aa aa,e9]
   rw[tP (x:=n%100) (i:=(n:Int)%100*2+1) aa,tQ (x:=n%100) (i:=(n:Int)%100*2) aa,tP (x:=n/100%100) (i:=(n:Int)%10000/100*2+1) aa,tQ (x:=n/100%100) (i:=(n:Int)%10000/100*2) aa,tP (x:=n/10000%100) (i:=(n:Int)%100000000/10000%100*2+1) aa,tQ (x:=n/10000%100) (i:=(n:Int)%100000000/10000%100*2) aa,tP (x:=n/1000000%100) (i:=(n:Int)%100000000/10000/100*2+1) aa,tQ (x:=n/1000000%100) (i:=(n:Int)%100000000/10000/100*2) aa]
   obtain⟨w,rfl⟩:∃w,nd=w+8:=⟨nd-8,aa⟩;have hd8:=aes n w;rw[show((w+8:Nat):Int)-8=(w:Nat) by omega,show(n:Int)/100000000=((n/100000000:Nat):Int) by omega]
   refine ih w (n/100000000) m' (u8 (dg (n/1000000%100/10))::u8 (dg (n/1000000%100%10))::u8 (dg (n/10000%100/10))::u8 (dg (n/10000%100%10))::u8 (dg (n/100%100/10))::u8 (dg (n/100%100%10))::u8 (dg (n%100/10))::u8 (dg (n%100%10))::done) aa aa aG hl ht ?_ aa ?_
   .grind
   .intro n' nd' mid' done' g1 g2 g3 g4 g5;refine hk n' nd' mid' done' g1 g2 g3 g4 ?_;rw[g5,hd8];simp
  .simp(disch:=try exact ac)[d6];exact hk n nd mid done aa hm hd hn rfl
theorem Nw{x:Nat}(h:x<10):u8 (dg x)=.int .u8 (48+x):=by unfold u8 dg;congr 1;simp;omega
theorem ad2{α:Type}:∀(l:List α),l.length=4->∃c0 c1 c2 c3,l=[c0,c1,c2,c3]
 |[c0,c1,c2,c3],_=>⟨c0,c1,c2,c3,rfl⟩
 |[],h|[_],h|[_,_],h|[_,_,_],h=>by simp at h
 |_::_::_::_::_::_,h=>by grind
theorem ad3{α:Type}:∀(l:List α),l.length=2->∃c0 c1,l=[c0,c1]
 |[c0,c1],_=>⟨c0,c1,rfl⟩
 |[],h|[_],h=>by simp at h
 |_::_::_::_,h=>by grind
theorem YI(n nd:Nat)(mid B:LdQ)(h8:nd<8)(hm:mid.length=nd)(hn:n<10^nd):∃(n1 nd1:Nat)(mid1 B1:LdQ),nd1<4∧mid1.length=nd1∧n1<10^nd1∧nd1+B1.length=nd+B.length∧(dJ n1 nd1).map u8++B1=(dJ n nd).map u8++B ∧
  ((4<=nd∧n1=n/10000∧nd1=nd-4∧(∃c0 c1 c2 c3,mid=mid1++[c0,c1,c2,c3])∧B1=u8 (dg (n/100%100/10))::u8 (dg (n/100%100%10))::u8 (dg (n%100/10))::u8 (dg (n%100%10))::B)∨(¬4<=nd∧n1=n∧nd1=nd∧mid1=mid∧B1=B)):=by
 by_cases h4:4<=nd
 .obtain⟨w,rfl⟩:∃w,nd=w+4:=⟨nd-4,aa⟩;obtain⟨c0,c1,c2,c3,e⟩:=ad2 (mid.drop w) (by grind);refine⟨n/10000,w,mid.take w,_,aa,by grind,?_,?_,?_,.inl ⟨h4,rfl,aa,⟨c0,c1,c2,c3,by rw[<-e,Yc]⟩,rfl⟩⟩
  .grind
  .grind
  simp[El,Xv]
 .exact⟨n,nd,mid,B,aa,hm,hn,rfl,rfl,.inr ⟨h4,rfl,rfl,rfl,rfl⟩⟩
theorem ab0(n nd:Nat)(mid B:LdQ)(h8:nd<4)(hm:mid.length=nd)(hn:n<10^nd):∃(n1 nd1:Nat)(mid1 B1:LdQ),nd1<2∧mid1.length=nd1∧n1<10^nd1∧nd1+B1.length=nd+B.length∧(dJ n1 nd1).map u8++B1=(dJ n nd).map u8++B ∧
  ((2<=nd∧n1=n/100∧nd1=nd-2∧(∃c0 c1,mid=mid1++[c0,c1])∧B1=u8 (dg (n%100/10))::u8 (dg (n%100%10))::B)∨(¬2<=nd∧n1=n∧nd1=nd∧mid1=mid∧B1=B)):=by
 by_cases h4:2<=nd
 .obtain⟨w,rfl⟩:∃w,nd=w+2:=⟨nd-2,aa⟩;obtain⟨c0,c1,e⟩:=ad3 (mid.drop w) (by grind);refine⟨n/100,w,mid.take w,_,aa,by grind,?_,?_,?_,.inl ⟨h4,rfl,aa,⟨c0,c1,by rw[<-e,Yc]⟩,rfl⟩⟩
  .grind
  .grind
  simp[El]
 .exact⟨n,nd,mid,B,aa,hm,hn,rfl,rfl,.inr ⟨h4,rfl,rfl,rfl,rfl⟩⟩
def fbH(pre mid B:LdQ):Hp:=[(1,.data 1 (pre++(mid++B)) true false),nnQ]
theorem aaG{off tot n d:Nat}{pre mid post:LdQ}(hpre:pre.length=off)(hm:mid.length=d)(hd:d<=24)(ht:tot=off+d+post.length)(hn:n<10^d)(h64:n<18446744073709551616):
  CI Y F.bU [.ref 0 1 off d cap tot,.d (.int .u64 n)] [(1,.data 1 (pre++(mid++post)) true false),nnQ] (.tup []) [(1,.data 1 (pre++((dJ n d).map u8++post)) true false),nnQ]:=by
 refine sE ?_;unfold bU;simp only[G5];simp;refine lo (YH _ rfl _ off d cap tot pre post hpre d d n mid [] aa hm ae hd ht hn h64 (fun n' nd mid' done g1 g2 g3 g4 g5=>?_));have hp8:10^nd<=10^7:=Z4 af aa;simp only[Nat.reducePow]at hp8;simp(disch:=try exact ac)
 obtain⟨n1,d1,mid1,B1,f1,f2,f3,f4,f5,f6⟩:=YI n' nd mid' (done++post) g1 g2 g4;refine gv (l:=[.d (.int .u32 n1),I d1]) (h:=fbH pre mid1 B1) (fun q=>?_) ?_
 .rcases f6 with⟨c,rfl,rfl,⟨c0,c1,c2,c3,rfl⟩,rfl⟩|⟨c,rfl,rfl,rfl,rfl⟩
  .have e0:pre++(mid1++[c0,c1,c2,c3]++(done++post))=(pre++mid1)++c0::c1::c2::c3::(done++post):=ae;rw[e0];simp only[List.length_append,List.length_cons,List.length_nil]at g2;have hA:(pre++mid1).length=off+nd-4:=by simp;omega
   have e9:∀x0 x1 x2 x3:D,(pre++mid1)++x0::x1::x2::x3::(done++post)=pre++(mid1++(x0::x1::x2::x3::(done++post))):=by intros;simp
   generalize pre++mid1=A at *;simp(disch:=try exact ac)[c,Zw,Zv];rw[af2 _ _ _ _ _ _ _ _ _ aa aa aa,e9]
   rw[tP (x:=n'%100) (i:=(n':Int)%100*2+1) aa,tQ (x:=n'%100) (i:=(n':Int)%100*2) aa,tP (x:=n'/100%100) (i:=(n':Int)%10000/100*2+1) aa,tQ (x:=n'/100%100) (i:=(n':Int)%10000/100*2) aa];simp[fbH,I,show((nd-4:Nat):Int)=(nd:Int)-4 by omega]
  .simp(disch:=try exact ac)[c,fbH]
 have hp4:10^d1<=10^3:=Z4 af aa;simp only[Nat.reducePow]at hp4;simp;obtain⟨n2,d2,mid2,B2,e1,e2,e3,e4,e5,e6⟩:=ab0 n1 d1 mid1 B1 f1 f2 f3;refine gv (l:=[.d (.int .u32 n2),I d2]) (h:=fbH pre mid2 B2) (fun q=>?_) ?_
 .rcases e6 with⟨c,rfl,rfl,⟨c0,c1,rfl⟩,rfl⟩|⟨c,rfl,rfl,rfl,rfl⟩
  .have e0:pre++(mid2++[c0,c1]++B1)=(pre++mid2)++c0::c1::B1:=ae;rw[fbH,e0];simp only[List.length_append,List.length_cons,List.length_nil]at f2;have hA:(pre++mid2).length=off+d1-2:=by simp;omega
   have hB:tot=off+d1+B1.length:=by simp at f4;omega
   have e9:∀x0 x1:D,(pre++mid2)++x0::x1::B1=pre++(mid2++(x0::x1::B1)):=by intros;simp
   generalize pre++mid2=A at *;simp(disch:=try exact ac)[c,Zw,Zv];rw[set2 _ _ _ _ _ aa,e9];rw[tP (x:=n1%100) (i:=(n1:Int)%100*2+1) aa,tQ (x:=n1%100) (i:=(n1:Int)%100*2) aa];simp[fbH,I,show((d1-2:Nat):Int)=(d1:Int)-2 by omega]
  .simp(disch:=try exact ac)[c,fbH]
 simp
 have hend:fbH pre ((dJ n2 d2).map u8) B2=[(1,.data 1 (pre++((dJ n d).map u8++post)) true false),nnQ]:=by
  simp only[fbH];rw[e5,f5,<-List.append_assoc ((dJ n' nd).map u8),g5];simp
 refine gv (l:=[]) (h:=fbH pre ((dJ n2 d2).map u8) B2) (fun q=>?_) ?_
 .match d2,e1,mid2,e2 with
  |0,_,[],_=>simp[fbH,dJ]
  | 1,_,[c0],_=>
   have hn2:n2<10:=by simpa using e3
   have hB:tot=off+1+B2.length:=by simp at f4;omega
   simp(disch:=try exact ac)[fbH,dJ];rw[Yd hn2,Nw hn2]
 rw[hend];simp[mW];exact⟨by trivial,.inl (by trivial)⟩
@[simp]theorem agm(s n:Nat)(cs:LdQ)(h:Hp)(k:kkQ)(u:PU k):rh (alD s n cs h) k u=rn (bnh h[s]?) (fun x=>k (.ptr s (x.1+1) 0 cs.length) (h.set s (x.1+1,.data n cs true false))) .mk:=by unfold rh rn alD;exact BO ..
def ndg(n:Nat):Nat:=if n<10 then 1 else ndg (n/10)+1
theorem kX(n:Nat):1<=ndg n:=by unfold ndg;split<;>omega
theorem de:∀n:Nat,n<10^ndg n:=by
 intro n
 induction n using Nat.strongRecOn with
 | _ n ih=>
  unfold ndg;split
  .simpa using ‹n<10›
  .have:=ih (n/10) aa;rw[Nat.pow_succ];omega
theorem zF:∀n:Nat,0<n->10^(ndg n-1)<=n:=by
 intro n
 induction n using Nat.strongRecOn with
 | _ n ih=>
  intro h0;unfold ndg;split
  .simp;omega
  .have h1:=ih (n/10) aa aa;have h2:=kX (n/10);rw[show ndg (n/10)+1-1=(ndg (n/10)-1)+1 by omega,Nat.pow_succ];omega
theorem cQ{n d:Nat}(h:n<10^d)(hd:1<=d):ndg n<=d:=by
 rcases Zi n with e|e
 .subst e;unfold ndg;rw[if_pos aa];exact hd
 .have h1:=zF n e;have:ndg n-1<d:=(Yv (a:=10) af).1 aa;omega
def ah(n:Nat):LuQ:=dJ n (ndg n)
def itoa(z:Int):LuQ:=if z<0 then 45::ah z.natAbs else ah z.natAbs
def UZ:LuQ:=[48,49,50,51,52,53,54,55,56,57,97,98,99,100,101,102,103,104,105,106,107,108,109,110,111,112,113,114,115,116,117,118,119,120,121,122]
theorem aep:([48,49,50,51,52,53,54,55,56,57,97,98,99,100,101,102,103,104,105,106,107,108,109,110,111,112,113,114,115,116,117,118,119,120,121,122]:LuQ)=UZ:=rfl
theorem R5:∀x:Fin 10,(UZ.drop x.val).take 1=ah x.val:=aF
theorem R6:∀x:Fin 100,10<=x.val->(qB.drop (2*x.val)).take 2=ah x.val:=by intro x hx;have h1:=(show ∀x:Fin 100,(qB.drop (2*x.val)).take 2=dJ x.val 2 by decide+kernel) x;rw[h1,ah];congr 1;unfold ndg;rw[if_neg aa];unfold ndg;rw[if_pos aa]
theorem L8{s:LuQ}{l:IntKind}{j:Int}(a b:Nat)(hi:i=a)(hj:j=b)(h1:a<=b)(h2:b<=s.length):slS (.d (.str s)) (some (.d (.int k i))) (some (.d (.int l j)))=some (.d (.str ((s.drop a).take (b-a)))):=by subst hi hj;simp only[slS,boV];rw[if_pos aa];simp only[];rw[if_pos aa];simp
theorem Jj{n:Nat}(h:n<100):CP Y F.ii [I n] (S (ah n)):=by
 refine yr ?_;unfold ii;simp only[G5,aep];by_cases c:n<10
 .simp(disch:=try exact ac)[c];rw[L8 n (n+1) aa aa aa (by rw[show UZ.length=36 from rfl];omega)];have:=R5 ⟨n,c⟩;simp only[]at this;simp[this];exact eU rfl
 .simp(disch:=try exact ac)[c];rw[L8 (2*n) (2*n+2) aa aa aa (by rw[show qB.length=200 from rfl];omega)];have:=R6 ⟨n,h⟩ (by simpa using c);simp only[]at this;simp[this];exact eU rfl
theorem Aq:∀l:LuQ,bytesD (l.map u8)=some l
 |[]=>rfl
 | b::l=>by
  have hb:=b.toNat_lt;simp only[Z1,u8,bytesD];rw[if_pos aa];have:=Aq l;rw[this];simp
abbrev cH(cells:LdQ):Hp:=[(1,.data 1 cells true false),nnQ]
theorem R9(hc:cells.length=24){l:IntKind}{j:Int}(a b:Nat)(hi:i=a)(hj:j=b)(h1:a<=b)(h2:b<=24):
  slP 24 1 (cH cells) (.ptr 0 1 0 24) (some (.d (.int k i))) (some (.d (.int l j)))=some (.ref 0 1 a (b-a) (24-a) 24):=by simp only[slP,cH,aC];simp[vJ hj h2,vJ hi h1,hc]
theorem G8(hc:cells.length=24){l:IntKind}{j:Int}(b:Nat)(hj:j=b)(h2:b<=24):
  slP 24 1 (cH cells) (.ptr 0 1 0 24) none (some (.d (.int l j)))=some (.ref 0 1 0 b 24 24):=by simp only[slP,cH,aC];simp[vJ hj h2,Ex,hc]
theorem M7(hc:cells.length=24){i len:Nat}{bs:LuQ}(hl:i+len<=24)(he:(cells.drop i).take len=bs.map u8)(hb:bs.length=len):cvT (cH cells) (.ref 0 1 i len cap 24)=some (S bs):=by simp only[cvT,cellsOf,cH,aC];simp[hc,hl,he,hb,Aq]
theorem QM(h1 : -9223372036854775808<z)(h2:z<9223372036854775808):CP Y F.dz [I z,I 10] (S (itoa z)):=by
 refine uJ ?_;have hd1:=kX z.natAbs;have hd2:ndg z.natAbs<=19:=cQ aa aa;have hn:=de z.natAbs;by_cases hs:0<=z∧z<100
 .obtain⟨hs1,hs2⟩:=hs;obtain⟨n,rfl⟩:∃n:Nat,z=n:=⟨z.toNat,aa⟩;simp[dz,hs1,hs2];refine cd (Jj (n:=n) aa) ?_;rw[show itoa (n:Int)=ah n by unfold itoa;rw[if_neg aa];rfl];exact eU rfl
 .have hcs:(0<=z∧¬z<100)∨¬0<=z:=aa;have hw:z<0->IntKind.wrap .u64 z=z+18446744073709551616:=fun h=>by rw[FB];omega
  have hw2:z<0->IntKind.wrap .u64 (-(z+18446744073709551616)) = -z:=fun h=>by rw[FB];omega
  have hn64:z.natAbs<18446744073709551616:=aa;have hn0:0<z.natAbs:=aa;have hab:(z.natAbs:Int)=if z<0 then -z else z:=by split<;>omega
  have hit:itoa z=if z<0 then 45::dJ z.natAbs (ndg z.natAbs)else dJ z.natAbs (ndg z.natAbs):=rfl
  have hlo:=zF z.natAbs hn0;generalize ndg z.natAbs=d at *;generalize z.natAbs=n at *
  obtain ⟨mid,post,hm,hp,hcell⟩:∃mid post:LdQ,mid.length=d∧post.length=23-d∧List.replicate 24 (D.int .u8 0)=[D.int .u8 0]++(mid++post):=by
   refine⟨List.replicate d (.int .u8 0),List.replicate (23-d) (.int .u8 0),ae,ae,?_⟩;rw[List.replicate_append_replicate,show d+(23-d)=23 by omega];rfl
  have hmain:cal (CX Y).p (cH ([D.int .u8 0]++(mid++post))) (.fn F.dy [] []) [.d (.int .u64 n)] fun v12 h=>
    bnd (biI .add (.d (.int .i64 1)) v12) fun v13=>
    bnd (slP 24 1 h (.ptr 0 1 0 24) (some (.d (.int .i64 1))) (some v13)) fun v14=>
    cai (CX Y).i h (.fn F.bU [] []) [v14,.d (.int .u64 n)] 1 fun v15 h=>
    bnd (biI .lss (I z) (.d (.int .i64 0))) fun v16=>
    cnd v16 (
     bnd (ixP 24 1 (.ptr 0 1 0 24) (.d (.int .i64 0))) fun v17=>
     stD h 1 v17 (.d (.int .u8 45)) fun _ h=>
     bnd (biI .add (.d (.int .i64 1)) v12) fun v19=>
     bnd (slP 24 1 h (.ptr 0 1 0 24) none (some v19)) fun v20=>
     bnd (cvT h v20) fun v21=>
     out (S (itoa z)) v21 h) (
     bnd (biI .add (.d (.int .i64 1)) v12) fun v22=>
     bnd (slP 24 1 h (.ptr 0 1 0 24) (some (.d (.int .i64 1))) (some v22)) fun v23=>
     bnd (cvT h v23) fun v24=>
     out (S (itoa z)) v24 h):=by
   refine cd (u:=.mk) (ye hlo hn hd1 hn64) ?_;simp(disch:=try exact ac);rw[R9 aG 1 (d+1) aa aa aa aa];simp;refine ik (h':=cH ([D.int .u8 0]++((dJ n d).map u8++post))) (aaG (pre:=[D.int .u8 0]) rfl hm aa aa hn hn64) ?_ ae;by_cases g:z<0
   .rw[if_pos g]at hit;simp[g,bu,hp];rw[PL _ _ _ _ _ _ _ _ _ (by simp[bu];omega) ae];simp(disch:=try exact ac)[cw];rw[G8 (by simp[bu];omega) (d+1) aa aa];simp;rw[M7 (bs:=45::dJ n d) (by simp[bu];omega) aa (by simp[u8,bu,List.take_append,Zz]) (by simp[bu])]
    rw[hit];simp;exact eU rfl
   .rw[if_neg g]at hit;simp(disch:=try exact ac)[g];rw[R9 (by simp[bu];omega) 1 (d+1) aa aa aa aa];simp;rw[M7 (bs:=dJ n d) (by simp[bu];omega) aa (by simp[bu,List.take_append,Zz]) (by simp[bu])];rw[hit];simp;exact eU rfl
  rcases hcs with⟨g1,g2⟩|g1
  .have g3:¬z<0:=aa;rw[if_neg g3]at hab;simp[dz,g1,g2];refine gv (l:=[.d (.int .u64 n)]) (h:=cH ([D.int .u8 0]++(mid++post))) (fun q=>?_) hmain;rw[<-hcell];simp(disch:=try exact ac)[g3,hab]
  .have g3:z<0:=aa;rw[if_pos g3]at hab;simp[dz,g1];refine gv (l:=[.d (.int .u64 n)]) (h:=cH ([D.int .u8 0]++(mid++post))) (fun q=>?_) hmain;rw[<-hcell];simp[g3,hab,hw g3,hw2 g3]
theorem abN(h1 : -9223372036854775808<z)(h2:z<9223372036854775808):CP Y F.kw [I z] (S (itoa z)):=by refine zQ ?_;simp[kw];refine cd (QM h1 h2) ?_;exact eU rfl
theorem BU(h1 : -9223372036854775808<z)(h2:z<9223372036854775808):CP Y F.strconv_Itoa [I z] (S (itoa z)):=by refine Cy ?_;simp[strconv_Itoa];refine cd (abN h1 h2) ?_;exact eU rfl
def pT(b:UInt8):Bool:=decide (48<=b.toNat)&&decide (b.toNat<=57)
theorem lJ{b:UInt8}:pT b=true↔48<=b.toNat∧b.toNat<=57:=by simp[pT]
def fi(a:Nat)(s:LuQ):Nat:=s.foldl (fun a b=>a*10+(b.toNat-48)) a
@[simp]theorem Gx(a:Nat):fi a []=a:=by unfold fi;rw[List.foldl_nil]
@[simp]theorem jU(a:Nat)(b:UInt8)(s:LuQ):fi a (b::s)=fi (a*10+(b.toNat-48)) s:=by unfold fi;rw[List.foldl_cons]
theorem Ib(x:Nat):(dg x).toNat=(48+x)%256:=by simp[dg]
theorem aeq{b:UInt8}(h:pT b=true):dg (b.toNat-48)=b:=by rw[lJ]at h;apply UInt8.toNat.inj;rw[Ib];omega
theorem GE:∀(s:LuQ)(a w:Nat),s.all pT=true->dJ (fi a s) (w+s.length)=dJ a w++s
 |[],a,w,_=>by simp
 | b::s,a,w,h=>by
  simp only[List.all_cons,Z8]at h;have:=GE s (a*10+(b.toNat-48)) (w+1) h.2;have hb:=lJ.1 h.1;rw[jU,List.length_cons,show w+(s.length+1)=w+1+s.length by omega,this];simp only[dJ];rw[show(a*10+(b.toNat-48))/10=a by omega,show(a*10+(b.toNat-48))%10=b.toNat-48 by omega,aeq h.1];simp
theorem DN:∀(s:LuQ)(a:Nat),a*10^s.length<=fi a s
 |[],a=>by simp
 | b::s,a=>by
  have:=DN s (a*10+(b.toNat-48));rw[jU,List.length_cons,Nat.pow_succ];refine Zu ?_ this;rw[Zr (10^s.length),<-Nat.mul_assoc];exact Zy _ aa
theorem tA:∀(s:LuQ)(a:Nat),s.all pT=true->fi a s<(a+1)*10^s.length
 |[],a,_=>by simp
 | b::s,a,h=>by
  simp only[List.all_cons,Z8]at h;have:=tA s (a*10+(b.toNat-48)) h.2;have hb:=lJ.1 h.1;rw[jU,List.length_cons,Nat.pow_succ];refine Z3 this ?_;rw[Zr (10^s.length),<-Nat.mul_assoc];exact Zy _ aa
theorem TI{n d:Nat}(h1:10^d<=n)(h2:n<10^(d+1)):ndg n=d+1:=by have:=cQ h2 aa;have h3:=de n;have:d<ndg n:=(Yv (a:=10) af).1 aa;omega
def qj(s:LuQ):Bool:=!s.isEmpty&&s.all pT && !(decide (1<s.length)&&decide (s.headD 0=48))
theorem DF{s:LuQ}(h:qj s=true):ah (fi 0 s)=s:=by
 simp only[qj,Z8,Y7,Xq,decide_eq_false_iff_not]at h;obtain⟨⟨h0,h1⟩,h2⟩:=h;cases s with
 |nil=>simp at h0
 | cons b s=>
  have hd:=GE (b::s) 0 0 h1;simp only[List.all_cons,Z8]at h1;have hb:=lJ.1 h1.1;simp only[Zk,dJ,List.nil_append]at hd
  have hn:ndg (fi 0 (b::s))=(b::s).length:=by
   have lo:=DN s (b.toNat-48);have hi:=tA s (b.toNat-48) h1.2;simp only[jU,Wp,Zk,List.length_cons]at *;by_cases hs:s=[]
   .subst hs;simp only[Gx,List.length_nil,Zk];unfold ndg;rw[if_pos aa]
   .have hl:0<s.length:=Xg.2 hs
    have hb0:b.toNat≠48:=by
     rcases h2 with h2|h2
     .omega
     .intro e;apply h2;simp only[List.headD_cons];apply UInt8.toNat.inj;rw[e];rfl
    refine TI ?_ ?_
    .refine Zu ?_ lo;have:=Zy (10^s.length) (show 1<=b.toNat-48 by omega);omega
    .refine Z3 hi ?_;rw[Nat.pow_succ,Zr];exact Zx _ aa
  unfold ah;rw[hn];exact hd
theorem XX{x:Nat}(h:x<10):pT (dg x)=true:=by rw[lJ,Ib];omega
theorem ab6{x:Nat}(h:x<10):(dg x).toNat=48+x:=by rw[Ib];omega
theorem vE:∀(w n:Nat),(dJ n w).all pT=true
 |0,_=>rfl
 | w+1,n=>by
  simp only[dJ,Y5,vE w,List.all_cons,List.all_nil,Yb,Yw];exact XX aa
theorem uf:∀(s t:LuQ)(a:Nat),fi a (s++t)=fi (fi a s) t
 |[],t,a=>rfl
 |b::s,t,a=>by rw[List.cons_append,jU,jU,uf s t]
theorem wh:∀(w n:Nat),n<10^w->fi 0 (dJ n w)=n
 |0,n,h=>by simp at h;subst h;rfl
 | w+1,n,h=>by
  have:=wh w (n/10) (by rw[Nat.pow_succ]at h;omega);simp only[dJ,uf,this,jU,Gx];rw[ab6 aa];omega
theorem rI(n:Nat):qj (ah n)=true:=by
 have hl:(ah n).length=ndg n:=bu ..;have hp:=kX n;have ha:(ah n).all pT=true:=vE ..;have hh:fi 0 (ah n)=n:=wh _ _ (de n);cases he:ah n with
 |nil=>rw[he]at hl;simp at hl;omega
 | cons b s=>
  rw[he]at hl ha hh;simp only[qj,List.isEmpty_cons,Bool.not_false,Yw,ha,List.headD_cons,Y7,Xq,decide_eq_false_iff_not];by_cases h1:1<(b::s).length
  .right;refine decide_eq_false fun e=>?_
   subst e;simp only[List.all_cons,Z8]at ha;have hi:=tA s 0 ha.2;simp only[jU,List.length_cons]at *;have e48:(48:UInt8).toNat=48:=rfl;rw[e48]at hh;simp only[Zc,Wp,Zk,Ww]at *;rw[hh]at hi
   have lo:=zF n (by
    rcases Zi n with e|e
    .have e1:ndg 0=1:=by unfold ndg;rfl
     rw[e,e1]at hl;omega
    .exact e)
   rw[<-hl]at lo;simp at lo;omega
  .left;simpa using h1
theorem dU(n:Nat):fi 0 (ah n)=n:=wh _ _ (de n)
def rdS(s:LuQ):Option Int:=if s.headD 0=45 then(if qj s.tail=true∧s.tail≠[48]then some (-(fi 0 s.tail:Int))else none)else if qj s=true then some (fi 0 s:Int)else none
theorem vz(n:Nat):ah n≠[]:=by intro e;have:(ah n).length=ndg n:=bu ..;have:=kX n;rw[e]at *;simp at *;omega
theorem rG(n:Nat):(ah n).headD 0≠45:=by
 have ha:(ah n).all pT=true:=vE ..;cases he:ah n with
 |nil=>exact absurd he (vz n)
 | cons b s=>
  rw[he]at ha;simp only[List.all_cons,Z8,lJ]at ha;simp only[List.headD_cons];intro e;subst e;have:(45:UInt8).toNat=45:=rfl;omega
theorem JH(z:Int):rdS (itoa z)=some z:=by
 unfold rdS itoa;by_cases hz:z<0
 .rw[if_pos hz,List.headD_cons,if_pos rfl,List.tail_cons,rI,dU,if_pos]
  .congr 1;omega
  .refine⟨rfl,fun e=>?_⟩;have:=dU z.natAbs;rw[e]at this;have e2:fi 0 [48]=0:=rfl;omega
 .rw[if_neg hz,if_neg (rG _),if_pos (rI _),dU];congr 1;omega
theorem S6{s:LuQ}(h:rdS s=some z):s=itoa z:=by
 unfold rdS at h;split at h
 .rename_i hd;split at h
  .rename_i hc;simp only[Z9]at h;subst h;cases s with
   |nil=>simp at hd
   | cons b s=>
    simp only[List.headD_cons]at hd;subst hd;simp only[List.tail_cons]at *;have he:=DF hc.1
    have h0:fi 0 s≠0:=by
     intro e;rw[e]at he;apply hc.2;rw[<-he];unfold ah ndg;rfl
    unfold itoa;rw[if_pos aa,Xf,Int.natAbs_natCast,he]
  .cases h
 .split at h
  .rename_i hc;simp only[Z9]at h;subst h;unfold itoa;rw[if_neg aa,Int.natAbs_natCast,DF hc]
  .cases h
theorem yL:∀(v w n:Nat),dJ n (w+v)=dJ (n/10^v) w++dJ n v
 |0,w,n=>by simp[dJ]
 | v+1,w,n=>by
  rw[show w+(v+1)=(w+v)+1 by omega];simp only[dJ];rw[yL v w (n/10),Xv,Nat.pow_succ,Zr 10,List.append_assoc]
theorem yK:∀(w n m:Nat),dJ (n+10^w*m) w=dJ n w
 |0,_,_=>rfl
 | w+1,n,m=>by
  simp only[dJ];have e:n+10^(w+1)*m=n+10*(10^w*m):=by rw[Nat.pow_succ,Zr (10^w) 10,Nat.mul_assoc]
  rw[e,Yf _ _ af,Xo,yK w]
theorem Qz{t k r:Nat}(ht:0<t)(hr:r<10^k):ah (r+10^k*t)=ah t++dJ r k:=by
 have h1:=zF t ht;have h2:=de t;have h3:=kX t;obtain⟨d,hd⟩:∃d,ndg t=d+1:=⟨ndg t-1,aa⟩
 have hn:ndg (r+10^k*t)=ndg t+k:=by
  rw[hd]at h1 h2 ⊢;simp only[Nat.add_sub_cancel]at h1;rw[show d+1+k=(d+k)+1 by omega];refine TI ?_ ?_
  .rw[Yq,Zr];have:=Zx (10^k) h1;omega
  .rw[show d+k+1=k+(d+1) by omega,Yq];have:=Zx (10^k) h2;rw[Nat.mul_succ]at this;omega
 have e:=yL k (ndg t) (r+10^k*t);rw[<-hn,Yf _ _ (Nat.pos_of_ne_zero (by have:=X6 (a:=10) (n:=k) af;omega)),Xe hr,Zk,yK]at e;exact e
theorem Av:∀a:Fin 10,biI .and (.d (.int .u64 a.val)) (.d (.int .u64 4294967295))=some (.d (.int .u64 a.val)):=by
 intro a
 match a with
 |0|1|2|3|4|5|6|7|8|9=>rfl
@[simp]theorem ahc{n:Nat}(h:n<10):biI .and (.d (.int .u64 (n:Int))) (.d (.int .u64 4294967295))=some (.d (.int .u64 n)):=Av ⟨n,h⟩
@[simp]theorem agW:biI .and (.d (.int .u64 1)) (.d (.int .u64 4294967295))=some (.d (.int .u64 1)):=Av 1
@[simp]theorem agX:biI .and (.d (.int .u64 0)) (.d (.int .u64 4294967295))=some (.d (.int .u64 0)):=Av 0
theorem J7{n:Nat}(h:n<10):CP Y F.dl [.d (.int .u64 1),.d (.int .u64 n)] (.tup [.d (.int .u64 0),.d (.int .u64 n)]):=by refine rX ?_;have e:(n:Int)/4294967296=0:=aa;simp(disch:=try exact ac)[dl,e];exact⟨[],by simp[bg,aA]⟩
theorem Qo{n:Nat}(h:n<10):CP Y F.lU [.d (.int .u64 1),.d (.int .u64 n)] (.tup [.d (.int .u64 0),.d (.int .u64 n)]):=by refine A8 ?_;simp(disch:=try exact ac)[lU];refine cd (J7 h) ?_;simp(disch:=try exact ac);exact⟨[],by simp[bg,aA]⟩
def Ai:Nat->Nat->LnQ
 |_,0=>[]
 |n,w+1=>Ai (n/10) w++[n%10]
theorem Ek:∀(w n:Nat),(Ai n w).length=w
 |0,_=>rfl
 |w+1,n=>by simp[Ai,Ek w]
theorem B3:∀(w n:Nat),∀x∈Ai n w,x<10
 |0,_=>by simp[Ai]
 | w+1,n=>by
  intro x hx;simp only[Ai,Xm,List.mem_singleton]at hx;rcases hx with hx|hx
  .exact B3 w _ x hx
  .omega
theorem If:∀(w n:Nat),dJ n w=(Ai n w).map dg
 |0,_=>rfl
 |w+1,n=>by simp[dJ,Ai,If w]
def XZ(a:Nat)(l:LnQ):Nat:=l.foldl (fun a d=>a*10+d) a
theorem DL:∀(w n:Nat),n<10^w->XZ 0 (Ai n w)=n
 |0,n,h=>by simp at h;subst h;rfl
 | w+1,n,h=>by
  have:=DL w (n/10) (by rw[Nat.pow_succ]at h;omega);unfold XZ at this;simp only[XZ,Ai,List.foldl_append,this,List.foldl_cons,List.foldl_nil];omega
def f8(x:Nat):D:=.int .u8 (48+x)
theorem U3(n w:Nat):(dJ n w).map u8=(Ai n w).map f8:=by rw[If,List.map_map];apply List.map_congr_left;intro x hx;exact Nw (B3 w n x hx)
theorem Ix(k:KL)(h0:Hp)(hh:h0.length=0):∀(r a:LnQ)(s:Nat),(a++r).length<=18->(∀x∈r,x<10)->s<10^a.length ->
  (k (.exit 0) [I (XZ s r)] []) ->
  lp (mF (CX Y) (lst f8 (a++r)) (I (a++r).length)) [] h0 [I s,I a.length] [] k
 | []=>by
  intro a s hN hx hs hk;refine ai ?_;simp[mF];exact hk
 | x::r=>by
  intro a s hN hx hs hk;simp at hN hx;have hs18:s<10^17:=Z3 hs (Z4 af aa);simp only[Nat.reducePow]at hs18;have hx1:=hx.1;refine ai ?_;simp(disch:=try exact ac)[mF,f8];have:=Ix k h0 hh r (a++[x]) (s*10+x) aG hx.2 (by simp[Nat.pow_succ];omega) hk;simp at this
  rw[show(48+(x:Int)-48)=x by omega];exact this
theorem ZZ{n w:Nat}(h1:1<=w)(h2:w<=18)(hn:n<10^w):CP Y F.gE [S (dJ n w)] (.tup [I n,.d (.pl .nilIface)]):=by
 refine tz ?_;have hl:=Ek w n;have hlt:=B3 w n;have hh:=DL w n hn;have he:=U3 n w;have hD:=If w n;generalize dJ n w=L at *;generalize Ai n w=l at *;cases l with
 |nil=>simp at hl;omega
 | cons x l=>
  have hx:=hlt x ae
  have hi:ixS (S L) (.d (.int .i64 0))=some (.d (.int .u8 (48+x))):=by
   rw[hD];simp[ixS];have e:=Nw hx;unfold u8 at e;injection e
  have hlen:L.length=w:=by rw[hD];simpa using hl
  have hlw:ju (S L)=some (I w):=by rw[HU,hlen]
  simp(disch:=try exact ac)[gE,hlw,hi]
  have hcv:∀(k:kkQ),cvB (S L) [] k=k (lst f8 (x::l)) []:=by
   intro k
   have:V.d (.sl L.length (L.map fun b=>.int .u8 b.toNat))=lst f8 (x::l):=by
    unfold lst;rw[hlen,hl,<-he];rfl
   simp only[cvB,this]
  refine gv (l:=[S L]) (h:=[]) (fun q=>?_) ?_
  .simp[show ¬(48+(x:Int)=43) by omega]
  show cvB (S L) [] _
  rw[hcv];simp;refine lo (Ix _ _ rfl (x::l) [] 0 (by simp at hl;simp;omega) hlt ae ?_);simp[hi,hh];refine gv (l:=[I n]) (h:=[]) (fun q=>?_) ?_
  .simp[hh,show ¬(48+(x:Int)=45) by omega]
  exact⟨[],by simp[bg,aA,norm]⟩
theorem HB:biF .neq (.d (.pl .nilIface)) (.d (.pl .nilIface))=some (.d (.bool false)):=rfl
theorem Iw{n w:Nat}(h1:1<=w)(h2:w<=18)(hn:n<10^w):CP Y F.strconv_Atoi [S (dJ n w)] (.tup [I n,.d (.pl .nilIface)]):=by refine u5 ?_;simp[strconv_Atoi];refine cd (ZZ h1 h2 hn) ?_;simp[HB];exact⟨[],by simp[bg,aA,norm]⟩
theorem C3(z:D):∀n,jm n [z]=List.replicate n z
 |0=>rfl
 |n+1=>by simp[jm,C3 z n,List.replicate_succ]
@[simp] theorem agk (s by_:Nat)(z:D)(h:Hp)(i:Int)(k:kkQ)(u:PU k)(h0:0<=i)(hb:by_*i<=281474976710656)(h1:i<=9223372036854775807):
  rh (mkS s by_ [z] h (.d (.int .i64 i)) (.d (.int .i64 i))) k u=rn (bnh h[s]?) (fun y=>k (.ref s (y.1+1) 0 i.toNat i.toNat i.toNat) (h.set s (y.1+1,.data 1 (List.replicate i.toNat z) true false))) .mk:=by unfold rh rn;simp only[mkS];rw[if_pos ⟨h0,Int.le_refl _,ae,hb,h1⟩,BO];simp only[C3,Zb,List.length_singleton]
@[simp]theorem aff(s e off len cap tot:Nat):aW (.ref s e off len cap tot)=some (.d (.int .i64 (len:Int))):=id rfl
theorem lE{T:kkQ->Prop}{k:kkQ}{u:PU k}(h:T k):rh T k u:=h
theorem cdz{h:Hp}{f:FuncId}{v:V}{k:kkQ}{u:PU k}(hs:aA h args=some (ds,h'))(hc:C f ds v)(hk:k v (if dD v then h else h')):rh (cal C h (.fn f [] []) args) k u:=
 Ip hs hc hk
section
variable{α:Type}{f:α->D}{o:List α}{h:Hp}{s e n:Nat}{ex fr:Bool}
end
theorem pN(clr:LnQ)(i:Nat)(x0 x:Nat×Bk)(h0 h:Hp):aR clr i (x0::h0) (x::h)=(if gN clr i=true then x else(x0.1,.none))::aR clr (i+1) h0 h:=by cases x0;cases x;rfl
theorem PX(clr:LnQ)(i:Nat)(h:Hp):aR clr i [] h=h:=by cases h<;>rfl
theorem wc(clr:LnQ)(i:Nat)(x:Nat×Bk)(h:Hp):o6 clr i (x::h)=((!gN clr i||offB clr x.2)&&o6 clr (i+1) h):=by cases x;rfl
theorem Qk(s:Nat):gN [] s=true:=rfl
theorem Dk(t:Nat)(l:LnQ)(s:Nat):gN (t::l) s=(!(Nat.beq t s)&&gN l s):=rfl
theorem beq_lit(a b:Nat):Nat.beq a b=decide (a=b):=by
 by_cases h:a=b
 .subst h;simp[X0]
 .rw[decide_eq_false h];cases hb:Nat.beq a b with
  |false=>rfl
  |true=>exact absurd (Zn hb) h
@[simp]theorem ahe(n:Nat):V.d (i9 n)=I n:=id rfl
@[simp]theorem ag6(l:LnQ)(h:Hp)(hl:j<l.length):ld1 h (.dptr (l.map i9) j)=some (I ((nth 0 l j:Nat):Int)):=md i9 0 l h hl
@[simp]theorem agv(l:LnQ)(h:Hp)(hl:j<l.length):ld1 h (.dptr (l.map u32) j)=some (.d (.int .u32 ((nth 0 l j:Nat):Int))):=md u32 0 l h hl
@[simp]theorem ahb(n:Nat):V.d (u32 n)=.d (.int .u32 n):=id rfl
@[simp] theorem adN {α:Type}(f:α->D){l:List α}(h:Hp)(hl:0<l.length)(k:V->Prop)(u:PU k):rn (yf h .eql (lst f l) (.d nPQ)) k u=k (.d (.bool false)):=by
 cases l with
 |nil=>simp at hl
 |cons x l=>exact rfl
def te(k:Int)(a b:LiQ):LiQ:=List.zipWith (fun x y=>x-k*y) a b
def bdZ(B:Nat)(l:LiQ):Bool:=l.all fun x=>decide (x.natAbs<10^B)
section
variable{α:Type}(d:α)(g:α->LiQ)(w:α->LiQ->α)
def xx(m:List α)(i c:Nat):Int:=nth 0 (g (nth d m i)) c
def atG(c:Nat)(m:List α):Nat->Nat->Int->Int
 |0,_,at_=>at_
 |r+1,i,at_=>atG c m r (i+1) (if xx d g m i c≠0∧(at_<0∨(xx d g m i c).natAbs<(xx d g m at_.toNat c).natAbs)then i else at_)
def jy(c o:Nat)(m:List α)(i:Nat):List α:=m.set i (w (nth d m i) (te ((xx d g m i c).fdiv (xx d g m o c)) (g (nth d m i)) (g (nth d m o))))
def kT(c o:Nat):Nat->Nat->Bool->List α->Bool×List α
 |0,_,b,m=>(b,m)
 |r+1,i,b,m=>kT c o r (i+1) (b||decide ((xx d g m i c).fmod (xx d g m o c)≠0)) (jy d g w c o m i)
def upG(c o:Nat):Nat->Nat->List α->List α
 |0,_,m=>m
 |r+1,i,m=>upG c o r (i+1) (jy d g w c o m i)
def A7(c o:Nat)(m:List α):List α:=if xx d g m o c<0 then m.set o (w (nth d m o) ((g (nth d m o)).map (- ·)))else m
def mB(m:List α)(i j:Nat):List α:=(m.set i (nth d m j)).set j (nth d m i)
def mU(B c:Nat):Nat->Nat->List α->Option (Nat×List α)
 |0,_,_=>none
 | f+1,o,m=>
  if (m.all fun a=>bdZ B (g a))=true then
   let a:=atG d g c m (m.length-o) o (-1)
   if a<0 then some (o,m)else
    let s:=kT d g w c o (m.length-(o+1)) (o+1) false (mB d m o a.toNat)
    if s.1=true then mU B c f o s.2 else some (o+1,upG d g w c o o 0 (A7 d g w c o s.2))
  else none
def wY(B f:Nat):Nat->Nat->Nat->List α->Option (Nat×List α)
 |0,_,o,m=>some (o,m)
 | r+1,c,o,m=>if o<m.length then(match mU d g w B c f o m with
  |some (o',m')=>wY B f r (c+1) o' m'
  |none=>none)else some (o,m)
def D6(B f columns:Nat)(m:List α):Option (Nat×List α):=wY d g w B f columns 0 0 m
end
section
variable{α:Type}{d:α}{g:α->LiQ}{w:α->LiQ->α}
theorem nj(c o:Nat)(m:List α)(i:Nat):(jy d g w c o m i).length=m.length:=by simp[jy]
theorem kS(c o:Nat):∀(r i:Nat)(b:Bool)(m:List α),(kT d g w c o r i b m).2.length=m.length
 |0,_,_,_=>rfl
 |r+1,i,b,m=>by simp only[kT];rw[kS,nj]
theorem Nu(c o:Nat):∀(r i:Nat)(m:List α),(upG d g w c o r i m).length=m.length
 |0,_,_=>rfl
 |r+1,i,m=>by simp only[upG];rw[Nu,nj]
theorem Dn(c o:Nat)(m:List α):(A7 d g w c o m).length=m.length:=by unfold A7;split<;>simp
theorem fD(m:List α)(i j:Nat):(mB d m i j).length=m.length:=by simp[mB]
theorem Nl(c:Nat)(m:List α):∀(r i:Nat)(a:Int),a<i->-1<=a->atG d g c m r i a<(i+r:Nat)∧-1<=atG d g c m r i a
 |0,i,a,h,h0=>⟨by simpa[atG]using h,h0⟩
 | r+1,i,a,h,h0=>by
  simp only[atG];have:=Nl c m r (i+1) (if xx d g m i c≠0∧(a<0∨(xx d g m i c).natAbs<(xx d g m a.toNat c).natAbs)then i else a) (by split<;>omega) (by split<;>omega);exact⟨aa,this.2⟩
end
structure uT{α β:Type}(d:α)(g:α->LiQ)(w:α->LiQ->α)(d':β)(g':β->LiQ)(w':β->LiQ->β)(p:α->β):Prop where
 d:p d=d'
 g:∀a,g' (p a)=g a
 w:∀a r,p (w a r)=w' (p a) r
section
variable{α β:Type}{d:α}{g:α->LiQ}{w:α->LiQ->α}{d':β}{g':β->LiQ}{w':β->LiQ->β}{p:α->β}(H:uT d g w d' g' w' p)
include H
theorem uT.nth(m:List α)(i:Nat):nth d' (m.map p) i=p (nth d m i):=by simp only[Go.Vm.nth,Z0,List.getElem?_map];cases m[i]?<;>simp[H.d]
theorem uT.ent(m:List α)(i c:Nat):xx d' g' (m.map p) i c=xx d g m i c:=by simp[xx,H.nth,H.g]
theorem uT.take(c o:Nat)(m:List α)(i:Nat):jy d' g' w' c o (m.map p) i=(jy d g w c o m i).map p:=by simp only[jy,H.ent,H.nth,H.g,Xk,H.w]
theorem uT.at(c:Nat)(m:List α):∀(r i:Nat)(a:Int),atG d' g' c (m.map p) r i a=atG d g c m r i a
 |0,_,_=>rfl
 |r+1,i,a=>by simp only[atG,H.ent,uT.at c m r]
theorem uT.sweep(c o:Nat):∀(r i:Nat)(b:Bool)(m:List α),kT d' g' w' c o r i b (m.map p)=((kT d g w c o r i b m).1,(kT d g w c o r i b m).2.map p)
 |0,_,_,_=>rfl
 |r+1,i,b,m=>by simp only[kT,H.ent,H.take,uT.sweep c o r]
theorem uT.up(c o:Nat):∀(r i:Nat)(m:List α),upG d' g' w' c o r i (m.map p)=(upG d g w c o r i m).map p
 |0,_,_=>rfl
 |r+1,i,m=>by simp only[upG,H.take,uT.up c o r]
theorem uT.neg(c o:Nat)(m:List α):A7 d' g' w' c o (m.map p)=(A7 d g w c o m).map p:=by simp only[A7,H.ent,H.nth,H.g];split<;>simp[Xk,H.w]
theorem uT.swap(m:List α)(i j:Nat):mB d' (m.map p) i j=(mB d m i j).map p:=by simp[mB,H.nth,Xk]
theorem uT.round(B c:Nat):∀(f o:Nat)(m:List α),mU d' g' w' B c f o (m.map p)=(mU d g w B c f o m).map fun q=>(q.1,q.2.map p)
 |0,_,_=>rfl
 | f+1,o,m=>by
  have e:((m.map p).all fun a=>bdZ B (g' a))=m.all fun a=>bdZ B (g a):=by simp[List.all_map,Function.comp_def,H.g]
  simp only[mU,List.length_map,e,H.at,H.swap,H.sweep,H.neg,H.up,uT.round B c f];split
  .split
   .rfl
   .split<;>rfl
  .rfl
theorem uT.cols(B f:Nat):∀(r c o:Nat)(m:List α),wY d' g' w' B f r c o (m.map p)=(wY d g w B f r c o m).map fun q=>(q.1,q.2.map p)
 |0,_,_,_=>rfl
 | r+1,c,o,m=>by
  simp only[wY,List.length_map,H.round];split
  .cases mU d g w B c f o m with
   |none=>rfl
   |some q=>exact uT.cols B f r (c+1) q.1 q.2
  .rfl
theorem uT.form(B f c:Nat)(m:List α):D6 d' g' w' B f c (m.map p)=(D6 d g w B f c m).map fun q=>(q.1,q.2.map p):=H.cols B f c 0 0 m
end
abbrev Mz:=LLQ
def D5(B f c:Nat)(m:Mz):Option (Nat×Mz):=D6 [] (fun r=>r) (fun _ r=>r) B f c m
def Rm(n:Nat)(m:Mz):Mz:=(List.range n).map fun c=>m.map (fun r=>nth 0 r c)++(List.replicate n (0:Int)).set c 1
def Ey(k:Nat)(r:LiQ):Bool:=match r.findIdx? fun z=>decide (z≠0)with
 |some i=>decide (k<=i)
 |none=>false
def acm(B f k n:Nat)(m:Mz):Option Mz:=
 let l:=(m.filter (Ey k)).map (List.drop k)
 if l=[]then some []else match D5 B f n l with
  |some (o,w)=>some (w.take o)
  |none=>none
def MO(B f n:Nat)(m:Mz):Option Mz:=
 match D5 B f (m.length+n) (Rm n m)with
 |some (o,w)=>acm B f m.length n (w.take o)
 |none=>none
end Go.Vm
namespace Go.Proofs
open Go.Shelf
def Tryz.laysPu14_ren:Go.Shelf.Ren:=⟨fun|14=>165|16=>162|17=>92|19=>190|20=>191|21=>128|22=>129|23=>130|24=>131|25=>163|27=>52|26=>164|28=>70|29=>103|30=>140|31=>141|32=>142|33=>143|35=>169|34=>168|36=>170|37=>171|38=>172|39=>192|40=>193|n=>n,fun|9=>9|3=>3|22=>138|24=>109|25=>210|4=>4|34=>174|5=>5|36=>173|37=>136|0=>0|39=>177|21=>21|44=>214|47=>239|50=>242|48=>240|2=>2|52=>189|55=>192|59=>219|60=>220|20=>20|61=>221|65=>247|66=>248|67=>249|n=>n,fun|0=>0|1=>1|2=>2|3=>3|4=>4|n=>n⟩
theorem Tryz.laysPu14:Go.Proofs.LaysPu.n14 Tryz.prog Tryz.laysPu14_ren:={
 mixed:=ag
 f14:=Tryz.func165.trans (congrArg some ag)
 f16:=Tryz.func162.trans (congrArg some ag)
 f17:=Tryz.func92.trans (congrArg some ag)
 f19:=Tryz.func190.trans (congrArg some ag)
 f20:=Tryz.func191.trans (congrArg some ag)
 f21:=Tryz.func128.trans (congrArg some ag)
 f22:=Tryz.func129.trans (congrArg some ag)
 f23:=Tryz.func130.trans (congrArg some ag)
 f24:=Tryz.func131.trans (congrArg some ag)
 f25:=Tryz.func163.trans (congrArg some ag)
 f26:=Tryz.func164.trans (congrArg some ag)
 f27:=Tryz.func52.trans (congrArg some ag)
 f28:=Tryz.func70.trans (congrArg some ag)
 f29:=Tryz.func103.trans (congrArg some ag)
 f30:=Tryz.func140.trans (congrArg some ag)
 f31:=Tryz.func141.trans (congrArg some ag)
 f32:=Tryz.func142.trans (congrArg some ag)
 f33:=Tryz.func143.trans (congrArg some ag)
 f34:=Tryz.func168.trans (congrArg some ag)
 f35:=Tryz.func169.trans (congrArg some ag)
 f36:=Tryz.func170.trans (congrArg some ag)
 f37:=Tryz.func171.trans (congrArg some ag)
 f38:=Tryz.func172.trans (congrArg some ag)
 f39:=Tryz.func192.trans (congrArg some ag)
 f40:=Tryz.func193.trans (congrArg some ag)
 t0:=Tryz.underlying0
 a0:=Tryz.isAgg0
 z0:=Tryz.sizeOf0
 v0:=Tryz.zeroValue0
 i0:=ag
 t2:=Tryz.underlying2
 a2:=Tryz.isAgg2
 z2:=Tryz.sizeOf2
 v2:=Tryz.zeroValue2
 i2:=ag
 t3:=Tryz.underlying3
 a3:=Tryz.isAgg3
 z3:=Tryz.sizeOf3
 v3:=Tryz.zeroValue3
 i3:=ag
 t4:=Tryz.underlying4
 a4:=Tryz.isAgg4
 z4:=Tryz.sizeOf4
 v4:=Tryz.zeroValue4
 i4:=ag
 t5:=Tryz.underlying5
 a5:=Tryz.isAgg5
 z5:=Tryz.sizeOf5
 v5:=Tryz.zeroValue5
 i5:=ag
 t9:=Tryz.underlying9
 a9:=Tryz.isAgg9
 z9:=Tryz.sizeOf9
 v9:=Tryz.zeroValue9
 i9:=ag
 t20:=Tryz.underlying20
 a20:=Tryz.isAgg20
 z20:=Tryz.sizeOf20
 v20:=Tryz.zeroValue20
 i20:=ag
 t21:=Tryz.underlying21
 a21:=Tryz.isAgg21
 z21:=Tryz.sizeOf21
 v21:=Tryz.zeroValue21
 i21:=ag
 t22:=Tryz.underlying138
 a22:=Tryz.isAgg138
 z22:=Tryz.sizeOf138
 v22:=Tryz.zeroValue138
 i22:=ag
 t24:=Tryz.underlying109
 a24:=Tryz.isAgg109
 z24:=Tryz.sizeOf109
 v24:=Tryz.zeroValue109
 i24:=ag
 t25:=Tryz.underlying210
 a25:=Tryz.isAgg210
 z25:=Tryz.sizeOf210
 v25:=Tryz.zeroValue210
 i25:=ag
 t34:=Tryz.underlying174
 a34:=Tryz.isAgg174
 z34:=Tryz.sizeOf174
 v34:=Tryz.zeroValue174
 i34:=ag
 c34:=ag
 t36:=Tryz.underlying173
 a36:=Tryz.isAgg173
 z36:=Tryz.sizeOf173
 v36:=Tryz.zeroValue173
 i36:=ag
 t37:=Tryz.underlying136
 a37:=Tryz.isAgg136
 z37:=Tryz.sizeOf136
 v37:=Tryz.zeroValue136
 i37:=ag
 t39:=Tryz.underlying177
 a39:=Tryz.isAgg177
 z39:=Tryz.sizeOf177
 v39:=Tryz.zeroValue177
 i39:=ag
 t44:=Tryz.underlying214
 a44:=Tryz.isAgg214
 z44:=Tryz.sizeOf214
 v44:=Tryz.zeroValue214
 i44:=ag
 t47:=Tryz.underlying239
 a47:=Tryz.isAgg239
 z47:=Tryz.sizeOf239
 v47:=Tryz.zeroValue239
 i47:=ag
 t48:=Tryz.underlying240
 a48:=Tryz.isAgg240
 z48:=Tryz.sizeOf240
 v48:=Tryz.zeroValue240
 i48:=ag
 t50:=Tryz.underlying242
 a50:=Tryz.isAgg242
 z50:=Tryz.sizeOf242
 v50:=Tryz.zeroValue242
 i50:=ag
 t52:=Tryz.underlying189
 a52:=Tryz.isAgg189
 z52:=Tryz.sizeOf189
 v52:=Tryz.zeroValue189
 i52:=ag
 t55:=Tryz.underlying192
 a55:=Tryz.isAgg192
 z55:=Tryz.sizeOf192
 v55:=Tryz.zeroValue192
 i55:=ag
 t59:=Tryz.underlying219
 a59:=Tryz.isAgg219
 z59:=Tryz.sizeOf219
 v59:=Tryz.zeroValue219
 i59:=ag
 t60:=Tryz.underlying220
 a60:=Tryz.isAgg220
 z60:=Tryz.sizeOf220
 v60:=Tryz.zeroValue220
 i60:=ag
 t61:=Tryz.underlying221
 a61:=Tryz.isAgg221
 z61:=Tryz.sizeOf221
 t65:=Tryz.underlying247
 a65:=Tryz.isAgg247
 z65:=Tryz.sizeOf247
 v65:=Tryz.zeroValue247
 i65:=ag
 t66:=Tryz.underlying248
 a66:=Tryz.isAgg248
 z66:=Tryz.sizeOf248
 v66:=Tryz.zeroValue248
 i66:=ag
 t67:=Tryz.underlying249
 a67:=Tryz.isAgg249
 z67:=Tryz.sizeOf249
 v67:=Tryz.zeroValue249
 i67:=ag
 g0:=ag
 m0:=ag
 g1:=ag
 m1:=ag
 g2:=ag
 m2:=ag
 g3:=ag
 m3:=ag
 g4:=ag
 m4:=by kernel_rfl}
def Tryz.laysC174_ren:Go.Shelf.Ren:=⟨fun|174=>153|247=>127|245=>92|287=>162|279=>128|280=>129|281=>130|282=>131|321=>190|322=>191|316=>163|171=>52|205=>164|243=>70|246=>103|283=>140|284=>141|285=>142|286=>143|129=>169|317=>168|318=>170|319=>171|320=>172|337=>192|338=>193|n=>n,fun|9=>9|3=>3|2=>2|75=>109|85=>175|4=>4|167=>174|5=>5|53=>138|175=>210|46=>173|168=>177|37=>136|0=>0|210=>214|21=>21|127=>239|145=>242|143=>240|171=>189|173=>192|212=>219|51=>220|20=>20|213=>221|232=>247|233=>248|80=>249|n=>n,fun|15=>0|16=>1|17=>2|18=>3|19=>4|n=>n⟩
theorem Tryz.laysC174:Go.Proofs.LaysC.n174 Tryz.prog Tryz.laysC174_ren:={
 mixed:=ag
 f129:=Tryz.func169.trans (congrArg some ag)
 f171:=Tryz.func52.trans (congrArg some ag)
 f174:=Tryz.func153.trans (congrArg some ag)
 f205:=Tryz.func164.trans (congrArg some ag)
 f243:=Tryz.func70.trans (congrArg some ag)
 f245:=Tryz.func92.trans (congrArg some ag)
 f246:=Tryz.func103.trans (congrArg some ag)
 f247:=Tryz.func127.trans (congrArg some ag)
 f279:=Tryz.func128.trans (congrArg some ag)
 f280:=Tryz.func129.trans (congrArg some ag)
 f281:=Tryz.func130.trans (congrArg some ag)
 f282:=Tryz.func131.trans (congrArg some ag)
 f283:=Tryz.func140.trans (congrArg some ag)
 f284:=Tryz.func141.trans (congrArg some ag)
 f285:=Tryz.func142.trans (congrArg some ag)
 f286:=Tryz.func143.trans (congrArg some ag)
 f287:=Tryz.func162.trans (congrArg some ag)
 f316:=Tryz.func163.trans (congrArg some ag)
 f317:=Tryz.func168.trans (congrArg some ag)
 f318:=Tryz.func170.trans (congrArg some ag)
 f319:=Tryz.func171.trans (congrArg some ag)
 f320:=Tryz.func172.trans (congrArg some ag)
 f321:=Tryz.func190.trans (congrArg some ag)
 f322:=Tryz.func191.trans (congrArg some ag)
 f337:=Tryz.func192.trans (congrArg some ag)
 f338:=Tryz.func193.trans (congrArg some ag)
 t0:=Tryz.underlying0
 a0:=Tryz.isAgg0
 z0:=Tryz.sizeOf0
 v0:=Tryz.zeroValue0
 t2:=Tryz.underlying2
 a2:=Tryz.isAgg2
 z2:=Tryz.sizeOf2
 v2:=Tryz.zeroValue2
 t3:=Tryz.underlying3
 a3:=Tryz.isAgg3
 z3:=Tryz.sizeOf3
 v3:=Tryz.zeroValue3
 t4:=Tryz.underlying4
 a4:=Tryz.isAgg4
 z4:=Tryz.sizeOf4
 v4:=Tryz.zeroValue4
 t5:=Tryz.underlying5
 a5:=Tryz.isAgg5
 z5:=Tryz.sizeOf5
 v5:=Tryz.zeroValue5
 t9:=Tryz.underlying9
 a9:=Tryz.isAgg9
 z9:=Tryz.sizeOf9
 v9:=Tryz.zeroValue9
 t20:=Tryz.underlying20
 a20:=Tryz.isAgg20
 z20:=Tryz.sizeOf20
 v20:=Tryz.zeroValue20
 t21:=Tryz.underlying21
 a21:=Tryz.isAgg21
 z21:=Tryz.sizeOf21
 v21:=Tryz.zeroValue21
 t37:=Tryz.underlying136
 a37:=Tryz.isAgg136
 z37:=Tryz.sizeOf136
 v37:=Tryz.zeroValue136
 t46:=Tryz.underlying173
 a46:=Tryz.isAgg173
 z46:=Tryz.sizeOf173
 v46:=Tryz.zeroValue173
 t51:=Tryz.underlying220
 a51:=Tryz.isAgg220
 z51:=Tryz.sizeOf220
 v51:=Tryz.zeroValue220
 t53:=Tryz.underlying138
 a53:=Tryz.isAgg138
 z53:=Tryz.sizeOf138
 v53:=Tryz.zeroValue138
 t75:=Tryz.underlying109
 a75:=Tryz.isAgg109
 z75:=Tryz.sizeOf109
 v75:=Tryz.zeroValue109
 t85:=Tryz.underlying175
 a85:=Tryz.isAgg175
 z85:=Tryz.sizeOf175
 v85:=Tryz.zeroValue175
 t127:=Tryz.underlying239
 a127:=Tryz.isAgg239
 z127:=Tryz.sizeOf239
 v127:=Tryz.zeroValue239
 t143:=Tryz.underlying240
 a143:=Tryz.isAgg240
 z143:=Tryz.sizeOf240
 v143:=Tryz.zeroValue240
 t145:=Tryz.underlying242
 a145:=Tryz.isAgg242
 z145:=Tryz.sizeOf242
 v145:=Tryz.zeroValue242
 t167:=Tryz.underlying174
 a167:=Tryz.isAgg174
 z167:=Tryz.sizeOf174
 v167:=Tryz.zeroValue174
 t168:=Tryz.underlying177
 a168:=Tryz.isAgg177
 z168:=Tryz.sizeOf177
 v168:=Tryz.zeroValue177
 t171:=Tryz.underlying189
 a171:=Tryz.isAgg189
 z171:=Tryz.sizeOf189
 v171:=Tryz.zeroValue189
 t173:=Tryz.underlying192
 a173:=Tryz.isAgg192
 z173:=Tryz.sizeOf192
 v173:=Tryz.zeroValue192
 t175:=Tryz.underlying210
 a175:=Tryz.isAgg210
 z175:=Tryz.sizeOf210
 v175:=Tryz.zeroValue210
 t210:=Tryz.underlying214
 a210:=Tryz.isAgg214
 z210:=Tryz.sizeOf214
 v210:=Tryz.zeroValue214
 t212:=Tryz.underlying219
 a212:=Tryz.isAgg219
 z212:=Tryz.sizeOf219
 v212:=Tryz.zeroValue219
 t213:=Tryz.underlying221
 a213:=Tryz.isAgg221
 z213:=Tryz.sizeOf221
 t232:=Tryz.underlying247
 a232:=Tryz.isAgg247
 z232:=Tryz.sizeOf247
 v232:=Tryz.zeroValue247
 t233:=Tryz.underlying248
 a233:=Tryz.isAgg248
 z233:=Tryz.sizeOf248
 v233:=Tryz.zeroValue248
 g15:=ag
 g16:=ag
 g17:=ag
 g18:=ag
 g19:=ag
 t80:=Tryz.underlying249
 a80:=Tryz.isAgg249
 z80:=Tryz.sizeOf249
 v80:=Tryz.zeroValue249
 i0:=ag
 i2:=ag
 i3:=ag
 i4:=ag
 i5:=ag
 i9:=ag
 i20:=ag
 i21:=ag
 i37:=ag
 i46:=ag
 i51:=ag
 i53:=ag
 i75:=ag
 i80:=ag
 i85:=ag
 i127:=ag
 i143:=ag
 i145:=ag
 i167:=ag
 i168:=ag
 i171:=ag
 i173:=ag
 i175:=ag
 i210:=ag
 i212:=ag
 i232:=ag
 i233:=ag
 m15:=ag
 m16:=ag
 m17:=ag
 m18:=ag
 m19:=ag
 c0:=ag
 c2:=ag
 c3:=ag
 c4:=ag
 c5:=ag
 c9:=ag
 c20:=ag
 c21:=ag
 c37:=ag
 c46:=ag
 c51:=ag
 c53:=ag
 c75:=ag
 c80:=ag
 c85:=ag
 c127:=ag
 c143:=ag
 c145:=ag
 c167:=ag
 c168:=ag
 c171:=ag
 c173:=ag
 c175:=ag
 c210:=ag
 c212:=ag
 c213:=ag
 c232:=ag
 c233:=by kernel_rfl}
end Go.Proofs
namespace Go.Vm
open Go Go.Am
variable{l:LuQ}
theorem OT:∀(l:LuQ)(a:Nat),a<=pB a l
 |[],a=>Z7 _
 | c::l,a=>by
  have h:a*10+(c.toNat-48)<=pB (a*10+(c.toNat-48)) l:=OT l _;have e:pB a (c::l)=pB (a*10+(c.toNat-48)) l:=rfl;generalize pB a (c::l)=y at *;generalize pB (a*10+(c.toNat-48)) l=z at *;generalize c.toNat-48=d at *;omega
theorem qI:∀(l:LuQ)(a:Nat),l.all oC=true->pB a l<10000000000000000000->Lib.parseUintM (2^64-1) a l=.ok (pB a l)
 |[],a,_,_=>rfl
 | c::l,a,h,hd=>by
  simp only[List.all_cons,Z8,oC,Nat.ble_eq]at h;have e:pB a (c::l)=pB (a*10+(c.toNat-48)) l:=rfl;rw[e]at hd ⊢;have hge:=OT l (a*10+(c.toNat-48));rw[Lib.parseUintM,if_pos h.1,if_neg aa,if_neg aa];exact qI l _ h.2 hd
theorem frz(w:World)(e:TypeId)(s:ByteArray):w.heap.size<=(Lib.bytesWorld w e s).heap.size∧(∀c,c<w.heap.size->(Lib.bytesWorld w e s).heap[c]?=w.heap[c]?)∧(Lib.bytesWorld w e s).os=w.os∧(Lib.bytesWorld w e s).output=w.output:=
 ⟨by rw[Lib.bytesWorld_size];omega,fun c hc=>Lib.bytesWorld_at_old w e s c hc,rfl,rfl⟩
theorem U0{c:UInt8}(h:oC c=true):¬c.toNat=43∧¬c.toNat=45:=by simp only[oC,Z8,Nat.ble_eq]at h;omega
theorem Qc(hne:l≠[])(hall:l.all oC=true)(hlt:pB 0 l<9223372036854775808):Lib.parseIntB 64 l=.ok (pB 0 l:Int):=by
 cases l with
 |nil=>exact absurd rfl hne
 | cons c r=>
  have hc:=U0 (Z2.1 hall c ae)
  have hp:Lib.parseUintB 64 (c::r)=.ok (pB 0 (c::r)):=by
   rw[Lib.parseUintB,if_neg hne];exact qI _ _ hall aa
  unfold Lib.parseIntB;simp only[hc.1,hc.2,or_self,if_false,hp];rw[if_neg aG,if_neg ae]
theorem Qb(hne:l≠[])(hall:l.all oC=true)(hlt:pB 0 l<9223372036854775808):Lib.parseIntB 64 (45::l)=.ok (-(pB 0 l:Int)):=by
 have hp:Lib.parseUintB 64 l=.ok (pB 0 l):=by
  rw[Lib.parseUintB,if_neg hne];exact qI _ _ hall aa
 have h45:(45:UInt8).toNat=45:=rfl;unfold Lib.parseIntB;simp only[h45,or_true,if_true,hp];rw[if_neg ae,if_neg aG]
theorem adB:aaZ X:=by
 intro f args v h;simp only[X]at h;split at h
 .rename_i hf;obtain rfl:=Zn hf;unfold JK at h;split at h
  .rename_i s a b;split at h
   .rename_i hc;obtain⟨rfl,rfl,hne,hall,hsz,hlt⟩:=hc;obtain rfl:=Option.some.inj h;refine⟨rfl,rfl,.inr ⟨⟨_,Go.Proofs.Tryz.func165,ag,ag⟩,fun w=>?_⟩⟩
    have hp:Lib.parseUintB 64 s.data.toList=.ok (pB 0 s.data.toList):=by
     rw[Lib.parseUintB,if_neg hne];exact qI _ _ hall hlt
    have hsz2:s.size=s.data.toList.length:=by rw[Array.length_toList];rfl
    have hmax:s.size≤9223372036854775806:=aa;refine(Go.Proofs.Any.strconv_ParseUint_10_at64_ok Go.Proofs.Tryz.laysPu14 s hmax _ hp w).mono ?_;rintro e w' ⟨rfl,rfl|rfl⟩
    .exact⟨rfl,Z7 _,fun _ _=>rfl,rfl,rfl⟩
    .exact⟨rfl,frz w _ s⟩
   .cases h
  .cases h
 .split at h
  .rename_i hf;obtain rfl:=Zn hf
   have key:∀(s:ByteArray)(z:Int),s.data.toList.length≤1001→Lib.parseIntB 64 s.data.toList=.ok z→v=.tuple #[.int .i64 z,.nilIface]→args=[.string s,.int .i64 10,.int .i64 64] →
     cU args=true∧plain v=true∧(Ns X F.eS args v∨(∃fn,Go.Proofs.Tryz.prog.funcs[F.eS]?=some fn∧fn.body.isNone=false∧(fn.name == "runtime.NumGoroutine")=false) ∧
     ∀w,Calls Go.Proofs.Tryz.prog F.eS args.toArray w fun e w'=>e=.returned v∧w.heap.size≤w'.heap.size∧(∀c,c<w.heap.size→w'.heap[c]?=w.heap[c]?)∧w'.os=w.os∧w'.output=w.output):=by
    intro s z hl hp hv ha;subst hv;subst ha;refine⟨rfl,rfl,.inr ⟨⟨_,Go.Proofs.Tryz.func153,ag,ag⟩,fun w=>?_⟩⟩;have hsz2:s.size=s.data.toList.length:=by rw[Array.length_toList];rfl
    refine(Go.Proofs.Any.strconv_ParseInt_10_at64_ok Go.Proofs.Tryz.laysC174 s aa z hp w).mono ?_;rintro e w' ⟨rfl,rfl|⟨t,rfl⟩⟩
    .exact⟨rfl,Z7 _,fun _ _=>rfl,rfl,rfl⟩
    .exact⟨rfl,frz w _ t⟩
   unfold N6 at h;split at h
   .rename_i s a b;split at h
    .rename_i hab;obtain⟨rfl,rfl⟩:=hab;split at h
     .rename_i l hs;split at h
      .rename_i hc;obtain⟨hne,hall,hsz,hlt⟩:=hc;obtain rfl:=Option.some.inj h;exact key s _ (by rw[hs];simp;omega) (by rw[hs];exact Qb hne hall hlt) rfl rfl
      .cases h
     .rename_i l hs;split at h
      .rename_i hc;obtain⟨hne,hall,hsz,hlt⟩:=hc;obtain rfl:=Option.some.inj h;exact key s _ aa (Qc hne hall hlt) rfl rfl
      .cases h
    .cases h
   .cases h
  .cases h
end Go.Vm
namespace Go.Proofs
open Go.RowKit Go.Shelf
attribute [local go_sem] Oper.semAt_some
def acx(W:World)(B o k c s:Nat):Prop:=∃(a:Option Addr)(cap:Nat),W.cell? ⟨B,o,none⟩=some (.slice a k cap)∧(0<k->a=some ⟨c,s,none⟩)
def aeL(W:World)(B o B2 o2 k c s c2 s2:Nat)(us vs:LvQ):Prop:=
 acx W B o k c s∧acx W B2 o2 k c2 s2∧(∀(i:Nat) v,us[i]?=some v->W.cell? ⟨c,s+i,none⟩=some v)∧∀(i:Nat) v,vs[i]?=some v->W.cell? ⟨c2,s2+i,none⟩=some v
set_option maxRecDepth 100000 in
set_option maxHeartbeats 2000000 in
theorem aae(l B o k c s c2 s2:Nat)(us vs:LvQ)(hu:us.length=k)(hv:vs.length=k)(hk:k<4611686018427387904)(J Jx:Nat->World->Prop)
  (hV:∀i W1,J i W1->aeL W1 B o B (o+1) k c s c2 s2 us vs)
  (hY:∀(i:Nat) x y W1,J i W1->us[i]?=some x->vs[i]?=some y->YieldAt (Go.Am.Fw none) 0 Tryz.prog l #[x,y] W1 fun e W'=>(e=.returned (.bool true)∧J (i+1) W')∨(e=.returned (.bool false)∧Jx (i+1) W'))
  (W:World) (h0:J 0 W) :
  CallsIn (Go.Am.Fw none) 1 Tryz.prog 187 #[.func (.yield l) #[] #[],.pointer (some ⟨B,o,none⟩)] W fun e W'=>(∃v,e=.returned v)∧(J k W'∨∃i,Jx i W'):=by
 refine callsIn_of_wp Tryz.func187 rfl trivial ?_ rfl;simp only[Tryz.ntmps187,List.size_toArray,List.length_cons,List.length_nil,Nat.reduceAdd,Nat.reduceSub,Array.replicate_succ,Array.replicate_zero,List.push_toArray,List.append_toArray,List.nil_append,List.cons_append];obtain⟨⟨a,cap,hc0,ha⟩,_⟩:=hV 0 W h0
 gi_wp2
 gi_loopw [8] (fun i wr=>∃j:Nat,j<=k∧i=.int .i64 j∧J j wr) (fun i _=>k-(intOf i).toNat)
 case atStart=>grind
 case round=>
  obtain⟨j,hj,rfl,hJs⟩:=hrel;by_cases hlt:j<k
  .obtain rfl:=ha aa;have ex:∃x,us[j]?=some x:=⟨_,List.getElem?_eq_getElem aa⟩;have ey:∃y,vs[j]?=some y:=⟨_,List.getElem?_eq_getElem aa⟩;obtain⟨x,hx⟩:=ex;obtain⟨y,hy'⟩:=ey;obtain⟨_,⟨a2,cap2,hc2,ha2⟩,hus,hvs⟩:=hV j wr hJs;obtain rfl:=ha2 aa;have hcx:=hus j x hx;have hcy:=hvs j y hy';obtain⟨fn,tmps,assign,body,hy,hR⟩:=hY j x y wr hJs hx hy'
   clear hx hy' hus hvs
   gi_wp2
   refine hR.mono ?_;rintro e W3 (⟨rfl,hJ3⟩|⟨rfl,hJx3⟩)
   .gi_wp2
    go_roundw
    case rel=>exact⟨j+1,aa,ae,hJ3⟩
    case measure=>simp[intOf];omega
   .gi_wp2
    refine bodyPost_ret (results_none rfl _ _ _) rfl ?_;exact⟨⟨_,rfl⟩,.inr ⟨_,hJx3⟩⟩
  .obtain rfl:j=k:=aa
   gi_wp2
   simp_all[bodyPost_end,results_none]
end Go.Proofs
namespace Go.Vm
open Go Go.Am Go.Proofs
noncomputable section
variable{f:FuncId}{p q v a b:Value}{xs:List LvQ}
theorem Q2{P:Program}{args:Array Value}{w:World}{R:Ending->World->Prop}(h:CallsIn (Fw none) 1 P f args w R):CallsIn (Fw none) 0 P f args w R:=
 ⟨h.1,fun cs _=>h.2 cs (fun d hd=>by trivial)⟩
def hd1(x:LvQ):Value:=x.headD default
def sd1(x:LvQ):Value:=x.tail.headD default
theorem Nt:∀(us vs:LvQ),us.length=vs.length->(((us.zip vs).map fun x=>[x.1,x.2]).map hd1)=us∧(((us.zip vs).map fun x=>[x.1,x.2]).map sd1)=vs
 |[],[],_=>⟨rfl,rfl⟩
 | u::us,v::vs,h=>by
  obtain⟨h1,h2⟩:=Nt us vs (by grind);simp only[List.zip_cons_cons,Z1,h1,h2];trivial
 |[],_::_,h=>by simp at h
 |_::_,[],h=>by simp at h
theorem IE{H:AH}(h:LD H p q=some xs):mM H 1 p=some (xs.length,xs.map hd1)∧mM H 1 q=some (xs.length,xs.map sd1)∧xs.length<4611686018427387904∧MP p=true∧MP q=true ∧
  ∀x∈xs,x=[hd1 x,sd1 x]∧plain (hd1 x)=true∧plain (sd1 x)=true:=by
 unfold LD at h;split at h
 case h_2=>cases h
 rename_i k us k' vs hp hq;split at h
 case isFalse=>cases h
 rename_i hc;obtain⟨h1,h2,h3,h4,h5,h6,h7⟩:=hc;simp only[Z9]at h;subst h;obtain⟨m1,m2⟩:=Nt us vs aa;have hl:((us.zip vs).map fun x=>[x.1,x.2]).length=k:=by simp;omega
 rw[m1,m2,hl];simp only[Z8]at h5;refine⟨hp,by rw[hq,h1],h4,h5.1,h5.2,fun x hx=>?_⟩;obtain⟨⟨a,b⟩,hab,rfl⟩:=Zh.1 hx;have:=List.of_mem_zip hab;have e1:=Z2.1 h6 a this.1;have e2:=Z2.1 h7 b this.2;simp only[Z8]at e1 e2;exact⟨rfl,e1.1,e2.1⟩
theorem NK{X:Cfg}{φ:bO}(hp:MP p=true)(hv:am φ p v):∃c s:Nat,∀(φ':bO)(H':AH)(w':World)(k:Nat)(us:LvQ),bq X φ' H' w'->PLe φ φ'->mM H' 1 p=some (k,us)->us.length=k->(∀u∈us,plain u=true) ->
  ∀B o v',w'.cell? ⟨B,o,none⟩=some v'->am φ' p v'->acx w' B o k c s∧∀(i:Nat) u,us[i]?=some u->w'.cell? ⟨c,s+i,none⟩=some u:=by
 cases p<;>simp only[MP]at hp<;>try cases hp
 rename_i a n cap;cases a with
 | none=>
  refine⟨0,0,fun φ' H' w' k us hh _ hs hk _ B o v' hc hv'=>?_⟩;have e:=gz hv';subst e;cases n with
  | zero=>
   simp only[mM,Z9,Z6]at hs;obtain⟨rfl,rfl⟩:=hs;exact⟨⟨none,cap,hc,fun h=>absurd h aa⟩,fun i u hi=>by simp at hi⟩
  |succ n=>trivial
 | some a=>
  obtain⟨a',c',rfl,hs⟩:=gM hv
  have hpl:a.spot=none∧∃pl,φ a.block=some pl:=by
   rcases hs with⟨h1,_,pl,hp,_⟩|⟨h1,_,_,_,pl,hp⟩
   .grind
   .grind
  obtain⟨hsp,pl,hpl⟩:=hpl;obtain⟨b,off,sp⟩:=a;simp only at hsp hpl;subst hsp;refine⟨pl.c,pl.s+off,fun φ' H' w' k us hh hle hs' hk hpl' B o v' hc hv'=>?_⟩;obtain⟨⟨b2,o2,s2⟩,c2,rfl,hs2⟩:=gM hv';have hpb:=hle _ _ hpl;simp only[mM]at hs';split at hs'
  .rename_i hn;simp only[Z9,Z6]at hs';obtain⟨rfl,rfl⟩:=hs';subst hn;exact⟨⟨_,c2,hc,fun h=>absurd h aa⟩,fun i u hi=>by simp at hi⟩
  .rename_i hn;simp only[Yj,Z5,Z6]at hs';obtain⟨cs,hr,rfl,rfl⟩:=hs';obtain⟨cs',r1,r2,r3,r4⟩:=hh.read hr hpb
   have hb:b2=pl.c∧o2=pl.s+off∧s2=none:=by
    rcases hs2 with⟨_,h2,pl2,hp2,h3,h4,_⟩|⟨_,h0,_⟩
    .grind
    .omega
   obtain⟨rfl,rfl,rfl⟩:=hb;refine⟨⟨_,c2,hc,fun _=>rfl⟩,fun i u hi=>?_⟩
   grind[au.at,oj,am.of_plain]
theorem Qa{x:LvQ}(h:x=[hd1 x,sd1 x]∧plain (hd1 x)=true∧plain (sd1 x)=true):cU x=true:=by grind[cU]
theorem aa8(hpl:∀x∈xs,x=[hd1 x,sd1 x]∧plain (hd1 x)=true∧plain (sd1 x)=true){i:Nat}(ha:(xs.map hd1)[i]?=some a)(hb:(xs.map sd1)[i]?=some b):xs[i]?=some [a,b]:=by grind
theorem abV {fn:Func}(h:Tryz.prog.funcs[f]?=some fn)(hb:fn.body.isNone=false)(hn:(fn.name == "runtime.NumGoroutine")=false):∃fn,X.P.funcs[f]?=some fn∧fn.body.isNone=false∧(fn.name == "runtime.NumGoroutine")=false:=⟨fn,h,hb,hn⟩
set_option maxRecDepth 100000 in
theorem abX:∃fn,X.P.funcs[187]?=some fn∧fn.body.isNone=false∧(fn.name == "runtime.NumGoroutine")=false:=abV Tryz.func187 rfl (by rfl)
theorem adp:Pj X:=by
 intro gf lb H xs h0;have h:Hm gf lb H=some xs:=h0;clear h0;unfold Hm at h;split at h
 .rename_i hg;have hg:gf=187:=Zn hg;subst hg;split at h
  case h_2=>cases h
  rename_i b o;split at h
  case h_2=>cases h
  rename_i p q d hrd;obtain⟨s1,s2,s3,s4,s5,hpl⟩:=IE h;refine⟨fun x hx=>Qa (hpl x hx),abX,fun φ w lb' hh hl=>?_⟩;simp only[au]at hl;obtain⟨v',r,rfl,hv',rfl⟩:=hl;obtain⟨pl,hpb,rfl⟩:=rR hv';obtain⟨cs',r1,r2,r3,r4⟩:=hh.read hrd hpb;simp only[au]at r1;obtain⟨p',_,rfl,hp',q',_,rfl,hq',d',_,rfl,hd',rfl⟩:=r1;obtain⟨c,s,base⟩:=NK (X:=X) s4 hp'
  obtain⟨c2,s2',aaU⟩:=NK (X:=X) s5 hq';refine⟨fun W=>aeL W pl.c (pl.s+o) pl.c (pl.s+o+1) xs.length c s c2 s2' (xs.map hd1) (xs.map sd1),fun φ' H' w' hh' hle hl' hs hk=>?_,fun l J Jx W hV hY h0=>?_⟩
  .have hk:(cg H' b o 3).getD []=(cg H b o 3).getD []:=hk;have hs:Hm 187 [.pointer (some ⟨b,o,none⟩)] H'=some xs:=hs;rw[hrd]at hk
   have hrd':cg H' b o 3=some [p,q,d]:=by
    cases hr:cg H' b o 3 with
    |none=>grind
    |some cs=>grind
   have hz:LD H' p q=some xs:=by
    unfold Hm at hs;rw[show Nat.beq 187 F.cT=true from rfl]at hs;simp only[hrd']at hs;exact hs
   obtain⟨t1,t2,_⟩:=IE hz;obtain⟨ds',u1,u2,u3,u4⟩:=hh'.read hrd' (hle _ _ hpb);simp only[au]at u1;obtain⟨p2,_,rfl,hp2,q2,_,rfl,hq2,d2,_,rfl,hd2,rfl⟩:=u1;have k0:=u4 0 p2 rfl;have k1:=u4 1 q2 rfl;rw[oj]at k0 k1;obtain⟨w1,w2⟩:=base φ' H' w' _ _ hh' hle t1 ae (fun u hu=>by grind) _ _ _ k0 hp2
   obtain⟨w3,w4⟩:=aaU φ' H' w' _ _ hh' hle t2 ae (fun u hu=>by grind) _ _ _ k1 hq2;trivial
  .exact Q2 (aae l pl.c (pl.s+o) xs.length c s c2 s2' (xs.map hd1) (xs.map sd1) ae ae s3 J Jx hV (fun i x y W1 hJ hx hy=>hY i [x,y] W1 hJ (aa8 hpl hx hy)) W h0)
 .rename_i hf;split at h
  case h_2=>cases h
  rename_i hg;rw[show F.tR=F.cT from rfl,hf]at hg;cases hg
end
end Go.Vm
set_option maxRecDepth 100000
namespace Go.Vm
open Go Go.Am
theorem abU:(List.range X.P.funcs.size).all (fun f=>!X.allow f||match X.P.funcs[f]? with
  |some fn=>WZ X.P fn&&(match fn.body with|some c=>jF Y fn.ntmps c|none=>true)
  |none=>true)=true:=aF
theorem aaE{f:FuncId}{fn:Func}(ha:X.allow f=true)(hf:X.P.funcs[f]?=some fn):WZ X.P fn=true∧(match fn.body with|some c=>jF Y fn.ntmps c|none=>true)=true:=by
 have hlt:f<X.P.funcs.size:=by
  rcases Zl f X.P.funcs.size with h|h
  .exact h
  .rw[Array.getElem?_eq_none h]at hf;cases hf
 have:=Z2.1 abU f (Xs.2 hlt);rw[ha,hf]at this;simpa using this
theorem vOk:VOk Y where
 y:=yOk
 fns f fn c ha hf hc:=by have:=(aaE ha hf).2;rw[hc]at this;exact this
theorem abx:Nq X where
 mixed:=by rfl
 fns f fn ha hf:=(aaE ha hf).1
 orc:=adB
 seq:=adp
end Go.Vm
