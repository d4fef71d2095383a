/- Lemmas. -/
import Derived.Test.YtmfphhiejjamaabGreatDoorQT
set_option linter.unusedVariables false
set_option linter.unusedSimpArgs false
namespace Go.Vm
open Go Go.Am Go.Big
variable{k:IntKind}{T:(LwQ->Hp->Prop)->Prop}{xs:List LvQ}{clr:LnQ}{h0 h':Hp}{a i z:Int}{j L d i1 cap w:Nat}{ys args ds:LwQ}{cells:LdQ}{C:xB}
def W:Nat:=4294967296
def u32(n:Nat):D:=.int .u32 n
def nat(n:Nat):V:=lst u32 (dig W n)
def len(n:Nat):Nat:=(dig W n).length
inductive PU{α:Type}(k:α):Type where
 |mk
def rn{α:Type}(T:(α->Prop)->Prop)(k:α->Prop)(u:PU k):Prop:=T k
def rh{α β:Type}(T:(α->β->Prop)->Prop)(k:α->β->Prop)(u:PU k):Prop:=T k
def rl(T:KL->Prop)(k:KL)(u:PU k):Prop:=T k
def br(p A B:Prop)(u:PU A)(w:PU B):Prop:=(p->A)∧(¬p->B)
def jo(k:LwQ->Hp->Prop)(T:(LwQ->Hp->Prop)->Prop)(u:PU k)(w:PU T):Prop:=T k
theorem XZ{p A B:Prop}{u:PU A}{w:PU B}(h1:p->A)(h2:¬p->B):br p A B u w:=⟨h1,h2⟩
@[simp]theorem ahc(A B:Prop)(u:PU A)(w:PU B):br True A B u w=A:=by simp[br]
@[simp]theorem agr(A B:Prop)(u:PU A)(w:PU B):br False A B u w=B:=by simp[br]
@[simp]theorem aiv{p A B:Prop}{u:PU A}{w:PU B}(h:p):br p A B u w=A:=by simp_all
@[simp]theorem aiw{p A B:Prop}{u:PU A}{w:PU B}(h:¬p):br p A B u w=B:=by simp_all
theorem jD{k:LwQ->Hp->Prop}{u:PU k}{w:PU T}{l:LwQ}{h:Hp}(hT:∀q,T q=q l h)(hk:k l h):jo k T u w:=by grind[jo]
theorem aT{k:LwQ->Hp->Prop}{u:PU k}{w:PU T}(h:T k):jo k T u w:=h
@[simp ↓] theorem aix (o:Option V)(k:V->Prop):bnd o k=rn (bnd o) k .mk:=id rfl
@[simp ↓] theorem ain (x:V)(i:Nat)(k:V->Prop):ext x i k=rn (ext x i) k .mk:=id rfl
@[simp ↓] theorem agY (h:Hp)(op:BinOp)(x y:V)(k:V->Prop):rj h op x y k=rn (rj h op x y) k .mk:=id rfl
@[simp ↓] theorem aiq (b:Bool)(A B:Prop):cnd (.d (.bool b)) A B=br (b=true) A B .mk .mk:=by cases b<;>simp[cnd,br]
@[simp ↓] theorem ag6 (b:Bool)(h:Hp)(T:kkQ->Prop)(k:kkQ):gd (.d (.bool b)) true h T k=br (b=true) (T k) (k (.tup []) h) .mk .mk:=by cases b<;>simp[gd,br]
@[simp ↓] theorem af9 (b:Bool)(h:Hp)(T:kkQ->Prop)(k:kkQ):gd (.d (.bool b)) false h T k=br (b=false) (T k) (k (.tup []) h) .mk .mk:=by cases b<;>simp[gd,br]
@[simp ↓] theorem af8 (w:Bool)(h:Hp)(T:kkQ->Prop)(k:kkQ):gd (.tup []) w h T k=k (.tup []) h:=id rfl
@[simp ↓] theorem aiK (k:LwQ->Hp->Prop)(T:(LwQ->Hp->Prop)->Prop):jn k T=jo k T .mk .mk:=id rfl
@[simp ↓] theorem ais (C:xB)(h:Hp)(c:V)(args:LwQ)(k:kkQ):cal C h c args k=rh (cal C h c args) k .mk:=id rfl
@[simp ↓] theorem ait (C:qz)(h:Hp)(c:V)(args:LwQ)(s:Nat)(k:kkQ):cai C h c args s k=rh (cai C h c args s) k .mk:=id rfl
@[simp ↓] theorem ahb (C:qz)(h:Hp)(c:V)(args:LwQ)(s:Nat)(k:kkQ):XV C h c args s k=rh (XV C h c args s) k .mk:=id rfl
@[simp ↓] theorem aiD (s:Nat)(cs:LwQ)(h:Hp)(k:kkQ):alV s cs h k=rh (alV s cs h) k .mk:=id rfl
@[simp ↓] theorem aiE (s n:Nat)(cs:LdQ)(h:Hp)(k:kkQ):alD s n cs h k=rh (alD s n cs h) k .mk:=id rfl
@[simp ↓] theorem ahd (s:Nat)(v:V)(h:Hp)(k:kkQ):cQ s v h k=rh (cQ s v h) k .mk:=id rfl
@[simp ↓] theorem ag1 (len:Nat)(z:LdQ)(ps:List (Nat×V))(h:Hp)(k:kkQ):cR len z ps h k=rh (cR len z ps h) k .mk:=id rfl
@[simp ↓] theorem ag0 (s len:Nat)(z:LdQ)(ps:List (Nat×V))(h:Hp)(k:kkQ):rq s len z ps h k=rh (rq s len z ps h) k .mk:=id rfl
@[simp ↓] theorem aia (s by_:Nat)(z:LdQ)(h:Hp)(l c:V)(k:kkQ):mkS s by_ z h l c k=rh (mkS s by_ z h l c) k .mk:=id rfl
@[simp ↓] theorem ahD (h:Hp)(n:Nat)(p v:V)(k:kkQ):stD h n p v k=rh (stD h n p v) k .mk:=id rfl
@[simp ↓] theorem aiz (dr:Bool)(s n by_:Nat)(x y:V)(h:Hp)(k:kkQ):apV dr s n by_ x y h k=rh (apV dr s n by_ x y h) k .mk:=id rfl
@[simp ↓] theorem aiy (dr:Bool)(s n by_:Nat)(z:LdQ)(x y:V)(h:Hp)(k:kkQ):apZ dr s n by_ z x y h k=rh (apZ dr s n by_ z x y h) k .mk:=id rfl
@[simp ↓] theorem aiH (st:aL)(clr:LnQ)(h0:Hp)(l:LwQ)(h:Hp)(k:KL):lp st clr h0 l h k=rl (lp st clr h0 l h) k .mk:=id rfl
@[simp ↓] theorem aik (v:V)(h:Hp)(k:kkQ):fzD v h k=rh (fzD v h) k .mk:=id rfl
def rk(T:(Exit->Hp->Prop)->Prop)(k:Exit->Hp->Prop)(u:PU k):Prop:=T k
@[simp ↓] theorem ah5 (o:Option (List LvQ))(n:Nat)(st:CH)(clr:LnQ)(h:Hp)(k:Exit->Hp->Prop):rgO o n st clr h k=rk (rgO o n st clr h) k .mk:=id rfl
theorem ro{o:Option (List LvQ)}{n:Nat}{st:CH}{h:Hp}{k:Exit->Hp->Prop}{u:PU k}(hq:o=some xs)(hr:rg n st clr h k xs h):rk (rgO o n st clr h) k u:=by subst hq;exact hr
theorem IW{n:Nat}{st:CH}{h:Hp}{k:Exit->Hp->Prop}{x:LvQ}(hl:x.length=n)(hs:st (x.map fun v=>.d (jp v)) h fun ex h'=>match ex with
  |.normal=>qk clr 0 h'=true∧rg n st clr h0 k xs (au clr 0 h0 h')
  |ex=>k ex h'):rg n st clr h0 k (x::xs) h:=⟨hl,hs⟩
@[simp]theorem ahZ(v:V)(k:V->Prop)(u:PU k):rn (bnd (some v)) k u=k v:=id rfl
@[simp]theorem ahX(vs:LwQ)(i:Nat)(k:V->Prop)(u:PU k):rn (ext (.tup vs) i) k u=rn (bnd vs[i]?) k u:=id rfl
attribute [simp] Uv aaq Int.natCast_inj
@[simp]theorem afF(b:Bool)(x y:V):qM (.d (.bool (!b))) x y=qM (.d (.bool b)) y x:=by cases b<;>rfl
@[simp]theorem uo{n:Int}(h1 : -9223372036854775808<=n)(h2:n<=9223372036854775807):IntKind.wrap .i64 n=n:=wrap_i64 ⟨h1,h2⟩
@[simp]theorem Nj{n:Int}(h1:0<=n)(h2:n<18446744073709551616):IntKind.wrap .u64 n=n:=wrap_u64 ⟨h1,h2⟩
@[simp]theorem adf{n:Int}(h1:0<=n)(h2:n<4294967296):IntKind.wrap .u32 n=n:=wrap_u32 ⟨h1,h2⟩
@[simp]theorem wrap_u8'{n:Int}(h1:0<=n)(h2:n<256):IntKind.wrap .u8 n=n:=Nk rfl ⟨h1,h2⟩
attribute [simp] x9 rT vJ
@[simp]theorem abM{b:Int}(hb:b≠0):biI .rem (.d (.int k a)) (.d (.int k b))=some (.d (.int k (a.tmod b))):=by simp[biI,ib,mr,jp,hb]
@[simp]theorem ahj{b:Int}(hb:b≠0):biI .quo (.d (.int k a)) (.d (.int k b))=some (.d (.int k (k.wrap (a.tdiv b)))):=by simp[biI,ib,mr,jp,hb]
theorem JX{l:IntKind}{b:Int}(h0:0<=b)(hb:b.toNat<=k.bits):biI .shr (.d (.int k a)) (.d (.int l b))=some (.d (.int k (a/2^b.toNat))):=by
 have h1:¬(b<0):=aa
 grind[biI,ib,mr,jp]
theorem AX{l:IntKind}{b:Int}(h0:0<=b)(hb:b.toNat<=k.bits):biI .shl (.d (.int k a)) (.d (.int l b))=some (.d (.int k (k.wrap (a*2^b.toNat)))):=by
 have h1:¬(b<0):=aa
 grind[biI,ib,mr,jp]
@[simp]theorem agv:IntKind.bits .i64=64:=rfl
@[simp]theorem agt:IntKind.bits .u64=64:=rfl
@[simp]theorem agu:IntKind.bits .u32=32:=rfl
@[simp]theorem ahg:IntKind.bits .u8=8:=rfl
@[simp]theorem ZY{l:IntKind}{b:Int}(h0:0<=b)(hb:b<=64):biI .shr (.d (.int .i64 a)) (.d (.int l b))=some (.d (.int .i64 (a/2^b.toNat))):=JX h0 bK
@[simp]theorem agO{l:IntKind}{b:Int}(h0:0<=b)(hb:b<=64):biI .shl (.d (.int .i64 a)) (.d (.int l b))=some (.d (.int .i64 (IntKind.wrap .i64 (a*2^b.toNat)))):=AX h0 bK
@[simp]theorem agK{l:IntKind}{b:Int}(h0:0<=b)(hb:b<=64):biI .shr (.d (.int .u64 a)) (.d (.int l b))=some (.d (.int .u64 (a/2^b.toNat))):=JX h0 bK
@[simp]theorem agM{l:IntKind}{b:Int}(h0:0<=b)(hb:b<=64):biI .shl (.d (.int .u64 a)) (.d (.int l b))=some (.d (.int .u64 (IntKind.wrap .u64 (a*2^b.toNat)))):=AX h0 bK
@[simp]theorem agL{l:IntKind}{b:Int}(h0:0<=b)(hb:b<=32):biI .shr (.d (.int .u32 a)) (.d (.int l b))=some (.d (.int .u32 (a/2^b.toNat))):=JX h0 bK
@[simp]theorem agN{l:IntKind}{b:Int}(h0:0<=b)(hb:b<=32):biI .shl (.d (.int .u32 a)) (.d (.int l b))=some (.d (.int .u32 (IntKind.wrap .u32 (a*2^b.toNat)))):=AX h0 bK
@[simp]theorem agH(k:IntKind)(n:Int):unV .neg (.d (.int k n))=some (.d (.int k (k.wrap (-n)))):=by simp[unV,ib,mr,jp]
def nth{α:Type}(d:α)(l:List α)(i:Nat):α:=l.getD i d
theorem aN{α:Type}(d:α)(l:List α)(i:Nat)(h:i<l.length):nth d l i=l[i]:=by simp[nth,h]
@[simp]theorem bM{α:Type}(d:α)(p:List α)(x:α)(q:List α):nth d (p++x::q) p.length=x:=by simp[nth]
variable{α:Type}(f:α->D)
@[simp] theorem kv (l:List α)(h:Hp)(h0:0<=i)(h1:i<l.length):ixV h 1 (lst f l) (.d (.int k i))=some (.dptr (l.map f) i.toNat):=
 aJ f l h (Int.toNat_of_nonneg h0).symm aa
theorem aC(d:α)(l:List α)(h:Hp)(hl:j<l.length):ld1 h (.dptr (l.map f) j)=some (.d (f (nth d l j))):=by rw[ad7 f l h hl,aN d l j hl]
@[simp] theorem aig (p:List α)(x:α)(q:List α)(h:Hp)(k:IntKind):ixV h 1 (lst f (p++x::q)) (.d (.int k p.length))=some (.dptr ((p++x::q).map f) p.length):=
 aJ f _ h rfl af
omit f in
@[simp] theorem aie (a:LdQ)(x:D)(b:LdQ)(h:Hp)(hj:j=a.length):ld1 h (.dptr (a++x::b) j)=some (.d x):=by subst hj;simp[ld1]
omit f in
@[simp]theorem aiJ(x:D)(b:LdQ)(h:Hp):ld1 h (.dptr (x::b) 0)=some (.d x):=by rfl
variable{α:Type}(f:α->D)(l:List α)
@[simp]theorem afq(h:Hp)(h0:0<=i)(h1:i<=l.length)(hp:0<l.length):slV h 1 (lst f l) none (some (I i))=some (lst f (l.take i.toNat)):=afx f l hp aa aa
@[simp]theorem aiF(h:Hp)(h0:0<=i)(h1:i<=l.length)(hp:0<l.length):slV h 1 (lst f l) (some (I i)) none=some (lst f (l.drop i.toNat)):=afw f l hp aa aa
@[simp] theorem aiM (len n:Nat)(cs:LdQ)(off:Nat)(h0:0<=i)(h1:i<len):ixP len n (.dptr cs off) (.d (.int k i))=some (.dptr cs (off+i.toNat*n)):=by simp only[ixP];rw[if_pos ⟨h0,h1⟩]
@[simp] theorem aiL (len n:Nat)(s e off tot:Nat)(h0:0<=i)(h1:i<len):ixP len n (.ptr s e off tot) (.d (.int k i))=some (.ptr s e (off+i.toNat*n) tot):=by simp only[ixP];rw[if_pos ⟨h0,h1⟩]
theorem af0(h:Hp)(cs:LdQ)(pos:Nat){x:D}(hx:cs[pos]?=some x):ld1 h (.dptr cs pos)=some (.d x):=by grind[ld1]
def qm{α:Type}(f:α->LdQ)(l:List α):V:=.d (.sl l.length (l.flatMap f))
section
variable{α:Type}(f:α->LdQ){n:Nat}(hf:∀x,(f x).length=n)
include hf
theorem d6(l:List α):(l.flatMap f).length=l.length*n:=by
 induction l with
 |nil=>simp
 |cons x l ih=>grind
theorem MG(d:α)(l:List α)(hj:j<l.length):cut (l.flatMap f) (j*n) n=some (f (nth d l j)):=by
 have hle:j*n+n<=(l.flatMap f).length:=by
  rw[d6 f hf,<-X5];exact Zz n hj
 simp only[cut,if_pos hle,Z9];clear hle
 induction l generalizing j with
 |nil=>cases hj
 | cons x l ih=>
  cases j with
  |zero=>grind[nth]
  | succ j=>
   grind[X5,List.drop_drop,List.drop_left,nth]
theorem ou(l:List α)(h:Hp)(h0:0<=i)(h1:i<l.length):ixV h n (qm f l) (.d (.int k i))=some (.dptr (l.flatMap f) (i.toNat*n)):=by grind[ixV,qm,d6]
theorem ot(d:α)(l:List α)(h:Hp)(hj:j<l.length):ldA h n (.dptr (l.flatMap f) (j*n))=some (.agg ((f (nth d l j)).map .d)):=by grind[ldA,MG]
end
@[simp]theorem aeY{α:Type}(f:α->LdQ)(l:List α):bj (qm f l)=some (I l.length):=id rfl
@[simp]theorem aeR{α:Type}(h:Hp)(f:α->LdQ)(l:List α):bJ h (qm f l)=some (qm f l,h):=by rfl
def tS(place:Nat->Option (Nat×Nat))(cs:LwQ)(ps:List (Nat×V)):Option LwQ:=pZ place cs ps
@[simp]theorem ae6(place:Nat->Option (Nat×Nat))(cs:LwQ):tS place cs []=some cs:=id rfl
def Mm(o:Option (Nat×Nat))(place:Nat->Option (Nat×Nat))(cs:LwQ)(v:V)(r:List (Nat×V)):Option LwQ:=match o with
 |none=>none
 | some (off,sz)=>match ze v with
  |none=>none
  |some vs=>if vs.length=sz∧off+vs.length<=cs.length then tS place (cs.take off++vs++cs.drop (off+vs.length)) r else none
@[simp]theorem aem(place:Nat->Option (Nat×Nat))(cs:LwQ)(i:Nat)(v:V)(r:List (Nat×V)):tS place cs ((i,v)::r)=Mm (place i) place cs v r:=id rfl
@[simp] theorem ag7 (place:Nat->Option (Nat×Nat))(cs:LwQ)(x:D)(r:List (Nat×V))(off sz:Nat):
  Mm (some (off,sz)) place cs (.d x) r=if 1=sz∧off+1<=cs.length then tS place (cs.take off++[.d x]++cs.drop (off+1)) r else none:=id rfl
@[simp] theorem ae9 (place:Nat->Option (Nat×Nat))(cs:LwQ)(vs:LwQ)(r:List (Nat×V))(off sz:Nat):
  Mm (some (off,sz)) place cs (.agg vs) r=if vs.length=sz∧off+vs.length<=cs.length then tS place (cs.take off++vs++cs.drop (off+vs.length)) r else none:=id rfl
@[simp] theorem ae7 (place:Nat->Option (Nat×Nat))(cs:LwQ)(a b c d e f:Nat)(r:List (Nat×V))(off sz:Nat):
  Mm (some (off,sz)) place cs (.ref a b c d e f) r=if 1=sz∧off+1<=cs.length then tS place (cs.take off++[.ref a b c d e f]++cs.drop (off+1)) r else none:=id rfl
def aeG(fs:List (Nat×Nat))(z:LdQ)(ps:List (Nat×V)):Option V:=bld fs z ps
def aeF(n:Nat)(z:LdQ)(ps:List (Nat×V)):Option V:=Sx n z ps
@[simp]theorem ah0(fs:List (Nat×Nat))(z:LdQ)(ps:List (Nat×V))(k:V->Prop)(u:PU k):rn (bnd (bld fs z ps)) k u=rn (bnd (aeG fs z ps)) k u:=id rfl
@[simp]theorem agQ(n:Nat)(z:LdQ)(ps:List (Nat×V))(k:V->Prop)(u:PU k):rn (bnd (Sx n z ps)) k u=rn (bnd (aeF n z ps)) k u:=id rfl
@[simp]theorem ahf(fs:List (Nat×Nat))(z:LdQ)(ps:List (Nat×V)):aeG fs z ps=(tS (fun i=>fs[i]?) (z.map .d) ps).map .agg:=id (by unfold aeG bld tS;cases pZ (fun i=>fs[i]?) (z.map .d) ps<;>rfl)
@[simp]theorem ahe(n:Nat)(z:LdQ)(ps:List (Nat×V)):aeF n z ps=(tS (fun i=>some (i*n,n)) (z.map .d) ps).map .agg:=id (by unfold aeF Sx tS;cases pZ (fun i=>some (i*n,n)) (z.map .d) ps<;>rfl)
@[simp]theorem ail(off n:Nat)(vs:LwQ):fiV off n true (.agg vs)=vs[off]?:=id rfl
@[simp]theorem ag8(cs:LdQ)(o off:Nat):faV off (.dptr cs o)=some (.dptr cs (o+off)):=id rfl
@[simp]theorem aim(s e o tot off:Nat):faV off (.ptr s e o tot)=some (.ptr s e (o+off) tot):=id rfl
def bnh{α:Type}(o:Option α)(k:α->Prop):Prop:=match o with
 |some x=>k x
 |none=>False
@[simp]theorem ahY{α:Type}(x:α)(k:α->Prop)(u:PU k):rn (bnh (some x)) k u=k x:=id rfl
@[simp] theorem ah1 (h:Hp)(n:Nat)(p v:V)(k:kkQ)(u:PU k):rh (stD h n p v) k u=rn (bnh (st h n p v)) (fun h'=>k .junk h') .mk:=by unfold rh rn stD bnh;cases st h n p v<;>rfl
theorem Dv(h:Hp)(s:Nat)(b:Bk)(k:Nat->Hp->Prop):new h s b k=bnh h[s]? fun x=>k (x.1+1) (h.set s (x.1+1,b)):=by grind[new,bnh]
@[simp]theorem ah3(s:Nat)(cs:LwQ)(h:Hp)(k:kkQ)(u:PU k):rh (alV s cs h) k u=rn (bnh h[s]?) (fun x=>k (.ptr s (x.1+1) 0 cs.length) (h.set s (x.1+1,.vars cs))) .mk:=by unfold rh rn alV;exact Dv ..
@[simp]theorem agT(s:Nat)(vs:LwQ)(h:Hp)(k:kkQ)(u:PU k):rh (cQ s (.agg vs) h) k u=rh (alV s vs h) k u:=id rfl
@[simp]theorem afA(s:Nat)(x:D)(h:Hp)(k:kkQ)(u:PU k):rh (cQ s (.d x) h) k u=rh (alV s [.d x] h) k u:=id rfl
def cO(len:Nat)(z:LdQ)(ps:List (Nat×V))(h:Hp):Option (LdQ×Hp):=match tS (fun i=>some (i*z.length,z.length)) ((jv len z).map .d) ps with
 |some vs=>if 0<z.length∧len*z.length<=16777216 then iH h vs else none
 |none=>none
@[simp] theorem agS (len:Nat)(z:LdQ)(ps:List (Nat×V))(h:Hp)(k:kkQ)(u:PU k):rh (cR len z ps h) k u=rn (bnh (cO len z ps h)) (fun x=>k (.d (.sl len x.1)) x.2) .mk:=by
 unfold rh rn cR cO bnh tS;cases pZ (fun i=>some (i*z.length,z.length)) ((jv len z).map .d) ps with
 |none=>rfl
 | some vs=>
  simp only;split
  .cases iH h vs<;>rfl
  .rfl
@[simp] theorem agR (s len:Nat)(z:LdQ)(ps:List (Nat×V))(h:Hp)(k:kkQ)(u:PU k):rh (rq s len z ps h) k u=rn (bnh (cO len z ps h)) (fun x=>rn (bnh x.2[s]?) (fun y=>k (.ref s (y.1+1) 0 len len x.1.length) (x.2.set s (y.1+1,.data z.length x.1 true false))) .mk) .mk:=by
 unfold rh rn rq cO bnh tS;cases pZ (fun i=>some (i*z.length,z.length)) ((jv len z).map .d) ps with
 |none=>rfl
 | some vs=>
  simp only;split
  .cases iH h vs with
   |none=>rfl
   |some x=>simp only[Dv];rfl
  .rfl
def fh(h:Hp)(s e:Nat):Bk:=aw h s e
@[simp]theorem aec(e0:Nat)(b:Bk)(h:Hp)(e:Nat):fh ((e0,b)::h) 0 e=if e0=e then b else .none:=id rfl
@[simp]theorem aed(x:Nat×Bk)(h:Hp)(s e:Nat):fh (x::h) (s+1) e=fh h s e:=id rfl
@[simp]theorem ae4(x:Nat×Bk)(h:Hp)(e:Nat):fh (x::h) 1 e=fh h 0 e:=id rfl
@[simp]theorem ae3(x:Nat×Bk)(h:Hp)(e:Nat):fh (x::h) 2 e=fh h 1 e:=id rfl
@[simp]theorem acz(x:Nat×Bk)(h:Hp)(e:Nat):fh (x::h) 3 e=fh h 2 e:=id rfl
@[simp]theorem aee(x:Nat×Bk)(h:Hp)(e:Nat):fh (x::h) 4 e=fh h 3 e:=id rfl
def VD(b:Bk)(off tot:Nat):Option V:=match b with
 |.vars cs=>if tot=cs.length then cs[off]? else none
 |.data _ cs _ _=>if tot=cs.length then cs[off]?.map .d else none
 |.none=>none
def RZ(b:Bk)(n off tot:Nat):Option V:=match b with
 |.vars cs=>if tot=cs.length then(cut cs off n).map .agg else none
 |.data _ cs _ _=>if tot=cs.length then(cut cs off n).map fun l=>.agg (l.map .d)else none
 |.none=>none
theorem mu(h:Hp)(s e off tot:Nat):ld1 h (.ptr s e off tot)=VD (fh h s e) off tot:=by
 unfold fh;simp only[ld1];cases aw h s e with
 |none=>rfl
 |vars cs=>rfl
 | data n cs a b=>
  simp only[VD];split
  .cases cs[off]?<;>rfl
  .rfl
theorem xn(h:Hp)(n s e off tot:Nat):ldA h n (.ptr s e off tot)=RZ (fh h s e) n off tot:=by
 unfold fh;simp only[ldA];cases aw h s e with
 |none=>rfl
 | vars cs=>
  simp only[RZ];split
  .cases cut cs off n<;>rfl
  .rfl
 | data m cs a b=>
  simp only[RZ];split
  .cases cut cs off n<;>rfl
  .rfl
@[simp]theorem ahV(h:Hp)(s e off tot:Nat)(k:V->Prop)(u:PU k):rn (bnd (ld1 h (.ptr s e off tot))) k u=rn (bnd (VD (fh h s e) off tot)) k u:=by rw[mu]
@[simp]theorem ahU(h:Hp)(n s e off tot:Nat)(k:V->Prop)(u:PU k):rn (bnd (ldA h n (.ptr s e off tot))) k u=rn (bnd (RZ (fh h s e) n off tot)) k u:=by rw[xn]
@[simp]theorem ae1(cs:LwQ)(off tot:Nat):VD (.vars cs) off tot=if tot=cs.length then cs[off]? else none:=id rfl
@[simp]theorem ae2(n:Nat)(cs:LdQ)(a b:Bool)(off tot:Nat):VD (.data n cs a b) off tot=if tot=cs.length then cs[off]?.map .d else none:=id rfl
@[simp]theorem aeZ(cs:LwQ)(n off tot:Nat):RZ (.vars cs) n off tot=if tot=cs.length then(cut cs off n).map .agg else none:=id rfl
@[simp]theorem ae0(m:Nat)(cs:LdQ)(a b:Bool)(n off tot:Nat):RZ (.data m cs a b) n off tot=if tot=cs.length then(cut cs off n).map (fun l=>.agg (l.map .d))else none:=id rfl
def stX(b:Bk)(h:Hp)(s e off tot:Nat)(vs:LwQ):Option Hp:=match b with
 |.vars cs=>if tot=cs.length∧off+vs.length<=cs.length∧vs.all okV=true then some (bS h s e (.vars (cs.take off++vs++cs.drop (off+vs.length))))else none
 |_=>sto h s e off tot vs
theorem aca(h:Hp)(s e off tot:Nat)(vs:LwQ):sto h s e off tot vs=stX (fh h s e) h s e off tot vs:=by
 unfold fh stX;cases hb:aw h s e with
 |vars cs=>simp[sto,hb]
 |none=>rfl
 |data n cs a b=>rfl
@[simp] theorem ahS (h:Hp)(n s e off tot:Nat)(vs:LwQ)(k:Hp->Prop)(u:PU k):rn (bnh (st h n (.ptr s e off tot) (.agg vs))) k u=rn (bnh (if vs.length=n then stX (fh h s e) h s e off tot vs else none)) k u:=by simp only[rn,st,aca]
def KI(b:Bk)(h:Hp)(s e off tot:Nat)(x:D):Option Hp:=match b with
 |.vars cs=>if tot=cs.length∧off+1<=cs.length then some (bS h s e (.vars (cs.take off++[.d x]++cs.drop (off+1))))else none
 |.data n cs ex fr=>if fr=false∧tot=cs.length∧off+1<=cs.length then some (bS h s e (.data n (cs.set off (norm x)) ex false))else none
 |.none=>none
theorem KH(h:Hp)(s e off tot:Nat)(x:D):st h 1 (.ptr s e off tot) (.d x)=KI (fh h s e) h s e off tot x:=by
 unfold fh;simp only[st,if_true];cases hb:aw h s e with
 |none=>simp[sto,hb,KI]
 |vars cs=>simp[sto,hb,KI,okV]
 | data n cs ex fr=>
  simp only[sto,hb,iH,toD,KI];by_cases hc:fr=false∧tot=cs.length∧off+1<=cs.length
  .rw[if_pos hc,if_pos aa];rw[Ya,if_pos aa];simp
  .rw[if_neg hc,if_neg aa]
@[simp]theorem ahT(h:Hp)(s e off tot:Nat)(x:D)(k:Hp->Prop)(u:PU k):rn (bnh (st h 1 (.ptr s e off tot) (.d x))) k u=rn (bnh (KI (fh h s e) h s e off tot x)) k u:=by rw[KH]
@[simp]theorem aeP(cs:LwQ)(h:Hp)(s e off tot:Nat)(x:D):KI (.vars cs) h s e off tot x=if tot=cs.length∧off+1<=cs.length then some (bS h s e (.vars (cs.take off++[.d x]++cs.drop (off+1))))else none:=id rfl
@[simp] theorem uv (n:Nat)(cs:LdQ)(ex:Bool)(h:Hp)(s e off tot:Nat)(x:D)(ht:tot=cs.length)(ho:off<cs.length):KI (.data n cs ex false) h s e off tot x=some (bS h s e (.data n (cs.set off (norm x)) ex false)):=by simp only[KI];simp[ht];omega
def ixX(b:Bk)(n s e off len tot:Nat)(i:Int):Option V:=match b with
 |.data _ cs _ _=>if tot=cs.length∧0<=i∧i<len then some (.ptr s e (off+i.toNat*n) tot)else none
 |.vars cs=>if tot=cs.length∧0<=i∧i<len then some (.ptr s e (off+i.toNat*n) tot)else none
 |_=>none
@[simp] theorem ahW (h:Hp)(n s e off len cap tot:Nat)(kd:IntKind)(i:Int)(k:V->Prop)(u:PU k):rn (bnd (ixV h n (.ref s e off len cap tot) (.d (.int kd i)))) k u=rn (bnd (ixX (fh h s e) n s e off len tot i)) k u:=by
 have:ixV h n (.ref s e off len cap tot) (.d (.int kd i))=ixX (fh h s e) n s e off len tot i:=by
  unfold fh;simp only[ixV,ixX];cases aw h s e<;>rfl
 rfl
@[simp] theorem af3 (m:Nat)(cs:LdQ)(a b:Bool)(n s e off len tot:Nat)(i:Int)(ht:tot=cs.length)(h0:0<=i)(h1:i<len):ixX (.data m cs a b) n s e off len tot i=some (.ptr s e (off+i.toNat*n) tot):=by simp only[ixX];rw[if_pos ⟨ht,h0,h1⟩]
@[simp] theorem af2 (cs:LwQ)(n s e off len tot:Nat)(i:Int)(ht:tot=cs.length)(h0:0<=i)(h1:i<len):ixX (.vars cs) n s e off len tot i=some (.ptr s e (off+i.toNat*n) tot):=by simp only[ixX];rw[if_pos ⟨ht,h0,h1⟩]
@[simp] theorem ahR (h:Hp)(n s e off tot a b c d f g:Nat)(k:Hp->Prop)(u:PU k):rn (bnh (st h n (.ptr s e off tot) (.ref a b c d f g))) k u=rn (bnh (if n=1 then stX (fh h s e) h s e off tot [.ref a b c d f g]else none)) k u:=by simp only[rn,st,aca]
@[simp]theorem S9(cs:LwQ)(h:Hp)(s e off tot:Nat)(vs:LwQ):stX (.vars cs) h s e off tot vs=if tot=cs.length∧off+vs.length<=cs.length∧vs.all okV=true then some (bS h s e (.vars (cs.take off++vs++cs.drop (off+vs.length))))else none:=id rfl
@[simp]theorem ag4(h:Hp)(s e:Nat)(b:Bk):bS h s e b=h.set s (e,b):=rfl
@[simp]theorem aiG(x:D):okV (.d x)=true:=rfl
@[simp]theorem aay(a b c d e f:Nat):okV (.ref a b c d e f)=true:=rfl
@[simp]theorem aip{α:Type}(l:List α)(off n:Nat):cut l off n=if off+n<=l.length then some ((l.drop off).take n)else none:=id rfl
@[simp]theorem aX(i:Nat)(h0 h:Hp)(hl:h.length=h0.length):au [] i h0 h=h:=Hs i h0 h hl
@[simp]theorem aha(q:LwQ->Hp->Prop)(r:List (Exit×(LwQ->Hp->Prop)))(l:LwQ)(h:Hp):exK ((.normal,q)::r) .normal l h=q l h:=rfl
@[simp]theorem acH(q:LwQ->Hp->Prop)(r:List (Exit×(LwQ->Hp->Prop)))(l:LwQ)(h:Hp):exK ((.normal,q)::r) .ret l h=exK r .ret l h:=rfl
@[simp]theorem acG(q:LwQ->Hp->Prop)(r:List (Exit×(LwQ->Hp->Prop)))(l:LwQ)(h:Hp):exK ((.ret,q)::r) .normal l h=exK r .normal l h:=rfl
@[congr]theorem ae5{l:List Gh}{h:Hp}{k:Hp->Prop}(e:h=h'):ghG l h k=ghG l h' k:=by rw[e]
theorem acC{g:Gh}{l:List Gh}{h:Hp}{k:Hp->Prop}(hg:ghS g h=some h')(hk:ghG l h' k):ghG (g::l) h k:=by unfold ghG;rw[hg];exact hk
@[congr]theorem afs{h:Hp}{x:V}{k:Prop}(e:h=h'):sp h x ys k=sp h' x ys k:=by rw[e]
@[congr]theorem afv{h:Hp}{x y:V}{k:Prop}(e:h=h'):sm h x y k=sm h' x y k:=by rw[e]
theorem Hd{h:Hp}{x:V}{k:Prop}:∀{ys:LwQ},ys.all (apt h x)=true->k->sp h x ys k
 |[],_,hk=>hk
 | y::ys,hb,hk=>by
  simp only[List.all_cons,Z8]at hb;unfold sp;rw[hb.1];exact Hd hb.2 hk
theorem KN{h:Hp}{x y:V}{k:Prop}(hb:smB h x y=true)(hk:k):sm h x y k:=by grind[sm]
structure Acc where
 s:Nat
 e:Nat
 n:Nat
 b0:Bk
def Acc.v(a:Acc)(L:Nat)(cells:LdQ):V:=match L with
 |0=>.d nPQ
 |_=>.ref a.s (a.e+1) 0 L L cells.length
def Acc.b(a:Acc)(L:Nat)(cells:LdQ):Nat×Bk:=match L with
 |0=>(a.e,a.b0)
 |_=>(a.e+1,.data a.n cells false false)
theorem hO(a:Acc){L by_ k:Nat}{cells cs:LdQ}{h:Hp}{y:V}{q:kkQ}{u:PU q}(hk:0<k)(hs:h[a.s]?=some (a.b L cells))(hc:cells.length=L*a.n)(hcs:cs.length=k*a.n)
  (hy:cellsOf h y=some (k,cs)) (hyn:∀t,y≠.d (.str t)) (hb:(L+k)*by_<=140737488355328) (hn:0<a.n) (hq:q (a.v (L+k) (cells++cs)) (h.set a.s (a.b (L+k) (cells++cs)))):rh (apV false a.s a.n by_ (a.v L cells) y h) q u:=by
 have e1:apV false a.s a.n by_ (a.v L cells) y h q=apC false a.s a.n by_ (a.v L cells) k cs h q:=by
  unfold apV;split
  .trivial
  .grind
 show apV false a.s a.n by_ (a.v L cells) y h q
 rw[e1];have hlt:=(List.getElem?_eq_some_iff.1 hs).1;obtain⟨m,hm⟩:∃m,L+k=m+1:=⟨L+k-1,aa⟩;cases L with
 | zero=>
  have:cells=[]:=Zf aa;subst this;simp only[Zp,List.nil_append]at *;simp only[Acc.v];unfold apC;rw[if_neg aa];simp only[];rw[if_pos aa]
  simp_all[new,Acc.b,Acc.v]
 | succ L=>
  simp only[Acc.v];unfold apC;rw[if_neg aa];have hg:aw h a.s (a.e+1)=.data a.n cells false false:=by simp only[aw,hs,Acc.b,if_true]
  simp only[hg,true_and,Zp];rw[if_pos ⟨Z7 _,aa,hcs⟩,if_neg aa,if_pos hb];simp only[Ze,if_false,V7];have hpos:0<cs.length:=by rw[hcs];exact Yx hk hn
  rw[if_pos ⟨aa,aa⟩];rw[hm]at hq ⊢;simp only[Acc.v,Acc.b,Zm,bS,hc]at hq ⊢;simp only[Zj];rw[Z6 aa];exact hq
theorem uR(a:Acc){h:Hp}(hs:h[a.s]?=some (a.b L cells))(hc:cells.length=L*a.n):
  ∃h',bJ h (a.v L cells)=some (.d (.sl L cells),h')∧((L=0∧h'=h)∨(0<L∧h'=h.set a.s (a.e+1,.data a.n cells false true))):=by
 cases L with
 | zero=>
  simp_all[Acc.v]
 | succ L=>
  have hg:aw h a.s (a.e+1)=.data a.n cells false false:=by simp only[aw,hs,Acc.b,if_true]
  refine⟨_,?_,.inr ⟨Nat.succ_pos _,rfl⟩⟩;simp only[Acc.v,bJ,toD,hg,true_and,Zp];rw[if_pos ⟨Z7 _,aa⟩];simp only[Zj,bS];rw[Z6 aa]
theorem abY(a:Acc){h:Hp}(hs:h[a.s]?=some (a.b L cells))(hc:cells.length=L*a.n):out (.d (.sl L cells)) (a.v L cells) h:=by obtain⟨h',h1,_⟩:=uR a hs hc;exact⟨h',h1⟩
theorem nN{b b':Bool}{h:Hp}(e:b'=b):out (B b) (.d (.bool b')) h:=by simp_all
theorem cx{b:Int}{h:Hp}(e:b=a):out (.d (.int k a)) (.d (.int k b)) h:=by simp_all
theorem cd{h:Hp}{f:FuncId}{v:V}{k:kkQ}{u:PU k}(hc:C f args v)(hk:k v h)(hs:aS h args=some (args,h):=by simp[aS,bJ]):rh (cal C h (.fn f [] []) args) k u:=agp hc hs hk
theorem cdx{h:Hp}{f:FuncId}{v:V}{k:kkQ}{u:PU k}(hs:aS h args=some (ds,h))(hc:C f ds v)(hk:k v h):rh (cal C h (.fn f [] []) args) k u:=
 OQ hs hc (by grind)
theorem lo{st:aL}{l:LwQ}{h:Hp}{k:KL}{u:PU k}(hl:lp st clr h0 l h k):rl (lp st clr h0 l h) k u:=hl
def aaI(n:Nat):D:=.sl (len n) ((dig W n).map u32)
@[simp]theorem aeV(n:Nat):norm (aaI n)=aaI n:=rfl
@[simp]theorem afu(h:Hp)(n:Nat):bJ h (nat n)=some (nat n,h):=Ek ..
@[simp]theorem aeX(n:Nat):bj (.d (aaI n))=some (I (len n)):=rfl
def af4(z:Int):LwQ:=[.d (.bool (decide (z<0))),.d (aaI z.natAbs)]
def aeb(z:Int):V:=.agg (af4 z)
@[simp]theorem aeS(h:Hp)(z:Int):bJ h (aeb z)=some (aeb z,h):=by simp[aeb,af4,bJ,aS]
def fits(z:Int):Prop:=len z.natAbs<2^40
def di(n:Int):D:=.int .i64 n
def row(l:LiQ):D:=.sl l.length (l.map di)
abbrev mat(m:LLQ):V:=lst row m
@[simp]theorem aiR(n:Int):V.d (di n)=I n:=id rfl
@[simp]theorem agX(n:Int):norm (di n)=di n:=rfl
@[simp]theorem afM(l:LiQ):norm (row l)=row l:=rfl
@[simp]theorem aif(l:LiQ)(h:Hp)(h0:0<=i)(h1:i<l.length):ixV h 1 (.d (row l)) (.d (.int k i))=some (.dptr (l.map di) i.toNat):=kv di l h h0 h1
@[simp]theorem ad6(l:LiQ)(h:Hp)(hl:j<l.length):ld1 h (.dptr (l.map di) j)=some (.d (di (nth 0 l j))):=aC di 0 l h hl
@[simp]theorem ag3(m:LLQ)(h:Hp)(hl:j<m.length):ld1 h (.dptr (m.map row) j)=some (.d (row (nth [] m j))):=aC row [] m h hl
@[simp]theorem afT(l:LiQ):bj (.d (row l))=some (I l.length):=rfl
def idx{α:Type}(p:α->Bool)(l:List α):Int:=match l.findIdx? p with
 |some i=>i
 |none=>-1
theorem cdf{h:Hp}{f:FuncId}{fs cs:LwQ}{v:V}{k:kkQ}{u:PU k}(hc:C f (fs++args++cs) v)(hs:aS h (fs++args++cs)=some (fs++args++cs,h))(hk:k v h):rh (cal C h (.fn f fs cs) args) k u:=by simp only[rh,cal,hs];exact⟨v,hc,by simpa using hk⟩
variable{α:Type}{f:α->D}{g:FuncId}{fs cs:LwQ}{p:α->Bool}
theorem Ma(hs:∀x,aS [] (fs++[.d (f x)]++cs)=some (fs++[.d (f x)]++cs,[]))(k:KL):∀(q a:List α),(a++q).length<4611686018427387904->(∀x∈q,CP Y g (fs++[.d (f x)]++cs) (B (p x))) ->
  (idx p q = -1->k (.exit 0) [] [])->(∀i:Nat,idx p q=i->k .ret [I (a.length+i:Nat)] []) ->
  lp (dV (CX Y) (lst f (a++q)) (.fn g fs cs) (I (a++q).length)) [] [] [I a.length] [] k
 | [],a,hN,_,h0,_=>by
  refine aj ?_;simp[dV];exact h0 rfl
 | x::q,a,hN,hp,h0,h1=>by
  simp at hN;refine aj ?_;simp(disch:=try exact ag)[dV];refine cdf (hp x af) (hs x) ?_;simp;refine XZ (fun h=>?_) (fun h=>?_)<;>try simp(disch:=try exact ag)[h]
  .have e:idx p (x::q)=(0:Nat):=by simp[idx,List.findIdx?_cons,h]
   simpa using h1 0 e
  .have hl:=hs;have:=Ma hs k q (a++[x]) bK (fun y hy=>hp y (by simp[hy])) (fun e=>h0 ?_) (fun i e=>?_)
   .simpa[Wx]using this
   .simp only[idx,List.findIdx?_cons,h,Ze,if_false]at e ⊢;cases hq:List.findIdx? p q<;>simp[hq]at e ⊢
   .have:=h1 (i+1) ?_
    .simpa[Xd,V3 1 i]using this
    .simp only[idx,List.findIdx?_cons,h,Ze,if_false]at e ⊢;cases hq:List.findIdx? p q<;>simp[hq]at e ⊢
     exact e
theorem aa0(l:List α)(hN:l.length<4611686018427387904)(hs:∀x,aS [] (fs++[.d (f x)]++cs)=some (fs++[.d (f x)]++cs,[]))(hp:∀x∈l,CP Y g (fs++[.d (f x)]++cs) (B (p x))):
  bD (CX Y) (lst f l) (.fn g fs cs) (out (I (idx p l))):=by
 simp[bD];refine lo (Ma hs _ l [] (by simpa using hN) hp (fun e=>?_) (fun i e=>?_))
 .simp[e]
 .simp[e]
theorem Ju{α:Type}(p:α->Bool)(l:List α):0<=idx p l↔l.any p=true:=by
 unfold idx;cases h:l.findIdx? p with
 |none=>simp[List.findIdx?_eq_none_iff]at h ⊢;exact h
 | some i=>
  simp[List.findIdx?_eq_some_iff_getElem]at h ⊢;obtain⟨hi,h1,_⟩:=h;exact⟨l[i],Wj hi,h1⟩
@[simp]theorem agI(h:Hp)(g:FuncId):bJ h (.fn g [] [])=some (.fn g [] [],h):=by simp[bJ,aS]
theorem L8{g:FuncId}{p:Int->Bool}(l:LiQ)(hN:l.length<4611686018427387904)(hp:∀x∈l,CP Y g [I x] (B (p x))):CP Y F.bD [lst di l,.fn g [] []] (I (idx p l)):=
 qh (aa0 l hN (fun x=>by simp[aS]) hp)
theorem xw{g:FuncId}{p:Int->Bool}(l:LiQ)(hN:l.length<4611686018427387904)(hp:∀x∈l,CP Y g [I x] (B (p x))):CP Y F.aZ [lst di l,.fn g [] []] (B (l.any p)):=by
 refine qI ?_;simp[aZ];refine cd (L8 l hN hp) ?_;simp;have:=Ju p l;have e:decide (0<=idx p l)=l.any p:=by rw[Xz];simpa using this
 rw[e];exact UF ..
def tO(n:Int):Bool:=decide (-1000000000<=n∧n<=1000000000)
theorem BD{n:Int}:tO n=true↔-1000000000<=n∧n<=1000000000:=by simp[tO]
theorem aQ{α:Type}{d:α}{l:List α}{i:Nat}(h:i<l.length):nth d l i∈l:=by grind[aN]
def Z:Nat:=1000000000
theorem ax:2<=Z:=ae
theorem bB:0<Z:=ae
def i9(n:Nat):D:=.int .i64 n
def aic(n:Nat):Nat:=(dig Z n).length
def bg:Nat->Nat->LnQ
 |0,_=>[]
 |w+1,n=>n%Z::bg w (n/Z)
theorem cT:∀w n,(bg w n).length=w
 |0,_=>rfl
 |w+1,n=>by simp[bg,cT w]
theorem vA:∀w n,aH Z (bg w n)
 |0,_=>fun x hx=>by simp[bg]at hx
 | w+1,n=>fun x hx=>by
  simp only[bg,Zo]at hx;rcases hx with rfl|hx
  .exact Y7 _ bB
  .exact vA w _ x hx
theorem xr:∀w n,n<Z^w->val Z (bg w n)=n
 |0,n,h=>by simp at h;subst h;rfl
 | w+1,n,h=>by
  have hZ:Z=1000000000:=rfl;simp only[bg,val];rw[xr w (n/Z) (Wl (by rw[Nat.pow_succ,Zt]at h;exact h))];have:=Xk n Z;omega
theorem DK:∀l:LnQ,aH Z l->l=bg l.length (val Z l)
 |[],_=>rfl
 | x::l,h=>by
  have hx:x<Z:=h x af;have hl:=DK l (fun y hy=>h y (by simp[hy]));have hZ:Z=1000000000:=rfl;simp only[List.length_cons,bg,val];have e1:(x+Z*val Z l)%Z=x:=by rw[Xu];exact Yk hx
  have e2:(x+Z*val Z l)/Z=val Z l:=by rw[Yr _ _ bB,Wr hx,Zp]
  rw[e1,e2,<-hl]
abbrev S(s:LuQ):V:=.d (.str s)
@[simp]theorem Jq(s:LuQ):nS (S s)=some (I s.length):=id rfl
@[simp] theorem ahI (s:LuQ){j:Int}(h0:0<=j)(h1:j<=s.length):slS (S s) none (some (I j))=some (S (s.take j.toNat)):=by simp only[slS,boV];rw[if_pos ⟨h0,aa⟩];simp
@[simp] theorem ahH (s:LuQ)(h0:0<=i)(h1:i<=s.length):slS (S s) (some (I i)) none=some (S (s.drop i.toNat)):=by simp only[slS,boV];rw[if_pos ⟨h0,aa⟩];simp only;rw[Z6 af]
@[simp]theorem ahi(a b:LuQ):biS .eql (S a) (S b)=some (.d (.bool (a == b))):=id rfl
@[simp]theorem ahh(a b:LuQ):biS .neq (S a) (S b)=some (.d (.bool (!(a == b)))):=id rfl
@[simp]theorem abJ(a b:LuQ)(h:a.length+b.length<=9223372036854775807):biS .add (S a) (S b)=some (S (a++b)):=by simp[biS,NB,h]
theorem VL(s:LuQ){x:UInt8}(h0:0<=i)(h:s[i.toNat]?=some x):ixS (S s) (.d (.int k i))=some (.d (.int .u8 x.toNat)):=by simp only[ixS];rw[if_pos h0,h]
theorem fD{a b:LuQ}{h:Hp}(e:b=a):out (S a) (S b) h:=by subst e;exact UE rfl
theorem YB(b:Bool):CP Y F.gm [B b] (I (if b=true then 1 else 0)):=by refine vZ ?_;cases b<;>simp[gm]
theorem Ve{x:Nat}(h:x<=64):CP Y F.gh [I x] (I ((x*78913/262144:Nat):Int)):=by refine vY ?_;simp(disch:=try exact ag)[gh]
def aY(n:Nat):Nat:=if n=0 then 0 else n.log2+1
theorem yX{n k:Nat}(h:2^k<=n):aY n=aY (n/2^k)+k:=by
 have hp:0<2^k:=Yj ae;have h0:n≠0:=aa;have h1:n/2^k≠0:=by have:=V4 h hp;omega
 simp only[aY,h0,h1,if_false]
 have e:n.log2=(n/2^k).log2+k:=by
  rw[Nat.log2_eq_iff h0];have h2:=(Nat.log2_eq_iff h1).1 rfl;constructor
  .rw[Y6];exact Zu (Zz _ h2.1) (Ws n _)
  .have:n/2^k+1<=2^((n/2^k).log2+1):=h2.2
   have h3:n<(n/2^k+1)*2^k:=by
    have:=Nat.lt_mul_div_succ n hp;rw[Zt];exact this
   have h4:=Zz (2^k) this;rw[<-Y6]at h4;rw[show(n/2^k).log2+k+1=(n/2^k).log2+1+k by omega];omega
 omega
def acx:LuQ:=[0,1,2,2,3,3,3,3,4,4,4,4,4,4,4,4,5,5,5,5,5,5,5,5,5,5,5,5,5,5,5,5,6,6,6,6,6,6,6,6,6,6,6,6,6,6,6,6,6,6,6,6,6,6,6,6,6,6,6,6,6,6,6,6]++(List.replicate 64 7++List.replicate 128 8)
theorem len8:∀x:Fin 256,acx[x.val]?=some (UInt8.ofNat (aY x.val)):=bb
theorem RY{x:Nat}{a:Nat}{n:Nat}(hx:x<256)(hn:aY n=aY x+a)(ha:a<=56){h:Hp}:
  (bnd (cvI .u8 (.d (.int .u64 x))) fun v10=>bnd (ixS (S acx) v10) fun v11=>
   bnd (cvI .i64 v11) fun v12=>bnd (biI .add (I a) v12) fun v13=>out (I (aY n)) v13 h):=by
 have hb:aY x<=8:=by
  unfold aY;split
  .omega
  .rename_i h0;have:=(Nat.log2_lt h0 (k:=8)).2 aa;omega
 have h8:=len8 ⟨x,hx⟩;simp(disch:=try exact ag);rw[VL _ aa (x:=UInt8.ofNat (aY x)) (by simpa using h8)];have e:(UInt8.ofNat (aY x)).toNat=aY x:=by simp;omega
 simp(disch:=try exact ag)[e];exact cx aa
set_option maxRecDepth 20000 in
theorem An{n:Nat}(h:n<18446744073709551616):CP Y F.eY [.d (.int .u64 n)] (I (aY n)):=by
 refine Ah ?_
 obtain ⟨x1,a1,hx1,he1,ha1,h1⟩:∃x1 a1:Nat,x1<4294967296∧aY n=aY x1+a1∧a1<=32∧((4294967296<=n∧x1=n/4294967296∧a1=32)∨(n<4294967296∧x1=n∧a1=0)):=by
  by_cases hh:4294967296<=n
  .exact⟨n/4294967296,32,aa,yX (k:=32) hh,aa,.inl ⟨hh,rfl,rfl⟩⟩
  .exact⟨n,0,aa,rfl,aa,.inr ⟨aa,rfl,rfl⟩⟩
 obtain ⟨x2,a2,hx2,he2,ha2,h2⟩:∃x2 a2:Nat,x2<65536∧aY n=aY x2+a2∧a2<=48∧((65536<=x1∧x2=x1/65536∧a2=a1+16)∨(x1<65536∧x2=x1∧a2=a1)):=by
  by_cases hh:65536<=x1
  .exact⟨x1/65536,a1+16,aa,by(have:=yX (n:=x1) (k:=16) hh;simp only[Nat.reducePow]at this;omega),aa,.inl ⟨hh,rfl,rfl⟩⟩
  .exact⟨x1,a1,aa,he1,aa,.inr ⟨aa,rfl,rfl⟩⟩
 obtain ⟨x3,a3,hx3,he3,ha3,h3⟩:∃x3 a3:Nat,x3<256∧aY n=aY x3+a3∧a3<=56∧((256<=x2∧x3=x2/256∧a3=a2+8)∨(x2<256∧x3=x2∧a3=a2)):=by
  by_cases hh:256<=x2
  .exact⟨x2/256,a2+8,aa,by(have:=yX (n:=x2) (k:=8) hh;simp only[Nat.reducePow]at this;omega),aa,.inl ⟨hh,rfl,rfl⟩⟩
  .exact⟨x2,a2,aa,he2,aa,.inr ⟨aa,rfl,rfl⟩⟩
 simp[eY];have key:=RY (h:=[]) hx3 he3 ha3;refine jD (l:=[.d (.int .u64 x1),I a1]) (h:=[]) (fun q=>?_) ?_
 .rcases h1 with⟨g,rfl,rfl⟩|⟨g,rfl,rfl⟩<;>simp(disch:=try exact ag)[g]
 simp;refine jD (l:=[.d (.int .u64 x2),I a2]) (h:=[]) (fun q=>?_) ?_
 .rcases h2 with⟨g,rfl,rfl⟩|⟨g,rfl,rfl⟩<;>simp(disch:=try exact ag)[g]
 simp;refine jD (l:=[.d (.int .u64 x3),I a3]) (h:=[]) (fun q=>?_) ?_
 .rcases h3 with⟨g,rfl,rfl⟩|⟨g,rfl,rfl⟩<;>simp(disch:=try exact ag)[g]
 exact key
theorem aap:Ll=(List.range 20).map fun i=>D.int .u64 ((10^i:Nat):Int):=by simp only[Ll,List.range,List.range.loop,List.map];rfl
theorem adN{i:Nat}(h:i<20):Ll[i]?=some (.int .u64 ((10^i:Nat):Int)):=by rw[aap,List.getElem?_map,List.getElem?_range h];rfl
theorem aef:gl od=.dptr Ll 0:=by unfold gl;rfl
theorem adX:∀b:Fin 65,1<=b.val->(10^(b.val*78913/262144)<=2^b.val∧2^b.val<=10^(b.val*78913/262144+1)∧(b.val*78913/262144=0∨10^(b.val*78913/262144-1)<2^(b.val-1))∧b.val*78913/262144<20):=bb
theorem pD{n:Nat}(h:0<n):2^(aY n-1)<=n∧n<2^aY n∧1<=aY n:=by have h0:n≠0:=aa;have:=(Nat.log2_eq_iff h0).1 rfl;simp only[aY,h0,if_false];exact⟨this.1,this.2,aa⟩
theorem Ab{n:Nat}(h1:10^(d-1)<=n)(h2:n<10^d)(hd:1<=d)(h:n<18446744073709551616):CP Y F.dy [.d (.int .u64 n)] (I d):=by
 have h0:0<n:=Z1 (Yj ae) h1;obtain⟨b1,b2,b3⟩:=pD h0
 have hb:aY n<=64:=by
  unfold aY;split
  .omega
  .rename_i hz;have:=(Nat.log2_lt hz (k:=64)).2 (by simpa using h);omega
 obtain⟨t1,t2,t3,t4⟩:=adX ⟨aY n,aa⟩ b3;simp only at t1 t2 t3 t4;refine vX ?_;simp[dy];refine cd (An h) ?_;simp;refine cd (Ve hb) ?_;generalize hk:aY n*78913/262144=k at *;have hg:gl od=.dptr Ll 0:=aef;simp(disch:=try exact ag)[hg];rw[af0 _ _ _ (adN t4)]
 have hpk:10^(k+1)=10*10^k:=by rw[Nat.pow_succ,Zt]
 have hpd:10^d=10*10^(d-1):=by
  obtain⟨e,rfl⟩:∃e,d=e+1:=⟨d-1,aa⟩;rw[Nat.pow_succ,Zt];rfl
 have a1:10^k<=n->d=k+1:=fun hc=>by
  have a1:k<d:=(Yw (a:=10) ae).1 aa;have a2:d-1<k+1:=(Yw (a:=10) ae).1 aa;omega
 have a2:¬10^k<=n->d=k:=fun hc=>by
  have hk1:1<=k:=by
   rcases Zd k with e|e
   .subst e;simp at hc;omega
   .exact e
  have a1:d-1<k:=(Yw (a:=10) ae).1 aa
  have a2:k-1<d:=by
   rcases t3 with e|e
   .omega
   .exact(Yw (a:=10) ae).1 aa
  omega
 generalize 10^k=P at *;simp;refine cd (YB (decide (P<=n))) ?_;by_cases hc:P<=n
 .have:=a1 hc;simp(disch:=try exact ag)[hc];exact cx aa
 .have:=a2 hc;simp(disch:=try exact ag)[hc];exact cx aa
def dg(n:Nat):UInt8:=UInt8.ofNat (48+n)
def dS:Nat->Nat->LuQ
 |_,0=>[]
 |n,w+1=>dS (n/10) w++[dg (n%10)]
theorem bh:∀(w n:Nat),(dS n w).length=w
 |0,_=>rfl
 |w+1,n=>by simp[dS,bh w]
def u8(b:UInt8):D:=.int .u8 b.toNat
def rJ:LuQ:=[48,48,48,49,48,50,48,51,48,52,48,53,48,54,48,55,48,56,48,57,49,48,49,49,49,50,49,51,49,52,49,53,49,54,49,55,49,56,49,57,50,48,50,49,50,50,50,51,50,52,50,53,50,54,50,55,50,56,50,57,51,48,51,49,51,50,51,51,51,52,51,53,51,54,51,55,51,56,51,57,52,48,52,49,52,50,52,51,52,52,52,53,52,54,52,55,52,56,52,57,53,48,53,49,53,50,53,51,53,52,53,53,53,54,53,55,53,56,53,57,54,48,54,49,54,50,54,51,54,52,54,53,54,54,54,55,54,56,54,57,55,48,55,49,55,50,55,51,55,52,55,53,55,54,55,55,55,56,55,57,56,48,56,49,56,50,56,51,56,52,56,53,56,54,56,55,56,56,56,57,57,48,57,49,57,50,57,51,57,52,57,53,57,54,57,55,57,56,57,57]
theorem IE:([48,48,48,49,48,50,48,51,48,52,48,53,48,54,48,55,48,56,48,57,49,48,49,49,49,50,49,51,49,52,49,53,49,54,49,55,49,56,49,57,50,48,50,49,50,50,50,51,50,52,50,53,50,54,50,55,50,56,50,57,51,48,51,49,51,50,51,51,51,52,51,53,51,54,51,55,51,56,51,57,52,48,52,49,52,50,52,51,52,52,52,53,52,54,52,55,52,56,52,57,53,48,53,49,53,50,53,51,53,52,53,53,53,54,53,55,53,56,53,57,54,48,54,49,54,50,54,51,54,52,54,53,54,54,54,55,54,56,54,57,55,48,55,49,55,50,55,51,55,52,55,53,55,54,55,55,55,56,55,57,56,48,56,49,56,50,56,51,56,52,56,53,56,54,56,55,56,56,56,57,57,48,57,49,57,50,57,51,57,52,57,53,57,54,57,55,57,56,57,57]:LuQ)=rJ:=rfl
theorem Rb:∀x:Fin 200,rJ[x.val]?=some (dg (if x.val%2=0 then x.val/2/10 else x.val/2%10)):=bb
def smV(i:Int):D:=u8 (dg (if i%2=0 then i.toNat/2/10 else i.toNat/2%10))
@[simp] theorem aeT (k:IntKind)(i:Int)(K:V->Prop)(u:PU K)(h0:0<=i)(h1:i<200):rn (bnd (ixS (.d (.str rJ)) (.d (.int k i)))) K u=K (.d (smV i)):=by
 have h:=VL rJ (k:=k) h0 (Rb ⟨i.toNat,aa⟩);unfold rn;rw[show V.d (.str rJ)=S rJ from rfl,h]
 have e:(if i.toNat%2=0 then i.toNat/2/10 else i.toNat/2%10)=(if i%2=0 then i.toNat/2/10 else i.toNat/2%10):=by
  by_cases hc:i%2=0
  .rw[if_pos hc,if_pos aa]
  .rw[if_neg hc,if_neg aa]
 simp_all[smV,u8]
theorem adA{x:Nat}:smV (2*(x:Int))=u8 (dg (x/10)):=by grind[smV]
theorem adz{x:Nat}:smV (2*(x:Int)+1)=u8 (dg (x%10)):=by grind[smV]
theorem FI(n w:Nat):dS n (w+2)=dS (n/100) w++[dg (n%100/10),dg (n%100%10)]:=by
 simp only[dS,List.append_assoc,List.singleton_append];rw[Xg];have e1:n/10%10=n%100/10:=aa;have e2:n%10=n%100%10:=aa
 grind
theorem afX{α:Type}:∀(l:List α),l.length=8->∃c0 c1 c2 c3 c4 c5 c6 c7,l=[c0,c1,c2,c3,c4,c5,c6,c7]
 |[c0,c1,c2,c3,c4,c5,c6,c7],_=>⟨c0,c1,c2,c3,c4,c5,c6,c7,rfl⟩
 |[],h|[_],h|[_,_],h|[_,_,_],h|[_,_,_,_],h|[_,_,_,_,_],h|[_,_,_,_,_,_],h|[_,_,_,_,_,_,_],h=>by simp at h
 |_::_::_::_::_::_::_::_::_::_,h=>by simp at h
@[simp]theorem afU(s e off len cap tot:Nat):bj (.ref s e off len cap tot)=some (I len):=rfl
theorem ahK(B:LdQ)(c0 c1 c2 c3 c4 c5 c6 c7 x0 x1 x2 x3 x4 x5 x6 x7:D){i1 i2 i3 i4 i5 i6 i7:Nat}
  (h1:i1=1) (h2:i2=2) (h3:i3=3) (h4:i4=4) (h5:i5=5) (h6:i6=6) (h7:i7=7) :
  ((((((((c0::c1::c2::c3::c4::c5::c6::c7::B).set i7 x7).set i6 x6).set i5 x5).set i4 x4).set i3 x3).set i2 x2).set i1 x1).set 0 x0=x0::x1::x2::x3::x4::x5::x6::x7::B:=by simp_all
theorem ahL(B:LdQ)(c0 c1 c2 c3 x0 x1 x2 x3:D){i2 i3:Nat}(h1:i1=1)(h2:i2=2)(h3:i3=3):
  ((((c0::c1::c2::c3::B).set i3 x3).set i2 x2).set i1 x1).set 0 x0=x0::x1::x2::x3::B:=by grind
theorem set2(B:LdQ)(c0 c1 x0 x1:D)(h1:i1=1):((c0::c1::B).set i1 x1).set 0 x0=x0::x1::B:=by grind
@[simp]theorem afL(i:Int):norm (smV i)=smV i:=rfl
theorem uX{x:Nat}(h:i=2*(x:Int)+1):smV i=u8 (dg (x%10)):=by rw[h,adz]
theorem uY{x:Nat}(h:i=2*(x:Int)):smV i=u8 (dg (x/10)):=by rw[h,adA]
theorem agi(n w:Nat):dS n (w+8)=dS (n/100000000) w++[dg (n/1000000%100/10),dg (n/1000000%100%10),dg (n/10000%100/10),dg (n/10000%100%10),dg (n/100%100/10),dg (n/100%100%10),dg (n%100/10),dg (n%100%10)]:=by simp[FI,Xg]
theorem aa7(h0:Hp)(hh:h0.length=2)(k:KL)(off len cap tot:Nat)(pre post:LdQ)(hpre:pre.length=off):∀(r nd n:Nat)(mid done:LdQ),nd<=r->mid.length=nd->nd+done.length=len->len<=24->tot=off+len+post.length ->
  n<10^nd->n<18446744073709551616 ->
  (∀(n' nd':Nat)(mid' done':LdQ),nd'<8->mid'.length=nd'->nd'+done'.length=len->n'<10^nd'->(dS n' nd').map u8++done'=(dS n nd).map u8++done->k (.exit 0) [.d (.int .u64 n'),I nd'] [(1,.data 1 (pre++(mid'++(done'++post))) true false),nnQ]) ->
  lp (eu (CX Y) 2 (.ref 0 1 off len cap tot)) [] h0 [.d (.int .u64 n),I nd] [(1,.data 1 (pre++(mid++(done++post))) true false),nnQ] k:=by
 intro r
 induction r with
 | zero=> 
  intro nd n mid done hr hm hd hl ht hn h64 hk;refine aj ?_;simp(disch:=try exact ag)[eu];exact hk n nd mid done aa hm hd hn rfl
 | succ r ih=>
  intro nd n mid done hr hm hd hl ht hn h64 hk;refine aj ?_;by_cases h8:8<=nd
  ·obtain ⟨m',c0,c1,c2,c3,c4,c5,c6,c7,rfl⟩:∃(m':LdQ)(c0 c1 c2 c3 c4 c5 c6 c7:D),mid=m'++[c0,c1,c2,c3,c4,c5,c6,c7]:=by
    obtain⟨c0,c1,c2,c3,c4,c5,c6,c7,e⟩:=afX (mid.drop (nd-8)) (by grind);exact⟨mid.take (nd-8),c0,c1,c2,c3,c4,c5,c6,c7,by rw[<-e,Yi]⟩
   have e0:pre++(m'++[c0,c1,c2,c3,c4,c5,c6,c7]++(done++post))=(pre++m')++c0::c1::c2::c3::c4::c5::c6::c7::(done++post):=af;rw[e0];simp only[Zm,List.length_cons,List.length_nil]at hm;have hA:(pre++m').length=off+nd-8:=by simp;omega
   have e9:∀x0 x1 x2 x3 x4 x5 x6 x7:D,(pre++m')++x0::x1::x2::x3::x4::x5::x6::x7::(done++post)=pre++(m'++((x0::x1::x2::x3::x4::x5::x6::x7::done)++post)):=by intros;simp
   generalize pre++m'=A at *;unfold eu;simp only[IE];simp(disch:=try exact ag)[Zx,Zs];rw[ahK _ _ _ _ _ _ _ _ _ _ _ _ _ _ _ _ _ aa aa aa aa aa aa aa,e9]
   rw[uX (x:=n%100) (i:=(n:Int)%100*2+1) aa,uY (x:=n%100) (i:=(n:Int)%100*2) aa,uX (x:=n/100%100) (i:=(n:Int)%10000/100*2+1) aa,uY (x:=n/100%100) (i:=(n:Int)%10000/100*2) aa,uX (x:=n/10000%100) (i:=(n:Int)%100000000/10000%100*2+1) aa,uY (x:=n/10000%100) (i:=(n:Int)%100000000/10000%100*2) aa,uX (x:=n/1000000%100) (i:=(n:Int)%100000000/10000/100*2+1) aa,uY (x:=n/1000000%100) (i:=(n:Int)%100000000/10000/100*2) aa]
   obtain⟨w,rfl⟩:∃w,nd=w+8:=⟨nd-8,aa⟩;have hd8:=agi n w;rw[show((w+8:Nat):Int)-8=(w:Nat) by omega,show(n:Int)/100000000=((n/100000000:Nat):Int) by omega]
   refine ih w (n/100000000) m' (u8 (dg (n/1000000%100/10))::u8 (dg (n/1000000%100%10))::u8 (dg (n/10000%100/10))::u8 (dg (n/10000%100%10))::u8 (dg (n/100%100/10))::u8 (dg (n/100%100%10))::u8 (dg (n%100/10))::u8 (dg (n%100%10))::done) aa aa bK hl ht ?_ aa ?_
   .grind
   .intro n' nd' mid' done' g1 g2 g3 g4 g5;refine hk n' nd' mid' done' g1 g2 g3 g4 ?_;rw[g5,hd8];simp
  .simp(disch:=try exact ag)[eu];exact hk n nd mid done aa hm hd hn rfl
theorem O5{x:Nat}(h:x<10):u8 (dg x)=.int .u8 (48+x):=by unfold u8 dg;congr 1;simp;omega
theorem afY{α:Type}:∀(l:List α),l.length=4->∃c0 c1 c2 c3,l=[c0,c1,c2,c3]
 |[c0,c1,c2,c3],_=>⟨c0,c1,c2,c3,rfl⟩
 |[],h|[_],h|[_,_],h|[_,_,_],h=>by simp at h
 |_::_::_::_::_::_,h=>by grind
theorem afZ{α:Type}:∀(l:List α),l.length=2->∃c0 c1,l=[c0,c1]
 |[c0,c1],_=>⟨c0,c1,rfl⟩
 |[],h|[_],h=>by simp at h
 |_::_::_::_,h=>by grind
theorem aa8(n nd:Nat)(mid B:LdQ)(h8:nd<8)(hm:mid.length=nd)(hn:n<10^nd):∃(n1 nd1:Nat)(mid1 B1:LdQ),nd1<4∧mid1.length=nd1∧n1<10^nd1∧nd1+B1.length=nd+B.length∧(dS n1 nd1).map u8++B1=(dS n nd).map u8++B ∧
  ((4<=nd∧n1=n/10000∧nd1=nd-4∧(∃c0 c1 c2 c3,mid=mid1++[c0,c1,c2,c3])∧B1=u8 (dg (n/100%100/10))::u8 (dg (n/100%100%10))::u8 (dg (n%100/10))::u8 (dg (n%100%10))::B)∨(¬4<=nd∧n1=n∧nd1=nd∧mid1=mid∧B1=B)):=by
 by_cases h4:4<=nd
 .obtain⟨w,rfl⟩:∃w,nd=w+4:=⟨nd-4,aa⟩;obtain⟨c0,c1,c2,c3,e⟩:=afY (mid.drop w) (by grind);refine⟨n/10000,w,mid.take w,_,aa,by grind,?_,?_,?_,.inl ⟨h4,rfl,aa,⟨c0,c1,c2,c3,by rw[<-e,Yi]⟩,rfl⟩⟩
  .grind
  .grind
  simp[FI,Xg]
 .exact⟨n,nd,mid,B,aa,hm,hn,rfl,rfl,.inr ⟨h4,rfl,rfl,rfl,rfl⟩⟩
theorem aeo(n nd:Nat)(mid B:LdQ)(h8:nd<4)(hm:mid.length=nd)(hn:n<10^nd):∃(n1 nd1:Nat)(mid1 B1:LdQ),nd1<2∧mid1.length=nd1∧n1<10^nd1∧nd1+B1.length=nd+B.length∧(dS n1 nd1).map u8++B1=(dS n nd).map u8++B ∧
  ((2<=nd∧n1=n/100∧nd1=nd-2∧(∃c0 c1,mid=mid1++[c0,c1])∧B1=u8 (dg (n%100/10))::u8 (dg (n%100%10))::B)∨(¬2<=nd∧n1=n∧nd1=nd∧mid1=mid∧B1=B)):=by
 by_cases h4:2<=nd
 .obtain⟨w,rfl⟩:∃w,nd=w+2:=⟨nd-2,aa⟩;obtain⟨c0,c1,e⟩:=afZ (mid.drop w) (by grind);refine⟨n/100,w,mid.take w,_,aa,by grind,?_,?_,?_,.inl ⟨h4,rfl,aa,⟨c0,c1,by rw[<-e,Yi]⟩,rfl⟩⟩
  .grind
  .grind
  simp[FI]
 .exact⟨n,nd,mid,B,aa,hm,hn,rfl,rfl,.inr ⟨h4,rfl,rfl,rfl,rfl⟩⟩
def fbH(pre mid B:LdQ):Hp:=[(1,.data 1 (pre++(mid++B)) true false),nnQ]
theorem acE{off tot n:Nat}{pre mid post:LdQ}(hpre:pre.length=off)(hm:mid.length=d)(hd:d<=24)(ht:tot=off+d+post.length)(hn:n<10^d)(h64:n<18446744073709551616):
  CI Y F.bN [.ref 0 1 off d cap tot,.d (.int .u64 n)] [(1,.data 1 (pre++(mid++post)) true false),nnQ] (.tup []) [(1,.data 1 (pre++((dS n d).map u8++post)) true false),nnQ]:=by
 refine t8 ?_;unfold bN;simp only[IE];simp;refine lo (aa7 _ rfl _ off d cap tot pre post hpre d d n mid [] aa hm af hd ht hn h64 (fun n' nd mid' done g1 g2 g3 g4 g5=>?_));have hp8:10^nd<=10^7:=Z4 ae aa;simp only[Nat.reducePow]at hp8;simp(disch:=try exact ag)
 obtain⟨n1,d1,mid1,B1,f1,f2,f3,f4,f5,f6⟩:=aa8 n' nd mid' (done++post) g1 g2 g4;refine jD (l:=[.d (.int .u32 n1),I d1]) (h:=fbH pre mid1 B1) (fun q=>?_) ?_
 .rcases f6 with⟨c,rfl,rfl,⟨c0,c1,c2,c3,rfl⟩,rfl⟩|⟨c,rfl,rfl,rfl,rfl⟩
  .have e0:pre++(mid1++[c0,c1,c2,c3]++(done++post))=(pre++mid1)++c0::c1::c2::c3::(done++post):=af;rw[e0];simp only[Zm,List.length_cons,List.length_nil]at g2;have hA:(pre++mid1).length=off+nd-4:=by simp;omega
   have e9:∀x0 x1 x2 x3:D,(pre++mid1)++x0::x1::x2::x3::(done++post)=pre++(mid1++(x0::x1::x2::x3::(done++post))):=by intros;simp
   generalize pre++mid1=A at *;simp(disch:=try exact ag)[c,Zx,Zs];rw[ahL _ _ _ _ _ _ _ _ _ aa aa aa,e9]
   rw[uX (x:=n'%100) (i:=(n':Int)%100*2+1) aa,uY (x:=n'%100) (i:=(n':Int)%100*2) aa,uX (x:=n'/100%100) (i:=(n':Int)%10000/100*2+1) aa,uY (x:=n'/100%100) (i:=(n':Int)%10000/100*2) aa];simp[fbH,I,show((nd-4:Nat):Int)=(nd:Int)-4 by omega]
  .simp(disch:=try exact ag)[c,fbH]
 have hp4:10^d1<=10^3:=Z4 ae aa;simp only[Nat.reducePow]at hp4;simp;obtain⟨n2,d2,mid2,B2,e1,e2,e3,e4,e5,e6⟩:=aeo n1 d1 mid1 B1 f1 f2 f3;refine jD (l:=[.d (.int .u32 n2),I d2]) (h:=fbH pre mid2 B2) (fun q=>?_) ?_
 .rcases e6 with⟨c,rfl,rfl,⟨c0,c1,rfl⟩,rfl⟩|⟨c,rfl,rfl,rfl,rfl⟩
  .have e0:pre++(mid2++[c0,c1]++B1)=(pre++mid2)++c0::c1::B1:=af;rw[fbH,e0];simp only[Zm,List.length_cons,List.length_nil]at f2;have hA:(pre++mid2).length=off+d1-2:=by simp;omega
   have hB:tot=off+d1+B1.length:=by simp at f4;omega
   have e9:∀x0 x1:D,(pre++mid2)++x0::x1::B1=pre++(mid2++(x0::x1::B1)):=by intros;simp
   generalize pre++mid2=A at *;simp(disch:=try exact ag)[c,Zx,Zs];rw[set2 _ _ _ _ _ aa,e9];rw[uX (x:=n1%100) (i:=(n1:Int)%100*2+1) aa,uY (x:=n1%100) (i:=(n1:Int)%100*2) aa];simp[fbH,I,show((d1-2:Nat):Int)=(d1:Int)-2 by omega]
  .simp(disch:=try exact ag)[c,fbH]
 simp
 have hend:fbH pre ((dS n2 d2).map u8) B2=[(1,.data 1 (pre++((dS n d).map u8++post)) true false),nnQ]:=by
  simp only[fbH];rw[e5,f5,<-List.append_assoc ((dS n' nd).map u8),g5];simp
 refine jD (l:=[]) (h:=fbH pre ((dS n2 d2).map u8) B2) (fun q=>?_) ?_
 .match d2,e1,mid2,e2 with
  |0,_,[],_=>simp[fbH,dS]
  | 1,_,[c0],_=>
   have hn2:n2<10:=by simpa using e3
   have hB:tot=off+1+B2.length:=by simp at f4;omega
   simp(disch:=try exact ag)[fbH,dS];rw[Yk hn2,O5 hn2]
 rw[hend];simp[qN];exact⟨by trivial,.inl (by trivial)⟩
@[simp]theorem ah4(s n:Nat)(cs:LdQ)(h:Hp)(k:kkQ)(u:PU k):rh (alD s n cs h) k u=rn (bnh h[s]?) (fun x=>k (.ptr s (x.1+1) 0 cs.length) (h.set s (x.1+1,.data n cs true false))) .mk:=by unfold rh rn alD;exact Dv ..
def ndg(n:Nat):Nat:=if n<10 then 1 else ndg (n/10)+1
theorem md(n:Nat):1<=ndg n:=by unfold ndg;split<;>omega
theorem cY:∀n:Nat,n<10^ndg n:=by
 intro n
 induction n using Nat.strongRecOn with
 | _ n ih=>
  unfold ndg;split
  .simpa using ‹n<10›
  .have:=ih (n/10) aa;rw[Nat.pow_succ];omega
theorem BH:∀n:Nat,0<n->10^(ndg n-1)<=n:=by
 intro n
 induction n using Nat.strongRecOn with
 | _ n ih=>
  intro h0;unfold ndg;split
  .simp;omega
  .have h1:=ih (n/10) aa aa;have h2:=md (n/10);rw[show ndg (n/10)+1-1=(ndg (n/10)-1)+1 by omega,Nat.pow_succ];omega
theorem cN{n:Nat}(h:n<10^d)(hd:1<=d):ndg n<=d:=by
 rcases Zd n with e|e
 .subst e;unfold ndg;rw[if_pos aa];exact hd
 .have h1:=BH n e;have:ndg n-1<d:=(Yw (a:=10) ae).1 aa;omega
def ai(n:Nat):LuQ:=dS n (ndg n)
def itoa(z:Int):LuQ:=if z<0 then 45::ai z.natAbs else ai z.natAbs
def WO:LuQ:=[48,49,50,51,52,53,54,55,56,57,97,98,99,100,101,102,103,104,105,106,107,108,109,110,111,112,113,114,115,116,117,118,119,120,121,122]
theorem agf:([48,49,50,51,52,53,54,55,56,57,97,98,99,100,101,102,103,104,105,106,107,108,109,110,111,112,113,114,115,116,117,118,119,120,121,122]:LuQ)=WO:=rfl
theorem Ti:∀x:Fin 10,(WO.drop x.val).take 1=ai x.val:=bb
theorem Tj:∀x:Fin 100,10<=x.val->(rJ.drop (2*x.val)).take 2=ai x.val:=by intro x hx;have h1:=(show ∀x:Fin 100,(rJ.drop (2*x.val)).take 2=dS x.val 2 by decide+kernel) x;rw[h1,ai];congr 1;unfold ndg;rw[if_neg aa];unfold ndg;rw[if_pos aa]
theorem ND{s:LuQ}{l:IntKind}{j:Int}(a b:Nat)(hi:i=a)(hj:j=b)(h1:a<=b)(h2:b<=s.length):slS (.d (.str s)) (some (.d (.int k i))) (some (.d (.int l j)))=some (.d (.str ((s.drop a).take (b-a)))):=by subst hi hj;simp only[slS,boV];rw[if_pos aa];simp only[];rw[if_pos aa];simp
theorem KM{n:Nat}(h:n<100):CP Y F.iK [I n] (S (ai n)):=by
 refine Aw ?_;unfold iK;simp only[IE,agf];by_cases c:n<10
 .simp(disch:=try exact ag)[c];rw[ND n (n+1) aa aa aa (by rw[show WO.length=36 from rfl];omega)];have:=Ti ⟨n,c⟩;simp only[]at this;simp[this];exact fD rfl
 .simp(disch:=try exact ag)[c];rw[ND (2*n) (2*n+2) aa aa aa (by rw[show rJ.length=200 from rfl];omega)];have:=Tj ⟨n,h⟩ (by simpa using c);simp only[]at this;simp[this];exact fD rfl
theorem Cc:∀l:LuQ,bytesD (l.map u8)=some l
 |[]=>rfl
 | b::l=>by
  have hb:=b.toNat_lt;simp only[Z2,u8,bytesD];rw[if_pos aa];have:=Cc l;rw[this];simp
abbrev cH(cells:LdQ):Hp:=[(1,.data 1 cells true false),nnQ]
theorem Tn(hc:cells.length=24){l:IntKind}{j:Int}(a b:Nat)(hi:i=a)(hj:j=b)(h1:a<=b)(h2:b<=24):
  slP 24 1 (cH cells) (.ptr 0 1 0 24) (some (.d (.int k i))) (some (.d (.int l j)))=some (.ref 0 1 a (b-a) (24-a) 24):=by simp only[slP,cH,aw];simp[xz hj h2,xz hi h1,hc]
theorem IH(hc:cells.length=24){l:IntKind}{j:Int}(b:Nat)(hj:j=b)(h2:b<=24):
  slP 24 1 (cH cells) (.ptr 0 1 0 24) none (some (.d (.int l j)))=some (.ref 0 1 0 b 24 24):=by simp only[slP,cH,aw];simp[xz hj h2,FS,hc]
theorem OH(hc:cells.length=24){i len:Nat}{bs:LuQ}(hl:i+len<=24)(he:(cells.drop i).take len=bs.map u8)(hb:bs.length=len):cvT (cH cells) (.ref 0 1 i len cap 24)=some (S bs):=by simp only[cvT,cellsOf,cH,aw];simp[hc,hl,he,hb,Cc]
theorem Sd(h1 : -9223372036854775808<z)(h2:z<9223372036854775808):CP Y F.dz [I z,I 10] (S (itoa z)):=by
 refine wd ?_;have hd1:=md z.natAbs;have hd2:ndg z.natAbs<=19:=cN aa aa;have hn:=cY z.natAbs;by_cases hs:0<=z∧z<100
 .obtain⟨hs1,hs2⟩:=hs;obtain⟨n,rfl⟩:∃n:Nat,z=n:=⟨z.toNat,aa⟩;simp[dz,hs1,hs2];refine cd (KM (n:=n) aa) ?_;rw[show itoa (n:Int)=ai n by unfold itoa;rw[if_neg aa];rfl];exact fD rfl
 .have hcs:(0<=z∧¬z<100)∨¬0<=z:=aa;have hw:z<0->IntKind.wrap .u64 z=z+18446744073709551616:=fun h=>by rw[GY];omega
  have hw2:z<0->IntKind.wrap .u64 (-(z+18446744073709551616)) = -z:=fun h=>by rw[GY];omega
  have hn64:z.natAbs<18446744073709551616:=aa;have hn0:0<z.natAbs:=aa;have hab:(z.natAbs:Int)=if z<0 then -z else z:=by split<;>omega
  have hit:itoa z=if z<0 then 45::dS z.natAbs (ndg z.natAbs)else dS z.natAbs (ndg z.natAbs):=rfl
  have hlo:=BH z.natAbs hn0;generalize ndg z.natAbs=d at *;generalize z.natAbs=n at *
  obtain ⟨mid,post,hm,hp,hcell⟩:∃mid post:LdQ,mid.length=d∧post.length=23-d∧List.replicate 24 (D.int .u8 0)=[D.int .u8 0]++(mid++post):=by
   refine⟨List.replicate d (.int .u8 0),List.replicate (23-d) (.int .u8 0),af,af,?_⟩;rw[List.replicate_append_replicate,show d+(23-d)=23 by omega];rfl
  have hmain:cal (CX Y).p (cH ([D.int .u8 0]++(mid++post))) (.fn F.dy [] []) [.d (.int .u64 n)] fun v12 h=>
    bnd (biI .add (.d (.int .i64 1)) v12) fun v13=>
    bnd (slP 24 1 h (.ptr 0 1 0 24) (some (.d (.int .i64 1))) (some v13)) fun v14=>
    cai (CX Y).i h (.fn F.bN [] []) [v14,.d (.int .u64 n)] 1 fun v15 h=>
    bnd (biI .lss (I z) (.d (.int .i64 0))) fun v16=>
    cnd v16 (
     bnd (ixP 24 1 (.ptr 0 1 0 24) (.d (.int .i64 0))) fun v17=>
     stD h 1 v17 (.d (.int .u8 45)) fun _ h=>
     bnd (biI .add (.d (.int .i64 1)) v12) fun v19=>
     bnd (slP 24 1 h (.ptr 0 1 0 24) none (some v19)) fun v20=>
     bnd (cvT h v20) fun v21=>
     out (S (itoa z)) v21 h) (
     bnd (biI .add (.d (.int .i64 1)) v12) fun v22=>
     bnd (slP 24 1 h (.ptr 0 1 0 24) (some (.d (.int .i64 1))) (some v22)) fun v23=>
     bnd (cvT h v23) fun v24=>
     out (S (itoa z)) v24 h):=by
   refine cd (u:=.mk) (Ab hlo hn hd1 hn64) ?_;simp(disch:=try exact ag);rw[Tn bK 1 (d+1) aa aa aa aa];simp;refine pT (h':=cH ([D.int .u8 0]++((dS n d).map u8++post))) (acE (pre:=[D.int .u8 0]) rfl hm aa aa hn hn64) ?_ af;by_cases g:z<0
   .rw[if_pos g]at hit;simp[g,bh,hp];rw[uv _ _ _ _ _ _ _ _ _ (by simp[bh];omega) af];simp(disch:=try exact ag)[bS];rw[IH (by simp[bh];omega) (d+1) aa aa];simp;rw[OH (bs:=45::dS n d) (by simp[bh];omega) aa (by simp[u8,bh,List.take_append,Z6]) (by simp[bh])]
    rw[hit];simp;exact fD rfl
   .rw[if_neg g]at hit;simp(disch:=try exact ag)[g];rw[Tn (by simp[bh];omega) 1 (d+1) aa aa aa aa];simp;rw[OH (bs:=dS n d) (by simp[bh];omega) aa (by simp[bh,List.take_append,Z6]) (by simp[bh])];rw[hit];simp;exact fD rfl
  rcases hcs with⟨g1,g2⟩|g1
  .have g3:¬z<0:=aa;rw[if_neg g3]at hab;simp[dz,g1,g2];refine jD (l:=[.d (.int .u64 n)]) (h:=cH ([D.int .u8 0]++(mid++post))) (fun q=>?_) hmain;rw[<-hcell];simp(disch:=try exact ag)[g3,hab]
  .have g3:z<0:=aa;rw[if_pos g3]at hab;simp[dz,g1];refine jD (l:=[.d (.int .u64 n)]) (h:=cH ([D.int .u8 0]++(mid++post))) (fun q=>?_) hmain;rw[<-hcell];simp[g3,hab,hw g3,hw2 g3]
theorem aea(h1 : -9223372036854775808<z)(h2:z<9223372036854775808):CP Y F.lh [I z] (S (itoa z)):=by refine BM ?_;simp[lh];refine cd (Sd h1 h2) ?_;exact fD rfl
theorem DG(h1 : -9223372036854775808<z)(h2:z<9223372036854775808):CP Y F.strconv_Itoa [I z] (S (itoa z)):=by refine Eh ?_;simp[strconv_Itoa];refine cd (aea h1 h2) ?_;exact fD rfl
def qt(b:UInt8):Bool:=decide (48<=b.toNat)&&decide (b.toNat<=57)
theorem mA{b:UInt8}:qt b=true↔48<=b.toNat∧b.toNat<=57:=by simp[qt]
def fE(a:Nat)(s:LuQ):Nat:=s.foldl (fun a b=>a*10+(b.toNat-48)) a
@[simp]theorem HU(a:Nat):fE a []=a:=by unfold fE;rw[List.foldl_nil]
@[simp]theorem ky(a:Nat)(b:UInt8)(s:LuQ):fE a (b::s)=fE (a*10+(b.toNat-48)) s:=by unfold fE;rw[List.foldl_cons]
theorem JH(x:Nat):(dg x).toNat=(48+x)%256:=by simp[dg]
theorem agh{b:UInt8}(h:qt b=true):dg (b.toNat-48)=b:=by rw[mA]at h;apply UInt8.toNat.inj;rw[JH];omega
theorem HZ:∀(s:LuQ)(a w:Nat),s.all qt=true->dS (fE a s) (w+s.length)=dS a w++s
 |[],a,w,_=>by simp
 | b::s,a,w,h=>by
  simp only[List.all_cons,Z8]at h;have:=HZ s (a*10+(b.toNat-48)) (w+1) h.2;have hb:=mA.1 h.1;rw[ky,List.length_cons,show w+(s.length+1)=w+1+s.length by omega,this];simp only[dS];rw[show(a*10+(b.toNat-48))/10=a by omega,show(a*10+(b.toNat-48))%10=b.toNat-48 by omega,agh h.1];simp
theorem Ff:∀(s:LuQ)(a:Nat),a*10^s.length<=fE a s
 |[],a=>by simp
 | b::s,a=>by
  have:=Ff s (a*10+(b.toNat-48));rw[ky,List.length_cons,Nat.pow_succ];refine Zu ?_ this;rw[Zt (10^s.length),<-Nat.mul_assoc];exact Zz _ aa
theorem uG:∀(s:LuQ)(a:Nat),s.all qt=true->fE a s<(a+1)*10^s.length
 |[],a,_=>by simp
 | b::s,a,h=>by
  simp only[List.all_cons,Z8]at h;have:=uG s (a*10+(b.toNat-48)) h.2;have hb:=mA.1 h.1;rw[ky,List.length_cons,Nat.pow_succ];refine Z1 this ?_;rw[Zt (10^s.length),<-Nat.mul_assoc];exact Zz _ aa
theorem US{n:Nat}(h1:10^d<=n)(h2:n<10^(d+1)):ndg n=d+1:=by have:=cN h2 aa;have h3:=cY n;have:d<ndg n:=(Yw (a:=10) ae).1 aa;omega
def qR(s:LuQ):Bool:=!s.isEmpty&&s.all qt && !(decide (1<s.length)&&decide (s.headD 0=48))
theorem E7{s:LuQ}(h:qR s=true):ai (fE 0 s)=s:=by
 simp only[qR,Z8,Y9,Xa,decide_eq_false_iff_not]at h;obtain⟨⟨h0,h1⟩,h2⟩:=h;cases s with
 |nil=>simp at h0
 | cons b s=>
  have hd:=HZ (b::s) 0 0 h1;simp only[List.all_cons,Z8]at h1;have hb:=mA.1 h1.1;simp only[Zp,dS,List.nil_append]at hd
  have hn:ndg (fE 0 (b::s))=(b::s).length:=by
   have lo:=Ff s (b.toNat-48);have hi:=uG s (b.toNat-48) h1.2;simp only[ky,Wb,Zp,List.length_cons]at *;by_cases hs:s=[]
   .subst hs;simp only[HU,List.length_nil,Zp];unfold ndg;rw[if_pos aa]
   .have hl:0<s.length:=Xj.2 hs
    have hb0:b.toNat≠48:=by
     rcases h2 with h2|h2
     .omega
     .intro e;apply h2;simp only[List.headD_cons];apply UInt8.toNat.inj;rw[e];rfl
    refine US ?_ ?_
    .refine Zu ?_ lo;have:=Zz (10^s.length) (show 1<=b.toNat-48 by omega);omega
    .refine Z1 hi ?_;rw[Nat.pow_succ,Zt];exact Zw _ aa
  unfold ai;rw[hn];exact hd
theorem aaY{x:Nat}(h:x<10):qt (dg x)=true:=by rw[mA,JH];omega
theorem aet{x:Nat}(h:x<10):(dg x).toNat=48+x:=by rw[JH];omega
theorem xv:∀(w n:Nat),(dS n w).all qt=true
 |0,_=>rfl
 | w+1,n=>by
  simp only[dS,Yp,xv w,List.all_cons,List.all_nil,Y4,Zg];exact aaY aa
theorem vy:∀(s t:LuQ)(a:Nat),fE a (s++t)=fE (fE a s) t
 |[],t,a=>rfl
 |b::s,t,a=>by rw[List.cons_append,ky,ky,vy s t]
theorem xU:∀(w n:Nat),n<10^w->fE 0 (dS n w)=n
 |0,n,h=>by simp at h;subst h;rfl
 | w+1,n,h=>by
  have:=xU w (n/10) (by rw[Nat.pow_succ]at h;omega);simp only[dS,vy,this,ky,HU];rw[aet aa];omega
theorem tA(n:Nat):qR (ai n)=true:=by
 have hl:(ai n).length=ndg n:=bh ..;have hp:=md n;have ha:(ai n).all qt=true:=xv ..;have hh:fE 0 (ai n)=n:=xU _ _ (cY n);cases he:ai n with
 |nil=>rw[he]at hl;simp at hl;omega
 | cons b s=>
  rw[he]at hl ha hh;simp only[qR,List.isEmpty_cons,Bool.not_false,Zg,ha,List.headD_cons,Y9,Xa,decide_eq_false_iff_not];by_cases h1:1<(b::s).length
  .right;refine decide_eq_false fun e=>?_
   subst e;simp only[List.all_cons,Z8]at ha;have hi:=uG s 0 ha.2;simp only[ky,List.length_cons]at *;have e48:(48:UInt8).toNat=48:=rfl;rw[e48]at hh;simp only[Nat.sub_self,Wb,Zp,Xr]at *;rw[hh]at hi
   have lo:=BH n (by
    rcases Zd n with e|e
    .have e1:ndg 0=1:=by unfold ndg;rfl
     rw[e,e1]at hl;omega
    .exact e)
   rw[<-hl]at lo;simp at lo;omega
  .left;simpa using h1
theorem dZ(n:Nat):fE 0 (ai n)=n:=xU _ _ (cY n)
def rdS(s:LuQ):Option Int:=if s.headD 0=45 then(if qR s.tail=true∧s.tail≠[48]then some (-(fE 0 s.tail:Int))else none)else if qR s=true then some (fE 0 s:Int)else none
theorem xp(n:Nat):ai n≠[]:=by intro e;have:(ai n).length=ndg n:=bh ..;have:=md n;rw[e]at *;simp at *;omega
theorem tg(n:Nat):(ai n).headD 0≠45:=by
 have ha:(ai n).all qt=true:=xv ..;cases he:ai n with
 |nil=>exact absurd he (xp n)
 | cons b s=>
  rw[he]at ha;simp only[List.all_cons,Z8,mA]at ha;simp only[List.headD_cons];intro e;subst e;have:(45:UInt8).toNat=45:=rfl;omega
theorem Le(z:Int):rdS (itoa z)=some z:=by
 unfold rdS itoa;by_cases hz:z<0
 .rw[if_pos hz,List.headD_cons,if_pos rfl,List.tail_cons,tA,dZ,if_pos]
  .congr 1;omega
  .refine⟨rfl,fun e=>?_⟩;have:=dZ z.natAbs;rw[e]at this;have e2:fE 0 [48]=0:=rfl;omega
 .rw[if_neg hz,if_neg (tg _),if_pos (tA _),dZ];congr 1;omega
theorem Ue{s:LuQ}(h:rdS s=some z):s=itoa z:=by
 unfold rdS at h;split at h
 .rename_i hd;split at h
  .rename_i hc;simp only[Z9]at h;subst h;cases s with
   |nil=>simp at hd
   | cons b s=>
    simp only[List.headD_cons]at hd;subst hd;simp only[List.tail_cons]at *;have he:=E7 hc.1
    have h0:fE 0 s≠0:=by
     intro e;rw[e]at he;apply hc.2;rw[<-he];unfold ai ndg;rfl
    unfold itoa;rw[if_pos aa,Int.natAbs_neg,Int.natAbs_natCast,he]
  .cases h
 .split at h
  .rename_i hc;simp only[Z9]at h;subst h;unfold itoa;rw[if_neg aa,Int.natAbs_natCast,E7 hc]
  .cases h
theorem AR:∀(v w n:Nat),dS n (w+v)=dS (n/10^v) w++dS n v
 |0,w,n=>by simp[dS]
 | v+1,w,n=>by
  rw[show w+(v+1)=(w+v)+1 by omega];simp only[dS];rw[AR v w (n/10),Xg,Nat.pow_succ,Zt 10,List.append_assoc]
theorem AQ:∀(w n m:Nat),dS (n+10^w*m) w=dS n w
 |0,_,_=>rfl
 | w+1,n,m=>by
  simp only[dS];have e:n+10^(w+1)*m=n+10*(10^w*m):=by rw[Nat.pow_succ,Zt (10^w) 10,Nat.mul_assoc]
  rw[e,Yr _ _ ae,Xu,AQ w]
theorem R4{t k r:Nat}(ht:0<t)(hr:r<10^k):ai (r+10^k*t)=ai t++dS r k:=by
 have h1:=BH t ht;have h2:=cY t;have h3:=md t;obtain⟨d,hd⟩:∃d,ndg t=d+1:=⟨ndg t-1,aa⟩
 have hn:ndg (r+10^k*t)=ndg t+k:=by
  rw[hd]at h1 h2 ⊢;simp only[Yd]at h1;rw[show d+1+k=(d+k)+1 by omega];refine US ?_ ?_
  .rw[Y6,Zt];have:=Zw (10^k) h1;omega
  .rw[show d+k+1=k+(d+1) by omega,Y6];have:=Zw (10^k) h2;rw[Nat.mul_succ]at this;omega
 have e:=AR k (ndg t) (r+10^k*t);rw[<-hn,Yr _ _ (Nat.pos_of_ne_zero (by have:=Yj (a:=10) (n:=k) ae;omega)),Wr hr,Zp,AQ]at e;exact e
theorem Cg:∀a:Fin 10,biI .and (.d (.int .u64 a.val)) (.d (.int .u64 4294967295))=some (.d (.int .u64 a.val)):=by
 intro a
 match a with
 |0|1|2|3|4|5|6|7|8|9=>rfl
@[simp]theorem aiO{n:Nat}(h:n<10):biI .and (.d (.int .u64 (n:Int))) (.d (.int .u64 4294967295))=some (.d (.int .u64 n)):=Cg ⟨n,h⟩
@[simp]theorem aiA:biI .and (.d (.int .u64 1)) (.d (.int .u64 4294967295))=some (.d (.int .u64 1)):=Cg 1
@[simp]theorem aiB:biI .and (.d (.int .u64 0)) (.d (.int .u64 4294967295))=some (.d (.int .u64 0)):=Cg 0
def B6:Nat->Nat->LnQ
 |_,0=>[]
 |n,w+1=>B6 (n/10) w++[n%10]
theorem FH:∀(w n:Nat),(B6 n w).length=w
 |0,_=>rfl
 |w+1,n=>by simp[B6,FH w]
theorem DO:∀(w n:Nat),∀x∈B6 n w,x<10
 |0,_=>by simp[B6]
 | w+1,n=>by
  intro x hx;simp only[B6,W4,List.mem_singleton]at hx;rcases hx with hx|hx
  .exact DO w _ x hx
  .omega
theorem JJ:∀(w n:Nat),dS n w=(B6 n w).map dg
 |0,_=>rfl
 |w+1,n=>by simp[dS,B6,JJ w]
def aa1(a:Nat)(l:LnQ):Nat:=l.foldl (fun a d=>a*10+d) a
theorem Fe:∀(w n:Nat),n<10^w->aa1 0 (B6 n w)=n
 |0,n,h=>by simp at h;subst h;rfl
 | w+1,n,h=>by
  have:=Fe w (n/10) (by rw[Nat.pow_succ]at h;omega);unfold aa1 at this;simp only[aa1,B6,List.foldl_append,this,List.foldl_cons,List.foldl_nil];omega
def f8(x:Nat):D:=.int .u8 (48+x)
theorem WS(n w:Nat):(dS n w).map u8=(B6 n w).map f8:=by rw[JJ,Yy];apply Ym;intro x hx;exact O5 (DO w n x hx)
theorem JZ(k:KL)(h0:Hp)(hh:h0.length=0):∀(r a:LnQ)(s:Nat),(a++r).length<=18->(∀x∈r,x<10)->s<10^a.length ->
  (k (.exit 0) [I (aa1 s r)] []) ->
  lp (mR (CX Y) (lst f8 (a++r)) (I (a++r).length)) [] h0 [I s,I a.length] [] k
 | []=>by
  intro a s hN hx hs hk;refine aj ?_;simp[mR];exact hk
 | x::r=>by
  intro a s hN hx hs hk;simp at hN hx;have hs18:s<10^17:=Z1 hs (Z4 ae aa);simp only[Nat.reducePow]at hs18;have hx1:=hx.1;refine aj ?_;simp(disch:=try exact ag)[mR,f8];have:=JZ k h0 hh r (a++[x]) (s*10+x) bK hx.2 (by simp[Nat.pow_succ];omega) hk;simp at this
  rw[show(48+(x:Int)-48)=x by omega];exact this
theorem abR{n:Nat}(h1:1<=w)(h2:w<=18)(hn:n<10^w):CP Y F.ic [S (dS n w)] (.tup [I n,.d (.pl .nilIface)]):=by
 refine uF ?_;have hl:=FH w n;have hlt:=DO w n;have hh:=Fe w n hn;have he:=WS n w;have hD:=JJ w n;generalize dS n w=L at *;generalize B6 n w=l at *;cases l with
 |nil=>simp at hl;omega
 | cons x l=>
  have hx:=hlt x af
  have hi:ixS (S L) (.d (.int .i64 0))=some (.d (.int .u8 (48+x))):=by
   rw[hD];simp[ixS];have e:=O5 hx;unfold u8 at e;injection e
  have hlen:L.length=w:=by rw[hD];simpa using hl
  have hlw:nS (S L)=some (I w):=by rw[Jq,hlen]
  simp(disch:=try exact ag)[ic,hlw,hi]
  have hcv:∀(k:kkQ),cvB (S L) [] k=k (lst f8 (x::l)) []:=by
   intro k
   have:V.d (.sl L.length (L.map fun b=>.int .u8 b.toNat))=lst f8 (x::l):=by
    unfold lst;rw[hlen,hl,<-he];rfl
   simp only[cvB,this]
  refine jD (l:=[S L]) (h:=[]) (fun q=>?_) ?_
  .simp[show ¬(48+(x:Int)=43) by omega]
  show cvB (S L) [] _
  rw[hcv];simp;refine lo (JZ _ _ rfl (x::l) [] 0 (by simp at hl;simp;omega) hlt af ?_);simp[hi,hh];refine jD (l:=[I n]) (h:=[]) (fun q=>?_) ?_
  .simp[hh,show ¬(48+(x:Int)=45) by omega]
  exact⟨[],by simp[bJ,aS,norm]⟩
theorem Jc:biF .neq (.d (.pl .nilIface)) (.d (.pl .nilIface))=some (.d (.bool false)):=rfl
theorem JY{n:Nat}(h1:1<=w)(h2:w<=18)(hn:n<10^w):CP Y F.strconv_Atoi [S (dS n w)] (.tup [I n,.d (.pl .nilIface)]):=by refine wH ?_;simp[strconv_Atoi];refine cd (abR h1 h2 hn) ?_;simp[Jc];exact⟨[],by simp[bJ,aS,norm]⟩
theorem EJ(z:D):∀n,jv n [z]=List.replicate n z
 |0=>rfl
 |n+1=>by simp[jv,EJ z n,List.replicate_succ]
@[simp] theorem ah2 (s by_:Nat)(z:D)(h:Hp)(i:Int)(k:kkQ)(u:PU k)(h0:0<=i)(hb:by_*i<=281474976710656)(h1:i<=9223372036854775807):
  rh (mkS s by_ [z] h (.d (.int .i64 i)) (.d (.int .i64 i))) k u=rn (bnh h[s]?) (fun y=>k (.ref s (y.1+1) 0 i.toNat i.toNat i.toNat) (h.set s (y.1+1,.data 1 (List.replicate i.toNat z) true false))) .mk:=by unfold rh rn;simp only[mkS];rw[if_pos ⟨h0,Xl _,af,hb,h1⟩,Dv];simp only[EJ,Zh,List.length_singleton]
@[simp]theorem ag2(s e off len cap tot:Nat):bj (.ref s e off len cap tot)=some (.d (.int .i64 (len:Int))):=id rfl
theorem jC{T:kkQ->Prop}{k:kkQ}{u:PU k}(h:T k):rh T k u:=h
theorem cdz{h:Hp}{f:FuncId}{v:V}{k:kkQ}{u:PU k}(hs:aS h args=some (ds,h'))(hc:C f ds v)(hk:k v (if fN v then h else h')):rh (cal C h (.fn f [] []) args) k u:=
 OQ hs hc hk
variable{α:Type}{f:α->D}{o:List α}{h:Hp}{s e n:Nat}{ex fr:Bool}
theorem ixB(hs:h[s]?=some (e,.data 1 (o.map f) ex fr))(hn:o.length=n){i:Nat}(hi:i<n)(k:IntKind):ixV h 1 (.ref s e 0 n n n) (.d (.int k (i:Int)))=some (.ptr s e i n):=by simp only[ixV,aw,hs,if_true];rw[if_pos ⟨by simp[hn],aa,aa⟩];simp
theorem ldB(d:α)(hs:h[s]?=some (e,.data 1 (o.map f) ex fr))(hn:o.length=n){i:Nat}(hi:i<n):ld1 h (.ptr s e i n)=some (.d (f (nth d o i))):=by have hi':i<o.length:=aa;rw[aN d o i hi'];simp only[ld1,aw,hs,if_true,List.length_map,hn,List.getElem?_map,List.getElem?_eq_getElem hi',Option.map_some]
theorem stB(hs:h[s]?=some (e,.data 1 (o.map f) ex false))(hn:o.length=n){i:Nat}(hi:i<n){x:α}(hx:norm (f x)=f x):st h 1 (.ptr s e i n) (.d (f x))=some (h.set s (e,.data 1 ((o.set i x).map f) ex false)):=by
 have e1:(o.map f).take i++[f x]++(o.map f).drop (i+1)=(o.set i x).map f:=by
  rw[List.map_set,Ya,if_pos bK];simp
 simp only[st,if_true,sto,aw,hs,iH,toD,hx];rw[if_pos ⟨trivial,by simp[hn],bK⟩];simp only[bS,List.length_singleton,e1]
theorem vi(clr:LnQ)(i:Nat)(x0 x:Nat×Bk)(h0 h:Hp):au clr i (x0::h0) (x::h)=(if dw clr i=true then x else(x0.1,.none))::au clr (i+1) h0 h:=by cases x0;cases x;rfl
theorem Hu(clr:LnQ)(i:Nat)(h:Hp):au clr i [] h=h:=by cases h<;>rfl
theorem jm(clr:LnQ)(i:Nat)(x:Nat×Bk)(h:Hp):qk clr i (x::h)=((!dw clr i||offB clr x.2)&&qk clr (i+1) h):=by cases x;rfl
theorem oe(clr:LnQ)(a:Acc)(L:Nat)(c:LdQ)(h:dw clr a.s=true):kH clr (a.v L c)=true:=by
 cases L with
 |zero=>rfl
 |succ n=>exact h
theorem fO(clr:LnQ)(a:Acc)(L:Nat)(c:LdQ)(h:offB clr a.b0=true):offB clr (a.b L c).2=true:=by
 cases L with
 |zero=>exact h
 |succ n=>rfl
theorem mZ(clr:LnQ)(x:D):kH clr (.d x)=true:=rfl
theorem BE(s:Nat):dw [] s=true:=rfl
theorem vq(t:Nat)(l:LnQ)(s:Nat):dw (t::l) s=(!(Nat.beq t s)&&dw l s):=rfl
theorem beq_lit(a b:Nat):Nat.beq a b=decide (a=b):=by
 by_cases h:a=b
 .subst h;simp[X7]
 .rw[decide_eq_false h];cases hb:Nat.beq a b with
  |false=>rfl
  |true=>exact absurd (Zl hb) h
@[simp]theorem aiQ(n:Nat):V.d (i9 n)=I n:=id rfl
@[simp]theorem aiI(l:LnQ)(h:Hp)(hl:j<l.length):ld1 h (.dptr (l.map i9) j)=some (I ((nth 0 l j:Nat):Int)):=aC i9 0 l h hl
@[simp]theorem aid(l:LnQ)(h:Hp)(hl:j<l.length):ld1 h (.dptr (l.map u32) j)=some (.d (.int .u32 ((nth 0 l j:Nat):Int))):=aC u32 0 l h hl
@[simp]theorem aiN(n:Nat):V.d (u32 n)=.d (.int .u32 n):=id rfl
theorem x8{n by_:Nat}{h:Hp}{cells:LdQ}{z:LdQ}(hn:0<n){l:Nat}(hl:0<l)(hc:cells.length=l*n)(hb:l*by_<=140737488355328){q:kkQ}{u:PU q}
  (hq:q (.ref (h.length+1) 1 0 l l cells.length) (h++[(1,.data n [] true false),(1,.data n cells false false)])) :
  rh (apV false (h.length+1) n by_ (.ref (h.length+0) 1 0 0 0 0) (.d (.sl l cells)) (h++[(1,.data n [] true false),nnQ])) q u:=by
 unfold rh apV;simp only[cellsOf];rw[if_pos hc];unfold apC;rw[if_neg aa];have hg:aw (h++[(1,Bk.data n [] true false),nnQ]) (h.length+0) 1=.data n [] true false:=by simp[aw]
 simp only[hg];rw[if_pos ⟨trivial,rfl,Z7 _,af,hc⟩,if_neg aa,if_pos (by simpa using hb)];simp only[if_true,new];have hs:(h++[(1,Bk.data n [] true false),nnQ])[h.length+1]?=some nnQ:=af;simp only[hs];simpa using hq
@[simp] theorem afP {α:Type}(f:α->D){l:List α}(h:Hp)(hl:0<l.length)(k:V->Prop)(u:PU k):rn (rj h .eql (lst f l) (.d nPQ)) k u=k (.d (.bool false)):=by
 cases l with
 |nil=>simp at hl
 |cons x l=>exact rfl
end Go.Vm
namespace Go.Ada
@[ext] structure Vec where
 a:Int
 b:Int
 c:Int
instance:Add Vec:=⟨fun x y=>⟨x.a+y.a,x.b+y.b,x.c+y.c⟩⟩
theorem Nn(x y z:Vec):x+y+z=x+(y+z):=Vec.ext (Wx ..) (Wx ..) (Wx ..)
theorem afe(x y:Vec):x+y=y+x:=Vec.ext (Int.add_comm ..) (Int.add_comm ..) (Int.add_comm ..)
instance:Std.Associative (α:=Vec) (· + ·):=⟨Nn⟩
instance:Std.Commutative (α:=Vec) (· + ·):=⟨afe⟩
def vz:Vec:=⟨0,0,0⟩
def vl(x y z:Int)(v:Vec):Int:=v.a*x+v.b*y+v.c*z
def fm{α:Type}(v:α->Int):α->List α->α
 |b,[]=>b
 |b,x::l=>fm v (if v x<v b then x else b) l
def fl{α:Type}(v:α->Int)(d:α):List α->α
 |[]=>d
 |x::l=>fm v x l
def cost(own:Nat->Nat->Vec)(edge:Nat->Nat->Nat->Vec):Nat->LnQ->Vec
 |_,[]=>vz
 |k,[i]=>own k i
 |k,i::j::l=>own k i+(edge k i j+cost own edge (k+1) (j::l))
end Go.Ada
namespace Go.Vm
open Go Go.Am Go.Big
variable{j cap n b c N f:Nat}{i:Int}
def u6(n:Nat):D:=.int .u64 n
abbrev U(n:Int):V:=.d (.int .u64 n)
@[simp]theorem aiP(n:Nat):V.d (u6 n)=U n:=id rfl
def pcs(n:Nat):V:=lst u6 (dig Z n)
theorem adP(n:Nat):pcs n=lst u6 (dig Z n):=rfl
theorem E5(l:LnQ)(h:Hp)(hl:j<l.length):ld1 h (.dptr (l.map u6) j)=some (U (nth 0 l j:Nat)):=aC u6 0 l h hl
variable{h:Hp}{s e tot:Nat}{l:LnQ}{ex fr:Bool}
theorem CW(hg:h[s]?=some (e,.data 1 (l.map u6) ex fr))(ht:tot=l.length){len:Nat}(h0:0<=i)(h1:i<len)(k:IntKind):ixV h 1 (.ref s e 0 len cap tot) (.d (.int k i))=some (.ptr s e i.toNat tot):=by simp only[ixV,eG hg];rw[if_pos ⟨by simp[ht],h0,h1⟩];simp
theorem Jr(hg:h[s]?=some (e,.data 1 (l.map u6) ex fr))(ht:tot=l.length)(hj:j<l.length):ld1 h (.ptr s e j tot)=some (U (nth 0 l j:Nat)):=by
 have e1:tot=(l.map u6).length:=by simp[ht]
 simp only[ld1,eG hg,if_pos e1,List.getElem?_map,List.getElem?_eq_getElem hj,Option.map_some,aN 0 l j hj];rfl
theorem Ra(hg:h[s]?=some (e,.data 1 (l.map u6) ex false))(ht:tot=l.length)(hj:j<l.length)(x:Nat):st h 1 (.ptr s e j tot) (U x)=some (h.set s (e,.data 1 ((l.set j x).map u6) ex false)):=by
 have e1:(l.map u6).take j++[u6 x]++(l.map u6).drop (j+1)=(l.set j x).map u6:=by
  rw[List.map_set,Ya,if_pos bK];simp
 simp only[st,if_true,sto,eG hg,iH,toD];rw[if_pos ⟨trivial,by simp[ht],bK⟩];simp only[bS,List.length_singleton];rw[<-e1];rfl
theorem ahJ(hg:h[s]?=some (e,.data 1 (l.map u6) ex fr))(ht:tot=l.length){len:Nat}(h0:0<=i)(h1:i<=cap)(hlc:len<=cap):slV h 1 (.ref s e 0 len cap tot) none (some (I i))=some (.ref s e 0 i.toNat cap tot):=by simp only[slV,eG hg,boV];rw[if_pos ⟨aa,h1⟩];simp[ht,hlc]
theorem wL(hg:h[s]?=some (e,.data 1 (l.map u6) ex fr))(ht:tot=l.length){len:Nat}(h1:len<=cap)(hc:cap<=tot):bJ h (.ref s e 0 len cap tot)=some (lst u6 (l.take len),h.set s (e,.data 1 (l.map u6) ex true)):=by simp only[bJ,toD,eG hg];rw[if_pos ⟨by simp[ht],h1,bK⟩];simp[lst,List.map_take,bS];omega
theorem G5{h:Hp}{s e cap tot:Nat}{l:LnQ}{ex fr:Bool}(hg:h[s]?=some (e,.data 1 (l.map u6) ex fr))(ht:tot=l.length)(hc:cap<=tot)(hb:cap<1000000000000)(k:KL)(h0:Hp)(hh:h0.length=h.length):∀len,len<=cap->k (.exit 0) [.ref s e 0 (iN (l.take len)).length cap tot] h->lp (bO (CX Y) h.length) [] h0 [.ref s e 0 len cap tot] h k
 | 0,hl,hk=>by
  refine aj ?_;simp[bO];simpa[iN]using hk
 | len+1,hl,hk=>by
  have e1:=CW hg ht (len:=len+1) (cap:=cap) (i:=(len:Int)) aa aa .i64;have e2:=Jr hg ht (j:=len) aa;have e3:=ahJ hg ht (len:=len+1) (cap:=cap) (i:=(len:Int)) aa aa aa;have e4:l.take (len+1)=l.take len++[nth 0 l len]:=by rw[aN 0 l len aa,List.take_append_getElem]
  rw[Int.toNat_natCast]at e1 e3;refine aj ?_;by_cases h2:nth 0 l len=0
  .rw[e4,h2,qW]at hk;have ih:=G5 hg ht hc hb k h0 hh len aa hk;simp(disch:=try exact ag)[bO,e1,e2,e3,h2,hh];exact ih
  .rw[e4,yG h2]at hk;have e5:(l.take len++[nth 0 l len]).length=len+1:=by simp;omega
   rw[e5]at hk;simp(disch:=try exact ag)[bO,e1,e2,e3,h2];exact hk
theorem uu{h:Hp}(hu:(h.all fun x=>bW h.length x.2)=true){s e len tot:Nat}{l:LnQ}{ex fr:Bool}(hg:h[s]?=some (e,.data 1 (l.map u6) ex fr))(ht:tot=l.length)(hc:cap<=tot)(hb:cap<1000000000000)(hl:len<=cap):
  CI Y F.ay [.ref s e 0 len cap tot] h (.ref s e 0 (iN (l.take len)).length cap tot) h:=by refine p6 ?_;simp[ay];refine lo (G5 hg ht hc hb _ _ rfl len hl ?_);simp;have hs:=bH hg;refine⟨af,by simpa using hu,.inl ⟨rfl,?_⟩⟩;simp[under,hs]
theorem Q0{h:Hp}{l0:LnQ}(k:KL)(h0:Hp)(hh:h0.length=h.length):∀l:LnQ,l.length<1000000000000->k (.exit 0) [lst u6 (iN l)] h->lp (bO (CX Y) h.length) [] h0 [lst u6 l] h k:=by
 intro l hb hk
 induction hn:l.length generalizing l with
 | zero=>
  have:l=[]:=Zf hn;subst this;refine aj ?_;simp[bO];exact hk
 | succ n ih=>
  obtain⟨l,x,rfl⟩:∃l' x,l=l'++[x]:=⟨l.dropLast,l.getLast (by intro e;simp[e]at hn),(List.dropLast_concat_getLast _).symm⟩;have hl:l.length=n:=by simpa using hn
  have e1:=fun h:Hp=>kv u6 (l++[x]) h (k:=.i64) (i:=(l.length:Int)) aa bK
  have e2:=fun h:Hp=>E5 (l++[x]) h (j:=l.length) af
  have e3:=fun h:Hp=>afq u6 (l++[x]) h (i:=(l.length:Int)) aa bK af
  have e4:nth 0 (l++[x]) l.length=x:=af;simp only[Int.toNat_natCast,V6]at e1 e3;rw[e4]at e2;have e5:((l++[x]).length:Int)=(l.length:Int)+1:=af;have e6:bj (lst u6 (l++[x]))=some (I ((l.length:Int)+1)):=by rw[<-e5];rfl
  have hb2:l.length<1000000000000:=by simp at hb;omega
  refine aj ?_;by_cases hx:x=0
  .subst hx;rw[qW]at hk;simp(disch:=try exact ag)[bO,e1,e2,e3,e6,hh];exact ih l hb2 hk hl
  .rw[yG hx]at hk;simp(disch:=try exact ag)[bO,e1,e2,e3,e6,hx];exact hk
theorem ZK{h:Hp}(hu:(h.all fun x=>bW h.length x.2)=true){l:LnQ}(hb:l.length<1000000000000):CI Y F.ay [lst u6 l] h (lst u6 (iN l)) h:=by refine p6 ?_;simp[ay];refine lo (Q0 (l0:=l) _ _ rfl l hb ?_);simp;refine⟨af,by simpa using hu,.inl ⟨rfl,rfl⟩⟩
def RdP(h:Hp)(a:V)(l:LnQ):Prop:=bj a=some (I l.length)∧∀(t:Hp)(i:Nat),i<l.length->∃p,ixV (h++t) 1 a (I i)=some p∧ld1 (h++t) p=some (U (nth 0 l i:Nat))
theorem Nc(h:Hp)(l:LnQ):RdP h (lst u6 l) l:=by refine⟨rfl,fun t i hi=>⟨.dptr (l.map u6) i,?_,E5 l _ hi⟩⟩;have:=kv u6 l (h++t) (k:=.i64) (i:=(i:Int)) aa aa;trivial
theorem ES{l:LnQ}{i:Nat}(h:i<n):nth 0 (l.take n) i=nth 0 l i:=by grind[nth]
theorem DX{h:Hp}{s e len tot:Nat}{l:LnQ}{ex fr:Bool}(hg:h[s]?=some (e,.data 1 (l.map u6) ex fr))(ht:tot=l.length)(hl:len<=tot):RdP h (.ref s e 0 len cap tot) (l.take len):=by
 have e1:(l.take len).length=len:=by simp;omega
 refine⟨by simp_all,fun t i hi=>⟨.ptr s e i tot,?_,?_⟩⟩
 .have hs:=bH hg;have:=CW (h:=h++t) (by rw[List.getElem?_append_left hs];exact hg) ht (len:=len) (cap:=cap) (i:=(i:Int)) aa aa .i64;trivial
 .have hs:=bH hg;rw[ES aa];exact Jr (h:=h++t) (by rw[List.getElem?_append_left hs];exact hg) ht aa
def pH(h:Hp)(o:LnQ):Hp:=h++[(1,.data 1 (o.map u6) true false),nnQ]
theorem BC(h:Hp)(o:LnQ):(pH h o)[h.length]?=some (1,.data 1 (o.map u6) true false):=by simp[pH]
theorem UA(h:Hp)(o o':LnQ):(pH h o).set h.length (1,.data 1 (o'.map u6) true false)=pH h o':=by simp[pH]
@[simp]theorem UB(h:Hp)(o:LnQ):(pH h o).length=h.length+2:=by simp[pH]
theorem YC{s:Nat}(hbc:b<=c)(h:Nat.blt s b=true):Nat.blt s c=true:=by grind[Nat.blt_eq]
mutual
theorem Kq{b c:Nat}(hbc:b<=c):∀v:V,under b v=true->under c v=true
 |.ref s ..,h=>YC hbc h
 |.ptr s ..,h=>YC hbc h
 |.agg l,h=>rY hbc l h
 |.tup l,h=>rY hbc l h
 | .fn _ x y,h=>by
  simp only[under,Z8]at h ⊢;exact⟨rY hbc x h.1,rY hbc y h.2⟩
 |.ifc _ x,h=>Kq hbc x h
 |.new ..,h=>by cases h
 |.junk,_=>rfl
 |.d _,_=>rfl
 |.dptr ..,_=>rfl
 |.cut _,h=>by cases h
theorem rY{b c:Nat}(hbc:b<=c):∀l:LwQ,mI b l=true->mI c l=true
 |[],_=>rfl
 | x::l,h=>by
  simp only[mI,Z8]at h ⊢;exact⟨Kq hbc x h.1,rY hbc l h.2⟩
end
theorem G3(hbc:b<=c){x:Bk}(h:bW b x=true):bW c x=true:=by
 cases x with
 |vars l=>exact rY hbc l h
 |none=>rfl
 |data n cs ex fr=>rfl
theorem OV(hbc:b<=c){h:Hp}(hu:(h.all fun x=>bW b x.2)=true):(h.all fun x=>bW c x.2)=true:=by grind[G3]
variable{h:Hp}{t0 t1:V}{da db:LnQ}
theorem Q3(hb:RdP h t1 db)(hsb:aH Z db){x i:Nat}(hx:x<Z)(hN:i+db.length<N)(hNb:N<1000000000000)(k:KL)(h0:Hp)(hh:h0.length=h.length+2)(T:Nat)(o0:LnQ):
  ∀(r c j:Nat)(o:LnQ),j+r=db.length->c<Z->o.length=N->aH Z o->val Z o+Z^(i+j)*(c+x*val Z (db.drop j))=T->(∀m,i+db.length<=m->nth 0 o m=nth 0 o0 m) ->
  (∀c' o',c'<Z->o'.length=N->aH Z o'->val Z o'+Z^(i+db.length)*c'=T->(∀m,i+db.length<=m->nth 0 o' m=nth 0 o0 m)->k (.exit 2) [U (c':Nat)] (pH h o')) ->
  lp (iC (CX Y) h.length (.ref h.length 1 0 N N N) (I i) (U x) t1 (I db.length)) [] h0 [U c,I j] (pH h o) k:=by
 intro r
 induction r with
 | zero=>
  intro c j o hj hc ho hs hv hf hk;have hjl:j=db.length:=aa;subst hjl;have hd:db.drop db.length=[]:=List.drop_length;rw[hd]at hv;simp only[val,Nat.mul_zero,Nat.add_zero]at hv;refine aj ?_;simp[iC]
  grind
 | succ r ih=>
  intro c j o hj hc ho hs hv hf hk;have hjl:j<db.length:=aa;obtain⟨m,hm⟩:=nmQ (i+j);rw[<-hm]at hv;have hij:m<o.length:=aa;obtain⟨y,hy2⟩:=mnQ (db.getD j 0);have hy:=hsb.getD bB j;have hw:=hs.getD bB m;have hst:=UX (B:=Z) (o:=o) (j:=m) (c:=c) (a:=x) (y:=db.getD j 0) (v:=val Z (db.drop (j+1))) hij;rw[<-qC,hv]at hst;rw[hy2]at hy hst
  obtain⟨p,hp⟩:=nmQ (x*y);have hxy:p<=999999999*999999999:=by rw[hp];exact Zn (by grind[Z]) (by grind[Z])
  have hpi:(x:Int)*(y:Int)=(p:Int):=by rw[hp];simp
  rw[<-hp]at hst;have e1:((i:Int)+(j:Int))=(m:Int):=aa;have hZ:Z=1000000000:=rfl;obtain⟨w,hwd⟩:=mnQ (o.getD m 0);rw[hwd]at hst hw;obtain⟨pb,r1,r2⟩:=hb.2 [(1,.data 1 (o.map u6) true false),nnQ] j hjl;rw[show nth 0 db j=y from hy2]at r2;have r3:=CW (BC h o) ho.symm (len:=N) (cap:=N) (i:=(m:Int)) aa aa .i64;have r4:=Jr (BC h o) ho.symm hij
  have r5:=Ra (BC h o) ho.symm hij ((c+w+p)%Z);rw[show nth 0 o m=w from hwd]at r4;rw[Int.toNat_natCast]at r3;rw[UA]at r5
  change ixV (pH h o) 1 t1 (I j)=some pb at r1
  change ld1 (pH h o) pb=_ at r2
  have ih2:=ih ((c+w+p)/Z) (j+1) (o.set m ((c+w+p)%Z)) aa (by grind) (by grind) (hs.set (Y7 _ bB)) (by rw[show i+(j+1)=m+1 by omega];omega)
   (fun n hn=>by rw[<-hf n hn];simp[nth,List.getElem?_set_ne (show m≠n by omega)]) hk
  clear hst hk ih hv;obtain⟨t,ht⟩:=mnQ (c+w+p);have ht2:t<1000000000000000000+2000000000:=by simp only[hZ]at *;omega
  rw[ht]at ih2 r5;obtain⟨tm,htm⟩:=mnQ (t%Z);obtain⟨td,htd⟩:=mnQ (t/Z);rw[htm]at ih2 r5;rw[htd]at ih2;have e2:(c:Int)+((w:Int)+(p:Int))=(t:Int):=aa;have e3:((t:Int)%1000000000)=(tm:Int):=by simp only[hZ]at htm;omega
  have e4:((t:Int)/1000000000)=(td:Int):=by simp only[hZ]at htd;omega
  refine aj ?_;simp(disch:=try exact ag)[iC,r1,r2,r3,r4,e1,hpi,e2,Zx,Zs,e3,e4,r5];trivial
theorem Nv(ha:RdP h t0 da)(hsa:aH Z da)(hb:RdP h t1 db)(hsb:aH Z db)(hla:da.length<100000000)(hlb:db.length<100000000)(k:KL)(h0:Hp)(hh:h0.length=h.length+2)(hN:N=da.length+db.length):
  ∀(r i:Nat)(o:LnQ),i+r=da.length->o.length=N->aH Z o->val Z o=val Z (da.take i)*val Z db->(∀m,i+db.length<=m->nth 0 o m=0) ->
  (∀o',o'.length=N->aH Z o'->val Z o'=val Z da*val Z db->k (.exit 0) [] (pH h o')) ->
  lp (iD (CX Y) h.length t1 (.ref h.length 1 0 N N N) t0 (I da.length)) [] h0 [I i] (pH h o) k:=by
 intro r
 induction r with
 | zero=>
  intro i o hi ho hs hv hf hk;refine aj ?_;have g:¬i<da.length:=aa;simp[iD,g];rw[show i=da.length by omega,Wq]at hv
  grind
 | succ r ih=>
  intro i o hi ho hs hv hf hk;have hil:i<da.length:=aa;obtain⟨pa,r1,r2⟩:=ha.2 [(1,.data 1 (o.map u6) true false),nnQ] i hil;obtain⟨x,hx⟩:=mnQ (nth 0 da i);have hxs:x<Z:=by rw[<-hx];exact hsa.getD bB i
  rw[hx]at r2
  change ixV (pH h o) 1 t0 (I i)=some pa at r1
  change ld1 (pH h o) pa=_ at r2
  have hl:=hb.1;refine aj ?_;simp(disch:=try exact ag)[iD,r1,r2,hl];refine lo (Q3 hb hsb hxs aa aa _ _ (UB h o) (val Z o+Z^i*(x*val Z db)) o db.length 0 0 o aa bB ho hs af (fun _ _=>rfl) fun c' o' hc' ho' hs' hv' hf'=>?_);simp only[iP];obtain⟨m,hm⟩:=nmQ (i+db.length)
  have hml:m<o'.length:=aa;have r3:=CW (BC h o') ho'.symm (len:=N) (cap:=N) (i:=(m:Int)) aa aa .i64;have r5:=Ra (BC h o') ho'.symm hml c';rw[Int.toNat_natCast]at r3;rw[UA]at r5;have e1:((i:Int)+(db.length:Int))=(m:Int):=aa;have e0:nth 0 o' m=0:=by rw[hf' m aa,hf m aa]
  have hvs:=xC (B:=Z) o' m c' hml;rw[show o'.getD m 0=0 from e0]at hvs
  have ih2:=ih (i+1) (o'.set m c') aa (by grind) (hs'.set hc') (by
   rw[yz da hil,show da.getD i 0=x from hx,Nat.add_mul,<-hv]
   grind) (fun n hn=>by
   simp only[nth,Zy,List.getElem?_set_ne (show m≠n by omega)];have:=hf' n aa;rw[hf n aa]at this;exact this) hk
  clear hvs hv' ih hk;simp(disch:=try exact ag)[hl,e1,r3,r5];trivial
theorem Bg(hu:(h.all fun x=>bW h.length x.2)=true)(ha:RdP h t0 da)(hsa:aH Z da)(hb:RdP h t1 db)(hsb:aH Z db)(hla:da.length<100000000)(hlb:db.length<100000000)(hN:N=da.length+db.length):
  CI Y F.bw [t0,t1] h (.new 1 ((bg N (val Z da*val Z db)).map u6) true (dig Z (val Z da*val Z db)).length N) h:=by
 refine vE ?_;have l0:=ha.1;have l1:=hb.1;have e1:((da.length:Int)+(db.length:Int))=(N:Int):=aa;simp(disch:=try exact ag)[bw,l0,l1,e1]
 have e2:h++[(1,Bk.data 1 (List.replicate N (D.int IntKind.u64 0)) true false),nnQ]=pH h (List.replicate N 0):=by
  simp[pH,u6]
 have e3:(h++[(0,Bk.none),(0,Bk.none)]).set h.length (1,Bk.data 1 (List.replicate N (D.int IntKind.u64 0)) true false)=pH h (List.replicate N 0):=by
  simp[pH,u6]
 try simp only[e3]
 try rw[e2]
 refine lo (Nv ha hsa hb hsb hla hlb _ _ (UB ..) hN da.length 0 (List.replicate N 0) aa af (fun x hx=>by grind[bB]) (by simp[oW,val]) (fun m _=>by
  grind[nth]) fun o ho hs hv=>?_)
 simp only[iP];have ht:iN (o.take N)=dig Z (val Z da*val Z db):=by rw[Z6 aa,<-hv,rR ax hs]
 have hu2:((pH h o).all fun x=>bW (pH h o).length x.2)=true:=by
  have hm:(h.all fun x=>bW (pH h o).length x.2)=true:=OV af hu;rw[pH,Yp,<-pH,hm];rfl
 have tr:=uu hu2 (BC h o) ho.symm (len:=N) (cap:=N) (Z7 _) aa (Z7 _);rw[ht]at tr;refine pT tr ?_ af;have hol:o=bg N (val Z da*val Z db):=by rw[<-hv,<-ho];exact DK o hs
 rw[<-hol];refine⟨by simp[pH],aa,.inr (.inr (.inl ⟨h.length,1,_,N,1,o.map u6,true,by grind,Z7 _,by simp[aw,pH],rfl⟩))⟩
def trimS(n:Nat):LnQ:=if n=0 then[]else[n]
theorem SP(n:Nat):iN [n]=trimS n:=by rfl
theorem QZ(n:Nat):val Z (trimS n)=n:=by grind[trimS,val]
theorem Kv(h:n<Z):aH Z (trimS n):=by
 unfold trimS;split
 .exact fun x hx=>by cases hx
 .exact fun x hx=>by grind
theorem EA(hu:(h.all fun x=>bW h.length x.2)=true)(hf:f<Z)(hf0:0<f)(ha:RdP (h++[nnQ,nnQ]) t0 da)(hsa:aH Z da)(hla:da.length<100000000)(hN:N=da.length+1):
  CI Y F.cj [t0,U f] h (.new 1 ((bg N (val Z da*f)).map u6) true (dig Z (val Z da*f)).length N) h:=by
 refine uJ ?_
 have hli:∀h:Hp,cO 1 [D.int .u64 0] [(0,U f)] h=some ([u6 f],h):=fun h=>by
  rfl
 have hu2:((h++[(0,Bk.none),nnQ]).all fun x=>bW (h++[(0,Bk.none),nnQ]).length x.2)=true:=by
  rw[Yp,OV af hu];rfl
 simp[cj,hli];have t1:=ZK hu2 (l:=[f]) af;rw[SP]at t1;refine pT (args:=[lst u6 [f]]) t1 ?_ (by simp[lst]) (by simp[lst]);have hfl:(trimS f).length=1:=by simp[trimS,show f≠0 by omega]
 have t2:=Bg hu2 ha hsa (Nc _ (trimS f)) (Kv hf) hla aa (N:=N) aa;rw[QZ]at t2;simp;refine fe (e:=0) (b:=.none) t2 af ?_;refine⟨af,aa,.inr (.inr (.inl ⟨h.length+1,1,_,N,1,(bg N (val Z da*f)).map u6,true,by rfl,aa,by simp[aw],rfl⟩))⟩
def sP(h:Hp)(s e:Nat)(ex:Bool)(l:LnQ):Hp:=h.set s (e,.data 1 (l.map u6) ex false)
theorem sY{h:Hp}{s e:Nat}{ex:Bool}{l:LnQ}(hs:s<h.length):(sP h s e ex l)[s]?=some (e,.data 1 (l.map u6) ex false):=by simp[sP,hs]
theorem TD{h:Hp}{s e:Nat}{ex:Bool}{l l':LnQ}:(sP h s e ex l).set s (e,.data 1 (l'.map u6) ex false)=sP h s e ex l':=by simp[sP]
@[simp]theorem ahM{h:Hp}{s e:Nat}{ex:Bool}{l:LnQ}:(sP h s e ex l).length=h.length:=by simp[sP]
theorem Bp{h:Hp}{s e:Nat}{ex:Bool}{l:LnQ}(hu:(h.all fun x=>bW b x.2)=true):((sP h s e ex l).all fun x=>bW b x.2)=true:=by
 rw[Zv]at hu ⊢;intro x hx;rcases Yq hx with h1|h1
 .grind
 .rw[h1];rfl
def RdS(P:Hp->Prop)(a:V)(l:LnQ):Prop:=bj a=some (I l.length)∧∀(t:Hp)(i:Nat),P t->i<l.length->∃p,ixV t 1 a (I i)=some p∧ld1 t p=some (U (nth 0 l i:Nat))
def jb(g at_:Nat)(db:LnQ):Nat->Nat->Nat->Nat->LnQ->Nat×LnQ
 |0,_,_,w,l=>(w,l)
 | r+1,k,c,w,l=>
  if nth 0 l (at_+k)<(c+g*nth 0 db k)%Z+w then jb g at_ db r (k+1) ((c+g*nth 0 db k)/Z) 1 (l.set (at_+k) (nth 0 l (at_+k)+Z-((c+g*nth 0 db k)%Z+w)))
  else jb g at_ db r (k+1) ((c+g*nth 0 db k)/Z) 0 (l.set (at_+k) (nth 0 l (at_+k)-((c+g*nth 0 db k)%Z+w)))
variable{h:Hp}{s e tot at_ g:Nat}{ex:Bool}{t1:V}{db:LnQ}
theorem Q4(hs:s<h.length)(hb:RdS (fun t=>∃l,t=sP h s e ex l) t1 db)(hsb:aH Z db)(hg:g<Z)(hat:at_+db.length<tot)(ht:tot<1000000000000){len:Nat}(hlen:tot=len)(k:KL)(h0:Hp)(hh:h0.length=h.length):
  ∀(r j c w:Nat)(l:LnQ),j+r=db.length+1->c<Z->w<=1->l.length=tot->aH Z l ->
  k (.exit 0) [I ((jb g at_ db r j c w l).1:Nat)] (sP h s e ex (jb g at_ db r j c w l).2) ->
  lp (fT (CX Y) h.length (.ref s e 0 len cap tot) t1 (U g) (I at_)) [] h0 [U c,I w,I j] (sP h s e ex l) k:=by
 intro r
 induction r with
 | zero=>
  intro j c w l hj hc hw hl hsl hk;refine aj ?_;have g1:¬j<=db.length:=aa;have hl1:=hb.1;simp[fT,hl1,g1];exact hk
 | succ r ih=>
  intro j c w l hj hc hw hl hsl hk;have hjl:j<=db.length:=aa;obtain⟨m,hm⟩:=nmQ (at_+j);have hml:m<l.length:=aa;obtain⟨y,hy⟩:=mnQ (nth 0 db j);have hys:y<Z:=by rw[<-hy];exact hsb.getD bB j
  obtain⟨x,hx⟩:=mnQ (nth 0 l m);have hxs:x<Z:=by rw[<-hx];exact hsl.getD bB m
  obtain⟨p,hp⟩:=nmQ (g*y);have hxy:p<=999999999*999999999:=by rw[hp];exact Zn (by grind[Z]) (by grind[Z])
  have hpi:(g:Int)*(y:Int)=(p:Int):=by rw[hp];simp
  have e1:((at_:Int)+(j:Int))=(m:Int):=aa;have hZ:Z=1000000000:=rfl;have hl1:=hb.1;have r3:=CW (sY (e:=e) (ex:=ex) (l:=l) hs) hl.symm (len:=len) (cap:=cap) (i:=(m:Int)) aa aa .i64;have r4:=Jr (sY (e:=e) (ex:=ex) (l:=l) hs) hl.symm hml;have r5:=Ra (sY (e:=e) (ex:=ex) (l:=l) hs) hl.symm hml;simp only[TD]at r5;rw[hx]at r4;rw[Int.toNat_natCast]at r3
  rw[jb,hy,<-hp,<-hm,hx]at hk;have hsm:(∀v,v<Z->aH Z (l.set m v)):=fun v hv=>hsl.set hv
  obtain⟨t,ht1⟩:=mnQ (c+p);rw[ht1]at hk;obtain⟨tm,htm⟩:=mnQ (t%Z);obtain⟨td,htd⟩:=mnQ (t/Z);rw[htm,htd]at hk;have ht2:t<1000000000000000000:=by simp only[hZ]at *;omega
  have htdZ:td<Z:=by simp only[hZ]at *;omega
  have htmZ:tm<Z:=by simp only[hZ]at *;omega
  have e3:((t:Int)%1000000000)=(tm:Int):=by simp only[hZ]at htm;omega
  have e4:((t:Int)/1000000000)=(td:Int):=by simp only[hZ]at htd;omega
  have main:∀(v:Nat)(w':Nat),v<Z->w'<=1->k (.exit 0) [I ((jb g at_ db r (j+1) td w' (l.set m v)).1:Nat)] (sP h s e ex (jb g at_ db r (j+1) td w' (l.set m v)).2) ->
    lp (fT (CX Y) h.length (.ref s e 0 len cap tot) t1 (U g) (I at_)) [] h0 [U td,I w',I (j+1:Nat)] (sP h s e ex (l.set m v)) k:=fun v w' hv hw' hk'=>
   ih (j+1) td w' (l.set m v) aa htdZ hw' (by grind) (hsm v hv) hk'
  clear ih;have e2:(c:Int)+(p:Int)=(t:Int):=aa;refine aj ?_;simp[fT,hl1,hjl];refine jD (l:=[U t]) (h:=sP h s e ex l) (fun q=>?_) ?_
  .by_cases g2:j<db.length
   .obtain⟨pb,q1,q2⟩:=hb.2 (sP h s e ex l) j ⟨l,rfl⟩ g2;rw[hy]at q2;simp(disch:=try exact ag)[g2,q1,q2,hpi,e2]
   .have hy0:nth 0 db j=0:=by simp[nth,List.getElem?_eq_none (show db.length<=j by omega)]
    rw[hy]at hy0;subst hy0;simp only[Nat.mul_zero]at hp;subst hp;obtain rfl:c=t:=aa;simp[g2]
  .simp(disch:=try exact ag)[e1,r3,r4,Zx,Zs,e3,e4];by_cases hxt:x<tm+w
   .rw[if_pos hxt]at hk;obtain⟨v,hv⟩:=mnQ (x+Z-(tm+w));rw[hv]at hk;have hvZ:v<Z:=aa;have e5:(x:Int)-tm-w<0:=aa;have e6:(x:Int)-tm-w+1000000000=v:=by simp only[hZ]at hv;omega
    have r6:=r5 v;refine jD (l:=[I v,I (1:Nat)]) (h:=sP h s e ex l) (fun q=>?_) ?_
    .simp(disch:=try exact ag)[e5,e6]
    .simp(disch:=try exact ag)[e1,r3,r6];simpa using main v 1 hvZ (Z7 _) hk
   .rw[if_neg hxt]at hk;obtain⟨v,hv⟩:=mnQ (x-(tm+w));rw[hv]at hk;have hvZ:v<Z:=aa;have e5:¬((x:Int)-tm-w<0):=aa;have e6:(x:Int)-tm-w=v:=aa;have r6:=r5 v;refine jD (l:=[I v,I (0:Nat)]) (h:=sP h s e ex l) (fun q=>?_) ?_
    .rw[e6]at e5 ⊢;simp[e5]
    .simp(disch:=try exact ag)[e1,r3,r6];simpa using main v 0 hvZ (Yl _) hk
theorem KE(hu:(h.all fun x=>bW h.length x.2)=true)(hs:s<h.length)(hb:RdS (fun t=>∃l,t=sP h s e ex l) t1 db)(hsb:aH Z db)(hg:g<Z)(hat:at_+db.length<tot)(ht:tot<1000000000000){l:LnQ}(hl:l.length=tot)(hsl:aH Z l):
  CI Y F.dC [.ref s e 0 tot tot tot,t1,U g,I at_] (sP h s e ex l) (B (decide (0<(jb g at_ db (db.length+1) 0 0 0 l).1))) (sP h s e ex (jb g at_ db (db.length+1) 0 0 0 l).2):=by refine wl ?_;simp[dC];refine lo (Q4 hs hb hsb hg hat ht rfl _ _ af (db.length+1) 0 0 0 l aa bB (Yl _) hl hsl ?_);simp;refine⟨(Z6 af).symm,?_,.inl ⟨rfl,rfl⟩⟩;exact Bp hu
def rF(at_:Nat)(db:LnQ):Nat->Nat->Nat->LnQ->LnQ
 |0,_,_,l=>l
 |r+1,k,c,l=>rF at_ db r (k+1) ((c+nth 0 l (at_+k)+nth 0 db k)/Z) (l.set (at_+k) ((c+nth 0 l (at_+k)+nth 0 db k)%Z))
theorem Sz(hs:s<h.length)(hb:RdS (fun t=>∃l,t=sP h s e ex l) t1 db)(hsb:aH Z db)(hat:at_+db.length<tot)(ht:tot<1000000000000){len:Nat}(hlen:tot=len)(k:KL)(h0:Hp)(hh:h0.length=h.length):
  ∀(r j c:Nat)(l:LnQ),j+r=db.length+1->c<Z->l.length=tot->aH Z l ->
  k (.exit 0) [] (sP h s e ex (rF at_ db r j c l)) ->
  lp (iX (CX Y) h.length (.ref s e 0 len cap tot) t1 (I at_)) [] h0 [U c,I j] (sP h s e ex l) k:=by
 intro r
 induction r with
 | zero=>
  intro j c l hj hc hl hsl hk;refine aj ?_;have g1:¬j<=db.length:=aa;have hl1:=hb.1;simp[iX,hl1,g1];exact hk
 | succ r ih=>
  intro j c l hj hc hl hsl hk;have hjl:j<=db.length:=aa;obtain⟨m,hm⟩:=nmQ (at_+j);have hml:m<l.length:=aa;obtain⟨y,hy⟩:=mnQ (nth 0 db j);have hys:y<Z:=by rw[<-hy];exact hsb.getD bB j
  obtain⟨x,hx⟩:=mnQ (nth 0 l m);have hxs:x<Z:=by rw[<-hx];exact hsl.getD bB m
  have e1:((at_:Int)+(j:Int))=(m:Int):=aa;have hZ:Z=1000000000:=rfl;have hl1:=hb.1;have r3:=CW (sY (e:=e) (ex:=ex) (l:=l) hs) hl.symm (len:=len) (cap:=cap) (i:=(m:Int)) aa aa .i64;have r4:=Jr (sY (e:=e) (ex:=ex) (l:=l) hs) hl.symm hml;have r5:=Ra (sY (e:=e) (ex:=ex) (l:=l) hs) hl.symm hml;simp only[TD]at r5;rw[hx]at r4;rw[Int.toNat_natCast]at r3
  rw[rF,hy,<-hm,hx]at hk;obtain⟨t,ht1⟩:=mnQ (c+x+y);rw[ht1]at hk;obtain⟨tm,htm⟩:=mnQ (t%Z);obtain⟨td,htd⟩:=mnQ (t/Z);rw[htm,htd]at hk;have ht2:t<3000000000:=by simp only[hZ]at *;omega
  have htdZ:td<Z:=by simp only[hZ]at *;omega
  have htmZ:tm<Z:=by simp only[hZ]at *;omega
  have e3:((t:Int)%1000000000)=(tm:Int):=by simp only[hZ]at htm;omega
  have e4:((t:Int)/1000000000)=(td:Int):=by simp only[hZ]at htd;omega
  have ih2:=ih (j+1) td (l.set m tm) aa htdZ (by grind) (hsl.set htmZ) hk;have r6:=r5 tm;clear ih;refine aj ?_;simp(disch:=try exact ag)[iX,hl1,hjl,e1,r3,r4];refine jD (l:=[U t]) (h:=sP h s e ex l) (fun q=>?_) ?_
  .by_cases g2:j<db.length
   .obtain⟨pb,q1,q2⟩:=hb.2 (sP h s e ex l) j ⟨l,rfl⟩ g2;rw[hy]at q2;have e2:(c:Int)+(x:Int)+(y:Int)=(t:Int):=aa;simp(disch:=try exact ag)[g2,q1,q2,e2]
   .have hy0:nth 0 db j=0:=by simp[nth,List.getElem?_eq_none (show db.length<=j by omega)]
    rw[hy]at hy0;subst hy0;have e2:(c:Int)+(x:Int)=(t:Int):=aa;simp[g2,e2]
  .simp(disch:=try exact ag)[e1,r3,r4,Zx,Zs,e3,e4,r6];trivial
theorem MZ(hu:(h.all fun x=>bW h.length x.2)=true)(hs:s<h.length)(hb:RdS (fun t=>∃l,t=sP h s e ex l) t1 db)(hsb:aH Z db)(hat:at_+db.length<tot)(ht:tot<1000000000000){l:LnQ}(hl:l.length=tot)(hsl:aH Z l):
  CI Y F.cL [.ref s e 0 tot tot tot,t1,I at_] (sP h s e ex l) (.tup []) (sP h s e ex (rF at_ db (db.length+1) 0 0 l)):=by refine wq ?_;simp[cL];refine lo (Sz hs hb hsb hat ht rfl _ _ af (db.length+1) 0 0 l aa bB hl hsl ?_);simp;refine⟨(Z6 af).symm,?_,.inl ⟨rfl,rfl⟩⟩;exact Bp hu
end Go.Vm
namespace Go.Big
section
variable{B:Nat}
theorem mE(l:LnQ)(i:Nat)(h:i<=l.length):val B l=val B (l.take i)+B^i*val B (l.drop i):=by have:=val_append (B:=B) (l.take i) (l.drop i);rw[Yi,Zr,Yv h]at this;exact this
theorem ZJ(l:LnQ)(z:Nat):val B (l++List.replicate z 0)=val B l:=by rw[val_append,oW];simp
theorem Kx(hB:0<B){l:LnQ}{n:Nat}(h:val B l<B^n):val B (l.drop n)=0:=by
 rcases Zi n l.length with h1|h1
 .have:=mE (B:=B) l n aa;rcases Zd (val B (l.drop n))with h2|h2
  .exact h2
  .have:=Zw (B^n) h2;omega
 .rw[Zb h1];rfl
variable{L lD lB x0 x1 x2 y0 y1 D v g r hi:Nat}
structure Gs(B L lD lB x0 x1 x2 y0 y1 D v hi:Nat):Prop where
 B0:0<B
 D_eq:D=lD+L*(x0+B*hi)
 v_eq:v=lB+L*(y0+B*y1)
 lDL:lD<L
 lBL:lB<L
 hx0:x0<B
 hy0:y0<B
 hy1:0<y1
 hD:D<B*v
theorem Gs.vpos(G:Gs B L lD lB x0 x1 x2 y0 y1 D v hi):L*B<=v:=by
 rw[G.v_eq]
 have h1:L*B<=L*(y0+B*y1):=Zw L (by
  have:=Zw B G.hy1;omega)
 omega
theorem Gs.pos(G:Gs B L lD lB x0 x1 x2 y0 y1 D v hi):0<v:=by have:=G.vpos;have h1:=G.lDL;have h2:0<L*B:=Yx aa G.B0;omega
theorem Gs.first(G:Gs B L lD lB x0 x1 x2 y0 y1 D v hi):D/v<=hi/y1:=by
 have hvp:=G.pos;rw[W8 G.hy1];have h1:D/v*v<=D:=Ws D v;generalize D/v=q at *
 have h2:q*(L*(B*y1))<=q*v:=Zw q (by
  rw[G.v_eq];have:=Zw L (Nat.le_add_left (B*y1) y0);omega)
 have h3:D<L*B*(hi+1):=by
  rw[G.D_eq];have:=G.lDL;have h4:=Zw L (show x0+1+B*hi<=B*(hi+1) by rw[Zq];have:=G.hx0;omega);rw[<-Nat.mul_assoc]at h4
  have h5:L*(x0+1+B*hi)=L+L*(x0+B*hi):=by
   rw[show x0+1+B*hi=1+(x0+B*hi) by omega,Zq];simp
  omega
 have h6:q*(L*(B*y1))=L*B*(q*y1):=by
  rw[<-Nat.mul_assoc L B y1,Y1]
 have h7:L*B*(q*y1)<L*B*(hi+1):=aa;have:=W5 h7;omega
theorem Gs.far(G:Gs B L lD lB x0 x1 x2 y0 y1 D v hi)(h:B<=g):D/v<g:=by have:=(Xt G.pos).2 G.hD;omega
theorem Gs.over(G:Gs B L lD lB x0 x1 x2 y0 y1 D v hi)(he:g*y1+r=hi)(h:r*B+x0<g*y0):D/v<g:=by
 rw[Xt G.pos]
 have h1:L*(x0+1+B*hi)<=g*v:=by
  rw[G.v_eq];have h2:g*(L*(y0+B*y1))<=g*(lB+L*(y0+B*y1)):=Zw g aa
  have h3:g*(L*(y0+B*y1))=L*(g*y0+B*(g*y1)):=by
   rw[Y1 g L,Zq,Y1 g B]
  have h4:L*(x0+1+B*hi)<=L*(g*y0+B*(g*y1)):=Zw L (by
   rw[<-he,Zq,Zt B r];omega)
  omega
 have h5:L*(x0+1+B*hi)=L+L*(x0+B*hi):=by
  rw[show x0+1+B*hi=1+(x0+B*hi) by omega,Zq];simp
 have:=G.lDL;rw[G.D_eq];omega
theorem Gs.near(G:Gs B L lD lB x0 x1 x2 y0 y1 D v hi)(he:g*y1+r=hi)(hg:g<B)(h:¬(r<B∧r*B+x0<g*y0)):g*v<D+v:=by
 have h0:g*(y0+B*y1)<=x0+B*hi:=by
  rw[Zq,Y1 g B,<-he,Zq];by_cases hr:r<B
  .have:¬r*B+x0<g*y0:=fun h'=>h ⟨hr,h'⟩
   rw[Zt r B]at this;omega
  .have h1:g*y0<=B*B:=Zn aa (by have:=G.hy0;omega);have h2:=Zw B (show B<=r by omega);omega
 have h1:=Zw L h0
 have h2:g*lB<L*B:=by
  have:=Zn (show g<=B-1 by omega) (show lB<=L by have:=G.lBL;omega);have hL:0<L:=by have:=G.lBL;omega
  have h3:(B-1)*L+L=L*B:=by
   have:=G.B0;obtain⟨b,rfl⟩:∃b,B=b+1:=⟨B-1,aa⟩;rw[Yd,Zt L,X5]
  omega
 have h3:g*v=g*lB+L*(g*(y0+B*y1)):=by
  rw[G.v_eq,Zq,Y1 g L]
 have h4:=G.vpos;have h5:=G.D_eq;omega
theorem Gs.le(G:Gs B L lD lB x0 x1 x2 y0 y1 D v hi)(h:g*v<D+v):g<=D/v+1:=by
 have h1:=Yf D v;have h2:=Y7 D G.pos;rcases Zi (D/v+1) g with h3|h3
 .have h4:=Zz v (show D/v+2<=g by omega);rw[Nat.add_mul,Zt (D/v) v]at h4;omega
 .exact h3
end
end Go.Big
namespace Go.Vm
open Go Go.Am Go.Big
variable{l:LnQ}{h h1 h2:Hp}{a b va vb:V}
theorem yV{m n v:Nat}(h:m≠n):nth 0 (l.set m v) n=nth 0 l n:=by simp[nth,List.getElem?_set_ne h]
structure Frm(l l':LnQ)(a b:Nat):Prop where
 len:l'.length=l.length
 same:∀m,m<a∨b<=m->nth 0 l' m=nth 0 l m
theorem Ee{g at_:Nat}(hg:g<Z){db:LnQ}(hsb:aH Z db):∀(r j c w:Nat)(l:LnQ),at_+j+r<=l.length->c<Z->w<=1->aH Z l->c+g*val Z (db.drop j)<Z^r ->
  Frm l (jb g at_ db r j c w l).2 (at_+j) (at_+j+r)∧aH Z (jb g at_ db r j c w l).2∧(jb g at_ db r j c w l).1<=1 ∧
  val Z (jb g at_ db r j c w l).2+Z^(at_+j)*(c+g*val Z (db.drop j)+w)=val Z l+Z^(at_+j+r)*(jb g at_ db r j c w l).1
 | 0,j,c,w,l,hl,hc,hw,hs,hT=>by
  have h0:c+g*val Z (db.drop j)=0:=by simp at hT;omega
  refine⟨⟨rfl,fun _ _=>rfl⟩,hs,hw,?_⟩;rw[h0,Zp];rfl
 | r+1,j,c,w,l,hl,hc,hw,hs,hT=>by
  obtain⟨m,hm⟩:=nmQ (at_+j);have hml:m<l.length:=aa;obtain⟨x,hx⟩:=mnQ (nth 0 l m);have hxs:x<Z:=by rw[<-hx];exact hs.getD bB m
  obtain⟨y,hy⟩:=mnQ (nth 0 db j);rw[jb,hy,<-hm,hx];have hvd:val Z (db.drop j)=y+Z*val Z (db.drop (j+1)):=by rw[qC,show db.getD j 0=y from hy]
  obtain⟨V,hV⟩:=mnQ (val Z (db.drop (j+1)));rw[hvd,hV]at hT ⊢;obtain⟨t,ht⟩:=mnQ (c+g*y);rw[ht];obtain⟨tm,htm⟩:=mnQ (t%Z);obtain⟨td,htd⟩:=mnQ (t/Z);have hdm:t=tm+Z*td:=by rw[<-htm,<-htd];exact(Xk t Z).symm
  have htmZ:tm<Z:=by rw[<-htm];exact Y7 _ bB
  rw[htm,htd]
  have hsum:c+g*(y+Z*V)=tm+Z*(td+g*V):=by
   rw[Zq,Y1 g Z,Zq];omega
  rw[hsum]at hT ⊢
  have hT2:td+g*V<Z^r:=by
   rw[Nat.pow_succ,Zt (Z^r)]at hT;have:Z*(td+g*V)<Z*Z^r:=aa;exact W5 this
  have htdZ:td<Z∨True:=.inr trivial
  have step:∀(v w':Nat),v<Z->w'<=1->v+(tm+w)=x+Z*w'->td<Z ->
    Frm l (jb g at_ db r (j+1) td w' (l.set m v)).2 (at_+j) (at_+j+(r+1))∧aH Z (jb g at_ db r (j+1) td w' (l.set m v)).2∧(jb g at_ db r (j+1) td w' (l.set m v)).1<=1 ∧
    val Z (jb g at_ db r (j+1) td w' (l.set m v)).2+Z^m*(tm+Z*(td+g*V)+w)=val Z l+Z^(m+(r+1))*(jb g at_ db r (j+1) td w' (l.set m v)).1:=by
   intro v w' hv hw' he htd2;obtain⟨⟨f1,f2⟩,i2,i3,i4⟩:=Ee hg hsb (g:=g) (at_:=at_) r (j+1) td w' (l.set m v) bK htd2 hw' (hs.set hv) (by rw[hV];exact hT2);refine⟨⟨by rw[f1];simp,fun n hn=>?_⟩,i2,i3,?_⟩
   .rw[f2 n aa,yV aa]
   .have hvs:=xC (B:=Z) l m v hml;rw[show l.getD m 0=x from hx]at hvs;rw[hV,show at_+(j+1)=m+1 by omega]at i4;rw[show m+(r+1)=m+1+r by omega];generalize val Z (jb g at_ db r (j+1) td w' (l.set m v)).2=R at *;generalize(jb g at_ db r (j+1) td w' (l.set m v)).1=W at *;generalize val Z (l.set m v)=R1 at *;generalize val Z l=R0 at *;generalize td+g*V=T at *
    rw[Nat.pow_succ Z m,Nat.mul_assoc (Z^m) Z (T+w')]at i4;generalize Z^m=P at *;have h1:P*v+P*(tm+w)=P*x+P*(Z*w'):=by rw[<-Zq,<-Zq,he]
    have h2:P*(Z*(T+w'))=P*(Z*T)+P*(Z*w'):=by rw[Zq Z,Zq]
    have h3:P*(tm+Z*T+w)=P*(tm+w)+P*(Z*T):=by rw[<-Zq];congr 1;omega
    omega
  have htd2:td<Z:=by
   have hy2:y<Z:=by rw[<-hy];exact hsb.getD bB j
   have:=Zn (show g<=999999999 by simp only[Z]at hg;omega) (show y<=999999999 by simp only[Z]at hy2;omega);simp only[Z]at *;omega
  rw[<-hm]at step;by_cases hlt:x<tm+w
  .simp only[if_pos hlt];exact step _ 1 aa (Z7 _) aa htd2
  .simp only[if_neg hlt];exact step _ 0 aa (Yl _) aa htd2
theorem FT{at_:Nat}{db:LnQ}(hsb:aH Z db):∀(r j c:Nat)(l:LnQ),at_+j+r<=l.length->c<=1->aH Z l ->
  Frm l (rF at_ db r j c l) (at_+j) (at_+j+r)∧aH Z (rF at_ db r j c l) ∧
  ∃ce,val Z (rF at_ db r j c l)+Z^(at_+j+r)*(ce+val Z (db.drop (j+r)))=val Z l+Z^(at_+j)*(c+val Z (db.drop j))
 |0,j,c,l,hl,hc,hs=>⟨⟨rfl,fun _ _=>rfl⟩,hs,c,rfl⟩
 | r+1,j,c,l,hl,hc,hs=>by
  obtain⟨m,hm⟩:=nmQ (at_+j);have hml:m<l.length:=aa;obtain⟨x,hx⟩:=mnQ (nth 0 l m);have hxs:x<Z:=by rw[<-hx];exact hs.getD bB m
  obtain⟨y,hy⟩:=mnQ (nth 0 db j);have hys:y<Z:=by rw[<-hy];exact hsb.getD bB j
  rw[rF,hy,<-hm,hx];have hvd:val Z (db.drop j)=y+Z*val Z (db.drop (j+1)):=by rw[qC,show db.getD j 0=y from hy]
  obtain⟨t,ht⟩:=mnQ (c+x+y);rw[ht];obtain⟨tm,htm⟩:=mnQ (t%Z);obtain⟨td,htd⟩:=mnQ (t/Z);have hdm:t=tm+Z*td:=by rw[<-htm,<-htd];exact(Xk t Z).symm
  have htmZ:tm<Z:=by rw[<-htm];exact Y7 _ bB
  have htd1:td<=1:=by simp only[Z]at *;omega
  rw[htm,htd];obtain⟨⟨f1,f2⟩,i2,ce,i4⟩:=FT hsb (at_:=at_) r (j+1) td (l.set m tm) bK htd1 (hs.set htmZ);refine⟨⟨by rw[f1];simp,fun n hn=>?_⟩,i2,ce,?_⟩
  .rw[f2 n aa,yV aa]
  .have hvs:=xC (B:=Z) l m tm hml;rw[show l.getD m 0=x from hx]at hvs;rw[show at_+(j+1)=m+1 by omega,show j+1+r=j+(r+1) by omega]at i4;rw[show m+(r+1)=m+1+r by omega,hvd];generalize val Z (rF at_ db r (j+1) td (l.set m tm))=R at *;generalize val Z (l.set m tm)=R1 at *;generalize val Z l=R0 at *;generalize val Z (db.drop (j+1))=V at *
   rw[Nat.pow_succ Z m,Nat.mul_assoc (Z^m) Z (td+V)]at i4;generalize Z^(m+1+r)*(ce+val Z (db.drop (j+(r+1))))=Q at *;generalize Z^m=P at *;have h1:P*tm+P*(Z*td)=P*x+P*(c+y):=by rw[<-Zq,<-Zq,<-hdm,<-ht];congr 1;omega
   have h2:P*(Z*(td+V))=P*(Z*td)+P*(Z*V):=by rw[Zq Z,Zq]
   have h3:P*(c+(y+Z*V))=P*(c+y)+P*(Z*V):=by rw[<-Zq];congr 1;omega
   omega
theorem Frm.take{l l':LnQ}{a b:Nat}(h:Frm l l' a b):l'.take a=l.take a:=by
 refine Wp (by simp[h.len]) fun i h1 h2=>?_
 simp only[Zr]at h1 h2;have:=h.same i (.inl aa);rw[aN _ _ _ aa,aN _ _ _ aa]at this;simpa using this
theorem Frm.drop{l l':LnQ}{a b:Nat}(h:Frm l l' a b):l'.drop b=l.drop b:=by
 refine Wp (by simp[h.len]) fun i h1 h2=>?_
 simp only[Yo]at h1 h2;have:=h.same (b+i) (.inr aa);rw[aN _ _ _ aa,aN _ _ _ aa]at this;simpa using this
theorem MC{al db:LnQ}{i g:Nat}(hsa:aH Z al)(hsb:aH Z db)(hi:i+db.length<al.length)(hg:g<Z)(hD:val Z (al.drop i)<Z*val Z db)(h1:g*val Z db<val Z (al.drop i)+val Z db)(h2:val Z (al.drop i)/val Z db<=g)
  {w:Nat} {l1 l2:LnQ} (hw:(jb g i db (db.length+1) 0 0 0 al).1=w) (hl1:(jb g i db (db.length+1) 0 0 0 al).2=l1) (hl2:rF i db (db.length+1) 0 0 l1=l2) :
  (l1.length=al.length∧aH Z l1) ∧
  (w=0->aH Z l1∧l1.length=al.length∧l1.take i=al.take i∧g=val Z (al.drop i)/val Z db∧val Z (l1.drop i)=val Z (al.drop i)%val Z db) ∧
  (0<w->aH Z l2∧l2.length=al.length∧l2.take i=al.take i∧0<g∧g-1=val Z (al.drop i)/val Z db∧val Z (l2.drop i)=val Z (al.drop i)%val Z db):=by
 have hvb:=jE (B:=Z) bB hsb
 have hvp:0<val Z db:=by
  rcases Zd (val Z db)with h|h
  .rw[h]at hD;simp at hD
  .exact h
 have hpow:Z^(db.length+1)=Z*Z^db.length:=by rw[Nat.pow_succ,Zt]
 have hDlt:val Z (al.drop i)<Z^(db.length+1):=by
  rw[hpow];exact Nat.lt_trans hD (Nat.mul_lt_mul_of_pos_left hvb bB)
 have htop:val Z (al.drop (i+(db.length+1)))=0:=by
  rw[<-List.drop_drop];exact Kx bB hDlt
 obtain ⟨f,s1,w1,e⟩:=Ee hg hsb (db.length+1) 0 0 0 al aa bB (Yl _) hsa (by
  rw[Zj,Zp,hpow];have a1:=Zw g (show val Z db<=Z^db.length by omega);have a2:=Yb hg (show 0<Z^db.length from Yj bB);omega) (at_:=i) (g:=g)
 rw[hw,hl1]at e;rw[hl1]at f s1;rw[hw]at w1;simp only[Nat.add_zero,Zj,Zp]at e f;have len1:=f.len
 have below:∀{l:LnQ},aH Z l->l.drop (i+(db.length+1))=al.drop (i+(db.length+1))->val Z (l.drop i)<Z^(db.length+1):=fun{l} hs he=>by
  have hz:=mE (B:=Z) (l.drop i) (min (db.length+1) (l.drop i).length) (Nat.min_le_right ..);by_cases hc:db.length+1<=(l.drop i).length
  .rw[Yv hc,List.drop_drop,he,htop,Nat.mul_zero,Nat.add_zero]at hz;rw[hz];have:=jE (B:=Z) bB ((hs.drop i).take (db.length+1));rw[Zr,Yv hc]at this;exact this
  .have:=jE (B:=Z) bB (hs.drop i);exact Z1 this (Z4 bB aa)
 have hsp:∀{l:LnQ},l.length=al.length->l.take i=al.take i->val Z l=val Z (al.take i)+Z^i*val Z (l.drop i):=fun{l} h h'=>by
  rw[<-h'];exact mE l i aa
 have hal:=mE (B:=Z) al i aa;have hdm:=Yf (val Z (al.drop i)) (val Z db);have hml:=Y7 (val Z (al.drop i)) hvp;have b1:=below s1 f.drop;rw[hsp len1 f.take,hal,Y6,Nat.mul_assoc (Z^i)]at e
 have e2:val Z (l1.drop i)+g*val Z db=val Z (al.drop i)+Z^(db.length+1)*w:=by
  have:Z^i*(val Z (l1.drop i)+g*val Z db)=Z^i*(val Z (al.drop i)+Z^(db.length+1)*w):=by rw[Zq,Zq];omega
  exact Xv (Yj bB) this
 obtain⟨D,hDe⟩:=mnQ (val Z (al.drop i));obtain⟨v,hve⟩:=mnQ (val Z db);refine⟨⟨len1,s1⟩,fun w0=>?_,fun wp=>?_⟩
 .subst w0;rw[Nat.mul_zero,Nat.add_zero]at e2
  have hq:g=val Z (al.drop i)/val Z db:=by
   refine Nat.le_antisymm ?_ h2;rw[W8 hvp];omega
  refine⟨s1,len1,f.take,hq,?_⟩;rw[<-hq]at hdm;rw[Zt]at hdm;omega
 .have hw1:w=1:=aa;subst hw1;obtain⟨f2,s2,ce,e3⟩:=FT hsb (at_:=i) (db.length+1) 0 0 l1 aa (Yl _) s1;rw[hl2]at f2 s2 e3;simp only[Nat.add_zero,Zj,Zp]at e3 f2;have hdn:db.drop (db.length+1)=[]:=Zb aa;rw[hdn,show val Z []=0 from rfl]at e3;simp only[Nat.add_zero]at e3
  have len2:l2.length=al.length:=by rw[f2.len,len1]
  have tk2:l2.take i=al.take i:=by rw[f2.take,f.take]
  have b2:=below s2 (by rw[f2.drop,f.drop]);rw[hsp len2 tk2,hsp len1 f.take,Y6,Nat.mul_assoc (Z^i)]at e3
  have e4:val Z (l2.drop i)+Z^(db.length+1)*ce=val Z (l1.drop i)+val Z db:=by
   have:Z^i*(val Z (l2.drop i)+Z^(db.length+1)*ce)=Z^i*(val Z (l1.drop i)+val Z db):=by rw[Zq,Zq];omega
   exact Xv (Yj bB) this
  have hgl:g*val Z db<=(val Z (al.drop i)/val Z db+1)*val Z db:=by
   rcases Zi (val Z (al.drop i)/val Z db+1) g with h3|h3
   .exfalso;have h4:=Zz (val Z db) (show val Z (al.drop i)/val Z db+2<=g by omega);rw[Nat.add_mul,Zt (val Z (al.drop i)/val Z db)]at h4;omega
   .exact Zz _ h3
  have hgp:0<g:=by
   rcases Zd g with h|h
   .subst h;omega
   .exact h
  have hgq:g=val Z (al.drop i)/val Z db+1:=by
   refine Nat.le_antisymm ?_ ?_
   .exact Xb hgl hvp
   .rw[Nat.succ_le_iff,Xt hvp];omega
  refine⟨s2,len2,tk2,hgp,aa,?_⟩;rw[hgq,Nat.add_mul,Xr,Zt (val Z (al.drop i)/val Z db)]at e2;generalize Z^(db.length+1)=P at *
  have hce:ce=1:=by
   rcases Zi ce 1 with h|h
   .have:ce=0:=aa;subst this;omega
   .rcases Zi ce 2 with h'|h'
    .omega
    .have:=Zw P h';omega
  subst hce;omega
def I6(o:LnQ):Hp:=[(1,.data 1 (o.map u6) true false),nnQ]
theorem zY(o:LnQ):(I6 o)[0]?=some (1,.data 1 (o.map u6) true false):=rfl
theorem UI(o o':LnQ):(I6 o).set 0 (1,.data 1 (o'.map u6) true false)=I6 o':=rfl
@[simp]theorem afI(o:LnQ):(I6 o).length=2:=rfl
theorem Cp{p:LnQ}(hsp:aH Z p)(hpl:p.length<1000000000000){n N:Nat}(hn:0<n)(hnZ:n<=Z)(hN:N=p.length)(k:KL)(h0:Hp)(hh:h0.length=2) :
  ∀(i:Nat)(o:LnQ)(r:Nat),i<=p.length->o.length=N->aH Z o->r<n->val Z (p.drop i)=n*val Z (o.drop i)+r ->
  (∀o' r',o'.length=N->aH Z o'->r'<n->val Z p=n*val Z o'+r'->k (.exit 0) [U (r':Nat)] (I6 o')) ->
  lp (iE (CX Y) (lst u6 p) (U n) (.ref 0 1 0 N N N)) [] h0 [U r,I ((i:Int)-1)] (I6 o) k
 | 0,o,r,hi,ho,hso,hr,hv,hk=>by
  refine aj ?_;simp[iE];exact hk o r ho hso hr (by simpa using hv)
 | i+1,o,r,hi,ho,hso,hr,hv,hk=>by
  obtain⟨x,hx⟩:=mnQ (nth 0 p i);have hxs:x<Z:=by rw[<-hx];exact hsp.getD bB i
  have e1:=fun h:Hp=>kv u6 p h (k:=.i64) (i:=(i:Int)) aa aa
  have e2:=fun h:Hp=>E5 p h (j:=i) aa
  rw[hx]at e2;have r3:=CW (zY o) ho.symm (len:=N) (cap:=N) (i:=(i:Int)) aa aa .i64;have r5:=Ra (zY o) ho.symm (j:=i) aa;simp only[UI]at r5;simp only[Int.toNat_natCast]at e1 r3;have e0:((i+1:Nat):Int)-1=(i:Int):=aa;have hZ:Z=1000000000:=rfl;obtain⟨t,ht⟩:=mnQ (r*Z+x);obtain⟨q,hq⟩:=mnQ (t/n)
  obtain⟨r2,hr2⟩:=mnQ (t%n);have hdm:n*q+r2=t:=by rw[<-hq,<-hr2];exact Yf t n
  have hr2n:r2<n:=by rw[<-hr2];exact Y7 _ hn
  have htn:t<Z*n:=by
   have:=Zz Z (show r+1<=n by omega);rw[Nat.add_mul,Zt n Z]at this;omega
  have hqZ:q<Z:=by rw[<-hq];exact Wl (by rw[Zt];exact htn)
  have htb:t<1000000000000000001:=by
   have:=Zw Z hnZ;simp only[hZ]at *;omega
  have hdr:(o.set i q).drop i=q::o.drop (i+1):=by
   rw[List.drop_set,if_neg aa,Nat.sub_self];rw[Z0 (show i<o.length by omega)];rfl
  have ih:=Cp hsp hpl hn hnZ hN k h0 hh i (o.set i q) r2 aa (by simpa using ho) (hso.set hqZ) hr2n (by
   rw[qC,show p.getD i 0=x from hx,hv,hdr];simp only[val];rw[Zq,Zq,Y1 n Z,Zt Z r];omega) hk
  have r6:=r5 q;have e3:(r:Int)*1000000000+(x:Int)=(t:Int):=by simp only[hZ]at ht;omega
  have e4:(t:Int)/(n:Int)=(q:Int):=by rw[<-hq];simp
  have e5:(t:Int)%(n:Int)=(r2:Int):=by rw[<-hr2];simp
  have hrb:r<1000000000:=by simp only[hZ]at hnZ;omega
  have hn0:¬((n:Int)=0):=aa;have hqb:(q:Int)<18446744073709551616:=by simp only[hZ]at hqZ;omega
  refine aj ?_;rw[e0];simp(disch:=try exact ag)[iE,e1,e2,e3,r3,hn0,Zx,Zs,e4,e5,r6,hh];simpa using ih
theorem G6(l:LnQ):∃z,l=iN l++List.replicate z 0:=by
 induction hn:l.length generalizing l with
 | zero=>
  have:l=[]:=Zf hn;subst this;exact⟨0,rfl⟩
 | succ n ih=>
  obtain⟨l,x,rfl⟩:∃l' x,l=l'++[x]:=⟨l.dropLast,l.getLast (by intro e;simp[e]at hn),(List.dropLast_concat_getLast _).symm⟩;by_cases hx:x=0
  .subst hx;rw[qW];obtain⟨z,hz⟩:=ih l (by simpa using hn);refine⟨z+1,?_⟩
   conv=>lhs;rw[hz]
   rw[List.append_assoc,List.replicate_succ']
  .rw[yG hx];exact⟨0,af⟩
theorem Bl:l.take (iN l).length=iN l:=by obtain⟨z,hz⟩:=G6 l;generalize iN l=t at *;subst hz;rw[Xy rfl]
theorem zK(h:Hp)(n:Int):bJ h (U n)=some (U n,h):=rfl
theorem aG(ha:bJ h a=some (va,h1))(hb:bJ h1 b=some (vb,h2)):out (.tup [va,vb]) (.tup [a,b]) h:=
 ⟨h2,by simp only[bJ,aS,ha,hb]⟩
theorem jY{h3:Hp}{c vc:V}(ha:bJ h a=some (va,h1))(hb:bJ h1 b=some (vb,h2))(hc:bJ h2 c=some (vc,h3)):out (.tup [va,vb,vc]) (.tup [a,b,c]) h:=
 ⟨h3,by simp only[bJ,aS,ha,hb,hc]⟩
theorem He{a n:Nat}(ha:(dig Z a).length<100000000)(hn:0<n)(hnZ:n<=Z):CP Y F.cU [pcs a,U n] (.tup [pcs (a/n),U (a%n:Nat)]):=by
 refine vG ?_;obtain⟨p,hp⟩:=mnQ (dig Z a);have hsp:aH Z p:=by rw[<-hp];exact cJ ax a
 have hval:val Z p=a:=by rw[<-hp];exact iS ax a
 rw[pcs,hp];rw[hp]at ha;simp(disch:=try exact ag)[cU];have e2:[(1,Bk.data 1 (List.replicate p.length (D.int IntKind.u64 0)) true false),nnQ]=I6 (List.replicate p.length 0):=by simp[I6,u6]
 rw[e2];refine lo (Cp hsp aa hn hnZ rfl _ _ rfl p.length (List.replicate p.length 0) 0 (Z7 _) af (fun x hx=>by rw[List.mem_replicate]at hx;rw[hx.2];exact bB) hn (by rw[List.drop_length,Zb af];simp[val]) fun o r ho hs hr hv=>?_);simp only[iP];rw[hval]at hv
 have hq:val Z o=a/n:=by rw[hv,Nat.mul_add_div hn,Wr hr,Nat.add_zero]
 have hr2:r=a%n:=by rw[hv,Nat.mul_add_mod,Yk hr]
 have ht:iN (o.take p.length)=dig Z (a/n):=by rw[Z6 aa,<-hq,rR ax hs]
 have tr:=uu (h:=I6 o) rfl (zY o) ho.symm (len:=p.length) (cap:=p.length) (Z7 _) aa (Z7 _);rw[ht]at tr;refine pT tr ?_ af
 have htl:o.take (dig Z (a/n)).length=dig Z (a/n):=by
  have h2:iN o=dig Z (a/n):=by rw[<-hq,rR ax hs]
  rw[<-h2];exact Bl
 have sn:=wL (zY o) ho.symm (len:=(dig Z (a/n)).length) (cap:=p.length) (by rw[pN ax,<-hq,<-ho];exact jE bB hs) (Z7 _);rw[htl]at sn;have e6:((a:Int)%(n:Int))=((a%n:Nat):Int):=af;rw[hr2,e6];exact aG sn (zK _ _)
end Go.Vm
