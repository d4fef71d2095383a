/- Lemmas. -/
import Derived.Test.YtnomjjmegfhkhaaGreatDoorQT
set_option linter.unusedVariables false
set_option linter.unusedSimpArgs false
namespace Go.Vm
open Go Go.Am Go.Big
variable{k:IntKind}{T:(LwQ->Hp->Prop)->Prop}{z a i:Int}{xs:List LvQ}{clr l0 l':LnQ}{h0 h':Hp}{j L i1 cap len c N:Nat}{ys args ds:LwQ}{cells:LdQ}{C:u7}
inductive PU{α:Type}(k:α):Type where
 |mk
def rn{α:Type}(T:(α->Prop)->Prop)(k:α->Prop)(u:PU k):Prop:=T k
def rh{α β:Type}(T:(α->β->Prop)->Prop)(k:α->β->Prop)(u:PU k):Prop:=T k
def rl(T:KL->Prop)(k:KL)(u:PU k):Prop:=T k
def br(p A B:Prop)(u:PU A)(w:PU B):Prop:=(p->A)∧(¬p->B)
def jo(k:LwQ->Hp->Prop)(T:(LwQ->Hp->Prop)->Prop)(u:PU k)(w:PU T):Prop:=T k
theorem M9{p A B:Prop}{u:PU A}{w:PU B}(h1:p->A)(h2:¬p->B):br p A B u w:=⟨h1,h2⟩
@[simp]theorem ahs(A B:Prop)(u:PU A)(w:PU B):br True A B u w=A:=by simp[br]
@[simp]theorem agT(A B:Prop)(u:PU A)(w:PU B):br False A B u w=B:=by simp[br]
@[simp]theorem aiA{p A B:Prop}{u:PU A}{w:PU B}(h:p):br p A B u w=A:=by simp_all
@[simp]theorem aiB{p A B:Prop}{u:PU A}{w:PU B}(h:¬p):br p A B u w=B:=by simp_all
theorem gQ{k:LwQ->Hp->Prop}{u:PU k}{w:PU T}{l:LwQ}{h:Hp}(hT:∀q,T q=q l h)(hk:k l h):jo k T u w:=by grind[jo]
theorem aC{k:LwQ->Hp->Prop}{u:PU k}{w:PU T}(h:T k):jo k T u w:=h
@[simp ↓] theorem aiC (o:Option V)(k:V->Prop):bnd o k=rn (bnd o) k .mk:=id rfl
@[simp ↓] theorem ais (x:V)(i:Nat)(k:V->Prop):ext x i k=rn (ext x i) k .mk:=id rfl
@[simp ↓] theorem ahf (h:Hp)(op:BinOp)(x y:V)(k:V->Prop):yv h op x y k=rn (yv h op x y) k .mk:=id rfl
@[simp ↓] theorem aiv (b:Bool)(A B:Prop):cnd (.d (.bool b)) A B=br (b=true) A B .mk .mk:=by cases b<;>simp[cnd,br]
@[simp ↓] theorem ahn (b:Bool)(h:Hp)(T:kkQ->Prop)(k:kkQ):gd (.d (.bool b)) true h T k=br (b=true) (T k) (k (.tup []) h) .mk .mk:=by cases b<;>simp[gd,br]
@[simp ↓] theorem agC (b:Bool)(h:Hp)(T:kkQ->Prop)(k:kkQ):gd (.d (.bool b)) false h T k=br (b=false) (T k) (k (.tup []) h) .mk .mk:=by cases b<;>simp[gd,br]
@[simp ↓] theorem agB (w:Bool)(h:Hp)(T:kkQ->Prop)(k:kkQ):gd (.tup []) w h T k=k (.tup []) h:=id rfl
@[simp ↓] theorem aiK (k:LwQ->Hp->Prop)(T:(LwQ->Hp->Prop)->Prop):jn k T=jo k T .mk .mk:=id rfl
@[simp ↓] theorem aix (C:u7)(h:Hp)(c:V)(args:LwQ)(k:kkQ):cal C h c args k=rh (cal C h c args) k .mk:=id rfl
@[simp ↓] theorem aiy (C:sF)(h:Hp)(c:V)(args:LwQ)(s:Nat)(k:kkQ):cai C h c args s k=rh (cai C h c args s) k .mk:=id rfl
@[simp ↓] theorem aiF (s:Nat)(cs:LwQ)(h:Hp)(k:kkQ):alV s cs h k=rh (alV s cs h) k .mk:=id rfl
@[simp ↓] theorem aiG (s n:Nat)(cs:LdQ)(h:Hp)(k:kkQ):alD s n cs h k=rh (alD s n cs h) k .mk:=id rfl
@[simp ↓] theorem aht (s:Nat)(v:V)(h:Hp)(k:kkQ):eU s v h k=rh (eU s v h) k .mk:=id rfl
@[simp ↓] theorem ahj (len:Nat)(z:LdQ)(ps:List (Nat×V))(h:Hp)(k:kkQ):dI len z ps h k=rh (dI len z ps h) k .mk:=id rfl
@[simp ↓] theorem ahi (s len:Nat)(z:LdQ)(ps:List (Nat×V))(h:Hp)(k:kkQ):vv s len z ps h k=rh (vv s len z ps h) k .mk:=id rfl
@[simp ↓] theorem aij (s by_:Nat)(z:LdQ)(h:Hp)(l c:V)(k:kkQ):mkS s by_ z h l c k=rh (mkS s by_ z h l c) k .mk:=id rfl
def ra(f:Nat->Prop)(u:PU f):Prop:=∃s,f s
@[simp ↓] theorem ahH (f:Nat->Prop):anyS f=ra f .mk:=id rfl
theorem vi{f:Nat->Prop}{u:PU f}(s:Nat)(h:f s):ra f u:=⟨s,h⟩
@[simp ↓] theorem ahh (s len:Nat)(z:LdQ)(ps:List (Nat×V))(h:Hp)(k:kkQ):Cy s len z ps h k=rh (Cy s len z ps h) k .mk:=id rfl
@[simp ↓] theorem aiD (dr:Bool)(s n by_:Nat)(x y:V)(h:Hp)(k:kkQ):apW dr s n by_ x y h k=rh (apW dr s n by_ x y h) k .mk:=id rfl
theorem Ju{s e:Nat}{b:Bk}{z:D}{v:V}{h:Hp}{k:kkQ}{u:PU k}(hs:h[s]?=some (e,b))(hv:w9 v=some [v])(hk:k (.ref s (e+1) 0 1 1 1) (h.set s (e+1,.vars [v]))):rh (Cy s 1 [z] [(0,v)] h) k u:=by
 show Cy s 1 [z] [(0,v)] h k
 have hf:pd (λi=>some (i * [z].length,[z].length)) ((iS 1 [z]).map .d) [(0,v)]=some [v]:=by
  simp[pd,hv,iS]
 unfold Cy;rw[hf];simp only[new,hs];rw[if_pos ⟨⟨ac,ac⟩,rfl⟩];exact hk
theorem afb{dr:Bool}{s e by_ k:Nat}{b:Bk}{y:V}{vs:LwQ}{h:Hp}{q:kkQ}{u:PU q}(hy:rS h y=some (k,vs))(ho:vs.all okV=true)(hk:0<k)(hb:k*by_<=140737488355328)(hs:h[s]?=some (e,b))
  (hq:q (.ref s (e+1) 0 k k vs.length) (h.set s (e+1,.vars vs))):rh (apW dr s 1 by_ (.d nPQ) y h) q u:=by
 show apW dr s 1 by_ _ y h q
 unfold apW;rw[hy];simp only[new,hs];rw[if_pos ⟨ho,hk,trivial⟩,if_pos hb];exact hq
theorem acN{s s' e by_ k off len cap:Nat}{y:V}{vs old:LwQ}{h:Hp}{q:kkQ}{u:PU q}(hy:rS h y=some (k,vs))(ho:vs.all okV=true)(hk:0<k)(hg:h[s']?=some (e,.vars old))(hl:len=cap)(hc:off+cap=old.length)(h0:old.length<len+k)
  (hb:(len+k)*by_<=140737488355328) (hq:q (.ref s' (e+1) 0 (len+k) (len+k) (len+k)) (h.set s' (e+1,.vars ((old.drop off).take len++vs)))):rh (apW false s 1 by_ (.ref s' e off len cap old.length) y h) q u:=by
 show apW false s 1 by_ _ y h q
 have hg':ax h s' e=.vars old:=by simp[ax,hg]
 unfold apW;rw[hy];simp only[hg'];rw[if_pos ⟨ho,hk,trivial⟩,if_pos ⟨trivial,trivial,aa,aa⟩,if_neg aa,if_pos ⟨hb,hc,h0⟩];exact hq
@[simp ↓] theorem ahT (h:Hp)(n:Nat)(p v:V)(k:kkQ):stD h n p v k=rh (stD h n p v) k .mk:=id rfl
@[simp ↓] theorem aiE (dr:Bool)(s n by_:Nat)(x y:V)(h:Hp)(k:kkQ):apV dr s n by_ x y h k=rh (apV dr s n by_ x y h) k .mk:=id rfl
@[simp ↓] theorem aiI (st:aM)(clr:LnQ)(h0:Hp)(l:LwQ)(h:Hp)(k:KL):lp st clr h0 l h k=rl (lp st clr h0 l h) k .mk:=id rfl
def rk(T:(Exit->Hp->Prop)->Prop)(k:Exit->Hp->Prop)(u:PU k):Prop:=T k
@[simp ↓] theorem aif (o:Option (List LvQ))(n:Nat)(st:Gf)(clr:LnQ)(h:Hp)(k:Exit->Hp->Prop):rgO o n st clr h k=rk (rgO o n st clr h) k .mk:=id rfl
theorem ro{o:Option (List LvQ)}{n:Nat}{st:Gf}{h:Hp}{k:Exit->Hp->Prop}{u:PU k}(hq:o=some xs)(hr:rg n st clr h k xs h):rk (rgO o n st clr h) k u:=by subst hq;exact hr
theorem PN{n:Nat}{st:Gf}{h:Hp}{k:Exit->Hp->Prop}{x:LvQ}(hl:x.length=n)(hs:st (x.map λv=>.d (js v)) h λex h'=>match ex with
  |.normal=>qc clr 0 h'=true∧rg n st clr h0 k xs (aH clr 0 h0 h')
  |ex=>k ex h'):rg n st clr h0 k (x::xs) h:=⟨hl,hs⟩
@[simp]theorem ad2(v:V)(k:V->Prop)(u:PU k):rn (bnd (some v)) k u=k v:=id rfl
@[simp]theorem ah8(vs:LwQ)(i:Nat)(k:V->Prop)(u:PU k):rn (ext (.tup vs) i) k u=rn (bnd vs[i]?) k u:=id rfl
attribute [simp] VA abi Int.natCast_inj
@[simp]theorem af2(b:Bool)(x y:V):mP (.d (.bool (!b))) x y=mP (.d (.bool b)) y x:=by cases b<;>rfl
@[simp]theorem tG{n:Int}(h1 : -9223372036854775808<=n)(h2:n<=9223372036854775807):IntKind.wrap .i64 n=n:=wrap_i64 ⟨h1,h2⟩
@[simp]theorem Nv{n:Int}(h1:0<=n)(h2:n<18446744073709551616):IntKind.wrap .u64 n=n:=wrap_u64 ⟨h1,h2⟩
@[simp]theorem adD{n:Int}(h1:0<=n)(h2:n<4294967296):IntKind.wrap .u32 n=n:=wrap_u32 ⟨h1,h2⟩
@[simp]theorem wrap_u8'{n:Int}(h1:0<=n)(h2:n<256):IntKind.wrap .u8 n=n:=Nw rfl ⟨h1,h2⟩
attribute [simp] Ax Av Aw
@[simp]theorem acB{b:Int}(hb:b≠0):biI .rem (.d (.int k a)) (.d (.int k b))=some (.d (.int k (a.tmod b))):=by simp[biI,iH,nj,js,hb]
@[simp]theorem ahy{b:Int}(hb:b≠0):biI .quo (.d (.int k a)) (.d (.int k b))=some (.d (.int k (k.wrap (a.tdiv b)))):=by simp[biI,iH,nj,js,hb]
theorem Rk{l:IntKind}{b:Int}(h0:0<=b)(hb:b.toNat<=k.bits):biI .shr (.d (.int k a)) (.d (.int l b))=some (.d (.int k (a/2^b.toNat))):=by
 have h1:¬(b<0):=aa
 grind[biI,iH,nj,js]
theorem Rl{l:IntKind}{b:Int}(h0:0<=b)(hb:b.toNat<=k.bits):biI .shl (.d (.int k a)) (.d (.int l b))=some (.d (.int k (k.wrap (a*2^b.toNat)))):=by
 have h1:¬(b<0):=aa
 grind[biI,iH,nj,js]
@[simp]theorem agW:IntKind.bits .i64=64:=rfl
@[simp]theorem agV:IntKind.bits .u64=64:=rfl
@[simp]theorem ahv:IntKind.bits .u8=8:=rfl
@[simp]theorem aaZ{l:IntKind}{b:Int}(h0:0<=b)(hb:b<=64):biI .shr (.d (.int .i64 a)) (.d (.int l b))=some (.d (.int .i64 (a/2^b.toNat))):=Rk h0 bb
@[simp]theorem ag6{l:IntKind}{b:Int}(h0:0<=b)(hb:b<=64):biI .shr (.d (.int .u64 a)) (.d (.int l b))=some (.d (.int .u64 (a/2^b.toNat))):=Rk h0 bb
@[simp]theorem ag5(k:IntKind)(n:Int):unV .neg (.d (.int k n))=some (.d (.int k (k.wrap (-n)))):=by simp[unV,iH,nj,js]
def nth{α:Type}(d:α)(l:List α)(i:Nat):α:=l.getD i d
theorem cC{α:Type}(d:α)(l:List α)(i:Nat)(h:i<l.length):nth d l i=l[i]:=by simp[nth,h]
@[simp]theorem abx{α:Type}(d:α)(p:List α)(x:α)(q:List α):nth d (p++x::q) p.length=x:=by simp[nth]
variable{α:Type}(f:α->D)
@[simp] theorem oO (l:List α)(h:Hp)(h0:0<=i)(h1:i<l.length):ixV h 1 (lst f l) (.d (.int k i))=some (.dptr (l.map f) i.toNat):=
 eY f l h (Int.toNat_of_nonneg h0).symm aa
theorem eX(d:α)(l:List α)(h:Hp)(hl:j<l.length):ld1 h (.dptr (l.map f) j)=some (.d (f (nth d l j))):=by rw[mH f l h hl,cC d l j hl]
@[simp] theorem wR (p:List α)(x:α)(q:List α)(h:Hp)(k:IntKind):ixV h 1 (lst f (p++x::q)) (.d (.int k p.length))=some (.dptr ((p++x::q).map f) p.length):=
 eY f _ h rfl ac
omit f in
@[simp] theorem ail (a:LdQ)(x:D)(b:LdQ)(h:Hp)(hj:j=a.length):ld1 h (.dptr (a++x::b) j)=some (.d x):=by subst hj;simp[ld1]
omit f in
@[simp]theorem aiJ(x:D)(b:LdQ)(h:Hp):ld1 h (.dptr (x::b) 0)=some (.d x):=by rfl
variable{α:Type}(f:α->D)(l:List α)
@[simp]theorem afP(h:Hp)(h0:0<=i)(h1:i<=l.length)(hp:0<l.length):slV h 1 (lst f l) none (some (I i))=some (lst f (l.take i.toNat)):=ac8 f l hp aa aa
@[simp] theorem aiM (len n:Nat)(cs:LdQ)(off:Nat)(h0:0<=i)(h1:i<len):ixP len n (.dptr cs off) (.d (.int k i))=some (.dptr cs (off+i.toNat*n)):=by simp only[ixP];rw[if_pos ⟨h0,h1⟩]
@[simp] theorem aiL (len n:Nat)(s e off tot:Nat)(h0:0<=i)(h1:i<len):ixP len n (.ptr s e off tot) (.d (.int k i))=some (.ptr s e (off+i.toNat*n) tot):=by simp only[ixP];rw[if_pos ⟨h0,h1⟩]
theorem agu(h:Hp)(cs:LdQ)(pos:Nat){x:D}(hx:cs[pos]?=some x):ld1 h (.dptr cs pos)=some (.d x):=by grind[ld1]
def lF{α:Type}(f:α->LdQ)(l:List α):V:=.d (.sl l.length (l.flatMap f))
section
variable{α:Type}(f:α->LdQ){n:Nat}(hf:∀x,(f x).length=n)
include hf
theorem j9(l:List α):(l.flatMap f).length=l.length*n:=by
 induction l with
 |nil=>simp
 |cons x l ih=>grind
theorem MS(d:α)(l:List α)(hj:j<l.length):cut (l.flatMap f) (j*n) n=some (f (nth d l j)):=by
 have hle:j*n+n<=(l.flatMap f).length:=by
  rw[j9 f hf,<-Xt];exact Zv n hj
 simp only[cut,if_pos hle,Z9];clear hle
 induction l generalizing j with
 |nil=>cases hj
 | cons x l ih=>
  cases j with
  |zero=>grind[nth]
  | succ j=>
   grind[Xt,List.drop_drop,List.drop_left,nth]
theorem rD(l:List α)(h:Hp)(h0:0<=i)(h1:i<l.length):ixV h n (lF f l) (.d (.int k i))=some (.dptr (l.flatMap f) (i.toNat*n)):=by grind[ixV,lF,j9]
theorem rC(d:α)(l:List α)(h:Hp)(hj:j<l.length):ldA h n (.dptr (l.flatMap f) (j*n))=some (.agg ((f (nth d l j)).map .d)):=by grind[ldA,MS]
end
@[simp]theorem afr{α:Type}(f:α->LdQ)(l:List α):aN (lF f l)=some (I l.length):=id rfl
@[simp]theorem afm{α:Type}(h:Hp)(f:α->LdQ)(l:List α):cF h (lF f l)=some (lF f l,h):=by rfl
def wX(place:Nat->Option (Nat×Nat))(cs:LwQ)(ps:List (Nat×V)):Option LwQ:=pd place cs ps
@[simp]theorem afv(place:Nat->Option (Nat×Nat))(cs:LwQ):wX place cs []=some cs:=id rfl
def QT(o:Option (Nat×Nat))(place:Nat->Option (Nat×Nat))(cs:LwQ)(v:V)(r:List (Nat×V)):Option LwQ:=match o with
 |none=>none
 | some (off,sz)=>match w9 v with
  |none=>none
  |some vs=>if vs.length=sz∧off+vs.length<=cs.length then wX place (cs.take off++vs++cs.drop (off+vs.length)) r else none
@[simp]theorem aeK(place:Nat->Option (Nat×Nat))(cs:LwQ)(i:Nat)(v:V)(r:List (Nat×V)):wX place cs ((i,v)::r)=QT (place i) place cs v r:=id rfl
@[simp] theorem aho (place:Nat->Option (Nat×Nat))(cs:LwQ)(x:D)(r:List (Nat×V))(off sz:Nat):
  QT (some (off,sz)) place cs (.d x) r=if 1=sz∧off+1<=cs.length then wX place (cs.take off++[.d x]++cs.drop (off+1)) r else none:=id rfl
@[simp] theorem afx (place:Nat->Option (Nat×Nat))(cs:LwQ)(vs:LwQ)(r:List (Nat×V))(off sz:Nat):
  QT (some (off,sz)) place cs (.agg vs) r=if vs.length=sz∧off+vs.length<=cs.length then wX place (cs.take off++vs++cs.drop (off+vs.length)) r else none:=id rfl
def ae5(fs:List (Nat×Nat))(z:LdQ)(ps:List (Nat×V)):Option V:=bld fs z ps
@[simp]theorem aia(fs:List (Nat×Nat))(z:LdQ)(ps:List (Nat×V))(k:V->Prop)(u:PU k):rn (bnd (bld fs z ps)) k u=rn (bnd (ae5 fs z ps)) k u:=id rfl
@[simp]theorem ahu(fs:List (Nat×Nat))(z:LdQ)(ps:List (Nat×V)):ae5 fs z ps=(wX (λi=>fs[i]?) (z.map .d) ps).map .agg:=id (by unfold ae5 bld wX;cases pd (λi=>fs[i]?) (z.map .d) ps<;>rfl)
@[simp]theorem ahp(cs:LdQ)(o off:Nat):faV off (.dptr cs o)=some (.dptr cs (o+off)):=id rfl
@[simp]theorem air(s e o tot off:Nat):faV off (.ptr s e o tot)=some (.ptr s e (o+off) tot):=id rfl
def bnh{α:Type}(o:Option α)(k:α->Prop):Prop:=match o with
 |some x=>k x
 |none=>False
@[simp]theorem ah9{α:Type}(x:α)(k:α->Prop)(u:PU k):rn (bnh (some x)) k u=k x:=id rfl
@[simp] theorem aib (h:Hp)(n:Nat)(p v:V)(k:kkQ)(u:PU k):rh (stD h n p v) k u=rn (bnh (st h n p v)) (λh'=>k .junk h') .mk:=by unfold rh rn stD bnh;cases st h n p v<;>rfl
theorem Di(h:Hp)(s:Nat)(b:Bk)(k:Nat->Hp->Prop):new h s b k=bnh h[s]? λx=>k (x.1+1) (h.set s (x.1+1,b)):=by grind[new,bnh]
@[simp]theorem aid(s:Nat)(cs:LwQ)(h:Hp)(k:kkQ)(u:PU k):rh (alV s cs h) k u=rn (bnh h[s]?) (λx=>k (.ptr s (x.1+1) 0 cs.length) (h.set s (x.1+1,.vars cs))) .mk:=by unfold rh rn alV;exact Di ..
@[simp]theorem ag9(s:Nat)(vs:LwQ)(h:Hp)(k:kkQ)(u:PU k):rh (eU s (.agg vs) h) k u=rh (alV s vs h) k u:=id rfl
@[simp]theorem afY(s:Nat)(x:D)(h:Hp)(k:kkQ)(u:PU k):rh (eU s (.d x) h) k u=rh (alV s [.d x] h) k u:=id rfl
def fJ(len:Nat)(z:LdQ)(ps:List (Nat×V))(h:Hp):Option (LdQ×Hp):=match wX (λi=>some (i*z.length,z.length)) ((iS len z).map .d) ps with
 |some vs=>if 0<z.length∧len*z.length<=16777216 then kP h vs else none
 |none=>none
@[simp] theorem ag8 (len:Nat)(z:LdQ)(ps:List (Nat×V))(h:Hp)(k:kkQ)(u:PU k):rh (dI len z ps h) k u=rn (bnh (fJ len z ps h)) (λx=>k (.d (.sl len x.1)) x.2) .mk:=by
 unfold rh rn dI fJ bnh wX;cases pd (λi=>some (i*z.length,z.length)) ((iS len z).map .d) ps with
 |none=>rfl
 | some vs=>
  simp only;split
  .cases kP h vs<;>rfl
  .rfl
@[simp] theorem ag7 (s len:Nat)(z:LdQ)(ps:List (Nat×V))(h:Hp)(k:kkQ)(u:PU k):rh (vv s len z ps h) k u=rn (bnh (fJ len z ps h)) (λx=>rn (bnh x.2[s]?) (λy=>k (.ref s (y.1+1) 0 len len x.1.length) (x.2.set s (y.1+1,.data z.length x.1 true false))) .mk) .mk:=by
 unfold rh rn vv fJ bnh wX;cases pd (λi=>some (i*z.length,z.length)) ((iS len z).map .d) ps with
 |none=>rfl
 | some vs=>
  simp only;split
  .cases kP h vs with
   |none=>rfl
   |some x=>simp only[Di];rfl
  .rfl
def nr(h:Hp)(s e:Nat):Bk:=ax h s e
@[simp]theorem aeA(e0:Nat)(b:Bk)(h:Hp)(e:Nat):nr ((e0,b)::h) 0 e=if e0=e then b else .none:=id rfl
@[simp]theorem aeB(x:Nat×Bk)(h:Hp)(s e:Nat):nr (x::h) (s+1) e=nr h s e:=id rfl
def abL(b:Bk)(off tot:Nat):Option V:=match b with
 |.vars cs=>if tot=cs.length then cs[off]? else none
 |.data _ cs _ _=>if tot=cs.length then cs[off]?.map .d else none
 |.none=>none
def WW(b:Bk)(n off tot:Nat):Option V:=match b with
 |.vars cs=>if tot=cs.length then(cut cs off n).map .agg else none
 |.data _ cs _ _=>if tot=cs.length then(cut cs off n).map λl=>.agg (l.map .d)else none
 |.none=>none
theorem agv(h:Hp)(s e off tot:Nat):ld1 h (.ptr s e off tot)=abL (nr h s e) off tot:=by
 unfold nr;simp only[ld1];cases ax h s e with
 |none=>rfl
 |vars cs=>rfl
 | data n cs a b=>
  simp only[abL];split
  .cases cs[off]?<;>rfl
  .rfl
theorem agt(h:Hp)(n s e off tot:Nat):ldA h n (.ptr s e off tot)=WW (nr h s e) n off tot:=by
 unfold nr;simp only[ldA];cases ax h s e with
 |none=>rfl
 | vars cs=>
  simp only[WW];split
  .cases cut cs off n<;>rfl
  .rfl
 | data m cs a b=>
  simp only[WW];split
  .cases cut cs off n<;>rfl
  .rfl
@[simp]theorem ah6(h:Hp)(s e off tot:Nat)(k:V->Prop)(u:PU k):rn (bnd (ld1 h (.ptr s e off tot))) k u=rn (bnd (abL (nr h s e) off tot)) k u:=by rw[agv]
@[simp]theorem ah5(h:Hp)(n s e off tot:Nat)(k:V->Prop)(u:PU k):rn (bnd (ldA h n (.ptr s e off tot))) k u=rn (bnd (WW (nr h s e) n off tot)) k u:=by rw[agt]
@[simp]theorem afu(cs:LwQ)(off tot:Nat):abL (.vars cs) off tot=if tot=cs.length then cs[off]? else none:=id rfl
@[simp]theorem afs(cs:LwQ)(n off tot:Nat):WW (.vars cs) n off tot=if tot=cs.length then(cut cs off n).map .agg else none:=id rfl
def stX(b:Bk)(h:Hp)(s e off tot:Nat)(vs:LwQ):Option Hp:=match b with
 |.vars cs=>if tot=cs.length∧off+vs.length<=cs.length∧vs.all okV=true then some (b6 h s e (.vars (cs.take off++vs++cs.drop (off+vs.length))))else none
 |_=>sto h s e off tot vs
theorem ac4(h:Hp)(s e off tot:Nat)(vs:LwQ):sto h s e off tot vs=stX (nr h s e) h s e off tot vs:=by
 unfold nr stX;cases hb:ax h s e with
 |vars cs=>simp[sto,hb]
 |none=>rfl
 |data n cs a b=>rfl
@[simp] theorem ah3 (h:Hp)(n s e off tot:Nat)(vs:LwQ)(k:Hp->Prop)(u:PU k):rn (bnh (st h n (.ptr s e off tot) (.agg vs))) k u=rn (bnh (if vs.length=n then stX (nr h s e) h s e off tot vs else none)) k u:=by simp only[rn,st,ac4]
def KY(b:Bk)(h:Hp)(s e off tot:Nat)(x:D):Option Hp:=match b with
 |.vars cs=>if tot=cs.length∧off+1<=cs.length then some (b6 h s e (.vars (cs.take off++[.d x]++cs.drop (off+1))))else none
 |.data n cs ex fr=>if fr=false∧tot=cs.length∧off+1<=cs.length then some (b6 h s e (.data n (cs.set off (norm x)) ex false))else none
 |.none=>none
theorem afT(h:Hp)(s e off tot:Nat)(x:D):st h 1 (.ptr s e off tot) (.d x)=KY (nr h s e) h s e off tot x:=by
 unfold nr;simp only[st,if_true];cases hb:ax h s e with
 |none=>simp[sto,hb,KY]
 |vars cs=>simp[sto,hb,KY,okV]
 | data n cs ex fr=>
  simp only[sto,hb,kP,toD,KY];by_cases hc:fr=false∧tot=cs.length∧off+1<=cs.length
  .rw[if_pos hc,if_pos aa];rw[Yi,if_pos aa];simp
  .rw[if_neg hc,if_neg aa]
@[simp]theorem ah4(h:Hp)(s e off tot:Nat)(x:D)(k:Hp->Prop)(u:PU k):rn (bnh (st h 1 (.ptr s e off tot) (.d x))) k u=rn (bnh (KY (nr h s e) h s e off tot x)) k u:=by rw[afT]
@[simp]theorem afk(cs:LwQ)(h:Hp)(s e off tot:Nat)(x:D):KY (.vars cs) h s e off tot x=if tot=cs.length∧off+1<=cs.length then some (b6 h s e (.vars (cs.take off++[.d x]++cs.drop (off+1))))else none:=id rfl
@[simp] theorem R2 (n:Nat)(cs:LdQ)(ex:Bool)(h:Hp)(s e off tot:Nat)(x:D)(ht:tot=cs.length)(ho:off<cs.length):KY (.data n cs ex false) h s e off tot x=some (b6 h s e (.data n (cs.set off (norm x)) ex false)):=by simp only[KY];simp[ht];omega
def ixX(b:Bk)(n s e off len tot:Nat)(i:Int):Option V:=match b with
 |.data _ cs _ _=>if tot=cs.length∧0<=i∧i<len then some (.ptr s e (off+i.toNat*n) tot)else none
 |.vars cs=>if tot=cs.length∧0<=i∧i<len then some (.ptr s e (off+i.toNat*n) tot)else none
 |_=>none
@[simp] theorem ah7 (h:Hp)(n s e off len cap tot:Nat)(kd:IntKind)(i:Int)(k:V->Prop)(u:PU k):rn (bnd (ixV h n (.ref s e off len cap tot) (.d (.int kd i)))) k u=rn (bnd (ixX (nr h s e) n s e off len tot i)) k u:=by
 have:ixV h n (.ref s e off len cap tot) (.d (.int kd i))=ixX (nr h s e) n s e off len tot i:=by
  unfold nr;simp only[ixV,ixX];cases ax h s e<;>rfl
 rfl
@[simp] theorem agx (m:Nat)(cs:LdQ)(a b:Bool)(n s e off len tot:Nat)(i:Int)(ht:tot=cs.length)(h0:0<=i)(h1:i<len):ixX (.data m cs a b) n s e off len tot i=some (.ptr s e (off+i.toNat*n) tot):=by simp only[ixX];rw[if_pos ⟨ht,h0,h1⟩]
@[simp] theorem ah2 (h:Hp)(n s e off tot a b c d f g:Nat)(k:Hp->Prop)(u:PU k):rn (bnh (st h n (.ptr s e off tot) (.ref a b c d f g))) k u=rn (bnh (if n=1 then stX (nr h s e) h s e off tot [.ref a b c d f g]else none)) k u:=by simp only[rn,st,ac4]
@[simp]theorem afS(cs:LwQ)(h:Hp)(s e off tot:Nat)(vs:LwQ):stX (.vars cs) h s e off tot vs=if tot=cs.length∧off+vs.length<=cs.length∧vs.all okV=true then some (b6 h s e (.vars (cs.take off++vs++cs.drop (off+vs.length))))else none:=id rfl
@[simp]theorem ahl(h:Hp)(s e:Nat)(b:Bk):b6 h s e b=h.set s (e,b):=rfl
@[simp]theorem aiH(x:D):okV (.d x)=true:=rfl
@[simp]theorem ahb(a b c d e f:Nat):okV (.ref a b c d e f)=true:=rfl
@[simp]theorem aiu{α:Type}(l:List α)(off n:Nat):cut l off n=if off+n<=l.length then some ((l.drop off).take n)else none:=id rfl
@[simp]theorem p9(i:Nat)(h0 h:Hp)(hl:h.length=h0.length):aH [] i h0 h=h:=HG i h0 h hl
@[simp]theorem ahr(q:LwQ->Hp->Prop)(r:List (Exit×(LwQ->Hp->Prop)))(l:LwQ)(h:Hp):exK ((.normal,q)::r) .normal l h=q l h:=rfl
@[simp]theorem adm(q:LwQ->Hp->Prop)(r:List (Exit×(LwQ->Hp->Prop)))(l:LwQ)(h:Hp):exK ((.normal,q)::r) .ret l h=exK r .ret l h:=rfl
@[simp]theorem adl(q:LwQ->Hp->Prop)(r:List (Exit×(LwQ->Hp->Prop)))(l:LwQ)(h:Hp):exK ((.ret,q)::r) .normal l h=exK r .normal l h:=rfl
@[congr]theorem afU{h:Hp}{x:V}{k:Prop}(e:h=h'):sp h x ys k=sp h' x ys k:=by rw[e]
theorem K0{h:Hp}{x:V}{k:Prop}:∀{ys:LwQ},ys.all (apt h x)=true->k->sp h x ys k
 |[],_,hk=>hk
 | y::ys,hb,hk=>by
  simp only[List.all_cons,Z7]at hb;unfold sp;rw[hb.1];exact K0 hb.2 hk
theorem Ut{h:Hp}{x y:V}{k:Prop}(hb:smB h x y=true)(hk:k):sm h x y k:=by grind[sm]
structure Acc where
 s:Nat
 e:Nat
 n:Nat
 b0:Bk
def Acc.v(a:Acc)(L:Nat)(cells:LdQ):V:=match L with
 |0=>.d nPQ
 |_=>.ref a.s (a.e+1) 0 L L cells.length
def Acc.b(a:Acc)(L:Nat)(cells:LdQ):Nat×Bk:=match L with
 |0=>(a.e,a.b0)
 |_=>(a.e+1,.data a.n cells false false)
theorem nU(a:Acc){L by_ k:Nat}{cells cs:LdQ}{h:Hp}{y:V}{q:kkQ}{u:PU q}(hk:0<k)(hs:h[a.s]?=some (a.b L cells))(hc:cells.length=L*a.n)(hcs:cs.length=k*a.n)
  (hy:cellsOf h y=some (k,cs)) (hyn:∀t,y≠.d (.str t)) (hb:(L+k)*by_<=140737488355328) (hn:0<a.n) (hq:q (a.v (L+k) (cells++cs)) (h.set a.s (a.b (L+k) (cells++cs)))):rh (apV false a.s a.n by_ (a.v L cells) y h) q u:=by
 have e1:apV false a.s a.n by_ (a.v L cells) y h q=apC false a.s a.n by_ (a.v L cells) k cs h q:=by
  unfold apV;split
  .trivial
  .grind
 show apV false a.s a.n by_ (a.v L cells) y h q
 rw[e1];have hlt:=(List.getElem?_eq_some_iff.1 hs).1;obtain⟨m,hm⟩:∃m,L+k=m+1:=⟨L+k-1,aa⟩;cases L with
 | zero=>
  have:cells=[]:=Zi aa;subst this;simp only[Zj,List.nil_append]at *;simp only[Acc.v];unfold apC;rw[if_neg aa];simp only[];rw[if_pos aa]
  simp_all[new,Acc.b,Acc.v]
 | succ L=>
  simp only[Acc.v];unfold apC;rw[if_neg aa];have hg:ax h a.s (a.e+1)=.data a.n cells false false:=by simp only[ax,hs,Acc.b,if_true]
  simp only[hg,true_and,Zj];rw[if_pos ⟨Z8 _,aa,hcs⟩,if_neg aa,if_pos hb];simp only[Zc,if_false,Bool.or_self];have hpos:0<cs.length:=by rw[hcs];exact Yl hk hn
  rw[if_pos ⟨aa,aa⟩];rw[hm]at hq ⊢;simp only[Acc.v,Acc.b,Zq,b6,hc]at hq ⊢;simp only[Yj];rw[Zx aa];exact hq
theorem nC(a:Acc){h:Hp}(hs:h[a.s]?=some (a.b L cells))(hc:cells.length=L*a.n):
  ∃h',cF h (a.v L cells)=some (.d (.sl L cells),h')∧((L=0∧h'=h)∨(0<L∧h'=h.set a.s (a.e+1,.data a.n cells false true))):=by
 cases L with
 | zero=>
  simp_all[Acc.v]
 | succ L=>
  have hg:ax h a.s (a.e+1)=.data a.n cells false false:=by simp only[ax,hs,Acc.b,if_true]
  refine⟨_,?_,.inr ⟨Nat.succ_pos _,rfl⟩⟩;simp only[Acc.v,cF,toD,hg,true_and,Zj];rw[if_pos ⟨Z8 _,aa⟩];simp only[Yj,b6];rw[Zx aa]
theorem acX(a:Acc){h:Hp}(hs:h[a.s]?=some (a.b L cells))(hc:cells.length=L*a.n):out (.d (.sl L cells)) (a.v L cells) h:=by obtain⟨h',h1,_⟩:=nC a hs hc;exact⟨h',h1⟩
theorem iq{b b':Bool}{h:Hp}(e:b'=b):out (B b) (.d (.bool b')) h:=by simp_all
theorem aW{b:Int}{h:Hp}(e:b=a):out (.d (.int k a)) (.d (.int k b)) h:=by simp_all
theorem cd{h:Hp}{f:FuncId}{v:V}{k:kkQ}{u:PU k}(hc:C f args v)(hk:k v h)(hs:aO h args=some (args,h):=by simp[aO,cF]):rh (cal C h (.fn f [] []) args) k u:=agP hc hs hk
theorem cdx{h:Hp}{f:FuncId}{v:V}{k:kkQ}{u:PU k}(hs:aO h args=some (ds,h))(hc:C f ds v)(hk:k v h):rh (cal C h (.fn f [] []) args) k u:=
 qP hs hc (by grind)
theorem lo{st:aM}{l:LwQ}{h:Hp}{k:KL}{u:PU k}(hl:lp st clr h0 l h k):rl (lp st clr h0 l h) k u:=hl
def di(n:Int):D:=.int .i64 n
def row(l:LiQ):D:=.sl l.length (l.map di)
abbrev mat(m:LLQ):V:=lst row m
@[simp]theorem aiO(n:Int):V.d (di n)=I n:=id rfl
@[simp]theorem ahe(n:Int):norm (di n)=di n:=rfl
@[simp]theorem agc(l:LiQ):norm (row l)=row l:=rfl
@[simp]theorem WU(l:LiQ)(h:Hp)(hl:j<l.length):ld1 h (.dptr (l.map di) j)=some (.d (di (nth 0 l j))):=eX di 0 l h hl
@[simp]theorem aiQ(m:LLQ)(h:Hp)(hl:j<m.length):ld1 h (.dptr (m.map row) j)=some (.d (row (nth [] m j))):=eX row [] m h hl
@[simp]theorem agm(l:LiQ):aN (.d (row l))=some (I l.length):=rfl
def idx{α:Type}(p:α->Bool)(l:List α):Int:=match l.findIdx? p with
 |some i=>i
 |none=>-1
theorem cdf{h:Hp}{f:FuncId}{fs cs:LwQ}{v:V}{k:kkQ}{u:PU k}(hc:C f (fs++args++cs) v)(hs:aO h (fs++args++cs)=some (fs++args++cs,h))(hk:k v h):rh (cal C h (.fn f fs cs) args) k u:=by simp only[rh,cal,hs];exact⟨v,hc,by simpa using hk⟩
variable{α:Type}{f:α->D}{g:FuncId}{fs cs:LwQ}{p:α->Bool}
theorem Mr(hs:∀x,aO [] (fs++[.d (f x)]++cs)=some (fs++[.d (f x)]++cs,[]))(k:KL):∀(q a:List α),(a++q).length<4611686018427387904->(∀x∈q,CP Y g (fs++[.d (f x)]++cs) (B (p x))) ->
  (idx p q = -1->k (.exit 0) [] [])->(∀i:Nat,idx p q=i->k .ret [I (a.length+i:Nat)] []) ->
  lp (dP (CX Y) (lst f (a++q)) (.fn g fs cs) (I (a++q).length)) [] [] [I a.length] [] k
 | [],a,hN,_,h0,_=>by
  refine ai ?_;simp[dP];exact h0 rfl
 | x::q,a,hN,hp,h0,h1=>by
  simp at hN;refine ai ?_;simp(disch:=try exact af)[dP];refine cdf (hp x ac) (hs x) ?_;simp;refine M9 (λh=>?_) (λh=>?_)<;>try simp(disch:=try exact af)[h]
  .have e:idx p (x::q)=(0:Nat):=by simp[idx,List.findIdx?_cons,h]
   simpa using h1 0 e
  .have hl:=hs;have:=Mr hs k q (a++[x]) bb (λy hy=>hp y (by simp[hy])) (λe=>h0 ?_) (λi e=>?_)
   .simpa[Int.add_assoc]using this
   .simp only[idx,List.findIdx?_cons,h,Zc,if_false]at e ⊢;cases hq:List.findIdx? p q<;>simp[hq]at e ⊢
   .have:=h1 (i+1) ?_
    .simpa[Xk,Nat.add_comm 1 i]using this
    .simp only[idx,List.findIdx?_cons,h,Zc,if_false]at e ⊢;cases hq:List.findIdx? p q<;>simp[hq]at e ⊢
     exact e
theorem JJ(l:List α)(hN:l.length<4611686018427387904)(hs:∀x,aO [] (fs++[.d (f x)]++cs)=some (fs++[.d (f x)]++cs,[]))(hp:∀x∈l,CP Y g (fs++[.d (f x)]++cs) (B (p x))):
  aV (CX Y) (lst f l) (.fn g fs cs) (out (I (idx p l))):=by
 simp[aV];refine lo (Mr hs _ l [] (by simpa using hN) hp (λe=>?_) (λi e=>?_))
 .simp[e]
 .simp[e]
theorem Dv{α:Type}(p:α->Bool)(l:List α):0<=idx p l↔l.any p=true:=by
 unfold idx;cases h:l.findIdx? p with
 |none=>simp[List.findIdx?_eq_none_iff]at h ⊢;exact h
 | some i=>
  simp[List.findIdx?_eq_some_iff_getElem]at h ⊢;obtain⟨hi,h1,_⟩:=h;exact⟨l[i],Yw hi,h1⟩
theorem Cj{g:FuncId}{p:Int->Bool}(l:LiQ)(hN:l.length<4611686018427387904)(hp:∀x∈l,CP Y g [I x] (B (p x))):CP Y F.aV [lst di l,.fn g [] []] (I (idx p l)):=
 pU (JJ l hN (λx=>by simp[aO]) hp)
theorem w7{g:FuncId}{p:Int->Bool}(l:LiQ)(hN:l.length<4611686018427387904)(hp:∀x∈l,CP Y g [I x] (B (p x))):CP Y F.aX [lst di l,.fn g [] []] (B (l.any p)):=by
 refine pj ?_;simp[aX];refine cd (Cj l hN hp) ?_;simp;have:=Dv p l;have e:decide (0<=idx p l)=l.any p:=by rw[X5];simpa using this
 rw[e];exact VF ..
def Cf(n:Int):Bool:=decide (-1000000000<=n∧n<=1000000000)
theorem iT{α:Type}{d:α}{l:List α}{i:Nat}(h:i<l.length):nth d l i∈l:=by grind[cC]
def piv(r:LiQ):Int:=idx (λn=>n !=0) r
theorem aea(r:LiQ): -1<=piv r∧piv r<r.length:=by
 unfold piv idx;cases h:r.findIdx? (λn=>n !=0)with
 |none=>simp;omega
 |some i=>have:=(List.findIdx?_eq_some_iff_getElem.1 h).1;simp;omega
def Z:Nat:=1000000000
theorem aw:2<=Z:=ae
theorem bE:0<Z:=ae
def bz:Nat->Nat->LnQ
 |0,_=>[]
 |w+1,n=>n%Z::bz w (n/Z)
theorem dj:∀w n,(bz w n).length=w
 |0,_=>rfl
 |w+1,n=>by simp[bz,dj w]
theorem uS:∀w n,aE Z (bz w n)
 |0,_=>λx hx=>by simp[bz]at hx
 | w+1,n=>λx hx=>by
  simp only[bz,Zy]at hx;rcases hx with rfl|hx
  .exact Yz _ bE
  .exact uS w _ x hx
theorem wW:∀w n,n<Z^w->val Z (bz w n)=n
 |0,n,h=>by simp at h;subst h;rfl
 | w+1,n,h=>by
  have hZ:Z=1000000000:=rfl;simp only[bz,val];rw[wW w (n/Z) (Wr (by rw[Nat.pow_succ,Zo]at h;exact h))];have:=Xn n Z;omega
theorem Dx:∀l:LnQ,aE Z l->l=bz l.length (val Z l)
 |[],_=>rfl
 | x::l,h=>by
  have hx:x<Z:=h x ac;have hl:=Dx l (λy hy=>h y (by simp[hy]));have hZ:Z=1000000000:=rfl;simp only[List.length_cons,bz,val];have e1:(x+Z*val Z l)%Z=x:=by rw[Xb];exact X9 hx
  have e2:(x+Z*val Z l)/Z=val Z l:=by rw[Ye _ _ bE,W4 hx,Zj]
  rw[e1,e2,<-hl]
abbrev S(s:LuQ):V:=.d (.str s)
@[simp]theorem JF(s:LuQ):oe (S s)=some (I s.length):=id rfl
@[simp] theorem ahV (s:LuQ)(h0:0<=i)(h1:i<=s.length):slS (S s) (some (I i)) none=some (S (s.drop i.toNat)):=by simp only[slS,boV];rw[if_pos ⟨h0,aa⟩];simp only;rw[Zx ac]
@[simp]theorem ahx(a b:LuQ):biS .eql (S a) (S b)=some (.d (.bool (a == b))):=id rfl
@[simp]theorem ahw(a b:LuQ):biS .neq (S a) (S b)=some (.d (.bool (!(a == b)))):=id rfl
@[simp]theorem acy(a b:LuQ)(h:a.length+b.length<=9223372036854775807):biS .add (S a) (S b)=some (S (a++b)):=by simp[biS,NJ,h]
theorem XL(s:LuQ){x:UInt8}(h0:0<=i)(h:s[i.toNat]?=some x):ixS (S s) (.d (.int k i))=some (.d (.int .u8 x.toNat)):=by simp only[ixS];rw[if_pos h0,h]
theorem fA{a b:LuQ}{h:Hp}(e:b=a):out (S a) (S b) h:=by subst e;exact VE rfl
theorem aae(b:Bool):CP Y F.gj [B b] (I (if b=true then 1 else 0)):=by refine vG ?_;cases b<;>simp[gj]
theorem V4{x:Nat}(h:x<=64):CP Y F.f9 [I x] (I ((x*78913/262144:Nat):Int)):=by refine vF ?_;simp(disch:=try exact af)[f9]
def bL(n:Nat):Nat:=if n=0 then 0 else n.log2+1
theorem yw{n k:Nat}(h:2^k<=n):bL n=bL (n/2^k)+k:=by
 have hp:0<2^k:=Xq ae;have h0:n≠0:=aa;have h1:n/2^k≠0:=by have:=Nat.div_pos h hp;omega
 simp only[bL,h0,h1,if_false]
 have e:n.log2=(n/2^k).log2+k:=by
  rw[Nat.log2_eq_iff h0];have h2:=(Nat.log2_eq_iff h1).1 rfl;constructor
  .rw[Yr];exact Z4 (Zv _ h2.1) (Wl n _)
  .have:n/2^k+1<=2^((n/2^k).log2+1):=h2.2
   have h3:n<(n/2^k+1)*2^k:=by
    have:=Nat.lt_mul_div_succ n hp;rw[Zo];exact this
   have h4:=Zv (2^k) this;rw[<-Yr]at h4;rw[show(n/2^k).log2+k+1=(n/2^k).log2+1+k by omega];omega
 omega
def adh:LuQ:=[0,1,2,2,3,3,3,3,4,4,4,4,4,4,4,4,5,5,5,5,5,5,5,5,5,5,5,5,5,5,5,5,6,6,6,6,6,6,6,6,6,6,6,6,6,6,6,6,6,6,6,6,6,6,6,6,6,6,6,6,6,6,6,6]++(List.replicate 64 7++List.replicate 128 8)
theorem len8:∀x:Fin 256,adh[x.val]?=some (UInt8.ofNat (bL x.val)):=aG
theorem SL{x:Nat}{a:Nat}{n:Nat}(hx:x<256)(hn:bL n=bL x+a)(ha:a<=56){h:Hp}:
  (bnd (cvI .u8 (.d (.int .u64 x))) λv10=>bnd (ixS (S adh) v10) λv11=>
   bnd (cvI .i64 v11) λv12=>bnd (biI .add (I a) v12) λv13=>out (I (bL n)) v13 h):=by
 have hb:bL x<=8:=by
  unfold bL;split
  .omega
  .rename_i h0;have:=(Nat.log2_lt h0 (k:=8)).2 aa;omega
 have h8:=len8 ⟨x,hx⟩;simp(disch:=try exact af);rw[XL _ aa (x:=UInt8.ofNat (bL x)) (by simpa using h8)];have e:(UInt8.ofNat (bL x)).toNat=bL x:=by simp;omega
 simp(disch:=try exact af)[e];exact aW aa
set_option maxRecDepth 20000 in
theorem Fb{n:Nat}(h:n<18446744073709551616):CP Y F.fe [.d (.int .u64 n)] (I (bL n)):=by
 refine zC ?_
 obtain ⟨x1,a1,hx1,he1,ha1,h1⟩:∃x1 a1:Nat,x1<4294967296∧bL n=bL x1+a1∧a1<=32∧((4294967296<=n∧x1=n/4294967296∧a1=32)∨(n<4294967296∧x1=n∧a1=0)):=by
  by_cases hh:4294967296<=n
  .exact⟨n/4294967296,32,aa,yw (k:=32) hh,aa,.inl ⟨hh,rfl,rfl⟩⟩
  .exact⟨n,0,aa,rfl,aa,.inr ⟨aa,rfl,rfl⟩⟩
 obtain ⟨x2,a2,hx2,he2,ha2,h2⟩:∃x2 a2:Nat,x2<65536∧bL n=bL x2+a2∧a2<=48∧((65536<=x1∧x2=x1/65536∧a2=a1+16)∨(x1<65536∧x2=x1∧a2=a1)):=by
  by_cases hh:65536<=x1
  .exact⟨x1/65536,a1+16,aa,by(have:=yw (n:=x1) (k:=16) hh;simp only[Nat.reducePow]at this;omega),aa,.inl ⟨hh,rfl,rfl⟩⟩
  .exact⟨x1,a1,aa,he1,aa,.inr ⟨aa,rfl,rfl⟩⟩
 obtain ⟨x3,a3,hx3,he3,ha3,h3⟩:∃x3 a3:Nat,x3<256∧bL n=bL x3+a3∧a3<=56∧((256<=x2∧x3=x2/256∧a3=a2+8)∨(x2<256∧x3=x2∧a3=a2)):=by
  by_cases hh:256<=x2
  .exact⟨x2/256,a2+8,aa,by(have:=yw (n:=x2) (k:=8) hh;simp only[Nat.reducePow]at this;omega),aa,.inl ⟨hh,rfl,rfl⟩⟩
  .exact⟨x2,a2,aa,he2,aa,.inr ⟨aa,rfl,rfl⟩⟩
 simp[fe];have key:=SL (h:=[]) hx3 he3 ha3;refine gQ (l:=[.d (.int .u64 x1),I a1]) (h:=[]) (λq=>?_) ?_
 .rcases h1 with⟨g,rfl,rfl⟩|⟨g,rfl,rfl⟩<;>simp(disch:=try exact af)[g]
 simp;refine gQ (l:=[.d (.int .u64 x2),I a2]) (h:=[]) (λq=>?_) ?_
 .rcases h2 with⟨g,rfl,rfl⟩|⟨g,rfl,rfl⟩<;>simp(disch:=try exact af)[g]
 simp;refine gQ (l:=[.d (.int .u64 x3),I a3]) (h:=[]) (λq=>?_) ?_
 .rcases h3 with⟨g,rfl,rfl⟩|⟨g,rfl,rfl⟩<;>simp(disch:=try exact af)[g]
 exact key
theorem abg:LI=(List.range 20).map λi=>D.int .u64 ((10^i:Nat):Int):=by simp only[LI,List.range,List.range.loop,List.map];rfl
theorem ad7{i:Nat}(h:i<20):LI[i]?=some (.int .u64 ((10^i:Nat):Int)):=by rw[abg,List.getElem?_map,List.getElem?_range h];rfl
theorem aeC:gl oo=.dptr LI 0:=by unfold gl;rfl
theorem aej:∀b:Fin 65,1<=b.val->(10^(b.val*78913/262144)<=2^b.val∧2^b.val<=10^(b.val*78913/262144+1)∧(b.val*78913/262144=0∨10^(b.val*78913/262144-1)<2^(b.val-1))∧b.val*78913/262144<20):=aG
theorem rz{n:Nat}(h:0<n):2^(bL n-1)<=n∧n<2^bL n∧1<=bL n:=by have h0:n≠0:=aa;have:=(Nat.log2_eq_iff h0).1 rfl;simp only[bL,h0,if_false];exact⟨this.1,this.2,aa⟩
theorem zt{n d:Nat}(h1:10^(d-1)<=n)(h2:n<10^d)(hd:1<=d)(h:n<18446744073709551616):CP Y F.dy [.d (.int .u64 n)] (I d):=by
 have h0:0<n:=Z2 (Xq ae) h1;obtain⟨b1,b2,b3⟩:=rz h0
 have hb:bL n<=64:=by
  unfold bL;split
  .omega
  .rename_i hz;have:=(Nat.log2_lt hz (k:=64)).2 (by simpa using h);omega
 obtain⟨t1,t2,t3,t4⟩:=aej ⟨bL n,aa⟩ b3;simp only at t1 t2 t3 t4;refine vE ?_;simp[dy];refine cd (Fb h) ?_;simp;refine cd (V4 hb) ?_;generalize hk:bL n*78913/262144=k at *;have hg:gl oo=.dptr LI 0:=aeC;simp(disch:=try exact af)[hg];rw[agu _ _ _ (ad7 t4)]
 have hpk:10^(k+1)=10*10^k:=by rw[Nat.pow_succ,Zo]
 have hpd:10^d=10*10^(d-1):=by
  obtain⟨e,rfl⟩:∃e,d=e+1:=⟨d-1,aa⟩;rw[Nat.pow_succ,Zo];rfl
 have a1:10^k<=n->d=k+1:=λhc=>by
  have a1:k<d:=(Yq (a:=10) ae).1 aa;have a2:d-1<k+1:=(Yq (a:=10) ae).1 aa;omega
 have a2:¬10^k<=n->d=k:=λhc=>by
  have hk1:1<=k:=by
   rcases Zb k with e|e
   .subst e;simp at hc;omega
   .exact e
  have a1:d-1<k:=(Yq (a:=10) ae).1 aa
  have a2:k-1<d:=by
   rcases t3 with e|e
   .omega
   .exact(Yq (a:=10) ae).1 aa
  omega
 generalize 10^k=P at *;simp;refine cd (aae (decide (P<=n))) ?_;by_cases hc:P<=n
 .have:=a1 hc;simp(disch:=try exact af)[hc];exact aW aa
 .have:=a2 hc;simp(disch:=try exact af)[hc];exact aW aa
def dg(n:Nat):UInt8:=UInt8.ofNat (48+n)
def dM:Nat->Nat->LuQ
 |_,0=>[]
 |n,w+1=>dM (n/10) w++[dg (n%10)]
theorem bi:∀(w n:Nat),(dM n w).length=w
 |0,_=>rfl
 |w+1,n=>by simp[dM,bi w]
def u8(b:UInt8):D:=.int .u8 b.toNat
def qY:LuQ:=[48,48,48,49,48,50,48,51,48,52,48,53,48,54,48,55,48,56,48,57,49,48,49,49,49,50,49,51,49,52,49,53,49,54,49,55,49,56,49,57,50,48,50,49,50,50,50,51,50,52,50,53,50,54,50,55,50,56,50,57,51,48,51,49,51,50,51,51,51,52,51,53,51,54,51,55,51,56,51,57,52,48,52,49,52,50,52,51,52,52,52,53,52,54,52,55,52,56,52,57,53,48,53,49,53,50,53,51,53,52,53,53,53,54,53,55,53,56,53,57,54,48,54,49,54,50,54,51,54,52,54,53,54,54,54,55,54,56,54,57,55,48,55,49,55,50,55,51,55,52,55,53,55,54,55,55,55,56,55,57,56,48,56,49,56,50,56,51,56,52,56,53,56,54,56,55,56,56,56,57,57,48,57,49,57,50,57,51,57,52,57,53,57,54,57,55,57,56,57,57]
theorem IR:([48,48,48,49,48,50,48,51,48,52,48,53,48,54,48,55,48,56,48,57,49,48,49,49,49,50,49,51,49,52,49,53,49,54,49,55,49,56,49,57,50,48,50,49,50,50,50,51,50,52,50,53,50,54,50,55,50,56,50,57,51,48,51,49,51,50,51,51,51,52,51,53,51,54,51,55,51,56,51,57,52,48,52,49,52,50,52,51,52,52,52,53,52,54,52,55,52,56,52,57,53,48,53,49,53,50,53,51,53,52,53,53,53,54,53,55,53,56,53,57,54,48,54,49,54,50,54,51,54,52,54,53,54,54,54,55,54,56,54,57,55,48,55,49,55,50,55,51,55,52,55,53,55,54,55,55,55,56,55,57,56,48,56,49,56,50,56,51,56,52,56,53,56,54,56,55,56,56,56,57,57,48,57,49,57,50,57,51,57,52,57,53,57,54,57,55,57,56,57,57]:LuQ)=qY:=rfl
theorem R5:∀x:Fin 200,qY[x.val]?=some (dg (if x.val%2=0 then x.val/2/10 else x.val/2%10)):=aG
def smV(i:Int):D:=u8 (dg (if i%2=0 then i.toNat/2/10 else i.toNat/2%10))
@[simp] theorem afn (k:IntKind)(i:Int)(K:V->Prop)(u:PU K)(h0:0<=i)(h1:i<200):rn (bnd (ixS (.d (.str qY)) (.d (.int k i)))) K u=K (.d (smV i)):=by
 have h:=XL qY (k:=k) h0 (R5 ⟨i.toNat,aa⟩);unfold rn;rw[show V.d (.str qY)=S qY from rfl,h]
 have e:(if i.toNat%2=0 then i.toNat/2/10 else i.toNat/2%10)=(if i%2=0 then i.toNat/2/10 else i.toNat/2%10):=by
  by_cases hc:i%2=0
  .rw[if_pos hc,if_pos aa]
  .rw[if_neg hc,if_neg aa]
 simp_all[smV,u8]
theorem adW{x:Nat}:smV (2*(x:Int))=u8 (dg (x/10)):=by grind[smV]
theorem adV{x:Nat}:smV (2*(x:Int)+1)=u8 (dg (x%10)):=by grind[smV]
theorem FV(n w:Nat):dM n (w+2)=dM (n/100) w++[dg (n%100/10),dg (n%100%10)]:=by
 simp only[dM,List.append_assoc,List.singleton_append];rw[Xl];have e1:n/10%10=n%100/10:=aa;have e2:n%10=n%100%10:=aa
 grind
theorem agp{α:Type}:∀(l:List α),l.length=8->∃c0 c1 c2 c3 c4 c5 c6 c7,l=[c0,c1,c2,c3,c4,c5,c6,c7]
 |[c0,c1,c2,c3,c4,c5,c6,c7],_=>⟨c0,c1,c2,c3,c4,c5,c6,c7,rfl⟩
 |[],h|[_],h|[_,_],h|[_,_,_],h|[_,_,_,_],h|[_,_,_,_,_],h|[_,_,_,_,_,_],h|[_,_,_,_,_,_,_],h=>by simp at h
 |_::_::_::_::_::_::_::_::_::_,h=>by simp at h
@[simp]theorem agn(s e off len cap tot:Nat):aN (.ref s e off len cap tot)=some (I len):=rfl
theorem ahX(B:LdQ)(c0 c1 c2 c3 c4 c5 c6 c7 x0 x1 x2 x3 x4 x5 x6 x7:D){i1 i2 i3 i4 i5 i6 i7:Nat}
  (h1:i1=1) (h2:i2=2) (h3:i3=3) (h4:i4=4) (h5:i5=5) (h6:i6=6) (h7:i7=7) :
  ((((((((c0::c1::c2::c3::c4::c5::c6::c7::B).set i7 x7).set i6 x6).set i5 x5).set i4 x4).set i3 x3).set i2 x2).set i1 x1).set 0 x0=x0::x1::x2::x3::x4::x5::x6::x7::B:=by simp_all
theorem ahY(B:LdQ)(c0 c1 c2 c3 x0 x1 x2 x3:D){i2 i3:Nat}(h1:i1=1)(h2:i2=2)(h3:i3=3):
  ((((c0::c1::c2::c3::B).set i3 x3).set i2 x2).set i1 x1).set 0 x0=x0::x1::x2::x3::B:=by grind
theorem set2(B:LdQ)(c0 c1 x0 x1:D)(h1:i1=1):((c0::c1::B).set i1 x1).set 0 x0=x0::x1::B:=by grind
@[simp]theorem agb(i:Int):norm (smV i)=smV i:=rfl
theorem uw{x:Nat}(h:i=2*(x:Int)+1):smV i=u8 (dg (x%10)):=by rw[h,adV]
theorem uy{x:Nat}(h:i=2*(x:Int)):smV i=u8 (dg (x/10)):=by rw[h,adW]
theorem agI(n w:Nat):dM n (w+8)=dM (n/100000000) w++[dg (n/1000000%100/10),dg (n/1000000%100%10),dg (n/10000%100/10),dg (n/10000%100%10),dg (n/100%100/10),dg (n/100%100%10),dg (n%100/10),dg (n%100%10)]:=by simp[FV,Xl]
theorem ab3(h0:Hp)(hh:h0.length=2)(k:KL)(off len cap tot:Nat)(pre post:LdQ)(hpre:pre.length=off):∀(r nd n:Nat)(mid done:LdQ),nd<=r->mid.length=nd->nd+done.length=len->len<=24->tot=off+len+post.length ->
  n<10^nd->n<18446744073709551616 ->
  (∀(n' nd':Nat)(mid' done':LdQ),nd'<8->mid'.length=nd'->nd'+done'.length=len->n'<10^nd'->(dM n' nd').map u8++done'=(dM n nd).map u8++done->k (.exit 0) [.d (.int .u64 n'),I nd'] [(1,.data 1 (pre++(mid'++(done'++post))) true false),nnQ]) ->
  lp (eA (CX Y) 2 (.ref 0 1 off len cap tot)) [] h0 [.d (.int .u64 n),I nd] [(1,.data 1 (pre++(mid++(done++post))) true false),nnQ] k:=by
 intro r
 induction r with
 | zero=> 
  intro nd n mid done hr hm hd hl ht hn h64 hk;refine ai ?_;simp(disch:=try exact af)[eA];exact hk n nd mid done aa hm hd hn rfl
 | succ r ih=>
  intro nd n mid done hr hm hd hl ht hn h64 hk;refine ai ?_;by_cases h8:8<=nd
  ·obtain ⟨m',c0,c1,c2,c3,c4,c5,c6,c7,rfl⟩:∃(m':LdQ)(c0 c1 c2 c3 c4 c5 c6 c7:D),mid=m'++[c0,c1,c2,c3,c4,c5,c6,c7]:=by
    obtain⟨c0,c1,c2,c3,c4,c5,c6,c7,e⟩:=agp (mid.drop (nd-8)) (by grind);exact⟨mid.take (nd-8),c0,c1,c2,c3,c4,c5,c6,c7,by rw[<-e,Xv]⟩
   have e0:pre++(m'++[c0,c1,c2,c3,c4,c5,c6,c7]++(done++post))=(pre++m')++c0::c1::c2::c3::c4::c5::c6::c7::(done++post):=ac;rw[e0];simp only[Zq,List.length_cons,List.length_nil]at hm;have hA:(pre++m').length=off+nd-8:=by simp;omega
   have e9:∀x0 x1 x2 x3 x4 x5 x6 x7:D,(pre++m')++x0::x1::x2::x3::x4::x5::x6::x7::(done++post)=pre++(m'++((x0::x1::x2::x3::x4::x5::x6::x7::done)++post)):=by intros;simp
   generalize pre++m'=A at *;unfold eA;simp only[IR];simp(disch:=try exact af)[Zt,Zr];rw[ahX _ _ _ _ _ _ _ _ _ _ _ _ _ _ _ _ _ aa aa aa aa aa aa aa,e9]
   rw[uw (x:=n%100) (i:=(n:Int)%100*2+1) aa,uy (x:=n%100) (i:=(n:Int)%100*2) aa,uw (x:=n/100%100) (i:=(n:Int)%10000/100*2+1) aa,uy (x:=n/100%100) (i:=(n:Int)%10000/100*2) aa,uw (x:=n/10000%100) (i:=(n:Int)%100000000/10000%100*2+1) aa,uy (x:=n/10000%100) (i:=(n:Int)%100000000/10000%100*2) aa,uw (x:=n/1000000%100) (i:=(n:Int)%100000000/10000/100*2+1) aa,uy (x:=n/1000000%100) (i:=(n:Int)%100000000/10000/100*2) aa]
   obtain⟨w,rfl⟩:∃w,nd=w+8:=⟨nd-8,aa⟩;have hd8:=agI n w;rw[show((w+8:Nat):Int)-8=(w:Nat) by omega,show(n:Int)/100000000=((n/100000000:Nat):Int) by omega]
   refine ih w (n/100000000) m' (u8 (dg (n/1000000%100/10))::u8 (dg (n/1000000%100%10))::u8 (dg (n/10000%100/10))::u8 (dg (n/10000%100%10))::u8 (dg (n/100%100/10))::u8 (dg (n/100%100%10))::u8 (dg (n%100/10))::u8 (dg (n%100%10))::done) aa aa bb hl ht ?_ aa ?_
   .grind
   .intro n' nd' mid' done' g1 g2 g3 g4 g5;refine hk n' nd' mid' done' g1 g2 g3 g4 ?_;rw[g5,hd8];simp
  .simp(disch:=try exact af)[eA];exact hk n nd mid done aa hm hd hn rfl
theorem Pf{x:Nat}(h:x<10):u8 (dg x)=.int .u8 (48+x):=by unfold u8 dg;congr 1;simp;omega
theorem agq{α:Type}:∀(l:List α),l.length=4->∃c0 c1 c2 c3,l=[c0,c1,c2,c3]
 |[c0,c1,c2,c3],_=>⟨c0,c1,c2,c3,rfl⟩
 |[],h|[_],h|[_,_],h|[_,_,_],h=>by simp at h
 |_::_::_::_::_::_,h=>by grind
theorem agr{α:Type}:∀(l:List α),l.length=2->∃c0 c1,l=[c0,c1]
 |[c0,c1],_=>⟨c0,c1,rfl⟩
 |[],h|[_],h=>by simp at h
 |_::_::_::_,h=>by grind
theorem ab4(n nd:Nat)(mid B:LdQ)(h8:nd<8)(hm:mid.length=nd)(hn:n<10^nd):∃(n1 nd1:Nat)(mid1 B1:LdQ),nd1<4∧mid1.length=nd1∧n1<10^nd1∧nd1+B1.length=nd+B.length∧(dM n1 nd1).map u8++B1=(dM n nd).map u8++B ∧
  ((4<=nd∧n1=n/10000∧nd1=nd-4∧(∃c0 c1 c2 c3,mid=mid1++[c0,c1,c2,c3])∧B1=u8 (dg (n/100%100/10))::u8 (dg (n/100%100%10))::u8 (dg (n%100/10))::u8 (dg (n%100%10))::B)∨(¬4<=nd∧n1=n∧nd1=nd∧mid1=mid∧B1=B)):=by
 by_cases h4:4<=nd
 .obtain⟨w,rfl⟩:∃w,nd=w+4:=⟨nd-4,aa⟩;obtain⟨c0,c1,c2,c3,e⟩:=agq (mid.drop w) (by grind);refine⟨n/10000,w,mid.take w,_,aa,by grind,?_,?_,?_,.inl ⟨h4,rfl,aa,⟨c0,c1,c2,c3,by rw[<-e,Xv]⟩,rfl⟩⟩
  .grind
  .grind
  simp[FV,Xl]
 .exact⟨n,nd,mid,B,aa,hm,hn,rfl,rfl,.inr ⟨h4,rfl,rfl,rfl,rfl⟩⟩
theorem aeM(n nd:Nat)(mid B:LdQ)(h8:nd<4)(hm:mid.length=nd)(hn:n<10^nd):∃(n1 nd1:Nat)(mid1 B1:LdQ),nd1<2∧mid1.length=nd1∧n1<10^nd1∧nd1+B1.length=nd+B.length∧(dM n1 nd1).map u8++B1=(dM n nd).map u8++B ∧
  ((2<=nd∧n1=n/100∧nd1=nd-2∧(∃c0 c1,mid=mid1++[c0,c1])∧B1=u8 (dg (n%100/10))::u8 (dg (n%100%10))::B)∨(¬2<=nd∧n1=n∧nd1=nd∧mid1=mid∧B1=B)):=by
 by_cases h4:2<=nd
 .obtain⟨w,rfl⟩:∃w,nd=w+2:=⟨nd-2,aa⟩;obtain⟨c0,c1,e⟩:=agr (mid.drop w) (by grind);refine⟨n/100,w,mid.take w,_,aa,by grind,?_,?_,?_,.inl ⟨h4,rfl,aa,⟨c0,c1,by rw[<-e,Xv]⟩,rfl⟩⟩
  .grind
  .grind
  simp[FV]
 .exact⟨n,nd,mid,B,aa,hm,hn,rfl,rfl,.inr ⟨h4,rfl,rfl,rfl,rfl⟩⟩
def fbH(pre mid B:LdQ):Hp:=[(1,.data 1 (pre++(mid++B)) true false),nnQ]
theorem adj{off tot n d:Nat}{pre mid post:LdQ}(hpre:pre.length=off)(hm:mid.length=d)(hd:d<=24)(ht:tot=off+d+post.length)(hn:n<10^d)(h64:n<18446744073709551616):
  CI Y F.bM [.ref 0 1 off d cap tot,.d (.int .u64 n)] [(1,.data 1 (pre++(mid++post)) true false),nnQ] (.tup []) [(1,.data 1 (pre++((dM n d).map u8++post)) true false),nnQ]:=by
 refine tj ?_;unfold bM;simp only[IR];simp;refine lo (ab3 _ rfl _ off d cap tot pre post hpre d d n mid [] aa hm ac hd ht hn h64 (λn' nd mid' done g1 g2 g3 g4 g5=>?_));have hp8:10^nd<=10^7:=Z3 ae aa;simp only[Nat.reducePow]at hp8;simp(disch:=try exact af)
 obtain⟨n1,d1,mid1,B1,f1,f2,f3,f4,f5,f6⟩:=ab4 n' nd mid' (done++post) g1 g2 g4;refine gQ (l:=[.d (.int .u32 n1),I d1]) (h:=fbH pre mid1 B1) (λq=>?_) ?_
 .rcases f6 with⟨c,rfl,rfl,⟨c0,c1,c2,c3,rfl⟩,rfl⟩|⟨c,rfl,rfl,rfl,rfl⟩
  .have e0:pre++(mid1++[c0,c1,c2,c3]++(done++post))=(pre++mid1)++c0::c1::c2::c3::(done++post):=ac;rw[e0];simp only[Zq,List.length_cons,List.length_nil]at g2;have hA:(pre++mid1).length=off+nd-4:=by simp;omega
   have e9:∀x0 x1 x2 x3:D,(pre++mid1)++x0::x1::x2::x3::(done++post)=pre++(mid1++(x0::x1::x2::x3::(done++post))):=by intros;simp
   generalize pre++mid1=A at *;simp(disch:=try exact af)[c,Zt,Zr];rw[ahY _ _ _ _ _ _ _ _ _ aa aa aa,e9]
   rw[uw (x:=n'%100) (i:=(n':Int)%100*2+1) aa,uy (x:=n'%100) (i:=(n':Int)%100*2) aa,uw (x:=n'/100%100) (i:=(n':Int)%10000/100*2+1) aa,uy (x:=n'/100%100) (i:=(n':Int)%10000/100*2) aa];simp[fbH,I,show((nd-4:Nat):Int)=(nd:Int)-4 by omega]
  .simp(disch:=try exact af)[c,fbH]
 have hp4:10^d1<=10^3:=Z3 ae aa;simp only[Nat.reducePow]at hp4;simp;obtain⟨n2,d2,mid2,B2,e1,e2,e3,e4,e5,e6⟩:=aeM n1 d1 mid1 B1 f1 f2 f3;refine gQ (l:=[.d (.int .u32 n2),I d2]) (h:=fbH pre mid2 B2) (λq=>?_) ?_
 .rcases e6 with⟨c,rfl,rfl,⟨c0,c1,rfl⟩,rfl⟩|⟨c,rfl,rfl,rfl,rfl⟩
  .have e0:pre++(mid2++[c0,c1]++B1)=(pre++mid2)++c0::c1::B1:=ac;rw[fbH,e0];simp only[Zq,List.length_cons,List.length_nil]at f2;have hA:(pre++mid2).length=off+d1-2:=by simp;omega
   have hB:tot=off+d1+B1.length:=by simp at f4;omega
   have e9:∀x0 x1:D,(pre++mid2)++x0::x1::B1=pre++(mid2++(x0::x1::B1)):=by intros;simp
   generalize pre++mid2=A at *;simp(disch:=try exact af)[c,Zt,Zr];rw[set2 _ _ _ _ _ aa,e9];rw[uw (x:=n1%100) (i:=(n1:Int)%100*2+1) aa,uy (x:=n1%100) (i:=(n1:Int)%100*2) aa];simp[fbH,I,show((d1-2:Nat):Int)=(d1:Int)-2 by omega]
  .simp(disch:=try exact af)[c,fbH]
 simp
 have hend:fbH pre ((dM n2 d2).map u8) B2=[(1,.data 1 (pre++((dM n d).map u8++post)) true false),nnQ]:=by
  simp only[fbH];rw[e5,f5,<-List.append_assoc ((dM n' nd).map u8),g5];simp
 refine gQ (l:=[]) (h:=fbH pre ((dM n2 d2).map u8) B2) (λq=>?_) ?_
 .match d2,e1,mid2,e2 with
  |0,_,[],_=>simp[fbH,dM]
  | 1,_,[c0],_=>
   have hn2:n2<10:=by simpa using e3
   have hB:tot=off+1+B2.length:=by simp at f4;omega
   simp(disch:=try exact af)[fbH,dM];rw[X9 hn2,Pf hn2]
 rw[hend];simp[od];exact⟨by trivial,.inl (by trivial)⟩
@[simp]theorem aie(s n:Nat)(cs:LdQ)(h:Hp)(k:kkQ)(u:PU k):rh (alD s n cs h) k u=rn (bnh h[s]?) (λx=>k (.ptr s (x.1+1) 0 cs.length) (h.set s (x.1+1,.data n cs true false))) .mk:=by unfold rh rn alD;exact Di ..
def ndg(n:Nat):Nat:=if n<10 then 1 else ndg (n/10)+1
theorem lX(n:Nat):1<=ndg n:=by unfold ndg;split<;>omega
theorem cJ:∀n:Nat,n<10^ndg n:=by
 intro n
 induction n using Nat.strongRecOn with
 | _ n ih=>
  unfold ndg;split
  .simpa using ‹n<10›
  .have:=ih (n/10) aa;rw[Nat.pow_succ];omega
theorem Bl:∀n:Nat,0<n->10^(ndg n-1)<=n:=by
 intro n
 induction n using Nat.strongRecOn with
 | _ n ih=>
  intro h0;unfold ndg;split
  .simp;omega
  .have h1:=ih (n/10) aa aa;have h2:=lX (n/10);rw[show ndg (n/10)+1-1=(ndg (n/10)-1)+1 by omega,Nat.pow_succ];omega
theorem dG{n d:Nat}(h:n<10^d)(hd:1<=d):ndg n<=d:=by
 rcases Zb n with e|e
 .subst e;unfold ndg;rw[if_pos aa];exact hd
 .have h1:=Bl n e;have:ndg n-1<d:=(Yq (a:=10) ae).1 aa;omega
def ah(n:Nat):LuQ:=dM n (ndg n)
def itoa(z:Int):LuQ:=if z<0 then 45::ah z.natAbs else ah z.natAbs
def ZB:LuQ:=[48,49,50,51,52,53,54,55,56,57,97,98,99,100,101,102,103,104,105,106,107,108,109,110,111,112,113,114,115,116,117,118,119,120,121,122]
theorem agG:([48,49,50,51,52,53,54,55,56,57,97,98,99,100,101,102,103,104,105,106,107,108,109,110,111,112,113,114,115,116,117,118,119,120,121,122]:LuQ)=ZB:=rfl
theorem Ur:∀x:Fin 10,(ZB.drop x.val).take 1=ah x.val:=aG
theorem Us:∀x:Fin 100,10<=x.val->(qY.drop (2*x.val)).take 2=ah x.val:=by intro x hx;have h1:=(show ∀x:Fin 100,(qY.drop (2*x.val)).take 2=dM x.val 2 by decide+kernel) x;rw[h1,ah];congr 1;unfold ndg;rw[if_neg aa];unfold ndg;rw[if_pos aa]
theorem NM{s:LuQ}{l:IntKind}{j:Int}(a b:Nat)(hi:i=a)(hj:j=b)(h1:a<=b)(h2:b<=s.length):slS (.d (.str s)) (some (.d (.int k i))) (some (.d (.int l j)))=some (.d (.str ((s.drop a).take (b-a)))):=by subst hi hj;simp only[slS,boV];rw[if_pos aa];simp only[];rw[if_pos aa];simp
theorem K4{n:Nat}(h:n<100):CP Y F.iI [I n] (S (ah n)):=by
 refine zQ ?_;unfold iI;simp only[IR,agG];by_cases c:n<10
 .simp(disch:=try exact af)[c];rw[NM n (n+1) aa aa aa (by rw[show ZB.length=36 from rfl];omega)];have:=Ur ⟨n,c⟩;simp only[]at this;simp[this];exact fA rfl
 .simp(disch:=try exact af)[c];rw[NM (2*n) (2*n+2) aa aa aa (by rw[show qY.length=200 from rfl];omega)];have:=Us ⟨n,h⟩ (by simpa using c);simp only[]at this;simp[this];exact fA rfl
theorem BU:∀l:LuQ,bytesD (l.map u8)=some l
 |[]=>rfl
 | b::l=>by
  have hb:=b.toNat_lt;simp only[Zs,u8,bytesD];rw[if_pos aa];have:=BU l;rw[this];simp
abbrev cH(cells:LdQ):Hp:=[(1,.data 1 cells true false),nnQ]
theorem Uu(hc:cells.length=24){l:IntKind}{j:Int}(a b:Nat)(hi:i=a)(hj:j=b)(h1:a<=b)(h2:b<=24):
  slP 24 1 (cH cells) (.ptr 0 1 0 24) (some (.d (.int k i))) (some (.d (.int l j)))=some (.ref 0 1 a (b-a) (24-a) 24):=by simp only[slP,cH,ax];simp[Aq hj h2,Aq hi h1,hc]
theorem IV(hc:cells.length=24){l:IntKind}{j:Int}(b:Nat)(hj:j=b)(h2:b<=24):
  slP 24 1 (cH cells) (.ptr 0 1 0 24) none (some (.d (.int l j)))=some (.ref 0 1 0 b 24 24):=by simp only[slP,cH,ax];simp[Aq hj h2,Na,hc]
theorem OP(hc:cells.length=24){i:Nat}{bs:LuQ}(hl:i+len<=24)(he:(cells.drop i).take len=bs.map u8)(hb:bs.length=len):cvT (cH cells) (.ref 0 1 i len cap 24)=some (S bs):=by simp only[cvT,cellsOf,cH,ax];simp[hc,hl,he,hb,BU]
theorem S7(h1 : -9223372036854775808<z)(h2:z<9223372036854775808):CP Y F.dC [I z,I 10] (S (itoa z)):=by
 refine vH ?_;have hd1:=lX z.natAbs;have hd2:ndg z.natAbs<=19:=dG aa aa;have hn:=cJ z.natAbs;by_cases hs:0<=z∧z<100
 .obtain⟨hs1,hs2⟩:=hs;obtain⟨n,rfl⟩:∃n:Nat,z=n:=⟨z.toNat,aa⟩;simp[dC,hs1,hs2];refine cd (K4 (n:=n) aa) ?_;rw[show itoa (n:Int)=ah n by unfold itoa;rw[if_neg aa];rfl];exact fA rfl
 .have hcs:(0<=z∧¬z<100)∨¬0<=z:=aa;have hw:z<0->IntKind.wrap .u64 z=z+18446744073709551616:=λh=>by rw[G8];omega
  have hw2:z<0->IntKind.wrap .u64 (-(z+18446744073709551616)) = -z:=λh=>by rw[G8];omega
  have hn64:z.natAbs<18446744073709551616:=aa;have hn0:0<z.natAbs:=aa;have hab:(z.natAbs:Int)=if z<0 then -z else z:=by split<;>omega
  have hit:itoa z=if z<0 then 45::dM z.natAbs (ndg z.natAbs)else dM z.natAbs (ndg z.natAbs):=rfl
  have hlo:=Bl z.natAbs hn0;generalize ndg z.natAbs=d at *;generalize z.natAbs=n at *
  obtain ⟨mid,post,hm,hp,hcell⟩:∃mid post:LdQ,mid.length=d∧post.length=23-d∧List.replicate 24 (D.int .u8 0)=[D.int .u8 0]++(mid++post):=by
   refine⟨List.replicate d (.int .u8 0),List.replicate (23-d) (.int .u8 0),ac,ac,?_⟩;rw[List.replicate_append_replicate,show d+(23-d)=23 by omega];rfl
  have hmain:cal (CX Y).p (cH ([D.int .u8 0]++(mid++post))) (.fn F.dy [] []) [.d (.int .u64 n)] λv12 h=>
    bnd (biI .add (.d (.int .i64 1)) v12) λv13=>
    bnd (slP 24 1 h (.ptr 0 1 0 24) (some (.d (.int .i64 1))) (some v13)) λv14=>
    cai (CX Y).i h (.fn F.bM [] []) [v14,.d (.int .u64 n)] 1 λv15 h=>
    bnd (biI .lss (I z) (.d (.int .i64 0))) λv16=>
    cnd v16 (
     bnd (ixP 24 1 (.ptr 0 1 0 24) (.d (.int .i64 0))) λv17=>
     stD h 1 v17 (.d (.int .u8 45)) λ_ h=>
     bnd (biI .add (.d (.int .i64 1)) v12) λv19=>
     bnd (slP 24 1 h (.ptr 0 1 0 24) none (some v19)) λv20=>
     bnd (cvT h v20) λv21=>
     out (S (itoa z)) v21 h) (
     bnd (biI .add (.d (.int .i64 1)) v12) λv22=>
     bnd (slP 24 1 h (.ptr 0 1 0 24) (some (.d (.int .i64 1))) (some v22)) λv23=>
     bnd (cvT h v23) λv24=>
     out (S (itoa z)) v24 h):=by
   refine cd (u:=.mk) (zt hlo hn hd1 hn64) ?_;simp(disch:=try exact af);rw[Uu bb 1 (d+1) aa aa aa aa];simp;refine gP (h':=cH ([D.int .u8 0]++((dM n d).map u8++post))) (adj (pre:=[D.int .u8 0]) rfl hm aa aa hn hn64) ?_ ac;by_cases g:z<0
   .rw[if_pos g]at hit;simp[g,bi,hp];rw[R2 _ _ _ _ _ _ _ _ _ (by simp[bi];omega) ac];simp(disch:=try exact af)[b6];rw[IV (by simp[bi];omega) (d+1) aa aa];simp;rw[OP (bs:=45::dM n d) (by simp[bi];omega) aa (by simp[u8,bi,List.take_append,Zx]) (by simp[bi])]
    rw[hit];simp;exact fA rfl
   .rw[if_neg g]at hit;simp(disch:=try exact af)[g];rw[Uu (by simp[bi];omega) 1 (d+1) aa aa aa aa];simp;rw[OP (bs:=dM n d) (by simp[bi];omega) aa (by simp[bi,List.take_append,Zx]) (by simp[bi])];rw[hit];simp;exact fA rfl
  rcases hcs with⟨g1,g2⟩|g1
  .have g3:¬z<0:=aa;rw[if_neg g3]at hab;simp[dC,g1,g2];refine gQ (l:=[.d (.int .u64 n)]) (h:=cH ([D.int .u8 0]++(mid++post))) (λq=>?_) hmain;rw[<-hcell];simp(disch:=try exact af)[g3,hab]
  .have g3:z<0:=aa;rw[if_pos g3]at hab;simp[dC,g1];refine gQ (l:=[.d (.int .u64 n)]) (h:=cH ([D.int .u8 0]++(mid++post))) (λq=>?_) hmain;rw[<-hcell];simp[g3,hab,hw g3,hw2 g3]
theorem aew(h1 : -9223372036854775808<z)(h2:z<9223372036854775808):CP Y F.kZ [I z] (S (itoa z)):=by refine BB ?_;simp[kZ];refine cd (S7 h1 h2) ?_;exact fA rfl
theorem Dt(h1 : -9223372036854775808<z)(h2:z<9223372036854775808):CP Y F.strconv_Itoa [I z] (S (itoa z)):=by refine Ee ?_;simp[strconv_Itoa];refine cd (aew h1 h2) ?_;exact fA rfl
def qh(b:UInt8):Bool:=decide (48<=b.toNat)&&decide (b.toNat<=57)
theorem mi{b:UInt8}:qh b=true↔48<=b.toNat∧b.toNat<=57:=by simp[qh]
def fL(a:Nat)(s:LuQ):Nat:=s.foldl (λa b=>a*10+(b.toNat-48)) a
@[simp]theorem Ib(a:Nat):fL a []=a:=by unfold fL;rw[List.foldl_nil]
@[simp]theorem ky(a:Nat)(b:UInt8)(s:LuQ):fL a (b::s)=fL (a*10+(b.toNat-48)) s:=by unfold fL;rw[List.foldl_cons]
theorem JZ(x:Nat):(dg x).toNat=(48+x)%256:=by simp[dg]
theorem agH{b:UInt8}(h:qh b=true):dg (b.toNat-48)=b:=by rw[mi]at h;apply UInt8.toNat.inj;rw[JZ];omega
theorem Im:∀(s:LuQ)(a w:Nat),s.all qh=true->dM (fL a s) (w+s.length)=dM a w++s
 |[],a,w,_=>by simp
 | b::s,a,w,h=>by
  simp only[List.all_cons,Z7]at h;have:=Im s (a*10+(b.toNat-48)) (w+1) h.2;have hb:=mi.1 h.1;rw[ky,List.length_cons,show w+(s.length+1)=w+1+s.length by omega,this];simp only[dM];rw[show(a*10+(b.toNat-48))/10=a by omega,show(a*10+(b.toNat-48))%10=b.toNat-48 by omega,agH h.1];simp
theorem Ft:∀(s:LuQ)(a:Nat),a*10^s.length<=fL a s
 |[],a=>by simp
 | b::s,a=>by
  have:=Ft s (a*10+(b.toNat-48));rw[ky,List.length_cons,Nat.pow_succ];refine Z4 ?_ this;rw[Zo (10^s.length),<-Nat.mul_assoc];exact Zv _ aa
theorem t6:∀(s:LuQ)(a:Nat),s.all qh=true->fL a s<(a+1)*10^s.length
 |[],a,_=>by simp
 | b::s,a,h=>by
  simp only[List.all_cons,Z7]at h;have:=t6 s (a*10+(b.toNat-48)) h.2;have hb:=mi.1 h.1;rw[ky,List.length_cons,Nat.pow_succ];refine Z2 this ?_;rw[Zo (10^s.length),<-Nat.mul_assoc];exact Zv _ aa
theorem VT{n d:Nat}(h1:10^d<=n)(h2:n<10^(d+1)):ndg n=d+1:=by have:=dG h2 aa;have h3:=cJ n;have:d<ndg n:=(Yq (a:=10) ae).1 aa;omega
def qH(s:LuQ):Bool:=!s.isEmpty&&s.all qh && !(decide (1<s.length)&&decide (s.headD 0=48))
theorem Fl{s:LuQ}(h:qH s=true):ah (fL 0 s)=s:=by
 simp only[qH,Z7,Y4,Xe,decide_eq_false_iff_not]at h;obtain⟨⟨h0,h1⟩,h2⟩:=h;cases s with
 |nil=>simp at h0
 | cons b s=>
  have hd:=Im (b::s) 0 0 h1;simp only[List.all_cons,Z7]at h1;have hb:=mi.1 h1.1;simp only[Zj,dM,List.nil_append]at hd
  have hn:ndg (fL 0 (b::s))=(b::s).length:=by
   have lo:=Ft s (b.toNat-48);have hi:=t6 s (b.toNat-48) h1.2;simp only[ky,Wp,Zj,List.length_cons]at *;by_cases hs:s=[]
   .subst hs;simp only[Ib,List.length_nil,Zj];unfold ndg;rw[if_pos aa]
   .have hl:0<s.length:=W5.2 hs
    have hb0:b.toNat≠48:=by
     rcases h2 with h2|h2
     .omega
     .intro e;apply h2;simp only[List.headD_cons];apply UInt8.toNat.inj;rw[e];rfl
    refine VT ?_ ?_
    .refine Z4 ?_ lo;have:=Zv (10^s.length) (show 1<=b.toNat-48 by omega);omega
    .refine Z2 hi ?_;rw[Nat.pow_succ,Zo];exact Z1 _ aa
  unfold ah;rw[hn];exact hd
theorem abS{x:Nat}(h:x<10):qh (dg x)=true:=by rw[mi,JZ];omega
theorem aeS{x:Nat}(h:x<10):(dg x).toNat=48+x:=by rw[JZ];omega
theorem w5:∀(w n:Nat),(dM n w).all qh=true
 |0,_=>rfl
 | w+1,n=>by
  simp only[dM,Y0,w5 w,List.all_cons,List.all_nil,Yc,Yd];exact abS aa
theorem uR:∀(s t:LuQ)(a:Nat),fL a (s++t)=fL (fL a s) t
 |[],t,a=>rfl
 |b::s,t,a=>by rw[List.cons_append,ky,ky,uR s t]
theorem xu:∀(w n:Nat),n<10^w->fL 0 (dM n w)=n
 |0,n,h=>by simp at h;subst h;rfl
 | w+1,n,h=>by
  have:=xu w (n/10) (by rw[Nat.pow_succ]at h;omega);simp only[dM,uR,this,ky,Ib];rw[aeS aa];omega
theorem sy(n:Nat):qH (ah n)=true:=by
 have hl:(ah n).length=ndg n:=bi ..;have hp:=lX n;have ha:(ah n).all qh=true:=w5 ..;have hh:fL 0 (ah n)=n:=xu _ _ (cJ n);cases he:ah n with
 |nil=>rw[he]at hl;simp at hl;omega
 | cons b s=>
  rw[he]at hl ha hh;simp only[qH,List.isEmpty_cons,Bool.not_false,Yd,ha,List.headD_cons,Y4,Xe,decide_eq_false_iff_not];by_cases h1:1<(b::s).length
  .right;refine decide_eq_false λe=>?_
   subst e;simp only[List.all_cons,Z7]at ha;have hi:=t6 s 0 ha.2;simp only[ky,List.length_cons]at *;have e48:(48:UInt8).toNat=48:=rfl;rw[e48]at hh;simp only[Za,Wp,Zj,W8]at *;rw[hh]at hi
   have lo:=Bl n (by
    rcases Zb n with e|e
    .have e1:ndg 0=1:=by unfold ndg;rfl
     rw[e,e1]at hl;omega
    .exact e)
   rw[<-hl]at lo;simp at lo;omega
  .left;simpa using h1
theorem dY(n:Nat):fL 0 (ah n)=n:=xu _ _ (cJ n)
def rdS(s:LuQ):Option Int:=if s.headD 0=45 then(if qH s.tail=true∧s.tail≠[48]then some (-(fL 0 s.tail:Int))else none)else if qH s=true then some (fL 0 s:Int)else none
theorem wT(n:Nat):ah n≠[]:=by intro e;have:(ah n).length=ndg n:=bi ..;have:=lX n;rw[e]at *;simp at *;omega
theorem sk(n:Nat):(ah n).headD 0≠45:=by
 have ha:(ah n).all qh=true:=w5 ..;cases he:ah n with
 |nil=>exact absurd he (wT n)
 | cons b s=>
  rw[he]at ha;simp only[List.all_cons,Z7,mi]at ha;simp only[List.headD_cons];intro e;subst e;have:(45:UInt8).toNat=45:=rfl;omega
theorem Lx(z:Int):rdS (itoa z)=some z:=by
 unfold rdS itoa;by_cases hz:z<0
 .rw[if_pos hz,List.headD_cons,if_pos rfl,List.tail_cons,sy,dY,if_pos]
  .congr 1;omega
  .refine⟨rfl,λe=>?_⟩;have:=dY z.natAbs;rw[e]at this;have e2:fL 0 [48]=0:=rfl;omega
 .rw[if_neg hz,if_neg (sk _),if_pos (sy _),dY];congr 1;omega
theorem Vk{s:LuQ}(h:rdS s=some z):s=itoa z:=by
 unfold rdS at h;split at h
 .rename_i hd;split at h
  .rename_i hc;simp only[Z9]at h;subst h;cases s with
   |nil=>simp at hd
   | cons b s=>
    simp only[List.headD_cons]at hd;subst hd;simp only[List.tail_cons]at *;have he:=Fl hc.1
    have h0:fL 0 s≠0:=by
     intro e;rw[e]at he;apply hc.2;rw[<-he];unfold ah ndg;rfl
    unfold itoa;rw[if_pos aa,Xh,Int.natAbs_natCast,he]
  .cases h
 .split at h
  .rename_i hc;simp only[Z9]at h;subst h;unfold itoa;rw[if_neg aa,Int.natAbs_natCast,Fl hc]
  .cases h
theorem An:∀(v w n:Nat),dM n (w+v)=dM (n/10^v) w++dM n v
 |0,w,n=>by simp[dM]
 | v+1,w,n=>by
  rw[show w+(v+1)=(w+v)+1 by omega];simp only[dM];rw[An v w (n/10),Xl,Nat.pow_succ,Zo 10,List.append_assoc]
theorem Al:∀(w n m:Nat),dM (n+10^w*m) w=dM n w
 |0,_,_=>rfl
 | w+1,n,m=>by
  simp only[dM];have e:n+10^(w+1)*m=n+10*(10^w*m):=by rw[Nat.pow_succ,Zo (10^w) 10,Nat.mul_assoc]
  rw[e,Ye _ _ ae,Xb,Al w]
theorem SP{t k r:Nat}(ht:0<t)(hr:r<10^k):ah (r+10^k*t)=ah t++dM r k:=by
 have h1:=Bl t ht;have h2:=cJ t;have h3:=lX t;obtain⟨d,hd⟩:∃d,ndg t=d+1:=⟨ndg t-1,aa⟩
 have hn:ndg (r+10^k*t)=ndg t+k:=by
  rw[hd]at h1 h2 ⊢;simp only[Nat.add_sub_cancel]at h1;rw[show d+1+k=(d+k)+1 by omega];refine VT ?_ ?_
  .rw[Yr,Zo];have:=Z1 (10^k) h1;omega
  .rw[show d+k+1=k+(d+1) by omega,Yr];have:=Z1 (10^k) h2;rw[Nat.mul_succ]at this;omega
 have e:=An k (ndg t) (r+10^k*t);rw[<-hn,Ye _ _ (Nat.pos_of_ne_zero (by have:=Xq (a:=10) (n:=k) ae;omega)),W4 hr,Zj,Al]at e;exact e
def BQ:Nat->Nat->LnQ
 |_,0=>[]
 |n,w+1=>BQ (n/10) w++[n%10]
theorem FU:∀(w n:Nat),(BQ n w).length=w
 |0,_=>rfl
 |w+1,n=>by simp[BQ,FU w]
theorem DF:∀(w n:Nat),∀x∈BQ n w,x<10
 |0,_=>by simp[BQ]
 | w+1,n=>by
  intro x hx;simp only[BQ,Xp,List.mem_singleton]at hx;rcases hx with hx|hx
  .exact DF w _ x hx
  .omega
theorem J1:∀(w n:Nat),dM n w=(BQ n w).map dg
 |0,_=>rfl
 |w+1,n=>by simp[dM,BQ,J1 w]
def abU(a:Nat)(l:LnQ):Nat:=l.foldl (λa d=>a*10+d) a
theorem Fs:∀(w n:Nat),n<10^w->abU 0 (BQ n w)=n
 |0,n,h=>by simp at h;subst h;rfl
 | w+1,n,h=>by
  have:=Fs w (n/10) (by rw[Nat.pow_succ]at h;omega);unfold abU at this;simp only[abU,BQ,List.foldl_append,this,List.foldl_cons,List.foldl_nil];omega
def f8(x:Nat):D:=.int .u8 (48+x)
theorem ZG(n w:Nat):(dM n w).map u8=(BQ n w).map f8:=by rw[J1,Wb];apply List.map_congr_left;intro x hx;exact Pf (DF w n x hx)
theorem Ki(k:KL)(h0:Hp)(hh:h0.length=0):∀(r a:LnQ)(s:Nat),(a++r).length<=18->(∀x∈r,x<10)->s<10^a.length ->
  (k (.exit 0) [I (abU s r)] []) ->
  lp (mT (CX Y) (lst f8 (a++r)) (I (a++r).length)) [] h0 [I s,I a.length] [] k
 | []=>by
  intro a s hN hx hs hk;refine ai ?_;simp[mT];exact hk
 | x::r=>by
  intro a s hN hx hs hk;simp at hN hx;have hs18:s<10^17:=Z2 hs (Z3 ae aa);simp only[Nat.reducePow]at hs18;have hx1:=hx.1;refine ai ?_;simp(disch:=try exact af)[mT,f8];have:=Ki k h0 hh r (a++[x]) (s*10+x) bb hx.2 (by simp[Nat.pow_succ];omega) hk;simp at this
  rw[show(48+(x:Int)-48)=x by omega];exact this
theorem acO{n w:Nat}(h1:1<=w)(h2:w<=18)(hn:n<10^w):CP Y F.ia [S (dM n w)] (.tup [I n,.d (.pl .nilIface)]):=by
 refine tZ ?_;have hl:=FU w n;have hlt:=DF w n;have hh:=Fs w n hn;have he:=ZG n w;have hD:=J1 w n;generalize dM n w=L at *;generalize BQ n w=l at *;cases l with
 |nil=>simp at hl;omega
 | cons x l=>
  have hx:=hlt x ac
  have hi:ixS (S L) (.d (.int .i64 0))=some (.d (.int .u8 (48+x))):=by
   rw[hD];simp[ixS];have e:=Pf hx;unfold u8 at e;injection e
  have hlen:L.length=w:=by rw[hD];simpa using hl
  have hlw:oe (S L)=some (I w):=by rw[JF,hlen]
  simp(disch:=try exact af)[ia,hlw,hi]
  have hcv:∀(k:kkQ),cvB (S L) [] k=k (lst f8 (x::l)) []:=by
   intro k
   have:V.d (.sl L.length (L.map λb=>.int .u8 b.toNat))=lst f8 (x::l):=by
    unfold lst;rw[hlen,hl,<-he];rfl
   simp only[cvB,this]
  refine gQ (l:=[S L]) (h:=[]) (λq=>?_) ?_
  .simp[show ¬(48+(x:Int)=43) by omega]
  show cvB (S L) [] _
  rw[hcv];simp;refine lo (Ki _ _ rfl (x::l) [] 0 (by simp at hl;simp;omega) hlt ac ?_);simp[hi,hh];refine gQ (l:=[I n]) (h:=[]) (λq=>?_) ?_
  .simp[hh,show ¬(48+(x:Int)=45) by omega]
  exact⟨[],by simp[cF,aO,norm]⟩
theorem Jl:biF .neq (.d (.pl .nilIface)) (.d (.pl .nilIface))=some (.d (.bool false)):=rfl
theorem Kh{n w:Nat}(h1:1<=w)(h2:w<=18)(hn:n<10^w):CP Y F.strconv_Atoi [S (dM n w)] (.tup [I n,.d (.pl .nilIface)]):=by refine wi ?_;simp[strconv_Atoi];refine cd (acO h1 h2 hn) ?_;simp[Jl];exact⟨[],by simp[cF,aO,norm]⟩
theorem EA(z:D):∀n,iS n [z]=List.replicate n z
 |0=>rfl
 |n+1=>by simp[iS,EA z n,List.replicate_succ]
@[simp] theorem aic (s by_:Nat)(z:D)(h:Hp)(i:Int)(k:kkQ)(u:PU k)(h0:0<=i)(hb:by_*i<=281474976710656)(h1:i<=9223372036854775807):
  rh (mkS s by_ [z] h (.d (.int .i64 i)) (.d (.int .i64 i))) k u=rn (bnh h[s]?) (λy=>k (.ref s (y.1+1) 0 i.toNat i.toNat i.toNat) (h.set s (y.1+1,.data 1 (List.replicate i.toNat z) true false))) .mk:=by unfold rh rn;simp only[mkS];rw[if_pos ⟨h0,Int.le_refl _,ac,hb,h1⟩,Di];simp only[EA,Y8,List.length_singleton]
@[simp]theorem ahk(s e off len cap tot:Nat):aN (.ref s e off len cap tot)=some (.d (.int .i64 (len:Int))):=id rfl
theorem om{T:kkQ->Prop}{k:kkQ}{u:PU k}(h:T k):rh T k u:=h
theorem cdz{h:Hp}{f:FuncId}{v:V}{k:kkQ}{u:PU k}(hs:aO h args=some (ds,h'))(hc:C f ds v)(hk:k v (if cI v then h else h')):rh (cal C h (.fn f [] []) args) k u:=
 qP hs hc hk
variable{α:Type}{f:α->D}{o:List α}{h:Hp}{s e n:Nat}{ex fr:Bool}
theorem se(clr:LnQ)(i:Nat)(x0 x:Nat×Bk)(h0 h:Hp):aH clr i (x0::h0) (x::h)=(if gZ clr i=true then x else(x0.1,.none))::aH clr (i+1) h0 h:=by cases x0;cases x;rfl
theorem Be(clr:LnQ)(i:Nat)(x:Nat×Bk)(h:Hp):qc clr i (x::h)=((!gZ clr i||offB clr x.2)&&qc clr (i+1) h):=by cases x;rfl
theorem Sz(s:Nat):gZ [] s=true:=rfl
theorem ES(t:Nat)(l:LnQ)(s:Nat):gZ (t::l) s=(!(Nat.beq t s)&&gZ l s):=rfl
theorem beq_lit(a b:Nat):Nat.beq a b=decide (a=b):=by
 by_cases h:a=b
 .subst h;simp[Xu]
 .rw[decide_eq_false h];cases hb:Nat.beq a b with
  |false=>rfl
  |true=>exact absurd (Zk hb) h
theorem Tm{n by_:Nat}{h:Hp}{cells:LdQ}{z:LdQ}(hn:0<n){l:Nat}(hl:0<l)(hc:cells.length=l*n)(hb:l*by_<=140737488355328){q:kkQ}{u:PU q}
  (hq:q (.ref (h.length+1) 1 0 l l cells.length) (h++[(1,.data n [] true false),(1,.data n cells false false)])) :
  rh (apV false (h.length+1) n by_ (.ref (h.length+0) 1 0 0 0 0) (.d (.sl l cells)) (h++[(1,.data n [] true false),nnQ])) q u:=by
 unfold rh apV;simp only[cellsOf];rw[if_pos hc];unfold apC;rw[if_neg aa];have hg:ax (h++[(1,Bk.data n [] true false),nnQ]) (h.length+0) 1=.data n [] true false:=by simp[ax]
 simp only[hg];rw[if_pos ⟨trivial,rfl,Z8 _,ac,hc⟩,if_neg aa,if_pos (by simpa using hb)];simp only[if_true,new];have hs:(h++[(1,Bk.data n [] true false),nnQ])[h.length+1]?=some nnQ:=ac;simp only[hs];simpa using hq
def sd(k:Int)(a b:LiQ):LiQ:=List.zipWith (λx y=>x-k*y) a b
def bdZ(B:Nat)(l:LiQ):Bool:=l.all λx=>decide (x.natAbs<10^B)
variable{α:Type}(d:α)(g:α->LiQ)(w:α->LiQ->α)
def yL(m:List α)(i c:Nat):Int:=nth 0 (g (nth d m i)) c
def atG(c:Nat)(m:List α):Nat->Nat->Int->Int
 |0,_,at_=>at_
 |r+1,i,at_=>atG c m r (i+1) (if yL d g m i c≠0∧(at_<0∨(yL d g m i c).natAbs<(yL d g m at_.toNat c).natAbs)then i else at_)
def jb(c o:Nat)(m:List α)(i:Nat):List α:=m.set i (w (nth d m i) (sd ((yL d g m i c).fdiv (yL d g m o c)) (g (nth d m i)) (g (nth d m o))))
def kR(c o:Nat):Nat->Nat->Bool->List α->Bool×List α
 |0,_,b,m=>(b,m)
 |r+1,i,b,m=>kR c o r (i+1) (b||decide ((yL d g m i c).fmod (yL d g m o c)≠0)) (jb d g w c o m i)
def upG(c o:Nat):Nat->Nat->List α->List α
 |0,_,m=>m
 |r+1,i,m=>upG c o r (i+1) (jb d g w c o m i)
def Bj(c o:Nat)(m:List α):List α:=if yL d g m o c<0 then m.set o (w (nth d m o) ((g (nth d m o)).map (- ·)))else m
def lK(m:List α)(i j:Nat):List α:=(m.set i (nth d m j)).set j (nth d m i)
def m8(B c:Nat):Nat->Nat->List α->Option (Nat×List α)
 |0,_,_=>none
 | f+1,o,m=>
  if (m.all λa=>bdZ B (g a))=true then
   let a:=atG d g c m (m.length-o) o (-1)
   if a<0 then some (o,m)else
    let s:=kR d g w c o (m.length-(o+1)) (o+1) false (lK d m o a.toNat)
    if s.1=true then m8 B c f o s.2 else some (o+1,upG d g w c o o 0 (Bj d g w c o s.2))
  else none
def pi(B f:Nat):Nat->Nat->Nat->List α->Option (Nat×List α)
 |0,_,o,m=>some (o,m)
 | r+1,c,o,m=>if o<m.length then(match m8 d g w B c f o m with
  |some (o',m')=>pi B f r (c+1) o' m'
  |none=>none)else some (o,m)
def FL(B f columns:Nat)(m:List α):Option (Nat×List α):=pi d g w B f columns 0 0 m
variable{α:Type}{d:α}{g:α->LiQ}{w:α->LiQ->α}
theorem mr(c o:Nat)(m:List α)(i:Nat):(jb d g w c o m i).length=m.length:=by simp[jb]
theorem oE(c o:Nat):∀(r i:Nat)(b:Bool)(m:List α),(kR d g w c o r i b m).2.length=m.length
 |0,_,_,_=>rfl
 |r+1,i,b,m=>by simp only[kR];rw[oE,mr]
theorem Pd(c o:Nat):∀(r i:Nat)(m:List α),(upG d g w c o r i m).length=m.length
 |0,_,_=>rfl
 |r+1,i,m=>by simp only[upG];rw[Pd,mr]
theorem EU(c o:Nat)(m:List α):(Bj d g w c o m).length=m.length:=by unfold Bj;split<;>simp
theorem gG(m:List α)(i j:Nat):(lK d m i j).length=m.length:=by simp[lK]
theorem O2(c:Nat)(m:List α):∀(r i:Nat)(a:Int),a<i->-1<=a->atG d g c m r i a<(i+r:Nat)∧-1<=atG d g c m r i a
 |0,i,a,h,h0=>⟨by simpa[atG]using h,h0⟩
 | r+1,i,a,h,h0=>by
  simp only[atG];have:=O2 c m r (i+1) (if yL d g m i c≠0∧(a<0∨(yL d g m i c).natAbs<(yL d g m a.toNat c).natAbs)then i else a) (by split<;>omega) (by split<;>omega);exact⟨aa,this.2⟩
structure vT{α β:Type}(d:α)(g:α->LiQ)(w:α->LiQ->α)(d':β)(g':β->LiQ)(w':β->LiQ->β)(p:α->β):Prop where
 d:p d=d'
 g:∀a,g' (p a)=g a
 w:∀a r,p (w a r)=w' (p a) r
section
variable{α β:Type}{d:α}{g:α->LiQ}{w:α->LiQ->α}{d':β}{g':β->LiQ}{w':β->LiQ->β}{p:α->β}(H:vT d g w d' g' w' p)
include H
theorem vT.nth(m:List α)(i:Nat):nth d' (m.map p) i=p (nth d m i):=by simp only[Go.Vm.nth,Z6,List.getElem?_map];cases m[i]?<;>simp[H.d]
theorem vT.ent(m:List α)(i c:Nat):yL d' g' (m.map p) i c=yL d g m i c:=by simp[yL,H.nth,H.g]
theorem vT.take(c o:Nat)(m:List α)(i:Nat):jb d' g' w' c o (m.map p) i=(jb d g w c o m i).map p:=by simp only[jb,H.ent,H.nth,H.g,Wz,H.w]
theorem vT.at(c:Nat)(m:List α):∀(r i:Nat)(a:Int),atG d' g' c (m.map p) r i a=atG d g c m r i a
 |0,_,_=>rfl
 |r+1,i,a=>by simp only[atG,H.ent,vT.at c m r]
theorem vT.sweep(c o:Nat):∀(r i:Nat)(b:Bool)(m:List α),kR d' g' w' c o r i b (m.map p)=((kR d g w c o r i b m).1,(kR d g w c o r i b m).2.map p)
 |0,_,_,_=>rfl
 |r+1,i,b,m=>by simp only[kR,H.ent,H.take,vT.sweep c o r]
theorem vT.up(c o:Nat):∀(r i:Nat)(m:List α),upG d' g' w' c o r i (m.map p)=(upG d g w c o r i m).map p
 |0,_,_=>rfl
 |r+1,i,m=>by simp only[upG,H.take,vT.up c o r]
theorem vT.neg(c o:Nat)(m:List α):Bj d' g' w' c o (m.map p)=(Bj d g w c o m).map p:=by simp only[Bj,H.ent,H.nth,H.g];split<;>simp[Wz,H.w]
theorem vT.swap(m:List α)(i j:Nat):lK d' (m.map p) i j=(lK d m i j).map p:=by simp[lK,H.nth,Wz]
theorem vT.round(B c:Nat):∀(f o:Nat)(m:List α),m8 d' g' w' B c f o (m.map p)=(m8 d g w B c f o m).map λq=>(q.1,q.2.map p)
 |0,_,_=>rfl
 | f+1,o,m=>by
  have e:((m.map p).all λa=>bdZ B (g' a))=m.all λa=>bdZ B (g a):=by simp[List.all_map,Function.comp_def,H.g]
  simp only[m8,List.length_map,e,H.at,H.swap,H.sweep,H.neg,H.up,vT.round B c f];split
  .split
   .rfl
   .split<;>rfl
  .rfl
theorem vT.cols(B f:Nat):∀(r c o:Nat)(m:List α),pi d' g' w' B f r c o (m.map p)=(pi d g w B f r c o m).map λq=>(q.1,q.2.map p)
 |0,_,_,_=>rfl
 | r+1,c,o,m=>by
  simp only[pi,List.length_map,H.round];split
  .cases m8 d g w B c f o m with
   |none=>rfl
   |some q=>exact vT.cols B f r (c+1) q.1 q.2
  .rfl
theorem vT.form(B f c:Nat)(m:List α):FL d' g' w' B f c (m.map p)=(FL d g w B f c m).map λq=>(q.1,q.2.map p):=H.cols B f c 0 0 m
end
abbrev Mz:=LLQ
def qU(B f c:Nat)(m:Mz):Option (Nat×Mz):=FL [] (λr=>r) (λ_ r=>r) B f c m
def lG(n:Nat)(m:Mz):Mz:=(List.range n).map λc=>m.map (λr=>nth 0 r c)++(List.replicate n (0:Int)).set c 1
def BW(k:Nat)(r:LiQ):Bool:=match r.findIdx? λz=>decide (z≠0)with
 |some i=>decide (k<=i)
 |none=>false
def aam(B f k n:Nat)(m:Mz):Option Mz:=
 let l:=(m.filter (BW k)).map (List.drop k)
 if l=[]then some []else match qU B f n l with
  |some (o,w)=>some (w.take o)
  |none=>none
def uO(B f n:Nat)(m:Mz):Option Mz:=
 match qU B f (m.length+n) (lG n m)with
 |some (o,w)=>aam B f m.length n (w.take o)
 |none=>none
def u6(n:Nat):D:=.int .u64 n
abbrev U(n:Int):V:=.d (.int .u64 n)
@[simp]theorem aiN(n:Nat):V.d (u6 n)=U n:=id rfl
def pcs(n:Nat):V:=lst u6 (dig Z n)
theorem aeb(n:Nat):pcs n=lst u6 (dig Z n):=rfl
theorem Fe(l:LnQ)(h:Hp)(hl:j<l.length):ld1 h (.dptr (l.map u6) j)=some (U (nth 0 l j:Nat)):=eX u6 0 l h hl
variable{h:Hp}{s e tot:Nat}{l:LnQ}{ex fr:Bool}
theorem CJ(hg:h[s]?=some (e,.data 1 (l.map u6) ex fr))(ht:tot=l.length)(h0:0<=i)(h1:i<len)(k:IntKind):ixV h 1 (.ref s e 0 len cap tot) (.d (.int k i))=some (.ptr s e i.toNat tot):=by simp only[ixV,ee hg];rw[if_pos ⟨by simp[ht],h0,h1⟩];simp
theorem JG(hg:h[s]?=some (e,.data 1 (l.map u6) ex fr))(ht:tot=l.length)(hj:j<l.length):ld1 h (.ptr s e j tot)=some (U (nth 0 l j:Nat)):=by
 have e1:tot=(l.map u6).length:=by simp[ht]
 simp only[ld1,ee hg,if_pos e1,List.getElem?_map,List.getElem?_eq_getElem hj,Option.map_some,cC 0 l j hj];rfl
theorem RZ(hg:h[s]?=some (e,.data 1 (l.map u6) ex false))(ht:tot=l.length)(hj:j<l.length)(x:Nat):st h 1 (.ptr s e j tot) (U x)=some (h.set s (e,.data 1 ((l.set j x).map u6) ex false)):=by
 have e1:(l.map u6).take j++[u6 x]++(l.map u6).drop (j+1)=(l.set j x).map u6:=by
  rw[Wz,Yi,if_pos bb];simp
 simp only[st,if_true,sto,ee hg,kP,toD];rw[if_pos ⟨trivial,by simp[ht],bb⟩];simp only[b6,List.length_singleton];rw[<-e1];rfl
theorem ahW(hg:h[s]?=some (e,.data 1 (l.map u6) ex fr))(ht:tot=l.length)(h0:0<=i)(h1:i<=cap)(hlc:len<=cap):slV h 1 (.ref s e 0 len cap tot) none (some (I i))=some (.ref s e 0 i.toNat cap tot):=by simp only[slV,ee hg,boV];rw[if_pos ⟨aa,h1⟩];simp[ht,hlc]
theorem wj(hg:h[s]?=some (e,.data 1 (l.map u6) ex fr))(ht:tot=l.length)(h1:len<=cap)(hc:cap<=tot):cF h (.ref s e 0 len cap tot)=some (lst u6 (l.take len),h.set s (e,.data 1 (l.map u6) ex true)):=by simp only[cF,toD,ee hg];rw[if_pos ⟨by simp[ht],h1,bb⟩];simp[lst,List.map_take,b6];omega
theorem He{h:Hp}{s e cap tot:Nat}{l:LnQ}{ex fr:Bool}(hg:h[s]?=some (e,.data 1 (l.map u6) ex fr))(ht:tot=l.length)(hc:cap<=tot)(hb:cap<1000000000000)(k:KL)(h0:Hp)(hh:h0.length=h.length):∀len,len<=cap->k (.exit 0) [.ref s e 0 (iM (l.take len)).length cap tot] h->lp (bN (CX Y) h.length) [] h0 [.ref s e 0 len cap tot] h k
 | 0,hl,hk=>by
  refine ai ?_;simp[bN];simpa[iM]using hk
 | len+1,hl,hk=>by
  have e1:=CJ hg ht (len:=len+1) (cap:=cap) (i:=(len:Int)) aa aa .i64;have e2:=JG hg ht (j:=len) aa;have e3:=ahW hg ht (len:=len+1) (cap:=cap) (i:=(len:Int)) aa aa aa;have e4:l.take (len+1)=l.take len++[nth 0 l len]:=by rw[cC 0 l len aa,List.take_append_getElem]
  rw[Int.toNat_natCast]at e1 e3;refine ai ?_;by_cases h2:nth 0 l len=0
  .rw[e4,h2,qJ]at hk;have ih:=He hg ht hc hb k h0 hh len aa hk;simp(disch:=try exact af)[bN,e1,e2,e3,h2,hh];exact ih
  .rw[e4,yc h2]at hk;have e5:(l.take len++[nth 0 l len]).length=len+1:=by simp;omega
   rw[e5]at hk;simp(disch:=try exact af)[bN,e1,e2,e3,h2];exact hk
theorem tO{h:Hp}(hu:(h.all λx=>az h.length x.2)=true){s e tot:Nat}{l:LnQ}{ex fr:Bool}(hg:h[s]?=some (e,.data 1 (l.map u6) ex fr))(ht:tot=l.length)(hc:cap<=tot)(hb:cap<1000000000000)(hl:len<=cap):
  CI Y F.ay [.ref s e 0 len cap tot] h (.ref s e 0 (iM (l.take len)).length cap tot) h:=by refine pQ ?_;simp[ay];refine lo (He hg ht hc hb _ _ rfl len hl ?_);simp;have hs:=aY hg;refine⟨ac,by simpa using hu,.inl ⟨rfl,?_⟩⟩;simp[under,hs]
theorem RG{h:Hp}{l0:LnQ}(k:KL)(h0:Hp)(hh:h0.length=h.length):∀l:LnQ,l.length<1000000000000->k (.exit 0) [lst u6 (iM l)] h->lp (bN (CX Y) h.length) [] h0 [lst u6 l] h k:=by
 intro l hb hk
 induction hn:l.length generalizing l with
 | zero=>
  have:l=[]:=Zi hn;subst this;refine ai ?_;simp[bN];exact hk
 | succ n ih=>
  obtain⟨l,x,rfl⟩:∃l' x,l=l'++[x]:=⟨l.dropLast,l.getLast (by intro e;simp[e]at hn),(List.dropLast_concat_getLast _).symm⟩;have hl:l.length=n:=by simpa using hn
  have e1:=λh:Hp=>oO u6 (l++[x]) h (k:=.i64) (i:=(l.length:Int)) aa bb
  have e2:=λh:Hp=>Fe (l++[x]) h (j:=l.length) ac
  have e3:=λh:Hp=>afP u6 (l++[x]) h (i:=(l.length:Int)) aa bb ac
  have e4:nth 0 (l++[x]) l.length=x:=ac;simp only[Int.toNat_natCast,Wq]at e1 e3;rw[e4]at e2;have e5:((l++[x]).length:Int)=(l.length:Int)+1:=ac;have e6:aN (lst u6 (l++[x]))=some (I ((l.length:Int)+1)):=by rw[<-e5];rfl
  have hb2:l.length<1000000000000:=by simp at hb;omega
  refine ai ?_;by_cases hx:x=0
  .subst hx;rw[qJ]at hk;simp(disch:=try exact af)[bN,e1,e2,e3,e6,hh];exact ih l hb2 hk hl
  .rw[yc hx]at hk;simp(disch:=try exact af)[bN,e1,e2,e3,e6,hx];exact hk
theorem aaN{h:Hp}(hu:(h.all λx=>az h.length x.2)=true){l:LnQ}(hb:l.length<1000000000000):CI Y F.ay [lst u6 l] h (lst u6 (iM l)) h:=by refine pQ ?_;simp[ay];refine lo (RG (l0:=l) _ _ rfl l hb ?_);simp;refine⟨ac,by simpa using hu,.inl ⟨rfl,rfl⟩⟩
def RdP(h:Hp)(a:V)(l:LnQ):Prop:=aN a=some (I l.length)∧∀(t:Hp)(i:Nat),i<l.length->∃p,ixV (h++t) 1 a (I i)=some p∧ld1 (h++t) p=some (U (nth 0 l i:Nat))
theorem Ru(h:Hp)(l:LnQ):RdP h (lst u6 l) l:=by refine⟨rfl,λt i hi=>⟨.dptr (l.map u6) i,?_,Fe l _ hi⟩⟩;have:=oO u6 l (h++t) (k:=.i64) (i:=(i:Int)) aa aa;trivial
theorem ER{l:LnQ}{n i:Nat}(h:i<n):nth 0 (l.take n) i=nth 0 l i:=by grind[nth]
theorem DR{h:Hp}{s e tot:Nat}{l:LnQ}{ex fr:Bool}(hg:h[s]?=some (e,.data 1 (l.map u6) ex fr))(ht:tot=l.length)(hl:len<=tot):RdP h (.ref s e 0 len cap tot) (l.take len):=by
 have e1:(l.take len).length=len:=by simp;omega
 refine⟨by simp_all,λt i hi=>⟨.ptr s e i tot,?_,?_⟩⟩
 .have hs:=aY hg;have:=CJ (h:=h++t) (by rw[List.getElem?_append_left hs];exact hg) ht (len:=len) (cap:=cap) (i:=(i:Int)) aa aa .i64;trivial
 .have hs:=aY hg;rw[ER aa];exact JG (h:=h++t) (by rw[List.getElem?_append_left hs];exact hg) ht aa
def pH(h:Hp)(o:LnQ):Hp:=h++[(1,.data 1 (o.map u6) true false),nnQ]
theorem Bc(h:Hp)(o:LnQ):(pH h o)[h.length]?=some (1,.data 1 (o.map u6) true false):=by simp[pH]
theorem VC(h:Hp)(o o':LnQ):(pH h o).set h.length (1,.data 1 (o'.map u6) true false)=pH h o':=by simp[pH]
@[simp]theorem VD(h:Hp)(o:LnQ):(pH h o).length=h.length+2:=by simp[pH]
theorem aaf{s b:Nat}(hbc:b<=c)(h:Nat.blt s b=true):Nat.blt s c=true:=by grind[Ws]
mutual
theorem KI{b c:Nat}(hbc:b<=c):∀v:V,under b v=true->under c v=true
 |.ref s ..,h=>aaf hbc h
 |.ptr s ..,h=>aaf hbc h
 |.agg l,h=>rK hbc l h
 |.tup l,h=>rK hbc l h
 | .fn _ x y,h=>by
  simp only[under,Z7]at h ⊢;exact⟨rK hbc x h.1,rK hbc y h.2⟩
 |.ifc _ x,h=>KI hbc x h
 |.new ..,h=>by cases h
 |.junk,_=>rfl
 |.d _,_=>rfl
 |.dptr ..,_=>rfl
 |.cut _,h=>by cases h
theorem rK{b c:Nat}(hbc:b<=c):∀l:LwQ,jv b l=true->jv c l=true
 |[],_=>rfl
 | x::l,h=>by
  simp only[jv,Z7]at h ⊢;exact⟨KI hbc x h.1,rK hbc l h.2⟩
end
theorem AJ{b:Nat}(hbc:b<=c){x:Bk}(h:az b x=true):az c x=true:=by
 cases x with
 |vars l=>exact rK hbc l h
 |none=>rfl
 |data n cs ex fr=>rfl
theorem O5{b:Nat}(hbc:b<=c){h:Hp}(hu:(h.all λx=>az b x.2)=true):(h.all λx=>az c x.2)=true:=by grind[AJ]
variable{h:Hp}{t0 t1:V}{da db:LnQ}
theorem RJ(hb:RdP h t1 db)(hsb:aE Z db){x i:Nat}(hx:x<Z)(hN:i+db.length<N)(hNb:N<1000000000000)(k:KL)(h0:Hp)(hh:h0.length=h.length+2)(T:Nat)(o0:LnQ):
  ∀(r c j:Nat)(o:LnQ),j+r=db.length->c<Z->o.length=N->aE Z o->val Z o+Z^(i+j)*(c+x*val Z (db.drop j))=T->(∀m,i+db.length<=m->nth 0 o m=nth 0 o0 m) ->
  (∀c' o',c'<Z->o'.length=N->aE Z o'->val Z o'+Z^(i+db.length)*c'=T->(∀m,i+db.length<=m->nth 0 o' m=nth 0 o0 m)->k (.exit 2) [U (c':Nat)] (pH h o')) ->
  lp (iA (CX Y) h.length (.ref h.length 1 0 N N N) (I i) (U x) t1 (I db.length)) [] h0 [U c,I j] (pH h o) k:=by
 intro r
 induction r with
 | zero=>
  intro c j o hj hc ho hs hv hf hk;have hjl:j=db.length:=aa;subst hjl;have hd:db.drop db.length=[]:=List.drop_length;rw[hd]at hv;simp only[val,Nat.mul_zero,Nat.add_zero]at hv;refine ai ?_;simp[iA]
  grind
 | succ r ih=>
  intro c j o hj hc ho hs hv hf hk;have hjl:j<db.length:=aa;obtain⟨m,hm⟩:=nmQ (i+j);rw[<-hm]at hv;have hij:m<o.length:=aa;obtain⟨y,hy2⟩:=mnQ (db.getD j 0);have hy:=hsb.getD bE j;have hw:=hs.getD bE m;have hst:=VW (B:=Z) (o:=o) (j:=m) (c:=c) (a:=x) (y:=db.getD j 0) (v:=val Z (db.drop (j+1))) hij;rw[<-qt,hv]at hst;rw[hy2]at hy hst
  obtain⟨p,hp⟩:=nmQ (x*y);have hxy:p<=999999999*999999999:=by rw[hp];exact Zu (by grind[Z]) (by grind[Z])
  have hpi:(x:Int)*(y:Int)=(p:Int):=by rw[hp];simp
  rw[<-hp]at hst;have e1:((i:Int)+(j:Int))=(m:Int):=aa;have hZ:Z=1000000000:=rfl;obtain⟨w,hwd⟩:=mnQ (o.getD m 0);rw[hwd]at hst hw;obtain⟨pb,r1,r2⟩:=hb.2 [(1,.data 1 (o.map u6) true false),nnQ] j hjl;rw[show nth 0 db j=y from hy2]at r2;have r3:=CJ (Bc h o) ho.symm (len:=N) (cap:=N) (i:=(m:Int)) aa aa .i64;have r4:=JG (Bc h o) ho.symm hij
  have r5:=RZ (Bc h o) ho.symm hij ((c+w+p)%Z);rw[show nth 0 o m=w from hwd]at r4;rw[Int.toNat_natCast]at r3;rw[VC]at r5
  change ixV (pH h o) 1 t1 (I j)=some pb at r1
  change ld1 (pH h o) pb=_ at r2
  have ih2:=ih ((c+w+p)/Z) (j+1) (o.set m ((c+w+p)%Z)) aa (by grind) (by grind) (hs.set (Yz _ bE)) (by rw[show i+(j+1)=m+1 by omega];omega)
   (λn hn=>by rw[<-hf n hn];simp[nth,List.getElem?_set_ne (show m≠n by omega)]) hk
  clear hst hk ih hv;obtain⟨t,ht⟩:=mnQ (c+w+p);have ht2:t<1000000000000000000+2000000000:=by simp only[hZ]at *;omega
  rw[ht]at ih2 r5;obtain⟨tm,htm⟩:=mnQ (t%Z);obtain⟨td,htd⟩:=mnQ (t/Z);rw[htm]at ih2 r5;rw[htd]at ih2;have e2:(c:Int)+((w:Int)+(p:Int))=(t:Int):=aa;have e3:((t:Int)%1000000000)=(tm:Int):=by simp only[hZ]at htm;omega
  have e4:((t:Int)/1000000000)=(td:Int):=by simp only[hZ]at htd;omega
  refine ai ?_;simp(disch:=try exact af)[iA,r1,r2,r3,r4,e1,hpi,e2,Zt,Zr,e3,e4,r5];trivial
theorem NE(ha:RdP h t0 da)(hsa:aE Z da)(hb:RdP h t1 db)(hsb:aE Z db)(hla:da.length<100000000)(hlb:db.length<100000000)(k:KL)(h0:Hp)(hh:h0.length=h.length+2)(hN:N=da.length+db.length):
  ∀(r i:Nat)(o:LnQ),i+r=da.length->o.length=N->aE Z o->val Z o=val Z (da.take i)*val Z db->(∀m,i+db.length<=m->nth 0 o m=0) ->
  (∀o',o'.length=N->aE Z o'->val Z o'=val Z da*val Z db->k (.exit 0) [] (pH h o')) ->
  lp (iB (CX Y) h.length t1 (.ref h.length 1 0 N N N) t0 (I da.length)) [] h0 [I i] (pH h o) k:=by
 intro r
 induction r with
 | zero=>
  intro i o hi ho hs hv hf hk;refine ai ?_;have g:¬i<da.length:=aa;simp[iB,g];rw[show i=da.length by omega,Xj]at hv
  grind
 | succ r ih=>
  intro i o hi ho hs hv hf hk;have hil:i<da.length:=aa;obtain⟨pa,r1,r2⟩:=ha.2 [(1,.data 1 (o.map u6) true false),nnQ] i hil;obtain⟨x,hx⟩:=mnQ (nth 0 da i);have hxs:x<Z:=by rw[<-hx];exact hsa.getD bE i
  rw[hx]at r2
  change ixV (pH h o) 1 t0 (I i)=some pa at r1
  change ld1 (pH h o) pa=_ at r2
  have hl:=hb.1;refine ai ?_;simp(disch:=try exact af)[iB,r1,r2,hl];refine lo (RJ hb hsb hxs aa aa _ _ (VD h o) (val Z o+Z^i*(x*val Z db)) o db.length 0 0 o aa bE ho hs ac (λ_ _=>rfl) λc' o' hc' ho' hs' hv' hf'=>?_);simp only[lh];obtain⟨m,hm⟩:=nmQ (i+db.length)
  have hml:m<o'.length:=aa;have r3:=CJ (Bc h o') ho'.symm (len:=N) (cap:=N) (i:=(m:Int)) aa aa .i64;have r5:=RZ (Bc h o') ho'.symm hml c';rw[Int.toNat_natCast]at r3;rw[VC]at r5;have e1:((i:Int)+(db.length:Int))=(m:Int):=aa;have e0:nth 0 o' m=0:=by rw[hf' m aa,hf m aa]
  have hvs:=xf (B:=Z) o' m c' hml;rw[show o'.getD m 0=0 from e0]at hvs
  have ih2:=ih (i+1) (o'.set m c') aa (by grind) (hs'.set hc') (by
   rw[xW da hil,show da.getD i 0=x from hx,Nat.add_mul,<-hv]
   grind) (λn hn=>by
   simp only[nth,Z6,List.getElem?_set_ne (show m≠n by omega)];have:=hf' n aa;rw[hf n aa]at this;exact this) hk
  clear hvs hv' ih hk;simp(disch:=try exact af)[hl,e1,r3,r5];trivial
theorem AL(hu:(h.all λx=>az h.length x.2)=true)(ha:RdP h t0 da)(hsa:aE Z da)(hb:RdP h t1 db)(hsb:aE Z db)(hla:da.length<100000000)(hlb:db.length<100000000)(hN:N=da.length+db.length):
  CI Y F.bB [t0,t1] h (.new 1 ((bz N (val Z da*val Z db)).map u6) true (dig Z (val Z da*val Z db)).length N) h:=by
 refine uY ?_;have l0:=ha.1;have l1:=hb.1;have e1:((da.length:Int)+(db.length:Int))=(N:Int):=aa;simp(disch:=try exact af)[bB,l0,l1,e1]
 have e2:h++[(1,Bk.data 1 (List.replicate N (D.int IntKind.u64 0)) true false),nnQ]=pH h (List.replicate N 0):=by
  simp[pH,u6]
 try simp only[e3]
 try rw[e2]
 refine lo (NE ha hsa hb hsb hla hlb _ _ (VD ..) hN da.length 0 (List.replicate N 0) aa ac (λx hx=>by grind[bE]) (by simp[AI,val]) (λm _=>by
  grind[nth]) λo ho hs hv=>?_)
 simp only[lh];have ht:iM (o.take N)=dig Z (val Z da*val Z db):=by rw[Zx aa,<-hv,rF aw hs]
 have hu2:((pH h o).all λx=>az (pH h o).length x.2)=true:=by
  have hm:(h.all λx=>az (pH h o).length x.2)=true:=O5 ac hu;rw[pH,Y0,<-pH,hm];rfl
 have tr:=tO hu2 (Bc h o) ho.symm (len:=N) (cap:=N) (Z8 _) aa (Z8 _);rw[ht]at tr;refine gP tr ?_ ac;have hol:o=bz N (val Z da*val Z db):=by rw[<-hv,<-ho];exact Dx o hs
 rw[<-hol];refine⟨by simp[pH],aa,.inr (.inr (.inl ⟨h.length,1,_,N,1,o.map u6,true,by grind,Z8 _,by simp[ax,pH],rfl⟩))⟩
def trimS(n:Nat):LnQ:=if n=0 then[]else[n]
theorem TV(n:Nat):iM [n]=trimS n:=by rfl
theorem RF(n:Nat):val Z (trimS n)=n:=by grind[trimS,val]
theorem KM{n:Nat}(h:n<Z):aE Z (trimS n):=by
 unfold trimS;split
 .exact λx hx=>by cases hx
 .exact λx hx=>by grind
theorem Ep(hu:(h.all λx=>az h.length x.2)=true){f:Nat}(hf:f<Z)(hf0:0<f)(ha:RdP (h++[nnQ,nnQ]) t0 da)(hsa:aE Z da)(hla:da.length<100000000)(hN:N=da.length+1):
  CI Y F.b9 [t0,U f] h (.new 1 ((bz N (val Z da*f)).map u6) true (dig Z (val Z da*f)).length N) h:=by
 refine t8 ?_
 have hli:∀h:Hp,fJ 1 [D.int .u64 0] [(0,U f)] h=some ([u6 f],h):=λh=>by
  rfl
 have hu2:((h++[(0,Bk.none),nnQ]).all λx=>az (h++[(0,Bk.none),nnQ]).length x.2)=true:=by
  rw[Y0,O5 ac hu];rfl
 simp[b9,hli];have t1:=aaN hu2 (l:=[f]) ac;rw[TV]at t1;refine gP (args:=[lst u6 [f]]) t1 ?_ (by simp[lst]) (by simp[lst]);have hfl:(trimS f).length=1:=by simp[trimS,show f≠0 by omega]
 have t2:=AL hu2 ha hsa (Ru _ (trimS f)) (KM hf) hla aa (N:=N) aa;rw[RF]at t2;simp;refine gA (e:=0) (b:=.none) t2 ac ?_;refine⟨ac,aa,.inr (.inr (.inl ⟨h.length+1,1,_,N,1,(bz N (val Z da*f)).map u6,true,by rfl,aa,by simp[ax],rfl⟩))⟩
def sP(h:Hp)(s e:Nat)(ex:Bool)(l:LnQ):Hp:=h.set s (e,.data 1 (l.map u6) ex false)
theorem r9{h:Hp}{s e:Nat}{ex:Bool}{l:LnQ}(hs:s<h.length):(sP h s e ex l)[s]?=some (e,.data 1 (l.map u6) ex false):=by simp[sP,hs]
theorem UG{h:Hp}{s e:Nat}{ex:Bool}{l:LnQ}:(sP h s e ex l).set s (e,.data 1 (l'.map u6) ex false)=sP h s e ex l':=by simp[sP]
@[simp]theorem ahZ{h:Hp}{s e:Nat}{ex:Bool}{l:LnQ}:(sP h s e ex l).length=h.length:=by simp[sP]
theorem AW{b:Nat}{h:Hp}{s e:Nat}{ex:Bool}{l:LnQ}(hu:(h.all λx=>az b x.2)=true):((sP h s e ex l).all λx=>az b x.2)=true:=by
 rw[Zz]at hu ⊢;intro x hx;rcases Yk hx with h1|h1
 .grind
 .rw[h1];rfl
def RdS(P:Hp->Prop)(a:V)(l:LnQ):Prop:=aN a=some (I l.length)∧∀(t:Hp)(i:Nat),P t->i<l.length->∃p,ixV t 1 a (I i)=some p∧ld1 t p=some (U (nth 0 l i:Nat))
def jc(g at_:Nat)(db:LnQ):Nat->Nat->Nat->Nat->LnQ->Nat×LnQ
 |0,_,_,w,l=>(w,l)
 | r+1,k,c,w,l=>
  if nth 0 l (at_+k)<(c+g*nth 0 db k)%Z+w then jc g at_ db r (k+1) ((c+g*nth 0 db k)/Z) 1 (l.set (at_+k) (nth 0 l (at_+k)+Z-((c+g*nth 0 db k)%Z+w)))
  else jc g at_ db r (k+1) ((c+g*nth 0 db k)/Z) 0 (l.set (at_+k) (nth 0 l (at_+k)-((c+g*nth 0 db k)%Z+w)))
variable{h:Hp}{s e tot at_ g:Nat}{ex:Bool}{t1:V}{db:LnQ}
theorem RR(hs:s<h.length)(hb:RdS (λt=>∃l,t=sP h s e ex l) t1 db)(hsb:aE Z db)(hg:g<Z)(hat:at_+db.length<tot)(ht:tot<1000000000000)(hlen:tot=len)(k:KL)(h0:Hp)(hh:h0.length=h.length):
  ∀(r j c w:Nat)(l:LnQ),j+r=db.length+1->c<Z->w<=1->l.length=tot->aE Z l ->
  k (.exit 0) [I ((jc g at_ db r j c w l).1:Nat)] (sP h s e ex (jc g at_ db r j c w l).2) ->
  lp (fU (CX Y) h.length (.ref s e 0 len cap tot) t1 (U g) (I at_)) [] h0 [U c,I w,I j] (sP h s e ex l) k:=by
 intro r
 induction r with
 | zero=>
  intro j c w l hj hc hw hl hsl hk;refine ai ?_;have g1:¬j<=db.length:=aa;have hl1:=hb.1;simp[fU,hl1,g1];exact hk
 | succ r ih=>
  intro j c w l hj hc hw hl hsl hk;have hjl:j<=db.length:=aa;obtain⟨m,hm⟩:=nmQ (at_+j);have hml:m<l.length:=aa;obtain⟨y,hy⟩:=mnQ (nth 0 db j);have hys:y<Z:=by rw[<-hy];exact hsb.getD bE j
  obtain⟨x,hx⟩:=mnQ (nth 0 l m);have hxs:x<Z:=by rw[<-hx];exact hsl.getD bE m
  obtain⟨p,hp⟩:=nmQ (g*y);have hxy:p<=999999999*999999999:=by rw[hp];exact Zu (by grind[Z]) (by grind[Z])
  have hpi:(g:Int)*(y:Int)=(p:Int):=by rw[hp];simp
  have e1:((at_:Int)+(j:Int))=(m:Int):=aa;have hZ:Z=1000000000:=rfl;have hl1:=hb.1;have r3:=CJ (r9 (e:=e) (ex:=ex) (l:=l) hs) hl.symm (len:=len) (cap:=cap) (i:=(m:Int)) aa aa .i64;have r4:=JG (r9 (e:=e) (ex:=ex) (l:=l) hs) hl.symm hml;have r5:=RZ (r9 (e:=e) (ex:=ex) (l:=l) hs) hl.symm hml;simp only[UG]at r5;rw[hx]at r4;rw[Int.toNat_natCast]at r3
  rw[jc,hy,<-hp,<-hm,hx]at hk;have hsm:(∀v,v<Z->aE Z (l.set m v)):=λv hv=>hsl.set hv
  obtain⟨t,ht1⟩:=mnQ (c+p);rw[ht1]at hk;obtain⟨tm,htm⟩:=mnQ (t%Z);obtain⟨td,htd⟩:=mnQ (t/Z);rw[htm,htd]at hk;have ht2:t<1000000000000000000:=by simp only[hZ]at *;omega
  have htdZ:td<Z:=by simp only[hZ]at *;omega
  have htmZ:tm<Z:=by simp only[hZ]at *;omega
  have e3:((t:Int)%1000000000)=(tm:Int):=by simp only[hZ]at htm;omega
  have e4:((t:Int)/1000000000)=(td:Int):=by simp only[hZ]at htd;omega
  have main:∀(v:Nat)(w':Nat),v<Z->w'<=1->k (.exit 0) [I ((jc g at_ db r (j+1) td w' (l.set m v)).1:Nat)] (sP h s e ex (jc g at_ db r (j+1) td w' (l.set m v)).2) ->
    lp (fU (CX Y) h.length (.ref s e 0 len cap tot) t1 (U g) (I at_)) [] h0 [U td,I w',I (j+1:Nat)] (sP h s e ex (l.set m v)) k:=λv w' hv hw' hk'=>
   ih (j+1) td w' (l.set m v) aa htdZ hw' (by grind) (hsm v hv) hk'
  clear ih;have e2:(c:Int)+(p:Int)=(t:Int):=aa;refine ai ?_;simp[fU,hl1,hjl];refine gQ (l:=[U t]) (h:=sP h s e ex l) (λq=>?_) ?_
  .by_cases g2:j<db.length
   .obtain⟨pb,q1,q2⟩:=hb.2 (sP h s e ex l) j ⟨l,rfl⟩ g2;rw[hy]at q2;simp(disch:=try exact af)[g2,q1,q2,hpi,e2]
   .have hy0:nth 0 db j=0:=by simp[nth,List.getElem?_eq_none (show db.length<=j by omega)]
    rw[hy]at hy0;subst hy0;simp only[Nat.mul_zero]at hp;subst hp;obtain rfl:c=t:=aa;simp[g2]
  .simp(disch:=try exact af)[e1,r3,r4,Zt,Zr,e3,e4];by_cases hxt:x<tm+w
   .rw[if_pos hxt]at hk;obtain⟨v,hv⟩:=mnQ (x+Z-(tm+w));rw[hv]at hk;have hvZ:v<Z:=aa;have e5:(x:Int)-tm-w<0:=aa;have e6:(x:Int)-tm-w+1000000000=v:=by simp only[hZ]at hv;omega
    have r6:=r5 v;refine gQ (l:=[I v,I (1:Nat)]) (h:=sP h s e ex l) (λq=>?_) ?_
    .simp(disch:=try exact af)[e5,e6]
    .simp(disch:=try exact af)[e1,r3,r6];simpa using main v 1 hvZ (Z8 _) hk
   .rw[if_neg hxt]at hk;obtain⟨v,hv⟩:=mnQ (x-(tm+w));rw[hv]at hk;have hvZ:v<Z:=aa;have e5:¬((x:Int)-tm-w<0):=aa;have e6:(x:Int)-tm-w=v:=aa;have r6:=r5 v;refine gQ (l:=[I v,I (0:Nat)]) (h:=sP h s e ex l) (λq=>?_) ?_
    .rw[e6]at e5 ⊢;simp[e5]
    .simp(disch:=try exact af)[e1,r3,r6];simpa using main v 0 hvZ (Y7 _) hk
theorem KW(hu:(h.all λx=>az h.length x.2)=true)(hs:s<h.length)(hb:RdS (λt=>∃l,t=sP h s e ex l) t1 db)(hsb:aE Z db)(hg:g<Z)(hat:at_+db.length<tot)(ht:tot<1000000000000){l:LnQ}(hl:l.length=tot)(hsl:aE Z l):
  CI Y F.dD [.ref s e 0 tot tot tot,t1,U g,I at_] (sP h s e ex l) (B (decide (0<(jc g at_ db (db.length+1) 0 0 0 l).1))) (sP h s e ex (jc g at_ db (db.length+1) 0 0 0 l).2):=by refine vM ?_;simp[dD];refine lo (RR hs hb hsb hg hat ht rfl _ _ ac (db.length+1) 0 0 0 l aa bE (Y7 _) hl hsl ?_);simp;refine⟨(Zx ac).symm,?_,.inl ⟨rfl,rfl⟩⟩;exact AW hu
def qV(at_:Nat)(db:LnQ):Nat->Nat->Nat->LnQ->LnQ
 |0,_,_,l=>l
 |r+1,k,c,l=>qV at_ db r (k+1) ((c+nth 0 l (at_+k)+nth 0 db k)/Z) (l.set (at_+k) ((c+nth 0 l (at_+k)+nth 0 db k)%Z))
theorem TB(hs:s<h.length)(hb:RdS (λt=>∃l,t=sP h s e ex l) t1 db)(hsb:aE Z db)(hat:at_+db.length<tot)(ht:tot<1000000000000)(hlen:tot=len)(k:KL)(h0:Hp)(hh:h0.length=h.length):
  ∀(r j c:Nat)(l:LnQ),j+r=db.length+1->c<Z->l.length=tot->aE Z l ->
  k (.exit 0) [] (sP h s e ex (qV at_ db r j c l)) ->
  lp (iZ (CX Y) h.length (.ref s e 0 len cap tot) t1 (I at_)) [] h0 [U c,I j] (sP h s e ex l) k:=by
 intro r
 induction r with
 | zero=>
  intro j c l hj hc hl hsl hk;refine ai ?_;have g1:¬j<=db.length:=aa;have hl1:=hb.1;simp[iZ,hl1,g1];exact hk
 | succ r ih=>
  intro j c l hj hc hl hsl hk;have hjl:j<=db.length:=aa;obtain⟨m,hm⟩:=nmQ (at_+j);have hml:m<l.length:=aa;obtain⟨y,hy⟩:=mnQ (nth 0 db j);have hys:y<Z:=by rw[<-hy];exact hsb.getD bE j
  obtain⟨x,hx⟩:=mnQ (nth 0 l m);have hxs:x<Z:=by rw[<-hx];exact hsl.getD bE m
  have e1:((at_:Int)+(j:Int))=(m:Int):=aa;have hZ:Z=1000000000:=rfl;have hl1:=hb.1;have r3:=CJ (r9 (e:=e) (ex:=ex) (l:=l) hs) hl.symm (len:=len) (cap:=cap) (i:=(m:Int)) aa aa .i64;have r4:=JG (r9 (e:=e) (ex:=ex) (l:=l) hs) hl.symm hml;have r5:=RZ (r9 (e:=e) (ex:=ex) (l:=l) hs) hl.symm hml;simp only[UG]at r5;rw[hx]at r4;rw[Int.toNat_natCast]at r3
  rw[qV,hy,<-hm,hx]at hk;obtain⟨t,ht1⟩:=mnQ (c+x+y);rw[ht1]at hk;obtain⟨tm,htm⟩:=mnQ (t%Z);obtain⟨td,htd⟩:=mnQ (t/Z);rw[htm,htd]at hk;have ht2:t<3000000000:=by simp only[hZ]at *;omega
  have htdZ:td<Z:=by simp only[hZ]at *;omega
  have htmZ:tm<Z:=by simp only[hZ]at *;omega
  have e3:((t:Int)%1000000000)=(tm:Int):=by simp only[hZ]at htm;omega
  have e4:((t:Int)/1000000000)=(td:Int):=by simp only[hZ]at htd;omega
  have ih2:=ih (j+1) td (l.set m tm) aa htdZ (by grind) (hsl.set htmZ) hk;have r6:=r5 tm;clear ih;refine ai ?_;simp(disch:=try exact af)[iZ,hl1,hjl,e1,r3,r4];refine gQ (l:=[U t]) (h:=sP h s e ex l) (λq=>?_) ?_
  .by_cases g2:j<db.length
   .obtain⟨pb,q1,q2⟩:=hb.2 (sP h s e ex l) j ⟨l,rfl⟩ g2;rw[hy]at q2;have e2:(c:Int)+(x:Int)+(y:Int)=(t:Int):=aa;simp(disch:=try exact af)[g2,q1,q2,e2]
   .have hy0:nth 0 db j=0:=by simp[nth,List.getElem?_eq_none (show db.length<=j by omega)]
    rw[hy]at hy0;subst hy0;have e2:(c:Int)+(x:Int)=(t:Int):=aa;simp[g2,e2]
  .simp(disch:=try exact af)[e1,r3,r4,Zt,Zr,e3,e4,r6];trivial
theorem Nh(hu:(h.all λx=>az h.length x.2)=true)(hs:s<h.length)(hb:RdS (λt=>∃l,t=sP h s e ex l) t1 db)(hsb:aE Z db)(hat:at_+db.length<tot)(ht:tot<1000000000000){l:LnQ}(hl:l.length=tot)(hsl:aE Z l):
  CI Y F.cL [.ref s e 0 tot tot tot,t1,I at_] (sP h s e ex l) (.tup []) (sP h s e ex (qV at_ db (db.length+1) 0 0 l)):=by refine vP ?_;simp[cL];refine lo (TB hs hb hsb hat ht rfl _ _ ac (db.length+1) 0 0 l aa bE hl hsl ?_);simp;refine⟨(Zx ac).symm,?_,.inl ⟨rfl,rfl⟩⟩;exact AW hu
end Go.Vm
namespace Go.Big
section
variable{B:Nat}
theorem mq(l:LnQ)(i:Nat)(h:i<=l.length):val B l=val B (l.take i)+B^i*val B (l.drop i):=by have:=val_append (B:=B) (l.take i) (l.drop i);rw[Xv,Zp,Yo h]at this;exact this
theorem aaL(l:LnQ)(z:Nat):val B (l++List.replicate z 0)=val B l:=by rw[val_append,AI];simp
theorem KP(hB:0<B){l:LnQ}{n:Nat}(h:val B l<B^n):val B (l.drop n)=0:=by
 rcases Zg n l.length with h1|h1
 .have:=mq (B:=B) l n aa;rcases Zb (val B (l.drop n))with h2|h2
  .exact h2
  .have:=Z1 (B^n) h2;omega
 .rw[Y6 h1];rfl
variable{L lD lB x0 x1 x2 y0 y1 D v g r hi:Nat}
structure Gs(B L lD lB x0 x1 x2 y0 y1 D v hi:Nat):Prop where
 B0:0<B
 D_eq:D=lD+L*(x0+B*hi)
 v_eq:v=lB+L*(y0+B*y1)
 lDL:lD<L
 lBL:lB<L
 hx0:x0<B
 hy0:y0<B
 hy1:0<y1
 hD:D<B*v
theorem Gs.vpos(G:Gs B L lD lB x0 x1 x2 y0 y1 D v hi):L*B<=v:=by
 rw[G.v_eq]
 have h1:L*B<=L*(y0+B*y1):=Z1 L (by
  have:=Z1 B G.hy1;omega)
 omega
theorem Gs.pos(G:Gs B L lD lB x0 x1 x2 y0 y1 D v hi):0<v:=by have:=G.vpos;have h1:=G.lDL;have h2:0<L*B:=Yl aa G.B0;omega
theorem Gs.first(G:Gs B L lD lB x0 x1 x2 y0 y1 D v hi):D/v<=hi/y1:=by
 have hvp:=G.pos;rw[Xd G.hy1];have h1:D/v*v<=D:=Wl D v;generalize D/v=q at *
 have h2:q*(L*(B*y1))<=q*v:=Z1 q (by
  rw[G.v_eq];have:=Z1 L (Nat.le_add_left (B*y1) y0);omega)
 have h3:D<L*B*(hi+1):=by
  rw[G.D_eq];have:=G.lDL;have h4:=Z1 L (show x0+1+B*hi<=B*(hi+1) by rw[Zl];have:=G.hx0;omega);rw[<-Nat.mul_assoc]at h4
  have h5:L*(x0+1+B*hi)=L+L*(x0+B*hi):=by
   rw[show x0+1+B*hi=1+(x0+B*hi) by omega,Zl];simp
  omega
 have h6:q*(L*(B*y1))=L*B*(q*y1):=by
  rw[<-Nat.mul_assoc L B y1,Y3]
 have h7:L*B*(q*y1)<L*B*(hi+1):=aa;have:=Xa h7;omega
theorem Gs.far(G:Gs B L lD lB x0 x1 x2 y0 y1 D v hi)(h:B<=g):D/v<g:=by have:=(Xc G.pos).2 G.hD;omega
theorem Gs.over(G:Gs B L lD lB x0 x1 x2 y0 y1 D v hi)(he:g*y1+r=hi)(h:r*B+x0<g*y0):D/v<g:=by
 rw[Xc G.pos]
 have h1:L*(x0+1+B*hi)<=g*v:=by
  rw[G.v_eq];have h2:g*(L*(y0+B*y1))<=g*(lB+L*(y0+B*y1)):=Z1 g aa
  have h3:g*(L*(y0+B*y1))=L*(g*y0+B*(g*y1)):=by
   rw[Y3 g L,Zl,Y3 g B]
  have h4:L*(x0+1+B*hi)<=L*(g*y0+B*(g*y1)):=Z1 L (by
   rw[<-he,Zl,Zo B r];omega)
  omega
 have h5:L*(x0+1+B*hi)=L+L*(x0+B*hi):=by
  rw[show x0+1+B*hi=1+(x0+B*hi) by omega,Zl];simp
 have:=G.lDL;rw[G.D_eq];omega
theorem Gs.near(G:Gs B L lD lB x0 x1 x2 y0 y1 D v hi)(he:g*y1+r=hi)(hg:g<B)(h:¬(r<B∧r*B+x0<g*y0)):g*v<D+v:=by
 have h0:g*(y0+B*y1)<=x0+B*hi:=by
  rw[Zl,Y3 g B,<-he,Zl];by_cases hr:r<B
  .have:¬r*B+x0<g*y0:=λh'=>h ⟨hr,h'⟩
   rw[Zo r B]at this;omega
  .have h1:g*y0<=B*B:=Zu aa (by have:=G.hy0;omega);have h2:=Z1 B (show B<=r by omega);omega
 have h1:=Z1 L h0
 have h2:g*lB<L*B:=by
  have:=Zu (show g<=B-1 by omega) (show lB<=L by have:=G.lBL;omega);have hL:0<L:=by have:=G.lBL;omega
  have h3:(B-1)*L+L=L*B:=by
   have:=G.B0;obtain⟨b,rfl⟩:∃b,B=b+1:=⟨B-1,aa⟩;rw[Nat.add_sub_cancel,Zo L,Xt]
  omega
 have h3:g*v=g*lB+L*(g*(y0+B*y1)):=by
  rw[G.v_eq,Zl,Y3 g L]
 have h4:=G.vpos;have h5:=G.D_eq;omega
end
end Go.Big
namespace Go.Vm
open Go Go.Am Go.Big
variable{l:LnQ}{h h1 h2:Hp}{a b va vb:V}
theorem yr{m n v:Nat}(h:m≠n):nth 0 (l.set m v) n=nth 0 l n:=by simp[nth,List.getElem?_set_ne h]
structure Frm(l l':LnQ)(a b:Nat):Prop where
 len:l'.length=l.length
 same:∀m,m<a∨b<=m->nth 0 l' m=nth 0 l m
theorem D9{g at_:Nat}(hg:g<Z){db:LnQ}(hsb:aE Z db):∀(r j c w:Nat)(l:LnQ),at_+j+r<=l.length->c<Z->w<=1->aE Z l->c+g*val Z (db.drop j)<Z^r ->
  Frm l (jc g at_ db r j c w l).2 (at_+j) (at_+j+r)∧aE Z (jc g at_ db r j c w l).2∧(jc g at_ db r j c w l).1<=1 ∧
  val Z (jc g at_ db r j c w l).2+Z^(at_+j)*(c+g*val Z (db.drop j)+w)=val Z l+Z^(at_+j+r)*(jc g at_ db r j c w l).1
 | 0,j,c,w,l,hl,hc,hw,hs,hT=>by
  have h0:c+g*val Z (db.drop j)=0:=by simp at hT;omega
  refine⟨⟨rfl,λ_ _=>rfl⟩,hs,hw,?_⟩;rw[h0,Zj];rfl
 | r+1,j,c,w,l,hl,hc,hw,hs,hT=>by
  obtain⟨m,hm⟩:=nmQ (at_+j);have hml:m<l.length:=aa;obtain⟨x,hx⟩:=mnQ (nth 0 l m);have hxs:x<Z:=by rw[<-hx];exact hs.getD bE m
  obtain⟨y,hy⟩:=mnQ (nth 0 db j);rw[jc,hy,<-hm,hx];have hvd:val Z (db.drop j)=y+Z*val Z (db.drop (j+1)):=by rw[qt,show db.getD j 0=y from hy]
  obtain⟨V,hV⟩:=mnQ (val Z (db.drop (j+1)));rw[hvd,hV]at hT ⊢;obtain⟨t,ht⟩:=mnQ (c+g*y);rw[ht];obtain⟨tm,htm⟩:=mnQ (t%Z);obtain⟨td,htd⟩:=mnQ (t/Z);have hdm:t=tm+Z*td:=by rw[<-htm,<-htd];exact(Xn t Z).symm
  have htmZ:tm<Z:=by rw[<-htm];exact Yz _ bE
  rw[htm,htd]
  have hsum:c+g*(y+Z*V)=tm+Z*(td+g*V):=by
   rw[Zl,Y3 g Z,Zl];omega
  rw[hsum]at hT ⊢
  have hT2:td+g*V<Z^r:=by
   rw[Nat.pow_succ,Zo (Z^r)]at hT;have:Z*(td+g*V)<Z*Z^r:=aa;exact Xa this
  have step:∀(v w':Nat),v<Z->w'<=1->v+(tm+w)=x+Z*w'->td<Z ->
    Frm l (jc g at_ db r (j+1) td w' (l.set m v)).2 (at_+j) (at_+j+(r+1))∧aE Z (jc g at_ db r (j+1) td w' (l.set m v)).2∧(jc g at_ db r (j+1) td w' (l.set m v)).1<=1 ∧
    val Z (jc g at_ db r (j+1) td w' (l.set m v)).2+Z^m*(tm+Z*(td+g*V)+w)=val Z l+Z^(m+(r+1))*(jc g at_ db r (j+1) td w' (l.set m v)).1:=by
   intro v w' hv hw' he htd2;obtain⟨⟨f1,f2⟩,i2,i3,i4⟩:=D9 hg hsb (g:=g) (at_:=at_) r (j+1) td w' (l.set m v) bb htd2 hw' (hs.set hv) (by rw[hV];exact hT2);refine⟨⟨by rw[f1];simp,λn hn=>?_⟩,i2,i3,?_⟩
   .rw[f2 n aa,yr aa]
   .have hvs:=xf (B:=Z) l m v hml;rw[show l.getD m 0=x from hx]at hvs;rw[hV,show at_+(j+1)=m+1 by omega]at i4;rw[show m+(r+1)=m+1+r by omega];generalize val Z (jc g at_ db r (j+1) td w' (l.set m v)).2=R at *;generalize(jc g at_ db r (j+1) td w' (l.set m v)).1=W at *;generalize val Z (l.set m v)=R1 at *;generalize val Z l=R0 at *;generalize td+g*V=T at *
    rw[Nat.pow_succ Z m,Nat.mul_assoc (Z^m) Z (T+w')]at i4;generalize Z^m=P at *;have h1:P*v+P*(tm+w)=P*x+P*(Z*w'):=by rw[<-Zl,<-Zl,he]
    have h2:P*(Z*(T+w'))=P*(Z*T)+P*(Z*w'):=by rw[Zl Z,Zl]
    have h3:P*(tm+Z*T+w)=P*(tm+w)+P*(Z*T):=by rw[<-Zl];congr 1;omega
    omega
  have htd2:td<Z:=by
   have hy2:y<Z:=by rw[<-hy];exact hsb.getD bE j
   have:=Zu (show g<=999999999 by simp only[Z]at hg;omega) (show y<=999999999 by simp only[Z]at hy2;omega);simp only[Z]at *;omega
  rw[<-hm]at step;by_cases hlt:x<tm+w
  .simp only[if_pos hlt];exact step _ 1 aa (Z8 _) aa htd2
  .simp only[if_neg hlt];exact step _ 0 aa (Y7 _) aa htd2
theorem Gb{at_:Nat}{db:LnQ}(hsb:aE Z db):∀(r j c:Nat)(l:LnQ),at_+j+r<=l.length->c<=1->aE Z l ->
  Frm l (qV at_ db r j c l) (at_+j) (at_+j+r)∧aE Z (qV at_ db r j c l) ∧
  ∃ce,val Z (qV at_ db r j c l)+Z^(at_+j+r)*(ce+val Z (db.drop (j+r)))=val Z l+Z^(at_+j)*(c+val Z (db.drop j))
 |0,j,c,l,hl,hc,hs=>⟨⟨rfl,λ_ _=>rfl⟩,hs,c,rfl⟩
 | r+1,j,c,l,hl,hc,hs=>by
  obtain⟨m,hm⟩:=nmQ (at_+j);have hml:m<l.length:=aa;obtain⟨x,hx⟩:=mnQ (nth 0 l m);have hxs:x<Z:=by rw[<-hx];exact hs.getD bE m
  obtain⟨y,hy⟩:=mnQ (nth 0 db j);have hys:y<Z:=by rw[<-hy];exact hsb.getD bE j
  rw[qV,hy,<-hm,hx];have hvd:val Z (db.drop j)=y+Z*val Z (db.drop (j+1)):=by rw[qt,show db.getD j 0=y from hy]
  obtain⟨t,ht⟩:=mnQ (c+x+y);rw[ht];obtain⟨tm,htm⟩:=mnQ (t%Z);obtain⟨td,htd⟩:=mnQ (t/Z);have hdm:t=tm+Z*td:=by rw[<-htm,<-htd];exact(Xn t Z).symm
  have htmZ:tm<Z:=by rw[<-htm];exact Yz _ bE
  have htd1:td<=1:=by simp only[Z]at *;omega
  rw[htm,htd];obtain⟨⟨f1,f2⟩,i2,ce,i4⟩:=Gb hsb (at_:=at_) r (j+1) td (l.set m tm) bb htd1 (hs.set htmZ);refine⟨⟨by rw[f1];simp,λn hn=>?_⟩,i2,ce,?_⟩
  .rw[f2 n aa,yr aa]
  .have hvs:=xf (B:=Z) l m tm hml;rw[show l.getD m 0=x from hx]at hvs;rw[show at_+(j+1)=m+1 by omega,show j+1+r=j+(r+1) by omega]at i4;rw[show m+(r+1)=m+1+r by omega,hvd];generalize val Z (qV at_ db r (j+1) td (l.set m tm))=R at *;generalize val Z (l.set m tm)=R1 at *;generalize val Z l=R0 at *;generalize val Z (db.drop (j+1))=V at *
   rw[Nat.pow_succ Z m,Nat.mul_assoc (Z^m) Z (td+V)]at i4;generalize Z^(m+1+r)*(ce+val Z (db.drop (j+(r+1))))=Q at *;generalize Z^m=P at *;have h1:P*tm+P*(Z*td)=P*x+P*(c+y):=by rw[<-Zl,<-Zl,<-hdm,<-ht];congr 1;omega
   have h2:P*(Z*(td+V))=P*(Z*td)+P*(Z*V):=by rw[Zl Z,Zl]
   have h3:P*(c+(y+Z*V))=P*(c+y)+P*(Z*V):=by rw[<-Zl];congr 1;omega
   omega
theorem Frm.take{l l':LnQ}{a b:Nat}(h:Frm l l' a b):l'.take a=l.take a:=by
 refine Wo (by simp[h.len]) λi h1 h2=>?_
 simp only[Zp]at h1 h2;have:=h.same i (.inl aa);rw[cC _ _ _ aa,cC _ _ _ aa]at this;simpa using this
theorem Frm.drop{l l':LnQ}{a b:Nat}(h:Frm l l' a b):l'.drop b=l.drop b:=by
 refine Wo (by simp[h.len]) λi h1 h2=>?_
 simp only[Ym]at h1 h2;have:=h.same (b+i) (.inr aa);rw[cC _ _ _ aa,cC _ _ _ aa]at this;simpa using this
theorem Ti{al db:LnQ}{i g:Nat}(hsa:aE Z al)(hsb:aE Z db)(hi:i+db.length<al.length)(hg:g<Z)(hD:val Z (al.drop i)<Z*val Z db)(h1:g*val Z db<val Z (al.drop i)+val Z db)(h2:val Z (al.drop i)/val Z db<=g)
  {w:Nat} {l1 l2:LnQ} (hw:(jc g i db (db.length+1) 0 0 0 al).1=w) (hl1:(jc g i db (db.length+1) 0 0 0 al).2=l1) (hl2:qV i db (db.length+1) 0 0 l1=l2) :
  (l1.length=al.length∧aE Z l1) ∧
  (w=0->aE Z l1∧l1.length=al.length∧l1.take i=al.take i∧g=val Z (al.drop i)/val Z db∧val Z (l1.drop i)=val Z (al.drop i)%val Z db) ∧
  (0<w->aE Z l2∧l2.length=al.length∧l2.take i=al.take i∧0<g∧g-1=val Z (al.drop i)/val Z db∧val Z (l2.drop i)=val Z (al.drop i)%val Z db):=by
 have hvb:=jN (B:=Z) bE hsb
 have hvp:0<val Z db:=by
  rcases Zb (val Z db)with h|h
  .rw[h]at hD;simp at hD
  .exact h
 have hpow:Z^(db.length+1)=Z*Z^db.length:=by rw[Nat.pow_succ,Zo]
 have hDlt:val Z (al.drop i)<Z^(db.length+1):=by
  rw[hpow];exact Nat.lt_trans hD (Nat.mul_lt_mul_of_pos_left hvb bE)
 have htop:val Z (al.drop (i+(db.length+1)))=0:=by
  rw[<-List.drop_drop];exact KP bE hDlt
 obtain ⟨f,s1,w1,e⟩:=D9 hg hsb (db.length+1) 0 0 0 al aa bE (Y7 _) hsa (by
  rw[Yj,Zj,hpow];have a1:=Z1 g (show val Z db<=Z^db.length by omega);have a2:=Nat.mul_lt_mul_of_pos_right hg (show 0<Z^db.length from Xq bE);omega) (at_:=i) (g:=g)
 rw[hw,hl1]at e;rw[hl1]at f s1;rw[hw]at w1;simp only[Nat.add_zero,Yj,Zj]at e f;have len1:=f.len
 have below:∀{l:LnQ},aE Z l->l.drop (i+(db.length+1))=al.drop (i+(db.length+1))->val Z (l.drop i)<Z^(db.length+1):=λ{l} hs he=>by
  have hz:=mq (B:=Z) (l.drop i) (min (db.length+1) (l.drop i).length) (Nat.min_le_right ..);by_cases hc:db.length+1<=(l.drop i).length
  .rw[Yo hc,List.drop_drop,he,htop,Nat.mul_zero,Nat.add_zero]at hz;rw[hz];have:=jN (B:=Z) bE ((hs.drop i).take (db.length+1));rw[Zp,Yo hc]at this;exact this
  .have:=jN (B:=Z) bE (hs.drop i);exact Z2 this (Z3 bE aa)
 have hsp:∀{l:LnQ},l.length=al.length->l.take i=al.take i->val Z l=val Z (al.take i)+Z^i*val Z (l.drop i):=λ{l} h h'=>by
  rw[<-h'];exact mq l i aa
 have hal:=mq (B:=Z) al i aa;have hdm:=Xm (val Z (al.drop i)) (val Z db);have hml:=Yz (val Z (al.drop i)) hvp;have b1:=below s1 f.drop;rw[hsp len1 f.take,hal,Yr,Nat.mul_assoc (Z^i)]at e
 have e2:val Z (l1.drop i)+g*val Z db=val Z (al.drop i)+Z^(db.length+1)*w:=by
  have:Z^i*(val Z (l1.drop i)+g*val Z db)=Z^i*(val Z (al.drop i)+Z^(db.length+1)*w):=by rw[Zl,Zl];omega
  exact Xw (Xq bE) this
 obtain⟨D,hDe⟩:=mnQ (val Z (al.drop i));obtain⟨v,hve⟩:=mnQ (val Z db);refine⟨⟨len1,s1⟩,λw0=>?_,λwp=>?_⟩
 .subst w0;rw[Nat.mul_zero,Nat.add_zero]at e2
  have hq:g=val Z (al.drop i)/val Z db:=by
   refine Nat.le_antisymm ?_ h2;rw[Xd hvp];omega
  refine⟨s1,len1,f.take,hq,?_⟩;rw[<-hq]at hdm;rw[Zo]at hdm;omega
 .have hw1:w=1:=aa;subst hw1;obtain⟨f2,s2,ce,e3⟩:=Gb hsb (at_:=i) (db.length+1) 0 0 l1 aa (Y7 _) s1;rw[hl2]at f2 s2 e3;simp only[Nat.add_zero,Yj,Zj]at e3 f2;have hdn:db.drop (db.length+1)=[]:=Y6 aa;rw[hdn,show val Z []=0 from rfl]at e3;simp only[Nat.add_zero]at e3
  have len2:l2.length=al.length:=by rw[f2.len,len1]
  have tk2:l2.take i=al.take i:=by rw[f2.take,f.take]
  have b2:=below s2 (by rw[f2.drop,f.drop]);rw[hsp len2 tk2,hsp len1 f.take,Yr,Nat.mul_assoc (Z^i)]at e3
  have e4:val Z (l2.drop i)+Z^(db.length+1)*ce=val Z (l1.drop i)+val Z db:=by
   have:Z^i*(val Z (l2.drop i)+Z^(db.length+1)*ce)=Z^i*(val Z (l1.drop i)+val Z db):=by rw[Zl,Zl];omega
   exact Xw (Xq bE) this
  have hgl:g*val Z db<=(val Z (al.drop i)/val Z db+1)*val Z db:=by
   rcases Zg (val Z (al.drop i)/val Z db+1) g with h3|h3
   .exfalso;have h4:=Zv (val Z db) (show val Z (al.drop i)/val Z db+2<=g by omega);rw[Nat.add_mul,Zo (val Z (al.drop i)/val Z db)]at h4;omega
   .exact Zv _ h3
  have hgp:0<g:=by
   rcases Zb g with h|h
   .subst h;omega
   .exact h
  have hgq:g=val Z (al.drop i)/val Z db+1:=by
   refine Nat.le_antisymm ?_ ?_
   .exact Nat.le_of_mul_le_mul_right hgl hvp
   .rw[Nat.succ_le_iff,Xc hvp];omega
  refine⟨s2,len2,tk2,hgp,aa,?_⟩;rw[hgq,Nat.add_mul,W8,Zo (val Z (al.drop i)/val Z db)]at e2;generalize Z^(db.length+1)=P at *
  have hce:ce=1:=by
   rcases Zg ce 1 with h|h
   .have:ce=0:=aa;subst this;omega
   .rcases Zg ce 2 with h'|h'
    .omega
    .have:=Z1 P h';omega
  subst hce;omega
def Jg(o:LnQ):Hp:=[(1,.data 1 (o.map u6) true false),nnQ]
theorem zq(o:LnQ):(Jg o)[0]?=some (1,.data 1 (o.map u6) true false):=rfl
theorem VH(o o':LnQ):(Jg o).set 0 (1,.data 1 (o'.map u6) true false)=Jg o':=rfl
@[simp]theorem af7(o:LnQ):(Jg o).length=2:=rfl
theorem B8{p:LnQ}(hsp:aE Z p)(hpl:p.length<1000000000000){n N:Nat}(hn:0<n)(hnZ:n<=Z)(hN:N=p.length)(k:KL)(h0:Hp)(hh:h0.length=2) :
  ∀(i:Nat)(o:LnQ)(r:Nat),i<=p.length->o.length=N->aE Z o->r<n->val Z (p.drop i)=n*val Z (o.drop i)+r ->
  (∀o' r',o'.length=N->aE Z o'->r'<n->val Z p=n*val Z o'+r'->k (.exit 0) [U (r':Nat)] (Jg o')) ->
  lp (iC (CX Y) (lst u6 p) (U n) (.ref 0 1 0 N N N)) [] h0 [U r,I ((i:Int)-1)] (Jg o) k
 | 0,o,r,hi,ho,hso,hr,hv,hk=>by
  refine ai ?_;simp[iC];exact hk o r ho hso hr (by simpa using hv)
 | i+1,o,r,hi,ho,hso,hr,hv,hk=>by
  obtain⟨x,hx⟩:=mnQ (nth 0 p i);have hxs:x<Z:=by rw[<-hx];exact hsp.getD bE i
  have e1:=λh:Hp=>oO u6 p h (k:=.i64) (i:=(i:Int)) aa aa
  have e2:=λh:Hp=>Fe p h (j:=i) aa
  rw[hx]at e2;have r3:=CJ (zq o) ho.symm (len:=N) (cap:=N) (i:=(i:Int)) aa aa .i64;have r5:=RZ (zq o) ho.symm (j:=i) aa;simp only[VH]at r5;simp only[Int.toNat_natCast]at e1 r3;have e0:((i+1:Nat):Int)-1=(i:Int):=aa;have hZ:Z=1000000000:=rfl;obtain⟨t,ht⟩:=mnQ (r*Z+x);obtain⟨q,hq⟩:=mnQ (t/n)
  obtain⟨r2,hr2⟩:=mnQ (t%n);have hdm:n*q+r2=t:=by rw[<-hq,<-hr2];exact Xm t n
  have hr2n:r2<n:=by rw[<-hr2];exact Yz _ hn
  have htn:t<Z*n:=by
   have:=Zv Z (show r+1<=n by omega);rw[Nat.add_mul,Zo n Z]at this;omega
  have hqZ:q<Z:=by rw[<-hq];exact Wr (by rw[Zo];exact htn)
  have htb:t<1000000000000000001:=by
   have:=Z1 Z hnZ;simp only[hZ]at *;omega
  have hdr:(o.set i q).drop i=q::o.drop (i+1):=by
   rw[List.drop_set,if_neg aa,Za];rw[Yx (show i<o.length by omega)];rfl
  have ih:=B8 hsp hpl hn hnZ hN k h0 hh i (o.set i q) r2 aa (by simpa using ho) (hso.set hqZ) hr2n (by
   rw[qt,show p.getD i 0=x from hx,hv,hdr];simp only[val];rw[Zl,Zl,Y3 n Z,Zo Z r];omega) hk
  have r6:=r5 q;have e3:(r:Int)*1000000000+(x:Int)=(t:Int):=by simp only[hZ]at ht;omega
  have e4:(t:Int)/(n:Int)=(q:Int):=by rw[<-hq];simp
  have e5:(t:Int)%(n:Int)=(r2:Int):=by rw[<-hr2];simp
  have hrb:r<1000000000:=by simp only[hZ]at hnZ;omega
  have hn0:¬((n:Int)=0):=aa;have hqb:(q:Int)<18446744073709551616:=by simp only[hZ]at hqZ;omega
  refine ai ?_;rw[e0];simp(disch:=try exact af)[iC,e1,e2,e3,r3,hn0,Zt,Zr,e4,e5,r6,hh];simpa using ih
theorem Hf(l:LnQ):∃z,l=iM l++List.replicate z 0:=by
 induction hn:l.length generalizing l with
 | zero=>
  have:l=[]:=Zi hn;subst this;exact⟨0,rfl⟩
 | succ n ih=>
  obtain⟨l,x,rfl⟩:∃l' x,l=l'++[x]:=⟨l.dropLast,l.getLast (by intro e;simp[e]at hn),(List.dropLast_concat_getLast _).symm⟩;by_cases hx:x=0
  .subst hx;rw[qJ];obtain⟨z,hz⟩:=ih l (by simpa using hn);refine⟨z+1,?_⟩
   conv=>lhs;rw[hz]
   rw[List.append_assoc,List.replicate_succ']
  .rw[yc hx];exact⟨0,ac⟩
theorem AP:l.take (iM l).length=iM l:=by obtain⟨z,hz⟩:=Hf l;generalize iM l=t at *;subst hz;rw[Yb rfl]
theorem zd(h:Hp)(n:Int):cF h (U n)=some (U n,h):=rfl
theorem bU(ha:cF h a=some (va,h1))(hb:cF h1 b=some (vb,h2)):out (.tup [va,vb]) (.tup [a,b]) h:=
 ⟨h2,by simp only[cF,aO,ha,hb]⟩
theorem jz{h3:Hp}{c vc:V}(ha:cF h a=some (va,h1))(hb:cF h1 b=some (vb,h2))(hc:cF h2 c=some (vc,h3)):out (.tup [va,vb,vc]) (.tup [a,b,c]) h:=
 ⟨h3,by simp only[cF,aO,ha,hb,hc]⟩
theorem Hv{a n:Nat}(ha:(dig Z a).length<100000000)(hn:0<n)(hnZ:n<=Z):CP Y F.cX [pcs a,U n] (.tup [pcs (a/n),U (a%n:Nat)]):=by
 refine u5 ?_;obtain⟨p,hp⟩:=mnQ (dig Z a);have hsp:aE Z p:=by rw[<-hp];exact cE aw a
 have hval:val Z p=a:=by rw[<-hp];exact iO aw a
 rw[pcs,hp];rw[hp]at ha;simp(disch:=try exact af)[cX];have e2:[(1,Bk.data 1 (List.replicate p.length (D.int IntKind.u64 0)) true false),nnQ]=Jg (List.replicate p.length 0):=by simp[Jg,u6]
 rw[e2];refine lo (B8 hsp aa hn hnZ rfl _ _ rfl p.length (List.replicate p.length 0) 0 (Z8 _) ac (λx hx=>by rw[Wd]at hx;rw[hx.2];exact bE) hn (by rw[List.drop_length,Y6 ac];simp[val]) λo r ho hs hr hv=>?_);simp only[lh];rw[hval]at hv
 have hq:val Z o=a/n:=by rw[hv,Nat.mul_add_div hn,W4 hr,Nat.add_zero]
 have hr2:r=a%n:=by rw[hv,Nat.mul_add_mod,X9 hr]
 have ht:iM (o.take p.length)=dig Z (a/n):=by rw[Zx aa,<-hq,rF aw hs]
 have tr:=tO (h:=Jg o) rfl (zq o) ho.symm (len:=p.length) (cap:=p.length) (Z8 _) aa (Z8 _);rw[ht]at tr;refine gP tr ?_ ac
 have htl:o.take (dig Z (a/n)).length=dig Z (a/n):=by
  have h2:iM o=dig Z (a/n):=by rw[<-hq,rF aw hs]
  rw[<-h2];exact AP
 have sn:=wj (zq o) ho.symm (len:=(dig Z (a/n)).length) (cap:=p.length) (by rw[pG aw,<-hq,<-ho];exact jN bE hs) (Z8 _);rw[htl]at sn;have e6:((a:Int)%(n:Int))=((a%n:Nat):Int):=ac;rw[hr2,e6];exact bU sn (zd _ _)
end Go.Vm
