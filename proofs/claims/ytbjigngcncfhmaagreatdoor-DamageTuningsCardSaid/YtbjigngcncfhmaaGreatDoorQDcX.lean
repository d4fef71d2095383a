/- Lemmas. -/
import Derived.Test.YtbjigngcncfhmaaGreatDoorQT
set_option linter.unusedVariables false
set_option linter.unusedSimpArgs false
namespace Go.Vm
open Go Go.Am Go.Big
variable{k:IntKind}{T:(LwQ->Hp->Prop)->Prop}{z a i:Int}{xs:List LvQ}{clr l0 l':LnQ}{h0 h':Hp}{j L i1 cap len c N:Nat}{ys args ds:LwQ}{cells:LdQ}{C:sE}
inductive PU{α:Type}(k:α):Type where
 |mk
def rn{α:Type}(T:(α->Prop)->Prop)(k:α->Prop)(u:PU k):Prop:=T k
def rh{α β:Type}(T:(α->β->Prop)->Prop)(k:α->β->Prop)(u:PU k):Prop:=T k
def rl(T:KL->Prop)(k:KL)(u:PU k):Prop:=T k
def br(p A B:Prop)(u:PU A)(w:PU B):Prop:=(p->A)∧(¬p->B)
def jo(k:LwQ->Hp->Prop)(T:(LwQ->Hp->Prop)->Prop)(u:PU k)(w:PU T):Prop:=T k
theorem XP{p A B:Prop}{u:PU A}{w:PU B}(h1:p->A)(h2:¬p->B):br p A B u w:=⟨h1,h2⟩
@[simp]theorem agx(A B:Prop)(u:PU A)(w:PU B):br True A B u w=A:=by simp[br]
@[simp]theorem afV(A B:Prop)(u:PU A)(w:PU B):br False A B u w=B:=by simp[br]
@[simp]theorem ahG{p A B:Prop}{u:PU A}{w:PU B}(h:p):br p A B u w=A:=by simp_all
@[simp]theorem ahH{p A B:Prop}{u:PU A}{w:PU B}(h:¬p):br p A B u w=B:=by simp_all
theorem gI{k:LwQ->Hp->Prop}{u:PU k}{w:PU T}{l:LwQ}{h:Hp}(hT:∀q,T q=q l h)(hk:k l h):jo k T u w:=by grind[jo]
theorem bM{k:LwQ->Hp->Prop}{u:PU k}{w:PU T}(h:T k):jo k T u w:=h
@[simp ↓] theorem ahI (o:Option V)(k:V->Prop):bnd o k=rn (bnd o) k .mk:=id rfl
@[simp ↓] theorem ahy (x:V)(i:Nat)(k:V->Prop):ext x i k=rn (ext x i) k .mk:=id rfl
@[simp ↓] theorem agk (h:Hp)(op:BinOp)(x y:V)(k:V->Prop):Bj h op x y k=rn (Bj h op x y) k .mk:=id rfl
@[simp ↓] theorem ahC (b:Bool)(A B:Prop):cnd (.d (.bool b)) A B=br (b=true) A B .mk .mk:=by cases b<;>simp[cnd,br]
@[simp ↓] theorem ags (b:Bool)(h:Hp)(T:kkQ->Prop)(k:kkQ):gd (.d (.bool b)) true h T k=br (b=true) (T k) (k (.tup []) h) .mk .mk:=by cases b<;>simp[gd,br]
@[simp ↓] theorem afK (b:Bool)(h:Hp)(T:kkQ->Prop)(k:kkQ):gd (.d (.bool b)) false h T k=br (b=false) (T k) (k (.tup []) h) .mk .mk:=by cases b<;>simp[gd,br]
@[simp ↓] theorem afJ (w:Bool)(h:Hp)(T:kkQ->Prop)(k:kkQ):gd (.tup []) w h T k=k (.tup []) h:=id rfl
@[simp ↓] theorem ahS (k:LwQ->Hp->Prop)(T:(LwQ->Hp->Prop)->Prop):jn k T=jo k T .mk .mk:=id rfl
@[simp ↓] theorem ahE (C:sE)(h:Hp)(c:V)(args:LwQ)(k:kkQ):cal C h c args k=rh (cal C h c args) k .mk:=id rfl
@[simp ↓] theorem agZ (C:sE)(h:Hp)(c:V)(args:LwQ)(k:kkQ):soC C h c args k=rh (soC C h c args) k .mk:=id rfl
@[simp ↓] theorem ahF (C:sC)(h:Hp)(c:V)(args:LwQ)(s:Nat)(k:kkQ):cai C h c args s k=rh (cai C h c args s) k .mk:=id rfl
@[simp ↓] theorem ahN (s:Nat)(cs:LwQ)(h:Hp)(k:kkQ):alV s cs h k=rh (alV s cs h) k .mk:=id rfl
@[simp ↓] theorem ahO (s n:Nat)(cs:LdQ)(h:Hp)(k:kkQ):alD s n cs h k=rh (alD s n cs h) k .mk:=id rfl
@[simp ↓] theorem agy (s:Nat)(v:V)(h:Hp)(k:kkQ):d6 s v h k=rh (d6 s v h) k .mk:=id rfl
@[simp ↓] theorem ago (len:Nat)(z:LdQ)(ps:List (Nat×V))(h:Hp)(k:kkQ):dv len z ps h k=rh (dv len z ps h) k .mk:=id rfl
@[simp ↓] theorem agn (s len:Nat)(z:LdQ)(ps:List (Nat×V))(h:Hp)(k:kkQ):wI s len z ps h k=rh (wI s len z ps h) k .mk:=id rfl
@[simp ↓] theorem ahp (s by_:Nat)(z:LdQ)(h:Hp)(l c:V)(k:kkQ):mkS s by_ z h l c k=rh (mkS s by_ z h l c) k .mk:=id rfl
def ra(f:Nat->Prop)(u:PU f):Prop:=∃s,f s
@[simp ↓] theorem agM (f:Nat->Prop):anyS f=ra f .mk:=id rfl
theorem vv{f:Nat->Prop}{u:PU f}(s:Nat)(h:f s):ra f u:=⟨s,h⟩
@[simp ↓] theorem agm (s len:Nat)(z:LdQ)(ps:List (Nat×V))(h:Hp)(k:kkQ):CS s len z ps h k=rh (CS s len z ps h) k .mk:=id rfl
@[simp ↓] theorem ahJ (dr:Bool)(s n by_:Nat)(x y:V)(h:Hp)(k:kkQ):apW dr s n by_ x y h k=rh (apW dr s n by_ x y h) k .mk:=id rfl
theorem Ji{s e:Nat}{b:Bk}{z:D}{v:V}{h:Hp}{k:kkQ}{u:PU k}(hs:h[s]?=some (e,b))(hv:wW v=some [v])(hk:k (.ref s (e+1) 0 1 1 1) (h.set s (e+1,.vars [v]))):rh (CS s 1 [z] [(0,v)] h) k u:=by
 show CS s 1 [z] [(0,v)] h k
 have hf:pf (λi=>some (i * [z].length,[z].length)) ((gK 1 [z]).map .d) [(0,v)]=some [v]:=by
  simp[pf,hv,gK]
 unfold CS;rw[hf];simp only[new,hs];rw[if_pos ⟨⟨ac,ac⟩,rfl⟩];exact hk
theorem aee{dr:Bool}{s e by_ k:Nat}{b:Bk}{y:V}{vs:LwQ}{h:Hp}{q:kkQ}{u:PU q}(hy:rN h y=some (k,vs))(ho:vs.all okV=true)(hk:0<k)(hb:k*by_<=140737488355328)(hs:h[s]?=some (e,b))
  (hq:q (.ref s (e+1) 0 k k vs.length) (h.set s (e+1,.vars vs))):rh (apW dr s 1 by_ (.d nPQ) y h) q u:=by
 show apW dr s 1 by_ _ y h q
 unfold apW;rw[hy];simp only[new,hs];rw[if_pos ⟨ho,hk,trivial⟩,if_pos hb];exact hq
theorem abx{s s' e by_ k off len cap:Nat}{y:V}{vs old:LwQ}{h:Hp}{q:kkQ}{u:PU q}(hy:rN h y=some (k,vs))(ho:vs.all okV=true)(hk:0<k)(hg:h[s']?=some (e,.vars old))(hl:len=cap)(hc:off+cap=old.length)(h0:old.length<len+k)
  (hb:(len+k)*by_<=140737488355328) (hq:q (.ref s' (e+1) 0 (len+k) (len+k) (len+k)) (h.set s' (e+1,.vars ((old.drop off).take len++vs)))):rh (apW false s 1 by_ (.ref s' e off len cap old.length) y h) q u:=by
 show apW false s 1 by_ _ y h q
 have hg':ax h s' e=.vars old:=by simp[ax,hg]
 unfold apW;rw[hy];simp only[hg'];rw[if_pos ⟨ho,hk,trivial⟩,if_pos ⟨trivial,trivial,aa,aa⟩,if_neg aa,if_pos ⟨hb,hc,h0⟩];exact hq
@[simp ↓] theorem agY (h:Hp)(n:Nat)(p v:V)(k:kkQ):stD h n p v k=rh (stD h n p v) k .mk:=id rfl
@[simp ↓] theorem ahK (dr:Bool)(s n by_:Nat)(x y:V)(h:Hp)(k:kkQ):apV dr s n by_ x y h k=rh (apV dr s n by_ x y h) k .mk:=id rfl
@[simp ↓] theorem ahQ (st:aM)(clr:LnQ)(h0:Hp)(l:LwQ)(h:Hp)(k:KL):lp st clr h0 l h k=rl (lp st clr h0 l h) k .mk:=id rfl
def rk(T:(Exit->Hp->Prop)->Prop)(k:Exit->Hp->Prop)(u:PU k):Prop:=T k
@[simp ↓] theorem ahk (o:Option (List LvQ))(n:Nat)(st:Io)(clr:LnQ)(h:Hp)(k:Exit->Hp->Prop):rgO o n st clr h k=rk (rgO o n st clr h) k .mk:=id rfl
theorem ro{o:Option (List LvQ)}{n:Nat}{st:Io}{h:Hp}{k:Exit->Hp->Prop}{u:PU k}(hq:o=some xs)(hr:rg n st clr h k xs h):rk (rgO o n st clr h) k u:=by subst hq;exact hr
theorem ZP{n:Nat}{st:Io}{h:Hp}{k:Exit->Hp->Prop}{x:LvQ}(hl:x.length=n)(hs:st (x.map λv=>.d (jA v)) h λex h'=>match ex with
  |.normal=>p6 clr 0 h'=true∧rg n st clr h0 k xs (aP clr 0 h0 h')
  |ex=>k ex h'):rg n st clr h0 k (x::xs) h:=⟨hl,hs⟩
@[simp]theorem ac1(v:V)(k:V->Prop)(u:PU k):rn (bnd (some v)) k u=k v:=id rfl
@[simp]theorem ahd(vs:LwQ)(i:Nat)(k:V->Prop)(u:PU k):rn (ext (.tup vs) i) k u=rn (bnd vs[i]?) k u:=id rfl
attribute [simp] UL aac Int.natCast_inj
@[simp]theorem ae9(b:Bool)(x y:V):o9 (.d (.bool (!b))) x y=o9 (.d (.bool b)) y x:=by cases b<;>rfl
@[simp]theorem w7{n:Int}(h1 : -9223372036854775808<=n)(h2:n<=9223372036854775807):IntKind.wrap .i64 n=n:=wrap_i64 ⟨h1,h2⟩
@[simp]theorem acu{n:Int}(h1:0<=n)(h2:n<18446744073709551616):IntKind.wrap .u64 n=n:=wrap_u64 ⟨h1,h2⟩
@[simp]theorem acv{n:Int}(h1:0<=n)(h2:n<4294967296):IntKind.wrap .u32 n=n:=wrap_u32 ⟨h1,h2⟩
@[simp]theorem wrap_u8'{n:Int}(h1:0<=n)(h2:n<256):IntKind.wrap .u8 n=n:=M3 rfl ⟨h1,h2⟩
attribute [simp] AD xy vm
@[simp]theorem Qv{b:Int}(hb:b≠0):biI .rem (.d (.int k a)) (.d (.int k b))=some (.d (.int k (a.tmod b))):=by simp[biI,iQ,ot,jA,hb]
@[simp]theorem agD{b:Int}(hb:b≠0):biI .quo (.d (.int k a)) (.d (.int k b))=some (.d (.int k (k.wrap (a.tdiv b)))):=by simp[biI,iQ,ot,jA,hb]
theorem Qt{l:IntKind}{b:Int}(h0:0<=b)(hb:b.toNat<=k.bits):biI .shr (.d (.int k a)) (.d (.int l b))=some (.d (.int k (a/2^b.toNat))):=by
 have h1:¬(b<0):=aa
 grind[biI,iQ,ot,jA]
theorem Qu{l:IntKind}{b:Int}(h0:0<=b)(hb:b.toNat<=k.bits):biI .shl (.d (.int k a)) (.d (.int l b))=some (.d (.int k (k.wrap (a*2^b.toNat)))):=by
 have h1:¬(b<0):=aa
 grind[biI,iQ,ot,jA]
@[simp]theorem afY:IntKind.bits .i64=64:=rfl
@[simp]theorem afX:IntKind.bits .u64=64:=rfl
@[simp]theorem agA:IntKind.bits .u8=8:=rfl
@[simp]theorem af9{l:IntKind}{b:Int}(h0:0<=b)(hb:b<=64):biI .shr (.d (.int .i64 a)) (.d (.int l b))=some (.d (.int .i64 (a/2^b.toNat))):=Qt h0 aN
@[simp]theorem af8{l:IntKind}{b:Int}(h0:0<=b)(hb:b<=64):biI .shr (.d (.int .u64 a)) (.d (.int l b))=some (.d (.int .u64 (a/2^b.toNat))):=Qt h0 aN
@[simp]theorem af6(k:IntKind)(n:Int):unV .neg (.d (.int k n))=some (.d (.int k (k.wrap (-n)))):=by simp[unV,iQ,ot,jA]
def nth{α:Type}(d:α)(l:List α)(i:Nat):α:=l.getD i d
theorem ft{α:Type}(d:α)(l:List α)(i:Nat)(h:i<l.length):nth d l i=l[i]:=by simp[nth,h]
@[simp]theorem agf{α:Type}(d:α)(p:List α)(x:α)(q:List α):nth d (p++x::q) p.length=x:=by simp[nth]
variable{α:Type}(f:α->D)
@[simp] theorem nJ (l:List α)(h:Hp)(h0:0<=i)(h1:i<l.length):ixV h 1 (lst f l) (.d (.int k i))=some (.dptr (l.map f) i.toNat):=
 uV f l h (Int.toNat_of_nonneg h0).symm aa
theorem oz(d:α)(l:List α)(h:Hp)(hl:j<l.length):ld1 h (.dptr (l.map f) j)=some (.d (f (nth d l j))):=by rw[pA f l h hl,ft d l j hl]
@[simp] theorem uU (p:List α)(x:α)(q:List α)(h:Hp)(k:IntKind):ixV h 1 (lst f (p++x::q)) (.d (.int k p.length))=some (.dptr ((p++x::q).map f) p.length):=
 uV f _ h rfl ac
omit f in
@[simp] theorem ahr (a:LdQ)(x:D)(b:LdQ)(h:Hp)(hj:j=a.length):ld1 h (.dptr (a++x::b) j)=some (.d x):=by subst hj;simp[ld1]
omit f in
@[simp]theorem ahR(x:D)(b:LdQ)(h:Hp):ld1 h (.dptr (x::b) 0)=some (.d x):=by rfl
variable{α:Type}(f:α->D)(l:List α)
@[simp]theorem aeT(h:Hp)(h0:0<=i)(h1:i<=l.length)(hp:0<l.length):slV h 1 (lst f l) none (some (I i))=some (lst f (l.take i.toNat)):=abW f l hp aa aa
@[simp]theorem aeS(h:Hp)(h0:0<=i)(h1:i<=l.length)(hp:0<l.length):slV h 1 (lst f l) (some (I i)) none=some (lst f (l.drop i.toNat)):=aeZ f l hp aa aa
@[simp] theorem ahU (len n:Nat)(cs:LdQ)(off:Nat)(h0:0<=i)(h1:i<len):ixP len n (.dptr cs off) (.d (.int k i))=some (.dptr cs (off+i.toNat*n)):=by simp only[ixP];rw[if_pos ⟨h0,h1⟩]
@[simp] theorem ahT (len n:Nat)(s e off tot:Nat)(h0:0<=i)(h1:i<len):ixP len n (.ptr s e off tot) (.d (.int k i))=some (.ptr s e (off+i.toNat*n) tot):=by simp only[ixP];rw[if_pos ⟨h0,h1⟩]
theorem afz(h:Hp)(cs:LdQ)(pos:Nat){x:D}(hx:cs[pos]?=some x):ld1 h (.dptr cs pos)=some (.d x):=by grind[ld1]
def gk{α:Type}(f:α->LdQ)(l:List α):V:=.d (.sl l.length (l.flatMap f))
section
variable{α:Type}(f:α->LdQ){n:Nat}(hf:∀x,(f x).length=n)
include hf
theorem fP(l:List α):(l.flatMap f).length=l.length*n:=by
 induction l with
 |nil=>simp
 |cons x l ih=>grind
theorem My(d:α)(l:List α)(hj:j<l.length):cut (l.flatMap f) (j*n) n=some (f (nth d l j)):=by
 have hle:j*n+n<=(l.flatMap f).length:=by
  rw[fP f hf,<-X1];exact Zs n hj
 simp only[cut,if_pos hle,Z9];clear hle
 induction l generalizing j with
 |nil=>cases hj
 | cons x l ih=>
  cases j with
  |zero=>grind[nth]
  | succ j=>
   grind[X1,List.drop_drop,List.drop_left,nth]
theorem jW(l:List α)(h:Hp)(h0:0<=i)(h1:i<l.length):ixV h n (gk f l) (.d (.int k i))=some (.dptr (l.flatMap f) (i.toNat*n)):=by grind[ixV,gk,fP]
theorem kD(d:α)(l:List α)(h:Hp)(hj:j<l.length):ldA h n (.dptr (l.flatMap f) (j*n))=some (.agg ((f (nth d l j)).map .d)):=by grind[ldA,My]
end
@[simp]theorem aeu{α:Type}(f:α->LdQ)(l:List α):aX (gk f l)=some (I l.length):=id rfl
@[simp]theorem aep{α:Type}(h:Hp)(f:α->LdQ)(l:List α):bH h (gk f l)=some (gk f l,h):=by rfl
def vr(place:Nat->Option (Nat×Nat))(cs:LwQ)(ps:List (Nat×V)):Option LwQ:=pf place cs ps
@[simp]theorem aex(place:Nat->Option (Nat×Nat))(cs:LwQ):vr place cs []=some cs:=id rfl
def Mj(o:Option (Nat×Nat))(place:Nat->Option (Nat×Nat))(cs:LwQ)(v:V)(r:List (Nat×V)):Option LwQ:=match o with
 |none=>none
 | some (off,sz)=>match wW v with
  |none=>none
  |some vs=>if vs.length=sz∧off+vs.length<=cs.length then vr place (cs.take off++vs++cs.drop (off+vs.length)) r else none
@[simp]theorem adL(place:Nat->Option (Nat×Nat))(cs:LwQ)(i:Nat)(v:V)(r:List (Nat×V)):vr place cs ((i,v)::r)=Mj (place i) place cs v r:=id rfl
@[simp] theorem agt (place:Nat->Option (Nat×Nat))(cs:LwQ)(x:D)(r:List (Nat×V))(off sz:Nat):
  Mj (some (off,sz)) place cs (.d x) r=if 1=sz∧off+1<=cs.length then vr place (cs.take off++[.d x]++cs.drop (off+1)) r else none:=id rfl
@[simp] theorem aeA (place:Nat->Option (Nat×Nat))(cs:LwQ)(vs:LwQ)(r:List (Nat×V))(off sz:Nat):
  Mj (some (off,sz)) place cs (.agg vs) r=if vs.length=sz∧off+vs.length<=cs.length then vr place (cs.take off++vs++cs.drop (off+vs.length)) r else none:=id rfl
@[simp] theorem aey (place:Nat->Option (Nat×Nat))(cs:LwQ)(a b c d e f:Nat)(r:List (Nat×V))(off sz:Nat):
  Mj (some (off,sz)) place cs (.ref a b c d e f) r=if 1=sz∧off+1<=cs.length then vr place (cs.take off++[.ref a b c d e f]++cs.drop (off+1)) r else none:=id rfl
def ad9(fs:List (Nat×Nat))(z:LdQ)(ps:List (Nat×V)):Option V:=bld fs z ps
@[simp]theorem ahf(fs:List (Nat×Nat))(z:LdQ)(ps:List (Nat×V))(k:V->Prop)(u:PU k):rn (bnd (bld fs z ps)) k u=rn (bnd (ad9 fs z ps)) k u:=id rfl
@[simp]theorem agz(fs:List (Nat×Nat))(z:LdQ)(ps:List (Nat×V)):ad9 fs z ps=(vr (λi=>fs[i]?) (z.map .d) ps).map .agg:=id (by unfold ad9 bld vr;cases pf (λi=>fs[i]?) (z.map .d) ps<;>rfl)
@[simp]theorem agu(cs:LdQ)(o off:Nat):faV off (.dptr cs o)=some (.dptr cs (o+off)):=id rfl
@[simp]theorem ahx(s e o tot off:Nat):faV off (.ptr s e o tot)=some (.ptr s e (o+off) tot):=id rfl
def bnh{α:Type}(o:Option α)(k:α->Prop):Prop:=match o with
 |some x=>k x
 |none=>False
@[simp]theorem ahe{α:Type}(x:α)(k:α->Prop)(u:PU k):rn (bnh (some x)) k u=k x:=id rfl
@[simp] theorem ahg (h:Hp)(n:Nat)(p v:V)(k:kkQ)(u:PU k):rh (stD h n p v) k u=rn (bnh (st h n p v)) (λh'=>k .junk h') .mk:=by unfold rh rn stD bnh;cases st h n p v<;>rfl
theorem Dn(h:Hp)(s:Nat)(b:Bk)(k:Nat->Hp->Prop):new h s b k=bnh h[s]? λx=>k (x.1+1) (h.set s (x.1+1,b)):=by grind[new,bnh]
@[simp]theorem ahi(s:Nat)(cs:LwQ)(h:Hp)(k:kkQ)(u:PU k):rh (alV s cs h) k u=rn (bnh h[s]?) (λx=>k (.ptr s (x.1+1) 0 cs.length) (h.set s (x.1+1,.vars cs))) .mk:=by unfold rh rn alV;exact Dn ..
@[simp]theorem agc(s:Nat)(vs:LwQ)(h:Hp)(k:kkQ)(u:PU k):rh (d6 s (.agg vs) h) k u=rh (alV s vs h) k u:=id rfl
@[simp]theorem ae3(s:Nat)(x:D)(h:Hp)(k:kkQ)(u:PU k):rh (d6 s (.d x) h) k u=rh (alV s [.d x] h) k u:=id rfl
def du(len:Nat)(z:LdQ)(ps:List (Nat×V))(h:Hp):Option (LdQ×Hp):=match vr (λi=>some (i*z.length,z.length)) ((gK len z).map .d) ps with
 |some vs=>if 0<z.length∧len*z.length<=16777216 then jG h vs else none
 |none=>none
@[simp] theorem agb (len:Nat)(z:LdQ)(ps:List (Nat×V))(h:Hp)(k:kkQ)(u:PU k):rh (dv len z ps h) k u=rn (bnh (du len z ps h)) (λx=>k (.d (.sl len x.1)) x.2) .mk:=by
 unfold rh rn dv du bnh vr;cases pf (λi=>some (i*z.length,z.length)) ((gK len z).map .d) ps with
 |none=>rfl
 | some vs=>
  simp only;split
  .cases jG h vs<;>rfl
  .rfl
@[simp] theorem aga (s len:Nat)(z:LdQ)(ps:List (Nat×V))(h:Hp)(k:kkQ)(u:PU k):rh (wI s len z ps h) k u=rn (bnh (du len z ps h)) (λx=>rn (bnh x.2[s]?) (λy=>k (.ref s (y.1+1) 0 len len x.1.length) (x.2.set s (y.1+1,.data z.length x.1 true false))) .mk) .mk:=by
 unfold rh rn wI du bnh vr;cases pf (λi=>some (i*z.length,z.length)) ((gK len z).map .d) ps with
 |none=>rfl
 | some vs=>
  simp only;split
  .cases jG h vs with
   |none=>rfl
   |some x=>simp only[Dn];rfl
  .rfl
def md(h:Hp)(s e:Nat):Bk:=ax h s e
@[simp]theorem adD(e0:Nat)(b:Bk)(h:Hp)(e:Nat):md ((e0,b)::h) 0 e=if e0=e then b else .none:=id rfl
@[simp]theorem adE(x:Nat×Bk)(h:Hp)(s e:Nat):md (x::h) (s+1) e=md h s e:=id rfl
def aaz(b:Bk)(off tot:Nat):Option V:=match b with
 |.vars cs=>if tot=cs.length then cs[off]? else none
 |.data _ cs _ _=>if tot=cs.length then cs[off]?.map .d else none
 |.none=>none
def L3(b:Bk)(n off tot:Nat):Option V:=match b with
 |.vars cs=>if tot=cs.length then(cut cs off n).map .agg else none
 |.data _ cs _ _=>if tot=cs.length then(cut cs off n).map λl=>.agg (l.map .d)else none
 |.none=>none
theorem afA(h:Hp)(s e off tot:Nat):ld1 h (.ptr s e off tot)=aaz (md h s e) off tot:=by
 unfold md;simp only[ld1];cases ax h s e with
 |none=>rfl
 |vars cs=>rfl
 | data n cs a b=>
  simp only[aaz];split
  .cases cs[off]?<;>rfl
  .rfl
theorem afy(h:Hp)(n s e off tot:Nat):ldA h n (.ptr s e off tot)=L3 (md h s e) n off tot:=by
 unfold md;simp only[ldA];cases ax h s e with
 |none=>rfl
 | vars cs=>
  simp only[L3];split
  .cases cut cs off n<;>rfl
  .rfl
 | data m cs a b=>
  simp only[L3];split
  .cases cut cs off n<;>rfl
  .rfl
@[simp]theorem ahb(h:Hp)(s e off tot:Nat)(k:V->Prop)(u:PU k):rn (bnd (ld1 h (.ptr s e off tot))) k u=rn (bnd (aaz (md h s e) off tot)) k u:=by rw[afA]
@[simp]theorem aha(h:Hp)(n s e off tot:Nat)(k:V->Prop)(u:PU k):rn (bnd (ldA h n (.ptr s e off tot))) k u=rn (bnd (L3 (md h s e) n off tot)) k u:=by rw[afy]
@[simp]theorem aew(cs:LwQ)(off tot:Nat):aaz (.vars cs) off tot=if tot=cs.length then cs[off]? else none:=id rfl
@[simp]theorem aev(cs:LwQ)(n off tot:Nat):L3 (.vars cs) n off tot=if tot=cs.length then(cut cs off n).map .agg else none:=id rfl
def stX(b:Bk)(h:Hp)(s e off tot:Nat)(vs:LwQ):Option Hp:=match b with
 |.vars cs=>if tot=cs.length∧off+vs.length<=cs.length∧vs.all okV=true then some (bK h s e (.vars (cs.take off++vs++cs.drop (off+vs.length))))else none
 |_=>sto h s e off tot vs
theorem abR(h:Hp)(s e off tot:Nat)(vs:LwQ):sto h s e off tot vs=stX (md h s e) h s e off tot vs:=by
 unfold md stX;cases hb:ax h s e with
 |vars cs=>simp[sto,hb]
 |none=>rfl
 |data n cs a b=>rfl
@[simp] theorem ag8 (h:Hp)(n s e off tot:Nat)(vs:LwQ)(k:Hp->Prop)(u:PU k):rn (bnh (st h n (.ptr s e off tot) (.agg vs))) k u=rn (bnh (if vs.length=n then stX (md h s e) h s e off tot vs else none)) k u:=by simp only[rn,st,abR]
def KF(b:Bk)(h:Hp)(s e off tot:Nat)(x:D):Option Hp:=match b with
 |.vars cs=>if tot=cs.length∧off+1<=cs.length then some (bK h s e (.vars (cs.take off++[.d x]++cs.drop (off+1))))else none
 |.data n cs ex fr=>if fr=false∧tot=cs.length∧off+1<=cs.length then some (bK h s e (.data n (cs.set off (norm x)) ex false))else none
 |.none=>none
theorem aeX(h:Hp)(s e off tot:Nat)(x:D):st h 1 (.ptr s e off tot) (.d x)=KF (md h s e) h s e off tot x:=by
 unfold md;simp only[st,if_true];cases hb:ax h s e with
 |none=>simp[sto,hb,KF]
 |vars cs=>simp[sto,hb,KF,okV]
 | data n cs ex fr=>
  simp only[sto,hb,jG,toD,KF];by_cases hc:fr=false∧tot=cs.length∧off+1<=cs.length
  .rw[if_pos hc,if_pos aa];rw[Ym,if_pos aa];simp
  .rw[if_neg hc,if_neg aa]
@[simp]theorem ag9(h:Hp)(s e off tot:Nat)(x:D)(k:Hp->Prop)(u:PU k):rn (bnh (st h 1 (.ptr s e off tot) (.d x))) k u=rn (bnh (KF (md h s e) h s e off tot x)) k u:=by rw[aeX]
@[simp]theorem aen(cs:LwQ)(h:Hp)(s e off tot:Nat)(x:D):KF (.vars cs) h s e off tot x=if tot=cs.length∧off+1<=cs.length then some (bK h s e (.vars (cs.take off++[.d x]++cs.drop (off+1))))else none:=id rfl
@[simp] theorem QW (n:Nat)(cs:LdQ)(ex:Bool)(h:Hp)(s e off tot:Nat)(x:D)(ht:tot=cs.length)(ho:off<cs.length):KF (.data n cs ex false) h s e off tot x=some (bK h s e (.data n (cs.set off (norm x)) ex false)):=by simp only[KF];simp[ht];omega
def ixX(b:Bk)(n s e off len tot:Nat)(i:Int):Option V:=match b with
 |.data _ cs _ _=>if tot=cs.length∧0<=i∧i<len then some (.ptr s e (off+i.toNat*n) tot)else none
 |.vars cs=>if tot=cs.length∧0<=i∧i<len then some (.ptr s e (off+i.toNat*n) tot)else none
 |_=>none
@[simp] theorem ahc (h:Hp)(n s e off len cap tot:Nat)(kd:IntKind)(i:Int)(k:V->Prop)(u:PU k):rn (bnd (ixV h n (.ref s e off len cap tot) (.d (.int kd i)))) k u=rn (bnd (ixX (md h s e) n s e off len tot i)) k u:=by
 have:ixV h n (.ref s e off len cap tot) (.d (.int kd i))=ixX (md h s e) n s e off len tot i:=by
  unfold md;simp only[ixV,ixX];cases ax h s e<;>rfl
 rfl
@[simp] theorem afF (m:Nat)(cs:LdQ)(a b:Bool)(n s e off len tot:Nat)(i:Int)(ht:tot=cs.length)(h0:0<=i)(h1:i<len):ixX (.data m cs a b) n s e off len tot i=some (.ptr s e (off+i.toNat*n) tot):=by simp only[ixX];rw[if_pos ⟨ht,h0,h1⟩]
@[simp] theorem ag7 (h:Hp)(n s e off tot a b c d f g:Nat)(k:Hp->Prop)(u:PU k):rn (bnh (st h n (.ptr s e off tot) (.ref a b c d f g))) k u=rn (bnh (if n=1 then stX (md h s e) h s e off tot [.ref a b c d f g]else none)) k u:=by simp only[rn,st,abR]
@[simp]theorem aeW(cs:LwQ)(h:Hp)(s e off tot:Nat)(vs:LwQ):stX (.vars cs) h s e off tot vs=if tot=cs.length∧off+vs.length<=cs.length∧vs.all okV=true then some (bK h s e (.vars (cs.take off++vs++cs.drop (off+vs.length))))else none:=id rfl
@[simp]theorem agq(h:Hp)(s e:Nat)(b:Bk):bK h s e b=h.set s (e,b):=rfl
@[simp]theorem ahP(x:D):okV (.d x)=true:=rfl
@[simp]theorem age(a b c d e f:Nat):okV (.ref a b c d e f)=true:=rfl
@[simp]theorem ahA{α:Type}(l:List α)(off n:Nat):cut l off n=if off+n<=l.length then some ((l.drop off).take n)else none:=id rfl
@[simp]theorem r8(i:Nat)(h0 h:Hp)(hl:h.length=h0.length):aP [] i h0 h=h:=Hz i h0 h hl
@[simp]theorem agw(q:LwQ->Hp->Prop)(r:List (Exit×(LwQ->Hp->Prop)))(l:LwQ)(h:Hp):exK ((.normal,q)::r) .normal l h=q l h:=rfl
@[simp]theorem acd(q:LwQ->Hp->Prop)(r:List (Exit×(LwQ->Hp->Prop)))(l:LwQ)(h:Hp):exK ((.normal,q)::r) .ret l h=exK r .ret l h:=rfl
@[simp]theorem acb(q:LwQ->Hp->Prop)(r:List (Exit×(LwQ->Hp->Prop)))(l:LwQ)(h:Hp):exK ((.ret,q)::r) .normal l h=exK r .normal l h:=rfl
@[congr]theorem aeY{h:Hp}{x:V}{k:Prop}(e:h=h'):sp h x ys k=sp h' x ys k:=by rw[e]
theorem OU{h:Hp}{x:V}{k:Prop}:∀{ys:LwQ},ys.all (apt h x)=true->k->sp h x ys k
 |[],_,hk=>hk
 | y::ys,hb,hk=>by
  simp only[List.all_cons,Z7]at hb;unfold sp;rw[hb.1];exact OU hb.2 hk
theorem Tw{h:Hp}{x y:V}{k:Prop}(hb:smB h x y=true)(hk:k):sm h x y k:=by grind[sm]
structure Acc where
 s:Nat
 e:Nat
 n:Nat
 b0:Bk
def Acc.v(a:Acc)(L:Nat)(cells:LdQ):V:=match L with
 |0=>.d nPQ
 |_=>.ref a.s (a.e+1) 0 L L cells.length
def Acc.b(a:Acc)(L:Nat)(cells:LdQ):Nat×Bk:=match L with
 |0=>(a.e,a.b0)
 |_=>(a.e+1,.data a.n cells false false)
theorem j6(a:Acc){L by_ k:Nat}{cells cs:LdQ}{h:Hp}{y:V}{q:kkQ}{u:PU q}(hk:0<k)(hs:h[a.s]?=some (a.b L cells))(hc:cells.length=L*a.n)(hcs:cs.length=k*a.n)
  (hy:cellsOf h y=some (k,cs)) (hyn:∀t,y≠.d (.str t)) (hb:(L+k)*by_<=140737488355328) (hn:0<a.n) (hq:q (a.v (L+k) (cells++cs)) (h.set a.s (a.b (L+k) (cells++cs)))):rh (apV false a.s a.n by_ (a.v L cells) y h) q u:=by
 have e1:apV false a.s a.n by_ (a.v L cells) y h q=apC false a.s a.n by_ (a.v L cells) k cs h q:=by
  unfold apV;split
  .trivial
  .grind
 show apV false a.s a.n by_ (a.v L cells) y h q
 rw[e1];have hlt:=(List.getElem?_eq_some_iff.1 hs).1;obtain⟨m,hm⟩:∃m,L+k=m+1:=⟨L+k-1,aa⟩;cases L with
 | zero=>
  have:cells=[]:=Zo aa;subst this;simp only[Zk,List.nil_append]at *;simp only[Acc.v];unfold apC;rw[if_neg aa];simp only[];rw[if_pos aa]
  simp_all[new,Acc.b,Acc.v]
 | succ L=>
  simp only[Acc.v];unfold apC;rw[if_neg aa];have hg:ax h a.s (a.e+1)=.data a.n cells false false:=by simp only[ax,hs,Acc.b,if_true]
  simp only[hg,true_and,Zk];rw[if_pos ⟨Z8 _,aa,hcs⟩,if_neg aa,if_pos hb];simp only[Zh,if_false,Bool.or_self];have hpos:0<cs.length:=by rw[hcs];exact X0 hk hn
  rw[if_pos ⟨aa,aa⟩];rw[hm]at hq ⊢;simp only[Acc.v,Acc.b,List.length_append,bK,hc]at hq ⊢;simp only[Yu];rw[Z3 aa];exact hq
theorem k9(a:Acc){h:Hp}(hs:h[a.s]?=some (a.b L cells))(hc:cells.length=L*a.n):
  ∃h',bH h (a.v L cells)=some (.d (.sl L cells),h')∧((L=0∧h'=h)∨(0<L∧h'=h.set a.s (a.e+1,.data a.n cells false true))):=by
 cases L with
 | zero=>
  simp_all[Acc.v]
 | succ L=>
  have hg:ax h a.s (a.e+1)=.data a.n cells false false:=by simp only[ax,hs,Acc.b,if_true]
  refine⟨_,?_,.inr ⟨Nat.succ_pos _,rfl⟩⟩;simp only[Acc.v,bH,toD,hg,true_and,Zk];rw[if_pos ⟨Z8 _,aa⟩];simp only[Yu,bK];rw[Z3 aa]
theorem abG(a:Acc){h:Hp}(hs:h[a.s]?=some (a.b L cells))(hc:cells.length=L*a.n):out (.d (.sl L cells)) (a.v L cells) h:=by obtain⟨h',h1,_⟩:=k9 a hs hc;exact⟨h',h1⟩
theorem gH{b b':Bool}{h:Hp}(e:b'=b):out (B b) (.d (.bool b')) h:=by simp_all
theorem ct{b:Int}{h:Hp}(e:b=a):out (.d (.int k a)) (.d (.int k b)) h:=by simp_all
theorem cd{h:Hp}{f:FuncId}{v:V}{k:kkQ}{u:PU k}(hc:C f args v)(hk:k v h)(hs:aH h args=some (args,h):=by simp[aH,bH]):rh (cal C h (.fn f [] []) args) k u:=afU hc hs hk
theorem cds{h:Hp}{f:FuncId}{v:V}{k:kkQ}{u:PU k}(hc:C f args v)(hk:k v h)(hp:oM args=true:=by rfl):rh (soC C h (.fn f [] []) args) k u:=by
 show soC C h (.fn f [] []) args k
 unfold soC;rw[hp];exact⟨v,hc,hk⟩
theorem lo{st:aM}{l:LwQ}{h:Hp}{k:KL}{u:PU k}(hl:lp st clr h0 l h k):rl (lp st clr h0 l h) k u:=hl
def di(n:Int):D:=.int .i64 n
def row(l:LiQ):D:=.sl l.length (l.map di)
abbrev mat(m:LLQ):V:=lst row m
@[simp]theorem ahY(n:Int):V.d (di n)=I n:=id rfl
@[simp]theorem agj(n:Int):norm (di n)=di n:=rfl
@[simp]theorem afh(l:LiQ):norm (row l)=row l:=rfl
@[simp]theorem VC(l:LiQ)(h:Hp)(hl:j<l.length):ld1 h (.dptr (l.map di) j)=some (.d (di (nth 0 l j))):=oz di 0 l h hl
@[simp]theorem afq(l:LiQ):aX (.d (row l))=some (I l.length):=rfl
def idx{α:Type}(p:α->Bool)(l:List α):Int:=match l.findIdx? p with
 |some i=>i
 |none=>-1
theorem cdf{h:Hp}{f:FuncId}{fs cs:LwQ}{v:V}{k:kkQ}{u:PU k}(hc:C f (fs++args++cs) v)(hs:aH h (fs++args++cs)=some (fs++args++cs,h))(hk:k v h):rh (cal C h (.fn f fs cs) args) k u:=by simp only[rh,cal,hs];exact⟨v,hc,by simpa using hk⟩
variable{α:Type}{f:α->D}{g:FuncId}{fs cs:LwQ}{p:α->Bool}
theorem Ma(hs:∀x,aH [] (fs++[.d (f x)]++cs)=some (fs++[.d (f x)]++cs,[]))(k:KL):∀(q a:List α),(a++q).length<4611686018427387904->(∀x∈q,CP Y g (fs++[.d (f x)]++cs) (B (p x))) ->
  (idx p q = -1->k (.exit 0) [] [])->(∀i:Nat,idx p q=i->k .ret [I (a.length+i:Nat)] []) ->
  lp (dP (CX Y) (lst f (a++q)) (.fn g fs cs) (I (a++q).length)) [] [] [I a.length] [] k
 | [],a,hN,_,h0,_=>by
  refine aj ?_;simp[dP];exact h0 rfl
 | x::q,a,hN,hp,h0,h1=>by
  simp at hN;refine aj ?_;simp(disch:=try exact ae)[dP];refine cdf (hp x ac) (hs x) ?_;simp;refine XP (λh=>?_) (λh=>?_)<;>try simp(disch:=try exact ae)[h]
  .have e:idx p (x::q)=(0:Nat):=by simp[idx,List.findIdx?_cons,h]
   simpa using h1 0 e
  .have hl:=hs;have:=Ma hs k q (a++[x]) aN (λy hy=>hp y (by simp[hy])) (λe=>h0 ?_) (λi e=>?_)
   .simpa[Int.add_assoc]using this
   .simp only[idx,List.findIdx?_cons,h,Zh,if_false]at e ⊢;cases hq:List.findIdx? p q<;>simp[hq]at e ⊢
   .have:=h1 (i+1) ?_
    .simpa[Xt,Nat.add_comm 1 i]using this
    .simp only[idx,List.findIdx?_cons,h,Zh,if_false]at e ⊢;cases hq:List.findIdx? p q<;>simp[hq]at e ⊢
     exact e
theorem DC(l:List α)(hN:l.length<4611686018427387904)(hs:∀x,aH [] (fs++[.d (f x)]++cs)=some (fs++[.d (f x)]++cs,[]))(hp:∀x∈l,CP Y g (fs++[.d (f x)]++cs) (B (p x))):
  bb (CX Y) (lst f l) (.fn g fs cs) (out (I (idx p l))):=by
 simp[bb];refine lo (Ma hs _ l [] (by simpa using hN) hp (λe=>?_) (λi e=>?_))
 .simp[e]
 .simp[e]
theorem zW{α:Type}(p:α->Bool)(l:List α):0<=idx p l↔l.any p=true:=by
 unfold idx;cases h:l.findIdx? p with
 |none=>simp[List.findIdx?_eq_none_iff]at h ⊢;exact h
 | some i=>
  simp[List.findIdx?_eq_some_iff_getElem]at h ⊢;obtain⟨hi,h1,_⟩:=h;exact⟨l[i],Xs hi,h1⟩
@[simp]theorem af7(h:Hp)(g:FuncId):bH h (.fn g [] [])=some (.fn g [] [],h):=by simp[bH,aH]
theorem Cq{g:FuncId}{p:Int->Bool}(l:LiQ)(hN:l.length<4611686018427387904)(hp:∀x∈l,CP Y g [I x] (B (p x))):CP Y F.bb [lst di l,.fn g [] []] (I (idx p l)):=
 pU (DC l hN (λx=>by simp[aH]) hp)
theorem wU{g:FuncId}{p:Int->Bool}(l:LiQ)(hN:l.length<4611686018427387904)(hp:∀x∈l,CP Y g [I x] (B (p x))):CP Y F.bh [lst di l,.fn g [] []] (B (l.any p)):=by
 refine pm ?_;simp[bh];refine cd (Cq l hN hp) ?_;simp;have:=zW p l;have e:decide (0<=idx p l)=l.any p:=by rw[Yn];simpa using this
 rw[e];exact Li ..
def Cl(n:Int):Bool:=decide (-1000000000<=n∧n<=1000000000)
theorem Dk{α:Type}{d:α}{l:List α}{i:Nat}(h:i<l.length):nth d l i∈l:=by grind[ft]
def piv(r:LiQ):Int:=idx (λn=>n !=0) r
theorem ac9(r:LiQ): -1<=piv r∧piv r<r.length:=by
 unfold piv idx;cases h:r.findIdx? (λn=>n !=0)with
 |none=>simp;omega
 |some i=>have:=(List.findIdx?_eq_some_iff_getElem.1 h).1;simp;omega
def Z:Nat:=1000000000
theorem aA:2<=Z:=af
theorem bE:0<Z:=af
def bL:Nat->Nat->LnQ
 |0,_=>[]
 |w+1,n=>n%Z::bL w (n/Z)
theorem fe:∀w n,(bL w n).length=w
 |0,_=>rfl
 |w+1,n=>by simp[bL,fe w]
theorem uZ:∀w n,aI Z (bL w n)
 |0,_=>λx hx=>by simp[bL]at hx
 | w+1,n=>λx hx=>by
  simp only[bL,Zu]at hx;rcases hx with rfl|hx
  .exact Y3 _ bE
  .exact uZ w _ x hx
theorem wP:∀w n,n<Z^w->val Z (bL w n)=n
 |0,n,h=>by simp at h;subst h;rfl
 | w+1,n,h=>by
  have hZ:Z=1000000000:=rfl;simp only[bL,val];rw[wP w (n/Z) (W5 (by rw[Nat.pow_succ,Zq]at h;exact h))];have:=Xw n Z;omega
theorem DG:∀l:LnQ,aI Z l->l=bL l.length (val Z l)
 |[],_=>rfl
 | x::l,h=>by
  have hx:x<Z:=h x ac;have hl:=DG l (λy hy=>h y (by simp[hy]));have hZ:Z=1000000000:=rfl;simp only[List.length_cons,bL,val];have e1:(x+Z*val Z l)%Z=x:=by rw[Xo];exact Yd hx
  have e2:(x+Z*val Z l)/Z=val Z l:=by rw[Yg _ _ bE,Xk hx,Zk]
  rw[e1,e2,<-hl]
abbrev S(s:LuQ):V:=.d (.str s)
@[simp]theorem Jr(s:LuQ):nH (S s)=some (I s.length):=id rfl
@[simp] theorem ag1 (s:LuQ)(h0:0<=i)(h1:i<=s.length):slS (S s) (some (I i)) none=some (S (s.drop i.toNat)):=by simp only[slS,boV];rw[if_pos ⟨h0,aa⟩];simp only;rw[Z3 ac]
@[simp]theorem agC(a b:LuQ):biS .eql (S a) (S b)=some (.d (.bool (a == b))):=id rfl
@[simp]theorem agB(a b:LuQ):biS .neq (S a) (S b)=some (.d (.bool (!(a == b)))):=id rfl
@[simp]theorem abk(a b:LuQ)(h:a.length+b.length<=9223372036854775807):biS .add (S a) (S b)=some (S (a++b)):=by simp[biS,Ng,h]
theorem VP(s:LuQ){x:UInt8}(h0:0<=i)(h:s[i.toNat]?=some x):ixS (S s) (.d (.int k i))=some (.d (.int .u8 x.toNat)):=by simp only[ixS];rw[if_pos h0,h]
theorem fY{a b:LuQ}{h:Hp}(e:b=a):out (S a) (S b) h:=by subst e;exact UQ rfl
theorem XR(b:Bool):CP Y F.fW [B b] (I (if b=true then 1 else 0)):=by refine vK ?_;cases b<;>simp[fW]
theorem Vk{x:Nat}(h:x<=64):CP Y F.fV [I x] (I ((x*78913/262144:Nat):Int)):=by refine vJ ?_;simp(disch:=try exact ae)[fV]
def cT(n:Nat):Nat:=if n=0 then 0 else n.log2+1
theorem yy{n k:Nat}(h:2^k<=n):cT n=cT (n/2^k)+k:=by
 have hp:0<2^k:=Xn af;have h0:n≠0:=aa;have h1:n/2^k≠0:=by have:=Nat.div_pos h hp;omega
 simp only[cT,h0,h1,if_false]
 have e:n.log2=(n/2^k).log2+k:=by
  rw[Nat.log2_eq_iff h0];have h2:=(Nat.log2_eq_iff h1).1 rfl;constructor
  .rw[X8];exact Zy (Zs _ h2.1) (Wy n _)
  .have:n/2^k+1<=2^((n/2^k).log2+1):=h2.2
   have h3:n<(n/2^k+1)*2^k:=by
    have:=Nat.lt_mul_div_succ n hp;rw[Zq];exact this
   have h4:=Zs (2^k) this;rw[<-X8]at h4;rw[show(n/2^k).log2+k+1=(n/2^k).log2+1+k by omega];omega
 omega
def ab4:LuQ:=[0,1,2,2,3,3,3,3,4,4,4,4,4,4,4,4,5,5,5,5,5,5,5,5,5,5,5,5,5,5,5,5,6,6,6,6,6,6,6,6,6,6,6,6,6,6,6,6,6,6,6,6,6,6,6,6,6,6,6,6,6,6,6,6]++(List.replicate 64 7++List.replicate 128 8)
theorem len8:∀x:Fin 256,ab4[x.val]?=some (UInt8.ofNat (cT x.val)):=aR
theorem RL{x:Nat}{a:Nat}{n:Nat}(hx:x<256)(hn:cT n=cT x+a)(ha:a<=56){h:Hp}:
  (bnd (cvI .u8 (.d (.int .u64 x))) λv10=>bnd (ixS (S ab4) v10) λv11=>
   bnd (cvI .i64 v11) λv12=>bnd (biI .add (I a) v12) λv13=>out (I (cT n)) v13 h):=by
 have hb:cT x<=8:=by
  unfold cT;split
  .omega
  .rename_i h0;have:=(Nat.log2_lt h0 (k:=8)).2 aa;omega
 have h8:=len8 ⟨x,hx⟩;simp(disch:=try exact ae);rw[VP _ aa (x:=UInt8.ofNat (cT x)) (by simpa using h8)];have e:(UInt8.ofNat (cT x)).toNat=cT x:=by simp;omega
 simp(disch:=try exact ae)[e];exact ct aa
set_option maxRecDepth 20000 in
theorem LY{n:Nat}(h:n<18446744073709551616):CP Y F.iE [.d (.int .u64 n)] (I (cT n)):=by
 refine zJ ?_
 obtain ⟨x1,a1,hx1,he1,ha1,h1⟩:∃x1 a1:Nat,x1<4294967296∧cT n=cT x1+a1∧a1<=32∧((4294967296<=n∧x1=n/4294967296∧a1=32)∨(n<4294967296∧x1=n∧a1=0)):=by
  by_cases hh:4294967296<=n
  .exact⟨n/4294967296,32,aa,yy (k:=32) hh,aa,.inl ⟨hh,rfl,rfl⟩⟩
  .exact⟨n,0,aa,rfl,aa,.inr ⟨aa,rfl,rfl⟩⟩
 obtain ⟨x2,a2,hx2,he2,ha2,h2⟩:∃x2 a2:Nat,x2<65536∧cT n=cT x2+a2∧a2<=48∧((65536<=x1∧x2=x1/65536∧a2=a1+16)∨(x1<65536∧x2=x1∧a2=a1)):=by
  by_cases hh:65536<=x1
  .exact⟨x1/65536,a1+16,aa,by(have:=yy (n:=x1) (k:=16) hh;simp only[Nat.reducePow]at this;omega),aa,.inl ⟨hh,rfl,rfl⟩⟩
  .exact⟨x1,a1,aa,he1,aa,.inr ⟨aa,rfl,rfl⟩⟩
 obtain ⟨x3,a3,hx3,he3,ha3,h3⟩:∃x3 a3:Nat,x3<256∧cT n=cT x3+a3∧a3<=56∧((256<=x2∧x3=x2/256∧a3=a2+8)∨(x2<256∧x3=x2∧a3=a2)):=by
  by_cases hh:256<=x2
  .exact⟨x2/256,a2+8,aa,by(have:=yy (n:=x2) (k:=8) hh;simp only[Nat.reducePow]at this;omega),aa,.inl ⟨hh,rfl,rfl⟩⟩
  .exact⟨x2,a2,aa,he2,aa,.inr ⟨aa,rfl,rfl⟩⟩
 simp[iE];have key:=RL (h:=[]) hx3 he3 ha3;refine gI (l:=[.d (.int .u64 x1),I a1]) (h:=[]) (λq=>?_) ?_
 .rcases h1 with⟨g,rfl,rfl⟩|⟨g,rfl,rfl⟩<;>simp(disch:=try exact ae)[g]
 simp;refine gI (l:=[.d (.int .u64 x2),I a2]) (h:=[]) (λq=>?_) ?_
 .rcases h2 with⟨g,rfl,rfl⟩|⟨g,rfl,rfl⟩<;>simp(disch:=try exact ae)[g]
 simp;refine gI (l:=[.d (.int .u64 x3),I a3]) (h:=[]) (λq=>?_) ?_
 .rcases h3 with⟨g,rfl,rfl⟩|⟨g,rfl,rfl⟩<;>simp(disch:=try exact ae)[g]
 exact key
theorem ZY:Ld=(List.range 20).map λi=>D.int .u64 ((10^i:Nat):Int):=by simp only[Ld,List.range,List.range.loop,List.map];rfl
theorem ac7{i:Nat}(h:i<20):Ld[i]?=some (.int .u64 ((10^i:Nat):Int)):=by rw[ZY,List.getElem?_map,List.getElem?_range h];rfl
theorem adF:gl oG=.dptr Ld 0:=by unfold gl;rfl
theorem adj:∀b:Fin 65,1<=b.val->(10^(b.val*78913/262144)<=2^b.val∧2^b.val<=10^(b.val*78913/262144+1)∧(b.val*78913/262144=0∨10^(b.val*78913/262144-1)<2^(b.val-1))∧b.val*78913/262144<20):=aR
theorem uM{n:Nat}(h:0<n):2^(cT n-1)<=n∧n<2^cT n∧1<=cT n:=by have h0:n≠0:=aa;have:=(Nat.log2_eq_iff h0).1 rfl;simp only[cT,h0,if_false];exact⟨this.1,this.2,aa⟩
theorem zF{n d:Nat}(h1:10^(d-1)<=n)(h2:n<10^d)(hd:1<=d)(h:n<18446744073709551616):CP Y F.dD [.d (.int .u64 n)] (I d):=by
 have h0:0<n:=Z0 (Xn af) h1;obtain⟨b1,b2,b3⟩:=uM h0
 have hb:cT n<=64:=by
  unfold cT;split
  .omega
  .rename_i hz;have:=(Nat.log2_lt hz (k:=64)).2 (by simpa using h);omega
 obtain⟨t1,t2,t3,t4⟩:=adj ⟨cT n,aa⟩ b3;simp only at t1 t2 t3 t4;refine vI ?_;simp[dD];refine cd (LY h) ?_;simp;refine cd (Vk hb) ?_;generalize hk:cT n*78913/262144=k at *;have hg:gl oG=.dptr Ld 0:=adF;simp(disch:=try exact ae)[hg];rw[afz _ _ _ (ac7 t4)]
 have hpk:10^(k+1)=10*10^k:=by rw[Nat.pow_succ,Zq]
 have hpd:10^d=10*10^(d-1):=by
  obtain⟨e,rfl⟩:∃e,d=e+1:=⟨d-1,aa⟩;rw[Nat.pow_succ,Zq];rfl
 have a1:10^k<=n->d=k+1:=λhc=>by
  have a1:k<d:=(Yt (a:=10) af).1 aa;have a2:d-1<k+1:=(Yt (a:=10) af).1 aa;omega
 have a2:¬10^k<=n->d=k:=λhc=>by
  have hk1:1<=k:=by
   rcases Zf k with e|e
   .subst e;simp at hc;omega
   .exact e
  have a1:d-1<k:=(Yt (a:=10) af).1 aa
  have a2:k-1<d:=by
   rcases t3 with e|e
   .omega
   .exact(Yt (a:=10) af).1 aa
  omega
 generalize 10^k=P at *;simp;refine cd (XR (decide (P<=n))) ?_;by_cases hc:P<=n
 .have:=a1 hc;simp(disch:=try exact ae)[hc];exact ct aa
 .have:=a2 hc;simp(disch:=try exact ae)[hc];exact ct aa
def dg(n:Nat):UInt8:=UInt8.ofNat (48+n)
def dN:Nat->Nat->LuQ
 |_,0=>[]
 |n,w+1=>dN (n/10) w++[dg (n%10)]
theorem bf:∀(w n:Nat),(dN n w).length=w
 |0,_=>rfl
 |w+1,n=>by simp[dN,bf w]
def u8(b:UInt8):D:=.int .u8 b.toNat
def rb:LuQ:=[48,48,48,49,48,50,48,51,48,52,48,53,48,54,48,55,48,56,48,57,49,48,49,49,49,50,49,51,49,52,49,53,49,54,49,55,49,56,49,57,50,48,50,49,50,50,50,51,50,52,50,53,50,54,50,55,50,56,50,57,51,48,51,49,51,50,51,51,51,52,51,53,51,54,51,55,51,56,51,57,52,48,52,49,52,50,52,51,52,52,52,53,52,54,52,55,52,56,52,57,53,48,53,49,53,50,53,51,53,52,53,53,53,54,53,55,53,56,53,57,54,48,54,49,54,50,54,51,54,52,54,53,54,54,54,55,54,56,54,57,55,48,55,49,55,50,55,51,55,52,55,53,55,54,55,55,55,56,55,57,56,48,56,49,56,50,56,51,56,52,56,53,56,54,56,55,56,56,56,57,57,48,57,49,57,50,57,51,57,52,57,53,57,54,57,55,57,56,57,57]
theorem IF:([48,48,48,49,48,50,48,51,48,52,48,53,48,54,48,55,48,56,48,57,49,48,49,49,49,50,49,51,49,52,49,53,49,54,49,55,49,56,49,57,50,48,50,49,50,50,50,51,50,52,50,53,50,54,50,55,50,56,50,57,51,48,51,49,51,50,51,51,51,52,51,53,51,54,51,55,51,56,51,57,52,48,52,49,52,50,52,51,52,52,52,53,52,54,52,55,52,56,52,57,53,48,53,49,53,50,53,51,53,52,53,53,53,54,53,55,53,56,53,57,54,48,54,49,54,50,54,51,54,52,54,53,54,54,54,55,54,56,54,57,55,48,55,49,55,50,55,51,55,52,55,53,55,54,55,55,55,56,55,57,56,48,56,49,56,50,56,51,56,52,56,53,56,54,56,55,56,56,56,57,57,48,57,49,57,50,57,51,57,52,57,53,57,54,57,55,57,56,57,57]:LuQ)=rb:=rfl
theorem QZ:∀x:Fin 200,rb[x.val]?=some (dg (if x.val%2=0 then x.val/2/10 else x.val/2%10)):=aR
def smV(i:Int):D:=u8 (dg (if i%2=0 then i.toNat/2/10 else i.toNat/2%10))
@[simp] theorem aeq (k:IntKind)(i:Int)(K:V->Prop)(u:PU K)(h0:0<=i)(h1:i<200):rn (bnd (ixS (.d (.str rb)) (.d (.int k i)))) K u=K (.d (smV i)):=by
 have h:=VP rb (k:=k) h0 (QZ ⟨i.toNat,aa⟩);unfold rn;rw[show V.d (.str rb)=S rb from rfl,h]
 have e:(if i.toNat%2=0 then i.toNat/2/10 else i.toNat/2%10)=(if i%2=0 then i.toNat/2/10 else i.toNat/2%10):=by
  by_cases hc:i%2=0
  .rw[if_pos hc,if_pos aa]
  .rw[if_neg hc,if_neg aa]
 simp_all[smV,u8]
theorem acV{x:Nat}:smV (2*(x:Int))=u8 (dg (x/10)):=by grind[smV]
theorem acT{x:Nat}:smV (2*(x:Int)+1)=u8 (dg (x%10)):=by grind[smV]
theorem FT(n w:Nat):dN n (w+2)=dN (n/100) w++[dg (n%100/10),dg (n%100%10)]:=by
 simp only[dN,List.append_assoc,List.singleton_append];rw[Xu];have e1:n/10%10=n%100/10:=aa;have e2:n%10=n%100%10:=aa
 grind
theorem afu{α:Type}:∀(l:List α),l.length=8->∃c0 c1 c2 c3 c4 c5 c6 c7,l=[c0,c1,c2,c3,c4,c5,c6,c7]
 |[c0,c1,c2,c3,c4,c5,c6,c7],_=>⟨c0,c1,c2,c3,c4,c5,c6,c7,rfl⟩
 |[],h|[_],h|[_,_],h|[_,_,_],h|[_,_,_,_],h|[_,_,_,_,_],h|[_,_,_,_,_,_],h|[_,_,_,_,_,_,_],h=>by simp at h
 |_::_::_::_::_::_::_::_::_::_,h=>by simp at h
@[simp]theorem afr(s e off len cap tot:Nat):aX (.ref s e off len cap tot)=some (I len):=rfl
theorem ag3(B:LdQ)(c0 c1 c2 c3 c4 c5 c6 c7 x0 x1 x2 x3 x4 x5 x6 x7:D){i1 i2 i3 i4 i5 i6 i7:Nat}
  (h1:i1=1) (h2:i2=2) (h3:i3=3) (h4:i4=4) (h5:i5=5) (h6:i6=6) (h7:i7=7) :
  ((((((((c0::c1::c2::c3::c4::c5::c6::c7::B).set i7 x7).set i6 x6).set i5 x5).set i4 x4).set i3 x3).set i2 x2).set i1 x1).set 0 x0=x0::x1::x2::x3::x4::x5::x6::x7::B:=by simp_all
theorem ag4(B:LdQ)(c0 c1 c2 c3 x0 x1 x2 x3:D){i2 i3:Nat}(h1:i1=1)(h2:i2=2)(h3:i3=3):
  ((((c0::c1::c2::c3::B).set i3 x3).set i2 x2).set i1 x1).set 0 x0=x0::x1::x2::x3::B:=by grind
theorem set2(B:LdQ)(c0 c1 x0 x1:D)(h1:i1=1):((c0::c1::B).set i1 x1).set 0 x0=x0::x1::B:=by grind
@[simp]theorem afg(i:Int):norm (smV i)=smV i:=rfl
theorem uE{x:Nat}(h:i=2*(x:Int)+1):smV i=u8 (dg (x%10)):=by rw[h,acT]
theorem uF{x:Nat}(h:i=2*(x:Int)):smV i=u8 (dg (x/10)):=by rw[h,acV]
theorem afP(n w:Nat):dN n (w+8)=dN (n/100000000) w++[dg (n/1000000%100/10),dg (n/1000000%100%10),dg (n/10000%100/10),dg (n/10000%100%10),dg (n/100%100/10),dg (n/100%100%10),dg (n%100/10),dg (n%100%10)]:=by simp[FT,Xu]
theorem aaR(h0:Hp)(hh:h0.length=2)(k:KL)(off len cap tot:Nat)(pre post:LdQ)(hpre:pre.length=off):∀(r nd n:Nat)(mid done:LdQ),nd<=r->mid.length=nd->nd+done.length=len->len<=24->tot=off+len+post.length ->
  n<10^nd->n<18446744073709551616 ->
  (∀(n' nd':Nat)(mid' done':LdQ),nd'<8->mid'.length=nd'->nd'+done'.length=len->n'<10^nd'->(dN n' nd').map u8++done'=(dN n nd).map u8++done->k (.exit 0) [.d (.int .u64 n'),I nd'] [(1,.data 1 (pre++(mid'++(done'++post))) true false),nnQ]) ->
  lp (eF (CX Y) 2 (.ref 0 1 off len cap tot)) [] h0 [.d (.int .u64 n),I nd] [(1,.data 1 (pre++(mid++(done++post))) true false),nnQ] k:=by
 intro r
 induction r with
 | zero=> 
  intro nd n mid done hr hm hd hl ht hn h64 hk;refine aj ?_;simp(disch:=try exact ae)[eF];exact hk n nd mid done aa hm hd hn rfl
 | succ r ih=>
  intro nd n mid done hr hm hd hl ht hn h64 hk;refine aj ?_;by_cases h8:8<=nd
  ·obtain ⟨m',c0,c1,c2,c3,c4,c5,c6,c7,rfl⟩:∃(m':LdQ)(c0 c1 c2 c3 c4 c5 c6 c7:D),mid=m'++[c0,c1,c2,c3,c4,c5,c6,c7]:=by
    obtain⟨c0,c1,c2,c3,c4,c5,c6,c7,e⟩:=afu (mid.drop (nd-8)) (by grind);exact⟨mid.take (nd-8),c0,c1,c2,c3,c4,c5,c6,c7,by rw[<-e,X4]⟩
   have e0:pre++(m'++[c0,c1,c2,c3,c4,c5,c6,c7]++(done++post))=(pre++m')++c0::c1::c2::c3::c4::c5::c6::c7::(done++post):=ac;rw[e0];simp only[List.length_append,List.length_cons,List.length_nil]at hm;have hA:(pre++m').length=off+nd-8:=by simp;omega
   have e9:∀x0 x1 x2 x3 x4 x5 x6 x7:D,(pre++m')++x0::x1::x2::x3::x4::x5::x6::x7::(done++post)=pre++(m'++((x0::x1::x2::x3::x4::x5::x6::x7::done)++post)):=by intros;simp
   generalize pre++m'=A at *;unfold eF;simp only[IF];simp(disch:=try exact ae)[Zx,Zt];rw[ag3 _ _ _ _ _ _ _ _ _ _ _ _ _ _ _ _ _ aa aa aa aa aa aa aa,e9]
   rw[uE (x:=n%100) (i:=(n:Int)%100*2+1) aa,uF (x:=n%100) (i:=(n:Int)%100*2) aa,uE (x:=n/100%100) (i:=(n:Int)%10000/100*2+1) aa,uF (x:=n/100%100) (i:=(n:Int)%10000/100*2) aa,uE (x:=n/10000%100) (i:=(n:Int)%100000000/10000%100*2+1) aa,uF (x:=n/10000%100) (i:=(n:Int)%100000000/10000%100*2) aa,uE (x:=n/1000000%100) (i:=(n:Int)%100000000/10000/100*2+1) aa,uF (x:=n/1000000%100) (i:=(n:Int)%100000000/10000/100*2) aa]
   obtain⟨w,rfl⟩:∃w,nd=w+8:=⟨nd-8,aa⟩;have hd8:=afP n w;rw[show((w+8:Nat):Int)-8=(w:Nat) by omega,show(n:Int)/100000000=((n/100000000:Nat):Int) by omega]
   refine ih w (n/100000000) m' (u8 (dg (n/1000000%100/10))::u8 (dg (n/1000000%100%10))::u8 (dg (n/10000%100/10))::u8 (dg (n/10000%100%10))::u8 (dg (n/100%100/10))::u8 (dg (n/100%100%10))::u8 (dg (n%100/10))::u8 (dg (n%100%10))::done) aa aa aN hl ht ?_ aa ?_
   .grind
   .intro n' nd' mid' done' g1 g2 g3 g4 g5;refine hk n' nd' mid' done' g1 g2 g3 g4 ?_;rw[g5,hd8];simp
  .simp(disch:=try exact ae)[eF];exact hk n nd mid done aa hm hd hn rfl
theorem OG{x:Nat}(h:x<10):u8 (dg x)=.int .u8 (48+x):=by unfold u8 dg;congr 1;simp;omega
theorem afv{α:Type}:∀(l:List α),l.length=4->∃c0 c1 c2 c3,l=[c0,c1,c2,c3]
 |[c0,c1,c2,c3],_=>⟨c0,c1,c2,c3,rfl⟩
 |[],h|[_],h|[_,_],h|[_,_,_],h=>by simp at h
 |_::_::_::_::_::_,h=>by grind
theorem afw{α:Type}:∀(l:List α),l.length=2->∃c0 c1,l=[c0,c1]
 |[c0,c1],_=>⟨c0,c1,rfl⟩
 |[],h|[_],h=>by simp at h
 |_::_::_::_,h=>by grind
theorem aaS(n nd:Nat)(mid B:LdQ)(h8:nd<8)(hm:mid.length=nd)(hn:n<10^nd):∃(n1 nd1:Nat)(mid1 B1:LdQ),nd1<4∧mid1.length=nd1∧n1<10^nd1∧nd1+B1.length=nd+B.length∧(dN n1 nd1).map u8++B1=(dN n nd).map u8++B ∧
  ((4<=nd∧n1=n/10000∧nd1=nd-4∧(∃c0 c1 c2 c3,mid=mid1++[c0,c1,c2,c3])∧B1=u8 (dg (n/100%100/10))::u8 (dg (n/100%100%10))::u8 (dg (n%100/10))::u8 (dg (n%100%10))::B)∨(¬4<=nd∧n1=n∧nd1=nd∧mid1=mid∧B1=B)):=by
 by_cases h4:4<=nd
 .obtain⟨w,rfl⟩:∃w,nd=w+4:=⟨nd-4,aa⟩;obtain⟨c0,c1,c2,c3,e⟩:=afv (mid.drop w) (by grind);refine⟨n/10000,w,mid.take w,_,aa,by grind,?_,?_,?_,.inl ⟨h4,rfl,aa,⟨c0,c1,c2,c3,by rw[<-e,X4]⟩,rfl⟩⟩
  .grind
  .grind
  simp[FT,Xu]
 .exact⟨n,nd,mid,B,aa,hm,hn,rfl,rfl,.inr ⟨h4,rfl,rfl,rfl,rfl⟩⟩
theorem adN(n nd:Nat)(mid B:LdQ)(h8:nd<4)(hm:mid.length=nd)(hn:n<10^nd):∃(n1 nd1:Nat)(mid1 B1:LdQ),nd1<2∧mid1.length=nd1∧n1<10^nd1∧nd1+B1.length=nd+B.length∧(dN n1 nd1).map u8++B1=(dN n nd).map u8++B ∧
  ((2<=nd∧n1=n/100∧nd1=nd-2∧(∃c0 c1,mid=mid1++[c0,c1])∧B1=u8 (dg (n%100/10))::u8 (dg (n%100%10))::B)∨(¬2<=nd∧n1=n∧nd1=nd∧mid1=mid∧B1=B)):=by
 by_cases h4:2<=nd
 .obtain⟨w,rfl⟩:∃w,nd=w+2:=⟨nd-2,aa⟩;obtain⟨c0,c1,e⟩:=afw (mid.drop w) (by grind);refine⟨n/100,w,mid.take w,_,aa,by grind,?_,?_,?_,.inl ⟨h4,rfl,aa,⟨c0,c1,by rw[<-e,X4]⟩,rfl⟩⟩
  .grind
  .grind
  simp[FT]
 .exact⟨n,nd,mid,B,aa,hm,hn,rfl,rfl,.inr ⟨h4,rfl,rfl,rfl,rfl⟩⟩
def fbH(pre mid B:LdQ):Hp:=[(1,.data 1 (pre++(mid++B)) true false),nnQ]
theorem ab9{off tot n d:Nat}{pre mid post:LdQ}(hpre:pre.length=off)(hm:mid.length=d)(hd:d<=24)(ht:tot=off+d+post.length)(hn:n<10^d)(h64:n<18446744073709551616):
  CI Y F.bQ [.ref 0 1 off d cap tot,.d (.int .u64 n)] [(1,.data 1 (pre++(mid++post)) true false),nnQ] (.tup []) [(1,.data 1 (pre++((dN n d).map u8++post)) true false),nnQ]:=by
 refine tC ?_;unfold bQ;simp only[IF];simp;refine lo (aaR _ rfl _ off d cap tot pre post hpre d d n mid [] aa hm ac hd ht hn h64 (λn' nd mid' done g1 g2 g3 g4 g5=>?_));have hp8:10^nd<=10^7:=Zz af aa;simp only[Nat.reducePow]at hp8;simp(disch:=try exact ae)
 obtain⟨n1,d1,mid1,B1,f1,f2,f3,f4,f5,f6⟩:=aaS n' nd mid' (done++post) g1 g2 g4;refine gI (l:=[.d (.int .u32 n1),I d1]) (h:=fbH pre mid1 B1) (λq=>?_) ?_
 .rcases f6 with⟨c,rfl,rfl,⟨c0,c1,c2,c3,rfl⟩,rfl⟩|⟨c,rfl,rfl,rfl,rfl⟩
  .have e0:pre++(mid1++[c0,c1,c2,c3]++(done++post))=(pre++mid1)++c0::c1::c2::c3::(done++post):=ac;rw[e0];simp only[List.length_append,List.length_cons,List.length_nil]at g2;have hA:(pre++mid1).length=off+nd-4:=by simp;omega
   have e9:∀x0 x1 x2 x3:D,(pre++mid1)++x0::x1::x2::x3::(done++post)=pre++(mid1++(x0::x1::x2::x3::(done++post))):=by intros;simp
   generalize pre++mid1=A at *;simp(disch:=try exact ae)[c,Zx,Zt];rw[ag4 _ _ _ _ _ _ _ _ _ aa aa aa,e9]
   rw[uE (x:=n'%100) (i:=(n':Int)%100*2+1) aa,uF (x:=n'%100) (i:=(n':Int)%100*2) aa,uE (x:=n'/100%100) (i:=(n':Int)%10000/100*2+1) aa,uF (x:=n'/100%100) (i:=(n':Int)%10000/100*2) aa];simp[fbH,I,show((nd-4:Nat):Int)=(nd:Int)-4 by omega]
  .simp(disch:=try exact ae)[c,fbH]
 have hp4:10^d1<=10^3:=Zz af aa;simp only[Nat.reducePow]at hp4;simp;obtain⟨n2,d2,mid2,B2,e1,e2,e3,e4,e5,e6⟩:=adN n1 d1 mid1 B1 f1 f2 f3;refine gI (l:=[.d (.int .u32 n2),I d2]) (h:=fbH pre mid2 B2) (λq=>?_) ?_
 .rcases e6 with⟨c,rfl,rfl,⟨c0,c1,rfl⟩,rfl⟩|⟨c,rfl,rfl,rfl,rfl⟩
  .have e0:pre++(mid2++[c0,c1]++B1)=(pre++mid2)++c0::c1::B1:=ac;rw[fbH,e0];simp only[List.length_append,List.length_cons,List.length_nil]at f2;have hA:(pre++mid2).length=off+d1-2:=by simp;omega
   have hB:tot=off+d1+B1.length:=by simp at f4;omega
   have e9:∀x0 x1:D,(pre++mid2)++x0::x1::B1=pre++(mid2++(x0::x1::B1)):=by intros;simp
   generalize pre++mid2=A at *;simp(disch:=try exact ae)[c,Zx,Zt];rw[set2 _ _ _ _ _ aa,e9];rw[uE (x:=n1%100) (i:=(n1:Int)%100*2+1) aa,uF (x:=n1%100) (i:=(n1:Int)%100*2) aa];simp[fbH,I,show((d1-2:Nat):Int)=(d1:Int)-2 by omega]
  .simp(disch:=try exact ae)[c,fbH]
 simp
 have hend:fbH pre ((dN n2 d2).map u8) B2=[(1,.data 1 (pre++((dN n d).map u8++post)) true false),nnQ]:=by
  simp only[fbH];rw[e5,f5,<-List.append_assoc ((dN n' nd).map u8),g5];simp
 refine gI (l:=[]) (h:=fbH pre ((dN n2 d2).map u8) B2) (λq=>?_) ?_
 .match d2,e1,mid2,e2 with
  |0,_,[],_=>simp[fbH,dN]
  | 1,_,[c0],_=>
   have hn2:n2<10:=by simpa using e3
   have hB:tot=off+1+B2.length:=by simp at f4;omega
   simp(disch:=try exact ae)[fbH,dN];rw[Yd hn2,OG hn2]
 rw[hend];simp[m7];exact⟨by trivial,.inl (by trivial)⟩
@[simp]theorem ahj(s n:Nat)(cs:LdQ)(h:Hp)(k:kkQ)(u:PU k):rh (alD s n cs h) k u=rn (bnh h[s]?) (λx=>k (.ptr s (x.1+1) 0 cs.length) (h.set s (x.1+1,.data n cs true false))) .mk:=by unfold rh rn alD;exact Dn ..
def ndg(n:Nat):Nat:=if n<10 then 1 else ndg (n/10)+1
theorem lN(n:Nat):1<=ndg n:=by unfold ndg;split<;>omega
theorem dj:∀n:Nat,n<10^ndg n:=by
 intro n
 induction n using Nat.strongRecOn with
 | _ n ih=>
  unfold ndg;split
  .simpa using ‹n<10›
  .have:=ih (n/10) aa;rw[Nat.pow_succ];omega
theorem Bn:∀n:Nat,0<n->10^(ndg n-1)<=n:=by
 intro n
 induction n using Nat.strongRecOn with
 | _ n ih=>
  intro h0;unfold ndg;split
  .simp;omega
  .have h1:=ih (n/10) aa aa;have h2:=lN (n/10);rw[show ndg (n/10)+1-1=(ndg (n/10)-1)+1 by omega,Nat.pow_succ];omega
theorem fM{n d:Nat}(h:n<10^d)(hd:1<=d):ndg n<=d:=by
 rcases Zf n with e|e
 .subst e;unfold ndg;rw[if_pos aa];exact hd
 .have h1:=Bn n e;have:ndg n-1<d:=(Yt (a:=10) af).1 aa;omega
def ah(n:Nat):LuQ:=dN n (ndg n)
def itoa(z:Int):LuQ:=if z<0 then 45::ah z.natAbs else ah z.natAbs
def WM:LuQ:=[48,49,50,51,52,53,54,55,56,57,97,98,99,100,101,102,103,104,105,106,107,108,109,110,111,112,113,114,115,116,117,118,119,120,121,122]
theorem afN:([48,49,50,51,52,53,54,55,56,57,97,98,99,100,101,102,103,104,105,106,107,108,109,110,111,112,113,114,115,116,117,118,119,120,121,122]:LuQ)=WM:=rfl
theorem Tu:∀x:Fin 10,(WM.drop x.val).take 1=ah x.val:=aR
theorem Tv:∀x:Fin 100,10<=x.val->(rb.drop (2*x.val)).take 2=ah x.val:=by intro x hx;have h1:=(show ∀x:Fin 100,(rb.drop (2*x.val)).take 2=dN x.val 2 by decide+kernel) x;rw[h1,ah];congr 1;unfold ndg;rw[if_neg aa];unfold ndg;rw[if_pos aa]
theorem Nk{s:LuQ}{l:IntKind}{j:Int}(a b:Nat)(hi:i=a)(hj:j=b)(h1:a<=b)(h2:b<=s.length):slS (.d (.str s)) (some (.d (.int k i))) (some (.d (.int l j)))=some (.d (.str ((s.drop a).take (b-a)))):=by subst hi hj;simp only[slS,boV];rw[if_pos aa];simp only[];rw[if_pos aa];simp
theorem KJ{n:Nat}(h:n<100):CP Y F.iF [I n] (S (ah n)):=by
 refine zX ?_;unfold iF;simp only[IF,afN];by_cases c:n<10
 .simp(disch:=try exact ae)[c];rw[Nk n (n+1) aa aa aa (by rw[show WM.length=36 from rfl];omega)];have:=Tu ⟨n,c⟩;simp only[]at this;simp[this];exact fY rfl
 .simp(disch:=try exact ae)[c];rw[Nk (2*n) (2*n+2) aa aa aa (by rw[show rb.length=200 from rfl];omega)];have:=Tv ⟨n,h⟩ (by simpa using c);simp only[]at this;simp[this];exact fY rfl
theorem B3:∀l:LuQ,bytesD (l.map u8)=some l
 |[]=>rfl
 | b::l=>by
  have hb:=b.toNat_lt;simp only[Zv,u8,bytesD];rw[if_pos aa];have:=B3 l;rw[this];simp
abbrev cH(cells:LdQ):Hp:=[(1,.data 1 cells true false),nnQ]
theorem TA(hc:cells.length=24){l:IntKind}{j:Int}(a b:Nat)(hi:i=a)(hj:j=b)(h1:a<=b)(h2:b<=24):
  slP 24 1 (cH cells) (.ptr 0 1 0 24) (some (.d (.int k i))) (some (.d (.int l j)))=some (.ref 0 1 a (b-a) (24-a) 24):=by simp only[slP,cH,ax];simp[wX hj h2,wX hi h1,hc]
theorem IJ(hc:cells.length=24){l:IntKind}{j:Int}(b:Nat)(hj:j=b)(h2:b<=24):
  slP 24 1 (cH cells) (.ptr 0 1 0 24) none (some (.d (.int l j)))=some (.ref 0 1 0 b 24 24):=by simp only[slP,cH,ax];simp[wX hj h2,F7,hc]
theorem Oh(hc:cells.length=24){i:Nat}{bs:LuQ}(hl:i+len<=24)(he:(cells.drop i).take len=bs.map u8)(hb:bs.length=len):cvT (cH cells) (.ref 0 1 i len cap 24)=some (S bs):=by simp only[cvT,cellsOf,cH,ax];simp[hc,hl,he,hb,B3]
theorem R6(h1 : -9223372036854775808<z)(h2:z<9223372036854775808):CP Y F.dE [I z,I 10] (S (itoa z)):=by
 refine vL ?_;have hd1:=lN z.natAbs;have hd2:ndg z.natAbs<=19:=fM aa aa;have hn:=dj z.natAbs;by_cases hs:0<=z∧z<100
 .obtain⟨hs1,hs2⟩:=hs;obtain⟨n,rfl⟩:∃n:Nat,z=n:=⟨z.toNat,aa⟩;simp[dE,hs1,hs2];refine cd (KJ (n:=n) aa) ?_;rw[show itoa (n:Int)=ah n by unfold itoa;rw[if_neg aa];rfl];exact fY rfl
 .have hcs:(0<=z∧¬z<100)∨¬0<=z:=aa;have hw:z<0->IntKind.wrap .u64 z=z+18446744073709551616:=λh=>by rw[G0];omega
  have hw2:z<0->IntKind.wrap .u64 (-(z+18446744073709551616)) = -z:=λh=>by rw[G0];omega
  have hn64:z.natAbs<18446744073709551616:=aa;have hn0:0<z.natAbs:=aa;have hab:(z.natAbs:Int)=if z<0 then -z else z:=by split<;>omega
  have hit:itoa z=if z<0 then 45::dN z.natAbs (ndg z.natAbs)else dN z.natAbs (ndg z.natAbs):=rfl
  have hlo:=Bn z.natAbs hn0;generalize ndg z.natAbs=d at *;generalize z.natAbs=n at *
  obtain ⟨mid,post,hm,hp,hcell⟩:∃mid post:LdQ,mid.length=d∧post.length=23-d∧List.replicate 24 (D.int .u8 0)=[D.int .u8 0]++(mid++post):=by
   refine⟨List.replicate d (.int .u8 0),List.replicate (23-d) (.int .u8 0),ac,ac,?_⟩;rw[List.replicate_append_replicate,show d+(23-d)=23 by omega];rfl
  have hmain:cal (CX Y).p (cH ([D.int .u8 0]++(mid++post))) (.fn F.dD [] []) [.d (.int .u64 n)] λv12 h=>
    bnd (biI .add (.d (.int .i64 1)) v12) λv13=>
    bnd (slP 24 1 h (.ptr 0 1 0 24) (some (.d (.int .i64 1))) (some v13)) λv14=>
    cai (CX Y).i h (.fn F.bQ [] []) [v14,.d (.int .u64 n)] 1 λv15 h=>
    bnd (biI .lss (I z) (.d (.int .i64 0))) λv16=>
    cnd v16 (
     bnd (ixP 24 1 (.ptr 0 1 0 24) (.d (.int .i64 0))) λv17=>
     stD h 1 v17 (.d (.int .u8 45)) λ_ h=>
     bnd (biI .add (.d (.int .i64 1)) v12) λv19=>
     bnd (slP 24 1 h (.ptr 0 1 0 24) none (some v19)) λv20=>
     bnd (cvT h v20) λv21=>
     out (S (itoa z)) v21 h) (
     bnd (biI .add (.d (.int .i64 1)) v12) λv22=>
     bnd (slP 24 1 h (.ptr 0 1 0 24) (some (.d (.int .i64 1))) (some v22)) λv23=>
     bnd (cvT h v23) λv24=>
     out (S (itoa z)) v24 h):=by
   refine cd (u:=.mk) (zF hlo hn hd1 hn64) ?_;simp(disch:=try exact ae);rw[TA aN 1 (d+1) aa aa aa aa];simp;refine fT (h':=cH ([D.int .u8 0]++((dN n d).map u8++post))) (ab9 (pre:=[D.int .u8 0]) rfl hm aa aa hn hn64) ?_ ac;by_cases g:z<0
   .rw[if_pos g]at hit;simp[g,bf,hp];rw[QW _ _ _ _ _ _ _ _ _ (by simp[bf];omega) ac];simp(disch:=try exact ae)[bK];rw[IJ (by simp[bf];omega) (d+1) aa aa];simp;rw[Oh (bs:=45::dN n d) (by simp[bf];omega) aa (by simp[u8,bf,List.take_append,Z3]) (by simp[bf])]
    rw[hit];simp;exact fY rfl
   .rw[if_neg g]at hit;simp(disch:=try exact ae)[g];rw[TA (by simp[bf];omega) 1 (d+1) aa aa aa aa];simp;rw[Oh (bs:=dN n d) (by simp[bf];omega) aa (by simp[bf,List.take_append,Z3]) (by simp[bf])];rw[hit];simp;exact fY rfl
  rcases hcs with⟨g1,g2⟩|g1
  .have g3:¬z<0:=aa;rw[if_neg g3]at hab;simp[dE,g1,g2];refine gI (l:=[.d (.int .u64 n)]) (h:=cH ([D.int .u8 0]++(mid++post))) (λq=>?_) hmain;rw[<-hcell];simp(disch:=try exact ae)[g3,hab]
  .have g3:z<0:=aa;rw[if_pos g3]at hab;simp[dE,g1];refine gI (l:=[.d (.int .u64 n)]) (h:=cH ([D.int .u8 0]++(mid++post))) (λq=>?_) hmain;rw[<-hcell];simp[g3,hab,hw g3,hw2 g3]
theorem adA(h1 : -9223372036854775808<z)(h2:z<9223372036854775808):CP Y F.kS [I z] (S (itoa z)):=by refine BB ?_;simp[kS];refine cd (R6 h1 h2) ?_;exact fY rfl
theorem Dy(h1 : -9223372036854775808<z)(h2:z<9223372036854775808):CP Y F.strconv_Itoa [I z] (S (itoa z)):=by refine Ej ?_;simp[strconv_Itoa];refine cd (adA h1 h2) ?_;exact fY rfl
def qf(b:UInt8):Bool:=decide (48<=b.toNat)&&decide (b.toNat<=57)
theorem mb{b:UInt8}:qf b=true↔48<=b.toNat∧b.toNat<=57:=by simp[qf]
def fG(a:Nat)(s:LuQ):Nat:=s.foldl (λa b=>a*10+(b.toNat-48)) a
@[simp]theorem HX(a:Nat):fG a []=a:=by unfold fG;rw[List.foldl_nil]
@[simp]theorem ko(a:Nat)(b:UInt8)(s:LuQ):fG a (b::s)=fG (a*10+(b.toNat-48)) s:=by unfold fG;rw[List.foldl_cons]
theorem JK(x:Nat):(dg x).toNat=(48+x)%256:=by simp[dg]
theorem afO{b:UInt8}(h:qf b=true):dg (b.toNat-48)=b:=by rw[mb]at h;apply UInt8.toNat.inj;rw[JK];omega
theorem H8:∀(s:LuQ)(a w:Nat),s.all qf=true->dN (fG a s) (w+s.length)=dN a w++s
 |[],a,w,_=>by simp
 | b::s,a,w,h=>by
  simp only[List.all_cons,Z7]at h;have:=H8 s (a*10+(b.toNat-48)) (w+1) h.2;have hb:=mb.1 h.1;rw[ko,List.length_cons,show w+(s.length+1)=w+1+s.length by omega,this];simp only[dN];rw[show(a*10+(b.toNat-48))/10=a by omega,show(a*10+(b.toNat-48))%10=b.toNat-48 by omega,afO h.1];simp
theorem Ft:∀(s:LuQ)(a:Nat),a*10^s.length<=fG a s
 |[],a=>by simp
 | b::s,a=>by
  have:=Ft s (a*10+(b.toNat-48));rw[ko,List.length_cons,Nat.pow_succ];refine Zy ?_ this;rw[Zq (10^s.length),<-Nat.mul_assoc];exact Zs _ aa
theorem ui:∀(s:LuQ)(a:Nat),s.all qf=true->fG a s<(a+1)*10^s.length
 |[],a,_=>by simp
 | b::s,a,h=>by
  simp only[List.all_cons,Z7]at h;have:=ui s (a*10+(b.toNat-48)) h.2;have hb:=mb.1 h.1;rw[ko,List.length_cons,Nat.pow_succ];refine Z0 this ?_;rw[Zq (10^s.length),<-Nat.mul_assoc];exact Zs _ aa
theorem U4{n d:Nat}(h1:10^d<=n)(h2:n<10^(d+1)):ndg n=d+1:=by have:=fM h2 aa;have h3:=dj n;have:d<ndg n:=(Yt (a:=10) af).1 aa;omega
def qI(s:LuQ):Bool:=!s.isEmpty&&s.all qf && !(decide (1<s.length)&&decide (s.headD 0=48))
theorem Fj{s:LuQ}(h:qI s=true):ah (fG 0 s)=s:=by
 simp only[qI,Z7,Y5,Xp,decide_eq_false_iff_not]at h;obtain⟨⟨h0,h1⟩,h2⟩:=h;cases s with
 |nil=>simp at h0
 | cons b s=>
  have hd:=H8 (b::s) 0 0 h1;simp only[List.all_cons,Z7]at h1;have hb:=mb.1 h1.1;simp only[Zk,dN,List.nil_append]at hd
  have hn:ndg (fG 0 (b::s))=(b::s).length:=by
   have lo:=Ft s (b.toNat-48);have hi:=ui s (b.toNat-48) h1.2;simp only[ko,Wq,Zk,List.length_cons]at *;by_cases hs:s=[]
   .subst hs;simp only[HX,List.length_nil,Zk];unfold ndg;rw[if_pos aa]
   .have hl:0<s.length:=Xv.2 hs
    have hb0:b.toNat≠48:=by
     rcases h2 with h2|h2
     .omega
     .intro e;apply h2;simp only[List.headD_cons];apply UInt8.toNat.inj;rw[e];rfl
    refine U4 ?_ ?_
    .refine Zy ?_ lo;have:=Zs (10^s.length) (show 1<=b.toNat-48 by omega);omega
    .refine Z0 hi ?_;rw[Nat.pow_succ,Zq];exact Z2 _ aa
  unfold ah;rw[hn];exact hd
theorem aaF{x:Nat}(h:x<10):qf (dg x)=true:=by rw[mb,JK];omega
theorem adU{x:Nat}(h:x<10):(dg x).toNat=48+x:=by rw[JK];omega
theorem wR:∀(w n:Nat),(dN n w).all qf=true
 |0,_=>rfl
 | w+1,n=>by
  simp only[dN,Y2,wR w,List.all_cons,List.all_nil,Yf,Yp];exact aaF aa
theorem uY:∀(s t:LuQ)(a:Nat),fG a (s++t)=fG (fG a s) t
 |[],t,a=>rfl
 |b::s,t,a=>by rw[List.cons_append,ko,ko,uY s t]
theorem xp:∀(w n:Nat),n<10^w->fG 0 (dN n w)=n
 |0,n,h=>by simp at h;subst h;rfl
 | w+1,n,h=>by
  have:=xp w (n/10) (by rw[Nat.pow_succ]at h;omega);simp only[dN,uY,this,ko,HX];rw[adU aa];omega
theorem sr(n:Nat):qI (ah n)=true:=by
 have hl:(ah n).length=ndg n:=bf ..;have hp:=lN n;have ha:(ah n).all qf=true:=wR ..;have hh:fG 0 (ah n)=n:=xp _ _ (dj n);cases he:ah n with
 |nil=>rw[he]at hl;simp at hl;omega
 | cons b s=>
  rw[he]at hl ha hh;simp only[qI,List.isEmpty_cons,Bool.not_false,Yp,ha,List.headD_cons,Y5,Xp,decide_eq_false_iff_not];by_cases h1:1<(b::s).length
  .right;refine decide_eq_false λe=>?_
   subst e;simp only[List.all_cons,Z7]at ha;have hi:=ui s 0 ha.2;simp only[ko,List.length_cons]at *;have e48:(48:UInt8).toNat=48:=rfl;rw[e48]at hh;simp only[Y7,Wq,Zk,Wr]at *;rw[hh]at hi
   have lo:=Bn n (by
    rcases Zf n with e|e
    .have e1:ndg 0=1:=by unfold ndg;rfl
     rw[e,e1]at hl;omega
    .exact e)
   rw[<-hl]at lo;simp at lo;omega
  .left;simpa using h1
theorem dX(n:Nat):fG 0 (ah n)=n:=xp _ _ (dj n)
def rdS(s:LuQ):Option Int:=if s.headD 0=45 then(if qI s.tail=true∧s.tail≠[48]then some (-(fG 0 s.tail:Int))else none)else if qI s=true then some (fG 0 s:Int)else none
theorem wO(n:Nat):ah n≠[]:=by intro e;have:(ah n).length=ndg n:=bf ..;have:=lN n;rw[e]at *;simp at *;omega
theorem sj(n:Nat):(ah n).headD 0≠45:=by
 have ha:(ah n).all qf=true:=wR ..;cases he:ah n with
 |nil=>exact absurd he (wO n)
 | cons b s=>
  rw[he]at ha;simp only[List.all_cons,Z7,mb]at ha;simp only[List.headD_cons];intro e;subst e;have:(45:UInt8).toNat=45:=rfl;omega
theorem K6(z:Int):rdS (itoa z)=some z:=by
 unfold rdS itoa;by_cases hz:z<0
 .rw[if_pos hz,List.headD_cons,if_pos rfl,List.tail_cons,sr,dX,if_pos]
  .congr 1;omega
  .refine⟨rfl,λe=>?_⟩;have:=dX z.natAbs;rw[e]at this;have e2:fG 0 [48]=0:=rfl;omega
 .rw[if_neg hz,if_neg (sj _),if_pos (sr _),dX];congr 1;omega
theorem Ux{s:LuQ}(h:rdS s=some z):s=itoa z:=by
 unfold rdS at h;split at h
 .rename_i hd;split at h
  .rename_i hc;simp only[Z9]at h;subst h;cases s with
   |nil=>simp at hd
   | cons b s=>
    simp only[List.headD_cons]at hd;subst hd;simp only[List.tail_cons]at *;have he:=Fj hc.1
    have h0:fG 0 s≠0:=by
     intro e;rw[e]at he;apply hc.2;rw[<-he];unfold ah ndg;rfl
    unfold itoa;rw[if_pos aa,Xz,Int.natAbs_natCast,he]
  .cases h
 .split at h
  .rename_i hc;simp only[Z9]at h;subst h;unfold itoa;rw[if_neg aa,Int.natAbs_natCast,Fj hc]
  .cases h
theorem Ax:∀(v w n:Nat),dN n (w+v)=dN (n/10^v) w++dN n v
 |0,w,n=>by simp[dN]
 | v+1,w,n=>by
  rw[show w+(v+1)=(w+v)+1 by omega];simp only[dN];rw[Ax v w (n/10),Xu,Nat.pow_succ,Zq 10,List.append_assoc]
theorem Aw:∀(w n m:Nat),dN (n+10^w*m) w=dN n w
 |0,_,_=>rfl
 | w+1,n,m=>by
  simp only[dN];have e:n+10^(w+1)*m=n+10*(10^w*m):=by rw[Nat.pow_succ,Zq (10^w) 10,Nat.mul_assoc]
  rw[e,Yg _ _ af,Xo,Aw w]
theorem RQ{t k r:Nat}(ht:0<t)(hr:r<10^k):ah (r+10^k*t)=ah t++dN r k:=by
 have h1:=Bn t ht;have h2:=dj t;have h3:=lN t;obtain⟨d,hd⟩:∃d,ndg t=d+1:=⟨ndg t-1,aa⟩
 have hn:ndg (r+10^k*t)=ndg t+k:=by
  rw[hd]at h1 h2 ⊢;simp only[Nat.add_sub_cancel]at h1;rw[show d+1+k=(d+k)+1 by omega];refine U4 ?_ ?_
  .rw[X8,Zq];have:=Z2 (10^k) h1;omega
  .rw[show d+k+1=k+(d+1) by omega,X8];have:=Z2 (10^k) h2;rw[Nat.mul_succ]at this;omega
 have e:=Ax k (ndg t) (r+10^k*t);rw[<-hn,Yg _ _ (Nat.pos_of_ne_zero (by have:=Xn (a:=10) (n:=k) af;omega)),Xk hr,Zk,Aw]at e;exact e
theorem B6:∀a:Fin 10,biI .and (.d (.int .u64 a.val)) (.d (.int .u64 4294967295))=some (.d (.int .u64 a.val)):=by
 intro a
 match a with
 |0|1|2|3|4|5|6|7|8|9=>rfl
@[simp]theorem ahV{n:Nat}(h:n<10):biI .and (.d (.int .u64 (n:Int))) (.d (.int .u64 4294967295))=some (.d (.int .u64 n)):=B6 ⟨n,h⟩
@[simp]theorem ahL:biI .and (.d (.int .u64 1)) (.d (.int .u64 4294967295))=some (.d (.int .u64 1)):=B6 1
@[simp]theorem ahM:biI .and (.d (.int .u64 0)) (.d (.int .u64 4294967295))=some (.d (.int .u64 0)):=B6 0
theorem LC{n:Nat}(h:n<10):CP Y F.dl [.d (.int .u64 1),.d (.int .u64 n)] (.tup [.d (.int .u64 0),.d (.int .u64 n)]):=by refine sS ?_;have e:(n:Int)/4294967296=0:=aa;simp(disch:=try exact ae)[dl,e];exact⟨[],by simp[bH,aH]⟩
theorem Rv{n:Nat}(h:n<10):CP Y F.mB [.d (.int .u64 1),.d (.int .u64 n)] (.tup [.d (.int .u64 0),.d (.int .u64 n)]):=by refine CN ?_;simp(disch:=try exact ae)[mB];refine cd (LC h) ?_;simp(disch:=try exact ae);exact⟨[],by simp[bH,aH]⟩
def BS:Nat->Nat->LnQ
 |_,0=>[]
 |n,w+1=>BS (n/10) w++[n%10]
theorem FS:∀(w n:Nat),(BS n w).length=w
 |0,_=>rfl
 |w+1,n=>by simp[BS,FS w]
theorem DK:∀(w n:Nat),∀x∈BS n w,x<10
 |0,_=>by simp[BS]
 | w+1,n=>by
  intro x hx;simp only[BS,Xx,Xh]at hx;rcases hx with hx|hx
  .exact DK w _ x hx
  .omega
theorem JM:∀(w n:Nat),dN n w=(BS n w).map dg
 |0,_=>rfl
 |w+1,n=>by simp[dN,BS,JM w]
def aaH(a:Nat)(l:LnQ):Nat:=l.foldl (λa d=>a*10+d) a
theorem Fs:∀(w n:Nat),n<10^w->aaH 0 (BS n w)=n
 |0,n,h=>by simp at h;subst h;rfl
 | w+1,n,h=>by
  have:=Fs w (n/10) (by rw[Nat.pow_succ]at h;omega);unfold aaH at this;simp only[aaH,BS,List.foldl_append,this,List.foldl_cons,List.foldl_nil];omega
def f8(x:Nat):D:=.int .u8 (48+x)
theorem WR(n w:Nat):(dN n w).map u8=(BS n w).map f8:=by rw[JM,Wp];apply List.map_congr_left;intro x hx;exact OG (DK w n x hx)
theorem J1(k:KL)(h0:Hp)(hh:h0.length=0):∀(r a:LnQ)(s:Nat),(a++r).length<=18->(∀x∈r,x<10)->s<10^a.length ->
  (k (.exit 0) [I (aaH s r)] []) ->
  lp (mW (CX Y) (lst f8 (a++r)) (I (a++r).length)) [] h0 [I s,I a.length] [] k
 | []=>by
  intro a s hN hx hs hk;refine aj ?_;simp[mW];exact hk
 | x::r=>by
  intro a s hN hx hs hk;simp at hN hx;have hs18:s<10^17:=Z0 hs (Zz af aa);simp only[Nat.reducePow]at hs18;have hx1:=hx.1;refine aj ?_;simp(disch:=try exact ae)[mW,f8];have:=J1 k h0 hh r (a++[x]) (s*10+x) aN hx.2 (by simp[Nat.pow_succ];omega) hk;simp at this
  rw[show(48+(x:Int)-48)=x by omega];exact this
theorem aby{n w:Nat}(h1:1<=w)(h2:w<=18)(hn:n<10^w):CP Y F.gU [S (dN n w)] (.tup [I n,.d (.pl .nilIface)]):=by
 refine uh ?_;have hl:=FS w n;have hlt:=DK w n;have hh:=Fs w n hn;have he:=WR n w;have hD:=JM w n;generalize dN n w=L at *;generalize BS n w=l at *;cases l with
 |nil=>simp at hl;omega
 | cons x l=>
  have hx:=hlt x ac
  have hi:ixS (S L) (.d (.int .i64 0))=some (.d (.int .u8 (48+x))):=by
   rw[hD];simp[ixS];have e:=OG hx;unfold u8 at e;injection e
  have hlen:L.length=w:=by rw[hD];simpa using hl
  have hlw:nH (S L)=some (I w):=by rw[Jr,hlen]
  simp(disch:=try exact ae)[gU,hlw,hi]
  have hcv:∀(k:kkQ),cvB (S L) [] k=k (lst f8 (x::l)) []:=by
   intro k
   have:V.d (.sl L.length (L.map λb=>.int .u8 b.toNat))=lst f8 (x::l):=by
    unfold lst;rw[hlen,hl,<-he];rfl
   simp only[cvB,this]
  refine gI (l:=[S L]) (h:=[]) (λq=>?_) ?_
  .simp[show ¬(48+(x:Int)=43) by omega]
  show cvB (S L) [] _
  rw[hcv];simp;refine lo (J1 _ _ rfl (x::l) [] 0 (by simp at hl;simp;omega) hlt ac ?_);simp[hi,hh];refine gI (l:=[I n]) (h:=[]) (λq=>?_) ?_
  .simp[hh,show ¬(48+(x:Int)=45) by omega]
  exact⟨[],by simp[bH,aH,norm]⟩
theorem I9:biF .neq (.d (.pl .nilIface)) (.d (.pl .nilIface))=some (.d (.bool false)):=rfl
theorem J0{n w:Nat}(h1:1<=w)(h2:w<=18)(hn:n<10^w):CP Y F.strconv_Atoi [S (dN n w)] (.tup [I n,.d (.pl .nilIface)]):=by refine wj ?_;simp[strconv_Atoi];refine cd (aby h1 h2 hn) ?_;simp[I9];exact⟨[],by simp[bH,aH,norm]⟩
theorem EF(z:D):∀n,gK n [z]=List.replicate n z
 |0=>rfl
 |n+1=>by simp[gK,EF z n,List.replicate_succ]
@[simp] theorem ahh (s by_:Nat)(z:D)(h:Hp)(i:Int)(k:kkQ)(u:PU k)(h0:0<=i)(hb:by_*i<=281474976710656)(h1:i<=9223372036854775807):
  rh (mkS s by_ [z] h (.d (.int .i64 i)) (.d (.int .i64 i))) k u=rn (bnh h[s]?) (λy=>k (.ref s (y.1+1) 0 i.toNat i.toNat i.toNat) (h.set s (y.1+1,.data 1 (List.replicate i.toNat z) true false))) .mk:=by unfold rh rn;simp only[mkS];rw[if_pos ⟨h0,Int.le_refl _,ac,hb,h1⟩,Dn];simp only[EF,Zd,List.length_singleton]
@[simp]theorem agp(s e off len cap tot:Nat):aX (.ref s e off len cap tot)=some (.d (.int .i64 (len:Int))):=id rfl
theorem oE{T:kkQ->Prop}{k:kkQ}{u:PU k}(h:T k):rh T k u:=h
theorem cdz{h:Hp}{f:FuncId}{v:V}{k:kkQ}{u:PU k}(hs:aH h args=some (ds,h'))(hc:C f ds v)(hk:k v (if cS v then h else h')):rh (cal C h (.fn f [] []) args) k u:=
 yS hs hc hk
variable{α:Type}{f:α->D}{o:List α}{h:Hp}{s e n:Nat}{ex fr:Bool}
theorem pY(clr:LnQ)(i:Nat)(x0 x:Nat×Bk)(h0 h:Hp):aP clr i (x0::h0) (x::h)=(if gQ clr i=true then x else(x0.1,.none))::aP clr (i+1) h0 h:=by cases x0;cases x;rfl
theorem Q6(clr:LnQ)(i:Nat)(h:Hp):aP clr i [] h=h:=by cases h<;>rfl
theorem xi(clr:LnQ)(i:Nat)(x:Nat×Bk)(h:Hp):p6 clr i (x::h)=((!gQ clr i||offB clr x.2)&&p6 clr (i+1) h):=by cases x;rfl
theorem Rr(s:Nat):gQ [] s=true:=rfl
theorem EV(t:Nat)(l:LnQ)(s:Nat):gQ (t::l) s=(!(Nat.beq t s)&&gQ l s):=rfl
theorem beq_lit(a b:Nat):Nat.beq a b=decide (a=b):=by
 by_cases h:a=b
 .subst h;simp[X2]
 .rw[decide_eq_false h];cases hb:Nat.beq a b with
  |false=>rfl
  |true=>exact absurd (Zl hb) h
def rZ(k:Int)(a b:LiQ):LiQ:=List.zipWith (λx y=>x-k*y) a b
def bdZ(B:Nat)(l:LiQ):Bool:=l.all λx=>decide (x.natAbs<10^B)
variable{α:Type}(d:α)(g:α->LiQ)(w:α->LiQ->α)
def yL(m:List α)(i c:Nat):Int:=nth 0 (g (nth d m i)) c
def atG(c:Nat)(m:List α):Nat->Nat->Int->Int
 |0,_,at_=>at_
 |r+1,i,at_=>atG c m r (i+1) (if yL d g m i c≠0∧(at_<0∨(yL d g m i c).natAbs<(yL d g m at_.toNat c).natAbs)then i else at_)
def iT(c o:Nat)(m:List α)(i:Nat):List α:=m.set i (w (nth d m i) (rZ ((yL d g m i c).fdiv (yL d g m o c)) (g (nth d m i)) (g (nth d m o))))
def kI(c o:Nat):Nat->Nat->Bool->List α->Bool×List α
 |0,_,b,m=>(b,m)
 |r+1,i,b,m=>kI c o r (i+1) (b||decide ((yL d g m i c).fmod (yL d g m o c)≠0)) (iT d g w c o m i)
def upG(c o:Nat):Nat->Nat->List α->List α
 |0,_,m=>m
 |r+1,i,m=>upG c o r (i+1) (iT d g w c o m i)
def Bm(c o:Nat)(m:List α):List α:=if yL d g m o c<0 then m.set o (w (nth d m o) ((g (nth d m o)).map (- ·)))else m
def lz(m:List α)(i j:Nat):List α:=(m.set i (nth d m j)).set j (nth d m i)
def nB(B c:Nat):Nat->Nat->List α->Option (Nat×List α)
 |0,_,_=>none
 | f+1,o,m=>
  if (m.all λa=>bdZ B (g a))=true then
   let a:=atG d g c m (m.length-o) o (-1)
   if a<0 then some (o,m)else
    let s:=kI d g w c o (m.length-(o+1)) (o+1) false (lz d m o a.toNat)
    if s.1=true then nB B c f o s.2 else some (o+1,upG d g w c o o 0 (Bm d g w c o s.2))
  else none
def pj(B f:Nat):Nat->Nat->Nat->List α->Option (Nat×List α)
 |0,_,o,m=>some (o,m)
 | r+1,c,o,m=>if o<m.length then(match nB d g w B c f o m with
  |some (o',m')=>pj B f r (c+1) o' m'
  |none=>none)else some (o,m)
def FK(B f columns:Nat)(m:List α):Option (Nat×List α):=pj d g w B f columns 0 0 m
variable{α:Type}{d:α}{g:α->LiQ}{w:α->LiQ->α}
theorem mp(c o:Nat)(m:List α)(i:Nat):(iT d g w c o m i).length=m.length:=by simp[iT]
theorem oR(c o:Nat):∀(r i:Nat)(b:Bool)(m:List α),(kI d g w c o r i b m).2.length=m.length
 |0,_,_,_=>rfl
 |r+1,i,b,m=>by simp only[kI];rw[oR,mp]
theorem OE(c o:Nat):∀(r i:Nat)(m:List α),(upG d g w c o r i m).length=m.length
 |0,_,_=>rfl
 |r+1,i,m=>by simp only[upG];rw[OE,mp]
theorem EX(c o:Nat)(m:List α):(Bm d g w c o m).length=m.length:=by unfold Bm;split<;>simp
theorem gy(m:List α)(i j:Nat):(lz d m i j).length=m.length:=by simp[lz]
theorem Ov(c:Nat)(m:List α):∀(r i:Nat)(a:Int),a<i->-1<=a->atG d g c m r i a<(i+r:Nat)∧-1<=atG d g c m r i a
 |0,i,a,h,h0=>⟨by simpa[atG]using h,h0⟩
 | r+1,i,a,h,h0=>by
  simp only[atG];have:=Ov c m r (i+1) (if yL d g m i c≠0∧(a<0∨(yL d g m i c).natAbs<(yL d g m a.toNat c).natAbs)then i else a) (by split<;>omega) (by split<;>omega);exact⟨aa,this.2⟩
structure vX{α β:Type}(d:α)(g:α->LiQ)(w:α->LiQ->α)(d':β)(g':β->LiQ)(w':β->LiQ->β)(p:α->β):Prop where
 d:p d=d'
 g:∀a,g' (p a)=g a
 w:∀a r,p (w a r)=w' (p a) r
section
variable{α β:Type}{d:α}{g:α->LiQ}{w:α->LiQ->α}{d':β}{g':β->LiQ}{w':β->LiQ->β}{p:α->β}(H:vX d g w d' g' w' p)
include H
theorem vX.nth(m:List α)(i:Nat):nth d' (m.map p) i=p (nth d m i):=by simp only[Go.Vm.nth,Z6,List.getElem?_map];cases m[i]?<;>simp[H.d]
theorem vX.ent(m:List α)(i c:Nat):yL d' g' (m.map p) i c=yL d g m i c:=by simp[yL,H.nth,H.g]
theorem vX.take(c o:Nat)(m:List α)(i:Nat):iT d' g' w' c o (m.map p) i=(iT d g w c o m i).map p:=by simp only[iT,H.ent,H.nth,H.g,Xg,H.w]
theorem vX.at(c:Nat)(m:List α):∀(r i:Nat)(a:Int),atG d' g' c (m.map p) r i a=atG d g c m r i a
 |0,_,_=>rfl
 |r+1,i,a=>by simp only[atG,H.ent,vX.at c m r]
theorem vX.sweep(c o:Nat):∀(r i:Nat)(b:Bool)(m:List α),kI d' g' w' c o r i b (m.map p)=((kI d g w c o r i b m).1,(kI d g w c o r i b m).2.map p)
 |0,_,_,_=>rfl
 |r+1,i,b,m=>by simp only[kI,H.ent,H.take,vX.sweep c o r]
theorem vX.up(c o:Nat):∀(r i:Nat)(m:List α),upG d' g' w' c o r i (m.map p)=(upG d g w c o r i m).map p
 |0,_,_=>rfl
 |r+1,i,m=>by simp only[upG,H.take,vX.up c o r]
theorem vX.neg(c o:Nat)(m:List α):Bm d' g' w' c o (m.map p)=(Bm d g w c o m).map p:=by simp only[Bm,H.ent,H.nth,H.g];split<;>simp[Xg,H.w]
theorem vX.swap(m:List α)(i j:Nat):lz d' (m.map p) i j=(lz d m i j).map p:=by simp[lz,H.nth,Xg]
theorem vX.round(B c:Nat):∀(f o:Nat)(m:List α),nB d' g' w' B c f o (m.map p)=(nB d g w B c f o m).map λq=>(q.1,q.2.map p)
 |0,_,_=>rfl
 | f+1,o,m=>by
  have e:((m.map p).all λa=>bdZ B (g' a))=m.all λa=>bdZ B (g a):=by simp[List.all_map,Function.comp_def,H.g]
  simp only[nB,List.length_map,e,H.at,H.swap,H.sweep,H.neg,H.up,vX.round B c f];split
  .split
   .rfl
   .split<;>rfl
  .rfl
theorem vX.cols(B f:Nat):∀(r c o:Nat)(m:List α),pj d' g' w' B f r c o (m.map p)=(pj d g w B f r c o m).map λq=>(q.1,q.2.map p)
 |0,_,_,_=>rfl
 | r+1,c,o,m=>by
  simp only[pj,List.length_map,H.round];split
  .cases nB d g w B c f o m with
   |none=>rfl
   |some q=>exact vX.cols B f r (c+1) q.1 q.2
  .rfl
theorem vX.form(B f c:Nat)(m:List α):FK d' g' w' B f c (m.map p)=(FK d g w B f c m).map λq=>(q.1,q.2.map p):=H.cols B f c 0 0 m
end
abbrev Mz:=LLQ
def qV(B f c:Nat)(m:Mz):Option (Nat×Mz):=FK [] (λr=>r) (λ_ r=>r) B f c m
def lu(n:Nat)(m:Mz):Mz:=(List.range n).map λc=>m.map (λr=>nth 0 r c)++(List.replicate n (0:Int)).set c 1
def B5(k:Nat)(r:LiQ):Bool:=match r.findIdx? λz=>decide (z≠0)with
 |some i=>decide (k<=i)
 |none=>false
def XX(B f k n:Nat)(m:Mz):Option Mz:=
 let l:=(m.filter (B5 k)).map (List.drop k)
 if l=[]then some []else match qV B f n l with
  |some (o,w)=>some (w.take o)
  |none=>none
def uT(B f n:Nat)(m:Mz):Option Mz:=
 match qV B f (m.length+n) (lu n m)with
 |some (o,w)=>XX B f m.length n (w.take o)
 |none=>none
def u6(n:Nat):D:=.int .u64 n
abbrev U(n:Int):V:=.d (.int .u64 n)
@[simp]theorem ahX(n:Nat):V.d (u6 n)=U n:=id rfl
def pcs(n:Nat):V:=lst u6 (dig Z n)
theorem ada(n:Nat):pcs n=lst u6 (dig Z n):=rfl
theorem Fa(l:LnQ)(h:Hp)(hl:j<l.length):ld1 h (.dptr (l.map u6) j)=some (U (nth 0 l j:Nat)):=oz u6 0 l h hl
variable{h:Hp}{s e tot:Nat}{l:LnQ}{ex fr:Bool}
theorem C2(hg:h[s]?=some (e,.data 1 (l.map u6) ex fr))(ht:tot=l.length)(h0:0<=i)(h1:i<len)(k:IntKind):ixV h 1 (.ref s e 0 len cap tot) (.d (.int k i))=some (.ptr s e i.toNat tot):=by simp only[ixV,dM hg];rw[if_pos ⟨by simp[ht],h0,h1⟩];simp
theorem Jt(hg:h[s]?=some (e,.data 1 (l.map u6) ex fr))(ht:tot=l.length)(hj:j<l.length):ld1 h (.ptr s e j tot)=some (U (nth 0 l j:Nat)):=by
 have e1:tot=(l.map u6).length:=by simp[ht]
 simp only[ld1,dM hg,if_pos e1,List.getElem?_map,List.getElem?_eq_getElem hj,Option.map_some,ft 0 l j hj];rfl
theorem QV(hg:h[s]?=some (e,.data 1 (l.map u6) ex false))(ht:tot=l.length)(hj:j<l.length)(x:Nat):st h 1 (.ptr s e j tot) (U x)=some (h.set s (e,.data 1 ((l.set j x).map u6) ex false)):=by
 have e1:(l.map u6).take j++[u6 x]++(l.map u6).drop (j+1)=(l.set j x).map u6:=by
  rw[Xg,Ym,if_pos aN];simp
 simp only[st,if_true,sto,dM hg,jG,toD];rw[if_pos ⟨trivial,by simp[ht],aN⟩];simp only[bK,List.length_singleton];rw[<-e1];rfl
theorem ag2(hg:h[s]?=some (e,.data 1 (l.map u6) ex fr))(ht:tot=l.length)(h0:0<=i)(h1:i<=cap)(hlc:len<=cap):slV h 1 (.ref s e 0 len cap tot) none (some (I i))=some (.ref s e 0 i.toNat cap tot):=by simp only[slV,dM hg,boV];rw[if_pos ⟨aa,h1⟩];simp[ht,hlc]
theorem yj(hg:h[s]?=some (e,.data 1 (l.map u6) ex fr))(ht:tot=l.length)(h1:len<=cap)(hc:cap<=tot):bH h (.ref s e 0 len cap tot)=some (lst u6 (l.take len),h.set s (e,.data 1 (l.map u6) ex true)):=by simp only[bH,toD,dM hg];rw[if_pos ⟨by simp[ht],h1,aN⟩];simp[lst,List.map_take,bK];omega
theorem G5{h:Hp}{s e cap tot:Nat}{l:LnQ}{ex fr:Bool}(hg:h[s]?=some (e,.data 1 (l.map u6) ex fr))(ht:tot=l.length)(hc:cap<=tot)(hb:cap<1000000000000)(k:KL)(h0:Hp)(hh:h0.length=h.length):∀len,len<=cap->k (.exit 0) [.ref s e 0 (iJ (l.take len)).length cap tot] h->lp (bS (CX Y) h.length) [] h0 [.ref s e 0 len cap tot] h k
 | 0,hl,hk=>by
  refine aj ?_;simp[bS];simpa[iJ]using hk
 | len+1,hl,hk=>by
  have e1:=C2 hg ht (len:=len+1) (cap:=cap) (i:=(len:Int)) aa aa .i64;have e2:=Jt hg ht (j:=len) aa;have e3:=ag2 hg ht (len:=len+1) (cap:=cap) (i:=(len:Int)) aa aa aa;have e4:l.take (len+1)=l.take len++[nth 0 l len]:=by rw[ft 0 l len aa,List.take_append_getElem]
  rw[Int.toNat_natCast]at e1 e3;refine aj ?_;by_cases h2:nth 0 l len=0
  .rw[e4,h2,qK]at hk;have ih:=G5 hg ht hc hb k h0 hh len aa hk;simp(disch:=try exact ae)[bS,e1,e2,e3,h2,hh];exact ih
  .rw[e4,yf h2]at hk;have e5:(l.take len++[nth 0 l len]).length=len+1:=by simp;omega
   rw[e5]at hk;simp(disch:=try exact ae)[bS,e1,e2,e3,h2];exact hk
theorem tR{h:Hp}(hu:(h.all λx=>aF h.length x.2)=true){s e tot:Nat}{l:LnQ}{ex fr:Bool}(hg:h[s]?=some (e,.data 1 (l.map u6) ex fr))(ht:tot=l.length)(hc:cap<=tot)(hb:cap<1000000000000)(hl:len<=cap):
  CI Y F.aB [.ref s e 0 len cap tot] h (.ref s e 0 (iJ (l.take len)).length cap tot) h:=by refine pP ?_;simp[aB];refine lo (G5 hg ht hc hb _ _ rfl len hl ?_);simp;have hs:=bj hg;refine⟨ac,by simpa using hu,.inl ⟨rfl,?_⟩⟩;simp[under,hs]
theorem QJ{h:Hp}{l0:LnQ}(k:KL)(h0:Hp)(hh:h0.length=h.length):∀l:LnQ,l.length<1000000000000->k (.exit 0) [lst u6 (iJ l)] h->lp (bS (CX Y) h.length) [] h0 [lst u6 l] h k:=by
 intro l hb hk
 induction hn:l.length generalizing l with
 | zero=>
  have:l=[]:=Zo hn;subst this;refine aj ?_;simp[bS];exact hk
 | succ n ih=>
  obtain⟨l,x,rfl⟩:∃l' x,l=l'++[x]:=⟨l.dropLast,l.getLast (by intro e;simp[e]at hn),(List.dropLast_concat_getLast _).symm⟩;have hl:l.length=n:=by simpa using hn
  have e1:=λh:Hp=>nJ u6 (l++[x]) h (k:=.i64) (i:=(l.length:Int)) aa aN
  have e2:=λh:Hp=>Fa (l++[x]) h (j:=l.length) ac
  have e3:=λh:Hp=>aeT u6 (l++[x]) h (i:=(l.length:Int)) aa aN ac
  have e4:nth 0 (l++[x]) l.length=x:=ac;simp only[Int.toNat_natCast,W4]at e1 e3;rw[e4]at e2;have e5:((l++[x]).length:Int)=(l.length:Int)+1:=ac;have e6:aX (lst u6 (l++[x]))=some (I ((l.length:Int)+1)):=by rw[<-e5];rfl
  have hb2:l.length<1000000000000:=by simp at hb;omega
  refine aj ?_;by_cases hx:x=0
  .subst hx;rw[qK]at hk;simp(disch:=try exact ae)[bS,e1,e2,e3,e6,hh];exact ih l hb2 hk hl
  .rw[yf hx]at hk;simp(disch:=try exact ae)[bS,e1,e2,e3,e6,hx];exact hk
theorem YZ{h:Hp}(hu:(h.all λx=>aF h.length x.2)=true){l:LnQ}(hb:l.length<1000000000000):CI Y F.aB [lst u6 l] h (lst u6 (iJ l)) h:=by refine pP ?_;simp[aB];refine lo (QJ (l0:=l) _ _ rfl l hb ?_);simp;refine⟨ac,by simpa using hu,.inl ⟨rfl,rfl⟩⟩
def RdP(h:Hp)(a:V)(l:LnQ):Prop:=aX a=some (I l.length)∧∀(t:Hp)(i:Nat),i<l.length->∃p,ixV (h++t) 1 a (I i)=some p∧ld1 (h++t) p=some (U (nth 0 l i:Nat))
theorem YO(h:Hp)(l:LnQ):RdP h (lst u6 l) l:=by refine⟨rfl,λt i hi=>⟨.dptr (l.map u6) i,?_,Fa l _ hi⟩⟩;have:=nJ u6 l (h++t) (k:=.i64) (i:=(i:Int)) aa aa;trivial
theorem EU{l:LnQ}{n i:Nat}(h:i<n):nth 0 (l.take n) i=nth 0 l i:=by grind[nth]
theorem J6{h:Hp}{s e tot:Nat}{l:LnQ}{ex fr:Bool}(hg:h[s]?=some (e,.data 1 (l.map u6) ex fr))(ht:tot=l.length)(hl:len<=tot):RdP h (.ref s e 0 len cap tot) (l.take len):=by
 have e1:(l.take len).length=len:=by simp;omega
 refine⟨by simp_all,λt i hi=>⟨.ptr s e i tot,?_,?_⟩⟩
 .have hs:=bj hg;have:=C2 (h:=h++t) (by rw[List.getElem?_append_left hs];exact hg) ht (len:=len) (cap:=cap) (i:=(i:Int)) aa aa .i64;trivial
 .have hs:=bj hg;rw[EU aa];exact Jt (h:=h++t) (by rw[List.getElem?_append_left hs];exact hg) ht aa
def pH(h:Hp)(o:LnQ):Hp:=h++[(1,.data 1 (o.map u6) true false),nnQ]
theorem Bg(h:Hp)(o:LnQ):(pH h o)[h.length]?=some (1,.data 1 (o.map u6) true false):=by simp[pH]
theorem UO(h:Hp)(o o':LnQ):(pH h o).set h.length (1,.data 1 (o'.map u6) true false)=pH h o':=by simp[pH]
@[simp]theorem UP(h:Hp)(o:LnQ):(pH h o).length=h.length+2:=by simp[pH]
theorem XS{s b:Nat}(hbc:b<=c)(h:Nat.blt s b=true):Nat.blt s c=true:=by grind[W7]
mutual
theorem Ku{b c:Nat}(hbc:b<=c):∀v:V,under b v=true->under c v=true
 |.ref s ..,h=>XS hbc h
 |.ptr s ..,h=>XS hbc h
 |.agg l,h=>rH hbc l h
 |.tup l,h=>rH hbc l h
 | .fn _ x y,h=>by
  simp only[under,Z7]at h ⊢;exact⟨rH hbc x h.1,rH hbc y h.2⟩
 |.ifc _ x,h=>Ku hbc x h
 |.new ..,h=>by cases h
 |.junk,_=>rfl
 |.d _,_=>rfl
 |.dptr ..,_=>rfl
 |.cut _,h=>by cases h
theorem rH{b c:Nat}(hbc:b<=c):∀l:LwQ,jF b l=true->jF c l=true
 |[],_=>rfl
 | x::l,h=>by
  simp only[jF,Z7]at h ⊢;exact⟨Ku hbc x h.1,rH hbc l h.2⟩
end
theorem w9{b:Nat}(hbc:b<=c){x:Bk}(h:aF b x=true):aF c x=true:=by
 cases x with
 |vars l=>exact rH hbc l h
 |none=>rfl
 |data n cs ex fr=>rfl
theorem Oy{b:Nat}(hbc:b<=c){h:Hp}(hu:(h.all λx=>aF b x.2)=true):(h.all λx=>aF c x.2)=true:=by grind[w9]
variable{h:Hp}{t0 t1:V}{da db:LnQ}
theorem QM(hb:RdP h t1 db)(hsb:aI Z db){x i:Nat}(hx:x<Z)(hN:i+db.length<N)(hNb:N<1000000000000)(k:KL)(h0:Hp)(hh:h0.length=h.length+2)(T:Nat)(o0:LnQ):
  ∀(r c j:Nat)(o:LnQ),j+r=db.length->c<Z->o.length=N->aI Z o->val Z o+Z^(i+j)*(c+x*val Z (db.drop j))=T->(∀m,i+db.length<=m->nth 0 o m=nth 0 o0 m) ->
  (∀c' o',c'<Z->o'.length=N->aI Z o'->val Z o'+Z^(i+db.length)*c'=T->(∀m,i+db.length<=m->nth 0 o' m=nth 0 o0 m)->k (.exit 2) [U (c':Nat)] (pH h o')) ->
  lp (ir (CX Y) h.length (.ref h.length 1 0 N N N) (I i) (U x) t1 (I db.length)) [] h0 [U c,I j] (pH h o) k:=by
 intro r
 induction r with
 | zero=>
  intro c j o hj hc ho hs hv hf hk;have hjl:j=db.length:=aa;subst hjl;have hd:db.drop db.length=[]:=List.drop_length;rw[hd]at hv;simp only[val,Nat.mul_zero,Nat.add_zero]at hv;refine aj ?_;simp[ir]
  grind
 | succ r ih=>
  intro c j o hj hc ho hs hv hf hk;have hjl:j<db.length:=aa;obtain⟨m,hm⟩:=nmQ (i+j);rw[<-hm]at hv;have hij:m<o.length:=aa;obtain⟨y,hy2⟩:=mnQ (db.getD j 0);have hy:=hsb.getD bE j;have hw:=hs.getD bE m;have hst:=U8 (B:=Z) (o:=o) (j:=m) (c:=c) (a:=x) (y:=db.getD j 0) (v:=val Z (db.drop (j+1))) hij;rw[<-qu,hv]at hst;rw[hy2]at hy hst
  obtain⟨p,hp⟩:=nmQ (x*y);have hxy:p<=999999999*999999999:=by rw[hp];exact Zp (by grind[Z]) (by grind[Z])
  have hpi:(x:Int)*(y:Int)=(p:Int):=by rw[hp];simp
  rw[<-hp]at hst;have e1:((i:Int)+(j:Int))=(m:Int):=aa;have hZ:Z=1000000000:=rfl;obtain⟨w,hwd⟩:=mnQ (o.getD m 0);rw[hwd]at hst hw;obtain⟨pb,r1,r2⟩:=hb.2 [(1,.data 1 (o.map u6) true false),nnQ] j hjl;rw[show nth 0 db j=y from hy2]at r2;have r3:=C2 (Bg h o) ho.symm (len:=N) (cap:=N) (i:=(m:Int)) aa aa .i64;have r4:=Jt (Bg h o) ho.symm hij
  have r5:=QV (Bg h o) ho.symm hij ((c+w+p)%Z);rw[show nth 0 o m=w from hwd]at r4;rw[Int.toNat_natCast]at r3;rw[UO]at r5
  change ixV (pH h o) 1 t1 (I j)=some pb at r1
  change ld1 (pH h o) pb=_ at r2
  have ih2:=ih ((c+w+p)/Z) (j+1) (o.set m ((c+w+p)%Z)) aa (by grind) (by grind) (hs.set (Y3 _ bE)) (by rw[show i+(j+1)=m+1 by omega];omega)
   (λn hn=>by rw[<-hf n hn];simp[nth,List.getElem?_set_ne (show m≠n by omega)]) hk
  clear hst hk ih hv;obtain⟨t,ht⟩:=mnQ (c+w+p);have ht2:t<1000000000000000000+2000000000:=by simp only[hZ]at *;omega
  rw[ht]at ih2 r5;obtain⟨tm,htm⟩:=mnQ (t%Z);obtain⟨td,htd⟩:=mnQ (t/Z);rw[htm]at ih2 r5;rw[htd]at ih2;have e2:(c:Int)+((w:Int)+(p:Int))=(t:Int):=aa;have e3:((t:Int)%1000000000)=(tm:Int):=by simp only[hZ]at htm;omega
  have e4:((t:Int)/1000000000)=(td:Int):=by simp only[hZ]at htd;omega
  refine aj ?_;simp(disch:=try exact ae)[ir,r1,r2,r3,r4,e1,hpi,e2,Zx,Zt,e3,e4,r5];trivial
theorem Na(ha:RdP h t0 da)(hsa:aI Z da)(hb:RdP h t1 db)(hsb:aI Z db)(hla:da.length<100000000)(hlb:db.length<100000000)(k:KL)(h0:Hp)(hh:h0.length=h.length+2)(hN:N=da.length+db.length):
  ∀(r i:Nat)(o:LnQ),i+r=da.length->o.length=N->aI Z o->val Z o=val Z (da.take i)*val Z db->(∀m,i+db.length<=m->nth 0 o m=0) ->
  (∀o',o'.length=N->aI Z o'->val Z o'=val Z da*val Z db->k (.exit 0) [] (pH h o')) ->
  lp (iu (CX Y) h.length t1 (.ref h.length 1 0 N N N) t0 (I da.length)) [] h0 [I i] (pH h o) k:=by
 intro r
 induction r with
 | zero=>
  intro i o hi ho hs hv hf hk;refine aj ?_;have g:¬i<da.length:=aa;simp[iu,g];rw[show i=da.length by omega,Xr]at hv
  grind
 | succ r ih=>
  intro i o hi ho hs hv hf hk;have hil:i<da.length:=aa;obtain⟨pa,r1,r2⟩:=ha.2 [(1,.data 1 (o.map u6) true false),nnQ] i hil;obtain⟨x,hx⟩:=mnQ (nth 0 da i);have hxs:x<Z:=by rw[<-hx];exact hsa.getD bE i
  rw[hx]at r2
  change ixV (pH h o) 1 t0 (I i)=some pa at r1
  change ld1 (pH h o) pa=_ at r2
  have hl:=hb.1;refine aj ?_;simp(disch:=try exact ae)[iu,r1,r2,hl];refine lo (QM hb hsb hxs aa aa _ _ (UP h o) (val Z o+Z^i*(x*val Z db)) o db.length 0 0 o aa bE ho hs ac (λ_ _=>rfl) λc' o' hc' ho' hs' hv' hf'=>?_);simp only[kV];obtain⟨m,hm⟩:=nmQ (i+db.length)
  have hml:m<o'.length:=aa;have r3:=C2 (Bg h o') ho'.symm (len:=N) (cap:=N) (i:=(m:Int)) aa aa .i64;have r5:=QV (Bg h o') ho'.symm hml c';rw[Int.toNat_natCast]at r3;rw[UO]at r5;have e1:((i:Int)+(db.length:Int))=(m:Int):=aa;have e0:nth 0 o' m=0:=by rw[hf' m aa,hf m aa]
  have hvs:=w8 (B:=Z) o' m c' hml;rw[show o'.getD m 0=0 from e0]at hvs
  have ih2:=ih (i+1) (o'.set m c') aa (by grind) (hs'.set hc') (by
   rw[xW da hil,show da.getD i 0=x from hx,Nat.add_mul,<-hv]
   grind) (λn hn=>by
   simp only[nth,Z6,List.getElem?_set_ne (show m≠n by omega)];have:=hf' n aa;rw[hf n aa]at this;exact this) hk
  clear hvs hv' ih hk;simp(disch:=try exact ae)[hl,e1,r3,r5];trivial
theorem G7(hu:(h.all λx=>aF h.length x.2)=true)(ha:RdP h t0 da)(hsa:aI Z da)(hb:RdP h t1 db)(hsb:aI Z db)(hla:da.length<100000000)(hlb:db.length<100000000)(hN:N=da.length+db.length):
  CI Y F.cX [t0,t1] h (.new 1 ((bL N (val Z da*val Z db)).map u6) true (dig Z (val Z da*val Z db)).length N) h:=by
 refine vg ?_;have l0:=ha.1;have l1:=hb.1;have e1:((da.length:Int)+(db.length:Int))=(N:Int):=aa;simp(disch:=try exact ae)[cX,l0,l1,e1]
 have e2:h++[(1,Bk.data 1 (List.replicate N (D.int IntKind.u64 0)) true false),nnQ]=pH h (List.replicate N 0):=by
  simp[pH,u6]
 try simp only[e3]
 try rw[e2]
 refine lo (Na ha hsa hb hsb hla hlb _ _ (UP ..) hN da.length 0 (List.replicate N 0) aa ac (λx hx=>by grind[bE]) (by simp[AO,val]) (λm _=>by
  grind[nth]) λo ho hs hv=>?_)
 simp only[kV];have ht:iJ (o.take N)=dig Z (val Z da*val Z db):=by rw[Z3 aa,<-hv,rC aA hs]
 have hu2:((pH h o).all λx=>aF (pH h o).length x.2)=true:=by
  have hm:(h.all λx=>aF (pH h o).length x.2)=true:=Oy ac hu;rw[pH,Y2,<-pH,hm];rfl
 have tr:=tR hu2 (Bg h o) ho.symm (len:=N) (cap:=N) (Z8 _) aa (Z8 _);rw[ht]at tr;refine fT tr ?_ ac;have hol:o=bL N (val Z da*val Z db):=by rw[<-hv,<-ho];exact DG o hs
 rw[<-hol];refine⟨by simp[pH],aa,.inr (.inr (.inl ⟨h.length,1,_,N,1,o.map u6,true,by grind,Z8 _,by simp[ax,pH],rfl⟩))⟩
def trimS(n:Nat):LnQ:=if n=0 then[]else[n]
theorem SU(n:Nat):iJ [n]=trimS n:=by rfl
theorem QI(n:Nat):val Z (trimS n)=n:=by grind[trimS,val]
theorem Kw{n:Nat}(h:n<Z):aI Z (trimS n):=by
 unfold trimS;split
 .exact λx hx=>by cases hx
 .exact λx hx=>by grind
theorem Ew(hu:(h.all λx=>aF h.length x.2)=true){f:Nat}(hf:f<Z)(hf0:0<f)(ha:RdP (h++[nnQ,nnQ]) t0 da)(hsa:aI Z da)(hla:da.length<100000000)(hN:N=da.length+1):
  CI Y F.cr [t0,U f] h (.new 1 ((bL N (val Z da*f)).map u6) true (dig Z (val Z da*f)).length N) h:=by
 refine ul ?_
 have hli:∀h:Hp,du 1 [D.int .u64 0] [(0,U f)] h=some ([u6 f],h):=λh=>by
  rfl
 have hu2:((h++[(0,Bk.none),nnQ]).all λx=>aF (h++[(0,Bk.none),nnQ]).length x.2)=true:=by
  rw[Y2,Oy ac hu];rfl
 simp[cr,hli];have t1:=YZ hu2 (l:=[f]) ac;rw[SU]at t1;refine fT (args:=[lst u6 [f]]) t1 ?_ (by simp[lst]) (by simp[lst]);have hfl:(trimS f).length=1:=by simp[trimS,show f≠0 by omega]
 have t2:=G7 hu2 ha hsa (YO _ (trimS f)) (Kw hf) hla aa (N:=N) aa;rw[QI]at t2;simp;refine iz (e:=0) (b:=.none) t2 ac ?_;refine⟨ac,aa,.inr (.inr (.inl ⟨h.length+1,1,_,N,1,(bL N (val Z da*f)).map u6,true,by rfl,aa,by simp[ax],rfl⟩))⟩
def sP(h:Hp)(s e:Nat)(ex:Bool)(l:LnQ):Hp:=h.set s (e,.data 1 (l.map u6) ex false)
theorem rY{h:Hp}{s e:Nat}{ex:Bool}{l:LnQ}(hs:s<h.length):(sP h s e ex l)[s]?=some (e,.data 1 (l.map u6) ex false):=by simp[sP,hs]
theorem TP{h:Hp}{s e:Nat}{ex:Bool}{l:LnQ}:(sP h s e ex l).set s (e,.data 1 (l'.map u6) ex false)=sP h s e ex l':=by simp[sP]
@[simp]theorem ag5{h:Hp}{s e:Nat}{ex:Bool}{l:LnQ}:(sP h s e ex l).length=h.length:=by simp[sP]
theorem A7{b:Nat}{h:Hp}{s e:Nat}{ex:Bool}{l:LnQ}(hu:(h.all λx=>aF b x.2)=true):((sP h s e ex l).all λx=>aF b x.2)=true:=by
 rw[Z1]at hu ⊢;intro x hx;rcases Yo hx with h1|h1
 .grind
 .rw[h1];rfl
def RdS(P:Hp->Prop)(a:V)(l:LnQ):Prop:=aX a=some (I l.length)∧∀(t:Hp)(i:Nat),P t->i<l.length->∃p,ixV t 1 a (I i)=some p∧ld1 t p=some (U (nth 0 l i:Nat))
def iU(g at_:Nat)(db:LnQ):Nat->Nat->Nat->Nat->LnQ->Nat×LnQ
 |0,_,_,w,l=>(w,l)
 | r+1,k,c,w,l=>
  if nth 0 l (at_+k)<(c+g*nth 0 db k)%Z+w then iU g at_ db r (k+1) ((c+g*nth 0 db k)/Z) 1 (l.set (at_+k) (nth 0 l (at_+k)+Z-((c+g*nth 0 db k)%Z+w)))
  else iU g at_ db r (k+1) ((c+g*nth 0 db k)/Z) 0 (l.set (at_+k) (nth 0 l (at_+k)-((c+g*nth 0 db k)%Z+w)))
variable{h:Hp}{s e tot at_ g:Nat}{ex:Bool}{t1:V}{db:LnQ}
theorem QR(hs:s<h.length)(hb:RdS (λt=>∃l,t=sP h s e ex l) t1 db)(hsb:aI Z db)(hg:g<Z)(hat:at_+db.length<tot)(ht:tot<1000000000000)(hlen:tot=len)(k:KL)(h0:Hp)(hh:h0.length=h.length):
  ∀(r j c w:Nat)(l:LnQ),j+r=db.length+1->c<Z->w<=1->l.length=tot->aI Z l ->
  k (.exit 0) [I ((iU g at_ db r j c w l).1:Nat)] (sP h s e ex (iU g at_ db r j c w l).2) ->
  lp (fR (CX Y) h.length (.ref s e 0 len cap tot) t1 (U g) (I at_)) [] h0 [U c,I w,I j] (sP h s e ex l) k:=by
 intro r
 induction r with
 | zero=>
  intro j c w l hj hc hw hl hsl hk;refine aj ?_;have g1:¬j<=db.length:=aa;have hl1:=hb.1;simp[fR,hl1,g1];exact hk
 | succ r ih=>
  intro j c w l hj hc hw hl hsl hk;have hjl:j<=db.length:=aa;obtain⟨m,hm⟩:=nmQ (at_+j);have hml:m<l.length:=aa;obtain⟨y,hy⟩:=mnQ (nth 0 db j);have hys:y<Z:=by rw[<-hy];exact hsb.getD bE j
  obtain⟨x,hx⟩:=mnQ (nth 0 l m);have hxs:x<Z:=by rw[<-hx];exact hsl.getD bE m
  obtain⟨p,hp⟩:=nmQ (g*y);have hxy:p<=999999999*999999999:=by rw[hp];exact Zp (by grind[Z]) (by grind[Z])
  have hpi:(g:Int)*(y:Int)=(p:Int):=by rw[hp];simp
  have e1:((at_:Int)+(j:Int))=(m:Int):=aa;have hZ:Z=1000000000:=rfl;have hl1:=hb.1;have r3:=C2 (rY (e:=e) (ex:=ex) (l:=l) hs) hl.symm (len:=len) (cap:=cap) (i:=(m:Int)) aa aa .i64;have r4:=Jt (rY (e:=e) (ex:=ex) (l:=l) hs) hl.symm hml;have r5:=QV (rY (e:=e) (ex:=ex) (l:=l) hs) hl.symm hml;simp only[TP]at r5;rw[hx]at r4;rw[Int.toNat_natCast]at r3
  rw[iU,hy,<-hp,<-hm,hx]at hk;have hsm:(∀v,v<Z->aI Z (l.set m v)):=λv hv=>hsl.set hv
  obtain⟨t,ht1⟩:=mnQ (c+p);rw[ht1]at hk;obtain⟨tm,htm⟩:=mnQ (t%Z);obtain⟨td,htd⟩:=mnQ (t/Z);rw[htm,htd]at hk;have ht2:t<1000000000000000000:=by simp only[hZ]at *;omega
  have htdZ:td<Z:=by simp only[hZ]at *;omega
  have htmZ:tm<Z:=by simp only[hZ]at *;omega
  have e3:((t:Int)%1000000000)=(tm:Int):=by simp only[hZ]at htm;omega
  have e4:((t:Int)/1000000000)=(td:Int):=by simp only[hZ]at htd;omega
  have main:∀(v:Nat)(w':Nat),v<Z->w'<=1->k (.exit 0) [I ((iU g at_ db r (j+1) td w' (l.set m v)).1:Nat)] (sP h s e ex (iU g at_ db r (j+1) td w' (l.set m v)).2) ->
    lp (fR (CX Y) h.length (.ref s e 0 len cap tot) t1 (U g) (I at_)) [] h0 [U td,I w',I (j+1:Nat)] (sP h s e ex (l.set m v)) k:=λv w' hv hw' hk'=>
   ih (j+1) td w' (l.set m v) aa htdZ hw' (by grind) (hsm v hv) hk'
  clear ih;have e2:(c:Int)+(p:Int)=(t:Int):=aa;refine aj ?_;simp[fR,hl1,hjl];refine gI (l:=[U t]) (h:=sP h s e ex l) (λq=>?_) ?_
  .by_cases g2:j<db.length
   .obtain⟨pb,q1,q2⟩:=hb.2 (sP h s e ex l) j ⟨l,rfl⟩ g2;rw[hy]at q2;simp(disch:=try exact ae)[g2,q1,q2,hpi,e2]
   .have hy0:nth 0 db j=0:=by simp[nth,List.getElem?_eq_none (show db.length<=j by omega)]
    rw[hy]at hy0;subst hy0;simp only[Nat.mul_zero]at hp;subst hp;obtain rfl:c=t:=aa;simp[g2]
  .simp(disch:=try exact ae)[e1,r3,r4,Zx,Zt,e3,e4];by_cases hxt:x<tm+w
   .rw[if_pos hxt]at hk;obtain⟨v,hv⟩:=mnQ (x+Z-(tm+w));rw[hv]at hk;have hvZ:v<Z:=aa;have e5:(x:Int)-tm-w<0:=aa;have e6:(x:Int)-tm-w+1000000000=v:=by simp only[hZ]at hv;omega
    have r6:=r5 v;refine gI (l:=[I v,I (1:Nat)]) (h:=sP h s e ex l) (λq=>?_) ?_
    .simp(disch:=try exact ae)[e5,e6]
    .simp(disch:=try exact ae)[e1,r3,r6];simpa using main v 1 hvZ (Z8 _) hk
   .rw[if_neg hxt]at hk;obtain⟨v,hv⟩:=mnQ (x-(tm+w));rw[hv]at hk;have hvZ:v<Z:=aa;have e5:¬((x:Int)-tm-w<0):=aa;have e6:(x:Int)-tm-w=v:=aa;have r6:=r5 v;refine gI (l:=[I v,I (0:Nat)]) (h:=sP h s e ex l) (λq=>?_) ?_
    .rw[e6]at e5 ⊢;simp[e5]
    .simp(disch:=try exact ae)[e1,r3,r6];simpa using main v 0 hvZ (Zc _) hk
theorem KD(hu:(h.all λx=>aF h.length x.2)=true)(hs:s<h.length)(hb:RdS (λt=>∃l,t=sP h s e ex l) t1 db)(hsb:aI Z db)(hg:g<Z)(hat:at_+db.length<tot)(ht:tot<1000000000000){l:LnQ}(hl:l.length=tot)(hsl:aI Z l):
  CI Y F.dF [.ref s e 0 tot tot tot,t1,U g,I at_] (sP h s e ex l) (B (decide (0<(iU g at_ db (db.length+1) 0 0 0 l).1))) (sP h s e ex (iU g at_ db (db.length+1) 0 0 0 l).2):=by refine vQ ?_;simp[dF];refine lo (QR hs hb hsb hg hat ht rfl _ _ ac (db.length+1) 0 0 0 l aa bE (Zc _) hl hsl ?_);simp;refine⟨(Z3 ac).symm,?_,.inl ⟨rfl,rfl⟩⟩;exact A7 hu
def qW(at_:Nat)(db:LnQ):Nat->Nat->Nat->LnQ->LnQ
 |0,_,_,l=>l
 |r+1,k,c,l=>qW at_ db r (k+1) ((c+nth 0 l (at_+k)+nth 0 db k)/Z) (l.set (at_+k) ((c+nth 0 l (at_+k)+nth 0 db k)%Z))
theorem Sy(hs:s<h.length)(hb:RdS (λt=>∃l,t=sP h s e ex l) t1 db)(hsb:aI Z db)(hat:at_+db.length<tot)(ht:tot<1000000000000)(hlen:tot=len)(k:KL)(h0:Hp)(hh:h0.length=h.length):
  ∀(r j c:Nat)(l:LnQ),j+r=db.length+1->c<Z->l.length=tot->aI Z l ->
  k (.exit 0) [] (sP h s e ex (qW at_ db r j c l)) ->
  lp (iS (CX Y) h.length (.ref s e 0 len cap tot) t1 (I at_)) [] h0 [U c,I j] (sP h s e ex l) k:=by
 intro r
 induction r with
 | zero=>
  intro j c l hj hc hl hsl hk;refine aj ?_;have g1:¬j<=db.length:=aa;have hl1:=hb.1;simp[iS,hl1,g1];exact hk
 | succ r ih=>
  intro j c l hj hc hl hsl hk;have hjl:j<=db.length:=aa;obtain⟨m,hm⟩:=nmQ (at_+j);have hml:m<l.length:=aa;obtain⟨y,hy⟩:=mnQ (nth 0 db j);have hys:y<Z:=by rw[<-hy];exact hsb.getD bE j
  obtain⟨x,hx⟩:=mnQ (nth 0 l m);have hxs:x<Z:=by rw[<-hx];exact hsl.getD bE m
  have e1:((at_:Int)+(j:Int))=(m:Int):=aa;have hZ:Z=1000000000:=rfl;have hl1:=hb.1;have r3:=C2 (rY (e:=e) (ex:=ex) (l:=l) hs) hl.symm (len:=len) (cap:=cap) (i:=(m:Int)) aa aa .i64;have r4:=Jt (rY (e:=e) (ex:=ex) (l:=l) hs) hl.symm hml;have r5:=QV (rY (e:=e) (ex:=ex) (l:=l) hs) hl.symm hml;simp only[TP]at r5;rw[hx]at r4;rw[Int.toNat_natCast]at r3
  rw[qW,hy,<-hm,hx]at hk;obtain⟨t,ht1⟩:=mnQ (c+x+y);rw[ht1]at hk;obtain⟨tm,htm⟩:=mnQ (t%Z);obtain⟨td,htd⟩:=mnQ (t/Z);rw[htm,htd]at hk;have ht2:t<3000000000:=by simp only[hZ]at *;omega
  have htdZ:td<Z:=by simp only[hZ]at *;omega
  have htmZ:tm<Z:=by simp only[hZ]at *;omega
  have e3:((t:Int)%1000000000)=(tm:Int):=by simp only[hZ]at htm;omega
  have e4:((t:Int)/1000000000)=(td:Int):=by simp only[hZ]at htd;omega
  have ih2:=ih (j+1) td (l.set m tm) aa htdZ (by grind) (hsl.set htmZ) hk;have r6:=r5 tm;clear ih;refine aj ?_;simp(disch:=try exact ae)[iS,hl1,hjl,e1,r3,r4];refine gI (l:=[U t]) (h:=sP h s e ex l) (λq=>?_) ?_
  .by_cases g2:j<db.length
   .obtain⟨pb,q1,q2⟩:=hb.2 (sP h s e ex l) j ⟨l,rfl⟩ g2;rw[hy]at q2;have e2:(c:Int)+(x:Int)+(y:Int)=(t:Int):=aa;simp(disch:=try exact ae)[g2,q1,q2,e2]
   .have hy0:nth 0 db j=0:=by simp[nth,List.getElem?_eq_none (show db.length<=j by omega)]
    rw[hy]at hy0;subst hy0;have e2:(c:Int)+(x:Int)=(t:Int):=aa;simp[g2,e2]
  .simp(disch:=try exact ae)[e1,r3,r4,Zx,Zt,e3,e4,r6];trivial
theorem MO(hu:(h.all λx=>aF h.length x.2)=true)(hs:s<h.length)(hb:RdS (λt=>∃l,t=sP h s e ex l) t1 db)(hsb:aI Z db)(hat:at_+db.length<tot)(ht:tot<1000000000000){l:LnQ}(hl:l.length=tot)(hsl:aI Z l):
  CI Y F.cM [.ref s e 0 tot tot tot,t1,I at_] (sP h s e ex l) (.tup []) (sP h s e ex (qW at_ db (db.length+1) 0 0 l)):=by refine vU ?_;simp[cM];refine lo (Sy hs hb hsb hat ht rfl _ _ ac (db.length+1) 0 0 l aa bE hl hsl ?_);simp;refine⟨(Z3 ac).symm,?_,.inl ⟨rfl,rfl⟩⟩;exact A7 hu
end Go.Vm
namespace Go.Big
section
variable{B:Nat}
theorem mi(l:LnQ)(i:Nat)(h:i<=l.length):val B l=val B (l.take i)+B^i*val B (l.drop i):=by have:=val_append (B:=B) (l.take i) (l.drop i);rw[X4,Zr,Ys h]at this;exact this
theorem YX(l:LnQ)(z:Nat):val B (l++List.replicate z 0)=val B l:=by rw[val_append,AO];simp
theorem Ky(hB:0<B){l:LnQ}{n:Nat}(h:val B l<B^n):val B (l.drop n)=0:=by
 rcases Zi n l.length with h1|h1
 .have:=mi (B:=B) l n aa;rcases Zf (val B (l.drop n))with h2|h2
  .exact h2
  .have:=Z2 (B^n) h2;omega
 .rw[Zb h1];rfl
variable{L lD lB x0 x1 x2 y0 y1 D v g r hi:Nat}
structure Gs(B L lD lB x0 x1 x2 y0 y1 D v hi:Nat):Prop where
 B0:0<B
 D_eq:D=lD+L*(x0+B*hi)
 v_eq:v=lB+L*(y0+B*y1)
 lDL:lD<L
 lBL:lB<L
 hx0:x0<B
 hy0:y0<B
 hy1:0<y1
 hD:D<B*v
theorem Gs.vpos(G:Gs B L lD lB x0 x1 x2 y0 y1 D v hi):L*B<=v:=by
 rw[G.v_eq]
 have h1:L*B<=L*(y0+B*y1):=Z2 L (by
  have:=Z2 B G.hy1;omega)
 omega
theorem Gs.pos(G:Gs B L lD lB x0 x1 x2 y0 y1 D v hi):0<v:=by have:=G.vpos;have h1:=G.lDL;have h2:0<L*B:=X0 aa G.B0;omega
theorem Gs.first(G:Gs B L lD lB x0 x1 x2 y0 y1 D v hi):D/v<=hi/y1:=by
 have hvp:=G.pos;rw[X3 G.hy1];have h1:D/v*v<=D:=Wy D v;generalize D/v=q at *
 have h2:q*(L*(B*y1))<=q*v:=Z2 q (by
  rw[G.v_eq];have:=Z2 L (Nat.le_add_left (B*y1) y0);omega)
 have h3:D<L*B*(hi+1):=by
  rw[G.D_eq];have:=G.lDL;have h4:=Z2 L (show x0+1+B*hi<=B*(hi+1) by rw[Zn];have:=G.hx0;omega);rw[<-Nat.mul_assoc]at h4
  have h5:L*(x0+1+B*hi)=L+L*(x0+B*hi):=by
   rw[show x0+1+B*hi=1+(x0+B*hi) by omega,Zn];simp
  omega
 have h6:q*(L*(B*y1))=L*B*(q*y1):=by
  rw[<-Nat.mul_assoc L B y1,Y0]
 have h7:L*B*(q*y1)<L*B*(hi+1):=aa;have:=Nat.lt_of_mul_lt_mul_left h7;omega
theorem Gs.far(G:Gs B L lD lB x0 x1 x2 y0 y1 D v hi)(h:B<=g):D/v<g:=by have:=(Xc G.pos).2 G.hD;omega
theorem Gs.over(G:Gs B L lD lB x0 x1 x2 y0 y1 D v hi)(he:g*y1+r=hi)(h:r*B+x0<g*y0):D/v<g:=by
 rw[Xc G.pos]
 have h1:L*(x0+1+B*hi)<=g*v:=by
  rw[G.v_eq];have h2:g*(L*(y0+B*y1))<=g*(lB+L*(y0+B*y1)):=Z2 g aa
  have h3:g*(L*(y0+B*y1))=L*(g*y0+B*(g*y1)):=by
   rw[Y0 g L,Zn,Y0 g B]
  have h4:L*(x0+1+B*hi)<=L*(g*y0+B*(g*y1)):=Z2 L (by
   rw[<-he,Zn,Zq B r];omega)
  omega
 have h5:L*(x0+1+B*hi)=L+L*(x0+B*hi):=by
  rw[show x0+1+B*hi=1+(x0+B*hi) by omega,Zn];simp
 have:=G.lDL;rw[G.D_eq];omega
theorem Gs.near(G:Gs B L lD lB x0 x1 x2 y0 y1 D v hi)(he:g*y1+r=hi)(hg:g<B)(h:¬(r<B∧r*B+x0<g*y0)):g*v<D+v:=by
 have h0:g*(y0+B*y1)<=x0+B*hi:=by
  rw[Zn,Y0 g B,<-he,Zn];by_cases hr:r<B
  .have:¬r*B+x0<g*y0:=λh'=>h ⟨hr,h'⟩
   rw[Zq r B]at this;omega
  .have h1:g*y0<=B*B:=Zp aa (by have:=G.hy0;omega);have h2:=Z2 B (show B<=r by omega);omega
 have h1:=Z2 L h0
 have h2:g*lB<L*B:=by
  have:=Zp (show g<=B-1 by omega) (show lB<=L by have:=G.lBL;omega);have hL:0<L:=by have:=G.lBL;omega
  have h3:(B-1)*L+L=L*B:=by
   have:=G.B0;obtain⟨b,rfl⟩:∃b,B=b+1:=⟨B-1,aa⟩;rw[Nat.add_sub_cancel,Zq L,X1]
  omega
 have h3:g*v=g*lB+L*(g*(y0+B*y1)):=by
  rw[G.v_eq,Zn,Y0 g L]
 have h4:=G.vpos;have h5:=G.D_eq;omega
end
end Go.Big
namespace Go.Vm
open Go Go.Am Go.Big
variable{l:LnQ}{h h1 h2:Hp}{a b va vb:V}
theorem yw{m n v:Nat}(h:m≠n):nth 0 (l.set m v) n=nth 0 l n:=by simp[nth,List.getElem?_set_ne h]
structure Frm(l l':LnQ)(a b:Nat):Prop where
 len:l'.length=l.length
 same:∀m,m<a∨b<=m->nth 0 l' m=nth 0 l m
theorem Ed{g at_:Nat}(hg:g<Z){db:LnQ}(hsb:aI Z db):∀(r j c w:Nat)(l:LnQ),at_+j+r<=l.length->c<Z->w<=1->aI Z l->c+g*val Z (db.drop j)<Z^r ->
  Frm l (iU g at_ db r j c w l).2 (at_+j) (at_+j+r)∧aI Z (iU g at_ db r j c w l).2∧(iU g at_ db r j c w l).1<=1 ∧
  val Z (iU g at_ db r j c w l).2+Z^(at_+j)*(c+g*val Z (db.drop j)+w)=val Z l+Z^(at_+j+r)*(iU g at_ db r j c w l).1
 | 0,j,c,w,l,hl,hc,hw,hs,hT=>by
  have h0:c+g*val Z (db.drop j)=0:=by simp at hT;omega
  refine⟨⟨rfl,λ_ _=>rfl⟩,hs,hw,?_⟩;rw[h0,Zk];rfl
 | r+1,j,c,w,l,hl,hc,hw,hs,hT=>by
  obtain⟨m,hm⟩:=nmQ (at_+j);have hml:m<l.length:=aa;obtain⟨x,hx⟩:=mnQ (nth 0 l m);have hxs:x<Z:=by rw[<-hx];exact hs.getD bE m
  obtain⟨y,hy⟩:=mnQ (nth 0 db j);rw[iU,hy,<-hm,hx];have hvd:val Z (db.drop j)=y+Z*val Z (db.drop (j+1)):=by rw[qu,show db.getD j 0=y from hy]
  obtain⟨V,hV⟩:=mnQ (val Z (db.drop (j+1)));rw[hvd,hV]at hT ⊢;obtain⟨t,ht⟩:=mnQ (c+g*y);rw[ht];obtain⟨tm,htm⟩:=mnQ (t%Z);obtain⟨td,htd⟩:=mnQ (t/Z);have hdm:t=tm+Z*td:=by rw[<-htm,<-htd];exact(Xw t Z).symm
  have htmZ:tm<Z:=by rw[<-htm];exact Y3 _ bE
  rw[htm,htd]
  have hsum:c+g*(y+Z*V)=tm+Z*(td+g*V):=by
   rw[Zn,Y0 g Z,Zn];omega
  rw[hsum]at hT ⊢
  have hT2:td+g*V<Z^r:=by
   rw[Nat.pow_succ,Zq (Z^r)]at hT;have:Z*(td+g*V)<Z*Z^r:=aa;exact Nat.lt_of_mul_lt_mul_left this
  have step:∀(v w':Nat),v<Z->w'<=1->v+(tm+w)=x+Z*w'->td<Z ->
    Frm l (iU g at_ db r (j+1) td w' (l.set m v)).2 (at_+j) (at_+j+(r+1))∧aI Z (iU g at_ db r (j+1) td w' (l.set m v)).2∧(iU g at_ db r (j+1) td w' (l.set m v)).1<=1 ∧
    val Z (iU g at_ db r (j+1) td w' (l.set m v)).2+Z^m*(tm+Z*(td+g*V)+w)=val Z l+Z^(m+(r+1))*(iU g at_ db r (j+1) td w' (l.set m v)).1:=by
   intro v w' hv hw' he htd2;obtain⟨⟨f1,f2⟩,i2,i3,i4⟩:=Ed hg hsb (g:=g) (at_:=at_) r (j+1) td w' (l.set m v) aN htd2 hw' (hs.set hv) (by rw[hV];exact hT2);refine⟨⟨by rw[f1];simp,λn hn=>?_⟩,i2,i3,?_⟩
   .rw[f2 n aa,yw aa]
   .have hvs:=w8 (B:=Z) l m v hml;rw[show l.getD m 0=x from hx]at hvs;rw[hV,show at_+(j+1)=m+1 by omega]at i4;rw[show m+(r+1)=m+1+r by omega];generalize val Z (iU g at_ db r (j+1) td w' (l.set m v)).2=R at *;generalize(iU g at_ db r (j+1) td w' (l.set m v)).1=W at *;generalize val Z (l.set m v)=R1 at *;generalize val Z l=R0 at *;generalize td+g*V=T at *
    rw[Nat.pow_succ Z m,Nat.mul_assoc (Z^m) Z (T+w')]at i4;generalize Z^m=P at *;have h1:P*v+P*(tm+w)=P*x+P*(Z*w'):=by rw[<-Zn,<-Zn,he]
    have h2:P*(Z*(T+w'))=P*(Z*T)+P*(Z*w'):=by rw[Zn Z,Zn]
    have h3:P*(tm+Z*T+w)=P*(tm+w)+P*(Z*T):=by rw[<-Zn];congr 1;omega
    omega
  have htd2:td<Z:=by
   have hy2:y<Z:=by rw[<-hy];exact hsb.getD bE j
   have:=Zp (show g<=999999999 by simp only[Z]at hg;omega) (show y<=999999999 by simp only[Z]at hy2;omega);simp only[Z]at *;omega
  rw[<-hm]at step;by_cases hlt:x<tm+w
  .simp only[if_pos hlt];exact step _ 1 aa (Z8 _) aa htd2
  .simp only[if_neg hlt];exact step _ 0 aa (Zc _) aa htd2
theorem F8{at_:Nat}{db:LnQ}(hsb:aI Z db):∀(r j c:Nat)(l:LnQ),at_+j+r<=l.length->c<=1->aI Z l ->
  Frm l (qW at_ db r j c l) (at_+j) (at_+j+r)∧aI Z (qW at_ db r j c l) ∧
  ∃ce,val Z (qW at_ db r j c l)+Z^(at_+j+r)*(ce+val Z (db.drop (j+r)))=val Z l+Z^(at_+j)*(c+val Z (db.drop j))
 |0,j,c,l,hl,hc,hs=>⟨⟨rfl,λ_ _=>rfl⟩,hs,c,rfl⟩
 | r+1,j,c,l,hl,hc,hs=>by
  obtain⟨m,hm⟩:=nmQ (at_+j);have hml:m<l.length:=aa;obtain⟨x,hx⟩:=mnQ (nth 0 l m);have hxs:x<Z:=by rw[<-hx];exact hs.getD bE m
  obtain⟨y,hy⟩:=mnQ (nth 0 db j);have hys:y<Z:=by rw[<-hy];exact hsb.getD bE j
  rw[qW,hy,<-hm,hx];have hvd:val Z (db.drop j)=y+Z*val Z (db.drop (j+1)):=by rw[qu,show db.getD j 0=y from hy]
  obtain⟨t,ht⟩:=mnQ (c+x+y);rw[ht];obtain⟨tm,htm⟩:=mnQ (t%Z);obtain⟨td,htd⟩:=mnQ (t/Z);have hdm:t=tm+Z*td:=by rw[<-htm,<-htd];exact(Xw t Z).symm
  have htmZ:tm<Z:=by rw[<-htm];exact Y3 _ bE
  have htd1:td<=1:=by simp only[Z]at *;omega
  rw[htm,htd];obtain⟨⟨f1,f2⟩,i2,ce,i4⟩:=F8 hsb (at_:=at_) r (j+1) td (l.set m tm) aN htd1 (hs.set htmZ);refine⟨⟨by rw[f1];simp,λn hn=>?_⟩,i2,ce,?_⟩
  .rw[f2 n aa,yw aa]
  .have hvs:=w8 (B:=Z) l m tm hml;rw[show l.getD m 0=x from hx]at hvs;rw[show at_+(j+1)=m+1 by omega,show j+1+r=j+(r+1) by omega]at i4;rw[show m+(r+1)=m+1+r by omega,hvd];generalize val Z (qW at_ db r (j+1) td (l.set m tm))=R at *;generalize val Z (l.set m tm)=R1 at *;generalize val Z l=R0 at *;generalize val Z (db.drop (j+1))=V at *
   rw[Nat.pow_succ Z m,Nat.mul_assoc (Z^m) Z (td+V)]at i4;generalize Z^(m+1+r)*(ce+val Z (db.drop (j+(r+1))))=Q at *;generalize Z^m=P at *;have h1:P*tm+P*(Z*td)=P*x+P*(c+y):=by rw[<-Zn,<-Zn,<-hdm,<-ht];congr 1;omega
   have h2:P*(Z*(td+V))=P*(Z*td)+P*(Z*V):=by rw[Zn Z,Zn]
   have h3:P*(c+(y+Z*V))=P*(c+y)+P*(Z*V):=by rw[<-Zn];congr 1;omega
   omega
theorem Frm.take{l l':LnQ}{a b:Nat}(h:Frm l l' a b):l'.take a=l.take a:=by
 refine W0 (by simp[h.len]) λi h1 h2=>?_
 simp only[Zr]at h1 h2;have:=h.same i (.inl aa);rw[ft _ _ _ aa,ft _ _ _ aa]at this;simpa using this
theorem Frm.drop{l l':LnQ}{a b:Nat}(h:Frm l l' a b):l'.drop b=l.drop b:=by
 refine W0 (by simp[h.len]) λi h1 h2=>?_
 simp only[Yq]at h1 h2;have:=h.same (b+i) (.inr aa);rw[ft _ _ _ aa,ft _ _ _ aa]at this;simpa using this
theorem Sk{al db:LnQ}{i g:Nat}(hsa:aI Z al)(hsb:aI Z db)(hi:i+db.length<al.length)(hg:g<Z)(hD:val Z (al.drop i)<Z*val Z db)(h1:g*val Z db<val Z (al.drop i)+val Z db)(h2:val Z (al.drop i)/val Z db<=g)
  {w:Nat} {l1 l2:LnQ} (hw:(iU g i db (db.length+1) 0 0 0 al).1=w) (hl1:(iU g i db (db.length+1) 0 0 0 al).2=l1) (hl2:qW i db (db.length+1) 0 0 l1=l2) :
  (l1.length=al.length∧aI Z l1) ∧
  (w=0->aI Z l1∧l1.length=al.length∧l1.take i=al.take i∧g=val Z (al.drop i)/val Z db∧val Z (l1.drop i)=val Z (al.drop i)%val Z db) ∧
  (0<w->aI Z l2∧l2.length=al.length∧l2.take i=al.take i∧0<g∧g-1=val Z (al.drop i)/val Z db∧val Z (l2.drop i)=val Z (al.drop i)%val Z db):=by
 have hvb:=jE (B:=Z) bE hsb
 have hvp:0<val Z db:=by
  rcases Zf (val Z db)with h|h
  .rw[h]at hD;simp at hD
  .exact h
 have hpow:Z^(db.length+1)=Z*Z^db.length:=by rw[Nat.pow_succ,Zq]
 have hDlt:val Z (al.drop i)<Z^(db.length+1):=by
  rw[hpow];exact Nat.lt_trans hD (Nat.mul_lt_mul_of_pos_left hvb bE)
 have htop:val Z (al.drop (i+(db.length+1)))=0:=by
  rw[<-List.drop_drop];exact Ky bE hDlt
 obtain ⟨f,s1,w1,e⟩:=Ed hg hsb (db.length+1) 0 0 0 al aa bE (Zc _) hsa (by
  rw[Yu,Zk,hpow];have a1:=Z2 g (show val Z db<=Z^db.length by omega);have a2:=Nat.mul_lt_mul_of_pos_right hg (show 0<Z^db.length from Xn bE);omega) (at_:=i) (g:=g)
 rw[hw,hl1]at e;rw[hl1]at f s1;rw[hw]at w1;simp only[Nat.add_zero,Yu,Zk]at e f;have len1:=f.len
 have below:∀{l:LnQ},aI Z l->l.drop (i+(db.length+1))=al.drop (i+(db.length+1))->val Z (l.drop i)<Z^(db.length+1):=λ{l} hs he=>by
  have hz:=mi (B:=Z) (l.drop i) (min (db.length+1) (l.drop i).length) (Nat.min_le_right ..);by_cases hc:db.length+1<=(l.drop i).length
  .rw[Ys hc,List.drop_drop,he,htop,Nat.mul_zero,Nat.add_zero]at hz;rw[hz];have:=jE (B:=Z) bE ((hs.drop i).take (db.length+1));rw[Zr,Ys hc]at this;exact this
  .have:=jE (B:=Z) bE (hs.drop i);exact Z0 this (Zz bE aa)
 have hsp:∀{l:LnQ},l.length=al.length->l.take i=al.take i->val Z l=val Z (al.take i)+Z^i*val Z (l.drop i):=λ{l} h h'=>by
  rw[<-h'];exact mi l i aa
 have hal:=mi (B:=Z) al i aa;have hdm:=Xf (val Z (al.drop i)) (val Z db);have hml:=Y3 (val Z (al.drop i)) hvp;have b1:=below s1 f.drop;rw[hsp len1 f.take,hal,X8,Nat.mul_assoc (Z^i)]at e
 have e2:val Z (l1.drop i)+g*val Z db=val Z (al.drop i)+Z^(db.length+1)*w:=by
  have:Z^i*(val Z (l1.drop i)+g*val Z db)=Z^i*(val Z (al.drop i)+Z^(db.length+1)*w):=by rw[Zn,Zn];omega
  exact X5 (Xn bE) this
 obtain⟨D,hDe⟩:=mnQ (val Z (al.drop i));obtain⟨v,hve⟩:=mnQ (val Z db);refine⟨⟨len1,s1⟩,λw0=>?_,λwp=>?_⟩
 .subst w0;rw[Nat.mul_zero,Nat.add_zero]at e2
  have hq:g=val Z (al.drop i)/val Z db:=by
   refine Nat.le_antisymm ?_ h2;rw[X3 hvp];omega
  refine⟨s1,len1,f.take,hq,?_⟩;rw[<-hq]at hdm;rw[Zq]at hdm;omega
 .have hw1:w=1:=aa;subst hw1;obtain⟨f2,s2,ce,e3⟩:=F8 hsb (at_:=i) (db.length+1) 0 0 l1 aa (Zc _) s1;rw[hl2]at f2 s2 e3;simp only[Nat.add_zero,Yu,Zk]at e3 f2;have hdn:db.drop (db.length+1)=[]:=Zb aa;rw[hdn,show val Z []=0 from rfl]at e3;simp only[Nat.add_zero]at e3
  have len2:l2.length=al.length:=by rw[f2.len,len1]
  have tk2:l2.take i=al.take i:=by rw[f2.take,f.take]
  have b2:=below s2 (by rw[f2.drop,f.drop]);rw[hsp len2 tk2,hsp len1 f.take,X8,Nat.mul_assoc (Z^i)]at e3
  have e4:val Z (l2.drop i)+Z^(db.length+1)*ce=val Z (l1.drop i)+val Z db:=by
   have:Z^i*(val Z (l2.drop i)+Z^(db.length+1)*ce)=Z^i*(val Z (l1.drop i)+val Z db):=by rw[Zn,Zn];omega
   exact X5 (Xn bE) this
  have hgl:g*val Z db<=(val Z (al.drop i)/val Z db+1)*val Z db:=by
   rcases Zi (val Z (al.drop i)/val Z db+1) g with h3|h3
   .exfalso;have h4:=Zs (val Z db) (show val Z (al.drop i)/val Z db+2<=g by omega);rw[Nat.add_mul,Zq (val Z (al.drop i)/val Z db)]at h4;omega
   .exact Zs _ h3
  have hgp:0<g:=by
   rcases Zf g with h|h
   .subst h;omega
   .exact h
  have hgq:g=val Z (al.drop i)/val Z db+1:=by
   refine Nat.le_antisymm ?_ ?_
   .exact Nat.le_of_mul_le_mul_right hgl hvp
   .rw[Nat.succ_le_iff,Xc hvp];omega
  refine⟨s2,len2,tk2,hgp,aa,?_⟩;rw[hgq,Nat.add_mul,Wr,Zq (val Z (al.drop i)/val Z db)]at e2;generalize Z^(db.length+1)=P at *
  have hce:ce=1:=by
   rcases Zi ce 1 with h|h
   .have:ce=0:=aa;subst this;omega
   .rcases Zi ce 2 with h'|h'
    .omega
    .have:=Z2 P h';omega
  subst hce;omega
def IZ(o:LnQ):Hp:=[(1,.data 1 (o.map u6) true false),nnQ]
theorem zD(o:LnQ):(IZ o)[0]?=some (1,.data 1 (o.map u6) true false):=rfl
theorem US(o o':LnQ):(IZ o).set 0 (1,.data 1 (o'.map u6) true false)=IZ o':=rfl
@[simp]theorem afd(o:LnQ):(IZ o).length=2:=rfl
theorem Ce{p:LnQ}(hsp:aI Z p)(hpl:p.length<1000000000000){n N:Nat}(hn:0<n)(hnZ:n<=Z)(hN:N=p.length)(k:KL)(h0:Hp)(hh:h0.length=2) :
  ∀(i:Nat)(o:LnQ)(r:Nat),i<=p.length->o.length=N->aI Z o->r<n->val Z (p.drop i)=n*val Z (o.drop i)+r ->
  (∀o' r',o'.length=N->aI Z o'->r'<n->val Z p=n*val Z o'+r'->k (.exit 0) [U (r':Nat)] (IZ o')) ->
  lp (iw (CX Y) (lst u6 p) (U n) (.ref 0 1 0 N N N)) [] h0 [U r,I ((i:Int)-1)] (IZ o) k
 | 0,o,r,hi,ho,hso,hr,hv,hk=>by
  refine aj ?_;simp[iw];exact hk o r ho hso hr (by simpa using hv)
 | i+1,o,r,hi,ho,hso,hr,hv,hk=>by
  obtain⟨x,hx⟩:=mnQ (nth 0 p i);have hxs:x<Z:=by rw[<-hx];exact hsp.getD bE i
  have e1:=λh:Hp=>nJ u6 p h (k:=.i64) (i:=(i:Int)) aa aa
  have e2:=λh:Hp=>Fa p h (j:=i) aa
  rw[hx]at e2;have r3:=C2 (zD o) ho.symm (len:=N) (cap:=N) (i:=(i:Int)) aa aa .i64;have r5:=QV (zD o) ho.symm (j:=i) aa;simp only[US]at r5;simp only[Int.toNat_natCast]at e1 r3;have e0:((i+1:Nat):Int)-1=(i:Int):=aa;have hZ:Z=1000000000:=rfl;obtain⟨t,ht⟩:=mnQ (r*Z+x);obtain⟨q,hq⟩:=mnQ (t/n)
  obtain⟨r2,hr2⟩:=mnQ (t%n);have hdm:n*q+r2=t:=by rw[<-hq,<-hr2];exact Xf t n
  have hr2n:r2<n:=by rw[<-hr2];exact Y3 _ hn
  have htn:t<Z*n:=by
   have:=Zs Z (show r+1<=n by omega);rw[Nat.add_mul,Zq n Z]at this;omega
  have hqZ:q<Z:=by rw[<-hq];exact W5 (by rw[Zq];exact htn)
  have htb:t<1000000000000000001:=by
   have:=Z2 Z hnZ;simp only[hZ]at *;omega
  have hdr:(o.set i q).drop i=q::o.drop (i+1):=by
   rw[List.drop_set,if_neg aa,Y7];rw[Yz (show i<o.length by omega)];rfl
  have ih:=Ce hsp hpl hn hnZ hN k h0 hh i (o.set i q) r2 aa (by simpa using ho) (hso.set hqZ) hr2n (by
   rw[qu,show p.getD i 0=x from hx,hv,hdr];simp only[val];rw[Zn,Zn,Y0 n Z,Zq Z r];omega) hk
  have r6:=r5 q;have e3:(r:Int)*1000000000+(x:Int)=(t:Int):=by simp only[hZ]at ht;omega
  have e4:(t:Int)/(n:Int)=(q:Int):=by rw[<-hq];simp
  have e5:(t:Int)%(n:Int)=(r2:Int):=by rw[<-hr2];simp
  have hrb:r<1000000000:=by simp only[hZ]at hnZ;omega
  have hn0:¬((n:Int)=0):=aa;have hqb:(q:Int)<18446744073709551616:=by simp only[hZ]at hqZ;omega
  refine aj ?_;rw[e0];simp(disch:=try exact ae)[iw,e1,e2,e3,r3,hn0,Zx,Zt,e4,e5,r6,hh];simpa using ih
theorem G6(l:LnQ):∃z,l=iJ l++List.replicate z 0:=by
 induction hn:l.length generalizing l with
 | zero=>
  have:l=[]:=Zo hn;subst this;exact⟨0,rfl⟩
 | succ n ih=>
  obtain⟨l,x,rfl⟩:∃l' x,l=l'++[x]:=⟨l.dropLast,l.getLast (by intro e;simp[e]at hn),(List.dropLast_concat_getLast _).symm⟩;by_cases hx:x=0
  .subst hx;rw[qK];obtain⟨z,hz⟩:=ih l (by simpa using hn);refine⟨z+1,?_⟩
   conv=>lhs;rw[hz]
   rw[List.append_assoc,List.replicate_succ']
  .rw[yf hx];exact⟨0,ac⟩
theorem AV:l.take (iJ l).length=iJ l:=by obtain⟨z,hz⟩:=G6 l;generalize iJ l=t at *;subst hz;rw[Ye rfl]
theorem zh(h:Hp)(n:Int):bH h (U n)=some (U n,h):=rfl
theorem cG(ha:bH h a=some (va,h1))(hb:bH h1 b=some (vb,h2)):out (.tup [va,vb]) (.tup [a,b]) h:=
 ⟨h2,by simp only[bH,aH,ha,hb]⟩
theorem jQ{h3:Hp}{c vc:V}(ha:bH h a=some (va,h1))(hb:bH h1 b=some (vb,h2))(hc:bH h2 c=some (vc,h3)):out (.tup [va,vb,vc]) (.tup [a,b,c]) h:=
 ⟨h3,by simp only[bH,aH,ha,hb,hc]⟩
theorem Hq{a n:Nat}(ha:(dig Z a).length<100000000)(hn:0<n)(hnZ:n<=Z):CP Y F.cY [pcs a,U n] (.tup [pcs (a/n),U (a%n:Nat)]):=by
 refine vi ?_;obtain⟨p,hp⟩:=mnQ (dig Z a);have hsp:aI Z p:=by rw[<-hp];exact cZ aA a
 have hval:val Z p=a:=by rw[<-hp];exact jI aA a
 rw[pcs,hp];rw[hp]at ha;simp(disch:=try exact ae)[cY];have e2:[(1,Bk.data 1 (List.replicate p.length (D.int IntKind.u64 0)) true false),nnQ]=IZ (List.replicate p.length 0):=by simp[IZ,u6]
 rw[e2];refine lo (Ce hsp aa hn hnZ rfl _ _ rfl p.length (List.replicate p.length 0) 0 (Z8 _) ac (λx hx=>by rw[List.mem_replicate]at hx;rw[hx.2];exact bE) hn (by rw[List.drop_length,Zb ac];simp[val]) λo r ho hs hr hv=>?_);simp only[kV];rw[hval]at hv
 have hq:val Z o=a/n:=by rw[hv,Nat.mul_add_div hn,Xk hr,Nat.add_zero]
 have hr2:r=a%n:=by rw[hv,Nat.mul_add_mod,Yd hr]
 have ht:iJ (o.take p.length)=dig Z (a/n):=by rw[Z3 aa,<-hq,rC aA hs]
 have tr:=tR (h:=IZ o) rfl (zD o) ho.symm (len:=p.length) (cap:=p.length) (Z8 _) aa (Z8 _);rw[ht]at tr;refine fT tr ?_ ac
 have htl:o.take (dig Z (a/n)).length=dig Z (a/n):=by
  have h2:iJ o=dig Z (a/n):=by rw[<-hq,rC aA hs]
  rw[<-h2];exact AV
 have sn:=yj (zD o) ho.symm (len:=(dig Z (a/n)).length) (cap:=p.length) (by rw[pF aA,<-hq,<-ho];exact jE bE hs) (Z8 _);rw[htl]at sn;have e6:((a:Int)%(n:Int))=((a%n:Nat):Int):=ac;rw[hr2,e6];exact cG sn (zh _ _)
end Go.Vm
