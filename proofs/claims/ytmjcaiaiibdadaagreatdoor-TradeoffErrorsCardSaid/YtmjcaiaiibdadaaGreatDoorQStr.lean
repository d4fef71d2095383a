/- Lemmas. -/
import Derived.Test.YtmjcaiaiibdadaaGreatDoorQT
set_option linter.unusedVariables false
set_option linter.unusedSimpArgs false
namespace Go.Vm
open Go Go.Am Go.Big
variable{k:IntKind}{T:(LwQ->Hp->Prop)->Prop}{z a:Int}{xs:List LvQ}{clr:LnQ}{h0 h':Hp}{i j i1 cap r o' c E E' M:Nat}{ys args ds:LwQ}{L L':Nat->Nat}{cells:LdQ}{C:vK}
inductive PU{α:Type}(k:α):Type where
 |mk
def rn{α:Type}(T:(α->Prop)->Prop)(k:α->Prop)(u:PU k):Prop:=T k
def rh{α β:Type}(T:(α->β->Prop)->Prop)(k:α->β->Prop)(u:PU k):Prop:=T k
def rl(T:KL->Prop)(k:KL)(u:PU k):Prop:=T k
def br(p A B:Prop)(u:PU A)(w:PU B):Prop:=(p->A)∧(¬p->B)
def jo(k:LwQ->Hp->Prop)(T:(LwQ->Hp->Prop)->Prop)(u:PU k)(w:PU T):Prop:=T k
theorem IN{p A B:Prop}{u:PU A}{w:PU B}(h1:p->A)(h2:¬p->B):br p A B u w:=⟨h1,h2⟩
@[simp]theorem ahc(A B:Prop)(u:PU A)(w:PU B):br True A B u w=A:=by simp[br]
@[simp]theorem agD(A B:Prop)(u:PU A)(w:PU B):br False A B u w=B:=by simp[br]
@[simp]theorem aik{p A B:Prop}{u:PU A}{w:PU B}(h:p):br p A B u w=A:=by simp_all
@[simp]theorem ail{p A B:Prop}{u:PU A}{w:PU B}(h:¬p):br p A B u w=B:=by simp_all
theorem gQ{k:LwQ->Hp->Prop}{u:PU k}{w:PU T}{l:LwQ}{h:Hp}(hT:∀q,T q=q l h)(hk:k l h):jo k T u w:=by grind[jo]
theorem aM{k:LwQ->Hp->Prop}{u:PU k}{w:PU T}(h:T k):jo k T u w:=h
@[simp ↓] theorem aim (o:Option V)(k:V->Prop):bnd o k=rn (bnd o) k .mk:=id rfl
@[simp ↓] theorem aic (x:V)(i:Nat)(k:V->Prop):ext x i k=rn (ext x i) k .mk:=id rfl
@[simp ↓] theorem agZ (h:Hp)(op:BinOp)(x y:V)(k:V->Prop):vg h op x y k=rn (vg h op x y) k .mk:=id rfl
@[simp ↓] theorem aig (b:Bool)(A B:Prop):cnd (.d (.bool b)) A B=br (b=true) A B .mk .mk:=by cases b<;>simp[cnd,br]
@[simp ↓] theorem ag7 (b:Bool)(h:Hp)(T:kkQ->Prop)(k:kkQ):gd (.d (.bool b)) true h T k=br (b=true) (T k) (k (.tup []) h) .mk .mk:=by cases b<;>simp[gd,br]
@[simp ↓] theorem agr (b:Bool)(h:Hp)(T:kkQ->Prop)(k:kkQ):gd (.d (.bool b)) false h T k=br (b=false) (T k) (k (.tup []) h) .mk .mk:=by cases b<;>simp[gd,br]
@[simp ↓] theorem agq (w:Bool)(h:Hp)(T:kkQ->Prop)(k:kkQ):gd (.tup []) w h T k=k (.tup []) h:=id rfl
@[simp ↓] theorem aix (k:LwQ->Hp->Prop)(T:(LwQ->Hp->Prop)->Prop):jn k T=jo k T .mk .mk:=id rfl
@[simp ↓] theorem aii (C:vK)(h:Hp)(c:V)(args:LwQ)(k:kkQ):cal C h c args k=rh (cal C h c args) k .mk:=id rfl
@[simp ↓] theorem aij (C:ti)(h:Hp)(c:V)(args:LwQ)(s:Nat)(k:kkQ):cai C h c args s k=rh (cai C h c args s) k .mk:=id rfl
@[simp ↓] theorem air (s:Nat)(cs:LwQ)(h:Hp)(k:kkQ):alV s cs h k=rh (alV s cs h) k .mk:=id rfl
@[simp ↓] theorem ais (s n:Nat)(cs:LdQ)(h:Hp)(k:kkQ):alD s n cs h k=rh (alD s n cs h) k .mk:=id rfl
@[simp ↓] theorem ahd (s:Nat)(v:V)(h:Hp)(k:kkQ):ef s v h k=rh (ef s v h) k .mk:=id rfl
@[simp ↓] theorem ag3 (len:Nat)(z:LdQ)(ps:List (Nat×V))(h:Hp)(k:kkQ):cY len z ps h k=rh (cY len z ps h) k .mk:=id rfl
@[simp ↓] theorem ag2 (s len:Nat)(z:LdQ)(ps:List (Nat×V))(h:Hp)(k:kkQ):tQ s len z ps h k=rh (tQ s len z ps h) k .mk:=id rfl
@[simp ↓] theorem ah3 (s by_:Nat)(z:LdQ)(h:Hp)(l c:V)(k:kkQ):mkS s by_ z h l c k=rh (mkS s by_ z h l c) k .mk:=id rfl
def ra(f:Nat->Prop)(u:PU f):Prop:=∃s,f s
@[simp ↓] theorem ahr (f:Nat->Prop):anyS f=ra f .mk:=id rfl
theorem vT{f:Nat->Prop}{u:PU f}(s:Nat)(h:f s):ra f u:=⟨s,h⟩
@[simp ↓] theorem ag1 (s len:Nat)(z:LdQ)(ps:List (Nat×V))(h:Hp)(k:kkQ):Di s len z ps h k=rh (Di s len z ps h) k .mk:=id rfl
@[simp ↓] theorem ain (dr:Bool)(s n by_:Nat)(x y:V)(h:Hp)(k:kkQ):apW dr s n by_ x y h k=rh (apW dr s n by_ x y h) k .mk:=id rfl
theorem JL{s e:Nat}{b:Bk}{z:D}{v:V}{h:Hp}{k:kkQ}{u:PU k}(hs:h[s]?=some (e,b))(hv:xx v=some [v])(hk:k (.ref s (e+1) 0 1 1 1) (h.set s (e+1,.vars [v]))):rh (Di s 1 [z] [(0,v)] h) k u:=by
 show Di s 1 [z] [(0,v)] h k
 have hf:pF (λi=>some (i * [z].length,[z].length)) ((iH 1 [z]).map .d) [(0,v)]=some [v]:=by
  simp[pF,hv,iH]
 unfold Di;rw[hf];simp only[new,hs];rw[if_pos ⟨⟨ac,ac⟩,rfl⟩];exact hk
theorem ae0{dr:Bool}{s e by_ k:Nat}{b:Bk}{y:V}{vs:LwQ}{h:Hp}{q:kkQ}{u:PU q}(hy:sE h y=some (k,vs))(ho:vs.all okV=true)(hk:0<k)(hb:k*by_<=140737488355328)(hs:h[s]?=some (e,b))
  (hq:q (.ref s (e+1) 0 k k vs.length) (h.set s (e+1,.vars vs))):rh (apW dr s 1 by_ (.d nPQ) y h) q u:=by
 show apW dr s 1 by_ _ y h q
 unfold apW;rw[hy];simp only[new,hs];rw[if_pos ⟨ho,hk,trivial⟩,if_pos hb];exact hq
theorem acI{s s' e by_ k off len cap:Nat}{y:V}{vs old:LwQ}{h:Hp}{q:kkQ}{u:PU q}(hy:sE h y=some (k,vs))(ho:vs.all okV=true)(hk:0<k)(hg:h[s']?=some (e,.vars old))(hl:len=cap)(hc:off+cap=old.length)(h0:old.length<len+k)
  (hb:(len+k)*by_<=140737488355328) (hq:q (.ref s' (e+1) 0 (len+k) (len+k) (len+k)) (h.set s' (e+1,.vars ((old.drop off).take len++vs)))):rh (apW false s 1 by_ (.ref s' e off len cap old.length) y h) q u:=by
 show apW false s 1 by_ _ y h q
 have hg':aw h s' e=.vars old:=by simp[aw,hg]
 unfold apW;rw[hy];simp only[hg'];rw[if_pos ⟨ho,hk,trivial⟩,if_pos ⟨trivial,trivial,aa,aa⟩,if_neg aa,if_pos ⟨hb,hc,h0⟩];exact hq
@[simp ↓] theorem ahD (h:Hp)(n:Nat)(p v:V)(k:kkQ):stD h n p v k=rh (stD h n p v) k .mk:=id rfl
@[simp ↓] theorem aio (dr:Bool)(s n by_:Nat)(x y:V)(h:Hp)(k:kkQ):apV dr s n by_ x y h k=rh (apV dr s n by_ x y h) k .mk:=id rfl
@[simp ↓] theorem aiv (st:aN)(clr:LnQ)(h0:Hp)(l:LwQ)(h:Hp)(k:KL):lp st clr h0 l h k=rl (lp st clr h0 l h) k .mk:=id rfl
def rk(T:(Exit->Hp->Prop)->Prop)(k:Exit->Hp->Prop)(u:PU k):Prop:=T k
@[simp ↓] theorem ahY (o:Option (List LvQ))(n:Nat)(st:IU)(clr:LnQ)(h:Hp)(k:Exit->Hp->Prop):rgO o n st clr h k=rk (rgO o n st clr h) k .mk:=id rfl
theorem ro{o:Option (List LvQ)}{n:Nat}{st:IU}{h:Hp}{k:Exit->Hp->Prop}{u:PU k}(hq:o=some xs)(hr:rg n st clr h k xs h):rk (rgO o n st clr h) k u:=by subst hq;exact hr
theorem aa5{n:Nat}{st:IU}{h:Hp}{k:Exit->Hp->Prop}{x:LvQ}(hl:x.length=n)(hs:st (x.map λv=>.d (jN v)) h λex h'=>match ex with
  |.normal=>qV clr 0 h'=true∧rg n st clr h0 k xs (aS clr 0 h0 h')
  |ex=>k ex h'):rg n st clr h0 k (x::xs) h:=⟨hl,hs⟩
@[simp]theorem adW(v:V)(k:V->Prop)(u:PU k):rn (bnd (some v)) k u=k v:=id rfl
@[simp]theorem ahR(vs:LwQ)(i:Nat)(k:V->Prop)(u:PU k):rn (ext (.tup vs) i) k u=rn (bnd vs[i]?) k u:=id rfl
attribute [simp] VM abc Int.natCast_inj
@[simp]theorem afS(b:Bool)(x y:V):nL (.d (.bool (!b))) x y=nL (.d (.bool b)) y x:=by cases b<;>rfl
@[simp]theorem xB{n:Int}(h1 : -9223372036854775808<=n)(h2:n<=9223372036854775807):IntKind.wrap .i64 n=n:=wrap_i64 ⟨h1,h2⟩
@[simp]theorem adz{n:Int}(h1:0<=n)(h2:n<18446744073709551616):IntKind.wrap .u64 n=n:=wrap_u64 ⟨h1,h2⟩
@[simp]theorem adA{n:Int}(h1:0<=n)(h2:n<4294967296):IntKind.wrap .u32 n=n:=wrap_u32 ⟨h1,h2⟩
@[simp]theorem wrap_u8'{n:Int}(h1:0<=n)(h2:n<256):IntKind.wrap .u8 n=n:=NG rfl ⟨h1,h2⟩
attribute [simp] AY AW AX
@[simp]theorem acz{b:Int}(hb:b≠0):biI .rem (.d (.int k a)) (.d (.int k b))=some (.d (.int k (a.tmod b))):=by simp[biI,iY,oB,jN,hb]
@[simp]theorem ahi{b:Int}(hb:b≠0):biI .quo (.d (.int k a)) (.d (.int k b))=some (.d (.int k (k.wrap (a.tdiv b)))):=by simp[biI,iY,oB,jN,hb]
theorem Rx{l:IntKind}{b:Int}(h0:0<=b)(hb:b.toNat<=k.bits):biI .shr (.d (.int k a)) (.d (.int l b))=some (.d (.int k (a/2^b.toNat))):=by
 have h1:¬(b<0):=aa
 grind[biI,iY,oB,jN]
theorem Ry{l:IntKind}{b:Int}(h0:0<=b)(hb:b.toNat<=k.bits):biI .shl (.d (.int k a)) (.d (.int l b))=some (.d (.int k (k.wrap (a*2^b.toNat)))):=by
 have h1:¬(b<0):=aa
 grind[biI,iY,oB,jN]
@[simp]theorem agG:IntKind.bits .i64=64:=rfl
@[simp]theorem agF:IntKind.bits .u64=64:=rfl
@[simp]theorem ahf:IntKind.bits .u8=8:=rfl
@[simp]theorem agQ{l:IntKind}{b:Int}(h0:0<=b)(hb:b<=64):biI .shr (.d (.int .i64 a)) (.d (.int l b))=some (.d (.int .i64 (a/2^b.toNat))):=Rx h0 aX
@[simp]theorem agP{l:IntKind}{b:Int}(h0:0<=b)(hb:b<=64):biI .shr (.d (.int .u64 a)) (.d (.int l b))=some (.d (.int .u64 (a/2^b.toNat))):=Rx h0 aX
@[simp]theorem agO(k:IntKind)(n:Int):unV .neg (.d (.int k n))=some (.d (.int k (k.wrap (-n)))):=by simp[unV,iY,oB,jN]
def nth{α:Type}(d:α)(l:List α)(i:Nat):α:=l.getD i d
theorem cO{α:Type}(d:α)(l:List α)(i:Nat)(h:i<l.length):nth d l i=l[i]:=by simp[nth,h]
@[simp]theorem abq{α:Type}(d:α)(p:List α)(x:α)(q:List α):nth d (p++x::q) p.length=x:=by simp[nth]
variable{α:Type}(f:α->D)
@[simp] theorem mR (l:List α)(h:Hp){i:Int}(h0:0<=i)(h1:i<l.length):ixV h 1 (lst f l) (.d (.int k i))=some (.dptr (l.map f) i.toNat):=
 fN f l h (Int.toNat_of_nonneg h0).symm aa
theorem eV(d:α)(l:List α)(h:Hp)(hl:j<l.length):ld1 h (.dptr (l.map f) j)=some (.d (f (nth d l j))):=by rw[k8 f l h hl,cO d l j hl]
@[simp] theorem vr (p:List α)(x:α)(q:List α)(h:Hp)(k:IntKind):ixV h 1 (lst f (p++x::q)) (.d (.int k p.length))=some (.dptr ((p++x::q).map f) p.length):=
 fN f _ h rfl ac
omit f in
@[simp] theorem ah5 (a:LdQ)(x:D)(b:LdQ)(h:Hp)(hj:j=a.length):ld1 h (.dptr (a++x::b) j)=some (.d x):=by subst hj;simp[ld1]
omit f in
@[simp]theorem aiw(x:D)(b:LdQ)(h:Hp):ld1 h (.dptr (x::b) 0)=some (.d x):=by rfl
variable{α:Type}(f:α->D)(l:List α)
@[simp]theorem afG(h:Hp){i:Int}(h0:0<=i)(h1:i<=l.length)(hp:0<l.length):slV h 1 (lst f l) none (some (I i))=some (lst f (l.take i.toNat)):=ac4 f l hp aa aa
@[simp] theorem aiz (len n:Nat)(cs:LdQ)(off:Nat){i:Int}(h0:0<=i)(h1:i<len):ixP len n (.dptr cs off) (.d (.int k i))=some (.dptr cs (off+i.toNat*n)):=by simp only[ixP];rw[if_pos ⟨h0,h1⟩]
@[simp] theorem aiy (len n:Nat)(s e off tot:Nat){i:Int}(h0:0<=i)(h1:i<len):ixP len n (.ptr s e off tot) (.d (.int k i))=some (.ptr s e (off+i.toNat*n) tot):=by simp only[ixP];rw[if_pos ⟨h0,h1⟩]
theorem agj(h:Hp)(cs:LdQ)(pos:Nat){x:D}(hx:cs[pos]?=some x):ld1 h (.dptr cs pos)=some (.d x):=by grind[ld1]
def iQ{α:Type}(f:α->LdQ)(l:List α):V:=.d (.sl l.length (l.flatMap f))
section
variable{α:Type}(f:α->LdQ){n:Nat}(hf:∀x,(f x).length=n)
include hf
theorem fp(l:List α):(l.flatMap f).length=l.length*n:=by
 induction l with
 |nil=>simp
 |cons x l ih=>grind
theorem Gy(d:α)(l:List α)(hj:j<l.length):cut (l.flatMap f) (j*n) n=some (f (nth d l j)):=by
 have hle:j*n+n<=(l.flatMap f).length:=by
  rw[fp f hf,<-Xp];exact Zt n hj
 simp only[cut,if_pos hle,Z9];clear hle
 induction l generalizing j with
 |nil=>cases hj
 | cons x l ih=>
  cases j with
  |zero=>grind[nth]
  | succ j=>
   grind[Xp,List.drop_drop,List.drop_left,nth]
theorem m9(l:List α)(h:Hp){i:Int}(h0:0<=i)(h1:i<l.length):ixV h n (iQ f l) (.d (.int k i))=some (.dptr (l.flatMap f) (i.toNat*n)):=by grind[ixV,iQ,fp]
theorem oi(d:α)(l:List α)(h:Hp)(hj:j<l.length):ldA h n (.dptr (l.flatMap f) (j*n))=some (.agg ((f (nth d l j)).map .d)):=by grind[ldA,Gy]
theorem MC(d:α)(l:List α)(h:Hp){o:Nat}{x:D}(hj:j<l.length)(ho:o<n)(hx:(f (nth d l j))[o]?=some x):ld1 h (.dptr (l.flatMap f) (j*n+o))=some (.d x):=by
 have hc:=Gy f hf d l hj
 grind[cut,ld1]
end
@[simp]theorem afg{α:Type}(f:α->LdQ)(l:List α):aO (iQ f l)=some (I l.length):=id rfl
@[simp]theorem afb{α:Type}(h:Hp)(f:α->LdQ)(l:List α):bV h (iQ f l)=some (iQ f l,h):=by rfl
def vS(place:Nat->Option (Nat×Nat))(cs:LwQ)(ps:List (Nat×V)):Option LwQ:=pF place cs ps
@[simp]theorem afj(place:Nat->Option (Nat×Nat))(cs:LwQ):vS place cs []=some cs:=id rfl
def MU(o:Option (Nat×Nat))(place:Nat->Option (Nat×Nat))(cs:LwQ)(v:V)(r:List (Nat×V)):Option LwQ:=match o with
 |none=>none
 | some (off,sz)=>match xx v with
  |none=>none
  |some vs=>if vs.length=sz∧off+vs.length<=cs.length then vS place (cs.take off++vs++cs.drop (off+vs.length)) r else none
@[simp]theorem aeB(place:Nat->Option (Nat×Nat))(cs:LwQ)(i:Nat)(v:V)(r:List (Nat×V)):vS place cs ((i,v)::r)=MU (place i) place cs v r:=id rfl
@[simp] theorem ag8 (place:Nat->Option (Nat×Nat))(cs:LwQ)(x:D)(r:List (Nat×V))(off sz:Nat):
  MU (some (off,sz)) place cs (.d x) r=if 1=sz∧off+1<=cs.length then vS place (cs.take off++[.d x]++cs.drop (off+1)) r else none:=id rfl
@[simp] theorem afm (place:Nat->Option (Nat×Nat))(cs:LwQ)(vs:LwQ)(r:List (Nat×V))(off sz:Nat):
  MU (some (off,sz)) place cs (.agg vs) r=if vs.length=sz∧off+vs.length<=cs.length then vS place (cs.take off++vs++cs.drop (off+vs.length)) r else none:=id rfl
@[simp] theorem afk (place:Nat->Option (Nat×Nat))(cs:LwQ)(a b c d e f:Nat)(r:List (Nat×V))(off sz:Nat):
  MU (some (off,sz)) place cs (.ref a b c d e f) r=if 1=sz∧off+1<=cs.length then vS place (cs.take off++[.ref a b c d e f]++cs.drop (off+1)) r else none:=id rfl
def aeV(fs:List (Nat×Nat))(z:LdQ)(ps:List (Nat×V)):Option V:=bld fs z ps
@[simp]theorem ahT(fs:List (Nat×Nat))(z:LdQ)(ps:List (Nat×V))(k:V->Prop)(u:PU k):rn (bnd (bld fs z ps)) k u=rn (bnd (aeV fs z ps)) k u:=id rfl
@[simp]theorem ahe(fs:List (Nat×Nat))(z:LdQ)(ps:List (Nat×V)):aeV fs z ps=(vS (λi=>fs[i]?) (z.map .d) ps).map .agg:=id (by unfold aeV bld vS;cases pF (λi=>fs[i]?) (z.map .d) ps<;>rfl)
@[simp]theorem ag9(cs:LdQ)(o off:Nat):faV off (.dptr cs o)=some (.dptr cs (o+off)):=id rfl
@[simp]theorem aib(s e o tot off:Nat):faV off (.ptr s e o tot)=some (.ptr s e (o+off) tot):=id rfl
def bnh{α:Type}(o:Option α)(k:α->Prop):Prop:=match o with
 |some x=>k x
 |none=>False
@[simp]theorem ahS{α:Type}(x:α)(k:α->Prop)(u:PU k):rn (bnh (some x)) k u=k x:=id rfl
@[simp] theorem ahU (h:Hp)(n:Nat)(p v:V)(k:kkQ)(u:PU k):rh (stD h n p v) k u=rn (bnh (st h n p v)) (λh'=>k .junk h') .mk:=by unfold rh rn stD bnh;cases st h n p v<;>rfl
theorem DT(h:Hp)(s:Nat)(b:Bk)(k:Nat->Hp->Prop):new h s b k=bnh h[s]? λx=>k (x.1+1) (h.set s (x.1+1,b)):=by grind[new,bnh]
@[simp]theorem ahW(s:Nat)(cs:LwQ)(h:Hp)(k:kkQ)(u:PU k):rh (alV s cs h) k u=rn (bnh h[s]?) (λx=>k (.ptr s (x.1+1) 0 cs.length) (h.set s (x.1+1,.vars cs))) .mk:=by unfold rh rn alV;exact DT ..
@[simp]theorem agT(s:Nat)(vs:LwQ)(h:Hp)(k:kkQ)(u:PU k):rh (ef s (.agg vs) h) k u=rh (alV s vs h) k u:=id rfl
@[simp]theorem afO(s:Nat)(x:D)(h:Hp)(k:kkQ)(u:PU k):rh (ef s (.d x) h) k u=rh (alV s [.d x] h) k u:=id rfl
def eC(len:Nat)(z:LdQ)(ps:List (Nat×V))(h:Hp):Option (LdQ×Hp):=match vS (λi=>some (i*z.length,z.length)) ((iH len z).map .d) ps with
 |some vs=>if 0<z.length∧len*z.length<=16777216 then kJ h vs else none
 |none=>none
@[simp] theorem agS (len:Nat)(z:LdQ)(ps:List (Nat×V))(h:Hp)(k:kkQ)(u:PU k):rh (cY len z ps h) k u=rn (bnh (eC len z ps h)) (λx=>k (.d (.sl len x.1)) x.2) .mk:=by
 unfold rh rn cY eC bnh vS;cases pF (λi=>some (i*z.length,z.length)) ((iH len z).map .d) ps with
 |none=>rfl
 | some vs=>
  simp only;split
  .cases kJ h vs<;>rfl
  .rfl
@[simp] theorem agR (s len:Nat)(z:LdQ)(ps:List (Nat×V))(h:Hp)(k:kkQ)(u:PU k):rh (tQ s len z ps h) k u=rn (bnh (eC len z ps h)) (λx=>rn (bnh x.2[s]?) (λy=>k (.ref s (y.1+1) 0 len len x.1.length) (x.2.set s (y.1+1,.data z.length x.1 true false))) .mk) .mk:=by
 unfold rh rn tQ eC bnh vS;cases pF (λi=>some (i*z.length,z.length)) ((iH len z).map .d) ps with
 |none=>rfl
 | some vs=>
  simp only;split
  .cases kJ h vs with
   |none=>rfl
   |some x=>simp only[DT];rfl
  .rfl
def lO(h:Hp)(s e:Nat):Bk:=aw h s e
@[simp]theorem aet(e0:Nat)(b:Bk)(h:Hp)(e:Nat):lO ((e0,b)::h) 0 e=if e0=e then b else .none:=id rfl
@[simp]theorem aeu(x:Nat×Bk)(h:Hp)(s e:Nat):lO (x::h) (s+1) e=lO h s e:=id rfl
def abE(b:Bk)(off tot:Nat):Option V:=match b with
 |.vars cs=>if tot=cs.length then cs[off]? else none
 |.data _ cs _ _=>if tot=cs.length then cs[off]?.map .d else none
 |.none=>none
def XB(b:Bk)(n off tot:Nat):Option V:=match b with
 |.vars cs=>if tot=cs.length then(cut cs off n).map .agg else none
 |.data _ cs _ _=>if tot=cs.length then(cut cs off n).map λl=>.agg (l.map .d)else none
 |.none=>none
theorem agk(h:Hp)(s e off tot:Nat):ld1 h (.ptr s e off tot)=abE (lO h s e) off tot:=by
 unfold lO;simp only[ld1];cases aw h s e with
 |none=>rfl
 |vars cs=>rfl
 | data n cs a b=>
  simp only[abE];split
  .cases cs[off]?<;>rfl
  .rfl
theorem agi(h:Hp)(n s e off tot:Nat):ldA h n (.ptr s e off tot)=XB (lO h s e) n off tot:=by
 unfold lO;simp only[ldA];cases aw h s e with
 |none=>rfl
 | vars cs=>
  simp only[XB];split
  .cases cut cs off n<;>rfl
  .rfl
 | data m cs a b=>
  simp only[XB];split
  .cases cut cs off n<;>rfl
  .rfl
@[simp]theorem ahP(h:Hp)(s e off tot:Nat)(k:V->Prop)(u:PU k):rn (bnd (ld1 h (.ptr s e off tot))) k u=rn (bnd (abE (lO h s e) off tot)) k u:=by rw[agk]
@[simp]theorem ahO(h:Hp)(n s e off tot:Nat)(k:V->Prop)(u:PU k):rn (bnd (ldA h n (.ptr s e off tot))) k u=rn (bnd (XB (lO h s e) n off tot)) k u:=by rw[agi]
@[simp]theorem afi(cs:LwQ)(off tot:Nat):abE (.vars cs) off tot=if tot=cs.length then cs[off]? else none:=id rfl
@[simp]theorem afh(cs:LwQ)(n off tot:Nat):XB (.vars cs) n off tot=if tot=cs.length then(cut cs off n).map .agg else none:=id rfl
def stX(b:Bk)(h:Hp)(s e off tot:Nat)(vs:LwQ):Option Hp:=match b with
 |.vars cs=>if tot=cs.length∧off+vs.length<=cs.length∧vs.all okV=true then some (bL h s e (.vars (cs.take off++vs++cs.drop (off+vs.length))))else none
 |_=>sto h s e off tot vs
theorem ac0(h:Hp)(s e off tot:Nat)(vs:LwQ):sto h s e off tot vs=stX (lO h s e) h s e off tot vs:=by
 unfold lO stX;cases hb:aw h s e with
 |vars cs=>simp[sto,hb]
 |none=>rfl
 |data n cs a b=>rfl
@[simp] theorem ahM (h:Hp)(n s e off tot:Nat)(vs:LwQ)(k:Hp->Prop)(u:PU k):rn (bnh (st h n (.ptr s e off tot) (.agg vs))) k u=rn (bnh (if vs.length=n then stX (lO h s e) h s e off tot vs else none)) k u:=by simp only[rn,st,ac0]
def Lb(b:Bk)(h:Hp)(s e off tot:Nat)(x:D):Option Hp:=match b with
 |.vars cs=>if tot=cs.length∧off+1<=cs.length then some (bL h s e (.vars (cs.take off++[.d x]++cs.drop (off+1))))else none
 |.data n cs ex fr=>if fr=false∧tot=cs.length∧off+1<=cs.length then some (bL h s e (.data n (cs.set off (norm x)) ex false))else none
 |.none=>none
theorem afK(h:Hp)(s e off tot:Nat)(x:D):st h 1 (.ptr s e off tot) (.d x)=Lb (lO h s e) h s e off tot x:=by
 unfold lO;simp only[st,if_true];cases hb:aw h s e with
 |none=>simp[sto,hb,Lb]
 |vars cs=>simp[sto,hb,Lb,okV]
 | data n cs ex fr=>
  simp only[sto,hb,kJ,toD,Lb];by_cases hc:fr=false∧tot=cs.length∧off+1<=cs.length
  .rw[if_pos hc,if_pos aa];rw[Ym,if_pos aa];simp
  .rw[if_neg hc,if_neg aa]
@[simp]theorem ahN(h:Hp)(s e off tot:Nat)(x:D)(k:Hp->Prop)(u:PU k):rn (bnh (st h 1 (.ptr s e off tot) (.d x))) k u=rn (bnh (Lb (lO h s e) h s e off tot x)) k u:=by rw[afK]
@[simp]theorem ae9(cs:LwQ)(h:Hp)(s e off tot:Nat)(x:D):Lb (.vars cs) h s e off tot x=if tot=cs.length∧off+1<=cs.length then some (bL h s e (.vars (cs.take off++[.d x]++cs.drop (off+1))))else none:=id rfl
@[simp] theorem Se (n:Nat)(cs:LdQ)(ex:Bool)(h:Hp)(s e off tot:Nat)(x:D)(ht:tot=cs.length)(ho:off<cs.length):Lb (.data n cs ex false) h s e off tot x=some (bL h s e (.data n (cs.set off (norm x)) ex false)):=by simp only[Lb];simp[ht];omega
def ixX(b:Bk)(n s e off len tot:Nat)(i:Int):Option V:=match b with
 |.data _ cs _ _=>if tot=cs.length∧0<=i∧i<len then some (.ptr s e (off+i.toNat*n) tot)else none
 |.vars cs=>if tot=cs.length∧0<=i∧i<len then some (.ptr s e (off+i.toNat*n) tot)else none
 |_=>none
@[simp] theorem ahQ (h:Hp)(n s e off len cap tot:Nat)(kd:IntKind)(i:Int)(k:V->Prop)(u:PU k):rn (bnd (ixV h n (.ref s e off len cap tot) (.d (.int kd i)))) k u=rn (bnd (ixX (lO h s e) n s e off len tot i)) k u:=by
 have:ixV h n (.ref s e off len cap tot) (.d (.int kd i))=ixX (lO h s e) n s e off len tot i:=by
  unfold lO;simp only[ixV,ixX];cases aw h s e<;>rfl
 rfl
@[simp] theorem agm (m:Nat)(cs:LdQ)(a b:Bool)(n s e off len tot:Nat)(i:Int)(ht:tot=cs.length)(h0:0<=i)(h1:i<len):ixX (.data m cs a b) n s e off len tot i=some (.ptr s e (off+i.toNat*n) tot):=by simp only[ixX];rw[if_pos ⟨ht,h0,h1⟩]
@[simp] theorem ahL (h:Hp)(n s e off tot a b c d f g:Nat)(k:Hp->Prop)(u:PU k):rn (bnh (st h n (.ptr s e off tot) (.ref a b c d f g))) k u=rn (bnh (if n=1 then stX (lO h s e) h s e off tot [.ref a b c d f g]else none)) k u:=by simp only[rn,st,ac0]
@[simp]theorem afJ(cs:LwQ)(h:Hp)(s e off tot:Nat)(vs:LwQ):stX (.vars cs) h s e off tot vs=if tot=cs.length∧off+vs.length<=cs.length∧vs.all okV=true then some (bL h s e (.vars (cs.take off++vs++cs.drop (off+vs.length))))else none:=id rfl
@[simp]theorem ag5(h:Hp)(s e:Nat)(b:Bk):bL h s e b=h.set s (e,b):=rfl
@[simp]theorem aiu(x:D):okV (.d x)=true:=rfl
@[simp]theorem agV(a b c d e f:Nat):okV (.ref a b c d e f)=true:=rfl
@[simp]theorem aie{α:Type}(l:List α)(off n:Nat):cut l off n=if off+n<=l.length then some ((l.drop off).take n)else none:=id rfl
@[simp]theorem uX(i:Nat)(h0 h:Hp)(hl:h.length=h0.length):aS [] i h0 h=h:=H7 i h0 h hl
@[simp]theorem ahb(q:LwQ->Hp->Prop)(r:List (Exit×(LwQ->Hp->Prop)))(l:LwQ)(h:Hp):exK ((.normal,q)::r) .normal l h=q l h:=rfl
@[simp]theorem adj(q:LwQ->Hp->Prop)(r:List (Exit×(LwQ->Hp->Prop)))(l:LwQ)(h:Hp):exK ((.normal,q)::r) .ret l h=exK r .ret l h:=rfl
@[simp]theorem adi(q:LwQ->Hp->Prop)(r:List (Exit×(LwQ->Hp->Prop)))(l:LwQ)(h:Hp):exK ((.ret,q)::r) .normal l h=exK r .normal l h:=rfl
@[congr]theorem afL{h:Hp}{x:V}{k:Prop}(e:h=h'):sp h x ys k=sp h' x ys k:=by rw[e]
theorem Le{h:Hp}{x:V}{k:Prop}:∀{ys:LwQ},ys.all (apt h x)=true->k->sp h x ys k
 |[],_,hk=>hk
 | y::ys,hb,hk=>by
  simp only[List.all_cons,Z7]at hb;unfold sp;rw[hb.1];exact Le hb.2 hk
theorem HW{h:Hp}{x y:V}{k:Prop}(hb:smB h x y=true)(hk:k):sm h x y k:=by grind[sm]
structure Acc where
 s:Nat
 e:Nat
 n:Nat
 b0:Bk
def Acc.v(a:Acc)(L:Nat)(cells:LdQ):V:=match L with
 |0=>.d nPQ
 |_=>.ref a.s (a.e+1) 0 L L cells.length
def Acc.b(a:Acc)(L:Nat)(cells:LdQ):Nat×Bk:=match L with
 |0=>(a.e,a.b0)
 |_=>(a.e+1,.data a.n cells false false)
theorem nm(a:Acc){L by_ k:Nat}{cells cs:LdQ}{h:Hp}{y:V}{q:kkQ}{u:PU q}(hk:0<k)(hs:h[a.s]?=some (a.b L cells))(hc:cells.length=L*a.n)(hcs:cs.length=k*a.n)
  (hy:cellsOf h y=some (k,cs)) (hyn:∀t,y≠.d (.str t)) (hb:(L+k)*by_<=140737488355328) (hn:0<a.n) (hq:q (a.v (L+k) (cells++cs)) (h.set a.s (a.b (L+k) (cells++cs)))):rh (apV false a.s a.n by_ (a.v L cells) y h) q u:=by
 have e1:apV false a.s a.n by_ (a.v L cells) y h q=apC false a.s a.n by_ (a.v L cells) k cs h q:=by
  unfold apV;split
  .trivial
  .grind
 show apV false a.s a.n by_ (a.v L cells) y h q
 rw[e1];have hlt:=(List.getElem?_eq_some_iff.1 hs).1;obtain⟨m,hm⟩:∃m,L+k=m+1:=⟨L+k-1,aa⟩;cases L with
 | zero=>
  have:cells=[]:=Zl aa;subst this;simp only[Zj,List.nil_append]at *;simp only[Acc.v];unfold apC;rw[if_neg aa];simp only[];rw[if_pos aa]
  simp_all[new,Acc.b,Acc.v]
 | succ L=>
  simp only[Acc.v];unfold apC;rw[if_neg aa];have hg:aw h a.s (a.e+1)=.data a.n cells false false:=by simp only[aw,hs,Acc.b,if_true]
  simp only[hg,true_and,Zj];rw[if_pos ⟨Z8 _,aa,hcs⟩,if_neg aa,if_pos hb];simp only[Zf,if_false,Bool.or_self];have hpos:0<cs.length:=by rw[hcs];exact X3 hk hn
  rw[if_pos ⟨aa,aa⟩];rw[hm]at hq ⊢;simp only[Acc.v,Acc.b,List.length_append,bL,hc]at hq ⊢;simp only[Yu];rw[Z2 aa];exact hq
theorem oV(a:Acc){L:Nat}{h:Hp}(hs:h[a.s]?=some (a.b L cells))(hc:cells.length=L*a.n):
  ∃h',bV h (a.v L cells)=some (.d (.sl L cells),h')∧((L=0∧h'=h)∨(0<L∧h'=h.set a.s (a.e+1,.data a.n cells false true))):=by
 cases L with
 | zero=>
  simp_all[Acc.v]
 | succ L=>
  have hg:aw h a.s (a.e+1)=.data a.n cells false false:=by simp only[aw,hs,Acc.b,if_true]
  refine⟨_,?_,.inr ⟨Nat.succ_pos _,rfl⟩⟩;simp only[Acc.v,bV,toD,hg,true_and,Zj];rw[if_pos ⟨Z8 _,aa⟩];simp only[Yu,bL];rw[Z2 aa]
theorem x8(a:Acc){L:Nat}{h:Hp}(hs:h[a.s]?=some (a.b L cells))(hc:cells.length=L*a.n):out (.d (.sl L cells)) (a.v L cells) h:=by obtain⟨h',h1,_⟩:=oV a hs hc;exact⟨h',h1⟩
theorem gA{b b':Bool}{h:Hp}(e:b'=b):out (B b) (.d (.bool b')) h:=by simp_all
theorem aW{b:Int}{h:Hp}(e:b=a):out (.d (.int k a)) (.d (.int k b)) h:=by simp_all
theorem cd{h:Hp}{f:FuncId}{v:V}{k:kkQ}{u:PU k}(hc:C f args v)(hk:k v h)(hs:aK h args=some (args,h):=by simp[aK,bV]):rh (cal C h (.fn f [] []) args) k u:=agC hc hs hk
theorem lo{st:aN}{l:LwQ}{h:Hp}{k:KL}{u:PU k}(hl:lp st clr h0 l h k):rl (lp st clr h0 l h) k u:=hl
def di(n:Int):D:=.int .i64 n
def row(l:LiQ):D:=.sl l.length (l.map di)
abbrev mat(m:LLQ):V:=lst row m
@[simp]theorem aiD(n:Int):V.d (di n)=I n:=id rfl
@[simp]theorem agY(n:Int):norm (di n)=di n:=rfl
@[simp]theorem af1(l:LiQ):norm (row l)=row l:=rfl
@[simp]theorem WZ(l:LiQ)(h:Hp)(hl:j<l.length):ld1 h (.dptr (l.map di) j)=some (.d (di (nth 0 l j))):=eV di 0 l h hl
@[simp]theorem aga(l:LiQ):aO (.d (row l))=some (I l.length):=rfl
def idx{α:Type}(p:α->Bool)(l:List α):Int:=match l.findIdx? p with
 |some i=>i
 |none=>-1
theorem cdf{h:Hp}{f:FuncId}{fs cs:LwQ}{v:V}{k:kkQ}{u:PU k}(hc:C f (fs++args++cs) v)(hs:aK h (fs++args++cs)=some (fs++args++cs,h))(hk:k v h):rh (cal C h (.fn f fs cs) args) k u:=by simp only[rh,cal,hs];exact⟨v,hc,by simpa using hk⟩
variable{α:Type}{f:α->D}{g:FuncId}{fs cs:LwQ}{p:α->Bool}
theorem MI(hs:∀x,aK [] (fs++[.d (f x)]++cs)=some (fs++[.d (f x)]++cs,[]))(k:KL):∀(q a:List α),(a++q).length<4611686018427387904->(∀x∈q,CP Y g (fs++[.d (f x)]++cs) (B (p x))) ->
  (idx p q = -1->k (.exit 0) [] [])->(∀i:Nat,idx p q=i->k .ret [I (a.length+i:Nat)] []) ->
  lp (dT (CX Y) (lst f (a++q)) (.fn g fs cs) (I (a++q).length)) [] [] [I a.length] [] k
 | [],a,hN,_,h0,_=>by
  refine aj ?_;simp[dT];exact h0 rfl
 | x::q,a,hN,hp,h0,h1=>by
  simp at hN;refine aj ?_;simp(disch:=try exact ae)[dT];refine cdf (hp x ac) (hs x) ?_;simp;refine IN (λh=>?_) (λh=>?_)<;>try simp(disch:=try exact ae)[h]
  .have e:idx p (x::q)=(0:Nat):=by simp[idx,List.findIdx?_cons,h]
   simpa using h1 0 e
  .have hl:=hs;have:=MI hs k q (a++[x]) aX (λy hy=>hp y (by simp[hy])) (λe=>h0 ?_) (λi e=>?_)
   .simpa[Int.add_assoc]using this
   .simp only[idx,List.findIdx?_cons,h,Zf,if_false]at e ⊢;cases hq:List.findIdx? p q<;>simp[hq]at e ⊢
   .have:=h1 (i+1) ?_
    .simpa[Xl,Nat.add_comm 1 i]using this
    .simp only[idx,List.findIdx?_cons,h,Zf,if_false]at e ⊢;cases hq:List.findIdx? p q<;>simp[hq]at e ⊢
     exact e
theorem JZ(l:List α)(hN:l.length<4611686018427387904)(hs:∀x,aK [] (fs++[.d (f x)]++cs)=some (fs++[.d (f x)]++cs,[]))(hp:∀x∈l,CP Y g (fs++[.d (f x)]++cs) (B (p x))):
  aY (CX Y) (lst f l) (.fn g fs cs) (out (I (idx p l))):=by
 simp[aY];refine lo (MI hs _ l [] (by simpa using hN) hp (λe=>?_) (λi e=>?_))
 .simp[e]
 .simp[e]
theorem D8{α:Type}(p:α->Bool)(l:List α):0<=idx p l↔l.any p=true:=by
 unfold idx;cases h:l.findIdx? p with
 |none=>simp[List.findIdx?_eq_none_iff]at h ⊢;exact h
 | some i=>
  simp[List.findIdx?_eq_some_iff_getElem]at h ⊢;obtain⟨hi,h1,_⟩:=h;exact⟨l[i],Yl hi,h1⟩
theorem CR{g:FuncId}{p:Int->Bool}(l:LiQ)(hN:l.length<4611686018427387904)(hp:∀x∈l,CP Y g [I x] (B (p x))):CP Y F.aY [lst di l,.fn g [] []] (I (idx p l)):=
 qm (JZ l hN (λx=>by simp[aK]) hp)
theorem xv{g:FuncId}{p:Int->Bool}(l:LiQ)(hN:l.length<4611686018427387904)(hp:∀x∈l,CP Y g [I x] (B (p x))):CP Y F.bb [lst di l,.fn g [] []] (B (l.any p)):=by
 refine pJ ?_;simp[bb];refine cd (CR l hN hp) ?_;simp;have:=D8 p l;have e:decide (0<=idx p l)=l.any p:=by rw[Yf];simpa using this
 rw[e];exact VT ..
def CK(n:Int):Bool:=decide (-1000000000<=n∧n<=1000000000)
theorem og{α:Type}{d:α}{l:List α}(h:i<l.length):nth d l i∈l:=by grind[cO]
def piv(r:LiQ):Int:=idx (λn=>n !=0) r
theorem ad6(r:LiQ): -1<=piv r∧piv r<r.length:=by
 unfold piv idx;cases h:r.findIdx? (λn=>n !=0)with
 |none=>simp;omega
 |some i=>have:=(List.findIdx?_eq_some_iff_getElem.1 h).1;simp;omega
def Z:Nat:=1000000000
theorem ay:2<=Z:=af
theorem bC:0<Z:=af
def bK:Nat->Nat->LnQ
 |0,_=>[]
 |w+1,n=>n%Z::bK w (n/Z)
theorem fq:∀w n,(bK w n).length=w
 |0,_=>rfl
 |w+1,n=>by simp[bK,fq w]
theorem vw:∀w n,aF Z (bK w n)
 |0,_=>λx hx=>by simp[bK]at hx
 | w+1,n=>λx hx=>by
  simp only[bK,Zx]at hx;rcases hx with rfl|hx
  .exact Yy _ bC
  .exact vw w _ x hx
theorem xo:∀w n,n<Z^w->val Z (bK w n)=n
 |0,n,h=>by simp at h;subst h;rfl
 | w+1,n,h=>by
  have hZ:Z=1000000000:=rfl;simp only[bK,val];rw[xo w (n/Z) (Wx (by rw[Nat.pow_succ,Zo]at h;exact h))];have:=Xo n Z;omega
theorem Ea:∀l:LnQ,aF Z l->l=bK l.length (val Z l)
 |[],_=>rfl
 | x::l,h=>by
  have hx:x<Z:=h x ac;have hl:=Ea l (λy hy=>h y (by simp[hy]));have hZ:Z=1000000000:=rfl;simp only[List.length_cons,bK,val];have e1:(x+Z*val Z l)%Z=x:=by rw[Xg];exact Ya hx
  have e2:(x+Z*val Z l)/Z=val Z l:=by rw[Yg _ _ bC,Xc hx,Zj]
  rw[e1,e2,<-hl]
abbrev S(s:LuQ):V:=.d (.str s)
@[simp]theorem JV(s:LuQ):oJ (S s)=some (I s.length):=id rfl
@[simp] theorem ahF (s:LuQ){i:Int}(h0:0<=i)(h1:i<=s.length):slS (S s) (some (I i)) none=some (S (s.drop i.toNat)):=by simp only[slS,boV];rw[if_pos ⟨h0,aa⟩];simp only;rw[Z2 ac]
@[simp]theorem ahh(a b:LuQ):biS .eql (S a) (S b)=some (.d (.bool (a == b))):=id rfl
@[simp]theorem ahg(a b:LuQ):biS .neq (S a) (S b)=some (.d (.bool (!(a == b)))):=id rfl
@[simp]theorem acw(a b:LuQ)(h:a.length+b.length<=9223372036854775807):biS .add (S a) (S b)=some (S (a++b)):=by simp[biS,NW,h]
theorem XQ(s:LuQ){i:Int}{x:UInt8}(h0:0<=i)(h:s[i.toNat]?=some x):ixS (S s) (.d (.int k i))=some (.d (.int .u8 x.toNat)):=by simp only[ixS];rw[if_pos h0,h]
theorem gr{a b:LuQ}{h:Hp}(e:b=a):out (S a) (S b) h:=by subst e;exact VS rfl
theorem aae(b:Bool):CP Y F.gk [B b] (I (if b=true then 1 else 0)):=by refine wm ?_;cases b<;>simp[gk]
theorem WH{x:Nat}(h:x<=64):CP Y F.gj [I x] (I ((x*78913/262144:Nat):Int)):=by refine wj ?_;simp(disch:=try exact ae)[gj]
def cS(n:Nat):Nat:=if n=0 then 0 else n.log2+1
theorem yX{n k:Nat}(h:2^k<=n):cS n=cS (n/2^k)+k:=by
 have hp:0<2^k:=Xf af;have h0:n≠0:=aa;have h1:n/2^k≠0:=by have:=Nat.div_pos h hp;omega
 simp only[cS,h0,h1,if_false]
 have e:n.log2=(n/2^k).log2+k:=by
  rw[Nat.log2_eq_iff h0];have h2:=(Nat.log2_eq_iff h1).1 rfl;constructor
  .rw[X7];exact Zy (Zt _ h2.1) (Ws n _)
  .have:n/2^k+1<=2^((n/2^k).log2+1):=h2.2
   have h3:n<(n/2^k+1)*2^k:=by
    have:=Nat.lt_mul_div_succ n hp;rw[Zo];exact this
   have h4:=Zt (2^k) this;rw[<-X7]at h4;rw[show(n/2^k).log2+k+1=(n/2^k).log2+1+k by omega];omega
 omega
def adc:LuQ:=[0,1,2,2,3,3,3,3,4,4,4,4,4,4,4,4,5,5,5,5,5,5,5,5,5,5,5,5,5,5,5,5,6,6,6,6,6,6,6,6,6,6,6,6,6,6,6,6,6,6,6,6,6,6,6,6,6,6,6,6,6,6,6,6]++(List.replicate 64 7++List.replicate 128 8)
theorem len8:∀x:Fin 256,adc[x.val]?=some (UInt8.ofNat (cS x.val)):=aJ
theorem SZ{x:Nat}{a:Nat}{n:Nat}(hx:x<256)(hn:cS n=cS x+a)(ha:a<=56){h:Hp}:
  (bnd (cvI .u8 (.d (.int .u64 x))) λv10=>bnd (ixS (S adc) v10) λv11=>
   bnd (cvI .i64 v11) λv12=>bnd (biI .add (I a) v12) λv13=>out (I (cS n)) v13 h):=by
 have hb:cS x<=8:=by
  unfold cS;split
  .omega
  .rename_i h0;have:=(Nat.log2_lt h0 (k:=8)).2 aa;omega
 have h8:=len8 ⟨x,hx⟩;simp(disch:=try exact ae);rw[XQ _ aa (x:=UInt8.ofNat (cS x)) (by simpa using h8)];have e:(UInt8.ofNat (cS x)).toNat=cS x:=by simp;omega
 simp(disch:=try exact ae)[e];exact aW aa
set_option maxRecDepth 20000 in
theorem My{n:Nat}(h:n<18446744073709551616):CP Y F.iI [.d (.int .u64 n)] (I (cS n)):=by
 refine Ac ?_
 obtain ⟨x1,a1,hx1,he1,ha1,h1⟩:∃x1 a1:Nat,x1<4294967296∧cS n=cS x1+a1∧a1<=32∧((4294967296<=n∧x1=n/4294967296∧a1=32)∨(n<4294967296∧x1=n∧a1=0)):=by
  by_cases hh:4294967296<=n
  .exact⟨n/4294967296,32,aa,yX (k:=32) hh,aa,.inl ⟨hh,rfl,rfl⟩⟩
  .exact⟨n,0,aa,rfl,aa,.inr ⟨aa,rfl,rfl⟩⟩
 obtain ⟨x2,a2,hx2,he2,ha2,h2⟩:∃x2 a2:Nat,x2<65536∧cS n=cS x2+a2∧a2<=48∧((65536<=x1∧x2=x1/65536∧a2=a1+16)∨(x1<65536∧x2=x1∧a2=a1)):=by
  by_cases hh:65536<=x1
  .exact⟨x1/65536,a1+16,aa,by(have:=yX (n:=x1) (k:=16) hh;simp only[Nat.reducePow]at this;omega),aa,.inl ⟨hh,rfl,rfl⟩⟩
  .exact⟨x1,a1,aa,he1,aa,.inr ⟨aa,rfl,rfl⟩⟩
 obtain ⟨x3,a3,hx3,he3,ha3,h3⟩:∃x3 a3:Nat,x3<256∧cS n=cS x3+a3∧a3<=56∧((256<=x2∧x3=x2/256∧a3=a2+8)∨(x2<256∧x3=x2∧a3=a2)):=by
  by_cases hh:256<=x2
  .exact⟨x2/256,a2+8,aa,by(have:=yX (n:=x2) (k:=8) hh;simp only[Nat.reducePow]at this;omega),aa,.inl ⟨hh,rfl,rfl⟩⟩
  .exact⟨x2,a2,aa,he2,aa,.inr ⟨aa,rfl,rfl⟩⟩
 simp[iI];have key:=SZ (h:=[]) hx3 he3 ha3;refine gQ (l:=[.d (.int .u64 x1),I a1]) (h:=[]) (λq=>?_) ?_
 .rcases h1 with⟨g,rfl,rfl⟩|⟨g,rfl,rfl⟩<;>simp(disch:=try exact ae)[g]
 simp;refine gQ (l:=[.d (.int .u64 x2),I a2]) (h:=[]) (λq=>?_) ?_
 .rcases h2 with⟨g,rfl,rfl⟩|⟨g,rfl,rfl⟩<;>simp(disch:=try exact ae)[g]
 simp;refine gQ (l:=[.d (.int .u64 x3),I a3]) (h:=[]) (λq=>?_) ?_
 .rcases h3 with⟨g,rfl,rfl⟩|⟨g,rfl,rfl⟩<;>simp(disch:=try exact ae)[g]
 exact key
theorem abb:LX=(List.range 20).map λi=>D.int .u64 ((10^i:Nat):Int):=by simp only[LX,List.range,List.range.loop,List.map];rfl
theorem ad3(h:i<20):LX[i]?=some (.int .u64 ((10^i:Nat):Int)):=by rw[abb,List.getElem?_map,List.getElem?_range h];rfl
theorem aev:gl oP=.dptr LX 0:=by unfold gl;rfl
theorem aef:∀b:Fin 65,1<=b.val->(10^(b.val*78913/262144)<=2^b.val∧2^b.val<=10^(b.val*78913/262144+1)∧(b.val*78913/262144=0∨10^(b.val*78913/262144-1)<2^(b.val-1))∧b.val*78913/262144<20):=aJ
theorem vh{n:Nat}(h:0<n):2^(cS n-1)<=n∧n<2^cS n∧1<=cS n:=by have h0:n≠0:=aa;have:=(Nat.log2_eq_iff h0).1 rfl;simp only[cS,h0,if_false];exact⟨this.1,this.2,aa⟩
theorem zY{n d:Nat}(h1:10^(d-1)<=n)(h2:n<10^d)(hd:1<=d)(h:n<18446744073709551616):CP Y F.dG [.d (.int .u64 n)] (I d):=by
 have h0:0<n:=Z3 (Xf af) h1;obtain⟨b1,b2,b3⟩:=vh h0
 have hb:cS n<=64:=by
  unfold cS;split
  .omega
  .rename_i hz;have:=(Nat.log2_lt hz (k:=64)).2 (by simpa using h);omega
 obtain⟨t1,t2,t3,t4⟩:=aef ⟨cS n,aa⟩ b3;simp only at t1 t2 t3 t4;refine wi ?_;simp[dG];refine cd (My h) ?_;simp;refine cd (WH hb) ?_;generalize hk:cS n*78913/262144=k at *;have hg:gl oP=.dptr LX 0:=aev;simp(disch:=try exact ae)[hg];rw[agj _ _ _ (ad3 t4)]
 have hpk:10^(k+1)=10*10^k:=by rw[Nat.pow_succ,Zo]
 have hpd:10^d=10*10^(d-1):=by
  obtain⟨e,rfl⟩:∃e,d=e+1:=⟨d-1,aa⟩;rw[Nat.pow_succ,Zo];rfl
 have a1:10^k<=n->d=k+1:=λhc=>by
  have a1:k<d:=(Yt (a:=10) af).1 aa;have a2:d-1<k+1:=(Yt (a:=10) af).1 aa;omega
 have a2:¬10^k<=n->d=k:=λhc=>by
  have hk1:1<=k:=by
   rcases Ze k with e|e
   .subst e;simp at hc;omega
   .exact e
  have a1:d-1<k:=(Yt (a:=10) af).1 aa
  have a2:k-1<d:=by
   rcases t3 with e|e
   .omega
   .exact(Yt (a:=10) af).1 aa
  omega
 generalize 10^k=P at *;simp;refine cd (aae (decide (P<=n))) ?_;by_cases hc:P<=n
 .have:=a1 hc;simp(disch:=try exact ae)[hc];exact aW aa
 .have:=a2 hc;simp(disch:=try exact ae)[hc];exact aW aa
def dg(n:Nat):UInt8:=UInt8.ofNat (48+n)
def dR:Nat->Nat->LuQ
 |_,0=>[]
 |n,w+1=>dR (n/10) w++[dg (n%10)]
theorem ba:∀(w n:Nat),(dR n w).length=w
 |0,_=>rfl
 |w+1,n=>by simp[dR,ba w]
def u8(b:UInt8):D:=.int .u8 b.toNat
def rO:LuQ:=[48,48,48,49,48,50,48,51,48,52,48,53,48,54,48,55,48,56,48,57,49,48,49,49,49,50,49,51,49,52,49,53,49,54,49,55,49,56,49,57,50,48,50,49,50,50,50,51,50,52,50,53,50,54,50,55,50,56,50,57,51,48,51,49,51,50,51,51,51,52,51,53,51,54,51,55,51,56,51,57,52,48,52,49,52,50,52,51,52,52,52,53,52,54,52,55,52,56,52,57,53,48,53,49,53,50,53,51,53,52,53,53,53,54,53,55,53,56,53,57,54,48,54,49,54,50,54,51,54,52,54,53,54,54,54,55,54,56,54,57,55,48,55,49,55,50,55,51,55,52,55,53,55,54,55,55,55,56,55,57,56,48,56,49,56,50,56,51,56,52,56,53,56,54,56,55,56,56,56,57,57,48,57,49,57,50,57,51,57,52,57,53,57,54,57,55,57,56,57,57]
theorem Je:([48,48,48,49,48,50,48,51,48,52,48,53,48,54,48,55,48,56,48,57,49,48,49,49,49,50,49,51,49,52,49,53,49,54,49,55,49,56,49,57,50,48,50,49,50,50,50,51,50,52,50,53,50,54,50,55,50,56,50,57,51,48,51,49,51,50,51,51,51,52,51,53,51,54,51,55,51,56,51,57,52,48,52,49,52,50,52,51,52,52,52,53,52,54,52,55,52,56,52,57,53,48,53,49,53,50,53,51,53,52,53,53,53,54,53,55,53,56,53,57,54,48,54,49,54,50,54,51,54,52,54,53,54,54,54,55,54,56,54,57,55,48,55,49,55,50,55,51,55,52,55,53,55,54,55,55,55,56,55,57,56,48,56,49,56,50,56,51,56,52,56,53,56,54,56,55,56,56,56,57,57,48,57,49,57,50,57,51,57,52,57,53,57,54,57,55,57,56,57,57]:LuQ)=rO:=rfl
theorem Sj:∀x:Fin 200,rO[x.val]?=some (dg (if x.val%2=0 then x.val/2/10 else x.val/2%10)):=aJ
def smV(i:Int):D:=u8 (dg (if i%2=0 then i.toNat/2/10 else i.toNat/2%10))
@[simp] theorem afc (k:IntKind)(i:Int)(K:V->Prop)(u:PU K)(h0:0<=i)(h1:i<200):rn (bnd (ixS (.d (.str rO)) (.d (.int k i)))) K u=K (.d (smV i)):=by
 have h:=XQ rO (k:=k) h0 (Sj ⟨i.toNat,aa⟩);unfold rn;rw[show V.d (.str rO)=S rO from rfl,h]
 have e:(if i.toNat%2=0 then i.toNat/2/10 else i.toNat/2%10)=(if i%2=0 then i.toNat/2/10 else i.toNat/2%10):=by
  by_cases hc:i%2=0
  .rw[if_pos hc,if_pos aa]
  .rw[if_neg hc,if_neg aa]
 simp_all[smV,u8]
theorem adT{x:Nat}:smV (2*(x:Int))=u8 (dg (x/10)):=by grind[smV]
theorem adS{x:Nat}:smV (2*(x:Int)+1)=u8 (dg (x%10)):=by grind[smV]
theorem Gv(n w:Nat):dR n (w+2)=dR (n/100) w++[dg (n%100/10),dg (n%100%10)]:=by
 simp only[dR,List.append_assoc,List.singleton_append];rw[Xm];have e1:n/10%10=n%100/10:=aa;have e2:n%10=n%100%10:=aa
 grind
theorem agd{α:Type}:∀(l:List α),l.length=8->∃c0 c1 c2 c3 c4 c5 c6 c7,l=[c0,c1,c2,c3,c4,c5,c6,c7]
 |[c0,c1,c2,c3,c4,c5,c6,c7],_=>⟨c0,c1,c2,c3,c4,c5,c6,c7,rfl⟩
 |[],h|[_],h|[_,_],h|[_,_,_],h|[_,_,_,_],h|[_,_,_,_,_],h|[_,_,_,_,_,_],h|[_,_,_,_,_,_,_],h=>by simp at h
 |_::_::_::_::_::_::_::_::_::_,h=>by simp at h
@[simp]theorem agb(s e off len cap tot:Nat):aO (.ref s e off len cap tot)=some (I len):=rfl
theorem ahH(B:LdQ)(c0 c1 c2 c3 c4 c5 c6 c7 x0 x1 x2 x3 x4 x5 x6 x7:D){i1 i2 i3 i4 i5 i6 i7:Nat}
  (h1:i1=1) (h2:i2=2) (h3:i3=3) (h4:i4=4) (h5:i5=5) (h6:i6=6) (h7:i7=7) :
  ((((((((c0::c1::c2::c3::c4::c5::c6::c7::B).set i7 x7).set i6 x6).set i5 x5).set i4 x4).set i3 x3).set i2 x2).set i1 x1).set 0 x0=x0::x1::x2::x3::x4::x5::x6::x7::B:=by simp_all
theorem ahI(B:LdQ)(c0 c1 c2 c3 x0 x1 x2 x3:D){i2 i3:Nat}(h1:i1=1)(h2:i2=2)(h3:i3=3):
  ((((c0::c1::c2::c3::B).set i3 x3).set i2 x2).set i1 x1).set 0 x0=x0::x1::x2::x3::B:=by grind
theorem set2(B:LdQ)(c0 c1 x0 x1:D)(h1:i1=1):((c0::c1::B).set i1 x1).set 0 x0=x0::x1::B:=by grind
@[simp]theorem af0(i:Int):norm (smV i)=smV i:=rfl
theorem uS{x:Nat}{i:Int}(h:i=2*(x:Int)+1):smV i=u8 (dg (x%10)):=by rw[h,adS]
theorem uT{x:Nat}{i:Int}(h:i=2*(x:Int)):smV i=u8 (dg (x/10)):=by rw[h,adT]
theorem agx(n w:Nat):dR n (w+8)=dR (n/100000000) w++[dg (n/1000000%100/10),dg (n/1000000%100%10),dg (n/10000%100/10),dg (n/10000%100%10),dg (n/100%100/10),dg (n/100%100%10),dg (n%100/10),dg (n%100%10)]:=by simp[Gv,Xm]
theorem abY(h0:Hp)(hh:h0.length=2)(k:KL)(off len cap tot:Nat)(pre post:LdQ)(hpre:pre.length=off):∀(r nd n:Nat)(mid done:LdQ),nd<=r->mid.length=nd->nd+done.length=len->len<=24->tot=off+len+post.length ->
  n<10^nd->n<18446744073709551616 ->
  (∀(n' nd':Nat)(mid' done':LdQ),nd'<8->mid'.length=nd'->nd'+done'.length=len->n'<10^nd'->(dR n' nd').map u8++done'=(dR n nd).map u8++done->k (.exit 0) [.d (.int .u64 n'),I nd'] [(1,.data 1 (pre++(mid'++(done'++post))) true false),nnQ]) ->
  lp (eO (CX Y) 2 (.ref 0 1 off len cap tot)) [] h0 [.d (.int .u64 n),I nd] [(1,.data 1 (pre++(mid++(done++post))) true false),nnQ] k:=by
 intro r
 induction r with
 | zero=> 
  intro nd n mid done hr hm hd hl ht hn h64 hk;refine aj ?_;simp(disch:=try exact ae)[eO];exact hk n nd mid done aa hm hd hn rfl
 | succ r ih=>
  intro nd n mid done hr hm hd hl ht hn h64 hk;refine aj ?_;by_cases h8:8<=nd
  ·obtain ⟨m',c0,c1,c2,c3,c4,c5,c6,c7,rfl⟩:∃(m':LdQ)(c0 c1 c2 c3 c4 c5 c6 c7:D),mid=m'++[c0,c1,c2,c3,c4,c5,c6,c7]:=by
    obtain⟨c0,c1,c2,c3,c4,c5,c6,c7,e⟩:=agd (mid.drop (nd-8)) (by grind);exact⟨mid.take (nd-8),c0,c1,c2,c3,c4,c5,c6,c7,by rw[<-e,Xu]⟩
   have e0:pre++(m'++[c0,c1,c2,c3,c4,c5,c6,c7]++(done++post))=(pre++m')++c0::c1::c2::c3::c4::c5::c6::c7::(done++post):=ac;rw[e0];simp only[List.length_append,List.length_cons,List.length_nil]at hm;have hA:(pre++m').length=off+nd-8:=by simp;omega
   have e9:∀x0 x1 x2 x3 x4 x5 x6 x7:D,(pre++m')++x0::x1::x2::x3::x4::x5::x6::x7::(done++post)=pre++(m'++((x0::x1::x2::x3::x4::x5::x6::x7::done)++post)):=by intros;simp
   generalize pre++m'=A at *;unfold eO;simp only[Je];simp(disch:=try exact ae)[Zv,Zu];rw[ahH _ _ _ _ _ _ _ _ _ _ _ _ _ _ _ _ _ aa aa aa aa aa aa aa,e9]
   rw[uS (x:=n%100) (i:=(n:Int)%100*2+1) aa,uT (x:=n%100) (i:=(n:Int)%100*2) aa,uS (x:=n/100%100) (i:=(n:Int)%10000/100*2+1) aa,uT (x:=n/100%100) (i:=(n:Int)%10000/100*2) aa,uS (x:=n/10000%100) (i:=(n:Int)%100000000/10000%100*2+1) aa,uT (x:=n/10000%100) (i:=(n:Int)%100000000/10000%100*2) aa,uS (x:=n/1000000%100) (i:=(n:Int)%100000000/10000/100*2+1) aa,uT (x:=n/1000000%100) (i:=(n:Int)%100000000/10000/100*2) aa]
   obtain⟨w,rfl⟩:∃w,nd=w+8:=⟨nd-8,aa⟩;have hd8:=agx n w;rw[show((w+8:Nat):Int)-8=(w:Nat) by omega,show(n:Int)/100000000=((n/100000000:Nat):Int) by omega]
   refine ih w (n/100000000) m' (u8 (dg (n/1000000%100/10))::u8 (dg (n/1000000%100%10))::u8 (dg (n/10000%100/10))::u8 (dg (n/10000%100%10))::u8 (dg (n/100%100/10))::u8 (dg (n/100%100%10))::u8 (dg (n%100/10))::u8 (dg (n%100%10))::done) aa aa aX hl ht ?_ aa ?_
   .grind
   .intro n' nd' mid' done' g1 g2 g3 g4 g5;refine hk n' nd' mid' done' g1 g2 g3 g4 ?_;rw[g5,hd8];simp
  .simp(disch:=try exact ae)[eO];exact hk n nd mid done aa hm hd hn rfl
theorem Pq{x:Nat}(h:x<10):u8 (dg x)=.int .u8 (48+x):=by unfold u8 dg;congr 1;simp;omega
theorem age{α:Type}:∀(l:List α),l.length=4->∃c0 c1 c2 c3,l=[c0,c1,c2,c3]
 |[c0,c1,c2,c3],_=>⟨c0,c1,c2,c3,rfl⟩
 |[],h|[_],h|[_,_],h|[_,_,_],h=>by simp at h
 |_::_::_::_::_::_,h=>by grind
theorem agf{α:Type}:∀(l:List α),l.length=2->∃c0 c1,l=[c0,c1]
 |[c0,c1],_=>⟨c0,c1,rfl⟩
 |[],h|[_],h=>by simp at h
 |_::_::_::_,h=>by grind
theorem abZ(n nd:Nat)(mid B:LdQ)(h8:nd<8)(hm:mid.length=nd)(hn:n<10^nd):∃(n1 nd1:Nat)(mid1 B1:LdQ),nd1<4∧mid1.length=nd1∧n1<10^nd1∧nd1+B1.length=nd+B.length∧(dR n1 nd1).map u8++B1=(dR n nd).map u8++B ∧
  ((4<=nd∧n1=n/10000∧nd1=nd-4∧(∃c0 c1 c2 c3,mid=mid1++[c0,c1,c2,c3])∧B1=u8 (dg (n/100%100/10))::u8 (dg (n/100%100%10))::u8 (dg (n%100/10))::u8 (dg (n%100%10))::B)∨(¬4<=nd∧n1=n∧nd1=nd∧mid1=mid∧B1=B)):=by
 by_cases h4:4<=nd
 .obtain⟨w,rfl⟩:∃w,nd=w+4:=⟨nd-4,aa⟩;obtain⟨c0,c1,c2,c3,e⟩:=age (mid.drop w) (by grind);refine⟨n/10000,w,mid.take w,_,aa,by grind,?_,?_,?_,.inl ⟨h4,rfl,aa,⟨c0,c1,c2,c3,by rw[<-e,Xu]⟩,rfl⟩⟩
  .grind
  .grind
  simp[Gv,Xm]
 .exact⟨n,nd,mid,B,aa,hm,hn,rfl,rfl,.inr ⟨h4,rfl,rfl,rfl,rfl⟩⟩
theorem aeD(n nd:Nat)(mid B:LdQ)(h8:nd<4)(hm:mid.length=nd)(hn:n<10^nd):∃(n1 nd1:Nat)(mid1 B1:LdQ),nd1<2∧mid1.length=nd1∧n1<10^nd1∧nd1+B1.length=nd+B.length∧(dR n1 nd1).map u8++B1=(dR n nd).map u8++B ∧
  ((2<=nd∧n1=n/100∧nd1=nd-2∧(∃c0 c1,mid=mid1++[c0,c1])∧B1=u8 (dg (n%100/10))::u8 (dg (n%100%10))::B)∨(¬2<=nd∧n1=n∧nd1=nd∧mid1=mid∧B1=B)):=by
 by_cases h4:2<=nd
 .obtain⟨w,rfl⟩:∃w,nd=w+2:=⟨nd-2,aa⟩;obtain⟨c0,c1,e⟩:=agf (mid.drop w) (by grind);refine⟨n/100,w,mid.take w,_,aa,by grind,?_,?_,?_,.inl ⟨h4,rfl,aa,⟨c0,c1,by rw[<-e,Xu]⟩,rfl⟩⟩
  .grind
  .grind
  simp[Gv]
 .exact⟨n,nd,mid,B,aa,hm,hn,rfl,rfl,.inr ⟨h4,rfl,rfl,rfl,rfl⟩⟩
def fbH(pre mid B:LdQ):Hp:=[(1,.data 1 (pre++(mid++B)) true false),nnQ]
theorem adg{off tot n d:Nat}{pre mid post:LdQ}(hpre:pre.length=off)(hm:mid.length=d)(hd:d<=24)(ht:tot=off+d+post.length)(hn:n<10^d)(h64:n<18446744073709551616):
  CI Y F.bP [.ref 0 1 off d cap tot,.d (.int .u64 n)] [(1,.data 1 (pre++(mid++post)) true false),nnQ] (.tup []) [(1,.data 1 (pre++((dR n d).map u8++post)) true false),nnQ]:=by
 refine tS ?_;unfold bP;simp only[Je];simp;refine lo (abY _ rfl _ off d cap tot pre post hpre d d n mid [] aa hm ac hd ht hn h64 (λn' nd mid' done g1 g2 g3 g4 g5=>?_));have hp8:10^nd<=10^7:=Zz af aa;simp only[Nat.reducePow]at hp8;simp(disch:=try exact ae)
 obtain⟨n1,d1,mid1,B1,f1,f2,f3,f4,f5,f6⟩:=abZ n' nd mid' (done++post) g1 g2 g4;refine gQ (l:=[.d (.int .u32 n1),I d1]) (h:=fbH pre mid1 B1) (λq=>?_) ?_
 .rcases f6 with⟨c,rfl,rfl,⟨c0,c1,c2,c3,rfl⟩,rfl⟩|⟨c,rfl,rfl,rfl,rfl⟩
  .have e0:pre++(mid1++[c0,c1,c2,c3]++(done++post))=(pre++mid1)++c0::c1::c2::c3::(done++post):=ac;rw[e0];simp only[List.length_append,List.length_cons,List.length_nil]at g2;have hA:(pre++mid1).length=off+nd-4:=by simp;omega
   have e9:∀x0 x1 x2 x3:D,(pre++mid1)++x0::x1::x2::x3::(done++post)=pre++(mid1++(x0::x1::x2::x3::(done++post))):=by intros;simp
   generalize pre++mid1=A at *;simp(disch:=try exact ae)[c,Zv,Zu];rw[ahI _ _ _ _ _ _ _ _ _ aa aa aa,e9]
   rw[uS (x:=n'%100) (i:=(n':Int)%100*2+1) aa,uT (x:=n'%100) (i:=(n':Int)%100*2) aa,uS (x:=n'/100%100) (i:=(n':Int)%10000/100*2+1) aa,uT (x:=n'/100%100) (i:=(n':Int)%10000/100*2) aa];simp[fbH,I,show((nd-4:Nat):Int)=(nd:Int)-4 by omega]
  .simp(disch:=try exact ae)[c,fbH]
 have hp4:10^d1<=10^3:=Zz af aa;simp only[Nat.reducePow]at hp4;simp;obtain⟨n2,d2,mid2,B2,e1,e2,e3,e4,e5,e6⟩:=aeD n1 d1 mid1 B1 f1 f2 f3;refine gQ (l:=[.d (.int .u32 n2),I d2]) (h:=fbH pre mid2 B2) (λq=>?_) ?_
 .rcases e6 with⟨c,rfl,rfl,⟨c0,c1,rfl⟩,rfl⟩|⟨c,rfl,rfl,rfl,rfl⟩
  .have e0:pre++(mid2++[c0,c1]++B1)=(pre++mid2)++c0::c1::B1:=ac;rw[fbH,e0];simp only[List.length_append,List.length_cons,List.length_nil]at f2;have hA:(pre++mid2).length=off+d1-2:=by simp;omega
   have hB:tot=off+d1+B1.length:=by simp at f4;omega
   have e9:∀x0 x1:D,(pre++mid2)++x0::x1::B1=pre++(mid2++(x0::x1::B1)):=by intros;simp
   generalize pre++mid2=A at *;simp(disch:=try exact ae)[c,Zv,Zu];rw[set2 _ _ _ _ _ aa,e9];rw[uS (x:=n1%100) (i:=(n1:Int)%100*2+1) aa,uT (x:=n1%100) (i:=(n1:Int)%100*2) aa];simp[fbH,I,show((d1-2:Nat):Int)=(d1:Int)-2 by omega]
  .simp(disch:=try exact ae)[c,fbH]
 simp
 have hend:fbH pre ((dR n2 d2).map u8) B2=[(1,.data 1 (pre++((dR n d).map u8++post)) true false),nnQ]:=by
  simp only[fbH];rw[e5,f5,<-List.append_assoc ((dR n' nd).map u8),g5];simp
 refine gQ (l:=[]) (h:=fbH pre ((dR n2 d2).map u8) B2) (λq=>?_) ?_
 .match d2,e1,mid2,e2 with
  |0,_,[],_=>simp[fbH,dR]
  | 1,_,[c0],_=>
   have hn2:n2<10:=by simpa using e3
   have hB:tot=off+1+B2.length:=by simp at f4;omega
   simp(disch:=try exact ae)[fbH,dR];rw[Ya hn2,Pq hn2]
 rw[hend];simp[mi];exact⟨by trivial,.inl (by trivial)⟩
@[simp]theorem ahX(s n:Nat)(cs:LdQ)(h:Hp)(k:kkQ)(u:PU k):rh (alD s n cs h) k u=rn (bnh h[s]?) (λx=>k (.ptr s (x.1+1) 0 cs.length) (h.set s (x.1+1,.data n cs true false))) .mk:=by unfold rh rn alD;exact DT ..
def ndg(n:Nat):Nat:=if n<10 then 1 else ndg (n/10)+1
theorem lZ(n:Nat):1<=ndg n:=by unfold ndg;split<;>omega
theorem cQ:∀n:Nat,n<10^ndg n:=by
 intro n
 induction n using Nat.strongRecOn with
 | _ n ih=>
  unfold ndg;split
  .simpa using ‹n<10›
  .have:=ih (n/10) aa;rw[Nat.pow_succ];omega
theorem BL:∀n:Nat,0<n->10^(ndg n-1)<=n:=by
 intro n
 induction n using Nat.strongRecOn with
 | _ n ih=>
  intro h0;unfold ndg;split
  .simp;omega
  .have h1:=ih (n/10) aa aa;have h2:=lZ (n/10);rw[show ndg (n/10)+1-1=(ndg (n/10)-1)+1 by omega,Nat.pow_succ];omega
theorem gK{n d:Nat}(h:n<10^d)(hd:1<=d):ndg n<=d:=by
 rcases Ze n with e|e
 .subst e;unfold ndg;rw[if_pos aa];exact hd
 .have h1:=BL n e;have:ndg n-1<d:=(Yt (a:=10) af).1 aa;omega
def ah(n:Nat):LuQ:=dR n (ndg n)
def itoa(z:Int):LuQ:=if z<0 then 45::ah z.natAbs else ah z.natAbs
def ZB:LuQ:=[48,49,50,51,52,53,54,55,56,57,97,98,99,100,101,102,103,104,105,106,107,108,109,110,111,112,113,114,115,116,117,118,119,120,121,122]
theorem agv:([48,49,50,51,52,53,54,55,56,57,97,98,99,100,101,102,103,104,105,106,107,108,109,110,111,112,113,114,115,116,117,118,119,120,121,122]:LuQ)=ZB:=rfl
theorem UC:∀x:Fin 10,(ZB.drop x.val).take 1=ah x.val:=aJ
theorem UD:∀x:Fin 100,10<=x.val->(rO.drop (2*x.val)).take 2=ah x.val:=by intro x hx;have h1:=(show ∀x:Fin 100,(rO.drop (2*x.val)).take 2=dR x.val 2 by decide+kernel) x;rw[h1,ah];congr 1;unfold ndg;rw[if_neg aa];unfold ndg;rw[if_pos aa]
theorem NZ{s:LuQ}{l:IntKind}{i j:Int}(a b:Nat)(hi:i=a)(hj:j=b)(h1:a<=b)(h2:b<=s.length):slS (.d (.str s)) (some (.d (.int k i))) (some (.d (.int l j)))=some (.d (.str ((s.drop a).take (b-a)))):=by subst hi hj;simp only[slS,boV];rw[if_pos aa];simp only[];rw[if_pos aa];simp
theorem Lj{n:Nat}(h:n<100):CP Y F.iJ [I n] (S (ah n)):=by
 refine Aw ?_;unfold iJ;simp only[Je,agv];by_cases c:n<10
 .simp(disch:=try exact ae)[c];rw[NZ n (n+1) aa aa aa (by rw[show ZB.length=36 from rfl];omega)];have:=UC ⟨n,c⟩;simp only[]at this;simp[this];exact gr rfl
 .simp(disch:=try exact ae)[c];rw[NZ (2*n) (2*n+2) aa aa aa (by rw[show rO.length=200 from rfl];omega)];have:=UD ⟨n,h⟩ (by simpa using c);simp only[]at this;simp[this];exact gr rfl
theorem Cn:∀l:LuQ,bytesD (l.map u8)=some l
 |[]=>rfl
 | b::l=>by
  have hb:=b.toNat_lt;simp only[Zs,u8,bytesD];rw[if_pos aa];have:=Cn l;rw[this];simp
abbrev cH(cells:LdQ):Hp:=[(1,.data 1 cells true false),nnQ]
theorem UE(hc:cells.length=24){l:IntKind}{i j:Int}(a b:Nat)(hi:i=a)(hj:j=b)(h1:a<=b)(h2:b<=24):
  slP 24 1 (cH cells) (.ptr 0 1 0 24) (some (.d (.int k i))) (some (.d (.int l j)))=some (.ref 0 1 a (b-a) (24-a) 24):=by simp only[slP,cH,aw];simp[AU hj h2,AU hi h1,hc]
theorem Ji(hc:cells.length=24){l:IntKind}{j:Int}(b:Nat)(hj:j=b)(h2:b<=24):
  slP 24 1 (cH cells) (.ptr 0 1 0 24) none (some (.d (.int l j)))=some (.ref 0 1 0 b 24 24):=by simp only[slP,cH,aw];simp[AU hj h2,Nq,hc]
theorem OZ(hc:cells.length=24){len:Nat}{bs:LuQ}(hl:i+len<=24)(he:(cells.drop i).take len=bs.map u8)(hb:bs.length=len):cvT (cH cells) (.ref 0 1 i len cap 24)=some (S bs):=by simp only[cvT,cellsOf,cH,aw];simp[hc,hl,he,hb,Cn]
theorem Tk(h1 : -9223372036854775808<z)(h2:z<9223372036854775808):CP Y F.dI [I z,I 10] (S (itoa z)):=by
 refine wn ?_;have hd1:=lZ z.natAbs;have hd2:ndg z.natAbs<=19:=gK aa aa;have hn:=cQ z.natAbs;by_cases hs:0<=z∧z<100
 .obtain⟨hs1,hs2⟩:=hs;obtain⟨n,rfl⟩:∃n:Nat,z=n:=⟨z.toNat,aa⟩;simp[dI,hs1,hs2];refine cd (Lj (n:=n) aa) ?_;rw[show itoa (n:Int)=ah n by unfold itoa;rw[if_neg aa];rfl];exact gr rfl
 .have hcs:(0<=z∧¬z<100)∨¬0<=z:=aa;have hw:z<0->IntKind.wrap .u64 z=z+18446744073709551616:=λh=>by rw[Hy];omega
  have hw2:z<0->IntKind.wrap .u64 (-(z+18446744073709551616)) = -z:=λh=>by rw[Hy];omega
  have hn64:z.natAbs<18446744073709551616:=aa;have hn0:0<z.natAbs:=aa;have hab:(z.natAbs:Int)=if z<0 then -z else z:=by split<;>omega
  have hit:itoa z=if z<0 then 45::dR z.natAbs (ndg z.natAbs)else dR z.natAbs (ndg z.natAbs):=rfl
  have hlo:=BL z.natAbs hn0;generalize ndg z.natAbs=d at *;generalize z.natAbs=n at *
  obtain ⟨mid,post,hm,hp,hcell⟩:∃mid post:LdQ,mid.length=d∧post.length=23-d∧List.replicate 24 (D.int .u8 0)=[D.int .u8 0]++(mid++post):=by
   refine⟨List.replicate d (.int .u8 0),List.replicate (23-d) (.int .u8 0),ac,ac,?_⟩;rw[List.replicate_append_replicate,show d+(23-d)=23 by omega];rfl
  have hmain:cal (CX Y).p (cH ([D.int .u8 0]++(mid++post))) (.fn F.dG [] []) [.d (.int .u64 n)] λv12 h=>
    bnd (biI .add (.d (.int .i64 1)) v12) λv13=>
    bnd (slP 24 1 h (.ptr 0 1 0 24) (some (.d (.int .i64 1))) (some v13)) λv14=>
    cai (CX Y).i h (.fn F.bP [] []) [v14,.d (.int .u64 n)] 1 λv15 h=>
    bnd (biI .lss (I z) (.d (.int .i64 0))) λv16=>
    cnd v16 (
     bnd (ixP 24 1 (.ptr 0 1 0 24) (.d (.int .i64 0))) λv17=>
     stD h 1 v17 (.d (.int .u8 45)) λ_ h=>
     bnd (biI .add (.d (.int .i64 1)) v12) λv19=>
     bnd (slP 24 1 h (.ptr 0 1 0 24) none (some v19)) λv20=>
     bnd (cvT h v20) λv21=>
     out (S (itoa z)) v21 h) (
     bnd (biI .add (.d (.int .i64 1)) v12) λv22=>
     bnd (slP 24 1 h (.ptr 0 1 0 24) (some (.d (.int .i64 1))) (some v22)) λv23=>
     bnd (cvT h v23) λv24=>
     out (S (itoa z)) v24 h):=by
   refine cd (u:=.mk) (zY hlo hn hd1 hn64) ?_;simp(disch:=try exact ae);rw[UE aX 1 (d+1) aa aa aa aa];simp;refine gP (h':=cH ([D.int .u8 0]++((dR n d).map u8++post))) (adg (pre:=[D.int .u8 0]) rfl hm aa aa hn hn64) ?_ ac;by_cases g:z<0
   .rw[if_pos g]at hit;simp[g,ba,hp];rw[Se _ _ _ _ _ _ _ _ _ (by simp[ba];omega) ac];simp(disch:=try exact ae)[bL];rw[Ji (by simp[ba];omega) (d+1) aa aa];simp;rw[OZ (bs:=45::dR n d) (by simp[ba];omega) aa (by simp[u8,ba,List.take_append,Z2]) (by simp[ba])]
    rw[hit];simp;exact gr rfl
   .rw[if_neg g]at hit;simp(disch:=try exact ae)[g];rw[UE (by simp[ba];omega) 1 (d+1) aa aa aa aa];simp;rw[OZ (bs:=dR n d) (by simp[ba];omega) aa (by simp[ba,List.take_append,Z2]) (by simp[ba])];rw[hit];simp;exact gr rfl
  rcases hcs with⟨g1,g2⟩|g1
  .have g3:¬z<0:=aa;rw[if_neg g3]at hab;simp[dI,g1,g2];refine gQ (l:=[.d (.int .u64 n)]) (h:=cH ([D.int .u8 0]++(mid++post))) (λq=>?_) hmain;rw[<-hcell];simp(disch:=try exact ae)[g3,hab]
  .have g3:z<0:=aa;rw[if_pos g3]at hab;simp[dI,g1];refine gQ (l:=[.d (.int .u64 n)]) (h:=cH ([D.int .u8 0]++(mid++post))) (λq=>?_) hmain;rw[<-hcell];simp[g3,hab,hw g3,hw2 g3]
theorem aeq(h1 : -9223372036854775808<z)(h2:z<9223372036854775808):CP Y F.k9 [I z] (S (itoa z)):=by refine B4 ?_;simp[k9];refine cd (Tk h1 h2) ?_;exact gr rfl
theorem D6(h1 : -9223372036854775808<z)(h2:z<9223372036854775808):CP Y F.strconv_Itoa [I z] (S (itoa z)):=by refine EC ?_;simp[strconv_Itoa];refine cd (aeq h1 h2) ?_;exact gr rfl
def qA(b:UInt8):Bool:=decide (48<=b.toNat)&&decide (b.toNat<=57)
theorem mq{b:UInt8}:qA b=true↔48<=b.toNat∧b.toNat<=57:=by simp[qA]
def fP(a:Nat)(s:LuQ):Nat:=s.foldl (λa b=>a*10+(b.toNat-48)) a
@[simp]theorem Iw(a:Nat):fP a []=a:=by unfold fP;rw[List.foldl_nil]
@[simp]theorem kz(a:Nat)(b:UInt8)(s:LuQ):fP a (b::s)=fP (a*10+(b.toNat-48)) s:=by unfold fP;rw[List.foldl_cons]
theorem Ke(x:Nat):(dg x).toNat=(48+x)%256:=by simp[dg]
theorem agw{b:UInt8}(h:qA b=true):dg (b.toNat-48)=b:=by rw[mq]at h;apply UInt8.toNat.inj;rw[Ke];omega
theorem ID:∀(s:LuQ)(a w:Nat),s.all qA=true->dR (fP a s) (w+s.length)=dR a w++s
 |[],a,w,_=>by simp
 | b::s,a,w,h=>by
  simp only[List.all_cons,Z7]at h;have:=ID s (a*10+(b.toNat-48)) (w+1) h.2;have hb:=mq.1 h.1;rw[kz,List.length_cons,show w+(s.length+1)=w+1+s.length by omega,this];simp only[dR];rw[show(a*10+(b.toNat-48))/10=a by omega,show(a*10+(b.toNat-48))%10=b.toNat-48 by omega,agw h.1];simp
theorem FW:∀(s:LuQ)(a:Nat),a*10^s.length<=fP a s
 |[],a=>by simp
 | b::s,a=>by
  have:=FW s (a*10+(b.toNat-48));rw[kz,List.length_cons,Nat.pow_succ];refine Zy ?_ this;rw[Zo (10^s.length),<-Nat.mul_assoc];exact Zt _ aa
theorem uC:∀(s:LuQ)(a:Nat),s.all qA=true->fP a s<(a+1)*10^s.length
 |[],a,_=>by simp
 | b::s,a,h=>by
  simp only[List.all_cons,Z7]at h;have:=uC s (a*10+(b.toNat-48)) h.2;have hb:=mq.1 h.1;rw[kz,List.length_cons,Nat.pow_succ];refine Z3 this ?_;rw[Zo (10^s.length),<-Nat.mul_assoc];exact Zt _ aa
theorem V6{n d:Nat}(h1:10^d<=n)(h2:n<10^(d+1)):ndg n=d+1:=by have:=gK h2 aa;have h3:=cQ n;have:d<ndg n:=(Yt (a:=10) af).1 aa;omega
def rt(s:LuQ):Bool:=!s.isEmpty&&s.all qA && !(decide (1<s.length)&&decide (s.headD 0=48))
theorem FR{s:LuQ}(h:rt s=true):ah (fP 0 s)=s:=by
 simp only[rt,Z7,Y4,Xi,decide_eq_false_iff_not]at h;obtain⟨⟨h0,h1⟩,h2⟩:=h;cases s with
 |nil=>simp at h0
 | cons b s=>
  have hd:=ID (b::s) 0 0 h1;simp only[List.all_cons,Z7]at h1;have hb:=mq.1 h1.1;simp only[Zj,dR,List.nil_append]at hd
  have hn:ndg (fP 0 (b::s))=(b::s).length:=by
   have lo:=FW s (b.toNat-48);have hi:=uC s (b.toNat-48) h1.2;simp only[kz,Wv,Zj,List.length_cons]at *;by_cases hs:s=[]
   .subst hs;simp only[Iw,List.length_nil,Zj];unfold ndg;rw[if_pos aa]
   .have hl:0<s.length:=Xn.2 hs
    have hb0:b.toNat≠48:=by
     rcases h2 with h2|h2
     .omega
     .intro e;apply h2;simp only[List.headD_cons];apply UInt8.toNat.inj;rw[e];rfl
    refine V6 ?_ ?_
    .refine Zy ?_ lo;have:=Zt (10^s.length) (show 1<=b.toNat-48 by omega);omega
    .refine Z3 hi ?_;rw[Nat.pow_succ,Zo];exact Z0 _ aa
  unfold ah;rw[hn];exact hd
theorem abM{x:Nat}(h:x<10):qA (dg x)=true:=by rw[mq,Ke];omega
theorem aeK{x:Nat}(h:x<10):(dg x).toNat=48+x:=by rw[Ke];omega
theorem xt:∀(w n:Nat),(dR n w).all qA=true
 |0,_=>rfl
 | w+1,n=>by
  simp only[dR,Zb,xt w,List.all_cons,List.all_nil,Ye,Yz];exact abM aa
theorem vv:∀(s t:LuQ)(a:Nat),fP a (s++t)=fP (fP a s) t
 |[],t,a=>rfl
 |b::s,t,a=>by rw[List.cons_append,kz,kz,vv s t]
theorem xQ:∀(w n:Nat),n<10^w->fP 0 (dR n w)=n
 |0,n,h=>by simp at h;subst h;rfl
 | w+1,n,h=>by
  have:=xQ w (n/10) (by rw[Nat.pow_succ]at h;omega);simp only[dR,vv,this,kz,Iw];rw[aeK aa];omega
theorem ta(n:Nat):rt (ah n)=true:=by
 have hl:(ah n).length=ndg n:=ba ..;have hp:=lZ n;have ha:(ah n).all qA=true:=xt ..;have hh:fP 0 (ah n)=n:=xQ _ _ (cQ n);cases he:ah n with
 |nil=>rw[he]at hl;simp at hl;omega
 | cons b s=>
  rw[he]at hl ha hh;simp only[rt,List.isEmpty_cons,Bool.not_false,Yz,ha,List.headD_cons,Y4,Xi,decide_eq_false_iff_not];by_cases h1:1<(b::s).length
  .right;refine decide_eq_false λe=>?_
   subst e;simp only[List.all_cons,Z7]at ha;have hi:=uC s 0 ha.2;simp only[kz,List.length_cons]at *;have e48:(48:UInt8).toNat=48:=rfl;rw[e48]at hh;simp only[Zc,Wv,Zj,Wl]at *;rw[hh]at hi
   have lo:=BL n (by
    rcases Ze n with e|e
    .have e1:ndg 0=1:=by unfold ndg;rfl
     rw[e,e1]at hl;omega
    .exact e)
   rw[<-hl]at lo;simp at lo;omega
  .left;simpa using h1
theorem d6(n:Nat):fP 0 (ah n)=n:=xQ _ _ (cQ n)
def rdS(s:LuQ):Option Int:=if s.headD 0=45 then(if rt s.tail=true∧s.tail≠[48]then some (-(fP 0 s.tail:Int))else none)else if rt s=true then some (fP 0 s:Int)else none
theorem xm(n:Nat):ah n≠[]:=by intro e;have:(ah n).length=ndg n:=ba ..;have:=lZ n;rw[e]at *;simp at *;omega
theorem sY(n:Nat):(ah n).headD 0≠45:=by
 have ha:(ah n).all qA=true:=xt ..;cases he:ah n with
 |nil=>exact absurd he (xm n)
 | cons b s=>
  rw[he]at ha;simp only[List.all_cons,Z7,mq]at ha;simp only[List.headD_cons];intro e;subst e;have:(45:UInt8).toNat=45:=rfl;omega
theorem LN(z:Int):rdS (itoa z)=some z:=by
 unfold rdS itoa;by_cases hz:z<0
 .rw[if_pos hz,List.headD_cons,if_pos rfl,List.tail_cons,ta,d6,if_pos]
  .congr 1;omega
  .refine⟨rfl,λe=>?_⟩;have:=d6 z.natAbs;rw[e]at this;have e2:fP 0 [48]=0:=rfl;omega
 .rw[if_neg hz,if_neg (sY _),if_pos (ta _),d6];congr 1;omega
theorem Vv{s:LuQ}(h:rdS s=some z):s=itoa z:=by
 unfold rdS at h;split at h
 .rename_i hd;split at h
  .rename_i hc;simp only[Z9]at h;subst h;cases s with
   |nil=>simp at hd
   | cons b s=>
    simp only[List.headD_cons]at hd;subst hd;simp only[List.tail_cons]at *;have he:=FR hc.1
    have h0:fP 0 s≠0:=by
     intro e;rw[e]at he;apply hc.2;rw[<-he];unfold ah ndg;rfl
    unfold itoa;rw[if_pos aa,Xz,Int.natAbs_natCast,he]
  .cases h
 .split at h
  .rename_i hc;simp only[Z9]at h;subst h;unfold itoa;rw[if_neg aa,Int.natAbs_natCast,FR hc]
  .cases h
theorem AS:∀(v w n:Nat),dR n (w+v)=dR (n/10^v) w++dR n v
 |0,w,n=>by simp[dR]
 | v+1,w,n=>by
  rw[show w+(v+1)=(w+v)+1 by omega];simp only[dR];rw[AS v w (n/10),Xm,Nat.pow_succ,Zo 10,List.append_assoc]
theorem AR:∀(w n m:Nat),dR (n+10^w*m) w=dR n w
 |0,_,_=>rfl
 | w+1,n,m=>by
  simp only[dR];have e:n+10^(w+1)*m=n+10*(10^w*m):=by rw[Nat.pow_succ,Zo (10^w) 10,Nat.mul_assoc]
  rw[e,Yg _ _ af,Xg,AR w]
theorem S6{t k:Nat}(ht:0<t)(hr:r<10^k):ah (r+10^k*t)=ah t++dR r k:=by
 have h1:=BL t ht;have h2:=cQ t;have h3:=lZ t;obtain⟨d,hd⟩:∃d,ndg t=d+1:=⟨ndg t-1,aa⟩
 have hn:ndg (r+10^k*t)=ndg t+k:=by
  rw[hd]at h1 h2 ⊢;simp only[Nat.add_sub_cancel]at h1;rw[show d+1+k=(d+k)+1 by omega];refine V6 ?_ ?_
  .rw[X7,Zo];have:=Z0 (10^k) h1;omega
  .rw[show d+k+1=k+(d+1) by omega,X7];have:=Z0 (10^k) h2;rw[Nat.mul_succ]at this;omega
 have e:=AS k (ndg t) (r+10^k*t);rw[<-hn,Yg _ _ (Nat.pos_of_ne_zero (by have:=Xf (a:=10) (n:=k) af;omega)),Xc hr,Zj,AR]at e;exact e
theorem Cq:∀a:Fin 10,biI .and (.d (.int .u64 a.val)) (.d (.int .u64 4294967295))=some (.d (.int .u64 a.val)):=by
 intro a
 match a with
 |0|1|2|3|4|5|6|7|8|9=>rfl
@[simp]theorem aiA{n:Nat}(h:n<10):biI .and (.d (.int .u64 (n:Int))) (.d (.int .u64 4294967295))=some (.d (.int .u64 n)):=Cq ⟨n,h⟩
@[simp]theorem aip:biI .and (.d (.int .u64 1)) (.d (.int .u64 4294967295))=some (.d (.int .u64 1)):=Cq 1
@[simp]theorem aiq:biI .and (.d (.int .u64 0)) (.d (.int .u64 4294967295))=some (.d (.int .u64 0)):=Cq 0
theorem Mf{n:Nat}(h:n<10):CP Y F.dw [.d (.int .u64 1),.d (.int .u64 n)] (.tup [.d (.int .u64 0),.d (.int .u64 n)]):=by refine tD ?_;have e:(n:Int)/4294967296=0:=aa;simp(disch:=try exact ae)[dw,e];exact⟨[],by simp[bV,aK]⟩
theorem SQ{n:Nat}(h:n<10):CP Y F.mH [.d (.int .u64 1),.d (.int .u64 n)] (.tup [.d (.int .u64 0),.d (.int .u64 n)]):=by refine De ?_;simp(disch:=try exact ae)[mH];refine cd (Mf h) ?_;simp(disch:=try exact ae);exact⟨[],by simp[bV,aK]⟩
def Ck:Nat->Nat->LnQ
 |_,0=>[]
 |n,w+1=>Ck (n/10) w++[n%10]
theorem Gu:∀(w n:Nat),(Ck n w).length=w
 |0,_=>rfl
 |w+1,n=>by simp[Ck,Gu w]
theorem Ed:∀(w n:Nat),∀x∈Ck n w,x<10
 |0,_=>by simp[Ck]
 | w+1,n=>by
  intro x hx;simp only[Ck,Xx,Xa]at hx;rcases hx with hx|hx
  .exact Ed w _ x hx
  .omega
theorem Kg:∀(w n:Nat),dR n w=(Ck n w).map dg
 |0,_=>rfl
 |w+1,n=>by simp[dR,Ck,Kg w]
def abO(a:Nat)(l:LnQ):Nat:=l.foldl (λa d=>a*10+d) a
theorem FV:∀(w n:Nat),n<10^w->abO 0 (Ck n w)=n
 |0,n,h=>by simp at h;subst h;rfl
 | w+1,n,h=>by
  have:=FV w (n/10) (by rw[Nat.pow_succ]at h;omega);unfold abO at this;simp only[abO,Ck,List.foldl_append,this,List.foldl_cons,List.foldl_nil];omega
def f8(x:Nat):D:=.int .u8 (48+x)
theorem ZG(n w:Nat):(dR n w).map u8=(Ck n w).map f8:=by rw[Kg,Wj];apply List.map_congr_left;intro x hx;exact Pq (Ed w n x hx)
theorem Kz(k:KL)(h0:Hp)(hh:h0.length=0):∀(r a:LnQ)(s:Nat),(a++r).length<=18->(∀x∈r,x<10)->s<10^a.length ->
  (k (.exit 0) [I (abO s r)] []) ->
  lp (nh (CX Y) (lst f8 (a++r)) (I (a++r).length)) [] h0 [I s,I a.length] [] k
 | []=>by
  intro a s hN hx hs hk;refine aj ?_;simp[nh];exact hk
 | x::r=>by
  intro a s hN hx hs hk;simp at hN hx;have hs18:s<10^17:=Z3 hs (Zz af aa);simp only[Nat.reducePow]at hs18;have hx1:=hx.1;refine aj ?_;simp(disch:=try exact ae)[nh,f8];have:=Kz k h0 hh r (a++[x]) (s*10+x) aX hx.2 (by simp[Nat.pow_succ];omega) hk;simp at this
  rw[show(48+(x:Int)-48)=x by omega];exact this
theorem acJ{n w:Nat}(h1:1<=w)(h2:w<=18)(hn:n<10^w):CP Y F.ia [S (dR n w)] (.tup [I n,.d (.pl .nilIface)]):=by
 refine uB ?_;have hl:=Gu w n;have hlt:=Ed w n;have hh:=FV w n hn;have he:=ZG n w;have hD:=Kg w n;generalize dR n w=L at *;generalize Ck n w=l at *;cases l with
 |nil=>simp at hl;omega
 | cons x l=>
  have hx:=hlt x ac
  have hi:ixS (S L) (.d (.int .i64 0))=some (.d (.int .u8 (48+x))):=by
   rw[hD];simp[ixS];have e:=Pq hx;unfold u8 at e;injection e
  have hlen:L.length=w:=by rw[hD];simpa using hl
  have hlw:oJ (S L)=some (I w):=by rw[JV,hlen]
  simp(disch:=try exact ae)[ia,hlw,hi]
  have hcv:∀(k:kkQ),cvB (S L) [] k=k (lst f8 (x::l)) []:=by
   intro k
   have:V.d (.sl L.length (L.map λb=>.int .u8 b.toNat))=lst f8 (x::l):=by
    unfold lst;rw[hlen,hl,<-he];rfl
   simp only[cvB,this]
  refine gQ (l:=[S L]) (h:=[]) (λq=>?_) ?_
  .simp[show ¬(48+(x:Int)=43) by omega]
  show cvB (S L) [] _
  rw[hcv];simp;refine lo (Kz _ _ rfl (x::l) [] 0 (by simp at hl;simp;omega) hlt ac ?_);simp[hi,hh];refine gQ (l:=[I n]) (h:=[]) (λq=>?_) ?_
  .simp[hh,show ¬(48+(x:Int)=45) by omega]
  exact⟨[],by simp[bV,aK,norm]⟩
theorem JC:biF .neq (.d (.pl .nilIface)) (.d (.pl .nilIface))=some (.d (.bool false)):=rfl
theorem Ky{n w:Nat}(h1:1<=w)(h2:w<=18)(hn:n<10^w):CP Y F.strconv_Atoi [S (dR n w)] (.tup [I n,.d (.pl .nilIface)]):=by refine wT ?_;simp[strconv_Atoi];refine cd (acJ h1 h2 hn) ?_;simp[JC];exact⟨[],by simp[bV,aK,norm]⟩
theorem E5(z:D):∀n,iH n [z]=List.replicate n z
 |0=>rfl
 |n+1=>by simp[iH,E5 z n,List.replicate_succ]
@[simp] theorem ahV (s by_:Nat)(z:D)(h:Hp)(i:Int)(k:kkQ)(u:PU k)(h0:0<=i)(hb:by_*i<=281474976710656)(h1:i<=9223372036854775807):
  rh (mkS s by_ [z] h (.d (.int .i64 i)) (.d (.int .i64 i))) k u=rn (bnh h[s]?) (λy=>k (.ref s (y.1+1) 0 i.toNat i.toNat i.toNat) (h.set s (y.1+1,.data 1 (List.replicate i.toNat z) true false))) .mk:=by unfold rh rn;simp only[mkS];rw[if_pos ⟨h0,Int.le_refl _,ac,hb,h1⟩,DT];simp only[E5,Zd,List.length_singleton]
@[simp]theorem ag4(s e off len cap tot:Nat):aO (.ref s e off len cap tot)=some (.d (.int .i64 (len:Int))):=id rfl
theorem oN{T:kkQ->Prop}{k:kkQ}{u:PU k}(h:T k):rh T k u:=h
theorem cdz{h:Hp}{f:FuncId}{v:V}{k:kkQ}{u:PU k}(hs:aK h args=some (ds,h'))(hc:C f ds v)(hk:k v (if cu v then h else h')):rh (cal C h (.fn f [] []) args) k u:=
 tc hs hc hk
variable{α:Type}{f:α->D}{o:List α}{h:Hp}{s e n:Nat}{ex fr:Bool}
theorem sV(clr:LnQ)(i:Nat)(x0 x:Nat×Bk)(h0 h:Hp):aS clr i (x0::h0) (x::h)=(if iP clr i=true then x else(x0.1,.none))::aS clr (i+1) h0 h:=by cases x0;cases x;rfl
theorem BF(clr:LnQ)(i:Nat)(x:Nat×Bk)(h:Hp):qV clr i (x::h)=((!iP clr i||offB clr x.2)&&qV clr (i+1) h):=by cases x;rfl
theorem SL(s:Nat):iP [] s=true:=rfl
theorem Fx(t:Nat)(l:LnQ)(s:Nat):iP (t::l) s=(!(Nat.beq t s)&&iP l s):=rfl
theorem beq_lit(a b:Nat):Nat.beq a b=decide (a=b):=by
 by_cases h:a=b
 .subst h;simp[Xq]
 .rw[decide_eq_false h];cases hb:Nat.beq a b with
  |false=>rfl
  |true=>exact absurd (Zk hb) h
theorem TB{n by_:Nat}{h:Hp}{cells:LdQ}{z:LdQ}(hn:0<n){l:Nat}(hl:0<l)(hc:cells.length=l*n)(hb:l*by_<=140737488355328){q:kkQ}{u:PU q}
  (hq:q (.ref (h.length+1) 1 0 l l cells.length) (h++[(1,.data n [] true false),(1,.data n cells false false)])) :
  rh (apV false (h.length+1) n by_ (.ref (h.length+0) 1 0 0 0 0) (.d (.sl l cells)) (h++[(1,.data n [] true false),nnQ])) q u:=by
 unfold rh apV;simp only[cellsOf];rw[if_pos hc];unfold apC;rw[if_neg aa];have hg:aw (h++[(1,Bk.data n [] true false),nnQ]) (h.length+0) 1=.data n [] true false:=by simp[aw]
 simp only[hg];rw[if_pos ⟨trivial,rfl,Z8 _,ac,hc⟩,if_neg aa,if_pos (by simpa using hb)];simp only[if_true,new];have hs:(h++[(1,Bk.data n [] true false),nnQ])[h.length+1]?=some nnQ:=ac;simp only[hs];simpa using hq
def sT(k:Int)(a b:LiQ):LiQ:=List.zipWith (λx y=>x-k*y) a b
def bdZ(B:Nat)(l:LiQ):Bool:=l.all λx=>decide (x.natAbs<10^B)
variable{α:Type}(d:α)(g:α->LiQ)(w:α->LiQ->α)
def zk(m:List α)(i c:Nat):Int:=nth 0 (g (nth d m i)) c
def atG(c:Nat)(m:List α):Nat->Nat->Int->Int
 |0,_,at_=>at_
 |r+1,i,at_=>atG c m r (i+1) (if zk d g m i c≠0∧(at_<0∨(zk d g m i c).natAbs<(zk d g m at_.toNat c).natAbs)then i else at_)
def jc(c o:Nat)(m:List α)(i:Nat):List α:=m.set i (w (nth d m i) (sT ((zk d g m i c).fdiv (zk d g m o c)) (g (nth d m i)) (g (nth d m o))))
def kU(c o:Nat):Nat->Nat->Bool->List α->Bool×List α
 |0,_,b,m=>(b,m)
 |r+1,i,b,m=>kU c o r (i+1) (b||decide ((zk d g m i c).fmod (zk d g m o c)≠0)) (jc d g w c o m i)
def upG(c o:Nat):Nat->Nat->List α->List α
 |0,_,m=>m
 |r+1,i,m=>upG c o r (i+1) (jc d g w c o m i)
def BK(c o:Nat)(m:List α):List α:=if zk d g m o c<0 then m.set o (w (nth d m o) ((g (nth d m o)).map (- ·)))else m
def lJ(m:List α)(i j:Nat):List α:=(m.set i (nth d m j)).set j (nth d m i)
def nI(B c:Nat):Nat->Nat->List α->Option (Nat×List α)
 |0,_,_=>none
 | f+1,o,m=>
  if (m.all λa=>bdZ B (g a))=true then
   let a:=atG d g c m (m.length-o) o (-1)
   if a<0 then some (o,m)else
    let s:=kU d g w c o (m.length-(o+1)) (o+1) false (lJ d m o a.toNat)
    if s.1=true then nI B c f o s.2 else some (o+1,upG d g w c o o 0 (BK d g w c o s.2))
  else none
def pI(B f:Nat):Nat->Nat->Nat->List α->Option (Nat×List α)
 |0,_,o,m=>some (o,m)
 | r+1,c,o,m=>if o<m.length then(match nI d g w B c f o m with
  |some (o',m')=>pI B f r (c+1) o' m'
  |none=>none)else some (o,m)
def Gj(B f columns:Nat)(m:List α):Option (Nat×List α):=pI d g w B f columns 0 0 m
variable{α:Type}{d:α}{g:α->LiQ}{w:α->LiQ->α}
theorem mE(c o:Nat)(m:List α)(i:Nat):(jc d g w c o m i).length=m.length:=by simp[jc]
theorem o7(c o:Nat):∀(r i:Nat)(b:Bool)(m:List α),(kU d g w c o r i b m).2.length=m.length
 |0,_,_,_=>rfl
 |r+1,i,b,m=>by simp only[kU];rw[o7,mE]
theorem Po(c o:Nat):∀(r i:Nat)(m:List α),(upG d g w c o r i m).length=m.length
 |0,_,_=>rfl
 |r+1,i,m=>by simp only[upG];rw[Po,mE]
theorem Fz(c o:Nat)(m:List α):(BK d g w c o m).length=m.length:=by unfold BK;split<;>simp
theorem gG(m:List α)(i j:Nat):(lJ d m i j).length=m.length:=by simp[lJ]
theorem Pd(c:Nat)(m:List α):∀(r i:Nat)(a:Int),a<i->-1<=a->atG d g c m r i a<(i+r:Nat)∧-1<=atG d g c m r i a
 |0,i,a,h,h0=>⟨by simpa[atG]using h,h0⟩
 | r+1,i,a,h,h0=>by
  simp only[atG];have:=Pd c m r (i+1) (if zk d g m i c≠0∧(a<0∨(zk d g m i c).natAbs<(zk d g m a.toNat c).natAbs)then i else a) (by split<;>omega) (by split<;>omega);exact⟨aa,this.2⟩
structure wF{α β:Type}(d:α)(g:α->LiQ)(w:α->LiQ->α)(d':β)(g':β->LiQ)(w':β->LiQ->β)(p:α->β):Prop where
 d:p d=d'
 g:∀a,g' (p a)=g a
 w:∀a r,p (w a r)=w' (p a) r
section
variable{α β:Type}{d:α}{g:α->LiQ}{w:α->LiQ->α}{d':β}{g':β->LiQ}{w':β->LiQ->β}{p:α->β}(H:wF d g w d' g' w' p)
include H
theorem wF.nth(m:List α)(i:Nat):nth d' (m.map p) i=p (nth d m i):=by simp only[Go.Vm.nth,Z6,List.getElem?_map];cases m[i]?<;>simp[H.d]
theorem wF.ent(m:List α)(i c:Nat):zk d' g' (m.map p) i c=zk d g m i c:=by simp[zk,H.nth,H.g]
theorem wF.take(c o:Nat)(m:List α)(i:Nat):jc d' g' w' c o (m.map p) i=(jc d g w c o m i).map p:=by simp only[jc,H.ent,H.nth,H.g,W8,H.w]
theorem wF.at(c:Nat)(m:List α):∀(r i:Nat)(a:Int),atG d' g' c (m.map p) r i a=atG d g c m r i a
 |0,_,_=>rfl
 |r+1,i,a=>by simp only[atG,H.ent,wF.at c m r]
theorem wF.sweep(c o:Nat):∀(r i:Nat)(b:Bool)(m:List α),kU d' g' w' c o r i b (m.map p)=((kU d g w c o r i b m).1,(kU d g w c o r i b m).2.map p)
 |0,_,_,_=>rfl
 |r+1,i,b,m=>by simp only[kU,H.ent,H.take,wF.sweep c o r]
theorem wF.up(c o:Nat):∀(r i:Nat)(m:List α),upG d' g' w' c o r i (m.map p)=(upG d g w c o r i m).map p
 |0,_,_=>rfl
 |r+1,i,m=>by simp only[upG,H.take,wF.up c o r]
theorem wF.neg(c o:Nat)(m:List α):BK d' g' w' c o (m.map p)=(BK d g w c o m).map p:=by simp only[BK,H.ent,H.nth,H.g];split<;>simp[W8,H.w]
theorem wF.swap(m:List α)(i j:Nat):lJ d' (m.map p) i j=(lJ d m i j).map p:=by simp[lJ,H.nth,W8]
theorem wF.round(B c:Nat):∀(f o:Nat)(m:List α),nI d' g' w' B c f o (m.map p)=(nI d g w B c f o m).map λq=>(q.1,q.2.map p)
 |0,_,_=>rfl
 | f+1,o,m=>by
  have e:((m.map p).all λa=>bdZ B (g' a))=m.all λa=>bdZ B (g a):=by simp[List.all_map,Function.comp_def,H.g]
  simp only[nI,List.length_map,e,H.at,H.swap,H.sweep,H.neg,H.up,wF.round B c f];split
  .split
   .rfl
   .split<;>rfl
  .rfl
theorem wF.cols(B f:Nat):∀(r c o:Nat)(m:List α),pI d' g' w' B f r c o (m.map p)=(pI d g w B f r c o m).map λq=>(q.1,q.2.map p)
 |0,_,_,_=>rfl
 | r+1,c,o,m=>by
  simp only[pI,List.length_map,H.round];split
  .cases nI d g w B c f o m with
   |none=>rfl
   |some q=>exact wF.cols B f r (c+1) q.1 q.2
  .rfl
theorem wF.form(B f c:Nat)(m:List α):Gj d' g' w' B f c (m.map p)=(Gj d g w B f c m).map λq=>(q.1,q.2.map p):=H.cols B f c 0 0 m
end
abbrev Mz:=LLQ
variable{m m':Mz}
def rK(B f c:Nat)(m:Mz):Option (Nat×Mz):=Gj [] (λr=>r) (λ_ r=>r) B f c m
def lG(n:Nat)(m:Mz):Mz:=(List.range n).map λc=>m.map (λr=>nth 0 r c)++(List.replicate n (0:Int)).set c 1
def Cp(k:Nat)(r:LiQ):Bool:=match r.findIdx? λz=>decide (z≠0)with
 |some i=>decide (k<=i)
 |none=>false
def aal(B f k n:Nat)(m:Mz):Option Mz:=
 let l:=(m.filter (Cp k)).map (List.drop k)
 if l=[]then some []else match rK B f n l with
  |some (o,w)=>some (w.take o)
  |none=>none
def vq(B f n:Nat)(m:Mz):Option Mz:=
 match rK B f (m.length+n) (lG n m)with
 |some (o,w)=>aal B f m.length n (w.take o)
 |none=>none
abbrev Ve:=Nat->Int
variable{u:Ve}
def cmb:LiQ->List Ve->Ve
 |k::ks,h::hs=>λi=>k*h i+cmb ks hs i
 |_,_=>λ_=>0
def Spn(m:List Ve)(v:Ve):Prop:=∃ks,v=cmb ks m
def adp:LiQ->LiQ->LiQ
 |k::ks,k'::ks'=>(k+k')::adp ks ks'
 |[],l=>l
 |l,[]=>l
theorem vJ(m:List Ve):cmb [] m=λ_=>0:=by cases m<;>rfl
theorem Rq:∀(ks ks':LiQ)(m:List Ve)(i:Nat),cmb (adp ks ks') m i=cmb ks m i+cmb ks' m i
 |_,_,[],i=>by cases ‹LiQ› <;>simp[cmb]
 |[],l,h::m,i=>by simp[adp,vJ]
 |k::ks,[],h::m,i=>by simp[adp,vJ]
 | k::ks,k'::ks',h::m,i=>by
  simp only[adp,cmb,Rq ks ks' m i]
  grind
theorem Rp(c:Int):∀(ks:LiQ)(m:List Ve)(i:Nat),cmb (ks.map (c * ·)) m i=c*cmb ks m i
 |[],m,i=>by simp[vJ]
 |k::ks,[],i=>by simp[cmb]
 | k::ks,h::m,i=>by
  simp only[Zs,cmb,Rp c ks m i]
  grind
theorem Spn.zero(m:List Ve):Spn m λ_=>0:=⟨[],(vJ m).symm⟩
theorem Spn.add{m:List Ve}{v:Ve}(hu:Spn m u)(hv:Spn m v):Spn m λi=>u i+v i:=by obtain⟨a,rfl⟩:=hu;obtain⟨b,rfl⟩:=hv;exact⟨adp a b,funext λi=>(Rq a b m i).symm⟩
theorem Spn.mul{m:List Ve}(c:Int)(hu:Spn m u):Spn m λi=>c*u i:=by obtain⟨a,rfl⟩:=hu;exact⟨a.map (c * ·),funext λi=>(Rp c a m i).symm⟩
theorem Spn.sub{m:List Ve}{v:Ve}(hu:Spn m u)(hv:Spn m v):Spn m λi=>u i-v i:=by
 have:=hu.add (hv.mul (-1));have e:(λi=>u i + -1*v i)=λi=>u i-v i:=funext λi=>by omega
 grind
theorem Spn.mem:∀{m:List Ve}{h:Ve},h∈m->Spn m h
 | g::m,h,hm=>by
  rcases Zx.1 hm with rfl|hm
  .exact⟨[1],funext λi=>by simp[cmb,vJ]⟩
  .obtain⟨ks,e⟩:=Spn.mem hm;exact⟨0::ks,funext λi=>by grind[cmb]⟩
theorem Spn.le:∀{m m':List Ve},(∀h∈m,Spn m' h)->∀{v},Spn m v->Spn m' v:=λ{m m'} hm {v} hv=>by
 obtain⟨ks,rfl⟩:=hv
 induction m generalizing ks with
 |nil=>cases ks<;>exact Spn.zero m'
 | cons h m ih=>
  cases ks with
  |nil=>simp[vJ,zero]
  |cons k ks=>exact((hm h ac).mul k).add (ih (λg hg=>hm g (by grind)) ks)
def Hnf:Nat->List (Nat×Ve)->Prop
 |_,[]=>True
 |o,(l,h)::m=>(o<=l∧0<h l∧∀j,j<l->h j=0)∧(∀x∈m,0<=h x.1∧h x.1<x.2 x.1)∧Hnf (l+1) m
def vs(m:List (Nat×Ve)):List Ve:=m.map (·.2)
theorem XT{o:Nat}(h:o'<=o):∀{m:List (Nat×Ve)},Hnf o m->Hnf o' m
 |[],_=>trivial
 |(l,g)::m,⟨⟨a,b⟩,c⟩=>⟨⟨aa,b⟩,c⟩
theorem rV:∀{m:List (Nat×Ve)}{o:Nat},Hnf o m->∀{v},Spn (vs m) v->∀j,j<o->v j=0
 |[],o,_,v,⟨ks,e⟩,j,hj=>by subst e;cases ks<;>rfl
 | (l,h)::m,o,⟨⟨a,b,c⟩,d,r⟩,v,⟨ks,e⟩,j,hj=>by
  subst e;cases ks with
  |nil=>rfl
  | cons k ks=>
   have h1:=c j aa;have h2:=rV r ⟨ks,rfl⟩ j aa
   grind[vs,cmb]
theorem rc:∀{m:List (Nat×Ve)}{o:Nat},Hnf o m->∀{v},Spn (vs m) v->(∀j,v j=0)∨∃x∈m,(∀j,j<x.1->v j=0)∧v x.1≠0∧x.2 x.1∣v x.1
 |[],o,_,v,⟨ks,e⟩=>.inl λj=>by subst e;cases ks<;>rfl
 | (l,h)::m,o,⟨⟨a,b,c⟩,d,r⟩,v,⟨ks,e⟩=>by
  subst e;cases ks with
  |nil=>exact .inl λj=>rfl
  | cons k ks=>
   have h2:=λj hj=>rV r (v:=cmb ks (vs m)) ⟨ks,rfl⟩ j hj
   by_cases hk:k=0
   .subst hk;have e:cmb (0::ks) (vs ((l,h)::m))=cmb ks (vs m):=funext λi=>by simp[vs,cmb]
    rw[e];rcases rc r (v:=cmb ks (vs m)) ⟨ks,rfl⟩with z|⟨x,hx,p⟩
    .grind
    grind
   .refine .inr ⟨(l,h),ac,λj hj=>?_,?_,?_⟩
    .show k*h j+cmb ks (vs m) j=0
     rw[c j hj,h2 j aa];simp
    .show k*h l+cmb ks (vs m) l≠0
     rw[h2 l aa,Int.add_zero];exact Yc hk aa
    grind[cmb,vs,Int.dvd_mul_left]
theorem Ax{l:Nat}{h:Ve}{m:List (Nat×Ve)}{o:Nat}(H:Hnf o ((l,h)::m)){v:Ve}(hv:Spn (vs ((l,h)::m)) v)(h0:v l=0):Spn (vs m) v:=by
 obtain⟨⟨a,b,c⟩,d,r⟩:=H;obtain⟨ks,rfl⟩:=hv;cases ks with
 |nil=>exact Spn.zero _
 | cons k ks=>
  have h2:=rV r (v:=cmb ks (vs m)) ⟨ks,rfl⟩ l aa;have h3:k*h l+cmb ks (vs m) l=0:=h0;rw[h2,Int.add_zero]at h3
  have hk:k=0:=by
   rcases Int.mul_eq_zero.1 h3 with h|h
   .exact h
   .omega
  subst hk;exact⟨ks,funext λi=>by simp[vs,cmb]⟩
theorem zf:∀{m:List (Nat×Ve)}{o:Nat},Hnf o m->∀x∈m,o<=x.1
 | (l,h)::m,o,⟨⟨a,b⟩,d,r⟩,x,hx=>by
  rcases Zx.1 hx with rfl|hx
  .exact a
  .have:=zf r x hx;omega
theorem MK{l l':Nat}{h h':Ve}{m m':List (Nat×Ve)}{o o':Nat}(H:Hnf o ((l,h)::m))(H':Hnf o' ((l',h')::m'))(e:Spn (vs ((l',h')::m')) h):l'<=l∧(l=l'->h' l∣h l):=by
 obtain⟨⟨a,b,c⟩,d,r⟩:=H;rcases rc H' e with z|⟨x,hx,p1,p2,p3⟩
 .exact absurd (z l) aa
 ·have e1:x.1=l:=by
   rcases Nat.lt_trichotomy x.1 l with g|g|g
   .grind
   .exact g
   .grind
  have ge:=zf H' x hx;obtain⟨⟨a',b',c'⟩,d',r'⟩:=H'
  have hg:l'<=x.1:=by
   rcases Zx.1 hx with rfl|hx
   .omega
   .have:=zf r' x hx;omega
  refine⟨aa,λel=>?_⟩;rcases Zx.1 hx with rfl|hx
  .grind
  grind[zf]
theorem MJ:∀{m m':List (Nat×Ve)}{o:Nat},Hnf o m->Hnf o m'->(∀v,Spn (vs m) v↔Spn (vs m') v)->m=m'
 |[],[],_,_,_,_=>rfl
 | [],(l,h)::m',o,H,H',e=>by
  have h1:=(e h).2 (Spn.mem (by simp[vs]));rcases rc H h1 with z|⟨x,hx,_⟩
  .have:=H'.1.2.1;grind
  trivial
 | (l,h)::m,[],o,H,H',e=>by
  have h1:=(e h).1 (Spn.mem (by simp[vs]));rcases rc H' h1 with z|⟨x,hx,_⟩
  .have:=H.1.2.1;grind
  trivial
 | (l,h)::m,(l',h')::m',o,H,H',e=>by
  have a1:=MK H H' ((e h).1 (Spn.mem (by simp[vs])));have a2:=MK H' H ((e h').2 (Spn.mem (by simp[vs])));obtain rfl:l=l':=aa;have d1:=a1.2 rfl;have d2:=a2.2 rfl;have p1:=H.1.2.1;have p2:=H'.1.2.1;have el:h l=h' l:=Int.le_antisymm (Int.le_of_dvd p2 d2) (Int.le_of_dvd p1 d1)
  have te:∀v,Spn (vs m) v↔Spn (vs m') v:=λv=>by
   constructor
   .intro hv;have z:v l=0:=rV H.2.2 hv l aa
    grind[Ax,Spn.le,Spn.mem,vs]
   .intro hv;have z:v l=0:=rV H'.2.2 hv l aa
    grind[Ax,Spn.le,Spn.mem,vs]
  obtain rfl:=MJ H.2.2 H'.2.2 te;have hu:Spn (vs ((l,h)::m)) λi=>h i-h' i:=Spn.sub (Spn.mem (by simp[vs])) ((e h').2 (Spn.mem (by simp[vs])))
  have hu2:=Ax H hu aa
  have eh:h=h':=by
   rcases rc H.2.2 hu2 with z|⟨x,hx,q1,q2,q3⟩
   .grind
   .have b1:=H.2.1 x hx;have b2:=H'.2.1 x hx;exact absurd (Int.eq_zero_of_dvd_of_natAbs_lt_natAbs q3 aa) q2
  rw[eh]
abbrev eZ(m:Mz)(i j:Nat):Int:=nth 0 (nth [] m i) j
def ve(r:LiQ):Ve:=λi=>nth 0 r i
def Ln(n:Nat)(m:Mz):Prop:=∀i,i<m.length->(nth [] m i).length=n
def tkZ(c o:Nat)(m:Mz)(i:Nat):Mz:=jc [] (λr=>r) (λ_ r=>r) c o m i
theorem uy{α:Type}(d:α)(l:List α)(i j:Nat)(x:α)(h:i<l.length):nth d (l.set i x) j=if j=i then x else nth d l j:=by
 simp only[nth,Z6,List.getElem?_set];by_cases e:i=j
 .grind
 .rw[if_neg e,if_neg (λg=>e g.symm)]
theorem VZ(k:Int):∀(a b:LiQ)(j:Nat),a.length=b.length->nth 0 (sT k a b) j=nth 0 a j-k*nth 0 b j
 |[],[],j,_=>by simp[sT,nth]
 |x::a,y::b,0,_=>by rfl
 | x::a,y::b,j+1,h=>by
  grind[sT,nth]
 |[],_::_,_,h=>by simp at h
 |_::_,[],_,h=>by simp at h
theorem Re{n o:Nat}(hl:Ln n m)(hi:i<m.length)(ho:o<m.length)(k j:Nat):eZ (tkZ c o m i) k j=if k=i then eZ m i j-(eZ m i c).fdiv (eZ m o c)*eZ m o j else eZ m k j:=by
 unfold eZ tkZ jc;rw[uy _ _ _ _ _ hi];split
 .rename_i h;rw[VZ _ _ _ _ ((hl i hi).trans (hl o ho).symm)];rfl
 .rfl
theorem ael{n:Nat}(hl:Ln n m){x:LiQ}(hx:x.length=n):Ln n (m.set i x):=λj hj=>by
 rw[Yv]at hj;by_cases h:i<m.length
 .rw[uy _ _ _ _ _ h];split
  .exact hx
  .exact hl j hj
 .rw[List.set_eq_of_length_le aa];exact hl j hj
theorem sH(c o:Nat)(m:Mz)(i:Nat):(tkZ c o m i).length=m.length:=mE c o m i
theorem JO{n o:Nat}(hl:Ln n m)(hi:i<m.length)(ho:o<m.length):Ln n (tkZ c o m i):=
 ael hl (by simp[sT,hl i hi,hl o ho])
def SpZ(m:Mz)(v:Ve):Prop:=Spn (m.map ve) v
theorem ik(hi:i<m.length):SpZ m (ve (nth [] m i)):=Spn.mem (Zw.2 ⟨_,by rw[nth,Z6,List.getElem?_eq_getElem hi];simp,rfl⟩)
theorem Bs(h:∀i,i<m.length->SpZ m' (ve (nth [] m i))){v:Ve}(hv:SpZ m v):SpZ m' v:=by
 refine Spn.le (λg hg=>?_) hv;obtain⟨r,hr,rfl⟩:=Zw.1 hg;obtain⟨i,hi,rfl⟩:=Zi.1 hr;have:=h i hi
 rwa [nth,Z6,List.getElem?_eq_getElem hi]at this
def SpE(m m':Mz):Prop:=∀v,SpZ m v↔SpZ m' v
theorem Pn{n o:Nat}(hl:Ln n m)(hi:i<m.length)(ho:o<m.length):ve (nth [] (tkZ c o m i) i)=λj=>ve (nth [] m i) j-(eZ m i c).fdiv (eZ m o c)*ve (nth [] m o) j:=funext λj=>by
 have:=Re (c:=c) hl hi ho i j;rw[if_pos rfl]at this;exact this
theorem qI{o:Nat}(hi:i<m.length){k:Nat}(h:k≠i):nth [] (tkZ c o m i) k=nth [] m k:=by grind[tkZ,jc,uy]
theorem Uy{n o:Nat}(hl:Ln n m)(hi:i<m.length)(ho:o<m.length)(hne:i≠o):SpE m (tkZ c o m i):=λv=>by
 have hi':i<(tkZ c o m i).length:=by rw[sH];exact hi
 have ho':o<(tkZ c o m i).length:=by rw[sH];exact ho
 have eo:nth [] (tkZ c o m i) o=nth [] m o:=qI hi (λh=>hne h.symm);constructor
 .refine Bs λk hk=>?_
  by_cases h:k=i
  .subst h;have a:=(ik hi').add ((ik ho').mul ((eZ m k c).fdiv (eZ m o c)))
   have e:(λj=>ve (nth [] (tkZ c o m k) k) j+(eZ m k c).fdiv (eZ m o c)*ve (nth [] (tkZ c o m k) o) j)=ve (nth [] m k):=funext λj=>by
    grind[Pn]
   rw[e]at a;exact a
  .rw[<-qI (c:=c) (o:=o) hi h]
   grind[ik,sH]
 .refine Bs λk hk=>?_
  rw[sH]at hk;by_cases h:k=i
  .subst h;rw[Pn hl hi ho];exact(ik hi).sub ((ik ho).mul _)
  grind[qI,ik]
theorem SpE.refl(m:Mz):SpE m m:=λv=>Iff.rfl
theorem SpE.trans{a b c:Mz}(h:SpE a b)(h':SpE b c):SpE a c:=λv=>(h v).trans (h' v)
def swZ(m:Mz)(i j:Nat):Mz:=lJ [] m i j
theorem uQ(hi:i<m.length)(hj:j<m.length)(k:Nat):nth [] (swZ m i j) k=if k=j then nth [] m i else if k=i then nth [] m j else nth [] m k:=by
 unfold swZ lJ;rw[uy _ _ _ _ _ (by grind)];split
 .rfl
 .rw[uy _ _ _ _ _ hi]
theorem wR(m:Mz)(i j:Nat):(swZ m i j).length=m.length:=gG m i j
theorem JP{n:Nat}(hl:Ln n m)(hi:i<m.length)(hj:j<m.length):Ln n (swZ m i j):=λk hk=>by
 rw[wR]at hk;rw[uQ hi hj];split
 .exact hl i hi
 .split
  .exact hl j hj
  .exact hl k hk
theorem Uz(hi:i<m.length)(hj:j<m.length):SpE m (swZ m i j):=λv=>by
 have hi':i<(swZ m i j).length:=by rw[wR];exact hi
 have hj':j<(swZ m i j).length:=by rw[wR];exact hj
 constructor
 .refine Bs λk hk=>?_
  by_cases h1:k=i
  .subst h1;have:=ik hj'
   grind[uQ]
  .by_cases h2:k=j
   .subst h2;have:=ik hi'
    grind[uQ]
   .have:=ik (m:=swZ m i j) (i:=k) (by grind[wR])
    grind[uQ]
 grind[Bs,wR,uQ,ik]
def ngZ(c o:Nat)(m:Mz):Mz:=BK [] (λr=>r) (λ_ r=>r) c o m
theorem zZ(a:LiQ)(j:Nat):nth 0 (a.map (- ·)) j = - nth 0 a j:=by grind[nth]
theorem xe{o:Nat}(ho:o<m.length)(k:Nat):nth [] (ngZ c o m) k=if k=o∧eZ m o c<0 then(nth [] m o).map (- ·)else nth [] m k:=by
 show nth [] (if eZ m o c<0 then m.set o ((nth [] m o).map (- ·))else m) k=_
 by_cases h:eZ m o c<0
 .rw[if_pos h,uy _ _ _ _ _ ho];by_cases hk:k=o
  .rw[if_pos hk,if_pos ⟨hk,h⟩]
  .rw[if_neg hk,if_neg (λg=>hk g.1)]
 .rw[if_neg h,if_neg (λg=>h g.2)]
theorem BJ(c o:Nat)(m:Mz):(ngZ c o m).length=m.length:=Fz c o m
theorem WJ{n o:Nat}(hl:Ln n m)(ho:o<m.length):Ln n (ngZ c o m):=λk hk=>by
 rw[BJ]at hk;rw[xe ho];split
 .rw[List.length_map];exact hl o ho
 .exact hl k hk
theorem T7(a:LiQ):ve (a.map (- ·))=λi=>-1*ve a i:=funext λj=>by
 show nth 0 (a.map (- ·)) j = -1*nth 0 a j
 simp[zZ]
theorem aaS{o:Nat}(ho:o<m.length):SpE m (ngZ c o m):=λv=>by
 have ho':o<(ngZ c o m).length:=by rw[BJ];exact ho
 constructor
 .refine Bs λk hk=>?_
  by_cases h:k=o∧eZ m o c<0
  .have:=(ik ho').mul (-1);rw[xe ho,if_pos ⟨rfl,h.2⟩,T7]at this;obtain⟨rfl,_⟩:=h;have e:(λi=>-1*(-1*ve (nth [] m k) i))=ve (nth [] m k):=funext λi=>by omega
   rw[e]at this;exact this
  .have:=ik (m:=ngZ c o m) (i:=k) (by grind[BJ])
   grind[xe]
 .refine Bs λk hk=>?_
  rw[BJ]at hk;rw[xe ho];split
  .rw[T7];exact(ik ho).mul _
  grind[ik]
def C6(c o r i:Nat)(b:Bool)(m:Mz):Bool×Mz:=kU [] (λr=>r) (λ_ r=>r) c o r i b m
def upZ(c o r i:Nat)(m:Mz):Mz:=upG [] (λr=>r) (λ_ r=>r) c o r i m
structure IT(n c o i r:Nat)(m m':Mz):Prop where
 len:m'.length=m.length
 ln:Ln n m'
 sp:SpE m m'
 out:∀k,(k<i∨i+r<=k)->nth [] m' k=nth [] m k
 inn:∀k,i<=k->k<i+r->∀j,eZ m' k j=eZ m k j-(eZ m k c).fdiv (eZ m o c)*eZ m o j
theorem Ez{n o:Nat}(hl:Ln n m)(ho:o<m.length)(hi:i+(r+1)<=m.length)(hoi:o<i∨i+(r+1)<=o)(h:IT n c o (i+1) r (tkZ c o m i) m'):IT n c o i (r+1) m m':=by
 have eo:nth [] (tkZ c o m i) o=nth [] m o:=qI aa aa;refine⟨h.len.trans (sH ..),h.ln,(Uy hl aa ho aa).trans h.sp,λk hk=>?_,λk h1 h2 j=>?_⟩
 .rw[h.out k aa,qI aa aa]
 .by_cases hki:k=i
  .subst hki;have e1:nth [] m' k=nth [] (tkZ c o m k) k:=h.out k aa
   show nth 0 (nth [] m' k) j=_
   rw[e1];have:=Re (c:=c) hl (by omega:k<m.length) ho k j
   grind
  .have e2:=h.inn k aa aa j;have e3:nth [] (tkZ c o m i) k=nth [] m k:=qI aa hki
   grind
theorem Ja{n c o:Nat}:∀(r i:Nat){m:Mz},Ln n m->o<m.length->i+r<=m.length->(o<i∨i+r<=o)->IT n c o i r m (upZ c o r i m)
 |0,i,m,hl,ho,hi,hoi=>⟨rfl,hl,SpE.refl m,λ_ _=>rfl,λk h1 h2=>by omega⟩
 | r+1,i,m,hl,ho,hi,hoi=>by
  have ih:=Ja (c:=c) r (i+1) (m:=tkZ c o m i) (JO hl aa ho) (by rw[sH];exact ho) (by grind[sH]) aa;exact Ez hl ho hi hoi ih
theorem uP{n c o:Nat}:∀(r i:Nat)(b:Bool){m:Mz},Ln n m->o<m.length->i+r<=m.length->(o<i∨i+r<=o)->IT n c o i r m (C6 c o r i b m).2∧((C6 c o r i b m).1=false->b=false∧∀k,i<=k->k<i+r->(eZ m k c).fmod (eZ m o c)=0)
 |0,i,b,m,hl,ho,hi,hoi=>⟨⟨rfl,hl,SpE.refl m,λ_ _=>rfl,λk h1 h2=>by omega⟩,λh=>⟨h,λk h1 h2=>by omega⟩⟩
 | r+1,i,b,m,hl,ho,hi,hoi=>by
  have ih:=uP (c:=c) r (i+1) (b||decide ((eZ m i c).fmod (eZ m o c)≠0)) (m:=tkZ c o m i) (JO hl aa ho) (by rw[sH];exact ho) (by grind[sH]) aa;refine⟨Ez hl ho hi hoi ih.1,λh=>?_⟩;obtain⟨h1,h2⟩:=ih.2 h;simp only[Bool.or_eq_false_iff,decide_eq_false_iff_not,Decidable.not_not]at h1;refine⟨h1.1,λk a1 a2=>?_⟩;by_cases hki:k=i
  .grind
  .have e:=h2 k aa aa;have eo:nth [] (tkZ c o m i) o=nth [] m o:=qI aa aa;have ek:nth [] (tkZ c o m i) k=nth [] m k:=qI aa hki
   grind
def aZ(c:Nat)(m:Mz)(r i:Nat)(a:Int):Int:=atG [] (λr=>r) c m r i a
theorem Ei(c:Nat)(m:Mz)(o:Nat):∀(r i:Nat)(a:Int),(a<0∧(∀k,o<=k->k<i->eZ m k c=0)∨(o:Int)<=a∧a<i∧eZ m a.toNat c≠0)->o<=i ->
  (aZ c m r i a<0∧(∀k,o<=k->k<i+r->eZ m k c=0)∨(o:Int)<=aZ c m r i a∧aZ c m r i a<(i+r:Nat)∧eZ m (aZ c m r i a).toNat c≠0)
 |0,i,a,h,hi=>by trivial
 | r+1,i,a,h,hi=>by
  have key:aZ c m (r+1) i a=aZ c m r (i+1) (if eZ m i c≠0∧(a<0∨(eZ m i c).natAbs<(eZ m a.toNat c).natAbs)then i else a):=rfl;rw[key];have e:i+1+r=i+(r+1):=aa;rw[<-e];refine Ei c m o r (i+1) _ ?_ aa;split
  .rename_i g;exact .inr ⟨aa,aa,by grind⟩
  .rename_i g;rcases h with⟨h1,h2⟩|⟨h1,h2,h3⟩
   .refine .inl ⟨h1,λk a1 a2=>?_⟩;by_cases hk:k=i
    .grind
    .exact h2 k a1 aa
   .exact .inr ⟨h1,aa,h3⟩
structure Hm(n c o:Nat)(L:Nat->Nat)(m:Mz):Prop where
 le:o<=m.length
 ln:Ln n m
 lt:∀i,i<o->L i<c
 inc:∀i j,i<j->j<o->L i<L j
 pos:∀i,i<o->0<eZ m i (L i)
 low:∀i,i<o->∀j,j<L i->eZ m i j=0
 red:∀i j,i<j->j<o->0<=eZ m i (L j)∧eZ m i (L j)<eZ m j (L j)
 zer:∀k,o<=k->k<m.length->∀j,j<c->eZ m k j=0
theorem QU{n o:Nat}(H:Hm n c o L m)(hl:m'.length=m.length)(hn:Ln n m')(h1:∀i,i<o->nth [] m' i=nth [] m i)(h2:∀k,o<=k->k<m.length->∀j,j<c->eZ m' k j=0):Hm n c o L m' where
 le:=by rw[hl];exact H.le
 ln:=hn
 lt:=H.lt
 inc:=H.inc
 pos:=λi hi=>by have:=H.pos i hi;grind
 low:=λi hi j hj=>by grind[Hm.low]
 red:=λi j hij hj=>by have:=H.red i j hij hj;simp only[eZ,h1 i aa,h1 j hj];omega
 zer:=λk a b j hj=>h2 k a aa j hj
theorem abQ{n o:Nat}(H:Hm n c o L m)(h:∀k,o<=k->k<m.length->eZ m k c=0):Hm n (c+1) o L m where
 le:=H.le
 ln:=H.ln
 lt:=λi hi=>by have:=H.lt i hi;omega
 inc:=H.inc
 pos:=H.pos
 low:=H.low
 red:=H.red
 zer:=λk a b j hj=>by
  by_cases e:j=c
  .grind
  .exact H.zer k a b j aa
theorem aes{n o:Nat}(H:Hm n c o L m)(ho:o<m.length)(h0:eZ m o c≠0)(h1:∀k,o<k->k<m.length->eZ m k c=0):
  Hm n (c+1) (o+1) (λi=>if i=o then c else L i) (upZ c o o 0 (ngZ c o m))∧SpE m (upZ c o o 0 (ngZ c o m))∧(upZ c o o 0 (ngZ c o m)).length=m.length:=by
 obtain⟨m3,h3⟩:=nmQ (ngZ c o m);have l3:m3.length=m.length:=by rw[h3,BJ]
 have n3:Ln n m3:=by rw[h3];exact WJ H.ln ho
 have r3:∀k,k≠o->nth [] m3 k=nth [] m k:=λk hk=>by rw[h3,xe ho,if_neg (λg=>hk g.1)]
 have o3:∀j,eZ m3 o j=if eZ m o c<0 then-eZ m o j else eZ m o j:=λj=>by
  simp only[eZ,h3];rw[xe ho];by_cases g:eZ m o c<0
  .rw[if_pos ⟨rfl,g⟩,if_pos g,zZ]
  .rw[if_neg (λx=>g x.2),if_neg g]
 have p3:0<eZ m3 o c:=by rw[o3];split<;>omega
 have z3:∀j,j<c->eZ m3 o j=0:=λj hj=>by grind[Hm.zer]
 have U:=Ja (c:=c) (o:=o) o 0 n3 aa aa (.inr aa);rw[<-h3];obtain⟨m4,h4⟩:=nmQ (upZ c o o 0 m3);rw[<-h4]at U ⊢
 have i4:∀i,i<o->∀j,eZ m4 i j=eZ m i j-(eZ m i c).fdiv (eZ m3 o c)*eZ m3 o j:=λi hi j=>by
  have:=U.inn i aa aa j;rw[this];simp only[eZ,r3 i aa]
 have j4:∀i,i<o->∀j,j<c->eZ m4 i j=eZ m i j:=λi hi j hj=>by grind
 have k4:∀k,o<=k->∀j,eZ m4 k j=eZ m3 k j:=λk hk j=>by simp only[eZ,U.out k (.inr aa)]
 have c4:∀i,i<o->0<=eZ m4 i c∧eZ m4 i c<eZ m3 o c:=λi hi=>by
  have e:eZ m4 i c=(eZ m i c).fmod (eZ m3 o c):=by
   rw[i4 i hi c,Int.fmod_def,Wg]
  simp_all[Int.fmod_nonneg_of_pos,Int.fmod_lt_of_pos]
 refine⟨⟨by rw[U.len];omega,U.ln,λi hi=>?_,λi j hij hj=>?_,λi hi=>?_,λi hi j hj=>?_,λi j hij hj=>?_,λk a b j hj=>?_⟩,?_,by rw[U.len,l3]⟩
 .show(if i=o then c else L i)<c+1
  split
  .omega
  .have:=H.lt i aa;omega
 .show(if i=o then c else L i)<(if j=o then c else L j)
  rw[if_neg aa];split
  .exact H.lt i aa
  .exact H.inc i j hij aa
 .show 0<eZ m4 i (if i=o then c else L i)
  by_cases e:i=o
  .grind
  .rw[if_neg e,j4 i aa _ (H.lt i aa)];exact H.pos i aa
 .have hj:j<(if i=o then c else L i):=hj;by_cases e:i=o
  .grind
  .rw[if_neg e]at hj;have:=H.lt i aa;rw[j4 i aa _ aa];exact H.low i aa j hj
 .show 0<=eZ m4 i (if j=o then c else L j)∧eZ m4 i (if j=o then c else L j)<eZ m4 j (if j=o then c else L j)
  by_cases e:j=o
  .rw[if_pos e,e,k4 o (Z8 _)];exact c4 i aa
  .rw[if_neg e,j4 i aa _ (H.lt j aa),j4 j aa _ (H.lt j aa)];exact H.red i j hij aa
 .rw[U.len,l3]at b;rw[k4 k aa];have e:eZ m3 k j=eZ m k j:=by simp only[eZ,r3 k aa]
  rw[e];by_cases g:j=c
  .subst g;exact h1 k aa b
  .exact H.zer k aa b j aa
 grind[aaS,SpE.trans,IT.sp]
def rdZ(B c f o:Nat)(m:Mz):Option (Nat×Mz):=nI [] (λr=>r) (λ_ r=>r) B c f o m
theorem FX{n c B:Nat}:∀(f:Nat){o:Nat}{L:Nat->Nat}{m m':Mz}{o':Nat},Hm n c o L m->o<m.length->rdZ B c f o m=some (o',m')->(∃L',Hm n (c+1) o' L' m')∧SpE m m'∧m'.length=m.length
 |0,o,L,m,m',o',H,ho,h=>by cases h
 | f+1,o,L,m,m',o',H,ho,h=>by
  have key:rdZ B c (f+1) o m=if(m.all λa=>bdZ B a)=true then
   (if aZ c m (m.length-o) o (-1)<0 then some (o,m)else
    if(C6 c o (m.length-(o+1)) (o+1) false (swZ m o (aZ c m (m.length-o) o (-1)).toNat)).1=true then rdZ B c f o (C6 c o (m.length-(o+1)) (o+1) false (swZ m o (aZ c m (m.length-o) o (-1)).toNat)).2
    else some (o+1,upZ c o o 0 (ngZ c o (C6 c o (m.length-(o+1)) (o+1) false (swZ m o (aZ c m (m.length-o) o (-1)).toNat)).2)))else none:=rfl
  rw[key]at h;have A:=Ei c m o (m.length-o) o (-1) (.inl ⟨aa,λk a b=>by omega⟩) (Z8 _);obtain⟨a,ha⟩:=nmQ (aZ c m (m.length-o) o (-1));rw[<-ha]at A h;split at h
  case isFalse=>cases h
  split at h
  .rename_i g;cases h;rcases A with⟨_,A⟩|⟨A,_⟩
   .exact⟨⟨L,abQ H λk h1 h2=>A k h1 aa⟩,SpE.refl _,rfl⟩
   .omega
  .rename_i g;rcases A with⟨A,_⟩|⟨A1,A2,A3⟩
   .omega
   have hi:a.toNat<m.length:=aa;obtain⟨m1,h1⟩:=nmQ (swZ m o a.toNat);have l1:m1.length=m.length:=by rw[h1,wR]
   have n1:Ln n m1:=by rw[h1];exact JP H.ln ho hi
   have s1:SpE m m1:=by rw[h1];exact Uz ho hi
   have e1:∀k,nth [] m1 k=if k=a.toNat then nth [] m o else if k=o then nth [] m a.toNat else nth [] m k:=λk=>by grind[uQ]
   have H1:Hm n c o L m1:=QU H l1 n1 (λi hi'=>by rw[e1,if_neg aa,if_neg aa]) (λk a1 a2 j hj=>by
    simp only[eZ,e1];split
    .grind[Hm.zer]
    .split
     .exact H.zer a.toNat aa hi j hj
     grind[Hm.zer])
   have p1:eZ m1 o c≠0:=by
    simp only[eZ,e1];split
    .grind
    .trivial
   rw[<-h1]at h;have S:=uP (n:=n) (c:=c) (o:=o) (m.length-(o+1)) (o+1) false n1 aa aa (.inl aa);obtain⟨s,hs⟩:=nmQ (C6 c o (m.length-(o+1)) (o+1) false m1);rw[<-hs]at S h;obtain⟨S1,S2⟩:=S;have l2:s.2.length=m.length:=by rw[S1.len,l1]
   have eo:nth [] s.2 o=nth [] m1 o:=S1.out o (.inl aa)
   have H2:Hm n c o L s.2:=QU H1 S1.len S1.ln (λi hi'=>S1.out i (.inl aa)) (λk a1 a2 j hj=>by
    by_cases hk:k=o
    .subst hk;simp only[eZ,eo];exact H1.zer k (Z8 _) aa j hj
    .rw[S1.inn k aa aa j,H1.zer k a1 a2 j hj,H1.zer o (Z8 _) aa j hj];simp)
   split at h
   .have ih:=FX f H2 aa h;exact⟨ih.1,(s1.trans S1.sp).trans ih.2.1,by rw[ih.2.2,l2]⟩
   .rename_i gs;cases h;have z:=S2 (by grind)
    have E:=aes (c:=c) H2 aa (by grind) (λk a1 a2=>by
     rw[S1.inn k aa aa c];have:=z.2 k aa aa;rw[Int.fmod_def,Wg]at this;omega)
    exact⟨⟨_,E.1⟩,(s1.trans S1.sp).trans E.2.1,by rw[E.2.2,l2]⟩
def clZ(B f r c o:Nat)(m:Mz):Option (Nat×Mz):=pI [] (λr=>r) (λ_ r=>r) B f r c o m
theorem QV{n B f:Nat}:∀(r:Nat){c o:Nat}{L:Nat->Nat}{m m':Mz}{o':Nat},Hm n c o L m->clZ B f r c o m=some (o',m')->(∃L',Hm n (c+r) o' L' m')∧SpE m m'∧m'.length=m.length
 | 0,c,o,L,m,m',o',H,h=>by
  cases h
  grind[SpE.refl]
 | r+1,c,o,L,m,m',o',H,h=>by
  have h2:pI [] (λr=>r) (λ_ r=>r) B f (r+1) c o m=some (o',m'):=h;simp only[pI]at h2;split at h2
  .rename_i ho;split at h2
   .rename_i o1 m1 hr;obtain⟨⟨L1,H1⟩,s1,l1⟩:=FX f H ho hr;obtain⟨⟨L2,H2⟩,s2,l2⟩:=QV r H1 h2;exact⟨⟨L2,by rw[show c+(r+1)=c+1+r by omega];exact H2⟩,s1.trans s2,by rw[l2,l1]⟩
   trivial
  .rename_i ho;cases h2;have e:∀k,o<=k->k<m.length->False:=λk a b=>by omega
   exact⟨⟨L,⟨H.le,H.ln,λi hi=>by have:=H.lt i hi;omega,H.inc,H.pos,H.low,H.red,λk a b=>absurd (e k a b) id⟩⟩,SpE.refl _,rfl⟩
theorem D9{n B f columns:Nat}{o:Nat}(hl:Ln n m)(h:rK B f columns m=some (o,m')):(∃L,Hm n columns o L m')∧SpE m m'∧m'.length=m.length:=by
 have H:Hm n 0 0 (λ_=>0) m:=⟨aa,hl,λi hi=>by omega,λi j h1 h2=>by omega,λi hi=>by omega,λi hi=>by omega,λi j h1 h2=>by omega,λk a b j hj=>by omega⟩;have:=QV (n:=n) (B:=B) (f:=f) columns H h
 grind
def ldZ(L:Nat->Nat)(m:Mz):Nat->Nat->List (Nat×Ve)
 |0,_=>[]
 |r+1,i=>(L i,ve (nth [] m i))::ldZ L m r (i+1)
theorem vj{L:Nat->Nat}{m:Mz}:∀{r i:Nat} {x},x∈ldZ L m r i->∃k,i<=k∧k<i+r∧x=(L k,ve (nth [] m k))
 |0,i,x,h=>by trivial
 | r+1,i,x,h=>by
  simp only[ldZ,Zx]at h;rcases h with rfl|h
  .exact⟨i,aa,aa,rfl⟩
  .obtain⟨k,a,b,e⟩:=vj h;exact⟨k,aa,aa,e⟩
theorem tU{n c o:Nat}{L:Nat->Nat}{m:Mz}(H:Hm n c o L m):∀(r i b:Nat),i+r=o->(i<o->b<=L i)->Hnf b (ldZ L m r i)
 |0,i,b,e,h=>trivial
 | r+1,i,b,e,h=>by
  refine⟨⟨h aa,H.pos i aa,λj hj=>H.low i aa j hj⟩,λx hx=>?_,tU H r (i+1) (L i+1) aa (λhi=>by have:=H.inc i (i+1) aa hi;omega)⟩;obtain⟨k,a1,a2,rfl⟩:=vj hx;exact H.red i k aa aa
theorem adD{n:Nat}{k o:Nat}(H:Hm n c o L m)(hc:n<=c)(h1:o<=k)(h2:k<m.length):ve (nth [] m k)=λ_=>0:=funext λj=>by
 by_cases h:j<c
 .exact H.zer k h1 h2 j h
 .show nth 0 (nth [] m k) j=0
  have:=H.ln k h2;rw[nth,Z6,List.getElem?_eq_none aa];rfl
theorem qJ{n o:Nat}(H:Hm n c o L m)(hc:n<=c)(v:Ve):Spn (vs (ldZ L m o 0)) v↔SpZ m v:=by
 have key:∀r i k,i<=k->k<i+r->ve (nth [] m k)∈vs (ldZ L m r i):=by
  intro r
  induction r with
  |zero=>omega
  | succ r ih=>
   intro i k a b;simp only[vs,ldZ,Zs,Zx];by_cases e:k=i
   .exact .inl (by rw[e])
   .exact .inr (ih (i+1) k aa aa)
 constructor
 .intro h;refine Spn.le (λg hg=>?_) h;obtain⟨x,hx,rfl⟩:=Zw.1 hg;obtain⟨k,a1,a2,rfl⟩:=vj hx;exact ik (by have:=H.le;omega)
 .intro h;refine Spn.le (λg hg=>?_) h;obtain⟨r,hr,rfl⟩:=Zw.1 hg;obtain⟨k,hk,rfl⟩:=Zi.1 hr;have e:m[k]=nth [] m k:=by rw[nth,Z6,List.getElem?_eq_getElem hk];rfl
  rw[e];by_cases hko:k<o
  .exact Spn.mem (key o 0 k aa aa)
  .rw[adD H hc aa hk];exact Spn.zero _
theorem adE{a b:LiQ}(hl:a.length=b.length)(h:ve a=ve b):a=b:=by
 refine Wu hl λi h1 h2=>?_
 have:=congrFun h i
 grind[ve,nth]
theorem xO(L:Nat->Nat)(m:Mz):∀r i,(ldZ L m r i).length=r
 |0,_=>rfl
 |r+1,i=>by simp[ldZ,xO L m r (i+1)]
theorem QM{L L':Nat->Nat}{m m':Mz}:∀{r i:Nat},ldZ L m r i=ldZ L' m' r i->∀k,i<=k->k<i+r->ve (nth [] m k)=ve (nth [] m' k)
 |0,i,_,k,a,b=>by omega
 | r+1,i,h,k,a,b=>by
  simp only[ldZ,List.cons.injEq,Z5]at h;by_cases e:k=i
  .grind
  .exact QM h.2 k aa aa
def dtV:Nat->Ve->Ve->Int
 |0,_,_=>0
 |n+1,a,b=>dtV n a b+a n*b n
theorem xT(a u v:Ve):∀n,dtV n a (λi=>u i+v i)=dtV n a u+dtV n a v
 |0=>rfl
 |n+1=>by simp only[dtV,xT a u v n];grind
theorem vB(a u:Ve)(k:Int):∀n,dtV n a (λi=>k*u i)=k*dtV n a u
 |0=>by simp[dtV]
 |n+1=>by simp only[dtV,vB a u k n];grind
theorem re(a:Ve):∀n,dtV n a (λ_=>0)=0
 |0=>rfl
 |n+1=>by simp[dtV,re a n]
theorem rj(a b:Ve):∀n,dtV n a b=dtV n b a
 |0=>rfl
 |n+1=>by simp only[dtV,rj a b n];grind
def Krn(n:Nat)(S:Ve->Prop)(v:Ve):Prop:=(∀u,S u->dtV n u v=0)∧∀j,n<=j->v j=0
theorem FO{n:Nat}{S T:Ve->Prop}(h:∀u,S u->T u){v:Ve}(hv:Krn n T v):Krn n S v:=⟨λu hu=>hv.1 u (h u hu),hv.2⟩
theorem S4{n:Nat}{S:Ve->Prop}(hS:∀u,S u->∀j,n<=j->u j=0)(v:Ve):Krn n (Krn n (Krn n S)) v↔Krn n S v:=by
 constructor
 .exact λh=>FO (λu hu=>⟨λw hw=>by rw[rj];exact hw.1 u hu,hS u hu⟩) h
 .exact λh=>⟨λu hu=>by rw[rj];exact hu.1 v h,h.2⟩
theorem AP{n:Nat}{v:Ve}:∀{m:List Ve},(∀g∈m,dtV n g v=0)->∀{u},Spn m u->dtV n u v=0
 | m,h,u,⟨ks,e⟩=>by
  subst e;rw[rj]
  induction m generalizing ks with
  |nil=>cases ks<;>exact re v n
  | cons g m ih=>
   cases ks with
   |nil=>exact re v n
   | cons k ks=>
    have e:cmb (k::ks) (g::m)=λi=>(λi=>k*g i) i+cmb ks m i:=rfl
    rw[e,xT,vB,ih (λx hx=>h x (by simp[hx])) ks,rj v g,h g ac];simp
theorem t8(n:Nat)(m:Mz):(lG n m).length=n:=by simp[lG]
theorem KI{n:Nat}(hc:c<n):nth [] (lG n m) c=m.map (λr=>nth 0 r c)++(List.replicate n (0:Int)).set c 1:=by rw[nth,Z6,lG,List.getElem?_map,List.getElem?_range hc];rfl
theorem zy{n:Nat}(hc:c<n)(i:Nat):ve (nth [] (lG n m) c) i=if i<m.length then ve (nth [] m i) c else if i=m.length+c then 1 else 0:=by
 rw[KI hc]
 show nth 0 _ i=_
 by_cases h:i<m.length
 .rw[if_pos h,nth,Z6,List.getElem?_append_left (by grind),List.getElem?_map,List.getElem?_eq_getElem h];have e:nth [] m i=m[i]:=by rw[nth,Z6,List.getElem?_eq_getElem h];rfl
  rw[e];rfl
 .rw[if_neg h,nth,Z6,List.getElem?_append_right (by grind),List.length_map,List.getElem?_set,Zd];by_cases e:i=m.length+c
  .rw[if_pos aa,if_pos hc,if_pos e];rfl
  .rw[if_neg aa,if_neg e,List.getElem?_replicate]
   grind
def Wid(n:Nat)(m:Mz)(v:Ve):Prop:=(∀i,i<m.length->v i=dtV n (ve (nth [] m i)) λc=>v (m.length+c))∧∀j,m.length+n<=j->v j=0
theorem Wid.add{n:Nat}{v:Ve}(hu:Wid n m u)(hv:Wid n m v):Wid n m λi=>u i+v i:=
 ⟨λi hi=>by
  show u i+v i=dtV n _ λc=>u (m.length+c)+v (m.length+c)
  rw[hu.1 i hi,hv.1 i hi,<-xT],λj hj=>by simp only[hu.2 j hj,hv.2 j hj];rfl⟩
theorem Wid.mul{n:Nat}(k:Int)(hu:Wid n m u):Wid n m λi=>k*u i:=
 ⟨λi hi=>by
  show k*u i=dtV n _ λc=>k*u (m.length+c)
  rw[hu.1 i hi,<-vB],λj hj=>by simp only[hu.2 j hj];simp⟩
theorem Wid.zero(n:Nat)(m:Mz):Wid n m λ_=>0:=⟨λi hi=>(re _ _).symm,λ_ _=>rfl⟩
theorem AO(a:Ve)(c:Nat):∀n,dtV n a (λj=>if j=c then 1 else 0)=if c<n then a c else 0
 |0=>rfl
 | n+1=>by
  simp only[dtV,AO a c n];by_cases h:n=c
  .grind
  .rw[if_neg h];by_cases g:c<n
   .rw[if_pos g,if_pos aa];simp
   .rw[if_neg g,if_neg aa];simp
theorem aaH{n:Nat}(hc:c<n):Wid n m (ve (nth [] (lG n m) c)):=by
 refine⟨λi hi=>?_,λj hj=>?_⟩
 ·have e:(λx=>ve (nth [] (lG n m) c) (m.length+x))=λj=>if j=c then 1 else 0:=funext λx=>by
   rw[zy hc,if_neg aa];by_cases g:x=c
   .rw[if_pos aa,if_pos g]
   .rw[if_neg aa,if_neg g]
  grind[AO,zy]
 .rw[zy hc,if_neg aa,if_neg aa]
theorem adC{n:Nat}{v:Ve}(h:SpZ (lG n m) v):Wid n m v:=by
 obtain⟨ks,rfl⟩:=h
 have key:∀(l:List Ve),(∀g∈l,Wid n m g)->∀ks,Wid n m (cmb ks l):=by
  intro l
  induction l with
  |nil=>intro _ ks;cases ks<;>exact Wid.zero n m
  | cons g l ih=>
   intro hg ks;cases ks with
   |nil=>exact Wid.zero n m
   |cons k ks=>exact((hg g ac).mul k).add (ih (λx hx=>hg x (by grind)) ks)
 refine key _ (λg hg=>?_) ks;obtain⟨r,hr,rfl⟩:=Zw.1 hg;obtain⟨c,hc,rfl⟩:=Zi.1 hr;have hc':c<n:=by rw[t8]at hc;exact hc
 have e:(lG n m)[c]=nth [] (lG n m) c:=by rw[nth,Z6,List.getElem?_eq_getElem hc];rfl
 grind[aaH]
theorem KJ{n:Nat}{m:Mz}(v:Ve):∀t,t<=n->∃s,SpZ (lG n m) s∧(∀i,i<m.length->s i=dtV t (ve (nth [] m i)) λc=>v (m.length+c))∧(∀c,c<t->s (m.length+c)=v (m.length+c))∧∀c,t<=c->s (m.length+c)=0
 |0,_=>⟨λ_=>0,Spn.zero _,λi hi=>rfl,λc hc=>by omega,λc hc=>rfl⟩
 | t+1,ht=>by
  obtain⟨s,h1,h2,h3,h4⟩:=KJ (n:=n) (m:=m) v t aa;have hr:SpZ (lG n m) (ve (nth [] (lG n m) t)):=ik (m:=lG n m) (i:=t) (by grind[t8]);have e1:=λi=>zy (n:=n) (m:=m) (c:=t) aa i
  refine⟨λi=>s i+v (m.length+t)*ve (nth [] (lG n m) t) i,h1.add (hr.mul _),λi hi=>?_,λc hc=>?_,λc hc=>?_⟩
  .grind[dtV]
  .show s (m.length+c)+v (m.length+t)*ve (nth [] (lG n m) t) (m.length+c)=_
   rw[e1,if_neg aa];by_cases g:c=t
   .grind
   .rw[h3 c aa,if_neg aa];simp
  .show s (m.length+c)+v (m.length+t)*ve (nth [] (lG n m) t) (m.length+c)=_
   rw[e1,if_neg aa,h4 c aa,if_neg aa];simp
theorem adB{n:Nat}{v:Ve}(h:Wid n m v):SpZ (lG n m) v:=by
 obtain⟨s,h1,h2,h3,h4⟩:=KJ (n:=n) (m:=m) v n (Z8 _)
 have e:s=v:=funext λi=>by
  by_cases hi:i<m.length
  .rw[h2 i hi,h.1 i hi]
  .obtain⟨c,rfl⟩:∃c,i=m.length+c:=⟨i-m.length,aa⟩;by_cases hc:c<n
   .grind
   .rw[h4 c aa,h.2 _ aa]
 grind
theorem Hz{n:Nat}(v:Ve):SpZ (lG n m) v↔Wid n m v:=⟨adC,adB⟩
theorem zg:∀{m:List (Nat×Ve)}{o:Nat},Hnf o m->∀(k:Nat){v:Ve},Spn (vs m) v->(∀j,j<k->v j=0)->Spn (vs (m.filter λx=>decide (k<=x.1))) v
 |[],o,H,k,v,hv,h0=>hv
 | (l,h)::m,o,H,k,v,hv,h0=>by
  by_cases g:k<=l
  ·have e:((l,h)::m).filter (λx=>decide (k<=x.1))=(l,h)::m:=List.filter_eq_self.2 λx hx=>by
    rcases Zx.1 hx with rfl|hx
    .simpa using g
    .have:=zf H.2.2 x hx;simp only[decide_eq_true_eq];omega
   rw[e];exact hv
  ·have e:((l,h)::m).filter (λx=>decide (k<=x.1))=m.filter (λx=>decide (k<=x.1)):=by
    rw[List.filter_cons_of_neg (by simpa using g)]
   rw[e];exact zg H.2.2 k (Ax H hv (h0 l aa)) h0
def BdE(E:Nat)(m:Mz):Prop:=∀i j,(eZ m i j).natAbs<=E
theorem BdE.mono(h:E<=E')(b:BdE E m):BdE E' m:=λi j=>Zy (b i j) h
theorem J5{b:Int}(h:0<b):0<=a.fmod b∧a.fmod b<b:=⟨Int.fmod_nonneg_of_pos a h,Int.fmod_lt_of_pos a h⟩
theorem YD{b:Int}(h:b<0):b<a.fmod b∧a.fmod b<=0:=by
 have:=J5 (a:=-a) (b:=-b) aa
 simp_all
theorem YH{b:Int}(h:b≠0):(a.fdiv b).natAbs<=a.natAbs:=by
 have key:∀(a b:Int),0<b->(a.fdiv b).natAbs<=a.natAbs:=λa b hb=>by
  have h1:=Int.mul_fdiv_add_fmod a b;have h2:=J5 (a:=a) hb;generalize a.fdiv b=q at *;generalize a.fmod b=r at *;have h3:q.natAbs*1<=q.natAbs*b.natAbs:=Z0 _ aa;rcases Int.lt_trichotomy q 0 with hq|hq|hq
  .have h4:b*(-q)≥1*(-q):=X9 aa aa;have h5:b*(-q) = -(b*q):=Int.mul_neg ..;rcases Int.lt_trichotomy a 0 with ha|ha|ha
   .have h6:b*(-q-1)≥1*(-q-1):=X9 aa aa;have h7:b*(-q-1) = -(b*q)-b:=by rw[Int.mul_sub];omega
    omega
   .have h6:b*(-q)≥b*1:=Int.mul_le_mul_of_nonneg_left aa aa;omega
   .have h6:b*(-q)≥b*1:=Int.mul_le_mul_of_nonneg_left aa aa;omega
  .omega
  .have h4:b*q≥1*q:=X9 aa aa;omega
 rcases Int.lt_trichotomy b 0 with hb|hb|hb
 .have:=key (-a) (-b) aa
  simp_all
 .omega
 grind
theorem aap{B:Nat}(h:BdE E m)(hE:E<10^B):(m.all λa=>bdZ B a)=true:=by
 rw[Z1];intro r hr;obtain⟨i,hi,rfl⟩:=Zi.1 hr
 show(m[i].all λx=>decide (x.natAbs<10^B))=true
 rw[Z1];intro x hx;obtain⟨j,hj,rfl⟩:=Zi.1 hx;have:=h i j
 grind[nth]
theorem EA{n o:Nat}{Q:Nat}(S:IT n c o i r m m')(h:BdE E m)(hq:∀k,i<=k->k<i+r->((eZ m k c).fdiv (eZ m o c)).natAbs<=Q):BdE (E*(1+Q)) m':=λk j=>by
 have hE:E<=E*(1+Q):=Y5 _ aa;by_cases hk:i<=k∧k<i+r
 .rw[S.inn k hk.1 hk.2 j];have h1:=Int.natAbs_sub_le (eZ m k j) ((eZ m k c).fdiv (eZ m o c)*eZ m o j);rw[Y7]at h1;have h2:=Zp (hq k hk.1 hk.2) (h o j);have h3:=h k j
  grind
 .have:eZ m' k j=eZ m k j:=by simp only[eZ,S.out k aa]
  rw[this];exact Zy (h k j) hE
theorem acZ{o a:Nat}(ho:o<m.length)(ha:a<m.length)(h:BdE E m):BdE E (swZ m o a):=λk j=>by
 simp only[eZ,uQ ho ha];split
 .exact h o j
 .split
  .exact h a j
  .exact h k j
theorem af4{o:Nat}(ho:o<m.length)(h:BdE E m):BdE E (ngZ c o m):=λk j=>by
 simp only[eZ,xe ho];split
 .rw[zZ];have:=h o j
  grind
 .exact h k j
theorem aau(c:Nat)(m:Mz)(o:Nat):∀(r i:Nat)(a:Int),(0<=a->∀k,o<=k->k<i->eZ m k c≠0->(eZ m a.toNat c).natAbs<=(eZ m k c).natAbs)->(a<0->∀k,o<=k->k<i->eZ m k c=0)->o<=i ->
  0<=aZ c m r i a->∀k,o<=k->k<i+r->eZ m k c≠0->(eZ m (aZ c m r i a).toNat c).natAbs<=(eZ m k c).natAbs
 |0,i,a,h,_,hi=>by trivial
 | r+1,i,a,h,h0,hi=>by
  have key:aZ c m (r+1) i a=aZ c m r (i+1) (if eZ m i c≠0∧(a<0∨(eZ m i c).natAbs<(eZ m a.toNat c).natAbs)then i else a):=rfl;rw[key];have e:i+1+r=i+(r+1):=aa;rw[<-e];refine aau c m o r (i+1) _ ?_ ?_ aa
  .split
   .rename_i g;intro _ k a1 a2 hk;by_cases ek:k=i
    .grind
    .rcases g.2 with g2|g2
     .exact absurd (h0 g2 k a1 aa) hk
     .by_cases ha:0<=a
      .have:=h ha k a1 aa hk
       grind
      .exact absurd (h0 aa k a1 aa) hk
   .rename_i g;intro ha k a1 a2 hk;by_cases ek:k=i
    .grind
    .exact h ha k a1 aa hk
  .split
   .omega
   .rename_i g;intro ha k a1 a2;by_cases ek:k=i
    .grind
    .exact h0 ha k a1 aa
theorem yH{n c o:Nat}:∀(r i:Nat)(b:Bool){m:Mz},Ln n m->o<m.length->i+r<=m.length->(o<i∨i+r<=o)->(C6 c o r i b m).1=true->b=true∨∃k,i<=k∧k<i+r∧(eZ m k c).fmod (eZ m o c)≠0
 |0,i,b,m,hl,ho,hi,hoi,h=>.inl h
 | r+1,i,b,m,hl,ho,hi,hoi,h=>by
  have ih:=yH (c:=c) r (i+1) (b||decide ((eZ m i c).fmod (eZ m o c)≠0)) (m:=tkZ c o m i) (JO hl aa ho) (by grind[sH]) (by grind[sH]) aa h;rcases ih with ih|⟨k,a1,a2,a3⟩
  .grind
  .have eo:nth [] (tkZ c o m i) o=nth [] m o:=qI aa aa;have ek:nth [] (tkZ c o m i) k=nth [] m k:=qI aa aa;simp only[eZ,eo,ek]at a3;exact .inr ⟨k,aa,aa,a3⟩
theorem DC(B c f o:Nat)(m:Mz):rdZ B c (f+1) o m=if(m.all λa=>bdZ B a)=true then
   (if aZ c m (m.length-o) o (-1)<0 then some (o,m)else
    if(C6 c o (m.length-(o+1)) (o+1) false (swZ m o (aZ c m (m.length-o) o (-1)).toNat)).1=true then rdZ B c f o (C6 c o (m.length-(o+1)) (o+1) false (swZ m o (aZ c m (m.length-o) o (-1)).toNat)).2
    else some (o+1,upZ c o o 0 (ngZ c o (C6 c o (m.length-(o+1)) (o+1) false (swZ m o (aZ c m (m.length-o) o (-1)).toNat)).2)))else none:=rfl
theorem Js{B c:Nat}:∀(f g:Nat){o:Nat}{m:Mz}{r:Nat×Mz},rdZ B c f o m=some r->f<=g->rdZ B c g o m=some r
 |0,g,o,m,r,h,_=>by cases h
 |f+1,0,o,m,r,h,hg=>by omega
 | f+1,g+1,o,m,r,h,hg=>by
  rw[DC]at h ⊢;split at h
  .rename_i h1;rw[if_pos h1];split at h
   .grind
   .rename_i h2;rw[if_neg h2];split at h
    .rename_i h3;rw[if_pos h3];exact Js f g h aa
    grind
  .cases h
theorem YR{n o:Nat}(hl:Ln n m)(ho:o<m.length)(h0:eZ m o c≠0)(h:BdE E m):BdE (2*E*E) (upZ c o o 0 (ngZ c o m)):=by
 have h1:=af4 (c:=c) ho h;have l1:(ngZ c o m).length=m.length:=BJ c o m
 have h2:eZ (ngZ c o m) o c≠0:=by
  simp only[eZ,xe ho];split
  .grind[zZ]
  .exact h0
 have hE:1<=E:=by have:=h o c;omega
 refine BdE.mono ?_ (EA (Q:=E) (Ja (c:=c) o 0 (WJ hl ho) aa aa (.inr aa)) h1 (λk _ _=>Zy (YH h2) (h1 k c)));rw[Zn,X8,Nat.mul_assoc,Nat.two_mul];have:E*1<=E*E:=Z0 _ hE;omega
theorem adL{p:Nat}(h:p<=M):2*p*(M-p)<=M*M:=by
 obtain⟨d,rfl⟩:∃d,M=p+d:=⟨M-p,aa⟩
 grind
theorem ahZ{p p':Nat}(h0:0<p)(h:p<=M)(h1:p'<=p)(h2:M/p=1->p'<=M-p):(1+M/p)*p*p'<=M*M:=by
 have hq:1<=M/p:=(Xh h0).2 aa;have hm:M/p*p<=M:=Ws M p;by_cases e:M/p=1
 .have:=h2 e;rw[e];exact Zy (Z0 _ this) (adL h)
 .generalize M/p=q at *
  have h3:1+q<=q*q:=by
   have:2*q<=q*q:=Zt _ aa;omega
  calc (1+q)*p*p'<=q*q*p*p:=Zp (Zt _ h3) h1
   _=(q*p)*(q*p):=by rw[Nat.mul_assoc q q p,Nat.mul_assoc q (q*p) p,Nat.mul_assoc q p p,Nat.mul_assoc q p (q*p),Y0 p q p]
   _<=M*M:=Zp hm hm
structure aaD(n c o:Nat)(s:Int)(E M:Nat)(m:Mz):Prop where
 ln:Ln n m
 ho:o<m.length
 hs:s=1∨s = -1
 col:∀k,o<=k->k<m.length->0<=s*eZ m k c∧s*eZ m k c<=M
 bd:BdE E m
theorem adY{n B o W:Nat}(hW:W<10^B){s:Int}:∀(p:Nat){E M:Nat}{m:Mz},aaD n c o s E M m->1<=E->(∃k,o<=k∧k<m.length∧eZ m k c≠0∧(eZ m k c).natAbs<=p)->2*E*(M*M)*p<=W ->
  ∃f o' m',rdZ B c f o m=some (o',m')∧BdE (2*W*W) m'∧o'=o+1:=by
 intro p
 induction p using Nat.strongRecOn with
 |ind p ih=>
 intro E M m S hE ⟨k0,k1,k2,k3,k4⟩ hw;have ho:=S.ho;have A:=Ei c m o (m.length-o) o (-1) (.inl ⟨aa,λk a b=>by omega⟩) (Z8 _);have A2:=aau c m o (m.length-o) o (-1) (λh=>by omega) (λ_ k a b=>by omega) (Z8 _);obtain⟨a,ha⟩:=nmQ (aZ c m (m.length-o) o (-1));rw[<-ha]at A A2;rcases A with⟨_,A⟩|⟨a1,a2,a3⟩
 .exact absurd (A k0 k1 aa) k3
 have hi:a.toNat<m.length:=aa;have amin:=A2 aa;obtain⟨p0,hp0⟩:=nmQ ((eZ m a.toNat c).natAbs);have p0p:p0<=p:=by rw[hp0];exact Zy (amin k0 k1 aa k3) k4
 have p0pos:0<p0:=aa;have ca:=S.col a.toNat aa hi;have sp0:s*eZ m a.toNat c=p0:=by rcases S.hs with h|h<;>subst h<;>omega
 have p0M:p0<=M:=aa;obtain⟨m1,h1⟩:=nmQ (swZ m o a.toNat);have l1:m1.length=m.length:=by rw[h1,wR]
 have n1:Ln n m1:=by rw[h1];exact JP S.ln ho hi
 have e1:∀k,nth [] m1 k=if k=a.toNat then nth [] m o else if k=o then nth [] m a.toNat else nth [] m k:=λk=>by grind[uQ]
 have b1:BdE E m1:=by rw[h1];exact acZ ho hi S.bd
 have eo:eZ m1 o c=eZ m a.toNat c:=by
  simp only[eZ,e1];split
  .grind
  .rw[if_pos trivial]
 have any1:∀k,o<=k->k<m.length->∃k',o<=k'∧k'<m.length∧eZ m1 k c=eZ m k' c:=λk q1 q2=>by
  simp only[eZ,e1];split
  .grind
  .split
   .exact⟨a.toNat,aa,hi,rfl⟩
   grind
 obtain⟨Q,hQ⟩:=nmQ (M/p0)
 -- a row behind
 have row:∀k,o<=k->k<m.length->0<=(eZ m1 k c).fdiv (eZ m1 o c)∧((eZ m1 k c).fdiv (eZ m1 o c)).natAbs<=Q∧0<=s*(eZ m1 k c).fmod (eZ m1 o c)∧s*(eZ m1 k c).fmod (eZ m1 o c)<p0 ∧
   s*eZ m1 k c=p0*(eZ m1 k c).fdiv (eZ m1 o c)+s*(eZ m1 k c).fmod (eZ m1 o c)∧s*eZ m1 k c<=M:=λk q1 q2=>by
  obtain⟨k',r1,r2,r3⟩:=any1 k q1 q2;have c1:=S.col k' r1 r2;rw[<-r3]at c1;have d1:=Int.mul_fdiv_add_fmod (eZ m1 k c) (eZ m1 o c);have sp1:s*eZ m1 o c=p0:=by rw[eo];exact sp0
  have f1:0<=s*(eZ m1 k c).fmod (eZ m1 o c)∧s*(eZ m1 k c).fmod (eZ m1 o c)<p0:=by
   rcases S.hs with h|h
   .subst h;have:=J5 (a:=eZ m1 k c) (b:=eZ m1 o c) aa;omega
   .subst h;have:=YD (a:=eZ m1 k c) (b:=eZ m1 o c) aa;omega
  generalize(eZ m1 k c).fdiv (eZ m1 o c)=q at *;generalize(eZ m1 k c).fmod (eZ m1 o c)=r at *;have g1:s*eZ m1 k c=p0*q+s*r:=by rw[<-d1,Int.mul_add,<-Int.mul_assoc,sp1]
  have q0:0<=q:=by
   rcases Int.lt_or_le q 0 with hq|hq
   .have:(p0:Int)*q<=p0*(-1):=Int.mul_le_mul_of_nonneg_left aa aa;omega
   .exact hq
  refine⟨q0,?_,f1.1,f1.2,g1,c1.2⟩;rw[hQ,Xh p0pos]
  have:(q.natAbs*p0:Int)<=M:=by
   rw[Xe q0,Wg];omega
  omega
 have SW:=uP (n:=n) (c:=c) (o:=o) (m.length-(o+1)) (o+1) false n1 aa aa (.inl aa);have SR:=yH (n:=n) (c:=c) (o:=o) (m.length-(o+1)) (o+1) false n1 aa aa (.inl aa);obtain⟨s2,hs2⟩:=nmQ (C6 c o (m.length-(o+1)) (o+1) false m1);rw[<-hs2]at SW SR;obtain⟨SW,_⟩:=SW
 have b2:BdE (E*(1+Q)) s2.2:=EA SW b1 λk q1 q2=>(row k aa aa).2.1
 have l2:s2.2.length=m.length:=by rw[SW.len,l1]
 have eo2:eZ s2.2 o c=eZ m1 o c:=by simp only[eZ,SW.out o (.inl aa)]
 have M1:1<=M:=aa
 have hEW:E*(1+Q)<=W:=by
  refine Zy ?_ hw;have hQM:Q<=M:=by rw[hQ];exact Yw M p0
  have t1:M*1<=M*M:=Z0 _ M1;have t2:E*(1+Q)<=E*(2*(M*M)):=Z0 _ aa;have t3:E*(2*(M*M))*1<=E*(2*(M*M))*p:=Z0 _ aa;rw[Zo 2 E,Nat.mul_assoc E 2];omega
 have hE2:E<=E*(1+Q):=Y5 _ aa;have hall:=aap (B:=B) S.bd aa
 have step:∀f,rdZ B c (f+1) o m=if s2.1=true then rdZ B c f o s2.2 else some (o+1,upZ c o o 0 (ngZ c o s2.2)):=λf=>by
  rw[DC,if_pos hall,<-ha,if_neg aa,<-h1,<-hs2]
 cases hb:s2.1 with
 | false=>
  refine⟨1,_,_,by rw[step,hb];rfl,?_,rfl⟩;refine BdE.mono ?_ (YR (c:=c) SW.ln aa aa b2);exact Zp (Z0 _ hEW) hEW
 | true=>
  rcases SR hb with h|⟨k,q1,q2,q3⟩
  .cases h
  obtain⟨r1,r2,r3,r4,r5,r6⟩:=row k aa aa;obtain⟨p',hp'⟩:=nmQ (((eZ m1 k c).fmod (eZ m1 o c)).natAbs);have sp':s*(eZ m1 k c).fmod (eZ m1 o c)=p':=by rcases S.hs with h|h<;>subst h<;>omega
  have p'lt:p'<p0:=aa
  have val:∀k,o<k->k<m.length->eZ s2.2 k c=(eZ m1 k c).fmod (eZ m1 o c):=λk a b=>by
   rw[SW.inn k aa aa c,Int.fmod_def,Wg]
  have S2:aaD n c o s (E*(1+Q)) p0 s2.2:=⟨SW.ln,aa,S.hs,λk a b=>by
   by_cases hk:k=o
   .grind
   .rw[val k aa aa];have:=row k a aa;omega,b2⟩
  have hkey:(1+Q)*p0*p'<=M*M:=by
   rw[hQ];refine ahZ p0pos p0M aa λe=>?_
   rw[<-hQ]at e;have nz:eZ m1 k c≠0:=λhz=>q3 (by rw[hz,Int.zero_fmod])
   obtain⟨k',t1,t2,t3⟩:=any1 k aa aa;have hm:=amin k' t1 aa aa;rw[<-t3,<-hp0]at hm
   have hx:s*eZ m1 k c=(eZ m1 k c).natAbs:=by
    have:0<=s*eZ m1 k c:=by
     have:=S.col k' t1 t2;rw[<-t3]at this;exact this.1
    rcases S.hs with h|h<;>subst h<;>omega
   generalize(eZ m1 k c).fdiv (eZ m1 o c)=q at *
   have q1:q=1:=by
    rcases Int.lt_or_le q 1 with h|h
    .have:q=0:=aa
     grind
    .omega
   subst q1;omega
  obtain ⟨f,o',m',g1,g2,g3⟩:=ih p' aa S2 aa ⟨k,aa,aa,by rw[val k aa aa];exact q3,by rw[val k aa aa];omega⟩ (by
   refine Zy ?_ hw
   calc 2*(E*(1+Q))*(p0*p0)*p'=2*E*p0*((1+Q)*p0*p'):=by grind
    _<=2*E*p0*(M*M):=Z0 _ hkey
    _<=2*E*p*(M*M):=Zt _ (Z0 _ p0p)
    _=2*E*(M*M)*p:=by grind)
  exact⟨f+1,o',m',by rw[step,hb,if_pos rfl];exact g1,g2,g3⟩
theorem Ol(E:Nat)(h:1<=E):∀k,1<=E^k:=λk=>Nat.one_le_pow k E h
theorem adZ{n B o:Nat}(hl:Ln n m)(ho:o<m.length)(hE:1<=E)(hb:BdE E m)(hW:4*E^5<10^B):
  ∃f o' m',rdZ B c f o m=some (o',m')∧BdE (32*E^10) m'∧(o'=o+1∨o'=o∧m'=m):=by
 have A:=Ei c m o (m.length-o) o (-1) (.inl ⟨aa,λk a b=>by omega⟩) (Z8 _);obtain⟨a,ha⟩:=nmQ (aZ c m (m.length-o) o (-1));rw[<-ha]at A;have e4:=Ol E hE 4;have e9:=Ol E hE 9;have t5:E*1<=E*E^4:=Z0 _ e4;have t10:E*1<=E*E^9:=Z0 _ e9;have p5:E^5=E*E^4:=by rw[Nat.pow_succ,Zo]
 have p10:E^10=E*E^9:=by rw[Nat.pow_succ,Zo]
 have hall:=aap (B:=B) hb aa;by_cases hneg:a<0
 .exact⟨1,o,m,by rw[DC,if_pos hall,<-ha,if_pos hneg],hb.mono aa,.inr ⟨rfl,rfl⟩⟩
 rcases A with⟨h,_⟩|⟨a1,a2,a3⟩
 .omega
 have hi:a.toNat<m.length:=aa;obtain⟨p0,hp0⟩:=nmQ ((eZ m a.toNat c).natAbs);have p0pos:0<p0:=aa;have p0E:p0<=E:=by rw[hp0];exact hb _ _
 obtain⟨m1,h1⟩:=nmQ (swZ m o a.toNat);have l1:m1.length=m.length:=by rw[h1,wR]
 have n1:Ln n m1:=by rw[h1];exact JP hl ho hi
 have e1:∀k,nth [] m1 k=if k=a.toNat then nth [] m o else if k=o then nth [] m a.toNat else nth [] m k:=λk=>by grind[uQ]
 have b1:BdE E m1:=by rw[h1];exact acZ ho hi hb
 have eo:eZ m1 o c=eZ m a.toNat c:=by
  simp only[eZ,e1];split
  .grind
  .rw[if_pos trivial]
 have SW:=uP (n:=n) (c:=c) (o:=o) (m.length-(o+1)) (o+1) false n1 aa aa (.inl aa);have SR:=yH (n:=n) (c:=c) (o:=o) (m.length-(o+1)) (o+1) false n1 aa aa (.inl aa);obtain⟨s2,hs2⟩:=nmQ (C6 c o (m.length-(o+1)) (o+1) false m1);rw[<-hs2]at SW SR;obtain⟨SW,_⟩:=SW
 have b2:BdE (2*(E*E)) s2.2:=BdE.mono (by
  rw[Zn,X8];have:E*1<=E*E:=Z0 _ hE;omega) (EA (Q:=E) SW b1 λk q1 q2=>Zy (YH aa) (b1 k c))
 have l2:s2.2.length=m.length:=by rw[SW.len,l1]
 have eo2:eZ s2.2 o c=eZ m1 o c:=by simp only[eZ,SW.out o (.inl aa)]
 have step:∀f,rdZ B c (f+1) o m=if s2.1=true then rdZ B c f o s2.2 else some (o+1,upZ c o o 0 (ngZ c o s2.2)):=λf=>by
  rw[DC,if_pos hall,<-ha,if_neg hneg,<-h1,<-hs2]
 have q4:E*E*(E*E)*1<=E*E*(E*E)*E^6:=Z0 _ (Ol E hE 6);have q10:E*E*(E*E)*E^6=E^10:=by grind
 cases hbb:s2.1 with
 | false=>
  refine⟨1,_,_,by rw[step,hbb];rfl,?_,.inl rfl⟩;refine BdE.mono ?_ (YR (c:=c) SW.ln aa aa b2);have:2*(2*(E*E))*(2*(E*E))=8*(E*E*(E*E)):=by grind
  omega
 | true=>
  rcases SR hbb with h|⟨k,q1,q2,q3⟩
  .cases h
  have val:∀k,o<k->k<m.length->eZ s2.2 k c=(eZ m1 k c).fmod (eZ m1 o c):=λk a b=>by
   rw[SW.inn k aa aa c,Int.fmod_def,Wg]
  obtain ⟨s,hs,sp0⟩:∃s:Int,(s=1∨s = -1)∧s*eZ m1 o c=p0:=by
   rw[eo];by_cases h:0<eZ m a.toNat c
   .exact⟨1,.inl rfl,aa⟩
   .exact⟨-1,.inr rfl,aa⟩
  have sg:∀k,0<=s*(eZ m1 k c).fmod (eZ m1 o c)∧s*(eZ m1 k c).fmod (eZ m1 o c)<p0:=λk=>by
   rcases hs with h|h
   .subst h;have:=J5 (a:=eZ m1 k c) (b:=eZ m1 o c) aa;omega
   .subst h;have:=YD (a:=eZ m1 k c) (b:=eZ m1 o c) aa;omega
  have S2:aaD n c o s (2*(E*E)) p0 s2.2:=⟨SW.ln,aa,hs,λk a b=>by
   by_cases hk:k=o
   .grind
   .rw[val k aa aa]
    grind,b2⟩
  have e2:1<=E*E:=by have:1*1<=E*E:=Zp hE hE;omega
  obtain ⟨f,o',m',g1,g2,g3⟩:=adY (B:=B) (W:=4*E^5) hW p0 S2 aa ⟨k,aa,aa,by rw[val k aa aa];exact q3,by
   rw[val k aa aa]
   grind⟩ (by
   calc 2*(2*(E*E))*(p0*p0)*p0<=2*(2*(E*E))*(E*E)*E:=Zp (Z0 _ (Zp p0E p0E)) p0E
    _=4*E^5:=by grind)
  exact ⟨f+1,o',m',by grind,g2.mono (by
   have:2*(4*E^5)*(4*E^5)=32*E^10:=by grind
   omega),.inl g3⟩
def dgN:Nat->Nat->Nat
 |0,d=>d
 |t+1,d=>dgN t (10*d+2)
theorem ZE:∀t d,d<=dgN t d
 |0,d=>Z8 _
 |t+1,d=>by have:=ZE t (10*d+2);grind[dgN]
theorem Rr{n B:Nat}:∀(r:Nat){c o d:Nat}{L:Nat->Nat}{m:Mz},Hm n c o L m->BdE (10^d) m->dgN (m.length-o) d<=B->∃f0,∀f,f0<=f->∃o' m',clZ B f r c o m=some (o',m')
 |0,c,o,d,L,m,H,hb,hd=>⟨0,λf _=>⟨o,m,rfl⟩⟩
 | r+1,c,o,d,L,m,H,hb,hd=>by
  by_cases ho:o<m.length
  .have e1:1<=10^d:=Nat.one_le_pow _ _ aa;obtain⟨t,ht⟩:∃t,m.length-o=t+1:=⟨m.length-o-1,aa⟩;rw[ht]at hd;have hd2:dgN t (10*d+2)<=B:=hd;have:=ZE t (10*d+2)
   have hW:4*(10^d)^5<10^B:=by
    rw[<-Nat.pow_mul];have h1:10^(d*5+1)<=10^B:=Zz aa aa;have h2:10^(d*5+1)=10^(d*5)*10:=Nat.pow_succ ..;have h3:1<=10^(d*5):=Nat.one_le_pow _ _ aa;omega
   obtain⟨f1,o1,m1,g1,g2,g3⟩:=adZ (c:=c) H.ln ho e1 hb hW;obtain⟨⟨L1,H1⟩,s1,l1⟩:=FX f1 H ho g1
   have hb1:BdE (10^(10*d+2)) m1:=g2.mono (by
    rw[<-Nat.pow_mul,Zo d 10,X7];omega)
   have hd1:∃d1,BdE (10^d1) m1∧dgN (m1.length-o1) d1<=B:=by
    rcases g3 with h|⟨h1,h2⟩
    .exact⟨_,hb1,by rw[l1,h,show m.length-(o+1)=t by omega];omega⟩
    .grind
   obtain⟨d1,b1,k1⟩:=hd1;obtain⟨f2,hf2⟩:=Rr r H1 b1 k1;refine⟨max f1 f2,λf hf=>?_⟩;obtain⟨o',m',h⟩:=hf2 f aa;refine⟨o',m',?_⟩
   show pI [] (λr=>r) (λ_ r=>r) B f (r+1) c o m=some (o',m')
   have hr:nI [] (λr=>r) (λ_ r=>r) B c f o m=some (o1,m1):=Js f1 f g1 aa;simp only[pI,if_pos ho,hr];exact h
  .refine⟨0,λf _=>⟨o,m,?_⟩⟩
   show pI [] (λr=>r) (λ_ r=>r) B f (r+1) c o m=some (o,m)
   grind[pI]
theorem Ca{n:Nat}(cols:Nat)(hl:Ln n m)(hm:m.length<=4)(hb:BdE (10^9) m):∃f0,∀f,f0<=f->∃o m',rK 100000 f cols m=some (o,m'):=by have H:Hm n 0 0 (λ_=>0) m:=⟨aa,hl,λi hi=>by omega,λi j h1 h2=>by omega,λi hi=>by omega,λi hi=>by omega,λi j h1 h2=>by omega,λk a b j hj=>by omega⟩;refine Rr (B:=100000) cols H hb ?_;have:m.length-0=0∨m.length-0=1∨m.length-0=2∨m.length-0=3∨m.length-0=4:=aa;rcases this with h|h|h|h|h<;>rw[h]<;>decide
theorem abP{n:Nat}(H:Hm n n m.length L m)(H':Hm n n m'.length L' m')(e:SpE m m'):m=m':=by
 have h:=MJ (tU H m.length 0 0 aa (λ_=>Y9 _)) (tU H' m'.length 0 0 aa (λ_=>Y9 _)) (λv=>by
  rw[qJ H (Z8 _),qJ H' (Z8 _)];exact e v)
 have eo:m.length=m'.length:=by
  have:=congrArg List.length h
  rwa [xO,xO]at this
 refine Wu eo λi h1 h2=>?_
 rw[<-eo]at h;have e1:m[i]=nth [] m i:=by rw[nth,Z6,List.getElem?_eq_getElem h1];rfl
 have e2:m'[i]=nth [] m' i:=by rw[nth,Z6,List.getElem?_eq_getElem h2];rfl
 rw[e1,e2];refine adE ?_ (QM h i aa aa);rw[H.ln i h1,H'.ln i h2]
theorem aee{α:Type}(d:α)(l:List α){o:Nat}(h:i<o):nth d (l.take o) i=nth d l i:=by grind[nth]
theorem Az{n o:Nat}(H:Hm n n o L m):(m.take o).length=o∧Hm n n o L (m.take o)∧SpE m (m.take o):=by
 have hl:(m.take o).length=o:=by rw[Zr];have:=H.le;omega
 have e:∀i,i<o->nth [] (m.take o) i=nth [] m i:=λi hi=>aee [] m hi
 have H2:Hm n n o L (m.take o):=
  ⟨aa,λi hi=>by rw[e i aa];exact H.ln i (by grind),H.lt,H.inc,λi hi=>by simp only[eZ,e i hi];exact H.pos i hi,λi hi j hj=>by grind[Hm.low],
   λi j h1 h2=>by simp only[eZ,e i aa,e j h2];exact H.red i j h1 h2,λk a b=>by omega⟩
 refine⟨hl,H2,λv=>?_⟩;have k1:=qJ H (Z8 _) v;have k2:=qJ H2 (Z8 _) v
 have k3:∀r i,i+r<=o->ldZ L (m.take o) r i=ldZ L m r i:=by
  intro r
  induction r with
  |zero=>intro i _;rfl
  |succ r ih=>intro i hi;simp only[ldZ,e i aa,ih (i+1) aa]
 grind
theorem JA(l:LiQ)(k j:Nat):nth 0 (l.drop k) j=nth 0 l (k+j):=by simp[nth]
theorem Kx(k:Nat)(r:LiQ):Cp k r=true↔(∃j,nth 0 r j≠0)∧∀j,j<k->nth 0 r j=0:=by
 unfold Cp;cases h:r.findIdx? λz=>decide (z≠0)with
 | none=>
  simp only[Zf,false_iff];rintro⟨⟨j,hj⟩,_⟩;rw[List.findIdx?_eq_none_iff]at h;by_cases hl:j<r.length
  .grind[Yl,nth.eq_1]
  .rw[nth,Z6,List.getElem?_eq_none aa]at hj;trivial
 | some i=>
  rw[List.findIdx?_eq_some_iff_getElem]at h;obtain⟨hi,h1,h2⟩:=h;simp only[decide_eq_true_eq]at h1 h2 ⊢;have g1:nth 0 r i=r[i]:=by rw[nth,Z6,List.getElem?_eq_getElem hi];rfl
  constructor
  .intro hk;refine⟨⟨i,aa⟩,λj hj=>?_⟩;have hjl:j<r.length:=aa;have:=h2 j aa
   grind[nth.eq_1]
  .rintro⟨_,h3⟩;exact Decidable.byContradiction λhn=>h1 (by rw[<-g1];exact h3 i aa)
theorem Krn.add{n:Nat}{S:Ve->Prop}{v:Ve}(hu:Krn n S u)(hv:Krn n S v):Krn n S λi=>u i+v i:=
 ⟨λw hw=>by rw[xT,hu.1 w hw,hv.1 w hw];rfl,λj hj=>by show u j+v j=0;rw[hu.2 j hj,hv.2 j hj];rfl⟩
theorem Krn.mul{n:Nat}{S:Ve->Prop}(k:Int)(hu:Krn n S u):Krn n S λi=>k*u i:=
 ⟨λw hw=>by rw[vB,hu.1 w hw,Int.mul_zero],λj hj=>by show k*u j=0;rw[hu.2 j hj,Int.mul_zero]⟩
theorem Krn.zero(n:Nat)(S:Ve->Prop):Krn n S λ_=>0:=⟨λw hw=>re w n,λ_ _=>rfl⟩
theorem Krn.spn{n:Nat}{S:Ve->Prop}:∀{l:List Ve},(∀g∈l,Krn n S g)->∀{v},Spn l v->Krn n S v:=λ{l} hl {v} hv=>by
 obtain⟨ks,rfl⟩:=hv
 induction l generalizing ks with
 |nil=>cases ks<;>exact Krn.zero n S
 | cons g l ih=>
  cases ks with
  |nil=>exact Krn.zero n S
  |cons k ks=>exact((hl g ac).mul k).add (ih (λx hx=>hl x (by grind)) ks)
theorem HR(k:Nat):∀{l:List Ve}{v:Ve},Spn l v->Spn (l.map λg j=>g (k+j)) λj=>v (k+j):=λ{l v} hv=>by
 obtain⟨ks,rfl⟩:=hv;refine⟨ks,?_⟩
 induction l generalizing ks with
 |nil=>cases ks<;>rfl
 | cons g l ih=>
  cases ks with
  |nil=>rfl
  | cons k' ks=>
   grind[cmb]
def wE(k:Nat)(m:Mz):Mz:=(m.filter (Cp k)).map (List.drop k)
theorem Rz{n k:Nat}(h:Ln (k+n) m):Ln n (wE k m):=by
 have:∀r∈wE k m,r.length=n:=λr hr=>by
  obtain⟨x,hx,rfl⟩:=Zw.1 hr;obtain⟨i,hi,rfl⟩:=Zi.1 (Xw.1 hx).1;have:=h i hi
  grind[nth.eq_1]
 intro i hi
 grind[nth.eq_1]
theorem IZ(n:Nat)(m:Mz):Ln (m.length+n) (lG n m):=λi hi=>by
 grind[t8,KI]
theorem aak{n o:Nat}{w:Mz}(H:Hm (m.length+n) (m.length+n) o L w)(e:SpE (lG n m) w)(v:Ve):SpZ (wE m.length (w.take o)) v↔Krn n (SpZ m) v:=by
 obtain⟨tl,H2,e2⟩:=Az H;have sp:∀u,SpZ (w.take o) u↔Wid n m u:=λu=>(((e.trans e2) u).symm).trans (Hz u)
 constructor
 .refine λh=>Krn.spn (λg hg=>?_) h
  obtain⟨r,hr,rfl⟩:=Zw.1 hg;obtain⟨x,hx,rfl⟩:=Zw.1 hr;obtain⟨hx,hb⟩:=Xw.1 hx;have hb:=((Kx _ _).1 hb).2;have hw:=(sp (ve x)).1 (Spn.mem (Zw.2 ⟨x,hx,rfl⟩));have ev:ve (x.drop m.length)=λc=>ve x (m.length+c):=funext λj=>JA x m.length j
  rw[ev];refine⟨λu hu=>?_,λj hj=>hw.2 _ aa⟩;refine AP (λg hg=>?_) hu;obtain⟨r,hr,rfl⟩:=Zw.1 hg;obtain⟨i,hi,rfl⟩:=Zi.1 hr;have e1:m[i]=nth [] m i:=by rw[nth,Z6,List.getElem?_eq_getElem hi];rfl
  rw[e1,<-hw.1 i hi];exact hb i hi
 .intro h
  let u:Ve:=λj=>if j<m.length then 0 else v (j-m.length)
  have hsh:(λj=>u (m.length+j))=v:=funext λj=>by
   grind
  have hw:Wid n m u:=by
   refine⟨λi hi=>?_,λj hj=>?_⟩
   .rw[hsh,h.1 _ (ik hi)]
    grind
   .show(if j<m.length then 0 else v (j-m.length))=0
    rw[if_neg aa];exact h.2 _ aa
  have h1:=(sp u).2 hw;rw[<-qJ H2 (Z8 _)]at h1;have h2:=zg (tU H2 o 0 0 aa (λ_=>Y9 _)) m.length h1 (λj hj=>if_pos hj);have h3:=HR m.length h2;rw[hsh]at h3;refine Spn.le (λg hg=>?_) h3;obtain⟨g',hg',rfl⟩:=Zw.1 hg;obtain⟨x,hx,rfl⟩:=Zw.1 hg';obtain⟨hx,hk⟩:=Xw.1 hx;obtain⟨i,_,hi,rfl⟩:=vj hx
  have hk:m.length<=L i:=by simpa using hk
  have hi':i<(w.take o).length:=aa;refine Spn.mem (Zw.2 ⟨(nth [] (w.take o) i).drop m.length,?_,funext λj=>JA _ _ _⟩);refine Zw.2 ⟨_,Xw.2 ⟨?_,(Kx _ _).2 ⟨⟨L i,?_⟩,λj hj=>H2.low i aa j aa⟩⟩,rfl⟩
  .grind[nth.eq_1]
  .have:=H2.pos i aa
   grind
theorem aer(n:Nat):Hm n n 0 (λ_=>0) []:=
 have z:∀{i:Nat}{P:Prop},i<0->P:=λh=>absurd h (Nat.not_lt_zero _)
 ⟨Z8 _,λi hi=>z hi,λi hi=>z hi,λi j _ hj=>z hj,λi hi=>z hi,λi hi=>z hi,λi j _ hj=>z hj,λk _ hk=>z hk⟩
theorem Iz{n B f o:Nat}{w:Mz}(hl:Ln n m)(h:rK B f n m=some (o,w)):(∃L,Hm n n (w.take o).length L (w.take o))∧SpE m (w.take o):=by
 obtain⟨⟨L,H⟩,e,_⟩:=D9 hl h;obtain⟨tl,H2,e2⟩:=Az H
 grind[SpE.trans]
theorem Aq{n B f:Nat}{z:Mz}(h:vq B f n m=some z):(∃L,Hm n n z.length L z)∧∀v,SpZ z v↔Krn n (SpZ m) v:=by
 unfold vq at h;split at h
 .rename_i o w hw;obtain⟨⟨L,H⟩,e,_⟩:=D9 (IZ n m) hw;have bs:=aak H e;have ln:=Rz (Az H).2.1.ln
  have hb:aal B f m.length n (w.take o)=if wE m.length (w.take o)=[]then some []else match rK B f n (wE m.length (w.take o))with
   |some (o,w)=>some (w.take o)
   |none=>none:=rfl
  rw[hb]at h;split at h
  .rename_i h0;cases h;rw[h0]at bs;exact⟨⟨λ_=>0,aer n⟩,bs⟩
  .split at h
   .rename_i o2 w2 hf;cases h;obtain⟨H3,e3⟩:=Iz ln hf;exact⟨H3,λv=>((e3 v).symm).trans (bs v)⟩
   .cases h
 .cases h
end Go.Vm
