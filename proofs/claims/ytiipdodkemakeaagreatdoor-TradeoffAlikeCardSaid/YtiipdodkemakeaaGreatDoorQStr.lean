/- Lemmas. -/
import Derived.Test.YtiipdodkemakeaaGreatDoorQT
set_option linter.unusedVariables false
set_option linter.unusedSimpArgs false
namespace Go.Vm
open Go Go.Am Go.Big
variable{k:IntKind}{T:(LwQ->Hp->Prop)->Prop}{z a:Int}{xs:List LvQ}{clr:LnQ}{h0 h':Hp}{i j i1 cap r o' c E E' M:Nat}{ys args ds:LwQ}{L:Nat->Nat}{cells:LdQ}{C:tu}
def W:Nat:=4294967296
def u32(n:Nat):D:=.int .u32 n
def nat(n:Nat):V:=lst u32 (dig W n)
def len(n:Nat):Nat:=(dig W n).length
inductive PU{α:Type}(k:α):Type where
 |mk
def rn{α:Type}(T:(α->Prop)->Prop)(k:α->Prop)(u:PU k):Prop:=T k
def rh{α β:Type}(T:(α->β->Prop)->Prop)(k:α->β->Prop)(u:PU k):Prop:=T k
def rl(T:KL->Prop)(k:KL)(u:PU k):Prop:=T k
def br(p A B:Prop)(u:PU A)(w:PU B):Prop:=(p->A)∧(¬p->B)
def jo(k:LwQ->Hp->Prop)(T:(LwQ->Hp->Prop)->Prop)(u:PU k)(w:PU T):Prop:=T k
theorem Nh{p A B:Prop}{u:PU A}{w:PU B}(h1:p->A)(h2:¬p->B):br p A B u w:=⟨h1,h2⟩
@[simp]theorem aiS(A B:Prop)(u:PU A)(w:PU B):br True A B u w=A:=by simp[br]
@[simp]theorem ah5(A B:Prop)(u:PU A)(w:PU B):br False A B u w=B:=by simp[br]
@[simp]theorem ake{p A B:Prop}{u:PU A}{w:PU B}(h:p):br p A B u w=A:=by simp_all
@[simp]theorem akf{p A B:Prop}{u:PU A}{w:PU B}(h:¬p):br p A B u w=B:=by simp_all
theorem gM{k:LwQ->Hp->Prop}{u:PU k}{w:PU T}{l:LwQ}{h:Hp}(hT:∀q,T q=q l h)(hk:k l h):jo k T u w:=by grind[jo]
theorem aJ{k:LwQ->Hp->Prop}{u:PU k}{w:PU T}(h:T k):jo k T u w:=h
@[simp ↓] theorem akg (o:Option V)(k:V->Prop):bnd o k=rn (bnd o) k .mk:=id rfl
@[simp ↓] theorem aj5 (x:V)(i:Nat)(k:V->Prop):ext x i k=rn (ext x i) k .mk:=id rfl
@[simp ↓] theorem aiD (h:Hp)(op:BinOp)(x y:V)(k:V->Prop):yd h op x y k=rn (yd h op x y) k .mk:=id rfl
@[simp ↓] theorem aj8 (b:Bool)(A B:Prop):cnd (.d (.bool b)) A B=br (b=true) A B .mk .mk:=by cases b<;>simp[cnd,br]
@[simp ↓] theorem aiM (b:Bool)(h:Hp)(T:kkQ->Prop)(k:kkQ):gd (.d (.bool b)) true h T k=br (b=true) (T k) (k (.tup []) h) .mk .mk:=by cases b<;>simp[gd,br]
@[simp ↓] theorem ahL (b:Bool)(h:Hp)(T:kkQ->Prop)(k:kkQ):gd (.d (.bool b)) false h T k=br (b=false) (T k) (k (.tup []) h) .mk .mk:=by cases b<;>simp[gd,br]
@[simp ↓] theorem ahK (w:Bool)(h:Hp)(T:kkQ->Prop)(k:kkQ):gd (.tup []) w h T k=k (.tup []) h:=id rfl
@[simp ↓] theorem aky (k:LwQ->Hp->Prop)(T:(LwQ->Hp->Prop)->Prop):jn k T=jo k T .mk .mk:=id rfl
@[simp ↓] theorem akb (C:tu)(h:Hp)(c:V)(args:LwQ)(k:kkQ):cal C h c args k=rh (cal C h c args) k .mk:=id rfl
@[simp ↓] theorem ajl (C:tu)(h:Hp)(c:V)(args:LwQ)(k:kkQ):soC C h c args k=rh (soC C h c args) k .mk:=id rfl
@[simp ↓] theorem akc (C:qG)(h:Hp)(c:V)(args:LwQ)(s:Nat)(k:kkQ):cai C h c args s k=rh (cai C h c args s) k .mk:=id rfl
@[simp ↓] theorem aiR (C:qG)(h:Hp)(c:V)(args:LwQ)(s:Nat)(k:kkQ):aaD C h c args s k=rh (aaD C h c args s) k .mk:=id rfl
@[simp ↓] theorem akn (s:Nat)(cs:LwQ)(h:Hp)(k:kkQ):alV s cs h k=rh (alV s cs h) k .mk:=id rfl
@[simp ↓] theorem ako (s n:Nat)(cs:LdQ)(h:Hp)(k:kkQ):alD s n cs h k=rh (alD s n cs h) k .mk:=id rfl
@[simp ↓] theorem aiT (s:Nat)(v:V)(h:Hp)(k:kkQ):fO s v h k=rh (fO s v h) k .mk:=id rfl
@[simp ↓] theorem aiH (len:Nat)(z:LdQ)(ps:List (Nat×V))(h:Hp)(k:kkQ):dR len z ps h k=rh (dR len z ps h) k .mk:=id rfl
@[simp ↓] theorem aiG (s len:Nat)(z:LdQ)(ps:List (Nat×V))(h:Hp)(k:kkQ):uA s len z ps h k=rh (uA s len z ps h) k .mk:=id rfl
@[simp ↓] theorem ajR (s by_:Nat)(z:LdQ)(h:Hp)(l c:V)(k:kkQ):mkS s by_ z h l c k=rh (mkS s by_ z h l c) k .mk:=id rfl
def ra(f:Nat->Prop)(u:PU f):Prop:=∃s,f s
@[simp ↓] theorem ai8 (f:Nat->Prop):anyS f=ra f .mk:=id rfl
theorem u5{f:Nat->Prop}{u:PU f}(s:Nat)(h:f s):ra f u:=⟨s,h⟩
@[simp ↓] theorem aiF (s len:Nat)(z:LdQ)(ps:List (Nat×V))(h:Hp)(k:kkQ):Cv s len z ps h k=rh (Cv s len z ps h) k .mk:=id rfl
@[simp ↓] theorem akj (dr:Bool)(s n by_:Nat)(x y:V)(h:Hp)(k:kkQ):apW dr s n by_ x y h k=rh (apW dr s n by_ x y h) k .mk:=id rfl
theorem Js{s e:Nat}{b:Bk}{z:D}{v:V}{h:Hp}{k:kkQ}{u:PU k}(hs:h[s]?=some (e,b))(hv:wM v=some [v])(hk:k (.ref s (e+1) 0 1 1 1) (h.set s (e+1,.vars [v]))):rh (Cv s 1 [z] [(0,v)] h) k u:=by
 show Cv s 1 [z] [(0,v)] h k
 have hf:nX (fun i=>some (i * [z].length,[z].length)) ((gW 1 [z]).map .d) [(0,v)]=some [v]:=by
  simp[nX,hv,gW]
 unfold Cv;rw[hf];simp only[new,hs];rw[if_pos ⟨⟨ae,ae⟩,rfl⟩];exact hk
theorem afS{dr:Bool}{s e by_ k:Nat}{b:Bk}{y:V}{vs:LwQ}{h:Hp}{q:kkQ}{u:PU q}(hy:rL h y=some (k,vs))(ho:vs.all okV=true)(hk:0<k)(hb:k*by_<=140737488355328)(hs:h[s]?=some (e,b))
  (hq:q (.ref s (e+1) 0 k k vs.length) (h.set s (e+1,.vars vs))):rh (apW dr s 1 by_ (.d nPQ) y h) q u:=by
 show apW dr s 1 by_ _ y h q
 unfold apW;rw[hy];simp only[new,hs];rw[if_pos ⟨ho,hk,trivial⟩,if_pos hb];exact hq
theorem adq{s s' e by_ k off len cap:Nat}{y:V}{vs old:LwQ}{h:Hp}{q:kkQ}{u:PU q}(hy:rL h y=some (k,vs))(ho:vs.all okV=true)(hk:0<k)(hg:h[s']?=some (e,.vars old))(hl:len=cap)(hc:off+cap=old.length)(h0:old.length<len+k)
  (hb:(len+k)*by_<=140737488355328) (hq:q (.ref s' (e+1) 0 (len+k) (len+k) (len+k)) (h.set s' (e+1,.vars ((old.drop off).take len++vs)))):rh (apW false s 1 by_ (.ref s' e off len cap old.length) y h) q u:=by
 show apW false s 1 by_ _ y h q
 have hg':ax h s' e=.vars old:=by simp[ax,hg]
 unfold apW;rw[hy];simp only[hg'];rw[if_pos ⟨ho,hk,trivial⟩,if_pos ⟨trivial,trivial,aa,aa⟩,if_neg aa,if_pos ⟨hb,hc,h0⟩];exact hq
@[simp ↓] theorem ajk (h:Hp)(n:Nat)(p v:V)(k:kkQ):stD h n p v k=rh (stD h n p v) k .mk:=id rfl
@[simp ↓] theorem akk (dr:Bool)(s n by_:Nat)(x y:V)(h:Hp)(k:kkQ):apV dr s n by_ x y h k=rh (apV dr s n by_ x y h) k .mk:=id rfl
@[simp ↓] theorem aki (dr:Bool)(s n by_:Nat)(z:LdQ)(x y:V)(h:Hp)(k:kkQ):apZ dr s n by_ z x y h k=rh (apZ dr s n by_ z x y h) k .mk:=id rfl
@[simp ↓] theorem akv (st:aS)(clr:LnQ)(h0:Hp)(l:LwQ)(h:Hp)(k:KL):lp st clr h0 l h k=rl (lp st clr h0 l h) k .mk:=id rfl
@[simp ↓] theorem aj2 (v:V)(h:Hp)(k:kkQ):fzD v h k=rh (fzD v h) k .mk:=id rfl
def rk(T:(Exit->Hp->Prop)->Prop)(k:Exit->Hp->Prop)(u:PU k):Prop:=T k
@[simp ↓] theorem ajM (o:Option (List LvQ))(n:Nat)(st:F9)(clr:LnQ)(h:Hp)(k:Exit->Hp->Prop):rgO o n st clr h k=rk (rgO o n st clr h) k .mk:=id rfl
theorem ro{o:Option (List LvQ)}{n:Nat}{st:F9}{h:Hp}{k:Exit->Hp->Prop}{u:PU k}(hq:o=some xs)(hr:rg n st clr h k xs h):rk (rgO o n st clr h) k u:=by subst hq;exact hr
theorem PX{n:Nat}{st:F9}{h:Hp}{k:Exit->Hp->Prop}{x:LvQ}(hl:x.length=n)(hs:st (x.map fun v=>.d (jf v)) h fun ex h'=>match ex with
  |.normal=>pz clr 0 h'=true∧rg n st clr h0 k xs (aO clr 0 h0 h')
  |ex=>k ex h'):rg n st clr h0 k (x::xs) h:=⟨hl,hs⟩
@[simp]theorem aeJ(v:V)(k:V->Prop)(u:PU k):rn (bnd (some v)) k u=k v:=id rfl
@[simp]theorem ajF(vs:LwQ)(i:Nat)(k:V->Prop)(u:PU k):rn (ext (.tup vs) i) k u=rn (bnd vs[i]?) k u:=id rfl
attribute [simp] VW abR Int.natCast_inj
@[simp]theorem ag6(b:Bool)(x y:V):mV (.d (.bool (!b))) x y=mV (.d (.bool b)) y x:=by cases b<;>rfl
@[simp]theorem tz{n:Int}(h1 : -9223372036854775808<=n)(h2:n<=9223372036854775807):IntKind.wrap .i64 n=n:=wrap_i64 ⟨h1,h2⟩
@[simp]theorem NC{n:Int}(h1:0<=n)(h2:n<18446744073709551616):IntKind.wrap .u64 n=n:=wrap_u64 ⟨h1,h2⟩
@[simp]theorem aek{n:Int}(h1:0<=n)(h2:n<4294967296):IntKind.wrap .u32 n=n:=wrap_u32 ⟨h1,h2⟩
@[simp]theorem wrap_u8'{n:Int}(h1:0<=n)(h2:n<256):IntKind.wrap .u8 n=n:=ND rfl ⟨h1,h2⟩
attribute [simp] Ah Ae Ag
@[simp]theorem adg{b:Int}(hb:b≠0):biI .rem (.d (.int k a)) (.d (.int k b))=some (.d (.int k (a.tmod b))):=by simp[biI,iD,mX,jf,hb]
@[simp]theorem aiZ{b:Int}(hb:b≠0):biI .quo (.d (.int k a)) (.d (.int k b))=some (.d (.int k (k.wrap (a.tdiv b)))):=by simp[biI,iD,mX,jf,hb]
theorem Kb{l:IntKind}{b:Int}(h0:0<=b)(hb:b.toNat<=k.bits):biI .shr (.d (.int k a)) (.d (.int l b))=some (.d (.int k (a/2^b.toNat))):=by
 have h1:¬(b<0):=aa
 grind[biI,iD,mX,jf]
theorem Af{l:IntKind}{b:Int}(h0:0<=b)(hb:b.toNat<=k.bits):biI .shl (.d (.int k a)) (.d (.int l b))=some (.d (.int k (k.wrap (a*2^b.toNat)))):=by
 have h1:¬(b<0):=aa
 grind[biI,iD,mX,jf]
@[simp]theorem ah9:IntKind.bits .i64=64:=rfl
@[simp]theorem ah7:IntKind.bits .u64=64:=rfl
@[simp]theorem ah8:IntKind.bits .u32=32:=rfl
@[simp]theorem aiW:IntKind.bits .u8=8:=rfl
@[simp]theorem abz{l:IntKind}{b:Int}(h0:0<=b)(hb:b<=64):biI .shr (.d (.int .i64 a)) (.d (.int l b))=some (.d (.int .i64 (a/2^b.toNat))):=Kb h0 aF
@[simp]theorem air{l:IntKind}{b:Int}(h0:0<=b)(hb:b<=64):biI .shl (.d (.int .i64 a)) (.d (.int l b))=some (.d (.int .i64 (IntKind.wrap .i64 (a*2^b.toNat)))):=Af h0 aF
@[simp]theorem ain{l:IntKind}{b:Int}(h0:0<=b)(hb:b<=64):biI .shr (.d (.int .u64 a)) (.d (.int l b))=some (.d (.int .u64 (a/2^b.toNat))):=Kb h0 aF
@[simp]theorem aip{l:IntKind}{b:Int}(h0:0<=b)(hb:b<=64):biI .shl (.d (.int .u64 a)) (.d (.int l b))=some (.d (.int .u64 (IntKind.wrap .u64 (a*2^b.toNat)))):=Af h0 aF
@[simp]theorem aio{l:IntKind}{b:Int}(h0:0<=b)(hb:b<=32):biI .shr (.d (.int .u32 a)) (.d (.int l b))=some (.d (.int .u32 (a/2^b.toNat))):=Kb h0 aF
@[simp]theorem aiq{l:IntKind}{b:Int}(h0:0<=b)(hb:b<=32):biI .shl (.d (.int .u32 a)) (.d (.int l b))=some (.d (.int .u32 (IntKind.wrap .u32 (a*2^b.toNat)))):=Af h0 aF
@[simp]theorem aik(k:IntKind)(n:Int):unV .neg (.d (.int k n))=some (.d (.int k (k.wrap (-n)))):=by simp[unV,iD,mX,jf]
def nth{α:Type}(d:α)(l:List α)(i:Nat):α:=l.getD i d
theorem cF{α:Type}(d:α)(l:List α)(i:Nat)(h:i<l.length):nth d l i=l[i]:=by simp[nth,h]
@[simp]theorem Dc{α:Type}(d:α)(p:List α)(x:α)(q:List α):nth d (p++x::q) p.length=x:=by simp[nth]
variable{α:Type}(f:α->D)
@[simp] theorem nQ (l:List α)(h:Hp){i:Int}(h0:0<=i)(h1:i<l.length):ixV h 1 (lst f l) (.d (.int k i))=some (.dptr (l.map f) i.toNat):=
 iC f l h (Int.toNat_of_nonneg h0).symm aa
theorem gn(d:α)(l:List α)(h:Hp)(hl:j<l.length):ld1 h (.dptr (l.map f) j)=some (.d (f (nth d l j))):=by rw[lK f l h hl,cF d l j hl]
@[simp] theorem oz (p:List α)(x:α)(q:List α)(h:Hp)(k:IntKind):ixV h 1 (lst f (p++x::q)) (.d (.int k p.length))=some (.dptr ((p++x::q).map f) p.length):=
 iC f _ h rfl ae
omit f in
@[simp] theorem ajV (a:LdQ)(x:D)(b:LdQ)(h:Hp)(hj:j=a.length):ld1 h (.dptr (a++x::b) j)=some (.d x):=by subst hj;simp[ld1]
omit f in
@[simp]theorem akx(x:D)(b:LdQ)(h:Hp):ld1 h (.dptr (x::b) 0)=some (.d x):=by rfl
variable{α:Type}(f:α->D)(l:List α)
@[simp]theorem agO(h:Hp){i:Int}(h0:0<=i)(h1:i<=l.length)(hp:0<l.length):slV h 1 (lst f l) none (some (I i))=some (lst f (l.take i.toNat)):=adK f l hp aa aa
@[simp]theorem akt(h:Hp){i:Int}(h0:0<=i)(h1:i<=l.length)(hp:0<l.length):slV h 1 (lst f l) (some (I i)) none=some (lst f (l.drop i.toNat)):=agW f l hp aa aa
@[simp] theorem akA (len n:Nat)(cs:LdQ)(off:Nat){i:Int}(h0:0<=i)(h1:i<len):ixP len n (.dptr cs off) (.d (.int k i))=some (.dptr cs (off+i.toNat*n)):=by simp only[ixP];rw[if_pos ⟨h0,h1⟩]
@[simp] theorem akz (len n:Nat)(s e off tot:Nat){i:Int}(h0:0<=i)(h1:i<len):ixP len n (.ptr s e off tot) (.d (.int k i))=some (.ptr s e (off+i.toNat*n) tot):=by simp only[ixP];rw[if_pos ⟨h0,h1⟩]
theorem ahA(h:Hp)(cs:LdQ)(pos:Nat){x:D}(hx:cs[pos]?=some x):ld1 h (.dptr cs pos)=some (.d x):=by grind[ld1]
def lJ{α:Type}(f:α->LdQ)(l:List α):V:=.d (.sl l.length (l.flatMap f))
section
variable{α:Type}(f:α->LdQ){n:Nat}(hf:∀x,(f x).length=n)
include hf
theorem jS(l:List α):(l.flatMap f).length=l.length*n:=by
 induction l with
 |nil=>simp
 |cons x l ih=>grind
theorem M0(d:α)(l:List α)(hj:j<l.length):cut (l.flatMap f) (j*n) n=some (f (nth d l j)):=by
 have hle:j*n+n<=(l.flatMap f).length:=by
  rw[jS f hf,<-Xh];exact Zu n hj
 simp only[cut,if_pos hle,Z9];clear hle
 induction l generalizing j with
 |nil=>cases hj
 | cons x l ih=>
  cases j with
  |zero=>grind[nth]
  | succ j=>
   grind[Xh,List.drop_drop,List.drop_left,nth]
theorem rc(l:List α)(h:Hp){i:Int}(h0:0<=i)(h1:i<l.length):ixV h n (lJ f l) (.d (.int k i))=some (.dptr (l.flatMap f) (i.toNat*n)):=by grind[ixV,lJ,jS]
theorem qZ(d:α)(l:List α)(h:Hp)(hj:j<l.length):ldA h n (.dptr (l.flatMap f) (j*n))=some (.agg ((f (nth d l j)).map .d)):=by grind[ldA,M0]
end
@[simp]theorem agm{α:Type}(f:α->LdQ)(l:List α):aY (lJ f l)=some (I l.length):=id rfl
@[simp]theorem agc{α:Type}(h:Hp)(f:α->LdQ)(l:List α):aD h (lJ f l)=some (lJ f l,h):=by rfl
def sN(place:Nat->Option (Nat×Nat))(cs:LwQ)(ps:List (Nat×V)):Option LwQ:=nX place cs ps
@[simp]theorem agu(place:Nat->Option (Nat×Nat))(cs:LwQ):sN place cs []=some cs:=id rfl
def ML(o:Option (Nat×Nat))(place:Nat->Option (Nat×Nat))(cs:LwQ)(v:V)(r:List (Nat×V)):Option LwQ:=match o with
 |none=>none
 | some (off,sz)=>match wM v with
  |none=>none
  |some vs=>if vs.length=sz∧off+vs.length<=cs.length then sN place (cs.take off++vs++cs.drop (off+vs.length)) r else none
@[simp]theorem afu(place:Nat->Option (Nat×Nat))(cs:LwQ)(i:Nat)(v:V)(r:List (Nat×V)):sN place cs ((i,v)::r)=ML (place i) place cs v r:=id rfl
@[simp] theorem aiN (place:Nat->Option (Nat×Nat))(cs:LwQ)(x:D)(r:List (Nat×V))(off sz:Nat):
  ML (some (off,sz)) place cs (.d x) r=if 1=sz∧off+1<=cs.length then sN place (cs.take off++[.d x]++cs.drop (off+1)) r else none:=id rfl
@[simp] theorem agx (place:Nat->Option (Nat×Nat))(cs:LwQ)(vs:LwQ)(r:List (Nat×V))(off sz:Nat):
  ML (some (off,sz)) place cs (.agg vs) r=if vs.length=sz∧off+vs.length<=cs.length then sN place (cs.take off++vs++cs.drop (off+vs.length)) r else none:=id rfl
@[simp] theorem agv (place:Nat->Option (Nat×Nat))(cs:LwQ)(a b c d e f:Nat)(r:List (Nat×V))(off sz:Nat):
  ML (some (off,sz)) place cs (.ref a b c d e f) r=if 1=sz∧off+1<=cs.length then sN place (cs.take off++[.ref a b c d e f]++cs.drop (off+1)) r else none:=id rfl
def afN(fs:List (Nat×Nat))(z:LdQ)(ps:List (Nat×V)):Option V:=bld fs z ps
def afM(n:Nat)(z:LdQ)(ps:List (Nat×V)):Option V:=TM n z ps
@[simp]theorem ajH(fs:List (Nat×Nat))(z:LdQ)(ps:List (Nat×V))(k:V->Prop)(u:PU k):rn (bnd (bld fs z ps)) k u=rn (bnd (afN fs z ps)) k u:=id rfl
@[simp]theorem ait(n:Nat)(z:LdQ)(ps:List (Nat×V))(k:V->Prop)(u:PU k):rn (bnd (TM n z ps)) k u=rn (bnd (afM n z ps)) k u:=id rfl
@[simp]theorem aiV(fs:List (Nat×Nat))(z:LdQ)(ps:List (Nat×V)):afN fs z ps=(sN (fun i=>fs[i]?) (z.map .d) ps).map .agg:=id (by unfold afN bld sN;cases nX (fun i=>fs[i]?) (z.map .d) ps<;>rfl)
@[simp]theorem aiU(n:Nat)(z:LdQ)(ps:List (Nat×V)):afM n z ps=(sN (fun i=>some (i*n,n)) (z.map .d) ps).map .agg:=id (by unfold afM TM sN;cases nX (fun i=>some (i*n,n)) (z.map .d) ps<;>rfl)
@[simp]theorem aj3(off n:Nat)(vs:LwQ):fiV off n true (.agg vs)=vs[off]?:=id rfl
@[simp]theorem aiO(cs:LdQ)(o off:Nat):faV off (.dptr cs o)=some (.dptr cs (o+off)):=id rfl
@[simp]theorem aj4(s e o tot off:Nat):faV off (.ptr s e o tot)=some (.ptr s e (o+off) tot):=id rfl
def bnh{α:Type}(o:Option α)(k:α->Prop):Prop:=match o with
 |some x=>k x
 |none=>False
@[simp]theorem ajG{α:Type}(x:α)(k:α->Prop)(u:PU k):rn (bnh (some x)) k u=k x:=id rfl
@[simp] theorem ajI (h:Hp)(n:Nat)(p v:V)(k:kkQ)(u:PU k):rh (stD h n p v) k u=rn (bnh (st h n p v)) (fun h'=>k .junk h') .mk:=by unfold rh rn stD bnh;cases st h n p v<;>rfl
theorem Dg(h:Hp)(s:Nat)(b:Bk)(k:Nat->Hp->Prop):new h s b k=bnh h[s]? fun x=>k (x.1+1) (h.set s (x.1+1,b)):=by grind[new,bnh]
@[simp]theorem ajK(s:Nat)(cs:LwQ)(h:Hp)(k:kkQ)(u:PU k):rh (alV s cs h) k u=rn (bnh h[s]?) (fun x=>k (.ptr s (x.1+1) 0 cs.length) (h.set s (x.1+1,.vars cs))) .mk:=by unfold rh rn alV;exact Dg ..
@[simp]theorem aiw(s:Nat)(vs:LwQ)(h:Hp)(k:kkQ)(u:PU k):rh (fO s (.agg vs) h) k u=rh (alV s vs h) k u:=id rfl
@[simp]theorem ag0(s:Nat)(x:D)(h:Hp)(k:kkQ)(u:PU k):rh (fO s (.d x) h) k u=rh (alV s [.d x] h) k u:=id rfl
def eV(len:Nat)(z:LdQ)(ps:List (Nat×V))(h:Hp):Option (LdQ×Hp):=match sN (fun i=>some (i*z.length,z.length)) ((gW len z).map .d) ps with
 |some vs=>if 0<z.length∧len*z.length<=16777216 then jj h vs else none
 |none=>none
@[simp] theorem aiv (len:Nat)(z:LdQ)(ps:List (Nat×V))(h:Hp)(k:kkQ)(u:PU k):rh (dR len z ps h) k u=rn (bnh (eV len z ps h)) (fun x=>k (.d (.sl len x.1)) x.2) .mk:=by
 unfold rh rn dR eV bnh sN;cases nX (fun i=>some (i*z.length,z.length)) ((gW len z).map .d) ps with
 |none=>rfl
 | some vs=>
  simp only;split
  .cases jj h vs<;>rfl
  .rfl
@[simp] theorem aiu (s len:Nat)(z:LdQ)(ps:List (Nat×V))(h:Hp)(k:kkQ)(u:PU k):rh (uA s len z ps h) k u=rn (bnh (eV len z ps h)) (fun x=>rn (bnh x.2[s]?) (fun y=>k (.ref s (y.1+1) 0 len len x.1.length) (x.2.set s (y.1+1,.data z.length x.1 true false))) .mk) .mk:=by
 unfold rh rn uA eV bnh sN;cases nX (fun i=>some (i*z.length,z.length)) ((gW len z).map .d) ps with
 |none=>rfl
 | some vs=>
  simp only;split
  .cases jj h vs with
   |none=>rfl
   |some x=>simp only[Dg];rfl
  .rfl
def iZ(h:Hp)(s e:Nat):Bk:=ax h s e
@[simp]theorem afj(e0:Nat)(b:Bk)(h:Hp)(e:Nat):iZ ((e0,b)::h) 0 e=if e0=e then b else .none:=id rfl
@[simp]theorem afk(x:Nat×Bk)(h:Hp)(s e:Nat):iZ (x::h) (s+1) e=iZ h s e:=id rfl
@[simp]theorem ags(x:Nat×Bk)(h:Hp)(e:Nat):iZ (x::h) 1 e=iZ h 0 e:=id rfl
@[simp]theorem agr(x:Nat×Bk)(h:Hp)(e:Nat):iZ (x::h) 2 e=iZ h 1 e:=id rfl
@[simp]theorem adV(x:Nat×Bk)(h:Hp)(e:Nat):iZ (x::h) 3 e=iZ h 2 e:=id rfl
@[simp]theorem afl(x:Nat×Bk)(h:Hp)(e:Nat):iZ (x::h) 4 e=iZ h 3 e:=id rfl
def YC(b:Bk)(off tot:Nat):Option V:=match b with
 |.vars cs=>if tot=cs.length then cs[off]? else none
 |.data _ cs _ _=>if tot=cs.length then cs[off]?.map .d else none
 |.none=>none
def S6(b:Bk)(n off tot:Nat):Option V:=match b with
 |.vars cs=>if tot=cs.length then(cut cs off n).map .agg else none
 |.data _ cs _ _=>if tot=cs.length then(cut cs off n).map fun l=>.agg (l.map .d)else none
 |.none=>none
theorem ahB(h:Hp)(s e off tot:Nat):ld1 h (.ptr s e off tot)=YC (iZ h s e) off tot:=by
 unfold iZ;simp only[ld1];cases ax h s e with
 |none=>rfl
 |vars cs=>rfl
 | data n cs a b=>
  simp only[YC];split
  .cases cs[off]?<;>rfl
  .rfl
theorem ahz(h:Hp)(n s e off tot:Nat):ldA h n (.ptr s e off tot)=S6 (iZ h s e) n off tot:=by
 unfold iZ;simp only[ldA];cases ax h s e with
 |none=>rfl
 | vars cs=>
  simp only[S6];split
  .cases cut cs off n<;>rfl
  .rfl
 | data m cs a b=>
  simp only[S6];split
  .cases cut cs off n<;>rfl
  .rfl
@[simp]theorem ajD(h:Hp)(s e off tot:Nat)(k:V->Prop)(u:PU k):rn (bnd (ld1 h (.ptr s e off tot))) k u=rn (bnd (YC (iZ h s e) off tot)) k u:=by rw[ahB]
@[simp]theorem ajC(h:Hp)(n s e off tot:Nat)(k:V->Prop)(u:PU k):rn (bnd (ldA h n (.ptr s e off tot))) k u=rn (bnd (S6 (iZ h s e) n off tot)) k u:=by rw[ahz]
@[simp]theorem agp(cs:LwQ)(off tot:Nat):YC (.vars cs) off tot=if tot=cs.length then cs[off]? else none:=id rfl
@[simp]theorem agq(n:Nat)(cs:LdQ)(a b:Bool)(off tot:Nat):YC (.data n cs a b) off tot=if tot=cs.length then cs[off]?.map .d else none:=id rfl
@[simp]theorem agn(cs:LwQ)(n off tot:Nat):S6 (.vars cs) n off tot=if tot=cs.length then(cut cs off n).map .agg else none:=id rfl
@[simp]theorem ago(m:Nat)(cs:LdQ)(a b:Bool)(n off tot:Nat):S6 (.data m cs a b) n off tot=if tot=cs.length then(cut cs off n).map (fun l=>.agg (l.map .d))else none:=id rfl
def stX(b:Bk)(h:Hp)(s e off tot:Nat)(vs:LwQ):Option Hp:=match b with
 |.vars cs=>if tot=cs.length∧off+vs.length<=cs.length∧vs.all okV=true then some (bL h s e (.vars (cs.take off++vs++cs.drop (off+vs.length))))else none
 |_=>sto h s e off tot vs
theorem adG(h:Hp)(s e off tot:Nat)(vs:LwQ):sto h s e off tot vs=stX (iZ h s e) h s e off tot vs:=by
 unfold iZ stX;cases hb:ax h s e with
 |vars cs=>simp[sto,hb]
 |none=>rfl
 |data n cs a b=>rfl
@[simp] theorem ajA (h:Hp)(n s e off tot:Nat)(vs:LwQ)(k:Hp->Prop)(u:PU k):rn (bnh (st h n (.ptr s e off tot) (.agg vs))) k u=rn (bnh (if vs.length=n then stX (iZ h s e) h s e off tot vs else none)) k u:=by simp only[rn,st,adG]
def KW(b:Bk)(h:Hp)(s e off tot:Nat)(x:D):Option Hp:=match b with
 |.vars cs=>if tot=cs.length∧off+1<=cs.length then some (bL h s e (.vars (cs.take off++[.d x]++cs.drop (off+1))))else none
 |.data n cs ex fr=>if fr=false∧tot=cs.length∧off+1<=cs.length then some (bL h s e (.data n (cs.set off (norm x)) ex false))else none
 |.none=>none
theorem agS(h:Hp)(s e off tot:Nat)(x:D):st h 1 (.ptr s e off tot) (.d x)=KW (iZ h s e) h s e off tot x:=by
 unfold iZ;simp only[st,if_true];cases hb:ax h s e with
 |none=>simp[sto,hb,KW]
 |vars cs=>simp[sto,hb,KW,okV]
 | data n cs ex fr=>
  simp only[sto,hb,jj,toD,KW];by_cases hc:fr=false∧tot=cs.length∧off+1<=cs.length
  .rw[if_pos hc,if_pos aa];rw[Yr,if_pos aa];simp
  .rw[if_neg hc,if_neg aa]
@[simp]theorem ajB(h:Hp)(s e off tot:Nat)(x:D)(k:Hp->Prop)(u:PU k):rn (bnh (st h 1 (.ptr s e off tot) (.d x))) k u=rn (bnh (KW (iZ h s e) h s e off tot x)) k u:=by rw[agS]
@[simp]theorem aga(cs:LwQ)(h:Hp)(s e off tot:Nat)(x:D):KW (.vars cs) h s e off tot x=if tot=cs.length∧off+1<=cs.length then some (bL h s e (.vars (cs.take off++[.d x]++cs.drop (off+1))))else none:=id rfl
@[simp] theorem Sk (n:Nat)(cs:LdQ)(ex:Bool)(h:Hp)(s e off tot:Nat)(x:D)(ht:tot=cs.length)(ho:off<cs.length):KW (.data n cs ex false) h s e off tot x=some (bL h s e (.data n (cs.set off (norm x)) ex false)):=by simp only[KW];simp[ht];omega
def ixX(b:Bk)(n s e off len tot:Nat)(i:Int):Option V:=match b with
 |.data _ cs _ _=>if tot=cs.length∧0<=i∧i<len then some (.ptr s e (off+i.toNat*n) tot)else none
 |.vars cs=>if tot=cs.length∧0<=i∧i<len then some (.ptr s e (off+i.toNat*n) tot)else none
 |_=>none
@[simp] theorem ajE (h:Hp)(n s e off len cap tot:Nat)(kd:IntKind)(i:Int)(k:V->Prop)(u:PU k):rn (bnd (ixV h n (.ref s e off len cap tot) (.d (.int kd i)))) k u=rn (bnd (ixX (iZ h s e) n s e off len tot i)) k u:=by
 have:ixV h n (.ref s e off len cap tot) (.d (.int kd i))=ixX (iZ h s e) n s e off len tot i:=by
  unfold iZ;simp only[ixV,ixX];cases ax h s e<;>rfl
 rfl
@[simp] theorem ahF (m:Nat)(cs:LdQ)(a b:Bool)(n s e off len tot:Nat)(i:Int)(ht:tot=cs.length)(h0:0<=i)(h1:i<len):ixX (.data m cs a b) n s e off len tot i=some (.ptr s e (off+i.toNat*n) tot):=by simp only[ixX];rw[if_pos ⟨ht,h0,h1⟩]
@[simp] theorem ahE (cs:LwQ)(n s e off len tot:Nat)(i:Int)(ht:tot=cs.length)(h0:0<=i)(h1:i<len):ixX (.vars cs) n s e off len tot i=some (.ptr s e (off+i.toNat*n) tot):=by simp only[ixX];rw[if_pos ⟨ht,h0,h1⟩]
@[simp] theorem ajz (h:Hp)(n s e off tot a b c d f g:Nat)(k:Hp->Prop)(u:PU k):rn (bnh (st h n (.ptr s e off tot) (.ref a b c d f g))) k u=rn (bnh (if n=1 then stX (iZ h s e) h s e off tot [.ref a b c d f g]else none)) k u:=by simp only[rn,st,adG]
@[simp]theorem agR(cs:LwQ)(h:Hp)(s e off tot:Nat)(vs:LwQ):stX (.vars cs) h s e off tot vs=if tot=cs.length∧off+vs.length<=cs.length∧vs.all okV=true then some (bL h s e (.vars (cs.take off++vs++cs.drop (off+vs.length))))else none:=id rfl
@[simp]theorem aiK(h:Hp)(s e:Nat)(b:Bk):bL h s e b=h.set s (e,b):=rfl
@[simp]theorem aku(x:D):okV (.d x)=true:=rfl
@[simp]theorem aiy(a b c d e f:Nat):okV (.ref a b c d e f)=true:=rfl
@[simp]theorem aj7{α:Type}(l:List α)(off n:Nat):cut l off n=if off+n<=l.length then some ((l.drop off).take n)else none:=id rfl
@[simp]theorem pL(i:Nat)(h0 h:Hp)(hl:h.length=h0.length):aO [] i h0 h=h:=Hz i h0 h hl
@[simp]theorem aiQ(q:LwQ->Hp->Prop)(r:List (Exit×(LwQ->Hp->Prop)))(l:LwQ)(h:Hp):exK ((.normal,q)::r) .normal l h=q l h:=rfl
@[simp]theorem ad0(q:LwQ->Hp->Prop)(r:List (Exit×(LwQ->Hp->Prop)))(l:LwQ)(h:Hp):exK ((.normal,q)::r) .ret l h=exK r .ret l h:=rfl
@[simp]theorem adZ(q:LwQ->Hp->Prop)(r:List (Exit×(LwQ->Hp->Prop)))(l:LwQ)(h:Hp):exK ((.ret,q)::r) .normal l h=exK r .normal l h:=rfl
@[congr]theorem agt{l:List Gh}{h:Hp}{k:Hp->Prop}(e:h=h'):ghG l h k=ghG l h' k:=by rw[e]
@[congr]theorem agT{h:Hp}{x:V}{k:Prop}(e:h=h'):sp h x ys k=sp h' x ys k:=by rw[e]
@[congr]theorem agV{h:Hp}{x y:V}{k:Prop}(e:h=h'):sm h x y k=sm h' x y k:=by rw[e]
theorem KY{h:Hp}{x:V}{k:Prop}:∀{ys:LwQ},ys.all (apt h x)=true->k->sp h x ys k
 |[],_,hk=>hk
 | y::ys,hb,hk=>by
  simp only[List.all_cons,Z7]at hb;unfold sp;rw[hb.1];exact KY hb.2 hk
theorem UL{h:Hp}{x y:V}{k:Prop}(hb:smB h x y=true)(hk:k):sm h x y k:=by grind[sm]
structure Acc where
 s:Nat
 e:Nat
 n:Nat
 b0:Bk
def Acc.v(a:Acc)(L:Nat)(cells:LdQ):V:=match L with
 |0=>.d nPQ
 |_=>.ref a.s (a.e+1) 0 L L cells.length
def Acc.b(a:Acc)(L:Nat)(cells:LdQ):Nat×Bk:=match L with
 |0=>(a.e,a.b0)
 |_=>(a.e+1,.data a.n cells false false)
theorem oh(a:Acc){L by_ k:Nat}{cells cs:LdQ}{h:Hp}{y:V}{q:kkQ}{u:PU q}(hk:0<k)(hs:h[a.s]?=some (a.b L cells))(hc:cells.length=L*a.n)(hcs:cs.length=k*a.n)
  (hy:cellsOf h y=some (k,cs)) (hyn:∀t,y≠.d (.str t)) (hb:(L+k)*by_<=140737488355328) (hn:0<a.n) (hq:q (a.v (L+k) (cells++cs)) (h.set a.s (a.b (L+k) (cells++cs)))):rh (apV false a.s a.n by_ (a.v L cells) y h) q u:=by
 have e1:apV false a.s a.n by_ (a.v L cells) y h q=apC false a.s a.n by_ (a.v L cells) k cs h q:=by
  unfold apV;split
  .trivial
  .grind
 show apV false a.s a.n by_ (a.v L cells) y h q
 rw[e1];have hlt:=(List.getElem?_eq_some_iff.1 hs).1;obtain⟨m,hm⟩:∃m,L+k=m+1:=⟨L+k-1,aa⟩;cases L with
 | zero=>
  have:cells=[]:=Zn aa;subst this;simp only[Zi,List.nil_append]at *;simp only[Acc.v];unfold apC;rw[if_neg aa];simp only[];rw[if_pos aa]
  simp_all[new,Acc.b,Acc.v]
 | succ L=>
  simp only[Acc.v];unfold apC;rw[if_neg aa];have hg:ax h a.s (a.e+1)=.data a.n cells false false:=by simp only[ax,hs,Acc.b,if_true]
  simp only[hg,true_and,Zi];rw[if_pos ⟨Z8 _,aa,hcs⟩,if_neg aa,if_pos hb];simp only[Y9,if_false,Bool.or_self];have hpos:0<cs.length:=by rw[hcs];exact X9 hk hn
  rw[if_pos ⟨aa,aa⟩];rw[hm]at hq ⊢;simp only[Acc.v,Acc.b,Zr,bL,hc]at hq ⊢;simp only[Yc];rw[Zw aa];exact hq
theorem nY(a:Acc){L:Nat}{h:Hp}(hs:h[a.s]?=some (a.b L cells))(hc:cells.length=L*a.n):
  ∃h',aD h (a.v L cells)=some (.d (.sl L cells),h')∧((L=0∧h'=h)∨(0<L∧h'=h.set a.s (a.e+1,.data a.n cells false true))):=by
 cases L with
 | zero=>
  simp_all[Acc.v]
 | succ L=>
  have hg:ax h a.s (a.e+1)=.data a.n cells false false:=by simp only[ax,hs,Acc.b,if_true]
  refine⟨_,?_,.inr ⟨Nat.succ_pos _,rfl⟩⟩;simp only[Acc.v,aD,toD,hg,true_and,Zi];rw[if_pos ⟨Z8 _,aa⟩];simp only[Yc,bL];rw[Zw aa]
theorem adx(a:Acc){L:Nat}{h:Hp}(hs:h[a.s]?=some (a.b L cells))(hc:cells.length=L*a.n):out (.d (.sl L cells)) (a.v L cells) h:=by obtain⟨h',h1,_⟩:=nY a hs hc;exact⟨h',h1⟩
theorem fC{b b':Bool}{h:Hp}(e:b'=b):out (B b) (.d (.bool b')) h:=by simp_all
theorem ba{b:Int}{h:Hp}(e:b=a):out (.d (.int k a)) (.d (.int k b)) h:=by simp_all
theorem cd{h:Hp}{f:FuncId}{v:V}{k:kkQ}{u:PU k}(hc:C f args v)(hk:k v h)(hs:ai h args=some (args,h):=by simp[ai,aD]):rh (cal C h (.fn f [] []) args) k u:=ah2 hc hs hk
theorem lo{st:aS}{l:LwQ}{h:Hp}{k:KL}{u:PU k}(hl:lp st clr h0 l h k):rl (lp st clr h0 l h) k u:=hl
def ab7(n:Nat):D:=.sl (len n) ((dig W n).map u32)
@[simp]theorem agh(n:Nat):norm (ab7 n)=ab7 n:=rfl
@[simp]theorem agU(h:Hp)(n:Nat):aD h (nat n)=some (nat n,h):=K2 ..
@[simp]theorem agk(n:Nat):aY (.d (ab7 n))=some (I (len n)):=rfl
def ahG(z:Int):LwQ:=[.d (.bool (decide (z<0))),.d (ab7 z.natAbs)]
def aff(z:Int):V:=.agg (ahG z)
@[simp]theorem agd(h:Hp)(z:Int):aD h (aff z)=some (aff z,h):=by simp[aff,ahG,aD,ai]
def di(n:Int):D:=.int .i64 n
def row(l:LiQ):D:=.sl l.length (l.map di)
abbrev mat(m:LLQ):V:=lst row m
@[simp]theorem akF(n:Int):V.d (di n)=I n:=id rfl
@[simp]theorem aiC(n:Int):norm (di n)=di n:=rfl
@[simp]theorem ahf(l:LiQ):norm (row l)=row l:=rfl
@[simp]theorem ajW(l:LiQ)(h:Hp){i:Int}(h0:0<=i)(h1:i<l.length):ixV h 1 (.d (row l)) (.d (.int k i))=some (.dptr (l.map di) i.toNat):=nQ di l h h0 h1
@[simp]theorem XZ(l:LiQ)(h:Hp)(hl:j<l.length):ld1 h (.dptr (l.map di) j)=some (.d (di (nth 0 l j))):=gn di 0 l h hl
@[simp]theorem aiJ(m:LLQ)(h:Hp)(hl:j<m.length):ld1 h (.dptr (m.map row) j)=some (.d (row (nth [] m j))):=gn row [] m h hl
@[simp]theorem ahr(l:LiQ):aY (.d (row l))=some (I l.length):=rfl
def idx{α:Type}(p:α->Bool)(l:List α):Int:=match l.findIdx? p with
 |some i=>i
 |none=>-1
theorem cdf{h:Hp}{f:FuncId}{fs cs:LwQ}{v:V}{k:kkQ}{u:PU k}(hc:C f (fs++args++cs) v)(hs:ai h (fs++args++cs)=some (fs++args++cs,h))(hk:k v h):rh (cal C h (.fn f fs cs) args) k u:=by simp only[rh,cal,hs];exact⟨v,hc,by simpa using hk⟩
variable{α:Type}{f:α->D}{g:FuncId}{fs cs:LwQ}{p:α->Bool}
theorem MA(hs:∀x,ai [] (fs++[.d (f x)]++cs)=some (fs++[.d (f x)]++cs,[]))(k:KL):∀(q a:List α),(a++q).length<4611686018427387904->(∀x∈q,CP Y g (fs++[.d (f x)]++cs) (B (p x))) ->
  (idx p q = -1->k (.exit 0) [] [])->(∀i:Nat,idx p q=i->k .ret [I (a.length+i:Nat)] []) ->
  lp (dS (CX Y) (lst f (a++q)) (.fn g fs cs) (I (a++q).length)) [] [] [I a.length] [] k
 | [],a,hN,_,h0,_=>by
  refine ak ?_;simp[dS];exact h0 rfl
 | x::q,a,hN,hp,h0,h1=>by
  simp at hN;refine ak ?_;simp(disch:=try exact ac)[dS];refine cdf (hp x ae) (hs x) ?_;simp;refine Nh (fun h=>?_) (fun h=>?_)<;>try simp(disch:=try exact ac)[h]
  .have e:idx p (x::q)=(0:Nat):=by simp[idx,List.findIdx?_cons,h]
   simpa using h1 0 e
  .have hl:=hs;have:=MA hs k q (a++[x]) aF (fun y hy=>hp y (by simp[hy])) (fun e=>h0 ?_) (fun i e=>?_)
   .simpa[V1]using this
   .simp only[idx,List.findIdx?_cons,h,Y9,if_false]at e ⊢;cases hq:List.findIdx? p q<;>simp[hq]at e ⊢
   .have:=h1 (i+1) ?_
    .simpa[Xj,Nat.add_comm 1 i]using this
    .simp only[idx,List.findIdx?_cons,h,Y9,if_false]at e ⊢;cases hq:List.findIdx? p q<;>simp[hq]at e ⊢
     exact e
theorem JI(l:List α)(hN:l.length<4611686018427387904)(hs:∀x,ai [] (fs++[.d (f x)]++cs)=some (fs++[.d (f x)]++cs,[]))(hp:∀x∈l,CP Y g (fs++[.d (f x)]++cs) (B (p x))):
  aV (CX Y) (lst f l) (.fn g fs cs) (out (I (idx p l))):=by
 simp[aV];refine lo (MA hs _ l [] (by simpa using hN) hp (fun e=>?_) (fun i e=>?_))
 .simp[e]
 .simp[e]
theorem Dq{α:Type}(p:α->Bool)(l:List α):0<=idx p l↔l.any p=true:=by
 unfold idx;cases h:l.findIdx? p with
 |none=>simp[List.findIdx?_eq_none_iff]at h ⊢;exact h
 | some i=>
  simp[List.findIdx?_eq_some_iff_getElem]at h ⊢;obtain⟨hi,h1,_⟩:=h;exact⟨l[i],Ze hi,h1⟩
@[simp]theorem ail(h:Hp)(g:FuncId):aD h (.fn g [] [])=some (.fn g [] [],h):=by simp[aD,ai]
theorem Cf{g:FuncId}{p:Int->Bool}(l:LiQ)(hN:l.length<4611686018427387904)(hp:∀x∈l,CP Y g [I x] (B (p x))):CP Y F.aV [lst di l,.fn g [] []] (I (idx p l)):=
 pG (JI l hN (fun x=>by simp[ai]) hp)
theorem wL{g:FuncId}{p:Int->Bool}(l:LiQ)(hN:l.length<4611686018427387904)(hp:∀x∈l,CP Y g [I x] (B (p x))):CP Y F.aW [lst di l,.fn g [] []] (B (l.any p)):=by
 refine oR ?_;simp[aW];refine cd (Cf l hN hp) ?_;simp;have:=Dq p l;have e:decide (0<=idx p l)=l.any p:=by rw[X4];simpa using this
 rw[e];exact LM ..
def Cb(n:Int):Bool:=decide (-1000000000<=n∧n<=1000000000)
theorem dC{α:Type}{d:α}{l:List α}(h:i<l.length):nth d l i∈l:=by grind[cF]
def piv(r:LiQ):Int:=idx (fun n=>n !=0) r
theorem aeQ(r:LiQ): -1<=piv r∧piv r<r.length:=by
 unfold piv idx;cases h:r.findIdx? (fun n=>n !=0)with
 |none=>simp;omega
 |some i=>have:=(List.findIdx?_eq_some_iff_getElem.1 h).1;simp;omega
def Z:Nat:=1000000000
theorem ay:2<=Z:=af
theorem bC:0<Z:=af
def i9(n:Nat):D:=.int .i64 n
def ajT(n:Nat):Nat:=(dig Z n).length
def bq:Nat->Nat->LnQ
 |0,_=>[]
 |w+1,n=>n%Z::bq w (n/Z)
theorem dw:∀w n,(bq w n).length=w
 |0,_=>rfl
 |w+1,n=>by simp[bq,dw w]
theorem uL:∀w n,aH Z (bq w n)
 |0,_=>fun x hx=>by simp[bq]at hx
 | w+1,n=>fun x hx=>by
  simp only[bq,Zx]at hx;rcases hx with rfl|hx
  .exact Yu _ bC
  .exact uL w _ x hx
theorem wG:∀w n,n<Z^w->val Z (bq w n)=n
 |0,n,h=>by simp at h;subst h;rfl
 | w+1,n,h=>by
  have hZ:Z=1000000000:=rfl;simp only[bq,val];rw[wG w (n/Z) (Wj (by rw[Nat.pow_succ,Zq]at h;exact h))];have:=Xe n Z;omega
theorem Dt:∀l:LnQ,aH Z l->l=bq l.length (val Z l)
 |[],_=>rfl
 | x::l,h=>by
  have hx:x<Z:=h x ae;have hl:=Dt l (fun y hy=>h y (by simp[hy]));have hZ:Z=1000000000:=rfl;simp only[List.length_cons,bq,val];have e1:(x+Z*val Z l)%Z=x:=by rw[W5];exact Xz hx
  have e2:(x+Z*val Z l)/Z=val Z l:=by rw[X5 _ _ bC,Wr hx,Zi]
  rw[e1,e2,<-hl]
abbrev S(s:LuQ):V:=.d (.str s)
@[simp]theorem JE(s:LuQ):nO (S s)=some (I s.length):=id rfl
@[simp] theorem ajq (s:LuQ){j:Int}(h0:0<=j)(h1:j<=s.length):slS (S s) none (some (I j))=some (S (s.take j.toNat)):=by simp only[slS,boV];rw[if_pos ⟨h0,aa⟩];simp
@[simp] theorem ajp (s:LuQ){i:Int}(h0:0<=i)(h1:i<=s.length):slS (S s) (some (I i)) none=some (S (s.drop i.toNat)):=by simp only[slS,boV];rw[if_pos ⟨h0,aa⟩];simp only;rw[Zw ae]
@[simp]theorem aiY(a b:LuQ):biS .eql (S a) (S b)=some (.d (.bool (a == b))):=id rfl
@[simp]theorem aiX(a b:LuQ):biS .neq (S a) (S b)=some (.d (.bool (!(a == b)))):=id rfl
@[simp]theorem adc(a b:LuQ)(h:a.length+b.length<=9223372036854775807):biS .add (S a) (S b)=some (S (a++b)):=by simp[biS,NR,h]
theorem YP(s:LuQ){i:Int}{x:UInt8}(h0:0<=i)(h:s[i.toNat]?=some x):ixS (S s) (.d (.int k i))=some (.d (.int .u8 x.toNat)):=by simp only[ixS];rw[if_pos h0,h]
theorem fp{a b:LuQ}{h:Hp}(e:b=a):out (S a) (S b) h:=by subst e;exact WB rfl
theorem aaH(b:Bool):CP Y F.fU [B b] (I (if b=true then 1 else 0)):=by refine vq ?_;cases b<;>simp[fU]
theorem XG{x:Nat}(h:x<=64):CP Y F.fT [I x] (I ((x*78913/262144:Nat):Int)):=by refine vp ?_;simp(disch:=try exact ac)[fT]
def bK(n:Nat):Nat:=if n=0 then 0 else n.log2+1
theorem ye{n k:Nat}(h:2^k<=n):bK n=bK (n/2^k)+k:=by
 have hp:0<2^k:=Xo af;have h0:n≠0:=aa;have h1:n/2^k≠0:=by have:=V0 h hp;omega
 simp only[bK,h0,h1,if_false]
 have e:n.log2=(n/2^k).log2+k:=by
  rw[Nat.log2_eq_iff h0];have h2:=(Nat.log2_eq_iff h1).1 rfl;constructor
  .rw[Yk];exact Zz (Zu _ h2.1) (Wc n _)
  .have:n/2^k+1<=2^((n/2^k).log2+1):=h2.2
   have h3:n<(n/2^k+1)*2^k:=by
    have:=Nat.lt_mul_div_succ n hp;rw[Zq];exact this
   have h4:=Zu (2^k) this;rw[<-Yk]at h4;rw[show(n/2^k).log2+k+1=(n/2^k).log2+1+k by omega];omega
 omega
def adU:LuQ:=[0,1,2,2,3,3,3,3,4,4,4,4,4,4,4,4,5,5,5,5,5,5,5,5,5,5,5,5,5,5,5,5,6,6,6,6,6,6,6,6,6,6,6,6,6,6,6,6,6,6,6,6,6,6,6,6,6,6,6,6,6,6,6,6]++(List.replicate 64 7++List.replicate 128 8)
theorem len8:∀x:Fin 256,adU[x.val]?=some (UInt8.ofNat (bK x.val)):=az
theorem S5{x:Nat}{a:Nat}{n:Nat}(hx:x<256)(hn:bK n=bK x+a)(ha:a<=56){h:Hp}:
  (bnd (cvI .u8 (.d (.int .u64 x))) fun v10=>bnd (ixS (S adU) v10) fun v11=>
   bnd (cvI .i64 v11) fun v12=>bnd (biI .add (I a) v12) fun v13=>out (I (bK n)) v13 h):=by
 have hb:bK x<=8:=by
  unfold bK;split
  .omega
  .rename_i h0;have:=(Nat.log2_lt h0 (k:=8)).2 aa;omega
 have h8:=len8 ⟨x,hx⟩;simp(disch:=try exact ac);rw[YP _ aa (x:=UInt8.ofNat (bK x)) (by simpa using h8)];have e:(UInt8.ofNat (bK x)).toNat=bK x:=by simp;omega
 simp(disch:=try exact ac)[e];exact ba aa
set_option maxRecDepth 20000 in
theorem E5{n:Nat}(h:n<18446744073709551616):CP Y F.eU [.d (.int .u64 n)] (I (bK n)):=by
 refine zj ?_
 obtain ⟨x1,a1,hx1,he1,ha1,h1⟩:∃x1 a1:Nat,x1<4294967296∧bK n=bK x1+a1∧a1<=32∧((4294967296<=n∧x1=n/4294967296∧a1=32)∨(n<4294967296∧x1=n∧a1=0)):=by
  by_cases hh:4294967296<=n
  .exact⟨n/4294967296,32,aa,ye (k:=32) hh,aa,.inl ⟨hh,rfl,rfl⟩⟩
  .exact⟨n,0,aa,rfl,aa,.inr ⟨aa,rfl,rfl⟩⟩
 obtain ⟨x2,a2,hx2,he2,ha2,h2⟩:∃x2 a2:Nat,x2<65536∧bK n=bK x2+a2∧a2<=48∧((65536<=x1∧x2=x1/65536∧a2=a1+16)∨(x1<65536∧x2=x1∧a2=a1)):=by
  by_cases hh:65536<=x1
  .exact⟨x1/65536,a1+16,aa,by(have:=ye (n:=x1) (k:=16) hh;simp only[Nat.reducePow]at this;omega),aa,.inl ⟨hh,rfl,rfl⟩⟩
  .exact⟨x1,a1,aa,he1,aa,.inr ⟨aa,rfl,rfl⟩⟩
 obtain ⟨x3,a3,hx3,he3,ha3,h3⟩:∃x3 a3:Nat,x3<256∧bK n=bK x3+a3∧a3<=56∧((256<=x2∧x3=x2/256∧a3=a2+8)∨(x2<256∧x3=x2∧a3=a2)):=by
  by_cases hh:256<=x2
  .exact⟨x2/256,a2+8,aa,by(have:=ye (n:=x2) (k:=8) hh;simp only[Nat.reducePow]at this;omega),aa,.inl ⟨hh,rfl,rfl⟩⟩
  .exact⟨x2,a2,aa,he2,aa,.inr ⟨aa,rfl,rfl⟩⟩
 simp[eU];have key:=S5 (h:=[]) hx3 he3 ha3;refine gM (l:=[.d (.int .u64 x1),I a1]) (h:=[]) (fun q=>?_) ?_
 .rcases h1 with⟨g,rfl,rfl⟩|⟨g,rfl,rfl⟩<;>simp(disch:=try exact ac)[g]
 simp;refine gM (l:=[.d (.int .u64 x2),I a2]) (h:=[]) (fun q=>?_) ?_
 .rcases h2 with⟨g,rfl,rfl⟩|⟨g,rfl,rfl⟩<;>simp(disch:=try exact ac)[g]
 simp;refine gM (l:=[.d (.int .u64 x3),I a3]) (h:=[]) (fun q=>?_) ?_
 .rcases h3 with⟨g,rfl,rfl⟩|⟨g,rfl,rfl⟩<;>simp(disch:=try exact ac)[g]
 exact key
theorem abQ:LI=(List.range 20).map fun i=>D.int .u64 ((10^i:Nat):Int):=by simp only[LI,List.range,List.range.loop,List.map];rfl
theorem aeO(h:i<20):LI[i]?=some (.int .u64 ((10^i:Nat):Int)):=by rw[abQ,List.getElem?_map,List.getElem?_range h];rfl
theorem afm:gl nW=.dptr LI 0:=by unfold gl;rfl
theorem aeZ:∀b:Fin 65,1<=b.val->(10^(b.val*78913/262144)<=2^b.val∧2^b.val<=10^(b.val*78913/262144+1)∧(b.val*78913/262144=0∨10^(b.val*78913/262144-1)<2^(b.val-1))∧b.val*78913/262144<20):=az
theorem qX{n:Nat}(h:0<n):2^(bK n-1)<=n∧n<2^bK n∧1<=bK n:=by have h0:n≠0:=aa;have:=(Nat.log2_eq_iff h0).1 rfl;simp only[bK,h0,if_false];exact⟨this.1,this.2,aa⟩
theorem zc{n d:Nat}(h1:10^(d-1)<=n)(h2:n<10^d)(hd:1<=d)(h:n<18446744073709551616):CP Y F.dG [.d (.int .u64 n)] (I d):=by
 have h0:0<n:=Z3 (Xo af) h1;obtain⟨b1,b2,b3⟩:=qX h0
 have hb:bK n<=64:=by
  unfold bK;split
  .omega
  .rename_i hz;have:=(Nat.log2_lt hz (k:=64)).2 (by simpa using h);omega
 obtain⟨t1,t2,t3,t4⟩:=aeZ ⟨bK n,aa⟩ b3;simp only at t1 t2 t3 t4;refine vn ?_;simp[dG];refine cd (E5 h) ?_;simp;refine cd (XG hb) ?_;generalize hk:bK n*78913/262144=k at *;have hg:gl nW=.dptr LI 0:=afm;simp(disch:=try exact ac)[hg];rw[ahA _ _ _ (aeO t4)]
 have hpk:10^(k+1)=10*10^k:=by rw[Nat.pow_succ,Zq]
 have hpd:10^d=10*10^(d-1):=by
  obtain⟨e,rfl⟩:∃e,d=e+1:=⟨d-1,aa⟩;rw[Nat.pow_succ,Zq];rfl
 have a1:10^k<=n->d=k+1:=fun hc=>by
  have a1:k<d:=(Yi (a:=10) af).1 aa;have a2:d-1<k+1:=(Yi (a:=10) af).1 aa;omega
 have a2:¬10^k<=n->d=k:=fun hc=>by
  have hk1:1<=k:=by
   rcases Zc k with e|e
   .subst e;simp at hc;omega
   .exact e
  have a1:d-1<k:=(Yi (a:=10) af).1 aa
  have a2:k-1<d:=by
   rcases t3 with e|e
   .omega
   .exact(Yi (a:=10) af).1 aa
  omega
 generalize 10^k=P at *;simp;refine cd (aaH (decide (P<=n))) ?_;by_cases hc:P<=n
 .have:=a1 hc;simp(disch:=try exact ac)[hc];exact ba aa
 .have:=a2 hc;simp(disch:=try exact ac)[hc];exact ba aa
def dg(n:Nat):UInt8:=UInt8.ofNat (48+n)
def dO:Nat->Nat->LuQ
 |_,0=>[]
 |n,w+1=>dO (n/10) w++[dg (n%10)]
theorem bf:∀(w n:Nat),(dO n w).length=w
 |0,_=>rfl
 |w+1,n=>by simp[dO,bf w]
def u8(b:UInt8):D:=.int .u8 b.toNat
def qO:LuQ:=[48,48,48,49,48,50,48,51,48,52,48,53,48,54,48,55,48,56,48,57,49,48,49,49,49,50,49,51,49,52,49,53,49,54,49,55,49,56,49,57,50,48,50,49,50,50,50,51,50,52,50,53,50,54,50,55,50,56,50,57,51,48,51,49,51,50,51,51,51,52,51,53,51,54,51,55,51,56,51,57,52,48,52,49,52,50,52,51,52,52,52,53,52,54,52,55,52,56,52,57,53,48,53,49,53,50,53,51,53,52,53,53,53,54,53,55,53,56,53,57,54,48,54,49,54,50,54,51,54,52,54,53,54,54,54,55,54,56,54,57,55,48,55,49,55,50,55,51,55,52,55,53,55,54,55,55,55,56,55,57,56,48,56,49,56,50,56,51,56,52,56,53,56,54,56,55,56,56,56,57,57,48,57,49,57,50,57,51,57,52,57,53,57,54,57,55,57,56,57,57]
theorem IN:([48,48,48,49,48,50,48,51,48,52,48,53,48,54,48,55,48,56,48,57,49,48,49,49,49,50,49,51,49,52,49,53,49,54,49,55,49,56,49,57,50,48,50,49,50,50,50,51,50,52,50,53,50,54,50,55,50,56,50,57,51,48,51,49,51,50,51,51,51,52,51,53,51,54,51,55,51,56,51,57,52,48,52,49,52,50,52,51,52,52,52,53,52,54,52,55,52,56,52,57,53,48,53,49,53,50,53,51,53,52,53,53,53,54,53,55,53,56,53,57,54,48,54,49,54,50,54,51,54,52,54,53,54,54,54,55,54,56,54,57,55,48,55,49,55,50,55,51,55,52,55,53,55,54,55,55,55,56,55,57,56,48,56,49,56,50,56,51,56,52,56,53,56,54,56,55,56,56,56,57,57,48,57,49,57,50,57,51,57,52,57,53,57,54,57,55,57,56,57,57]:LuQ)=qO:=rfl
theorem Sn:∀x:Fin 200,qO[x.val]?=some (dg (if x.val%2=0 then x.val/2/10 else x.val/2%10)):=az
def smV(i:Int):D:=u8 (dg (if i%2=0 then i.toNat/2/10 else i.toNat/2%10))
@[simp] theorem age (k:IntKind)(i:Int)(K:V->Prop)(u:PU K)(h0:0<=i)(h1:i<200):rn (bnd (ixS (.d (.str qO)) (.d (.int k i)))) K u=K (.d (smV i)):=by
 have h:=YP qO (k:=k) h0 (Sn ⟨i.toNat,aa⟩);unfold rn;rw[show V.d (.str qO)=S qO from rfl,h]
 have e:(if i.toNat%2=0 then i.toNat/2/10 else i.toNat/2%10)=(if i%2=0 then i.toNat/2/10 else i.toNat/2%10):=by
  by_cases hc:i%2=0
  .rw[if_pos hc,if_pos aa]
  .rw[if_neg hc,if_neg aa]
 simp_all[smV,u8]
theorem aeC{x:Nat}:smV (2*(x:Int))=u8 (dg (x/10)):=by grind[smV]
theorem aeB{x:Nat}:smV (2*(x:Int)+1)=u8 (dg (x%10)):=by grind[smV]
theorem FQ(n w:Nat):dO n (w+2)=dO (n/100) w++[dg (n%100/10),dg (n%100%10)]:=by
 simp only[dO,List.append_assoc,List.singleton_append];rw[Xc];have e1:n/10%10=n%100/10:=aa;have e2:n%10=n%100%10:=aa
 grind
theorem ahv{α:Type}:∀(l:List α),l.length=8->∃c0 c1 c2 c3 c4 c5 c6 c7,l=[c0,c1,c2,c3,c4,c5,c6,c7]
 |[c0,c1,c2,c3,c4,c5,c6,c7],_=>⟨c0,c1,c2,c3,c4,c5,c6,c7,rfl⟩
 |[],h|[_],h|[_,_],h|[_,_,_],h|[_,_,_,_],h|[_,_,_,_,_],h|[_,_,_,_,_,_],h|[_,_,_,_,_,_,_],h=>by simp at h
 |_::_::_::_::_::_::_::_::_::_,h=>by simp at h
@[simp]theorem ahs(s e off len cap tot:Nat):aY (.ref s e off len cap tot)=some (I len):=rfl
theorem ajs(B:LdQ)(c0 c1 c2 c3 c4 c5 c6 c7 x0 x1 x2 x3 x4 x5 x6 x7:D){i1 i2 i3 i4 i5 i6 i7:Nat}
  (h1:i1=1) (h2:i2=2) (h3:i3=3) (h4:i4=4) (h5:i5=5) (h6:i6=6) (h7:i7=7) :
  ((((((((c0::c1::c2::c3::c4::c5::c6::c7::B).set i7 x7).set i6 x6).set i5 x5).set i4 x4).set i3 x3).set i2 x2).set i1 x1).set 0 x0=x0::x1::x2::x3::x4::x5::x6::x7::B:=by simp_all
theorem ajt(B:LdQ)(c0 c1 c2 c3 x0 x1 x2 x3:D){i2 i3:Nat}(h1:i1=1)(h2:i2=2)(h3:i3=3):
  ((((c0::c1::c2::c3::B).set i3 x3).set i2 x2).set i1 x1).set 0 x0=x0::x1::x2::x3::B:=by grind
theorem set2(B:LdQ)(c0 c1 x0 x1:D)(h1:i1=1):((c0::c1::B).set i1 x1).set 0 x0=x0::x1::B:=by grind
@[simp]theorem ahe(i:Int):norm (smV i)=smV i:=rfl
theorem uk{x:Nat}{i:Int}(h:i=2*(x:Int)+1):smV i=u8 (dg (x%10)):=by rw[h,aeB]
theorem ul{x:Nat}{i:Int}(h:i=2*(x:Int)):smV i=u8 (dg (x/10)):=by rw[h,aeC]
theorem ahU(n w:Nat):dO n (w+8)=dO (n/100000000) w++[dg (n/1000000%100/10),dg (n/1000000%100%10),dg (n/10000%100/10),dg (n/10000%100%10),dg (n/100%100/10),dg (n/100%100%10),dg (n%100/10),dg (n%100%10)]:=by simp[FQ,Xc]
theorem acI(h0:Hp)(hh:h0.length=2)(k:KL)(off len cap tot:Nat)(pre post:LdQ)(hpre:pre.length=off):∀(r nd n:Nat)(mid done:LdQ),nd<=r->mid.length=nd->nd+done.length=len->len<=24->tot=off+len+post.length ->
  n<10^nd->n<18446744073709551616 ->
  (∀(n' nd':Nat)(mid' done':LdQ),nd'<8->mid'.length=nd'->nd'+done'.length=len->n'<10^nd'->(dO n' nd').map u8++done'=(dO n nd).map u8++done->k (.exit 0) [.d (.int .u64 n'),I nd'] [(1,.data 1 (pre++(mid'++(done'++post))) true false),nnQ]) ->
  lp (ef (CX Y) 2 (.ref 0 1 off len cap tot)) [] h0 [.d (.int .u64 n),I nd] [(1,.data 1 (pre++(mid++(done++post))) true false),nnQ] k:=by
 intro r
 induction r with
 | zero=> 
  intro nd n mid done hr hm hd hl ht hn h64 hk;refine ak ?_;simp(disch:=try exact ac)[ef];exact hk n nd mid done aa hm hd hn rfl
 | succ r ih=>
  intro nd n mid done hr hm hd hl ht hn h64 hk;refine ak ?_;by_cases h8:8<=nd
  ·obtain ⟨m',c0,c1,c2,c3,c4,c5,c6,c7,rfl⟩:∃(m':LdQ)(c0 c1 c2 c3 c4 c5 c6 c7:D),mid=m'++[c0,c1,c2,c3,c4,c5,c6,c7]:=by
    obtain⟨c0,c1,c2,c3,c4,c5,c6,c7,e⟩:=ahv (mid.drop (nd-8)) (by grind);exact⟨mid.take (nd-8),c0,c1,c2,c3,c4,c5,c6,c7,by rw[<-e,Xx]⟩
   have e0:pre++(m'++[c0,c1,c2,c3,c4,c5,c6,c7]++(done++post))=(pre++m')++c0::c1::c2::c3::c4::c5::c6::c7::(done++post):=ae;rw[e0];simp only[Zr,List.length_cons,List.length_nil]at hm;have hA:(pre++m').length=off+nd-8:=by simp;omega
   have e9:∀x0 x1 x2 x3 x4 x5 x6 x7:D,(pre++m')++x0::x1::x2::x3::x4::x5::x6::x7::(done++post)=pre++(m'++((x0::x1::x2::x3::x4::x5::x6::x7::done)++post)):=by intros;simp
   generalize pre++m'=A at *;unfold ef;simp only[IN];simp(disch:=try exact ac)[Zt,Zs];rw[ajs _ _ _ _ _ _ _ _ _ _ _ _ _ _ _ _ _ aa aa aa aa aa aa aa,e9]
   rw[uk (x:=n%100) (i:=(n:Int)%100*2+1) aa,ul (x:=n%100) (i:=(n:Int)%100*2) aa,uk (x:=n/100%100) (i:=(n:Int)%10000/100*2+1) aa,ul (x:=n/100%100) (i:=(n:Int)%10000/100*2) aa,uk (x:=n/10000%100) (i:=(n:Int)%100000000/10000%100*2+1) aa,ul (x:=n/10000%100) (i:=(n:Int)%100000000/10000%100*2) aa,uk (x:=n/1000000%100) (i:=(n:Int)%100000000/10000/100*2+1) aa,ul (x:=n/1000000%100) (i:=(n:Int)%100000000/10000/100*2) aa]
   obtain⟨w,rfl⟩:∃w,nd=w+8:=⟨nd-8,aa⟩;have hd8:=ahU n w;rw[show((w+8:Nat):Int)-8=(w:Nat) by omega,show(n:Int)/100000000=((n/100000000:Nat):Int) by omega]
   refine ih w (n/100000000) m' (u8 (dg (n/1000000%100/10))::u8 (dg (n/1000000%100%10))::u8 (dg (n/10000%100/10))::u8 (dg (n/10000%100%10))::u8 (dg (n/100%100/10))::u8 (dg (n/100%100%10))::u8 (dg (n%100/10))::u8 (dg (n%100%10))::done) aa aa aF hl ht ?_ aa ?_
   .grind
   .intro n' nd' mid' done' g1 g2 g3 g4 g5;refine hk n' nd' mid' done' g1 g2 g3 g4 ?_;rw[g5,hd8];simp
  .simp(disch:=try exact ac)[ef];exact hk n nd mid done aa hm hd hn rfl
theorem Pp{x:Nat}(h:x<10):u8 (dg x)=.int .u8 (48+x):=by unfold u8 dg;congr 1;simp;omega
theorem ahw{α:Type}:∀(l:List α),l.length=4->∃c0 c1 c2 c3,l=[c0,c1,c2,c3]
 |[c0,c1,c2,c3],_=>⟨c0,c1,c2,c3,rfl⟩
 |[],h|[_],h|[_,_],h|[_,_,_],h=>by simp at h
 |_::_::_::_::_::_,h=>by grind
theorem ahx{α:Type}:∀(l:List α),l.length=2->∃c0 c1,l=[c0,c1]
 |[c0,c1],_=>⟨c0,c1,rfl⟩
 |[],h|[_],h=>by simp at h
 |_::_::_::_,h=>by grind
theorem acJ(n nd:Nat)(mid B:LdQ)(h8:nd<8)(hm:mid.length=nd)(hn:n<10^nd):∃(n1 nd1:Nat)(mid1 B1:LdQ),nd1<4∧mid1.length=nd1∧n1<10^nd1∧nd1+B1.length=nd+B.length∧(dO n1 nd1).map u8++B1=(dO n nd).map u8++B ∧
  ((4<=nd∧n1=n/10000∧nd1=nd-4∧(∃c0 c1 c2 c3,mid=mid1++[c0,c1,c2,c3])∧B1=u8 (dg (n/100%100/10))::u8 (dg (n/100%100%10))::u8 (dg (n%100/10))::u8 (dg (n%100%10))::B)∨(¬4<=nd∧n1=n∧nd1=nd∧mid1=mid∧B1=B)):=by
 by_cases h4:4<=nd
 .obtain⟨w,rfl⟩:∃w,nd=w+4:=⟨nd-4,aa⟩;obtain⟨c0,c1,c2,c3,e⟩:=ahw (mid.drop w) (by grind);refine⟨n/10000,w,mid.take w,_,aa,by grind,?_,?_,?_,.inl ⟨h4,rfl,aa,⟨c0,c1,c2,c3,by rw[<-e,Xx]⟩,rfl⟩⟩
  .grind
  .grind
  simp[FQ,Xc]
 .exact⟨n,nd,mid,B,aa,hm,hn,rfl,rfl,.inr ⟨h4,rfl,rfl,rfl,rfl⟩⟩
theorem afw(n nd:Nat)(mid B:LdQ)(h8:nd<4)(hm:mid.length=nd)(hn:n<10^nd):∃(n1 nd1:Nat)(mid1 B1:LdQ),nd1<2∧mid1.length=nd1∧n1<10^nd1∧nd1+B1.length=nd+B.length∧(dO n1 nd1).map u8++B1=(dO n nd).map u8++B ∧
  ((2<=nd∧n1=n/100∧nd1=nd-2∧(∃c0 c1,mid=mid1++[c0,c1])∧B1=u8 (dg (n%100/10))::u8 (dg (n%100%10))::B)∨(¬2<=nd∧n1=n∧nd1=nd∧mid1=mid∧B1=B)):=by
 by_cases h4:2<=nd
 .obtain⟨w,rfl⟩:∃w,nd=w+2:=⟨nd-2,aa⟩;obtain⟨c0,c1,e⟩:=ahx (mid.drop w) (by grind);refine⟨n/100,w,mid.take w,_,aa,by grind,?_,?_,?_,.inl ⟨h4,rfl,aa,⟨c0,c1,by rw[<-e,Xx]⟩,rfl⟩⟩
  .grind
  .grind
  simp[FQ]
 .exact⟨n,nd,mid,B,aa,hm,hn,rfl,rfl,.inr ⟨h4,rfl,rfl,rfl,rfl⟩⟩
def fbH(pre mid B:LdQ):Hp:=[(1,.data 1 (pre++(mid++B)) true false),nnQ]
theorem adX{off tot n d:Nat}{pre mid post:LdQ}(hpre:pre.length=off)(hm:mid.length=d)(hd:d<=24)(ht:tot=off+d+post.length)(hn:n<10^d)(h64:n<18446744073709551616):
  CI Y F.bN [.ref 0 1 off d cap tot,.d (.int .u64 n)] [(1,.data 1 (pre++(mid++post)) true false),nnQ] (.tup []) [(1,.data 1 (pre++((dO n d).map u8++post)) true false),nnQ]:=by
 refine sX ?_;unfold bN;simp only[IN];simp;refine lo (acI _ rfl _ off d cap tot pre post hpre d d n mid [] aa hm ae hd ht hn h64 (fun n' nd mid' done g1 g2 g3 g4 g5=>?_));have hp8:10^nd<=10^7:=Z4 af aa;simp only[Nat.reducePow]at hp8;simp(disch:=try exact ac)
 obtain⟨n1,d1,mid1,B1,f1,f2,f3,f4,f5,f6⟩:=acJ n' nd mid' (done++post) g1 g2 g4;refine gM (l:=[.d (.int .u32 n1),I d1]) (h:=fbH pre mid1 B1) (fun q=>?_) ?_
 .rcases f6 with⟨c,rfl,rfl,⟨c0,c1,c2,c3,rfl⟩,rfl⟩|⟨c,rfl,rfl,rfl,rfl⟩
  .have e0:pre++(mid1++[c0,c1,c2,c3]++(done++post))=(pre++mid1)++c0::c1::c2::c3::(done++post):=ae;rw[e0];simp only[Zr,List.length_cons,List.length_nil]at g2;have hA:(pre++mid1).length=off+nd-4:=by simp;omega
   have e9:∀x0 x1 x2 x3:D,(pre++mid1)++x0::x1::x2::x3::(done++post)=pre++(mid1++(x0::x1::x2::x3::(done++post))):=by intros;simp
   generalize pre++mid1=A at *;simp(disch:=try exact ac)[c,Zt,Zs];rw[ajt _ _ _ _ _ _ _ _ _ aa aa aa,e9]
   rw[uk (x:=n'%100) (i:=(n':Int)%100*2+1) aa,ul (x:=n'%100) (i:=(n':Int)%100*2) aa,uk (x:=n'/100%100) (i:=(n':Int)%10000/100*2+1) aa,ul (x:=n'/100%100) (i:=(n':Int)%10000/100*2) aa];simp[fbH,I,show((nd-4:Nat):Int)=(nd:Int)-4 by omega]
  .simp(disch:=try exact ac)[c,fbH]
 have hp4:10^d1<=10^3:=Z4 af aa;simp only[Nat.reducePow]at hp4;simp;obtain⟨n2,d2,mid2,B2,e1,e2,e3,e4,e5,e6⟩:=afw n1 d1 mid1 B1 f1 f2 f3;refine gM (l:=[.d (.int .u32 n2),I d2]) (h:=fbH pre mid2 B2) (fun q=>?_) ?_
 .rcases e6 with⟨c,rfl,rfl,⟨c0,c1,rfl⟩,rfl⟩|⟨c,rfl,rfl,rfl,rfl⟩
  .have e0:pre++(mid2++[c0,c1]++B1)=(pre++mid2)++c0::c1::B1:=ae;rw[fbH,e0];simp only[Zr,List.length_cons,List.length_nil]at f2;have hA:(pre++mid2).length=off+d1-2:=by simp;omega
   have hB:tot=off+d1+B1.length:=by simp at f4;omega
   have e9:∀x0 x1:D,(pre++mid2)++x0::x1::B1=pre++(mid2++(x0::x1::B1)):=by intros;simp
   generalize pre++mid2=A at *;simp(disch:=try exact ac)[c,Zt,Zs];rw[set2 _ _ _ _ _ aa,e9];rw[uk (x:=n1%100) (i:=(n1:Int)%100*2+1) aa,ul (x:=n1%100) (i:=(n1:Int)%100*2) aa];simp[fbH,I,show((d1-2:Nat):Int)=(d1:Int)-2 by omega]
  .simp(disch:=try exact ac)[c,fbH]
 simp
 have hend:fbH pre ((dO n2 d2).map u8) B2=[(1,.data 1 (pre++((dO n d).map u8++post)) true false),nnQ]:=by
  simp only[fbH];rw[e5,f5,<-List.append_assoc ((dO n' nd).map u8),g5];simp
 refine gM (l:=[]) (h:=fbH pre ((dO n2 d2).map u8) B2) (fun q=>?_) ?_
 .match d2,e1,mid2,e2 with
  |0,_,[],_=>simp[fbH,dO]
  | 1,_,[c0],_=>
   have hn2:n2<10:=by simpa using e3
   have hB:tot=off+1+B2.length:=by simp at f4;omega
   simp(disch:=try exact ac)[fbH,dO];rw[Xz hn2,Pp hn2]
 rw[hend];simp[nN];exact⟨by trivial,.inl (by trivial)⟩
@[simp]theorem ajL(s n:Nat)(cs:LdQ)(h:Hp)(k:kkQ)(u:PU k):rh (alD s n cs h) k u=rn (bnh h[s]?) (fun x=>k (.ptr s (x.1+1) 0 cs.length) (h.set s (x.1+1,.data n cs true false))) .mk:=by unfold rh rn alD;exact Dg ..
def ndg(n:Nat):Nat:=if n<10 then 1 else ndg (n/10)+1
theorem lI(n:Nat):1<=ndg n:=by unfold ndg;split<;>omega
theorem cL:∀n:Nat,n<10^ndg n:=by
 intro n
 induction n using Nat.strongRecOn with
 | _ n ih=>
  unfold ndg;split
  .simpa using ‹n<10›
  .have:=ih (n/10) aa;rw[Nat.pow_succ];omega
theorem Bc:∀n:Nat,0<n->10^(ndg n-1)<=n:=by
 intro n
 induction n using Nat.strongRecOn with
 | _ n ih=>
  intro h0;unfold ndg;split
  .simp;omega
  .have h1:=ih (n/10) aa aa;have h2:=lI (n/10);rw[show ndg (n/10)+1-1=(ndg (n/10)-1)+1 by omega,Nat.pow_succ];omega
theorem cQ{n d:Nat}(h:n<10^d)(hd:1<=d):ndg n<=d:=by
 rcases Zc n with e|e
 .subst e;unfold ndg;rw[if_pos aa];exact hd
 .have h1:=Bc n e;have:ndg n-1<d:=(Yi (a:=10) af).1 aa;omega
def ah(n:Nat):LuQ:=dO n (ndg n)
def itoa(z:Int):LuQ:=if z<0 then 45::ah z.natAbs else ah z.natAbs
def ZZ:LuQ:=[48,49,50,51,52,53,54,55,56,57,97,98,99,100,101,102,103,104,105,106,107,108,109,110,111,112,113,114,115,116,117,118,119,120,121,122]
theorem ahR:([48,49,50,51,52,53,54,55,56,57,97,98,99,100,101,102,103,104,105,106,107,108,109,110,111,112,113,114,115,116,117,118,119,120,121,122]:LuQ)=ZZ:=rfl
theorem UJ:∀x:Fin 10,(ZZ.drop x.val).take 1=ah x.val:=az
theorem UK:∀x:Fin 100,10<=x.val->(qO.drop (2*x.val)).take 2=ah x.val:=by intro x hx;have h1:=(show ∀x:Fin 100,(qO.drop (2*x.val)).take 2=dO x.val 2 by decide+kernel) x;rw[h1,ah];congr 1;unfold ndg;rw[if_neg aa];unfold ndg;rw[if_pos aa]
theorem NW{s:LuQ}{l:IntKind}{i j:Int}(a b:Nat)(hi:i=a)(hj:j=b)(h1:a<=b)(h2:b<=s.length):slS (.d (.str s)) (some (.d (.int k i))) (some (.d (.int l j)))=some (.d (.str ((s.drop a).take (b-a)))):=by subst hi hj;simp only[slS,boV];rw[if_pos aa];simp only[];rw[if_pos aa];simp
theorem K3{n:Nat}(h:n<100):CP Y F.iE [I n] (S (ah n)):=by
 refine zD ?_;unfold iE;simp only[IN,ahR];by_cases c:n<10
 .simp(disch:=try exact ac)[c];rw[NW n (n+1) aa aa aa (by rw[show ZZ.length=36 from rfl];omega)];have:=UJ ⟨n,c⟩;simp only[]at this;simp[this];exact fp rfl
 .simp(disch:=try exact ac)[c];rw[NW (2*n) (2*n+2) aa aa aa (by rw[show qO.length=200 from rfl];omega)];have:=UK ⟨n,h⟩ (by simpa using c);simp only[]at this;simp[this];exact fp rfl
theorem BN:∀l:LuQ,bytesD (l.map u8)=some l
 |[]=>rfl
 | b::l=>by
  have hb:=b.toNat_lt;simp only[Zv,u8,bytesD];rw[if_pos aa];have:=BN l;rw[this];simp
abbrev cH(cells:LdQ):Hp:=[(1,.data 1 cells true false),nnQ]
theorem UO(hc:cells.length=24){l:IntKind}{i j:Int}(a b:Nat)(hi:i=a)(hj:j=b)(h1:a<=b)(h2:b<=24):
  slP 24 1 (cH cells) (.ptr 0 1 0 24) (some (.d (.int k i))) (some (.d (.int l j)))=some (.ref 0 1 a (b-a) (24-a) 24):=by simp only[slP,cH,ax];simp[wN hj h2,wN hi h1,hc]
theorem IR(hc:cells.length=24){l:IntKind}{j:Int}(b:Nat)(hj:j=b)(h2:b<=24):
  slP 24 1 (cH cells) (.ptr 0 1 0 24) none (some (.d (.int l j)))=some (.ref 0 1 0 b 24 24):=by simp only[slP,cH,ax];simp[wN hj h2,FY,hc]
theorem OU(hc:cells.length=24){len:Nat}{bs:LuQ}(hl:i+len<=24)(he:(cells.drop i).take len=bs.map u8)(hb:bs.length=len):cvT (cH cells) (.ref 0 1 i len cap 24)=some (S bs):=by simp only[cvT,cellsOf,cH,ax];simp[hc,hl,he,hb,BN]
theorem To(h1 : -9223372036854775808<z)(h2:z<9223372036854775808):CP Y F.dI [I z,I 10] (S (itoa z)):=by
 refine vr ?_;have hd1:=lI z.natAbs;have hd2:ndg z.natAbs<=19:=cQ aa aa;have hn:=cL z.natAbs;by_cases hs:0<=z∧z<100
 .obtain⟨hs1,hs2⟩:=hs;obtain⟨n,rfl⟩:∃n:Nat,z=n:=⟨z.toNat,aa⟩;simp[dI,hs1,hs2];refine cd (K3 (n:=n) aa) ?_;rw[show itoa (n:Int)=ah n by unfold itoa;rw[if_neg aa];rfl];exact fp rfl
 .have hcs:(0<=z∧¬z<100)∨¬0<=z:=aa;have hw:z<0->IntKind.wrap .u64 z=z+18446744073709551616:=fun h=>by rw[G1];omega
  have hw2:z<0->IntKind.wrap .u64 (-(z+18446744073709551616)) = -z:=fun h=>by rw[G1];omega
  have hn64:z.natAbs<18446744073709551616:=aa;have hn0:0<z.natAbs:=aa;have hab:(z.natAbs:Int)=if z<0 then -z else z:=by split<;>omega
  have hit:itoa z=if z<0 then 45::dO z.natAbs (ndg z.natAbs)else dO z.natAbs (ndg z.natAbs):=rfl
  have hlo:=Bc z.natAbs hn0;generalize ndg z.natAbs=d at *;generalize z.natAbs=n at *
  obtain ⟨mid,post,hm,hp,hcell⟩:∃mid post:LdQ,mid.length=d∧post.length=23-d∧List.replicate 24 (D.int .u8 0)=[D.int .u8 0]++(mid++post):=by
   refine⟨List.replicate d (.int .u8 0),List.replicate (23-d) (.int .u8 0),ae,ae,?_⟩;rw[List.replicate_append_replicate,show d+(23-d)=23 by omega];rfl
  have hmain:cal (CX Y).p (cH ([D.int .u8 0]++(mid++post))) (.fn F.dG [] []) [.d (.int .u64 n)] fun v12 h=>
    bnd (biI .add (.d (.int .i64 1)) v12) fun v13=>
    bnd (slP 24 1 h (.ptr 0 1 0 24) (some (.d (.int .i64 1))) (some v13)) fun v14=>
    cai (CX Y).i h (.fn F.bN [] []) [v14,.d (.int .u64 n)] 1 fun v15 h=>
    bnd (biI .lss (I z) (.d (.int .i64 0))) fun v16=>
    cnd v16 (
     bnd (ixP 24 1 (.ptr 0 1 0 24) (.d (.int .i64 0))) fun v17=>
     stD h 1 v17 (.d (.int .u8 45)) fun _ h=>
     bnd (biI .add (.d (.int .i64 1)) v12) fun v19=>
     bnd (slP 24 1 h (.ptr 0 1 0 24) none (some v19)) fun v20=>
     bnd (cvT h v20) fun v21=>
     out (S (itoa z)) v21 h) (
     bnd (biI .add (.d (.int .i64 1)) v12) fun v22=>
     bnd (slP 24 1 h (.ptr 0 1 0 24) (some (.d (.int .i64 1))) (some v22)) fun v23=>
     bnd (cvT h v23) fun v24=>
     out (S (itoa z)) v24 h):=by
   refine cd (u:=.mk) (zc hlo hn hd1 hn64) ?_;simp(disch:=try exact ac);rw[UO aF 1 (d+1) aa aa aa aa];simp;refine gL (h':=cH ([D.int .u8 0]++((dO n d).map u8++post))) (adX (pre:=[D.int .u8 0]) rfl hm aa aa hn hn64) ?_ ae;by_cases g:z<0
   .rw[if_pos g]at hit;simp[g,bf,hp];rw[Sk _ _ _ _ _ _ _ _ _ (by simp[bf];omega) ae];simp(disch:=try exact ac)[bL];rw[IR (by simp[bf];omega) (d+1) aa aa];simp;rw[OU (bs:=45::dO n d) (by simp[bf];omega) aa (by simp[u8,bf,List.take_append,Zw]) (by simp[bf])]
    rw[hit];simp;exact fp rfl
   .rw[if_neg g]at hit;simp(disch:=try exact ac)[g];rw[UO (by simp[bf];omega) 1 (d+1) aa aa aa aa];simp;rw[OU (bs:=dO n d) (by simp[bf];omega) aa (by simp[bf,List.take_append,Zw]) (by simp[bf])];rw[hit];simp;exact fp rfl
  rcases hcs with⟨g1,g2⟩|g1
  .have g3:¬z<0:=aa;rw[if_neg g3]at hab;simp[dI,g1,g2];refine gM (l:=[.d (.int .u64 n)]) (h:=cH ([D.int .u8 0]++(mid++post))) (fun q=>?_) hmain;rw[<-hcell];simp(disch:=try exact ac)[g3,hab]
  .have g3:z<0:=aa;rw[if_pos g3]at hab;simp[dI,g1];refine gM (l:=[.d (.int .u64 n)]) (h:=cH ([D.int .u8 0]++(mid++post))) (fun q=>?_) hmain;rw[<-hcell];simp[g3,hab,hw g3,hw2 g3]
theorem afe(h1 : -9223372036854775808<z)(h2:z<9223372036854775808):CP Y F.kM [I z] (S (itoa z)):=by refine Bs ?_;simp[kM];refine cd (To h1 h2) ?_;exact fp rfl
theorem Do(h1 : -9223372036854775808<z)(h2:z<9223372036854775808):CP Y F.strconv_Itoa [I z] (S (itoa z)):=by refine D9 ?_;simp[strconv_Itoa];refine cd (afe h1 h2) ?_;exact fp rfl
def pS(b:UInt8):Bool:=decide (48<=b.toNat)&&decide (b.toNat<=57)
theorem lY{b:UInt8}:pS b=true↔48<=b.toNat∧b.toNat<=57:=by simp[pS]
def fE(a:Nat)(s:LuQ):Nat:=s.foldl (fun a b=>a*10+(b.toNat-48)) a
@[simp]theorem H8(a:Nat):fE a []=a:=by unfold fE;rw[List.foldl_nil]
@[simp]theorem j8(a:Nat)(b:UInt8)(s:LuQ):fE a (b::s)=fE (a*10+(b.toNat-48)) s:=by unfold fE;rw[List.foldl_cons]
theorem JW(x:Nat):(dg x).toNat=(48+x)%256:=by simp[dg]
theorem ahS{b:UInt8}(h:pS b=true):dg (b.toNat-48)=b:=by rw[lY]at h;apply UInt8.toNat.inj;rw[JW];omega
theorem Ik:∀(s:LuQ)(a w:Nat),s.all pS=true->dO (fE a s) (w+s.length)=dO a w++s
 |[],a,w,_=>by simp
 | b::s,a,w,h=>by
  simp only[List.all_cons,Z7]at h;have:=Ik s (a*10+(b.toNat-48)) (w+1) h.2;have hb:=lY.1 h.1;rw[j8,List.length_cons,show w+(s.length+1)=w+1+s.length by omega,this];simp only[dO];rw[show(a*10+(b.toNat-48))/10=a by omega,show(a*10+(b.toNat-48))%10=b.toNat-48 by omega,ahS h.1];simp
theorem Fj:∀(s:LuQ)(a:Nat),a*10^s.length<=fE a s
 |[],a=>by simp
 | b::s,a=>by
  have:=Fj s (a*10+(b.toNat-48));rw[j8,List.length_cons,Nat.pow_succ];refine Zz ?_ this;rw[Zq (10^s.length),<-Nat.mul_assoc];exact Zu _ aa
theorem tT:∀(s:LuQ)(a:Nat),s.all pS=true->fE a s<(a+1)*10^s.length
 |[],a,_=>by simp
 | b::s,a,h=>by
  simp only[List.all_cons,Z7]at h;have:=tT s (a*10+(b.toNat-48)) h.2;have hb:=lY.1 h.1;rw[j8,List.length_cons,Nat.pow_succ];refine Z3 this ?_;rw[Zq (10^s.length),<-Nat.mul_assoc];exact Zu _ aa
theorem WU{n d:Nat}(h1:10^d<=n)(h2:n<10^(d+1)):ndg n=d+1:=by have:=cQ h2 aa;have h3:=cL n;have:d<ndg n:=(Yi (a:=10) af).1 aa;omega
def qq(s:LuQ):Bool:=!s.isEmpty&&s.all pS && !(decide (1<s.length)&&decide (s.headD 0=48))
theorem Fb{s:LuQ}(h:qq s=true):ah (fE 0 s)=s:=by
 simp only[qq,Z7,Y0,W7,decide_eq_false_iff_not]at h;obtain⟨⟨h0,h1⟩,h2⟩:=h;cases s with
 |nil=>simp at h0
 | cons b s=>
  have hd:=Ik (b::s) 0 0 h1;simp only[List.all_cons,Z7]at h1;have hb:=lY.1 h1.1;simp only[Zi,dO,List.nil_append]at hd
  have hn:ndg (fE 0 (b::s))=(b::s).length:=by
   have lo:=Fj s (b.toNat-48);have hi:=tT s (b.toNat-48) h1.2;simp only[j8,Wh,Zi,List.length_cons]at *;by_cases hs:s=[]
   .subst hs;simp only[H8,List.length_nil,Zi];unfold ndg;rw[if_pos aa]
   .have hl:0<s.length:=Xd.2 hs
    have hb0:b.toNat≠48:=by
     rcases h2 with h2|h2
     .omega
     .intro e;apply h2;simp only[List.headD_cons];apply UInt8.toNat.inj;rw[e];rfl
    refine WU ?_ ?_
    .refine Zz ?_ lo;have:=Zu (10^s.length) (show 1<=b.toNat-48 by omega);omega
    .refine Z3 hi ?_;rw[Nat.pow_succ,Zq];exact Z0 _ aa
  unfold ah;rw[hn];exact hd
theorem acx{x:Nat}(h:x<10):pS (dg x)=true:=by rw[lY,JW];omega
theorem afC{x:Nat}(h:x<10):(dg x).toNat=48+x:=by rw[JW];omega
theorem wJ:∀(w n:Nat),(dO n w).all pS=true
 |0,_=>rfl
 | w+1,n=>by
  simp only[dO,Yw,wJ w,List.all_cons,List.all_nil,Ya,Yb];exact acx aa
theorem uJ:∀(s t:LuQ)(a:Nat),fE a (s++t)=fE (fE a s) t
 |[],t,a=>rfl
 |b::s,t,a=>by rw[List.cons_append,j8,j8,uJ s t]
theorem xa:∀(w n:Nat),n<10^w->fE 0 (dO n w)=n
 |0,n,h=>by simp at h;subst h;rfl
 | w+1,n,h=>by
  have:=xa w (n/10) (by rw[Nat.pow_succ]at h;omega);simp only[dO,uJ,this,j8,H8];rw[afC aa];omega
theorem se(n:Nat):qq (ah n)=true:=by
 have hl:(ah n).length=ndg n:=bf ..;have hp:=lI n;have ha:(ah n).all pS=true:=wJ ..;have hh:fE 0 (ah n)=n:=xa _ _ (cL n);cases he:ah n with
 |nil=>rw[he]at hl;simp at hl;omega
 | cons b s=>
  rw[he]at hl ha hh;simp only[qq,List.isEmpty_cons,Bool.not_false,Yb,ha,List.headD_cons,Y0,W7,decide_eq_false_iff_not];by_cases h1:1<(b::s).length
  .right;refine decide_eq_false fun e=>?_
   subst e;simp only[List.all_cons,Z7]at ha;have hi:=tT s 0 ha.2;simp only[j8,List.length_cons]at *;have e48:(48:UInt8).toNat=48:=rfl;rw[e48]at hh;simp only[Za,Wh,Zi,Xn]at *;rw[hh]at hi
   have lo:=Bc n (by
    rcases Zc n with e|e
    .have e1:ndg 0=1:=by unfold ndg;rfl
     rw[e,e1]at hl;omega
    .exact e)
   rw[<-hl]at lo;simp at lo;omega
  .left;simpa using h1
theorem dY(n:Nat):fE 0 (ah n)=n:=xa _ _ (cL n)
def rdS(s:LuQ):Option Int:=if s.headD 0=45 then(if qq s.tail=true∧s.tail≠[48]then some (-(fE 0 s.tail:Int))else none)else if qq s=true then some (fE 0 s:Int)else none
theorem wD(n:Nat):ah n≠[]:=by intro e;have:(ah n).length=ndg n:=bf ..;have:=lI n;rw[e]at *;simp at *;omega
theorem r8(n:Nat):(ah n).headD 0≠45:=by
 have ha:(ah n).all pS=true:=wJ ..;cases he:ah n with
 |nil=>exact absurd he (wD n)
 | cons b s=>
  rw[he]at ha;simp only[List.all_cons,Z7,lY]at ha;simp only[List.headD_cons];intro e;subst e;have:(45:UInt8).toNat=45:=rfl;omega
theorem Lv(z:Int):rdS (itoa z)=some z:=by
 unfold rdS itoa;by_cases hz:z<0
 .rw[if_pos hz,List.headD_cons,if_pos rfl,List.tail_cons,se,dY,if_pos]
  .congr 1;omega
  .refine⟨rfl,fun e=>?_⟩;have:=dY z.natAbs;rw[e]at this;have e2:fE 0 [48]=0:=rfl;omega
 .rw[if_neg hz,if_neg (r8 _),if_pos (se _),dY];congr 1;omega
theorem VF{s:LuQ}(h:rdS s=some z):s=itoa z:=by
 unfold rdS at h;split at h
 .rename_i hd;split at h
  .rename_i hc;simp only[Z9]at h;subst h;cases s with
   |nil=>simp at hd
   | cons b s=>
    simp only[List.headD_cons]at hd;subst hd;simp only[List.tail_cons]at *;have he:=Fb hc.1
    have h0:fE 0 s≠0:=by
     intro e;rw[e]at he;apply hc.2;rw[<-he];unfold ah ndg;rfl
    unfold itoa;rw[if_pos aa,Xw,Int.natAbs_natCast,he]
  .cases h
 .split at h
  .rename_i hc;simp only[Z9]at h;subst h;unfold itoa;rw[if_neg aa,Int.natAbs_natCast,Fb hc]
  .cases h
theorem z8:∀(v w n:Nat),dO n (w+v)=dO (n/10^v) w++dO n v
 |0,w,n=>by simp[dO]
 | v+1,w,n=>by
  rw[show w+(v+1)=(w+v)+1 by omega];simp only[dO];rw[z8 v w (n/10),Xc,Nat.pow_succ,Zq 10,List.append_assoc]
theorem zZ:∀(w n m:Nat),dO (n+10^w*m) w=dO n w
 |0,_,_=>rfl
 | w+1,n,m=>by
  simp only[dO];have e:n+10^(w+1)*m=n+10*(10^w*m):=by rw[Nat.pow_succ,Zq (10^w) 10,Nat.mul_assoc]
  rw[e,X5 _ _ af,W5,zZ w]
theorem Ta{t k:Nat}(ht:0<t)(hr:r<10^k):ah (r+10^k*t)=ah t++dO r k:=by
 have h1:=Bc t ht;have h2:=cL t;have h3:=lI t;obtain⟨d,hd⟩:∃d,ndg t=d+1:=⟨ndg t-1,aa⟩
 have hn:ndg (r+10^k*t)=ndg t+k:=by
  rw[hd]at h1 h2 ⊢;simp only[Nat.add_sub_cancel]at h1;rw[show d+1+k=(d+k)+1 by omega];refine WU ?_ ?_
  .rw[Yk,Zq];have:=Z0 (10^k) h1;omega
  .rw[show d+k+1=k+(d+1) by omega,Yk];have:=Z0 (10^k) h2;rw[Nat.mul_succ]at this;omega
 have e:=z8 k (ndg t) (r+10^k*t);rw[<-hn,X5 _ _ (Nat.pos_of_ne_zero (by have:=Xo (a:=10) (n:=k) af;omega)),Wr hr,Zi,zZ]at e;exact e
theorem BP:∀a:Fin 10,biI .and (.d (.int .u64 a.val)) (.d (.int .u64 4294967295))=some (.d (.int .u64 a.val)):=by
 intro a
 match a with
 |0|1|2|3|4|5|6|7|8|9=>rfl
@[simp]theorem akC{n:Nat}(h:n<10):biI .and (.d (.int .u64 (n:Int))) (.d (.int .u64 4294967295))=some (.d (.int .u64 n)):=BP ⟨n,h⟩
@[simp]theorem akl:biI .and (.d (.int .u64 1)) (.d (.int .u64 4294967295))=some (.d (.int .u64 1)):=BP 1
@[simp]theorem akm:biI .and (.d (.int .u64 0)) (.d (.int .u64 4294967295))=some (.d (.int .u64 0)):=BP 0
def BJ:Nat->Nat->LnQ
 |_,0=>[]
 |n,w+1=>BJ (n/10) w++[n%10]
theorem FP:∀(w n:Nat),(BJ n w).length=w
 |0,_=>rfl
 |w+1,n=>by simp[BJ,FP w]
theorem Dx:∀(w n:Nat),∀x∈BJ n w,x<10
 |0,_=>by simp[BJ]
 | w+1,n=>by
  intro x hx;simp only[BJ,W0,List.mem_singleton]at hx;rcases hx with hx|hx
  .exact Dx w _ x hx
  .omega
theorem JY:∀(w n:Nat),dO n w=(BJ n w).map dg
 |0,_=>rfl
 |w+1,n=>by simp[dO,BJ,JY w]
def acz(a:Nat)(l:LnQ):Nat:=l.foldl (fun a d=>a*10+d) a
theorem Fi:∀(w n:Nat),n<10^w->acz 0 (BJ n w)=n
 |0,n,h=>by simp at h;subst h;rfl
 | w+1,n,h=>by
  have:=Fi w (n/10) (by rw[Nat.pow_succ]at h;omega);unfold acz at this;simp only[acz,BJ,List.foldl_append,this,List.foldl_cons,List.foldl_nil];omega
def f8(x:Nat):D:=.int .u8 (48+x)
theorem aae(n w:Nat):(dO n w).map u8=(BJ n w).map f8:=by rw[JY,V5];apply List.map_congr_left;intro x hx;exact Pp (Dx w n x hx)
theorem Ke(k:KL)(h0:Hp)(hh:h0.length=0):∀(r a:LnQ)(s:Nat),(a++r).length<=18->(∀x∈r,x<10)->s<10^a.length ->
  (k (.exit 0) [I (acz s r)] []) ->
  lp (mJ (CX Y) (lst f8 (a++r)) (I (a++r).length)) [] h0 [I s,I a.length] [] k
 | []=>by
  intro a s hN hx hs hk;refine ak ?_;simp[mJ];exact hk
 | x::r=>by
  intro a s hN hx hs hk;simp at hN hx;have hs18:s<10^17:=Z3 hs (Z4 af aa);simp only[Nat.reducePow]at hs18;have hx1:=hx.1;refine ak ?_;simp(disch:=try exact ac)[mJ,f8];have:=Ke k h0 hh r (a++[x]) (s*10+x) aF hx.2 (by simp[Nat.pow_succ];omega) hk;simp at this
  rw[show(48+(x:Int)-48)=x by omega];exact this
theorem adr{n w:Nat}(h1:1<=w)(h2:w<=18)(hn:n<10^w):CP Y F.gZ [S (dO n w)] (.tup [I n,.d (.pl .nilIface)]):=by
 refine tS ?_;have hl:=FP w n;have hlt:=Dx w n;have hh:=Fi w n hn;have he:=aae n w;have hD:=JY w n;generalize dO n w=L at *;generalize BJ n w=l at *;cases l with
 |nil=>simp at hl;omega
 | cons x l=>
  have hx:=hlt x ae
  have hi:ixS (S L) (.d (.int .i64 0))=some (.d (.int .u8 (48+x))):=by
   rw[hD];simp[ixS];have e:=Pp hx;unfold u8 at e;injection e
  have hlen:L.length=w:=by rw[hD];simpa using hl
  have hlw:nO (S L)=some (I w):=by rw[JE,hlen]
  simp(disch:=try exact ac)[gZ,hlw,hi]
  have hcv:∀(k:kkQ),cvB (S L) [] k=k (lst f8 (x::l)) []:=by
   intro k
   have:V.d (.sl L.length (L.map fun b=>.int .u8 b.toNat))=lst f8 (x::l):=by
    unfold lst;rw[hlen,hl,<-he];rfl
   simp only[cvB,this]
  refine gM (l:=[S L]) (h:=[]) (fun q=>?_) ?_
  .simp[show ¬(48+(x:Int)=43) by omega]
  show cvB (S L) [] _
  rw[hcv];simp;refine lo (Ke _ _ rfl (x::l) [] 0 (by simp at hl;simp;omega) hlt ae ?_);simp[hi,hh];refine gM (l:=[I n]) (h:=[]) (fun q=>?_) ?_
  .simp[hh,show ¬(48+(x:Int)=45) by omega]
  exact⟨[],by simp[aD,ai,norm]⟩
theorem Jk:biF .neq (.d (.pl .nilIface)) (.d (.pl .nilIface))=some (.d (.bool false)):=rfl
theorem Kd{n w:Nat}(h1:1<=w)(h2:w<=18)(hn:n<10^w):CP Y F.strconv_Atoi [S (dO n w)] (.tup [I n,.d (.pl .nilIface)]):=by refine vQ ?_;simp[strconv_Atoi];refine cd (adr h1 h2 hn) ?_;simp[Jk];exact⟨[],by simp[aD,ai,norm]⟩
theorem Ey(z:D):∀n,gW n [z]=List.replicate n z
 |0=>rfl
 |n+1=>by simp[gW,Ey z n,List.replicate_succ]
@[simp] theorem ajJ (s by_:Nat)(z:D)(h:Hp)(i:Int)(k:kkQ)(u:PU k)(h0:0<=i)(hb:by_*i<=281474976710656)(h1:i<=9223372036854775807):
  rh (mkS s by_ [z] h (.d (.int .i64 i)) (.d (.int .i64 i))) k u=rn (bnh h[s]?) (fun y=>k (.ref s (y.1+1) 0 i.toNat i.toNat i.toNat) (h.set s (y.1+1,.data 1 (List.replicate i.toNat z) true false))) .mk:=by unfold rh rn;simp only[mkS];rw[if_pos ⟨h0,Int.le_refl _,ae,hb,h1⟩,Dg];simp only[Ey,Y8,List.length_singleton]
@[simp]theorem aiI(s e off len cap tot:Nat):aY (.ref s e off len cap tot)=some (.d (.int .i64 (len:Int))):=id rfl
theorem nV{T:kkQ->Prop}{k:kkQ}{u:PU k}(h:T k):rh T k u:=h
theorem cdz{h:Hp}{f:FuncId}{v:V}{k:kkQ}{u:PU k}(hs:ai h args=some (ds,h'))(hc:C f ds v)(hk:k v (if cC v then h else h')):rh (cal C h (.fn f [] []) args) k u:=
 pY hs hc hk
variable{α:Type}{f:α->D}{o:List α}{h:Hp}{s e n:Nat}{ex fr:Bool}
theorem rW(clr:LnQ)(i:Nat)(x0 x:Nat×Bk)(h0 h:Hp):aO clr i (x0::h0) (x::h)=(if gX clr i=true then x else(x0.1,.none))::aO clr (i+1) h0 h:=by cases x0;cases x;rfl
theorem AX(clr:LnQ)(i:Nat)(x:Nat×Bk)(h:Hp):pz clr i (x::h)=((!gX clr i||offB clr x.2)&&pz clr (i+1) h):=by cases x;rfl
theorem SP(s:Nat):gX [] s=true:=rfl
theorem EO(t:Nat)(l:LnQ)(s:Nat):gX (t::l) s=(!(Nat.beq t s)&&gX l s):=rfl
theorem beq_lit(a b:Nat):Nat.beq a b=decide (a=b):=by
 by_cases h:a=b
 .subst h;simp[Xi]
 .rw[decide_eq_false h];cases hb:Nat.beq a b with
  |false=>rfl
  |true=>exact absurd (Zh hb) h
@[simp]theorem akE(n:Nat):V.d (i9 n)=I n:=id rfl
@[simp]theorem akw(l:LnQ)(h:Hp)(hl:j<l.length):ld1 h (.dptr (l.map i9) j)=some (I ((nth 0 l j:Nat):Int)):=gn i9 0 l h hl
@[simp]theorem ajU(l:LnQ)(h:Hp)(hl:j<l.length):ld1 h (.dptr (l.map u32) j)=some (.d (.int .u32 ((nth 0 l j:Nat):Int))):=gn u32 0 l h hl
@[simp]theorem akB(n:Nat):V.d (u32 n)=.d (.int .u32 n):=id rfl
theorem TC{n by_:Nat}{h:Hp}{cells:LdQ}{z:LdQ}(hn:0<n){l:Nat}(hl:0<l)(hc:cells.length=l*n)(hb:l*by_<=140737488355328){q:kkQ}{u:PU q}
  (hq:q (.ref (h.length+1) 1 0 l l cells.length) (h++[(1,.data n [] true false),(1,.data n cells false false)])) :
  rh (apV false (h.length+1) n by_ (.ref (h.length+0) 1 0 0 0 0) (.d (.sl l cells)) (h++[(1,.data n [] true false),nnQ])) q u:=by
 unfold rh apV;simp only[cellsOf];rw[if_pos hc];unfold apC;rw[if_neg aa];have hg:ax (h++[(1,Bk.data n [] true false),nnQ]) (h.length+0) 1=.data n [] true false:=by simp[ax]
 simp only[hg];rw[if_pos ⟨trivial,rfl,Z8 _,ae,hc⟩,if_neg aa,if_pos (by simpa using hb)];simp only[if_true,new];have hs:(h++[(1,Bk.data n [] true false),nnQ])[h.length+1]?=some nnQ:=ae;simp only[hs];simpa using hq
@[simp] theorem ahi {α:Type}(f:α->D){l:List α}(h:Hp)(hl:0<l.length)(k:V->Prop)(u:PU k):rn (yd h .eql (lst f l) (.d nPQ)) k u=k (.d (.bool false)):=by
 cases l with
 |nil=>simp at hl
 |cons x l=>exact rfl
def qz(k:Int)(a b:LiQ):LiQ:=List.zipWith (fun x y=>x-k*y) a b
def bdZ(B:Nat)(l:LiQ):Bool:=l.all fun x=>decide (x.natAbs<10^B)
variable{α:Type}(d:α)(g:α->LiQ)(w:α->LiQ->α)
def yv(m:List α)(i c:Nat):Int:=nth 0 (g (nth d m i)) c
def atG(c:Nat)(m:List α):Nat->Nat->Int->Int
 |0,_,at_=>at_
 |r+1,i,at_=>atG c m r (i+1) (if yv d g m i c≠0∧(at_<0∨(yv d g m i c).natAbs<(yv d g m at_.toNat c).natAbs)then i else at_)
def iU(c o:Nat)(m:List α)(i:Nat):List α:=m.set i (w (nth d m i) (qz ((yv d g m i c).fdiv (yv d g m o c)) (g (nth d m i)) (g (nth d m o))))
def kz(c o:Nat):Nat->Nat->Bool->List α->Bool×List α
 |0,_,b,m=>(b,m)
 |r+1,i,b,m=>kz c o r (i+1) (b||decide ((yv d g m i c).fmod (yv d g m o c)≠0)) (iU d g w c o m i)
def upG(c o:Nat):Nat->Nat->List α->List α
 |0,_,m=>m
 |r+1,i,m=>upG c o r (i+1) (iU d g w c o m i)
def Bb(c o:Nat)(m:List α):List α:=if yv d g m o c<0 then m.set o (w (nth d m o) ((g (nth d m o)).map (- ·)))else m
def k8(m:List α)(i j:Nat):List α:=(m.set i (nth d m j)).set j (nth d m i)
def kC(B c:Nat):Nat->Nat->List α->Option (Nat×List α)
 |0,_,_=>none
 | f+1,o,m=>
  if (m.all fun a=>bdZ B (g a))=true then
   let a:=atG d g c m (m.length-o) o (-1)
   if a<0 then some (o,m)else
    let s:=kz d g w c o (m.length-(o+1)) (o+1) false (k8 d m o a.toNat)
    if s.1=true then kC B c f o s.2 else some (o+1,upG d g w c o o 0 (Bb d g w c o s.2))
  else none
def oQ(B f:Nat):Nat->Nat->Nat->List α->Option (Nat×List α)
 |0,_,o,m=>some (o,m)
 | r+1,c,o,m=>if o<m.length then(match kC d g w B c f o m with
  |some (o',m')=>oQ B f r (c+1) o' m'
  |none=>none)else some (o,m)
def FD(B f columns:Nat)(m:List α):Option (Nat×List α):=oQ d g w B f columns 0 0 m
variable{α:Type}{d:α}{g:α->LiQ}{w:α->LiQ->α}
theorem mc(c o:Nat)(m:List α)(i:Nat):(iU d g w c o m i).length=m.length:=by simp[iU]
theorem ly(c o:Nat):∀(r i:Nat)(b:Bool)(m:List α),(kz d g w c o r i b m).2.length=m.length
 |0,_,_,_=>rfl
 |r+1,i,b,m=>by simp only[kz];rw[ly,mc]
theorem Pn(c o:Nat):∀(r i:Nat)(m:List α),(upG d g w c o r i m).length=m.length
 |0,_,_=>rfl
 |r+1,i,m=>by simp only[upG];rw[Pn,mc]
theorem ze(c o:Nat)(m:List α):(Bb d g w c o m).length=m.length:=by unfold Bb;split<;>simp
theorem fh(m:List α)(i j:Nat):(k8 d m i j).length=m.length:=by simp[k8]
theorem O9(c:Nat)(m:List α):∀(r i:Nat)(a:Int),a<i->-1<=a->atG d g c m r i a<(i+r:Nat)∧-1<=atG d g c m r i a
 |0,i,a,h,h0=>⟨by simpa[atG]using h,h0⟩
 | r+1,i,a,h,h0=>by
  simp only[atG];have:=O9 c m r (i+1) (if yv d g m i c≠0∧(a<0∨(yv d g m i c).natAbs<(yv d g m a.toNat c).natAbs)then i else a) (by split<;>omega) (by split<;>omega);exact⟨aa,this.2⟩
structure vF{α β:Type}(d:α)(g:α->LiQ)(w:α->LiQ->α)(d':β)(g':β->LiQ)(w':β->LiQ->β)(p:α->β):Prop where
 d:p d=d'
 g:∀a,g' (p a)=g a
 w:∀a r,p (w a r)=w' (p a) r
section
variable{α β:Type}{d:α}{g:α->LiQ}{w:α->LiQ->α}{d':β}{g':β->LiQ}{w':β->LiQ->β}{p:α->β}(H:vF d g w d' g' w' p)
include H
theorem vF.nth(m:List α)(i:Nat):nth d' (m.map p) i=p (nth d m i):=by simp only[Go.Vm.nth,Z6,List.getElem?_map];cases m[i]?<;>simp[H.d]
theorem vF.ent(m:List α)(i c:Nat):yv d' g' (m.map p) i c=yv d g m i c:=by simp[yv,H.nth,H.g]
theorem vF.take(c o:Nat)(m:List α)(i:Nat):iU d' g' w' c o (m.map p) i=(iU d g w c o m i).map p:=by simp only[iU,H.ent,H.nth,H.g,Wy,H.w]
theorem vF.at(c:Nat)(m:List α):∀(r i:Nat)(a:Int),atG d' g' c (m.map p) r i a=atG d g c m r i a
 |0,_,_=>rfl
 |r+1,i,a=>by simp only[atG,H.ent,vF.at c m r]
theorem vF.sweep(c o:Nat):∀(r i:Nat)(b:Bool)(m:List α),kz d' g' w' c o r i b (m.map p)=((kz d g w c o r i b m).1,(kz d g w c o r i b m).2.map p)
 |0,_,_,_=>rfl
 |r+1,i,b,m=>by simp only[kz,H.ent,H.take,vF.sweep c o r]
theorem vF.up(c o:Nat):∀(r i:Nat)(m:List α),upG d' g' w' c o r i (m.map p)=(upG d g w c o r i m).map p
 |0,_,_=>rfl
 |r+1,i,m=>by simp only[upG,H.take,vF.up c o r]
theorem vF.neg(c o:Nat)(m:List α):Bb d' g' w' c o (m.map p)=(Bb d g w c o m).map p:=by simp only[Bb,H.ent,H.nth,H.g];split<;>simp[Wy,H.w]
theorem vF.swap(m:List α)(i j:Nat):k8 d' (m.map p) i j=(k8 d m i j).map p:=by simp[k8,H.nth,Wy]
theorem vF.round(B c:Nat):∀(f o:Nat)(m:List α),kC d' g' w' B c f o (m.map p)=(kC d g w B c f o m).map fun q=>(q.1,q.2.map p)
 |0,_,_=>rfl
 | f+1,o,m=>by
  have e:((m.map p).all fun a=>bdZ B (g' a))=m.all fun a=>bdZ B (g a):=by simp[List.all_map,Function.comp_def,H.g]
  simp only[kC,List.length_map,e,H.at,H.swap,H.sweep,H.neg,H.up,vF.round B c f];split
  .split
   .rfl
   .split<;>rfl
  .rfl
theorem vF.cols(B f:Nat):∀(r c o:Nat)(m:List α),oQ d' g' w' B f r c o (m.map p)=(oQ d g w B f r c o m).map fun q=>(q.1,q.2.map p)
 |0,_,_,_=>rfl
 | r+1,c,o,m=>by
  simp only[oQ,List.length_map,H.round];split
  .cases kC d g w B c f o m with
   |none=>rfl
   |some q=>exact vF.cols B f r (c+1) q.1 q.2
  .rfl
theorem vF.form(B f c:Nat)(m:List α):FD d' g' w' B f c (m.map p)=(FD d g w B f c m).map fun q=>(q.1,q.2.map p):=H.cols B f c 0 0 m
end
abbrev Mz:=LLQ
variable{m m':Mz}
def ql(B f c:Nat)(m:Mz):Option (Nat×Mz):=FD [] (fun r=>r) (fun _ r=>r) B f c m
def km(n:Nat)(m:Mz):Mz:=(List.range n).map fun c=>m.map (fun r=>nth 0 r c)++(List.replicate n (0:Int)).set c 1
def Ai(k:Nat)(r:LiQ):Bool:=match r.findIdx? fun z=>decide (z≠0)with
 |some i=>decide (k<=i)
 |none=>false
def TP(B f k n:Nat)(m:Mz):Option Mz:=
 let l:=(m.filter (Ai k)).map (List.drop k)
 if l=[]then some []else match ql B f n l with
  |some (o,w)=>some (w.take o)
  |none=>none
def uG(B f n:Nat)(m:Mz):Option Mz:=
 match ql B f (m.length+n) (km n m)with
 |some (o,w)=>TP B f m.length n (w.take o)
 |none=>none
abbrev Ve:=Nat->Int
variable{u:Ve}
def cmb:LiQ->List Ve->Ve
 |k::ks,h::hs=>fun i=>k*h i+cmb ks hs i
 |_,_=>fun _=>0
def Spn(m:List Ve)(v:Ve):Prop:=∃ks,v=cmb ks m
def adp:LiQ->LiQ->LiQ
 |k::ks,k'::ks'=>(k+k')::adp ks ks'
 |[],l=>l
 |l,[]=>l
theorem xk(m:List Ve):cmb [] m=fun _=>0:=by cases m<;>rfl
theorem Ru:∀(ks ks':LiQ)(m:List Ve)(i:Nat),cmb (adp ks ks') m i=cmb ks m i+cmb ks' m i
 |_,_,[],i=>by cases ‹LiQ› <;>simp[cmb]
 |[],l,h::m,i=>by simp[adp,xk]
 |k::ks,[],h::m,i=>by simp[adp,xk]
 | k::ks,k'::ks',h::m,i=>by
  simp only[adp,cmb,Ru ks ks' m i]
  grind
theorem Rt(c:Int):∀(ks:LiQ)(m:List Ve)(i:Nat),cmb (ks.map (c * ·)) m i=c*cmb ks m i
 |[],m,i=>by simp[xk]
 |k::ks,[],i=>by simp[cmb]
 | k::ks,h::m,i=>by
  simp only[Zv,cmb,Rt c ks m i]
  grind
theorem Spn.zero(m:List Ve):Spn m fun _=>0:=⟨[],(xk m).symm⟩
theorem Spn.add{m:List Ve}{v:Ve}(hu:Spn m u)(hv:Spn m v):Spn m fun i=>u i+v i:=by obtain⟨a,rfl⟩:=hu;obtain⟨b,rfl⟩:=hv;exact⟨adp a b,funext fun i=>(Ru a b m i).symm⟩
theorem Spn.mul{m:List Ve}(c:Int)(hu:Spn m u):Spn m fun i=>c*u i:=by obtain⟨a,rfl⟩:=hu;exact⟨a.map (c * ·),funext fun i=>(Rt c a m i).symm⟩
theorem Spn.sub{m:List Ve}{v:Ve}(hu:Spn m u)(hv:Spn m v):Spn m fun i=>u i-v i:=by
 have:=hu.add (hv.mul (-1));have e:(fun i=>u i + -1*v i)=fun i=>u i-v i:=funext fun i=>by omega
 grind
theorem Spn.mem:∀{m:List Ve}{h:Ve},h∈m->Spn m h
 | g::m,h,hm=>by
  rcases Zx.1 hm with rfl|hm
  .exact⟨[1],funext fun i=>by simp[cmb,xk]⟩
  .obtain⟨ks,e⟩:=Spn.mem hm;exact⟨0::ks,funext fun i=>by grind[cmb]⟩
theorem Spn.le:∀{m m':List Ve},(∀h∈m,Spn m' h)->∀{v},Spn m v->Spn m' v:=fun{m m'} hm {v} hv=>by
 obtain⟨ks,rfl⟩:=hv
 induction m generalizing ks with
 |nil=>cases ks<;>exact Spn.zero m'
 | cons h m ih=>
  cases ks with
  |nil=>simp[xk,zero]
  |cons k ks=>exact((hm h ae).mul k).add (ih (fun g hg=>hm g (by grind)) ks)
def Hnf:Nat->List (Nat×Ve)->Prop
 |_,[]=>True
 |o,(l,h)::m=>(o<=l∧0<h l∧∀j,j<l->h j=0)∧(∀x∈m,0<=h x.1∧h x.1<x.2 x.1)∧Hnf (l+1) m
def vs(m:List (Nat×Ve)):List Ve:=m.map (·.2)
theorem YT{o:Nat}(h:o'<=o):∀{m:List (Nat×Ve)},Hnf o m->Hnf o' m
 |[],_=>trivial
 |(l,g)::m,⟨⟨a,b⟩,c⟩=>⟨⟨aa,b⟩,c⟩
theorem re:∀{m:List (Nat×Ve)}{o:Nat},Hnf o m->∀{v},Spn (vs m) v->∀j,j<o->v j=0
 |[],o,_,v,⟨ks,e⟩,j,hj=>by subst e;cases ks<;>rfl
 | (l,h)::m,o,⟨⟨a,b,c⟩,d,r⟩,v,⟨ks,e⟩,j,hj=>by
  subst e;cases ks with
  |nil=>rfl
  | cons k ks=>
   have h1:=c j aa;have h2:=re r ⟨ks,rfl⟩ j aa
   grind[vs,cmb]
theorem qk:∀{m:List (Nat×Ve)}{o:Nat},Hnf o m->∀{v},Spn (vs m) v->(∀j,v j=0)∨∃x∈m,(∀j,j<x.1->v j=0)∧v x.1≠0∧x.2 x.1∣v x.1
 |[],o,_,v,⟨ks,e⟩=>.inl fun j=>by subst e;cases ks<;>rfl
 | (l,h)::m,o,⟨⟨a,b,c⟩,d,r⟩,v,⟨ks,e⟩=>by
  subst e;cases ks with
  |nil=>exact .inl fun j=>rfl
  | cons k ks=>
   have h2:=fun j hj=>re r (v:=cmb ks (vs m)) ⟨ks,rfl⟩ j hj
   by_cases hk:k=0
   .subst hk;have e:cmb (0::ks) (vs ((l,h)::m))=cmb ks (vs m):=funext fun i=>by simp[vs,cmb]
    rw[e];rcases qk r (v:=cmb ks (vs m)) ⟨ks,rfl⟩with z|⟨x,hx,p⟩
    .grind
    grind
   .refine .inr ⟨(l,h),ae,fun j hj=>?_,?_,?_⟩
    .show k*h j+cmb ks (vs m) j=0
     rw[c j hj,h2 j aa];simp
    .show k*h l+cmb ks (vs m) l≠0
     rw[h2 l aa,Wd];exact Yf hk aa
    grind[cmb,vs,Int.dvd_mul_left]
theorem zE{l:Nat}{h:Ve}{m:List (Nat×Ve)}{o:Nat}(H:Hnf o ((l,h)::m)){v:Ve}(hv:Spn (vs ((l,h)::m)) v)(h0:v l=0):Spn (vs m) v:=by
 obtain⟨⟨a,b,c⟩,d,r⟩:=H;obtain⟨ks,rfl⟩:=hv;cases ks with
 |nil=>exact Spn.zero _
 | cons k ks=>
  have h2:=re r (v:=cmb ks (vs m)) ⟨ks,rfl⟩ l aa;have h3:k*h l+cmb ks (vs m) l=0:=h0;rw[h2,Wd]at h3
  have hk:k=0:=by
   rcases Int.mul_eq_zero.1 h3 with h|h
   .exact h
   .omega
  subst hk;exact⟨ks,funext fun i=>by simp[vs,cmb]⟩
theorem yp:∀{m:List (Nat×Ve)}{o:Nat},Hnf o m->∀x∈m,o<=x.1
 | (l,h)::m,o,⟨⟨a,b⟩,d,r⟩,x,hx=>by
  rcases Zx.1 hx with rfl|hx
  .exact a
  .have:=yp r x hx;omega
theorem MC{l l':Nat}{h h':Ve}{m m':List (Nat×Ve)}{o o':Nat}(H:Hnf o ((l,h)::m))(H':Hnf o' ((l',h')::m'))(e:Spn (vs ((l',h')::m')) h):l'<=l∧(l=l'->h' l∣h l):=by
 obtain⟨⟨a,b,c⟩,d,r⟩:=H;rcases qk H' e with z|⟨x,hx,p1,p2,p3⟩
 .exact absurd (z l) aa
 ·have e1:x.1=l:=by
   rcases Nat.lt_trichotomy x.1 l with g|g|g
   .grind
   .exact g
   .grind
  have ge:=yp H' x hx;obtain⟨⟨a',b',c'⟩,d',r'⟩:=H'
  have hg:l'<=x.1:=by
   rcases Zx.1 hx with rfl|hx
   .omega
   .have:=yp r' x hx;omega
  refine⟨aa,fun el=>?_⟩;rcases Zx.1 hx with rfl|hx
  .grind
  grind[yp]
theorem MB:∀{m m':List (Nat×Ve)}{o:Nat},Hnf o m->Hnf o m'->(∀v,Spn (vs m) v↔Spn (vs m') v)->m=m'
 |[],[],_,_,_,_=>rfl
 | [],(l,h)::m',o,H,H',e=>by
  have h1:=(e h).2 (Spn.mem (by simp[vs]));rcases qk H h1 with z|⟨x,hx,_⟩
  .have:=H'.1.2.1;grind
  trivial
 | (l,h)::m,[],o,H,H',e=>by
  have h1:=(e h).1 (Spn.mem (by simp[vs]));rcases qk H' h1 with z|⟨x,hx,_⟩
  .have:=H.1.2.1;grind
  trivial
 | (l,h)::m,(l',h')::m',o,H,H',e=>by
  have a1:=MC H H' ((e h).1 (Spn.mem (by simp[vs])));have a2:=MC H' H ((e h').2 (Spn.mem (by simp[vs])));obtain rfl:l=l':=aa;have d1:=a1.2 rfl;have d2:=a2.2 rfl;have p1:=H.1.2.1;have p2:=H'.1.2.1;have el:h l=h' l:=Int.le_antisymm (Int.le_of_dvd p2 d2) (Int.le_of_dvd p1 d1)
  have te:∀v,Spn (vs m) v↔Spn (vs m') v:=fun v=>by
   constructor
   .intro hv;have z:v l=0:=re H.2.2 hv l aa
    grind[zE,Spn.le,Spn.mem,vs]
   .intro hv;have z:v l=0:=re H'.2.2 hv l aa
    grind[zE,Spn.le,Spn.mem,vs]
  obtain rfl:=MB H.2.2 H'.2.2 te;have hu:Spn (vs ((l,h)::m)) fun i=>h i-h' i:=Spn.sub (Spn.mem (by simp[vs])) ((e h').2 (Spn.mem (by simp[vs])))
  have hu2:=zE H hu aa
  have eh:h=h':=by
   rcases qk H.2.2 hu2 with z|⟨x,hx,q1,q2,q3⟩
   .grind
   .have b1:=H.2.1 x hx;have b2:=H'.2.1 x hx;exact absurd (Int.eq_zero_of_dvd_of_natAbs_lt_natAbs q3 aa) q2
  rw[eh]
abbrev eZ(m:Mz)(i j:Nat):Int:=nth 0 (nth [] m i) j
def ve(r:LiQ):Ve:=fun i=>nth 0 r i
def Ln(n:Nat)(m:Mz):Prop:=∀i,i<m.length->(nth [] m i).length=n
def tkZ(c o:Nat)(m:Mz)(i:Nat):Mz:=iU [] (fun r=>r) (fun _ r=>r) c o m i
theorem rX{α:Type}(d:α)(l:List α)(i j:Nat)(x:α)(h:i<l.length):nth d (l.set i x) j=if j=i then x else nth d l j:=by
 simp only[nth,Z6,List.getElem?_set];by_cases e:i=j
 .grind
 .rw[if_neg e,if_neg (fun g=>e g.symm)]
theorem LW(k:Int):∀(a b:LiQ)(j:Nat),a.length=b.length->nth 0 (qz k a b) j=nth 0 a j-k*nth 0 b j
 |[],[],j,_=>by simp[qz,nth]
 |x::a,y::b,0,_=>by rfl
 | x::a,y::b,j+1,h=>by
  grind[qz,nth]
 |[],_::_,_,h=>by simp at h
 |_::_,[],_,h=>by simp at h
theorem Rc{n o:Nat}(hl:Ln n m)(hi:i<m.length)(ho:o<m.length)(k j:Nat):eZ (tkZ c o m i) k j=if k=i then eZ m i j-(eZ m i c).fdiv (eZ m o c)*eZ m o j else eZ m k j:=by
 unfold eZ tkZ iU;rw[rX _ _ _ _ _ hi];split
 .rename_i h;rw[LW _ _ _ _ ((hl i hi).trans (hl o ho).symm)];rfl
 .rfl
theorem ae8{n:Nat}(hl:Ln n m){x:LiQ}(hx:x.length=n):Ln n (m.set i x):=fun j hj=>by
 rw[Y5]at hj;by_cases h:i<m.length
 .rw[rX _ _ _ _ _ h];split
  .exact hx
  .exact hl j hj
 .rw[List.set_eq_of_length_le aa];exact hl j hj
theorem rM(c o:Nat)(m:Mz)(i:Nat):(tkZ c o m i).length=m.length:=mc c o m i
theorem Jw{n o:Nat}(hl:Ln n m)(hi:i<m.length)(ho:o<m.length):Ln n (tkZ c o m i):=
 ae8 hl (by simp[qz,hl i hi,hl o ho])
def SpZ(m:Mz)(v:Ve):Prop:=Spn (m.map ve) v
theorem gr(hi:i<m.length):SpZ m (ve (nth [] m i)):=Spn.mem (Zy.2 ⟨_,by rw[nth,Z6,List.getElem?_eq_getElem hi];simp,rfl⟩)
theorem AG(h:∀i,i<m.length->SpZ m' (ve (nth [] m i))){v:Ve}(hv:SpZ m v):SpZ m' v:=by
 refine Spn.le (fun g hg=>?_) hv;obtain⟨r,hr,rfl⟩:=Zy.1 hg;obtain⟨i,hi,rfl⟩:=Zd.1 hr;have:=h i hi
 rwa [nth,Z6,List.getElem?_eq_getElem hi]at this
def SpE(m m':Mz):Prop:=∀v,SpZ m v↔SpZ m' v
theorem Pm{n o:Nat}(hl:Ln n m)(hi:i<m.length)(ho:o<m.length):ve (nth [] (tkZ c o m i) i)=fun j=>ve (nth [] m i) j-(eZ m i c).fdiv (eZ m o c)*ve (nth [] m o) j:=funext fun j=>by
 have:=Rc (c:=c) hl hi ho i j;rw[if_pos rfl]at this;exact this
theorem p9{o:Nat}(hi:i<m.length){k:Nat}(h:k≠i):nth [] (tkZ c o m i) k=nth [] m k:=by grind[tkZ,iU,rX]
theorem UF{n o:Nat}(hl:Ln n m)(hi:i<m.length)(ho:o<m.length)(hne:i≠o):SpE m (tkZ c o m i):=fun v=>by
 have hi':i<(tkZ c o m i).length:=by rw[rM];exact hi
 have ho':o<(tkZ c o m i).length:=by rw[rM];exact ho
 have eo:nth [] (tkZ c o m i) o=nth [] m o:=p9 hi (fun h=>hne h.symm);constructor
 .refine AG fun k hk=>?_
  by_cases h:k=i
  .subst h;have a:=(gr hi').add ((gr ho').mul ((eZ m k c).fdiv (eZ m o c)))
   have e:(fun j=>ve (nth [] (tkZ c o m k) k) j+(eZ m k c).fdiv (eZ m o c)*ve (nth [] (tkZ c o m k) o) j)=ve (nth [] m k):=funext fun j=>by
    grind[Pm]
   rw[e]at a;exact a
  .rw[<-p9 (c:=c) (o:=o) hi h]
   grind[gr,rM]
 .refine AG fun k hk=>?_
  rw[rM]at hk;by_cases h:k=i
  .subst h;rw[Pm hl hi ho];exact(gr hi).sub ((gr ho).mul _)
  grind[p9,gr]
theorem SpE.refl(m:Mz):SpE m m:=fun v=>Iff.rfl
theorem SpE.trans{a b c:Mz}(h:SpE a b)(h':SpE b c):SpE a c:=fun v=>(h v).trans (h' v)
theorem SpE.symm{a b:Mz}(h:SpE a b):SpE b a:=fun v=>(h v).symm
def swZ(m:Mz)(i j:Nat):Mz:=k8 [] m i j
theorem ui(hi:i<m.length)(hj:j<m.length)(k:Nat):nth [] (swZ m i j) k=if k=j then nth [] m i else if k=i then nth [] m j else nth [] m k:=by
 unfold swZ k8;rw[rX _ _ _ _ _ (by grind)];split
 .rfl
 .rw[rX _ _ _ _ _ hi]
theorem vO(m:Mz)(i j:Nat):(swZ m i j).length=m.length:=fh m i j
theorem Jy{n:Nat}(hl:Ln n m)(hi:i<m.length)(hj:j<m.length):Ln n (swZ m i j):=fun k hk=>by
 rw[vO]at hk;rw[ui hi hj];split
 .exact hl i hi
 .split
  .exact hl j hj
  .exact hl k hk
theorem UG(hi:i<m.length)(hj:j<m.length):SpE m (swZ m i j):=fun v=>by
 have hi':i<(swZ m i j).length:=by rw[vO];exact hi
 have hj':j<(swZ m i j).length:=by rw[vO];exact hj
 constructor
 .refine AG fun k hk=>?_
  by_cases h1:k=i
  .subst h1;have:=gr hj'
   grind[ui]
  .by_cases h2:k=j
   .subst h2;have:=gr hi'
    grind[ui]
   .have:=gr (m:=swZ m i j) (i:=k) (by grind[vO])
    grind[ui]
 grind[AG,vO,ui,gr]
def ngZ(c o:Nat)(m:Mz):Mz:=Bb [] (fun r=>r) (fun _ r=>r) c o m
theorem wi(a:LiQ)(j:Nat):nth 0 (a.map (- ·)) j = - nth 0 a j:=by grind[nth]
theorem wn{o:Nat}(ho:o<m.length)(k:Nat):nth [] (ngZ c o m) k=if k=o∧eZ m o c<0 then(nth [] m o).map (- ·)else nth [] m k:=by
 show nth [] (if eZ m o c<0 then m.set o ((nth [] m o).map (- ·))else m) k=_
 by_cases h:eZ m o c<0
 .rw[if_pos h,rX _ _ _ _ _ ho];by_cases hk:k=o
  .rw[if_pos hk,if_pos ⟨hk,h⟩]
  .rw[if_neg hk,if_neg (fun g=>hk g.1)]
 .rw[if_neg h,if_neg (fun g=>h g.2)]
theorem Ba(c o:Nat)(m:Mz):(ngZ c o m).length=m.length:=ze c o m
theorem XI{n o:Nat}(hl:Ln n m)(ho:o<m.length):Ln n (ngZ c o m):=fun k hk=>by
 rw[Ba]at hk;rw[wn ho];split
 .rw[List.length_map];exact hl o ho
 .exact hl k hk
theorem Ub(a:LiQ):ve (a.map (- ·))=fun i=>-1*ve a i:=funext fun j=>by
 show nth 0 (a.map (- ·)) j = -1*nth 0 a j
 simp[wi]
theorem abp{o:Nat}(ho:o<m.length):SpE m (ngZ c o m):=fun v=>by
 have ho':o<(ngZ c o m).length:=by rw[Ba];exact ho
 constructor
 .refine AG fun k hk=>?_
  by_cases h:k=o∧eZ m o c<0
  .have:=(gr ho').mul (-1);rw[wn ho,if_pos ⟨rfl,h.2⟩,Ub]at this;obtain⟨rfl,_⟩:=h;have e:(fun i=>-1*(-1*ve (nth [] m k) i))=ve (nth [] m k):=funext fun i=>by omega
   rw[e]at this;exact this
  .have:=gr (m:=ngZ c o m) (i:=k) (by grind[Ba])
   grind[wn]
 .refine AG fun k hk=>?_
  rw[Ba]at hk;rw[wn ho];split
  .rw[Ub];exact(gr ho).mul _
  grind[gr]
def Cq(c o r i:Nat)(b:Bool)(m:Mz):Bool×Mz:=kz [] (fun r=>r) (fun _ r=>r) c o r i b m
def upZ(c o r i:Nat)(m:Mz):Mz:=upG [] (fun r=>r) (fun _ r=>r) c o r i m
structure Ny(n c o i r:Nat)(m m':Mz):Prop where
 len:m'.length=m.length
 ln:Ln n m'
 sp:SpE m m'
 out:∀k,(k<i∨i+r<=k)->nth [] m' k=nth [] m k
 inn:∀k,i<=k->k<i+r->∀j,eZ m' k j=eZ m k j-(eZ m k c).fdiv (eZ m o c)*eZ m o j
theorem D6{n o:Nat}(hl:Ln n m)(ho:o<m.length)(hi:i+(r+1)<=m.length)(hoi:o<i∨i+(r+1)<=o)(h:Ny n c o (i+1) r (tkZ c o m i) m'):Ny n c o i (r+1) m m':=by
 have eo:nth [] (tkZ c o m i) o=nth [] m o:=p9 aa aa;refine⟨h.len.trans (rM ..),h.ln,(UF hl aa ho aa).trans h.sp,fun k hk=>?_,fun k h1 h2 j=>?_⟩
 .rw[h.out k aa,p9 aa aa]
 .by_cases hki:k=i
  .subst hki;have e1:nth [] m' k=nth [] (tkZ c o m k) k:=h.out k aa
   show nth 0 (nth [] m' k) j=_
   rw[e1];have:=Rc (c:=c) hl (by omega:k<m.length) ho k j
   grind
  .have e2:=h.inn k aa aa j;have e3:nth [] (tkZ c o m i) k=nth [] m k:=p9 aa hki
   grind
theorem IH{n c o:Nat}:∀(r i:Nat){m:Mz},Ln n m->o<m.length->i+r<=m.length->(o<i∨i+r<=o)->Ny n c o i r m (upZ c o r i m)
 |0,i,m,hl,ho,hi,hoi=>⟨rfl,hl,SpE.refl m,fun _ _=>rfl,fun k h1 h2=>by omega⟩
 | r+1,i,m,hl,ho,hi,hoi=>by
  have ih:=IH (c:=c) r (i+1) (m:=tkZ c o m i) (Jw hl aa ho) (by rw[rM];exact ho) (by grind[rM]) aa;exact D6 hl ho hi hoi ih
theorem uh{n c o:Nat}:∀(r i:Nat)(b:Bool){m:Mz},Ln n m->o<m.length->i+r<=m.length->(o<i∨i+r<=o)->Ny n c o i r m (Cq c o r i b m).2∧((Cq c o r i b m).1=false->b=false∧∀k,i<=k->k<i+r->(eZ m k c).fmod (eZ m o c)=0)
 |0,i,b,m,hl,ho,hi,hoi=>⟨⟨rfl,hl,SpE.refl m,fun _ _=>rfl,fun k h1 h2=>by omega⟩,fun h=>⟨h,fun k h1 h2=>by omega⟩⟩
 | r+1,i,b,m,hl,ho,hi,hoi=>by
  have ih:=uh (c:=c) r (i+1) (b||decide ((eZ m i c).fmod (eZ m o c)≠0)) (m:=tkZ c o m i) (Jw hl aa ho) (by rw[rM];exact ho) (by grind[rM]) aa;refine⟨D6 hl ho hi hoi ih.1,fun h=>?_⟩;obtain⟨h1,h2⟩:=ih.2 h;simp only[Bool.or_eq_false_iff,decide_eq_false_iff_not,Decidable.not_not]at h1;refine⟨h1.1,fun k a1 a2=>?_⟩;by_cases hki:k=i
  .grind
  .have e:=h2 k aa aa;have eo:nth [] (tkZ c o m i) o=nth [] m o:=p9 aa aa;have ek:nth [] (tkZ c o m i) k=nth [] m k:=p9 aa hki
   grind
def aZ(c:Nat)(m:Mz)(r i:Nat)(a:Int):Int:=atG [] (fun r=>r) c m r i a
theorem DF(c:Nat)(m:Mz)(o:Nat):∀(r i:Nat)(a:Int),(a<0∧(∀k,o<=k->k<i->eZ m k c=0)∨(o:Int)<=a∧a<i∧eZ m a.toNat c≠0)->o<=i ->
  (aZ c m r i a<0∧(∀k,o<=k->k<i+r->eZ m k c=0)∨(o:Int)<=aZ c m r i a∧aZ c m r i a<(i+r:Nat)∧eZ m (aZ c m r i a).toNat c≠0)
 |0,i,a,h,hi=>by trivial
 | r+1,i,a,h,hi=>by
  have key:aZ c m (r+1) i a=aZ c m r (i+1) (if eZ m i c≠0∧(a<0∨(eZ m i c).natAbs<(eZ m a.toNat c).natAbs)then i else a):=rfl;rw[key];have e:i+1+r=i+(r+1):=aa;rw[<-e];refine DF c m o r (i+1) _ ?_ aa;split
  .rename_i g;exact .inr ⟨aa,aa,by grind⟩
  .rename_i g;rcases h with⟨h1,h2⟩|⟨h1,h2,h3⟩
   .refine .inl ⟨h1,fun k a1 a2=>?_⟩;by_cases hk:k=i
    .grind
    .exact h2 k a1 aa
   .exact .inr ⟨h1,aa,h3⟩
structure Hm(n c o:Nat)(L:Nat->Nat)(m:Mz):Prop where
 le:o<=m.length
 ln:Ln n m
 lt:∀i,i<o->L i<c
 inc:∀i j,i<j->j<o->L i<L j
 pos:∀i,i<o->0<eZ m i (L i)
 low:∀i,i<o->∀j,j<L i->eZ m i j=0
 red:∀i j,i<j->j<o->0<=eZ m i (L j)∧eZ m i (L j)<eZ m j (L j)
 zer:∀k,o<=k->k<m.length->∀j,j<c->eZ m k j=0
theorem QU{n o:Nat}(H:Hm n c o L m)(hl:m'.length=m.length)(hn:Ln n m')(h1:∀i,i<o->nth [] m' i=nth [] m i)(h2:∀k,o<=k->k<m.length->∀j,j<c->eZ m' k j=0):Hm n c o L m' where
 le:=by rw[hl];exact H.le
 ln:=hn
 lt:=H.lt
 inc:=H.inc
 pos:=fun i hi=>by have:=H.pos i hi;grind
 low:=fun i hi j hj=>by grind[Hm.low]
 red:=fun i j hij hj=>by have:=H.red i j hij hj;simp only[eZ,h1 i aa,h1 j hj];omega
 zer:=fun k a b j hj=>h2 k a aa j hj
theorem acB{n o:Nat}(H:Hm n c o L m)(h:∀k,o<=k->k<m.length->eZ m k c=0):Hm n (c+1) o L m where
 le:=H.le
 ln:=H.ln
 lt:=fun i hi=>by have:=H.lt i hi;omega
 inc:=H.inc
 pos:=H.pos
 low:=H.low
 red:=H.red
 zer:=fun k a b j hj=>by
  by_cases e:j=c
  .grind
  .exact H.zer k a b j aa
theorem afi{n o:Nat}(H:Hm n c o L m)(ho:o<m.length)(h0:eZ m o c≠0)(h1:∀k,o<k->k<m.length->eZ m k c=0):
  Hm n (c+1) (o+1) (fun i=>if i=o then c else L i) (upZ c o o 0 (ngZ c o m))∧SpE m (upZ c o o 0 (ngZ c o m))∧(upZ c o o 0 (ngZ c o m)).length=m.length:=by
 obtain⟨m3,h3⟩:=nmQ (ngZ c o m);have l3:m3.length=m.length:=by rw[h3,Ba]
 have n3:Ln n m3:=by rw[h3];exact XI H.ln ho
 have r3:∀k,k≠o->nth [] m3 k=nth [] m k:=fun k hk=>by rw[h3,wn ho,if_neg (fun g=>hk g.1)]
 have o3:∀j,eZ m3 o j=if eZ m o c<0 then-eZ m o j else eZ m o j:=fun j=>by
  simp only[eZ,h3];rw[wn ho];by_cases g:eZ m o c<0
  .rw[if_pos ⟨rfl,g⟩,if_pos g,wi]
  .rw[if_neg (fun x=>g x.2),if_neg g]
 have p3:0<eZ m3 o c:=by rw[o3];split<;>omega
 have z3:∀j,j<c->eZ m3 o j=0:=fun j hj=>by grind[Hm.zer]
 have U:=IH (c:=c) (o:=o) o 0 n3 aa aa (.inr aa);rw[<-h3];obtain⟨m4,h4⟩:=nmQ (upZ c o o 0 m3);rw[<-h4]at U ⊢
 have i4:∀i,i<o->∀j,eZ m4 i j=eZ m i j-(eZ m i c).fdiv (eZ m3 o c)*eZ m3 o j:=fun i hi j=>by
  have:=U.inn i aa aa j;rw[this];simp only[eZ,r3 i aa]
 have j4:∀i,i<o->∀j,j<c->eZ m4 i j=eZ m i j:=fun i hi j hj=>by grind
 have k4:∀k,o<=k->∀j,eZ m4 k j=eZ m3 k j:=fun k hk j=>by simp only[eZ,U.out k (.inr aa)]
 have c4:∀i,i<o->0<=eZ m4 i c∧eZ m4 i c<eZ m3 o c:=fun i hi=>by
  have e:eZ m4 i c=(eZ m i c).fmod (eZ m3 o c):=by
   rw[i4 i hi c,Int.fmod_def,Yj]
  simp_all[Int.fmod_nonneg_of_pos,Int.fmod_lt_of_pos]
 refine⟨⟨by rw[U.len];omega,U.ln,fun i hi=>?_,fun i j hij hj=>?_,fun i hi=>?_,fun i hi j hj=>?_,fun i j hij hj=>?_,fun k a b j hj=>?_⟩,?_,by rw[U.len,l3]⟩
 .show(if i=o then c else L i)<c+1
  split
  .omega
  .have:=H.lt i aa;omega
 .show(if i=o then c else L i)<(if j=o then c else L j)
  rw[if_neg aa];split
  .exact H.lt i aa
  .exact H.inc i j hij aa
 .show 0<eZ m4 i (if i=o then c else L i)
  by_cases e:i=o
  .grind
  .rw[if_neg e,j4 i aa _ (H.lt i aa)];exact H.pos i aa
 .have hj:j<(if i=o then c else L i):=hj;by_cases e:i=o
  .grind
  .rw[if_neg e]at hj;have:=H.lt i aa;rw[j4 i aa _ aa];exact H.low i aa j hj
 .show 0<=eZ m4 i (if j=o then c else L j)∧eZ m4 i (if j=o then c else L j)<eZ m4 j (if j=o then c else L j)
  by_cases e:j=o
  .rw[if_pos e,e,k4 o (Z8 _)];exact c4 i aa
  .rw[if_neg e,j4 i aa _ (H.lt j aa),j4 j aa _ (H.lt j aa)];exact H.red i j hij aa
 .rw[U.len,l3]at b;rw[k4 k aa];have e:eZ m3 k j=eZ m k j:=by simp only[eZ,r3 k aa]
  rw[e];by_cases g:j=c
  .subst g;exact h1 k aa b
  .exact H.zer k aa b j aa
 grind[abp,SpE.trans,Ny.sp]
def rdZ(B c f o:Nat)(m:Mz):Option (Nat×Mz):=kC [] (fun r=>r) (fun _ r=>r) B c f o m
theorem Fl{n c B:Nat}:∀(f:Nat){o:Nat}{L:Nat->Nat}{m m':Mz}{o':Nat},Hm n c o L m->o<m.length->rdZ B c f o m=some (o',m')->(∃L',Hm n (c+1) o' L' m')∧SpE m m'∧m'.length=m.length
 |0,o,L,m,m',o',H,ho,h=>by cases h
 | f+1,o,L,m,m',o',H,ho,h=>by
  have key:rdZ B c (f+1) o m=if(m.all fun a=>bdZ B a)=true then
   (if aZ c m (m.length-o) o (-1)<0 then some (o,m)else
    if(Cq c o (m.length-(o+1)) (o+1) false (swZ m o (aZ c m (m.length-o) o (-1)).toNat)).1=true then rdZ B c f o (Cq c o (m.length-(o+1)) (o+1) false (swZ m o (aZ c m (m.length-o) o (-1)).toNat)).2
    else some (o+1,upZ c o o 0 (ngZ c o (Cq c o (m.length-(o+1)) (o+1) false (swZ m o (aZ c m (m.length-o) o (-1)).toNat)).2)))else none:=rfl
  rw[key]at h;have A:=DF c m o (m.length-o) o (-1) (.inl ⟨aa,fun k a b=>by omega⟩) (Z8 _);obtain⟨a,ha⟩:=nmQ (aZ c m (m.length-o) o (-1));rw[<-ha]at A h;split at h
  case isFalse=>cases h
  split at h
  .rename_i g;cases h;rcases A with⟨_,A⟩|⟨A,_⟩
   .exact⟨⟨L,acB H fun k h1 h2=>A k h1 aa⟩,SpE.refl _,rfl⟩
   .omega
  .rename_i g;rcases A with⟨A,_⟩|⟨A1,A2,A3⟩
   .omega
   have hi:a.toNat<m.length:=aa;obtain⟨m1,h1⟩:=nmQ (swZ m o a.toNat);have l1:m1.length=m.length:=by rw[h1,vO]
   have n1:Ln n m1:=by rw[h1];exact Jy H.ln ho hi
   have s1:SpE m m1:=by rw[h1];exact UG ho hi
   have e1:∀k,nth [] m1 k=if k=a.toNat then nth [] m o else if k=o then nth [] m a.toNat else nth [] m k:=fun k=>by grind[ui]
   have H1:Hm n c o L m1:=QU H l1 n1 (fun i hi'=>by rw[e1,if_neg aa,if_neg aa]) (fun k a1 a2 j hj=>by
    simp only[eZ,e1];split
    .grind[Hm.zer]
    .split
     .exact H.zer a.toNat aa hi j hj
     grind[Hm.zer])
   have p1:eZ m1 o c≠0:=by
    simp only[eZ,e1];split
    .grind
    .trivial
   rw[<-h1]at h;have S:=uh (n:=n) (c:=c) (o:=o) (m.length-(o+1)) (o+1) false n1 aa aa (.inl aa);obtain⟨s,hs⟩:=nmQ (Cq c o (m.length-(o+1)) (o+1) false m1);rw[<-hs]at S h;obtain⟨S1,S2⟩:=S;have l2:s.2.length=m.length:=by rw[S1.len,l1]
   have eo:nth [] s.2 o=nth [] m1 o:=S1.out o (.inl aa)
   have H2:Hm n c o L s.2:=QU H1 S1.len S1.ln (fun i hi'=>S1.out i (.inl aa)) (fun k a1 a2 j hj=>by
    by_cases hk:k=o
    .subst hk;simp only[eZ,eo];exact H1.zer k (Z8 _) aa j hj
    .rw[S1.inn k aa aa j,H1.zer k a1 a2 j hj,H1.zer o (Z8 _) aa j hj];simp)
   split at h
   .have ih:=Fl f H2 aa h;exact⟨ih.1,(s1.trans S1.sp).trans ih.2.1,by rw[ih.2.2,l2]⟩
   .rename_i gs;cases h;have z:=S2 (by grind)
    have E:=afi (c:=c) H2 aa (by grind) (fun k a1 a2=>by
     rw[S1.inn k aa aa c];have:=z.2 k aa aa;rw[Int.fmod_def,Yj]at this;omega)
    exact⟨⟨_,E.1⟩,(s1.trans S1.sp).trans E.2.1,by rw[E.2.2,l2]⟩
def clZ(B f r c o:Nat)(m:Mz):Option (Nat×Mz):=oQ [] (fun r=>r) (fun _ r=>r) B f r c o m
theorem QV{n B f:Nat}:∀(r:Nat){c o:Nat}{L:Nat->Nat}{m m':Mz}{o':Nat},Hm n c o L m->clZ B f r c o m=some (o',m')->(∃L',Hm n (c+r) o' L' m')∧SpE m m'∧m'.length=m.length
 | 0,c,o,L,m,m',o',H,h=>by
  cases h
  grind[SpE.refl]
 | r+1,c,o,L,m,m',o',H,h=>by
  have h2:oQ [] (fun r=>r) (fun _ r=>r) B f (r+1) c o m=some (o',m'):=h;simp only[oQ]at h2;split at h2
  .rename_i ho;split at h2
   .rename_i o1 m1 hr;obtain⟨⟨L1,H1⟩,s1,l1⟩:=Fl f H ho hr;obtain⟨⟨L2,H2⟩,s2,l2⟩:=QV r H1 h2;exact⟨⟨L2,by rw[show c+(r+1)=c+1+r by omega];exact H2⟩,s1.trans s2,by rw[l2,l1]⟩
   trivial
  .rename_i ho;cases h2;have e:∀k,o<=k->k<m.length->False:=fun k a b=>by omega
   exact⟨⟨L,⟨H.le,H.ln,fun i hi=>by have:=H.lt i hi;omega,H.inc,H.pos,H.low,H.red,fun k a b=>absurd (e k a b) id⟩⟩,SpE.refl _,rfl⟩
theorem Dr{n B f columns:Nat}{o:Nat}(hl:Ln n m)(h:ql B f columns m=some (o,m')):(∃L,Hm n columns o L m')∧SpE m m'∧m'.length=m.length:=by
 have H:Hm n 0 0 (fun _=>0) m:=⟨aa,hl,fun i hi=>by omega,fun i j h1 h2=>by omega,fun i hi=>by omega,fun i hi=>by omega,fun i j h1 h2=>by omega,fun k a b j hj=>by omega⟩;have:=QV (n:=n) (B:=B) (f:=f) columns H h
 grind
def ldZ(L:Nat->Nat)(m:Mz):Nat->Nat->List (Nat×Ve)
 |0,_=>[]
 |r+1,i=>(L i,ve (nth [] m i))::ldZ L m r (i+1)
theorem uB{L:Nat->Nat}{m:Mz}:∀{r i:Nat} {x},x∈ldZ L m r i->∃k,i<=k∧k<i+r∧x=(L k,ve (nth [] m k))
 |0,i,x,h=>by trivial
 | r+1,i,x,h=>by
  simp only[ldZ,Zx]at h;rcases h with rfl|h
  .exact⟨i,aa,aa,rfl⟩
  .obtain⟨k,a,b,e⟩:=uB h;exact⟨k,aa,aa,e⟩
theorem uK{n c o:Nat}{L:Nat->Nat}{m:Mz}(H:Hm n c o L m):∀(r i b:Nat),i+r=o->(i<o->b<=L i)->Hnf b (ldZ L m r i)
 |0,i,b,e,h=>trivial
 | r+1,i,b,e,h=>by
  refine⟨⟨h aa,H.pos i aa,fun j hj=>H.low i aa j hj⟩,fun x hx=>?_,uK H r (i+1) (L i+1) aa (fun hi=>by have:=H.inc i (i+1) aa hi;omega)⟩;obtain⟨k,a1,a2,rfl⟩:=uB hx;exact H.red i k aa aa
theorem aen{n:Nat}{k o:Nat}(H:Hm n c o L m)(hc:n<=c)(h1:o<=k)(h2:k<m.length):ve (nth [] m k)=fun _=>0:=funext fun j=>by
 by_cases h:j<c
 .exact H.zer k h1 h2 j h
 .show nth 0 (nth [] m k) j=0
  have:=H.ln k h2;rw[nth,Z6,List.getElem?_eq_none aa];rfl
theorem rj{n o:Nat}(H:Hm n c o L m)(hc:n<=c)(v:Ve):Spn (vs (ldZ L m o 0)) v↔SpZ m v:=by
 have key:∀r i k,i<=k->k<i+r->ve (nth [] m k)∈vs (ldZ L m r i):=by
  intro r
  induction r with
  |zero=>omega
  | succ r ih=>
   intro i k a b;simp only[vs,ldZ,Zv,Zx];by_cases e:k=i
   .exact .inl (by rw[e])
   .exact .inr (ih (i+1) k aa aa)
 constructor
 .intro h;refine Spn.le (fun g hg=>?_) h;obtain⟨x,hx,rfl⟩:=Zy.1 hg;obtain⟨k,a1,a2,rfl⟩:=uB hx;exact gr (by have:=H.le;omega)
 .intro h;refine Spn.le (fun g hg=>?_) h;obtain⟨r,hr,rfl⟩:=Zy.1 hg;obtain⟨k,hk,rfl⟩:=Zd.1 hr;have e:m[k]=nth [] m k:=by rw[nth,Z6,List.getElem?_eq_getElem hk];rfl
  rw[e];by_cases hko:k<o
  .exact Spn.mem (key o 0 k aa aa)
  .rw[aen H hc aa hk];exact Spn.zero _
theorem aeo{a b:LiQ}(hl:a.length=b.length)(h:ve a=ve b):a=b:=by
 refine Wg hl fun i h1 h2=>?_
 have:=congrFun h i
 grind[ve,nth]
theorem zq(L:Nat->Nat)(m:Mz):∀r i,(ldZ L m r i).length=r
 |0,_=>rfl
 |r+1,i=>by simp[ldZ,zq L m r (i+1)]
theorem QM{L L':Nat->Nat}{m m':Mz}:∀{r i:Nat},ldZ L m r i=ldZ L' m' r i->∀k,i<=k->k<i+r->ve (nth [] m k)=ve (nth [] m' k)
 |0,i,_,k,a,b=>by omega
 | r+1,i,h,k,a,b=>by
  simp only[ldZ,List.cons.injEq,Z5]at h;by_cases e:k=i
  .grind
  .exact QM h.2 k aa aa
def dtV:Nat->Ve->Ve->Int
 |0,_,_=>0
 |n+1,a,b=>dtV n a b+a n*b n
theorem xg(a u v:Ve):∀n,dtV n a (fun i=>u i+v i)=dtV n a u+dtV n a v
 |0=>rfl
 |n+1=>by simp only[dtV,xg a u v n];grind
theorem uO(a u:Ve)(k:Int):∀n,dtV n a (fun i=>k*u i)=k*dtV n a u
 |0=>by simp[dtV]
 |n+1=>by simp only[dtV,uO a u k n];grind
theorem qm(a:Ve):∀n,dtV n a (fun _=>0)=0
 |0=>rfl
 |n+1=>by simp[dtV,qm a n]
theorem qn(a b:Ve):∀n,dtV n a b=dtV n b a
 |0=>rfl
 |n+1=>by simp only[dtV,qn a b n];grind
def Krn(n:Nat)(S:Ve->Prop)(v:Ve):Prop:=(∀u,S u->dtV n u v=0)∧∀j,n<=j->v j=0
theorem E8{n:Nat}{S T:Ve->Prop}(h:∀u,S u->T u){v:Ve}(hv:Krn n T v):Krn n S v:=⟨fun u hu=>hv.1 u (h u hu),hv.2⟩
theorem S8{n:Nat}{S:Ve->Prop}(hS:∀u,S u->∀j,n<=j->u j=0)(v:Ve):Krn n (Krn n (Krn n S)) v↔Krn n S v:=by
 constructor
 .exact fun h=>E8 (fun u hu=>⟨fun w hw=>by rw[qn];exact hw.1 u hu,hS u hu⟩) h
 .exact fun h=>⟨fun u hu=>by rw[qn];exact hu.1 v h,h.2⟩
theorem Dv{n:Nat}{v:Ve}:∀{m:List Ve},(∀g∈m,dtV n g v=0)->∀{u},Spn m u->dtV n u v=0
 | m,h,u,⟨ks,e⟩=>by
  subst e;rw[qn]
  induction m generalizing ks with
  |nil=>cases ks<;>exact qm v n
  | cons g m ih=>
   cases ks with
   |nil=>exact qm v n
   | cons k ks=>
    have e:cmb (k::ks) (g::m)=fun i=>(fun i=>k*g i) i+cmb ks m i:=rfl
    rw[e,xg,uO,ih (fun x hx=>h x (by simp[hx])) ks,qn v g,h g ae];simp
theorem tA(n:Nat)(m:Mz):(km n m).length=n:=by simp[km]
theorem Kt{n:Nat}(hc:c<n):nth [] (km n m) c=m.map (fun r=>nth 0 r c)++(List.replicate n (0:Int)).set c 1:=by rw[nth,Z6,km,List.getElem?_map,List.getElem?_range hc];rfl
theorem yH{n:Nat}(hc:c<n)(i:Nat):ve (nth [] (km n m) c) i=if i<m.length then ve (nth [] m i) c else if i=m.length+c then 1 else 0:=by
 rw[Kt hc]
 show nth 0 _ i=_
 by_cases h:i<m.length
 .rw[if_pos h,nth,Z6,List.getElem?_append_left (by grind),List.getElem?_map,List.getElem?_eq_getElem h];have e:nth [] m i=m[i]:=by rw[nth,Z6,List.getElem?_eq_getElem h];rfl
  rw[e];rfl
 .rw[if_neg h,nth,Z6,List.getElem?_append_right (by grind),List.length_map,List.getElem?_set,Y8];by_cases e:i=m.length+c
  .rw[if_pos aa,if_pos hc,if_pos e];rfl
  .rw[if_neg aa,if_neg e,List.getElem?_replicate]
   grind
def Wid(n:Nat)(m:Mz)(v:Ve):Prop:=(∀i,i<m.length->v i=dtV n (ve (nth [] m i)) fun c=>v (m.length+c))∧∀j,m.length+n<=j->v j=0
theorem Wid.add{n:Nat}{v:Ve}(hu:Wid n m u)(hv:Wid n m v):Wid n m fun i=>u i+v i:=
 ⟨fun i hi=>by
  show u i+v i=dtV n _ fun c=>u (m.length+c)+v (m.length+c)
  rw[hu.1 i hi,hv.1 i hi,<-xg],fun j hj=>by simp only[hu.2 j hj,hv.2 j hj];rfl⟩
theorem Wid.mul{n:Nat}(k:Int)(hu:Wid n m u):Wid n m fun i=>k*u i:=
 ⟨fun i hi=>by
  show k*u i=dtV n _ fun c=>k*u (m.length+c)
  rw[hu.1 i hi,<-uO],fun j hj=>by simp only[hu.2 j hj];simp⟩
theorem Wid.zero(n:Nat)(m:Mz):Wid n m fun _=>0:=⟨fun i hi=>(qm _ _).symm,fun _ _=>rfl⟩
theorem zX(a:Ve)(c:Nat):∀n,dtV n a (fun j=>if j=c then 1 else 0)=if c<n then a c else 0
 |0=>rfl
 | n+1=>by
  simp only[dtV,zX a c n];by_cases h:n=c
  .grind
  .rw[if_neg h];by_cases g:c<n
   .rw[if_pos g,if_pos aa];simp
   .rw[if_neg g,if_neg aa];simp
theorem abe{n:Nat}(hc:c<n):Wid n m (ve (nth [] (km n m) c)):=by
 refine⟨fun i hi=>?_,fun j hj=>?_⟩
 ·have e:(fun x=>ve (nth [] (km n m) c) (m.length+x))=fun j=>if j=c then 1 else 0:=funext fun x=>by
   rw[yH hc,if_neg aa];by_cases g:x=c
   .rw[if_pos aa,if_pos g]
   .rw[if_neg aa,if_neg g]
  grind[zX,yH]
 .rw[yH hc,if_neg aa,if_neg aa]
theorem aem{n:Nat}{v:Ve}(h:SpZ (km n m) v):Wid n m v:=by
 obtain⟨ks,rfl⟩:=h
 have key:∀(l:List Ve),(∀g∈l,Wid n m g)->∀ks,Wid n m (cmb ks l):=by
  intro l
  induction l with
  |nil=>intro _ ks;cases ks<;>exact Wid.zero n m
  | cons g l ih=>
   intro hg ks;cases ks with
   |nil=>exact Wid.zero n m
   |cons k ks=>exact((hg g ae).mul k).add (ih (fun x hx=>hg x (by grind)) ks)
 refine key _ (fun g hg=>?_) ks;obtain⟨r,hr,rfl⟩:=Zy.1 hg;obtain⟨c,hc,rfl⟩:=Zd.1 hr;have hc':c<n:=by rw[tA]at hc;exact hc
 have e:(km n m)[c]=nth [] (km n m) c:=by rw[nth,Z6,List.getElem?_eq_getElem hc];rfl
 grind[abe]
theorem Ku{n:Nat}{m:Mz}(v:Ve):∀t,t<=n->∃s,SpZ (km n m) s∧(∀i,i<m.length->s i=dtV t (ve (nth [] m i)) fun c=>v (m.length+c))∧(∀c,c<t->s (m.length+c)=v (m.length+c))∧∀c,t<=c->s (m.length+c)=0
 |0,_=>⟨fun _=>0,Spn.zero _,fun i hi=>rfl,fun c hc=>by omega,fun c hc=>rfl⟩
 | t+1,ht=>by
  obtain⟨s,h1,h2,h3,h4⟩:=Ku (n:=n) (m:=m) v t aa;have hr:SpZ (km n m) (ve (nth [] (km n m) t)):=gr (m:=km n m) (i:=t) (by grind[tA]);have e1:=fun i=>yH (n:=n) (m:=m) (c:=t) aa i
  refine⟨fun i=>s i+v (m.length+t)*ve (nth [] (km n m) t) i,h1.add (hr.mul _),fun i hi=>?_,fun c hc=>?_,fun c hc=>?_⟩
  .grind[dtV]
  .show s (m.length+c)+v (m.length+t)*ve (nth [] (km n m) t) (m.length+c)=_
   rw[e1,if_neg aa];by_cases g:c=t
   .grind
   .rw[h3 c aa,if_neg aa];simp
  .show s (m.length+c)+v (m.length+t)*ve (nth [] (km n m) t) (m.length+c)=_
   rw[e1,if_neg aa,h4 c aa,if_neg aa];simp
theorem ael{n:Nat}{v:Ve}(h:Wid n m v):SpZ (km n m) v:=by
 obtain⟨s,h1,h2,h3,h4⟩:=Ku (n:=n) (m:=m) v n (Z8 _)
 have e:s=v:=funext fun i=>by
  by_cases hi:i<m.length
  .rw[h2 i hi,h.1 i hi]
  .obtain⟨c,rfl⟩:∃c,i=m.length+c:=⟨i-m.length,aa⟩;by_cases hc:c<n
   .grind
   .rw[h4 c aa,h.2 _ aa]
 grind
theorem G2{n:Nat}(v:Ve):SpZ (km n m) v↔Wid n m v:=⟨aem,ael⟩
theorem yq:∀{m:List (Nat×Ve)}{o:Nat},Hnf o m->∀(k:Nat){v:Ve},Spn (vs m) v->(∀j,j<k->v j=0)->Spn (vs (m.filter fun x=>decide (k<=x.1))) v
 |[],o,H,k,v,hv,h0=>hv
 | (l,h)::m,o,H,k,v,hv,h0=>by
  by_cases g:k<=l
  ·have e:((l,h)::m).filter (fun x=>decide (k<=x.1))=(l,h)::m:=List.filter_eq_self.2 fun x hx=>by
    rcases Zx.1 hx with rfl|hx
    .simpa using g
    .have:=yp H.2.2 x hx;simp only[decide_eq_true_eq];omega
   rw[e];exact hv
  ·have e:((l,h)::m).filter (fun x=>decide (k<=x.1))=m.filter (fun x=>decide (k<=x.1)):=by
    rw[List.filter_cons_of_neg (by simpa using g)]
   rw[e];exact yq H.2.2 k (zE H hv (h0 l aa)) h0
def BdE(E:Nat)(m:Mz):Prop:=∀i j,(eZ m i j).natAbs<=E
theorem BdE.mono(h:E<=E')(b:BdE E m):BdE E' m:=fun i j=>Zz (b i j) h
theorem JO{b:Int}(h:0<b):0<=a.fmod b∧a.fmod b<b:=⟨Int.fmod_nonneg_of_pos a h,Int.fmod_lt_of_pos a h⟩
theorem ZB{b:Int}(h:b<0):b<a.fmod b∧a.fmod b<=0:=by
 have:=JO (a:=-a) (b:=-b) aa
 simp_all
theorem ZF{b:Int}(h:b≠0):(a.fdiv b).natAbs<=a.natAbs:=by
 have key:∀(a b:Int),0<b->(a.fdiv b).natAbs<=a.natAbs:=fun a b hb=>by
  have h1:=Int.mul_fdiv_add_fmod a b;have h2:=JO (a:=a) hb;generalize a.fdiv b=q at *;generalize a.fmod b=r at *;have h3:q.natAbs*1<=q.natAbs*b.natAbs:=Z0 _ aa;rcases Int.lt_trichotomy q 0 with hq|hq|hq
  .have h4:b*(-q)≥1*(-q):=Ys aa aa;have h5:b*(-q) = -(b*q):=Int.mul_neg ..;rcases Int.lt_trichotomy a 0 with ha|ha|ha
   .have h6:b*(-q-1)≥1*(-q-1):=Ys aa aa;have h7:b*(-q-1) = -(b*q)-b:=by rw[Int.mul_sub];omega
    omega
   .have h6:b*(-q)≥b*1:=Xg aa aa;omega
   .have h6:b*(-q)≥b*1:=Xg aa aa;omega
  .omega
  .have h4:b*q≥1*q:=Ys aa aa;omega
 rcases Int.lt_trichotomy b 0 with hb|hb|hb
 .have:=key (-a) (-b) aa
  simp_all
 .omega
 grind
theorem aaU{B:Nat}(h:BdE E m)(hE:E<10^B):(m.all fun a=>bdZ B a)=true:=by
 rw[Z2];intro r hr;obtain⟨i,hi,rfl⟩:=Zd.1 hr
 show(m[i].all fun x=>decide (x.natAbs<10^B))=true
 rw[Z2];intro x hx;obtain⟨j,hj,rfl⟩:=Zd.1 hx;have:=h i j
 grind[nth]
theorem D7{n o:Nat}{Q:Nat}(S:Ny n c o i r m m')(h:BdE E m)(hq:∀k,i<=k->k<i+r->((eZ m k c).fdiv (eZ m o c)).natAbs<=Q):BdE (E*(1+Q)) m':=fun k j=>by
 have hE:E<=E*(1+Q):=Y7 _ aa;by_cases hk:i<=k∧k<i+r
 .rw[S.inn k hk.1 hk.2 j];have h1:=Int.natAbs_sub_le (eZ m k j) ((eZ m k c).fdiv (eZ m o c)*eZ m o j);rw[Zl]at h1;have h2:=Zp (hq k hk.1 hk.2) (h o j);have h3:=h k j
  grind
 .have:eZ m' k j=eZ m k j:=by simp only[eZ,S.out k aa]
  rw[this];exact Zz (h k j) hE
theorem adF{o a:Nat}(ho:o<m.length)(ha:a<m.length)(h:BdE E m):BdE E (swZ m o a):=fun k j=>by
 simp only[eZ,ui ho ha];split
 .exact h o j
 .split
  .exact h a j
  .exact h k j
theorem ahj{o:Nat}(ho:o<m.length)(h:BdE E m):BdE E (ngZ c o m):=fun k j=>by
 simp only[eZ,wn ho];split
 .rw[wi];have:=h o j
  grind
 .exact h k j
theorem aa1(c:Nat)(m:Mz)(o:Nat):∀(r i:Nat)(a:Int),(0<=a->∀k,o<=k->k<i->eZ m k c≠0->(eZ m a.toNat c).natAbs<=(eZ m k c).natAbs)->(a<0->∀k,o<=k->k<i->eZ m k c=0)->o<=i ->
  0<=aZ c m r i a->∀k,o<=k->k<i+r->eZ m k c≠0->(eZ m (aZ c m r i a).toNat c).natAbs<=(eZ m k c).natAbs
 |0,i,a,h,_,hi=>by trivial
 | r+1,i,a,h,h0,hi=>by
  have key:aZ c m (r+1) i a=aZ c m r (i+1) (if eZ m i c≠0∧(a<0∨(eZ m i c).natAbs<(eZ m a.toNat c).natAbs)then i else a):=rfl;rw[key];have e:i+1+r=i+(r+1):=aa;rw[<-e];refine aa1 c m o r (i+1) _ ?_ ?_ aa
  .split
   .rename_i g;intro _ k a1 a2 hk;by_cases ek:k=i
    .grind
    .rcases g.2 with g2|g2
     .exact absurd (h0 g2 k a1 aa) hk
     .by_cases ha:0<=a
      .have:=h ha k a1 aa hk
       grind
      .exact absurd (h0 aa k a1 aa) hk
   .rename_i g;intro ha k a1 a2 hk;by_cases ek:k=i
    .grind
    .exact h ha k a1 aa hk
  .split
   .omega
   .rename_i g;intro ha k a1 a2;by_cases ek:k=i
    .grind
    .exact h0 ha k a1 aa
theorem xS{n c o:Nat}:∀(r i:Nat)(b:Bool){m:Mz},Ln n m->o<m.length->i+r<=m.length->(o<i∨i+r<=o)->(Cq c o r i b m).1=true->b=true∨∃k,i<=k∧k<i+r∧(eZ m k c).fmod (eZ m o c)≠0
 |0,i,b,m,hl,ho,hi,hoi,h=>.inl h
 | r+1,i,b,m,hl,ho,hi,hoi,h=>by
  have ih:=xS (c:=c) r (i+1) (b||decide ((eZ m i c).fmod (eZ m o c)≠0)) (m:=tkZ c o m i) (Jw hl aa ho) (by grind[rM]) (by grind[rM]) aa h;rcases ih with ih|⟨k,a1,a2,a3⟩
  .grind
  .have eo:nth [] (tkZ c o m i) o=nth [] m o:=p9 aa aa;have ek:nth [] (tkZ c o m i) k=nth [] m k:=p9 aa aa;simp only[eZ,eo,ek]at a3;exact .inr ⟨k,aa,aa,a3⟩
theorem C5(B c f o:Nat)(m:Mz):rdZ B c (f+1) o m=if(m.all fun a=>bdZ B a)=true then
   (if aZ c m (m.length-o) o (-1)<0 then some (o,m)else
    if(Cq c o (m.length-(o+1)) (o+1) false (swZ m o (aZ c m (m.length-o) o (-1)).toNat)).1=true then rdZ B c f o (Cq c o (m.length-(o+1)) (o+1) false (swZ m o (aZ c m (m.length-o) o (-1)).toNat)).2
    else some (o+1,upZ c o o 0 (ngZ c o (Cq c o (m.length-(o+1)) (o+1) false (swZ m o (aZ c m (m.length-o) o (-1)).toNat)).2)))else none:=rfl
theorem Jb{B c:Nat}:∀(f g:Nat){o:Nat}{m:Mz}{r:Nat×Mz},rdZ B c f o m=some r->f<=g->rdZ B c g o m=some r
 |0,g,o,m,r,h,_=>by cases h
 |f+1,0,o,m,r,h,hg=>by omega
 | f+1,g+1,o,m,r,h,hg=>by
  rw[C5]at h ⊢;split at h
  .rename_i h1;rw[if_pos h1];split at h
   .grind
   .rename_i h2;rw[if_neg h2];split at h
    .rename_i h3;rw[if_pos h3];exact Jb f g h aa
    grind
  .cases h
theorem ZO{n o:Nat}(hl:Ln n m)(ho:o<m.length)(h0:eZ m o c≠0)(h:BdE E m):BdE (2*E*E) (upZ c o o 0 (ngZ c o m)):=by
 have h1:=ahj (c:=c) ho h;have l1:(ngZ c o m).length=m.length:=Ba c o m
 have h2:eZ (ngZ c o m) o c≠0:=by
  simp only[eZ,wn ho];split
  .grind[wi]
  .exact h0
 have hE:1<=E:=by have:=h o c;omega
 refine BdE.mono ?_ (D7 (Q:=E) (IH (c:=c) o 0 (XI hl ho) aa aa (.inr aa)) h1 (fun k _ _=>Zz (ZF h2) (h1 k c)));rw[Zm,Ym,Nat.mul_assoc,Nat.two_mul];have:E*1<=E*E:=Z0 _ hE;omega
theorem aeu{p:Nat}(h:p<=M):2*p*(M-p)<=M*M:=by
 obtain⟨d,rfl⟩:∃d,M=p+d:=⟨M-p,aa⟩
 grind
theorem ajN{p p':Nat}(h0:0<p)(h:p<=M)(h1:p'<=p)(h2:M/p=1->p'<=M-p):(1+M/p)*p*p'<=M*M:=by
 have hq:1<=M/p:=(Xk h0).2 aa;have hm:M/p*p<=M:=Wc M p;by_cases e:M/p=1
 .have:=h2 e;rw[e];exact Zz (Z0 _ this) (aeu h)
 .generalize M/p=q at *
  have h3:1+q<=q*q:=by
   have:2*q<=q*q:=Zu _ aa;omega
  calc (1+q)*p*p'<=q*q*p*p:=Zp (Zu _ h3) h1
   _=(q*p)*(q*p):=by rw[Nat.mul_assoc q q p,Nat.mul_assoc q (q*p) p,Nat.mul_assoc q p p,Nat.mul_assoc q p (q*p),Yz p q p]
   _<=M*M:=Zp hm hm
structure aba(n c o:Nat)(s:Int)(E M:Nat)(m:Mz):Prop where
 ln:Ln n m
 ho:o<m.length
 hs:s=1∨s = -1
 col:∀k,o<=k->k<m.length->0<=s*eZ m k c∧s*eZ m k c<=M
 bd:BdE E m
theorem aeK{n B o W:Nat}(hW:W<10^B){s:Int}:∀(p:Nat){E M:Nat}{m:Mz},aba n c o s E M m->1<=E->(∃k,o<=k∧k<m.length∧eZ m k c≠0∧(eZ m k c).natAbs<=p)->2*E*(M*M)*p<=W ->
  ∃f o' m',rdZ B c f o m=some (o',m')∧BdE (2*W*W) m'∧o'=o+1:=by
 intro p
 induction p using Nat.strongRecOn with
 |ind p ih=>
 intro E M m S hE ⟨k0,k1,k2,k3,k4⟩ hw;have ho:=S.ho;have A:=DF c m o (m.length-o) o (-1) (.inl ⟨aa,fun k a b=>by omega⟩) (Z8 _);have A2:=aa1 c m o (m.length-o) o (-1) (fun h=>by omega) (fun _ k a b=>by omega) (Z8 _);obtain⟨a,ha⟩:=nmQ (aZ c m (m.length-o) o (-1));rw[<-ha]at A A2;rcases A with⟨_,A⟩|⟨a1,a2,a3⟩
 .exact absurd (A k0 k1 aa) k3
 have hi:a.toNat<m.length:=aa;have amin:=A2 aa;obtain⟨p0,hp0⟩:=nmQ ((eZ m a.toNat c).natAbs);have p0p:p0<=p:=by rw[hp0];exact Zz (amin k0 k1 aa k3) k4
 have p0pos:0<p0:=aa;have ca:=S.col a.toNat aa hi;have sp0:s*eZ m a.toNat c=p0:=by rcases S.hs with h|h<;>subst h<;>omega
 have p0M:p0<=M:=aa;obtain⟨m1,h1⟩:=nmQ (swZ m o a.toNat);have l1:m1.length=m.length:=by rw[h1,vO]
 have n1:Ln n m1:=by rw[h1];exact Jy S.ln ho hi
 have e1:∀k,nth [] m1 k=if k=a.toNat then nth [] m o else if k=o then nth [] m a.toNat else nth [] m k:=fun k=>by grind[ui]
 have b1:BdE E m1:=by rw[h1];exact adF ho hi S.bd
 have eo:eZ m1 o c=eZ m a.toNat c:=by
  simp only[eZ,e1];split
  .grind
  .rw[if_pos trivial]
 have any1:∀k,o<=k->k<m.length->∃k',o<=k'∧k'<m.length∧eZ m1 k c=eZ m k' c:=fun k q1 q2=>by
  simp only[eZ,e1];split
  .grind
  .split
   .exact⟨a.toNat,aa,hi,rfl⟩
   grind
 obtain⟨Q,hQ⟩:=nmQ (M/p0)
 -- a row behind
 have row:∀k,o<=k->k<m.length->0<=(eZ m1 k c).fdiv (eZ m1 o c)∧((eZ m1 k c).fdiv (eZ m1 o c)).natAbs<=Q∧0<=s*(eZ m1 k c).fmod (eZ m1 o c)∧s*(eZ m1 k c).fmod (eZ m1 o c)<p0 ∧
   s*eZ m1 k c=p0*(eZ m1 k c).fdiv (eZ m1 o c)+s*(eZ m1 k c).fmod (eZ m1 o c)∧s*eZ m1 k c<=M:=fun k q1 q2=>by
  obtain⟨k',r1,r2,r3⟩:=any1 k q1 q2;have c1:=S.col k' r1 r2;rw[<-r3]at c1;have d1:=Int.mul_fdiv_add_fmod (eZ m1 k c) (eZ m1 o c);have sp1:s*eZ m1 o c=p0:=by rw[eo];exact sp0
  have f1:0<=s*(eZ m1 k c).fmod (eZ m1 o c)∧s*(eZ m1 k c).fmod (eZ m1 o c)<p0:=by
   rcases S.hs with h|h
   .subst h;have:=JO (a:=eZ m1 k c) (b:=eZ m1 o c) aa;omega
   .subst h;have:=ZB (a:=eZ m1 k c) (b:=eZ m1 o c) aa;omega
  generalize(eZ m1 k c).fdiv (eZ m1 o c)=q at *;generalize(eZ m1 k c).fmod (eZ m1 o c)=r at *;have g1:s*eZ m1 k c=p0*q+s*r:=by rw[<-d1,Vy,<-Int.mul_assoc,sp1]
  have q0:0<=q:=by
   rcases Int.lt_or_le q 0 with hq|hq
   .have:(p0:Int)*q<=p0*(-1):=Xg aa aa;omega
   .exact hq
  refine⟨q0,?_,f1.1,f1.2,g1,c1.2⟩;rw[hQ,Xk p0pos]
  have:(q.natAbs*p0:Int)<=M:=by
   rw[Wx q0,Yj];omega
  omega
 have SW:=uh (n:=n) (c:=c) (o:=o) (m.length-(o+1)) (o+1) false n1 aa aa (.inl aa);have SR:=xS (n:=n) (c:=c) (o:=o) (m.length-(o+1)) (o+1) false n1 aa aa (.inl aa);obtain⟨s2,hs2⟩:=nmQ (Cq c o (m.length-(o+1)) (o+1) false m1);rw[<-hs2]at SW SR;obtain⟨SW,_⟩:=SW
 have b2:BdE (E*(1+Q)) s2.2:=D7 SW b1 fun k q1 q2=>(row k aa aa).2.1
 have l2:s2.2.length=m.length:=by rw[SW.len,l1]
 have eo2:eZ s2.2 o c=eZ m1 o c:=by simp only[eZ,SW.out o (.inl aa)]
 have M1:1<=M:=aa
 have hEW:E*(1+Q)<=W:=by
  refine Zz ?_ hw;have hQM:Q<=M:=by rw[hQ];exact Yo M p0
  have t1:M*1<=M*M:=Z0 _ M1;have t2:E*(1+Q)<=E*(2*(M*M)):=Z0 _ aa;have t3:E*(2*(M*M))*1<=E*(2*(M*M))*p:=Z0 _ aa;rw[Zq 2 E,Nat.mul_assoc E 2];omega
 have hE2:E<=E*(1+Q):=Y7 _ aa;have hall:=aaU (B:=B) S.bd aa
 have step:∀f,rdZ B c (f+1) o m=if s2.1=true then rdZ B c f o s2.2 else some (o+1,upZ c o o 0 (ngZ c o s2.2)):=fun f=>by
  rw[C5,if_pos hall,<-ha,if_neg aa,<-h1,<-hs2]
 cases hb:s2.1 with
 | false=>
  refine⟨1,_,_,by rw[step,hb];rfl,?_,rfl⟩;refine BdE.mono ?_ (ZO (c:=c) SW.ln aa aa b2);exact Zp (Z0 _ hEW) hEW
 | true=>
  rcases SR hb with h|⟨k,q1,q2,q3⟩
  .cases h
  obtain⟨r1,r2,r3,r4,r5,r6⟩:=row k aa aa;obtain⟨p',hp'⟩:=nmQ (((eZ m1 k c).fmod (eZ m1 o c)).natAbs);have sp':s*(eZ m1 k c).fmod (eZ m1 o c)=p':=by rcases S.hs with h|h<;>subst h<;>omega
  have p'lt:p'<p0:=aa
  have val:∀k,o<k->k<m.length->eZ s2.2 k c=(eZ m1 k c).fmod (eZ m1 o c):=fun k a b=>by
   rw[SW.inn k aa aa c,Int.fmod_def,Yj]
  have S2:aba n c o s (E*(1+Q)) p0 s2.2:=⟨SW.ln,aa,S.hs,fun k a b=>by
   by_cases hk:k=o
   .grind
   .rw[val k aa aa];have:=row k a aa;omega,b2⟩
  have hkey:(1+Q)*p0*p'<=M*M:=by
   rw[hQ];refine ajN p0pos p0M aa fun e=>?_
   rw[<-hQ]at e;have nz:eZ m1 k c≠0:=fun hz=>q3 (by rw[hz,Int.zero_fmod])
   obtain⟨k',t1,t2,t3⟩:=any1 k aa aa;have hm:=amin k' t1 aa aa;rw[<-t3,<-hp0]at hm
   have hx:s*eZ m1 k c=(eZ m1 k c).natAbs:=by
    have:0<=s*eZ m1 k c:=by
     have:=S.col k' t1 t2;rw[<-t3]at this;exact this.1
    rcases S.hs with h|h<;>subst h<;>omega
   generalize(eZ m1 k c).fdiv (eZ m1 o c)=q at *
   have q1:q=1:=by
    rcases Int.lt_or_le q 1 with h|h
    .have:q=0:=aa
     grind
    .omega
   subst q1;omega
  obtain ⟨f,o',m',g1,g2,g3⟩:=ih p' aa S2 aa ⟨k,aa,aa,by rw[val k aa aa];exact q3,by rw[val k aa aa];omega⟩ (by
   refine Zz ?_ hw
   calc 2*(E*(1+Q))*(p0*p0)*p'=2*E*p0*((1+Q)*p0*p'):=by grind
    _<=2*E*p0*(M*M):=Z0 _ hkey
    _<=2*E*p*(M*M):=Zu _ (Z0 _ p0p)
    _=2*E*(M*M)*p:=by grind)
  exact⟨f+1,o',m',by rw[step,hb,if_pos rfl];exact g1,g2,g3⟩
theorem Oh(E:Nat)(h:1<=E):∀k,1<=E^k:=fun k=>Nat.one_le_pow k E h
theorem aeL{n B o:Nat}(hl:Ln n m)(ho:o<m.length)(hE:1<=E)(hb:BdE E m)(hW:4*E^5<10^B):
  ∃f o' m',rdZ B c f o m=some (o',m')∧BdE (32*E^10) m'∧(o'=o+1∨o'=o∧m'=m):=by
 have A:=DF c m o (m.length-o) o (-1) (.inl ⟨aa,fun k a b=>by omega⟩) (Z8 _);obtain⟨a,ha⟩:=nmQ (aZ c m (m.length-o) o (-1));rw[<-ha]at A;have e4:=Oh E hE 4;have e9:=Oh E hE 9;have t5:E*1<=E*E^4:=Z0 _ e4;have t10:E*1<=E*E^9:=Z0 _ e9;have p5:E^5=E*E^4:=by rw[Nat.pow_succ,Zq]
 have p10:E^10=E*E^9:=by rw[Nat.pow_succ,Zq]
 have hall:=aaU (B:=B) hb aa;by_cases hneg:a<0
 .exact⟨1,o,m,by rw[C5,if_pos hall,<-ha,if_pos hneg],hb.mono aa,.inr ⟨rfl,rfl⟩⟩
 rcases A with⟨h,_⟩|⟨a1,a2,a3⟩
 .omega
 have hi:a.toNat<m.length:=aa;obtain⟨p0,hp0⟩:=nmQ ((eZ m a.toNat c).natAbs);have p0pos:0<p0:=aa;have p0E:p0<=E:=by rw[hp0];exact hb _ _
 obtain⟨m1,h1⟩:=nmQ (swZ m o a.toNat);have l1:m1.length=m.length:=by rw[h1,vO]
 have n1:Ln n m1:=by rw[h1];exact Jy hl ho hi
 have e1:∀k,nth [] m1 k=if k=a.toNat then nth [] m o else if k=o then nth [] m a.toNat else nth [] m k:=fun k=>by grind[ui]
 have b1:BdE E m1:=by rw[h1];exact adF ho hi hb
 have eo:eZ m1 o c=eZ m a.toNat c:=by
  simp only[eZ,e1];split
  .grind
  .rw[if_pos trivial]
 have SW:=uh (n:=n) (c:=c) (o:=o) (m.length-(o+1)) (o+1) false n1 aa aa (.inl aa);have SR:=xS (n:=n) (c:=c) (o:=o) (m.length-(o+1)) (o+1) false n1 aa aa (.inl aa);obtain⟨s2,hs2⟩:=nmQ (Cq c o (m.length-(o+1)) (o+1) false m1);rw[<-hs2]at SW SR;obtain⟨SW,_⟩:=SW
 have b2:BdE (2*(E*E)) s2.2:=BdE.mono (by
  rw[Zm,Ym];have:E*1<=E*E:=Z0 _ hE;omega) (D7 (Q:=E) SW b1 fun k q1 q2=>Zz (ZF aa) (b1 k c))
 have l2:s2.2.length=m.length:=by rw[SW.len,l1]
 have eo2:eZ s2.2 o c=eZ m1 o c:=by simp only[eZ,SW.out o (.inl aa)]
 have step:∀f,rdZ B c (f+1) o m=if s2.1=true then rdZ B c f o s2.2 else some (o+1,upZ c o o 0 (ngZ c o s2.2)):=fun f=>by
  rw[C5,if_pos hall,<-ha,if_neg hneg,<-h1,<-hs2]
 have q4:E*E*(E*E)*1<=E*E*(E*E)*E^6:=Z0 _ (Oh E hE 6);have q10:E*E*(E*E)*E^6=E^10:=by grind
 cases hbb:s2.1 with
 | false=>
  refine⟨1,_,_,by rw[step,hbb];rfl,?_,.inl rfl⟩;refine BdE.mono ?_ (ZO (c:=c) SW.ln aa aa b2);have:2*(2*(E*E))*(2*(E*E))=8*(E*E*(E*E)):=by grind
  omega
 | true=>
  rcases SR hbb with h|⟨k,q1,q2,q3⟩
  .cases h
  have val:∀k,o<k->k<m.length->eZ s2.2 k c=(eZ m1 k c).fmod (eZ m1 o c):=fun k a b=>by
   rw[SW.inn k aa aa c,Int.fmod_def,Yj]
  obtain ⟨s,hs,sp0⟩:∃s:Int,(s=1∨s = -1)∧s*eZ m1 o c=p0:=by
   rw[eo];by_cases h:0<eZ m a.toNat c
   .exact⟨1,.inl rfl,aa⟩
   .exact⟨-1,.inr rfl,aa⟩
  have sg:∀k,0<=s*(eZ m1 k c).fmod (eZ m1 o c)∧s*(eZ m1 k c).fmod (eZ m1 o c)<p0:=fun k=>by
   rcases hs with h|h
   .subst h;have:=JO (a:=eZ m1 k c) (b:=eZ m1 o c) aa;omega
   .subst h;have:=ZB (a:=eZ m1 k c) (b:=eZ m1 o c) aa;omega
  have S2:aba n c o s (2*(E*E)) p0 s2.2:=⟨SW.ln,aa,hs,fun k a b=>by
   by_cases hk:k=o
   .grind
   .rw[val k aa aa]
    grind,b2⟩
  have e2:1<=E*E:=by have:1*1<=E*E:=Zp hE hE;omega
  obtain ⟨f,o',m',g1,g2,g3⟩:=aeK (B:=B) (W:=4*E^5) hW p0 S2 aa ⟨k,aa,aa,by rw[val k aa aa];exact q3,by
   rw[val k aa aa]
   grind⟩ (by
   calc 2*(2*(E*E))*(p0*p0)*p0<=2*(2*(E*E))*(E*E)*E:=Zp (Z0 _ (Zp p0E p0E)) p0E
    _=4*E^5:=by grind)
  exact ⟨f+1,o',m',by grind,g2.mono (by
   have:2*(4*E^5)*(4*E^5)=32*E^10:=by grind
   omega),.inl g3⟩
def dgN:Nat->Nat->Nat
 |0,d=>d
 |t+1,d=>dgN t (10*d+2)
theorem aac:∀t d,d<=dgN t d
 |0,d=>Z8 _
 |t+1,d=>by have:=aac t (10*d+2);grind[dgN]
theorem Rv{n B:Nat}:∀(r:Nat){c o d:Nat}{L:Nat->Nat}{m:Mz},Hm n c o L m->BdE (10^d) m->dgN (m.length-o) d<=B->∃f0,∀f,f0<=f->∃o' m',clZ B f r c o m=some (o',m')
 |0,c,o,d,L,m,H,hb,hd=>⟨0,fun f _=>⟨o,m,rfl⟩⟩
 | r+1,c,o,d,L,m,H,hb,hd=>by
  by_cases ho:o<m.length
  .have e1:1<=10^d:=Nat.one_le_pow _ _ aa;obtain⟨t,ht⟩:∃t,m.length-o=t+1:=⟨m.length-o-1,aa⟩;rw[ht]at hd;have hd2:dgN t (10*d+2)<=B:=hd;have:=aac t (10*d+2)
   have hW:4*(10^d)^5<10^B:=by
    rw[<-V6];have h1:10^(d*5+1)<=10^B:=Z4 aa aa;have h2:10^(d*5+1)=10^(d*5)*10:=Nat.pow_succ ..;have h3:1<=10^(d*5):=Nat.one_le_pow _ _ aa;omega
   obtain⟨f1,o1,m1,g1,g2,g3⟩:=aeL (c:=c) H.ln ho e1 hb hW;obtain⟨⟨L1,H1⟩,s1,l1⟩:=Fl f1 H ho g1
   have hb1:BdE (10^(10*d+2)) m1:=g2.mono (by
    rw[<-V6,Zq d 10,Yk];omega)
   have hd1:∃d1,BdE (10^d1) m1∧dgN (m1.length-o1) d1<=B:=by
    rcases g3 with h|⟨h1,h2⟩
    .exact⟨_,hb1,by rw[l1,h,show m.length-(o+1)=t by omega];omega⟩
    .grind
   obtain⟨d1,b1,k1⟩:=hd1;obtain⟨f2,hf2⟩:=Rv r H1 b1 k1;refine⟨max f1 f2,fun f hf=>?_⟩;obtain⟨o',m',h⟩:=hf2 f aa;refine⟨o',m',?_⟩
   show oQ [] (fun r=>r) (fun _ r=>r) B f (r+1) c o m=some (o',m')
   have hr:kC [] (fun r=>r) (fun _ r=>r) B c f o m=some (o1,m1):=Jb f1 f g1 aa;simp only[oQ,if_pos ho,hr];exact h
  .refine⟨0,fun f _=>⟨o,m,?_⟩⟩
   show oQ [] (fun r=>r) (fun _ r=>r) B f (r+1) c o m=some (o,m)
   grind[oQ]
theorem Bz{n:Nat}(cols:Nat)(hl:Ln n m)(hm:m.length<=4)(hb:BdE (10^9) m):∃f0,∀f,f0<=f->∃o m',ql 100000 f cols m=some (o,m'):=by have H:Hm n 0 0 (fun _=>0) m:=⟨aa,hl,fun i hi=>by omega,fun i j h1 h2=>by omega,fun i hi=>by omega,fun i hi=>by omega,fun i j h1 h2=>by omega,fun k a b j hj=>by omega⟩;refine Rv (B:=100000) cols H hb ?_;have:m.length-0=0∨m.length-0=1∨m.length-0=2∨m.length-0=3∨m.length-0=4:=aa;rcases this with h|h|h|h|h<;>rw[h]<;>decide
end Go.Vm
