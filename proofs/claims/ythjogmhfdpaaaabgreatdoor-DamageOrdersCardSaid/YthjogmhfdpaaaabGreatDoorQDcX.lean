/- Lemmas. -/
import Derived.Test.YthjogmhfdpaaaabGreatDoorQT
set_option linter.unusedVariables false
set_option linter.unusedSimpArgs false
open Option renaming some->Wf,none->Vc
open Bool renaming true->Th,false->SM
open Go renaming FuncId->fI,IntKind->iK,Exit->eX
open List renaming replicate->So,length->RW
namespace Go.Vm
open Go Go.Am Go.Big
variable{k:iK}{T:(bq->Hp->Prop)->Prop}{z a i:Int}{xs:List au}{Pc l0 l':ax}{h0 h':Hp}{j L i1 cap len c N:Nat}{ys args ds:bq}{cells:bF}{C:rM}
inductive PU{α:Type}(k:α):Type where
 |mk
def rn{α:Type}(T:(α->Prop)->Prop)(k:α->Prop)(u:PU k):Prop:=T k
def rh{α β:Type}(T:(α->β->Prop)->Prop)(k:α->β->Prop)(u:PU k):Prop:=T k
def rl(T:KL->Prop)(k:KL)(u:PU k):Prop:=T k
def br(p A B:Prop)(u:PU A)(w:PU B):Prop:=(p->A)∧(¬p->B)
def jo(k:bq->Hp->Prop)(T:(bq->Hp->Prop)->Prop)(u:PU k)(w:PU T):Prop:=T k
theorem OA{p A B:Prop}{u:PU A}{w:PU B}(h1:p->A)(h2:¬p->B):br p A B u w:=⟨h1,h2⟩
@[simp]theorem ar8(A B:Prop)(u:PU A)(w:PU B):br True A B u w=A:=by simp[br]
@[simp]theorem asb(A B:Prop)(u:PU A)(w:PU B):br False A B u w=B:=by simp[br]
@[simp]theorem ar9{p A B:Prop}{u:PU A}{w:PU B}(h:p):br p A B u w=A:=by simp_all
@[simp]theorem asa{p A B:Prop}{u:PU A}{w:PU B}(h:¬p):br p A B u w=B:=by simp_all
theorem fE{k:bq->Hp->Prop}{u:PU k}{w:PU T}{l:bq}{h:Hp}(hT:∀q,T q=q l h)(hk:k l h):jo k T u w:=by grind[jo]
theorem cg{k:bq->Hp->Prop}{u:PU k}{w:PU T}(h:T k):jo k T u w:=h
@[simp ↓] theorem asd (o:Option V)(k:V->Prop):bnd o k=rn (bnd o) k .mk:=id rfl
@[simp ↓] theorem arX (x:V)(i:Nat)(k:V->Prop):ext x i k=rn (ext x i) k .mk:=id rfl
@[simp ↓] theorem ar5 (b:Bool)(A B:Prop):aQ (.d (.bool b)) A B=br (b=Th) A B .mk .mk:=by cases b<;>simp[aQ,br]
@[simp ↓] theorem arN (b:Bool)(h:Hp)(T:bG->Prop)(k:bG):gd (.d (.bool b)) Th h T k=br (b=Th) (T k) (k (.tup []) h) .mk .mk:=by cases b<;>simp[gd,br]
@[simp ↓] theorem arO (b:Bool)(h:Hp)(T:bG->Prop)(k:bG):gd (.d (.bool b)) SM h T k=br (b=SM) (T k) (k (.tup []) h) .mk .mk:=by cases b<;>simp[gd,br]
@[simp ↓] theorem arM (w:Bool)(h:Hp)(T:bG->Prop)(k:bG):gd (.tup []) w h T k=k (.tup []) h:=id rfl
@[simp ↓] theorem arC (k:bq->Hp->Prop)(T:(bq->Hp->Prop)->Prop):jn k T=jo k T .mk .mk:=id rfl
@[simp ↓] theorem ar6 (C:rM)(h:Hp)(c:V)(args:bq)(k:bG):bp C h c args k=rh (bp C h c args) k .mk:=id rfl
@[simp ↓] theorem aqA (C:rM)(h:Hp)(c:V)(args:bq)(k:bG):vn C h c args k=rh (vn C h c args) k .mk:=id rfl
@[simp ↓] theorem ar7 (C:rL)(h:Hp)(c:V)(args:bq)(s:Nat)(k:bG):eQ C h c args s k=rh (eQ C h c args s) k .mk:=id rfl
@[simp ↓] theorem asB (s:Nat)(cs:bq)(h:Hp)(k:bG):cu s cs h k=rh (cu s cs h) k .mk:=id rfl
@[simp ↓] theorem asC (s n:Nat)(cs:bF)(h:Hp)(k:bG):mN s n cs h k=rh (mN s n cs h) k .mk:=id rfl
@[simp ↓] theorem asc (s:Nat)(v:V)(h:Hp)(k:bG):cD s v h k=rh (cD s v h) k .mk:=id rfl
@[simp ↓] theorem art (len:Nat)(z:bF)(ps:List (Nat×V))(h:Hp)(k:bG):cx len z ps h k=rh (cx len z ps h) k .mk:=id rfl
@[simp ↓] theorem ars (s len:Nat)(z:bF)(ps:List (Nat×V))(h:Hp)(k:bG):kx s len z ps h k=rh (kx s len z ps h) k .mk:=id rfl
@[simp ↓] theorem arl (s Nd:Nat)(z:bF)(h:Hp)(l c:V)(k:bG):fS s Nd z h l c k=rh (fS s Nd z h l c) k .mk:=id rfl
def ra(f:Nat->Prop)(u:PU f):Prop:=∃s,f s
@[simp ↓] theorem asx (f:Nat->Prop):anyS f=ra f .mk:=id rfl
theorem qx{f:Nat->Prop}{u:PU f}(s:Nat)(h:f s):ra f u:=⟨s,h⟩
@[simp ↓] theorem arq (s len:Nat)(z:bF)(ps:List (Nat×V))(h:Hp)(k:bG):qh s len z ps h k=rh (qh s len z ps h) k .mk:=id rfl
@[simp ↓] theorem asv (dr:Bool)(s n Nd:Nat)(x y:V)(h:Hp)(k:bG):nf dr s n Nd x y h k=rh (nf dr s n Nd x y h) k .mk:=id rfl
theorem G9{s e:Nat}{b:Bk}{z:D}{v:V}{h:Hp}{k:bG}{u:PU k}(hs:h[s]?=Wf (e,b))(hv:w9 v=Wf [v])(hk:k (.ref s (e+1) 0 1 1 1) (h.set s (e+1,.vars [v]))):rh (qh s 1 [z] [(0,v)] h) k u:=by
 show qh s 1 [z] [(0,v)] h k
 have hf:kz (λi=>Wf (i * [z].length,[z].length)) ((dI 1 [z]).map .d) [(0,v)]=Wf [v]:=by
  simp[kz,hv,dI]
 unfold qh;rw[hf];simp only[new,hs];rw[ip ⟨⟨ac,ac⟩,rfl⟩];exact hk
theorem ap3{dr:Bool}{s e Nd k:Nat}{b:Bk}{y:V}{vs:bq}{h:Hp}{q:bG}{u:PU q}(hy:qC h y=Wf (k,vs))(ho:vs.all okV=Th)(hk:0<k)(hb:k*Nd<=140737488355328)(hs:h[s]?=Wf (e,b))
  (hq:q (.ref s (e+1) 0 k k (RW vs)) (h.set s (e+1,.vars vs))):rh (nf dr s 1 Nd (.d aW) y h) q u:=by
 show nf dr s 1 Nd _ y h q
 unfold nf;rw[hy];simp only[new,hs];rw[ip ⟨ho,hk,trivial⟩,ip hb];exact hq
theorem ap4{s s' e Nd k off len cap:Nat}{y:V}{vs old:bq}{h:Hp}{q:bG}{u:PU q}(hy:qC h y=Wf (k,vs))(ho:vs.all okV=Th)(hk:0<k)(hg:h[s']?=Wf (e,.vars old))(hl:len=cap)(hc:off+cap=RW old)(h0:RW old<len+k)
  (hb:(len+k)*Nd<=140737488355328) (hq:q (.ref s' (e+1) 0 (len+k) (len+k) (len+k)) (h.set s' (e+1,.vars ((old.drop off).take len++vs)))):rh (nf SM s 1 Nd (.ref s' e off len cap (RW old)) y h) q u:=by
 show nf SM s 1 Nd _ y h q
 have hg':aH h s' e=.vars old:=by simp[aH,hg]
 unfold nf;rw[hy];simp only[hg'];rw[ip ⟨ho,hk,trivial⟩,ip ⟨trivial,trivial,aa,aa⟩,iN aa,ip ⟨hb,hc,h0⟩];exact hq
@[simp ↓] theorem aqx (h:Hp)(n:Nat)(p v:V)(k:bG):aS h n p v k=rh (aS h n p v) k .mk:=id rfl
@[simp ↓] theorem asw (dr:Bool)(s n Nd:Nat)(x y:V)(h:Hp)(k:bG):cV dr s n Nd x y h k=rh (cV dr s n Nd x y h) k .mk:=id rfl
@[simp ↓] theorem arm (st:bK)(Pc:ax)(h0:Hp)(l:bq)(h:Hp)(k:KL):lp st Pc h0 l h k=rl (lp st Pc h0 l h) k .mk:=id rfl
def rk(T:(eX->Hp->Prop)->Prop)(k:eX->Hp->Prop)(u:PU k):Prop:=T k
@[simp ↓] theorem aq1 (o:Option (List au))(n:Nat)(st:zy)(Pc:ax)(h:Hp)(k:eX->Hp->Prop):xY o n st Pc h k=rk (xY o n st Pc h) k .mk:=id rfl
theorem ro{o:Option (List au)}{n:Nat}{st:zy}{h:Hp}{k:eX->Hp->Prop}{u:PU k}(hq:o=Wf xs)(hr:rg n st Pc h k xs h):rk (xY o n st Pc h) k u:=by subst hq;exact hr
theorem Sl{n:Nat}{st:zy}{h:Hp}{k:eX->Hp->Prop}{x:au}(hl:RW x=n)(hs:st (x.map λv=>.d (dL v)) h λex h'=>match ex with
  |.normal=>iq Pc 0 h'=Th∧rg n st Pc h0 k xs (dl Pc 0 h0 h')
  |ex=>k ex h'):rg n st Pc h0 k (x::xs) h:=⟨hl,hs⟩
@[simp]theorem agP(v:V)(k:V->Prop)(u:PU k):rn (bnd (Wf v)) k u=k v:=id rfl
@[simp]theorem aqQ(vs:bq)(i:Nat)(k:V->Prop)(u:PU k):rn (ext (.tup vs) i) k u=rn (bnd vs[i]?) k u:=id rfl
attribute [simp] ahL ahN Int.natCast_inj
@[simp]theorem aq2(b:Bool)(x y:V):kU (.d (.bool (!b))) x y=kU (.d (.bool b)) y x:=by cases b<;>rfl
@[simp]theorem Cr{n:Int}(h1 : -9223372036854775808<=n)(h2:n<=9223372036854775807):iK.wrap .i64 n=n:=wrap_i64 ⟨h1,h2⟩
@[simp]theorem abT{n:Int}(h1:0<=n)(h2:n<18446744073709551616):iK.wrap .u64 n=n:=wrap_u64 ⟨h1,h2⟩
@[simp]theorem aqs{n:Int}(h1:0<=n)(h2:n<4294967296):iK.wrap .u32 n=n:=wrap_u32 ⟨h1,h2⟩
@[simp]theorem wrap_u8'{n:Int}(h1:0<=n)(h2:n<256):iK.wrap .u8 n=n:=Ju rfl ⟨h1,h2⟩
attribute [simp] Eu Ca zq
@[simp]theorem aaU{b:Int}(hb:b≠0):aD .rem (.d (.int k a)) (.d (.int k b))=Wf (.d (.int k (a.tmod b))):=by simp[aD,iR,jt,dL,hb]
@[simp]theorem asm{b:Int}(hb:b≠0):aD .quo (.d (.int k a)) (.d (.int k b))=Wf (.d (.int k (k.wrap (a.tdiv b)))):=by simp[aD,iR,jt,dL,hb]
theorem aaS{l:iK}{b:Int}(h0:0<=b)(hb:b.toNat<=k.bits):aD .shr (.d (.int k a)) (.d (.int l b))=Wf (.d (.int k (a/2^b.toNat))):=by
 have h1:¬(b<0):=aa
 grind[aD,iR,jt,dL]
theorem aaT{l:iK}{b:Int}(h0:0<=b)(hb:b.toNat<=k.bits):aD .shl (.d (.int k a)) (.d (.int l b))=Wf (.d (.int k (k.wrap (a*2^b.toNat)))):=by
 have h1:¬(b<0):=aa
 grind[aD,iR,jt,dL]
@[simp]theorem asi:iK.bits .i64=64:=rfl
@[simp]theorem ash:iK.bits .u64=64:=rfl
@[simp]theorem asf:iK.bits .u8=8:=rfl
@[simp]theorem afW{l:iK}{b:Int}(h0:0<=b)(hb:b<=64):aD .shr (.d (.int .i64 a)) (.d (.int l b))=Wf (.d (.int .i64 (a/2^b.toNat))):=aaS h0 dG
@[simp]theorem aqG{l:iK}{b:Int}(h0:0<=b)(hb:b<=64):aD .shr (.d (.int .u64 a)) (.d (.int l b))=Wf (.d (.int .u64 (a/2^b.toNat))):=aaS h0 dG
@[simp]theorem aqu(k:iK)(n:Int):gL .neg (.d (.int k n))=Wf (.d (.int k (k.wrap (-n)))):=by simp[gL,iR,jt,dL]
def nth{α:Type}(d:α)(l:List α)(i:Nat):α:=l.getD i d
theorem gN{α:Type}(d:α)(l:List α)(i:Nat)(h:i<RW l):nth d l i=l[i]:=by simp[nth,h]
@[simp]theorem aip{α:Type}(d:α)(p:List α)(x:α)(q:List α):nth d (p++x::q) (RW p)=x:=by simp[nth]
variable{α:Type}(f:α->D)
@[simp] theorem mH (l:List α)(h:Hp)(h0:0<=i)(h1:i<RW l):bC h 1 (aj f l) (.d (.int k i))=Wf (.dptr (l.map f) i.toNat):=
 sQ f l h (Int.toNat_of_nonneg h0).symm aa
theorem mZ(d:α)(l:List α)(h:Hp)(hl:j<RW l):ld1 h (.dptr (l.map f) j)=Wf (.d (f (nth d l j))):=by rw[pq f l h hl,gN d l j hl]
@[simp] theorem yK (p:List α)(x:α)(q:List α)(h:Hp)(k:iK):bC h 1 (aj f (p++x::q)) (.d (.int k (RW p)))=Wf (.dptr ((p++x::q).map f) (RW p)):=
 sQ f _ h rfl ac
omit f in
@[simp] theorem ary (a:bF)(x:D)(b:bF)(h:Hp)(hj:j=RW a):ld1 h (.dptr (a++x::b) j)=Wf (.d x):=by subst hj;simp[ld1]
omit f in
@[simp]theorem arz(x:D)(b:bF)(h:Hp):ld1 h (.dptr (x::b) 0)=Wf (.d x):=by rfl
variable{α:Type}(f:α->D)(l:List α)
@[simp]theorem adX(h:Hp)(h0:0<=i)(h1:i<=RW l)(hp:0<RW l):gU h 1 (aj f l) Vc (Wf (I i))=Wf (aj f (l.take i.toNat)):=QW f l hp aa aa
@[simp] theorem arE (len n:Nat)(cs:bF)(off:Nat)(h0:0<=i)(h1:i<len):m5 len n (.dptr cs off) (.d (.int k i))=Wf (.dptr cs (off+i.toNat*n)):=by simp only[m5];rw[ip ⟨h0,h1⟩]
@[simp] theorem arD (len n:Nat)(s e off tot:Nat)(h0:0<=i)(h1:i<len):m5 len n (.ptr s e off tot) (.d (.int k i))=Wf (.ptr s e (off+i.toNat*n) tot):=by simp only[m5];rw[ip ⟨h0,h1⟩]
theorem ajR(h:Hp)(cs:bF)(pos:Nat){x:D}(hx:cs[pos]?=Wf x):ld1 h (.dptr cs pos)=Wf (.d x):=by grind[ld1]
def de{α:Type}(f:α->bF)(l:List α):V:=.d (.sl (RW l) (l.flatMap f))
section
variable{α:Type}(f:α->bF){n:Nat}(hf:∀x,RW (f x)=n)
include hf
theorem jB(l:List α):RW (l.flatMap f)=RW l*n:=by
 induction l with
 |nil=>simp
 |cons x l ih=>grind
theorem I5(d:α)(l:List α)(hj:j<RW l):cut (l.flatMap f) (j*n) n=Wf (f (nth d l j)):=by
 have Fm:j*n+n<=RW (l.flatMap f):=by
  rw[jB f hf,<-X3];exact Zu n hj
 simp only[cut,ip Fm,Z9];clear Fm
 induction l generalizing j with
 |nil=>cases hj
 | cons x l ih=>
  cases j with
  |zero=>grind[nth]
  | succ j=>
   grind[X3,List.drop_drop,List.drop_left,nth]
theorem lX(l:List α)(h:Hp)(h0:0<=i)(h1:i<RW l):bC h n (de f l) (.d (.int k i))=Wf (.dptr (l.flatMap f) (i.toNat*n)):=by grind[bC,de,jB]
theorem lV(d:α)(l:List α)(h:Hp)(hj:j<RW l):aG h n (.dptr (l.flatMap f) (j*n))=Wf (.agg ((f (nth d l j)).map .d)):=by grind[aG,I5]
theorem ajP(d:α)(l:List α)(h:Hp){o:Nat}{x:D}(hj:j<RW l)(ho:o<n)(hx:(f (nth d l j))[o]?=Wf x):ld1 h (.dptr (l.flatMap f) (j*n+o))=Wf (.d x):=by
 have hc:=I5 f hf d l hj
 grind[cut,ld1]
end
@[simp]theorem arx{α:Type}(f:α->bF)(l:List α):bh (de f l)=Wf (I (RW l)):=id rfl
@[simp]theorem aqC{α:Type}(h:Hp)(f:α->bF)(l:List α):bQ h (de f l)=Wf (de f l,h):=by rfl
def rc(KK:Nat->Option (Nat×Nat))(cs:bq)(ps:List (Nat×V)):Option bq:=kz KK cs ps
@[simp]theorem arP(KK:Nat->Option (Nat×Nat))(cs:bq):rc KK cs []=Wf cs:=id rfl
def Ik(o:Option (Nat×Nat))(KK:Nat->Option (Nat×Nat))(cs:bq)(v:V)(r:List (Nat×V)):Option bq:=match o with
 |none=>Vc
 | some (off,sz)=>match w9 v with
  |none=>Vc
  |some vs=>if RW vs=sz∧off+RW vs<=RW cs then rc KK (cs.take off++vs++cs.drop (off+RW vs)) r else Vc
@[simp]theorem arQ(KK:Nat->Option (Nat×Nat))(cs:bq)(i:Nat)(v:V)(r:List (Nat×V)):rc KK cs ((i,v)::r)=Ik (KK i) KK cs v r:=id rfl
@[simp] theorem arS (KK:Nat->Option (Nat×Nat))(cs:bq)(x:D)(r:List (Nat×V))(off sz:Nat):
  Ik (Wf (off,sz)) KK cs (.d x) r=if 1=sz∧off+1<=RW cs then rc KK (cs.take off++[.d x]++cs.drop (off+1)) r else Vc:=id rfl
@[simp] theorem arT (KK:Nat->Option (Nat×Nat))(cs:bq)(vs:bq)(r:List (Nat×V))(off sz:Nat):
  Ik (Wf (off,sz)) KK cs (.agg vs) r=if RW vs=sz∧off+RW vs<=RW cs then rc KK (cs.take off++vs++cs.drop (off+RW vs)) r else Vc:=id rfl
def OB(fs:List (Nat×Nat))(z:bF)(ps:List (Nat×V)):Option V:=fG fs z ps
@[simp]theorem aqS(fs:List (Nat×Nat))(z:bF)(ps:List (Nat×V))(k:V->Prop)(u:PU k):rn (bnd (fG fs z ps)) k u=rn (bnd (OB fs z ps)) k u:=id rfl
@[simp]theorem ase(fs:List (Nat×Nat))(z:bF)(ps:List (Nat×V)):OB fs z ps=(rc (λi=>fs[i]?) (z.map .d) ps).map .agg:=id (by unfold OB fG rc;cases kz (λi=>fs[i]?) (z.map .d) ps<;>rfl)
@[simp]theorem arV(cs:bF)(o off:Nat):ik off (.dptr cs o)=Wf (.dptr cs (o+off)):=id rfl
@[simp]theorem arU(s e o tot off:Nat):ik off (.ptr s e o tot)=Wf (.ptr s e (o+off) tot):=id rfl
def lE{α:Type}(o:Option α)(k:α->Prop):Prop:=match o with
 |some x=>k x
 |none=>False
@[simp]theorem aqR{α:Type}(x:α)(k:α->Prop)(u:PU k):rn (lE (Wf x)) k u=k x:=id rfl
@[simp] theorem aqT (h:Hp)(n:Nat)(p v:V)(k:bG)(u:PU k):rh (aS h n p v) k u=rn (lE (st h n p v)) (λh'=>k .junk h') .mk:=by unfold rh rn aS lE;cases st h n p v<;>rfl
theorem GW(h:Hp)(s:Nat)(b:Bk)(k:Nat->Hp->Prop):new h s b k=lE h[s]? λx=>k (x.1+1) (h.set s (x.1+1,b)):=by grind[new,lE]
@[simp]theorem aqZ(s:Nat)(cs:bq)(h:Hp)(k:bG)(u:PU k):rh (cu s cs h) k u=rn (lE h[s]?) (λx=>k (.ptr s (x.1+1) 0 (RW cs)) (h.set s (x.1+1,.vars cs))) .mk:=by unfold rh rn cu;exact GW ..
@[simp]theorem aqY(s:Nat)(vs:bq)(h:Hp)(k:bG)(u:PU k):rh (cD s (.agg vs) h) k u=rh (cu s vs h) k u:=id rfl
@[simp]theorem aqX(s:Nat)(x:D)(h:Hp)(k:bG)(u:PU k):rh (cD s (.d x) h) k u=rh (cu s [.d x] h) k u:=id rfl
def cI(len:Nat)(z:bF)(ps:List (Nat×V))(h:Hp):Option (bF×Hp):=match rc (λi=>Wf (i*RW z,RW z)) ((dI len z).map .d) ps with
 |some vs=>if 0<RW z∧len*RW z<=16777216 then d8 h vs else Vc
 |none=>Vc
@[simp] theorem aqW (len:Nat)(z:bF)(ps:List (Nat×V))(h:Hp)(k:bG)(u:PU k):rh (cx len z ps h) k u=rn (lE (cI len z ps h)) (λx=>k (.d (.sl len x.1)) x.2) .mk:=by
 unfold rh rn cx cI lE rc;cases kz (λi=>Wf (i*RW z,RW z)) ((dI len z).map .d) ps with
 |none=>rfl
 | some vs=>
  simp only;split
  .cases d8 h vs<;>rfl
  .rfl
@[simp] theorem aqV (s len:Nat)(z:bF)(ps:List (Nat×V))(h:Hp)(k:bG)(u:PU k):rh (kx s len z ps h) k u=rn (lE (cI len z ps h)) (λx=>rn (lE x.2[s]?) (λy=>k (.ref s (y.1+1) 0 len len x.1.length) (x.2.set s (y.1+1,.data (RW z) x.1 Th SM))) .mk) .mk:=by
 unfold rh rn kx cI lE rc;cases kz (λi=>Wf (i*RW z,RW z)) ((dI len z).map .d) ps with
 |none=>rfl
 | some vs=>
  simp only;split
  .cases d8 h vs with
   |none=>rfl
   |some x=>simp only[GW];rfl
  .rfl
def iJ(h:Hp)(s e:Nat):Bk:=aH h s e
@[simp]theorem arG(e0:Nat)(b:Bk)(h:Hp)(e:Nat):iJ ((e0,b)::h) 0 e=if e0=e then b else .none:=id rfl
@[simp]theorem arH(x:Nat×Bk)(h:Hp)(s e:Nat):iJ (x::h) (s+1) e=iJ h s e:=id rfl
def Ht(b:Bk)(off tot:Nat):Option V:=match b with
 |.vars cs=>if tot=RW cs then cs[off]? else Vc
 |.data _ cs _ _=>if tot=RW cs then cs[off]?.map .d else Vc
 |.none=>Vc
def uq(b:Bk)(n off tot:Nat):Option V:=match b with
 |.vars cs=>if tot=RW cs then(cut cs off n).map .agg else Vc
 |.data _ cs _ _=>if tot=RW cs then(cut cs off n).map λl=>.agg (l.map .d)else Vc
 |.none=>Vc
theorem ajS(h:Hp)(s e off tot:Nat):ld1 h (.ptr s e off tot)=Ht (iJ h s e) off tot:=by
 unfold iJ;simp[ld1];cases aH h s e with
 |none=>rfl
 |vars cs=>rfl
 | data n cs a b=>
  simp[Ht];split
  .cases cs[off]?<;>rfl
  .rfl
theorem ajN(h:Hp)(n s e off tot:Nat):aG h n (.ptr s e off tot)=uq (iJ h s e) n off tot:=by
 unfold iJ;simp[aG];cases aH h s e with
 |none=>rfl
 | vars cs=>
  simp[uq];split
  .cases cut cs off n<;>rfl
  .rfl
 | data m cs a b=>
  simp[uq];split
  .cases cut cs off n<;>rfl
  .rfl
@[simp]theorem aqO(h:Hp)(s e off tot:Nat)(k:V->Prop)(u:PU k):rn (bnd (ld1 h (.ptr s e off tot))) k u=rn (bnd (Ht (iJ h s e) off tot)) k u:=by rw[ajS]
@[simp]theorem aqN(h:Hp)(n s e off tot:Nat)(k:V->Prop)(u:PU k):rn (bnd (aG h n (.ptr s e off tot))) k u=rn (bnd (uq (iJ h s e) n off tot)) k u:=by rw[ajN]
@[simp]theorem arB(cs:bq)(off tot:Nat):Ht (.vars cs) off tot=if tot=RW cs then cs[off]? else Vc:=id rfl
@[simp]theorem arA(cs:bq)(n off tot:Nat):uq (.vars cs) n off tot=if tot=RW cs then(cut cs off n).map .agg else Vc:=id rfl
@[simp]theorem ajO(m:Nat)(cs:bF)(a b:Bool)(n off tot:Nat):uq (.data m cs a b) n off tot=if tot=RW cs then(cut cs off n).map (λl=>.agg (l.map .d))else Vc:=id rfl
def tL(b:Bk)(h:Hp)(s e off tot:Nat)(vs:bq):Option Hp:=match b with
 |.vars cs=>if tot=RW cs∧off+RW vs<=RW cs∧vs.all okV=Th then Wf (bP h s e (.vars (cs.take off++vs++cs.drop (off+RW vs))))else Vc
 |_=>jk h s e off tot vs
theorem Qx(h:Hp)(s e off tot:Nat)(vs:bq):jk h s e off tot vs=tL (iJ h s e) h s e off tot vs:=by
 unfold iJ tL;cases hb:aH h s e with
 |vars cs=>simp[jk,hb]
 |none=>rfl
 |data n cs a b=>rfl
@[simp] theorem aqK (h:Hp)(n s e off tot:Nat)(vs:bq)(k:Hp->Prop)(u:PU k):rn (lE (st h n (.ptr s e off tot) (.agg vs))) k u=rn (lE (if RW vs=n then tL (iJ h s e) h s e off tot vs else Vc)) k u:=by simp[rn,st,Qx]
def vk(b:Bk)(h:Hp)(s e off tot:Nat)(x:D):Option Hp:=match b with
 |.vars cs=>if tot=RW cs∧off+1<=RW cs then Wf (bP h s e (.vars (cs.take off++[.d x]++cs.drop (off+1))))else Vc
 |.data n cs ex fr=>if fr=SM∧tot=RW cs∧off+1<=RW cs then Wf (bP h s e (.data n (cs.set off (norm x)) ex SM))else Vc
 |.none=>Vc
theorem aeb(h:Hp)(s e off tot:Nat)(x:D):st h 1 (.ptr s e off tot) (.d x)=vk (iJ h s e) h s e off tot x:=by
 unfold iJ;simp[st,iT];cases hb:aH h s e with
 |none=>simp[jk,hb,vk]
 |vars cs=>simp[jk,hb,vk,okV]
 | data n cs ex fr=>
  simp only[jk,hb,d8,dX,vk];by_cases hc:fr=SM∧tot=RW cs∧off+1<=RW cs
  .rw[ip hc,ip aa];rw[Yg,ip aa];simp
  .rw[iN hc,iN aa]
@[simp]theorem aqL(h:Hp)(s e off tot:Nat)(x:D)(k:Hp->Prop)(u:PU k):rn (lE (st h 1 (.ptr s e off tot) (.d x))) k u=rn (lE (vk (iJ h s e) h s e off tot x)) k u:=by rw[aeb]
@[simp]theorem aqy(cs:bq)(h:Hp)(s e off tot:Nat)(x:D):vk (.vars cs) h s e off tot x=if tot=RW cs∧off+1<=RW cs then Wf (bP h s e (.vars (cs.take off++[.d x]++cs.drop (off+1))))else Vc:=id rfl
@[simp] theorem aec (n:Nat)(cs:bF)(ex:Bool)(h:Hp)(s e off tot:Nat)(x:D)(ht:tot=RW cs)(ho:off<RW cs):vk (.data n cs ex SM) h s e off tot x=Wf (bP h s e (.data n (cs.set off (norm x)) ex SM)):=by simp only[vk];simp[ht];omega
def wD(b:Bk)(n s e off len tot:Nat)(i:Int):Option V:=match b with
 |.data _ cs _ _=>if tot=RW cs∧0<=i∧i<len then Wf (.ptr s e (off+i.toNat*n) tot)else Vc
 |.vars cs=>if tot=RW cs∧0<=i∧i<len then Wf (.ptr s e (off+i.toNat*n) tot)else Vc
 |_=>Vc
@[simp] theorem aqP (h:Hp)(n s e off len cap tot:Nat)(kd:iK)(i:Int)(k:V->Prop)(u:PU k):rn (bnd (bC h n (.ref s e off len cap tot) (.d (.int kd i)))) k u=rn (bnd (wD (iJ h s e) n s e off len tot i)) k u:=by
 have:bC h n (.ref s e off len cap tot) (.d (.int kd i))=wD (iJ h s e) n s e off len tot i:=by
  unfold iJ;simp[bC,wD];cases aH h s e<;>rfl
 rfl
@[simp] theorem akF (m:Nat)(cs:bF)(a b:Bool)(n s e off len tot:Nat)(i:Int)(ht:tot=RW cs)(h0:0<=i)(h1:i<len):wD (.data m cs a b) n s e off len tot i=Wf (.ptr s e (off+i.toNat*n) tot):=by simp only[wD];rw[ip ⟨ht,h0,h1⟩]
@[simp] theorem aqJ (h:Hp)(n s e off tot a b c d f g:Nat)(k:Hp->Prop)(u:PU k):rn (lE (st h n (.ptr s e off tot) (.ref a b c d f g))) k u=rn (lE (if n=1 then tL (iJ h s e) h s e off tot [.ref a b c d f g]else Vc)) k u:=by simp[rn,st,Qx]
@[simp]theorem aqw(cs:bq)(h:Hp)(s e off tot:Nat)(vs:bq):tL (.vars cs) h s e off tot vs=if tot=RW cs∧off+RW vs<=RW cs∧vs.all okV=Th then Wf (bP h s e (.vars (cs.take off++vs++cs.drop (off+RW vs))))else Vc:=id rfl
@[simp]theorem arF(h:Hp)(s e:Nat)(b:Bk):bP h s e b=h.set s (e,b):=rfl
@[simp]theorem aq7(x:D):okV (.d x)=Th:=rfl
@[simp]theorem aq6(a b c d e f:Nat):okV (.ref a b c d e f)=Th:=rfl
@[simp]theorem ar3{α:Type}(l:List α)(off n:Nat):cut l off n=if off+n<=RW l then Wf ((l.drop off).take n)else Vc:=id rfl
@[simp]theorem x8(i:Nat)(h0 h:Hp)(hl:RW h=RW h0):dl [] i h0 h=h:=Ge i h0 h hl
@[simp]theorem ar0(q:bq->Hp->Prop)(r:List (eX×(bq->Hp->Prop)))(l:bq)(h:Hp):aU ((.normal,q)::r) .normal l h=q l h:=rfl
@[simp]theorem arZ(q:bq->Hp->Prop)(r:List (eX×(bq->Hp->Prop)))(l:bq)(h:Hp):aU ((.normal,q)::r) .ret l h=aU r .ret l h:=rfl
@[simp]theorem arY(q:bq->Hp->Prop)(r:List (eX×(bq->Hp->Prop)))(l:bq)(h:Hp):aU ((.ret,q)::r) .normal l h=aU r .normal l h:=rfl
@[congr]theorem aqz{h:Hp}{x:V}{k:Prop}(e:h=h'):sp h x ys k=sp h' x ys k:=by rw[e]
theorem CL{h:Hp}{x:V}{k:Prop}:∀{ys:bq},ys.all (Ey h x)=Th->k->sp h x ys k
 |[],_,hk=>hk
 | y::ys,hb,hk=>by
  simp only[List.all_cons,Z7]at hb;unfold sp;rw[hb.1];exact CL hb.2 hk
theorem Kf{h:Hp}{x y:V}{k:Prop}(hb:Fq h x y=Th)(hk:k):sm h x y k:=by grind[sm]
structure Acc where
 s:Nat
 e:Nat
 n:Nat
 b0:Bk
def Acc.v(a:Acc)(L:Nat)(cells:bF):V:=match L with
 |0=>.d aW
 |_=>.ref a.s (a.e+1) 0 L L (RW cells)
def Acc.b(a:Acc)(L:Nat)(cells:bF):Nat×Bk:=match L with
 |0=>(a.e,a.b0)
 |_=>(a.e+1,.data a.n cells SM SM)
theorem kM(a:Acc){L Nd k:Nat}{cells cs:bF}{h:Hp}{y:V}{q:bG}{u:PU q}(hk:0<k)(hs:h[a.s]?=Wf (a.b L cells))(hc:RW cells=L*a.n)(hcs:RW cs=k*a.n)
  (hy:cellsOf h y=Wf (k,cs)) (hyn:∀t,y≠.d (.str t)) (hb:(L+k)*Nd<=140737488355328) (hn:0<a.n) (hq:q (a.v (L+k) (cells++cs)) (h.set a.s (a.b (L+k) (cells++cs)))):rh (cV SM a.s a.n Nd (a.v L cells) y h) q u:=by
 have e1:cV SM a.s a.n Nd (a.v L cells) y h q=kK SM a.s a.n Nd (a.v L cells) k cs h q:=by
  unfold cV;split
  .trivial
  .grind
 show cV SM a.s a.n Nd (a.v L cells) y h q
 rw[e1];have PJ:=(List.getElem?_eq_some_iff.1 hs).1;have⟨m,hm⟩:∃m,L+k=m+1:=⟨L+k-1,aa⟩;cases L with
 | zero=>
  have:cells=[]:=Zn aa;subst this;simp only[Zh,List.nil_append]at *;simp[Acc.v];unfold kK;rw[iN aa];simp only[];rw[ip aa]
  simp_all[new,Acc.b,Acc.v]
 | succ L=>
  simp[Acc.v];unfold kK;rw[iN aa];have hg:aH h a.s (a.e+1)=.data a.n cells SM SM:=by simp[aH,hs,Acc.b,iT]
  simp only[hg,true_and,Zh];rw[ip ⟨Z8 _,aa,hcs⟩,iN aa,ip hb];simp only[Zg,iF,Bool.or_self];have hpos:0<RW cs:=by rw[hcs];exact Yk hk hn
  rw[ip ⟨aa,aa⟩];rw[hm]at hq ⊢;simp only[Acc.v,Acc.b,List.length_append,bP,hc]at hq ⊢;simp[Yz];rw[Zx aa];exact hq
theorem mO(a:Acc){h:Hp}(hs:h[a.s]?=Wf (a.b L cells))(hc:RW cells=L*a.n):
  ∃h',bQ h (a.v L cells)=Wf (.d (.sl L cells),h')∧((L=0∧h'=h)∨(0<L∧h'=h.set a.s (a.e+1,.data a.n cells SM Th))):=by
 cases L with
 | zero=>
  simp_all[Acc.v]
 | succ L=>
  have hg:aH h a.s (a.e+1)=.data a.n cells SM SM:=by simp[aH,hs,Acc.b,iT]
  refine⟨_,?_,.inr ⟨Nat.succ_pos _,rfl⟩⟩;simp only[Acc.v,bQ,dX,hg,true_and,Zh];rw[ip ⟨Z8 _,aa⟩];simp only[Yz,bP];rw[Zx aa]
theorem OU(a:Acc){h:Hp}(hs:h[a.s]?=Wf (a.b L cells))(hc:RW cells=L*a.n):out (.d (.sl L cells)) (a.v L cells) h:=by have⟨h',h1,_⟩:=mO a hs hc;exact⟨h',h1⟩
theorem fp{b b':Bool}{h:Hp}(e:b'=b):out (B b) (.d (.bool b')) h:=by simp_all
theorem df{b:Int}{h:Hp}(e:b=a):out (.d (.int k a)) (.d (.int k b)) h:=by simp_all
theorem cd{h:Hp}{f:fI}{v:V}{k:bG}{u:PU k}(hc:C f args v)(hk:k v h)(hs:bY h args=Wf (args,h):=by first|rfl|simp[bY,bQ]):rh (bp C h (.fn f [] []) args) k u:=ao8 hc hs hk
theorem cds{h:Hp}{f:fI}{v:V}{k:bG}{u:PU k}(hc:C f args v)(hk:k v h)(hp:p6 args=Th:=by rfl):rh (vn C h (.fn f [] []) args) k u:=by
 show vn C h (.fn f [] []) args k
 unfold vn;rw[hp];exact⟨v,hc,hk⟩
theorem lo{st:bK}{l:bq}{h:Hp}{k:KL}{u:PU k}(hl:lp st Pc h0 l h k):rl (lp st Pc h0 l h) k u:=hl
def di(n:Int):D:=.int .i64 n
def row(l:aw):D:=.sl (RW l) (l.map di)
abbrev bf(m:cN):V:=aj row m
@[simp]theorem ar2(n:Int):V.d (di n)=I n:=id rfl
@[simp]theorem arj(n:Int):norm (di n)=di n:=rfl
@[simp]theorem ard(l:aw):norm (row l)=row l:=rfl
@[simp]theorem Mh(l:aw)(h:Hp)(hl:j<RW l):ld1 h (.dptr (l.map di) j)=Wf (.d (di (nth 0 l j))):=mZ di 0 l h hl
@[simp]theorem aru(l:aw):bh (.d (row l))=Wf (I (RW l)):=rfl
def fL{α:Type}(p:α->Bool)(l:List α):Int:=match l.findIdx? p with
 |some i=>i
 |none=>-1
theorem Om{h:Hp}{f:fI}{fs cs:bq}{v:V}{k:bG}{u:PU k}(hc:C f (fs++args++cs) v)(hs:bY h (fs++args++cs)=Wf (fs++args++cs,h))(hk:k v h):rh (bp C h (.fn f fs cs) args) k u:=by simp only[rh,bp,hs];exact⟨v,hc,by simpa using hk⟩
variable{α:Type}{f:α->D}{g:fI}{fs cs:bq}{p:α->Bool}
theorem VQ(hs:∀x,bY [] (fs++[.d (f x)]++cs)=Wf (fs++[.d (f x)]++cs,[]))(k:KL):∀(q a:List α),RW (a++q)<4611686018427387904->(∀x∈q,CP Y g (fs++[.d (f x)]++cs) (B (p x))) ->
  (fL p q = -1->k (.exit 0) [] [])->(∀i:Nat,fL p q=i->k .ret [I (RW a+i:Nat)] []) ->
  lp (Fv DA (aj f (a++q)) (.fn g fs cs) (I (RW (a++q)))) [] [] [I (RW a)] [] k
 | [],a,hN,_,h0,_=>by
  apply aL;simp[Fv];exact h0 rfl
 | x::q,a,hN,hp,h0,h1=>by
  simp at hN;apply aL;simp(disch:=try exact cC)[Fv];refine Om (hp x ac) (hs x) ?_;simp;refine OA (λh=>?_) (λh=>?_)<;>try simp(disch:=try exact cC)[h]
  .have e:fL p (x::q)=(0:Nat):=by simp[fL,List.findIdx?_cons,h]
   simpa using h1 0 e
  .have hl:=hs;have:=VQ hs k q (a++[x]) dG (λy hy=>hp y (by simp[hy])) (λe=>h0 ?_) (λi e=>?_)
   .simpa[V5]using this
   .simp[fL,List.findIdx?_cons,h,Zg,iF]at e ⊢;cases hq:List.findIdx? p q<;>simp[hq]at e ⊢
   .have:=h1 (i+1) ?_
    .simpa[Xl,Nat.add_comm 1 i]using this
    .simp only[fL,List.findIdx?_cons,h,Zg,iF]at e ⊢;cases hq:List.findIdx? p q<;>simp[hq]at e ⊢
     exact e
theorem HS(l:List α)(hN:RW l<4611686018427387904)(hs:∀x,bY [] (fs++[.d (f x)]++cs)=Wf (fs++[.d (f x)]++cs,[]))(hp:∀x∈l,CP Y g (fs++[.d (f x)]++cs) (B (p x))):
  vt DA (aj f l) (.fn g fs cs) (out (I (fL p l))):=by
 simp[vt];refine lo (VQ hs _ l [] (by simpa using hN) hp (λe=>?_) (λi e=>?_))
 .simp[e]
 .simp[e]
theorem DR{α:Type}(p:α->Bool)(l:List α):0<=fL p l↔l.any p=Th:=by
 unfold fL;cases h:l.findIdx? p with
 |none=>simp[List.findIdx?_eq_none_iff]at h ⊢;exact h
 | some i=>
  simp[List.findIdx?_eq_some_iff_getElem]at h ⊢;have⟨hi,h1,_⟩:=h;exact⟨l[i],X2 hi,h1⟩
@[simp]theorem aqD(h:Hp)(g:fI):bQ h (.fn g [] [])=Wf (.fn g [] [],h):=by simp[bQ,bY]
theorem VP{g:fI}{p:Int->Bool}(l:aw)(hN:RW l<4611686018427387904)(hp:∀x∈l,CP Y g [I x] (B (p x))):Ds F.vt [aj di l,.fn g [] []] (I (fL p l)):=
 aeU (HS l hN (λx=>by simp[bY]) hp)
theorem aaj{g:fI}{p:Int->Bool}(l:aw)(hN:RW l<4611686018427387904)(hp:∀x∈l,CP Y g [I x] (B (p x))):Ds F.xG [aj di l,.fn g [] []] (B (l.any p)):=by
 apply ae4;simp[xG];refine cd (VP l hN hp) ?_;simp;have:=DR p l;have e:decide (0<=fL p l)=l.any p:=by rw[Yh];simpa using this
 rw[e];exact Ta ..
def wg(n:Int):Bool:=decide (-1000000000<=n∧n<=1000000000)
theorem Dk{α:Type}{d:α}{l:List α}{i:Nat}(h:i<RW l):nth d l i∈l:=by grind[gN]
def o8(r:aw):Int:=fL (λn=>n !=0) r
theorem ahJ(r:aw): -1<=o8 r∧o8 r<RW r:=by
 unfold o8 fL;cases h:r.findIdx? (λn=>n !=0)with
 |none=>simp;omega
 |some i=>have:=(List.findIdx?_eq_some_iff_getElem.1 h).1;simp;omega
def Z:Nat:=1000000000
theorem cW:2<=Z:=am
theorem cL:0<Z:=am
def bE:Nat->Nat->ax
 |0,_=>[]
 |w+1,n=>n%Z::bE w (n/Z)
theorem iU:∀w n,RW (bE w n)=w
 |0,_=>rfl
 |w+1,n=>by simp[bE,iU w]
theorem If:∀w n,bL Z (bE w n)
 |0,_=>λx hx=>by simp[bE]at hx
 | w+1,n=>λx hx=>by
  simp[bE,Zy]at hx;rcases hx with rfl|hx
  .exact Y7 _ cL
  .exact If w _ x hx
theorem D3:∀w n,n<Z^w->val Z (bE w n)=n
 |0,n,h=>by simp at h;subst h;rfl
 | w+1,n,h=>by
  have hZ:Z=1000000000:=rfl;simp[bE,val];rw[D3 w (n/Z) (Wm (by rw[Nat.pow_succ,Zq]at h;exact h))];have:=Xp n Z;omega
theorem Ih:∀l:ax,bL Z l->l=bE (RW l) (val Z l)
 |[],_=>rfl
 | x::l,h=>by
  have hx:x<Z:=h x ac;have hl:=Ih l (λy hy=>h y (by simp[hy]));have hZ:Z=1000000000:=rfl;simp only[List.length_cons,bE,val];have e1:(x+Z*val Z l)%Z=x:=by rw[Xe];exact X6 hx
  have e2:(x+Z*val Z l)/Z=val Z l:=by rw[X9 _ _ cL,W6 hx,Zh]
  rw[e1,e2,<-hl]
abbrev S(s:bA):V:=.d (.str s)
@[simp]theorem Hq(s:bA):fv (S s)=Wf (I (RW s)):=id rfl
@[simp] theorem aqF (s:bA)(h0:0<=i)(h1:i<=RW s):nB (S s) (Wf (I i)) Vc=Wf (S (s.drop i.toNat)):=by simp[nB,eG];rw[ip ⟨h0,aa⟩];simp only;rw[Zx ac]
@[simp]theorem asl(a b:bA):j7 .eql (S a) (S b)=Wf (.d (.bool (a == b))):=id rfl
@[simp]theorem asj(a b:bA):j7 .neq (S a) (S b)=Wf (.d (.bool (!(a == b)))):=id rfl
@[simp]theorem apz(a b:bA)(h:RW a+RW b<=9223372036854775807):j7 .add (S a) (S b)=Wf (S (a++b)):=by simp[j7,J4,h]
theorem VD(s:bA){x:UInt8}(h0:0<=i)(h:s[i.toNat]?=Wf x):fF (S s) (.d (.int k i))=Wf (.d (.int .u8 x.toNat)):=by simp only[fF];rw[ip h0,h]
theorem eA{a b:bA}{h:Hp}(e:b=a):out (S a) (S b) h:=by subst e;exact Ls rfl
theorem apq(b:Bool):Ds F.BB [B b] (I (if b=Th then 1 else 0)):=by apply akZ;cases b<;>simp[BB]
theorem ajk{x:Nat}(h:x<=64):Ds F.BA [I x] (I ((x*78913/262144:Nat):Int)):=by apply akV;simp(disch:=omega) [BA]
def cQ(n:Nat):Nat:=if n=0 then 0 else n.log2+1
theorem LR{n k:Nat}(h:2^k<=n):cQ n=cQ (n/2^k)+k:=by
 have hp:0<2^k:=Xr am;have h0:n≠0:=aa;have h1:n/2^k≠0:=by have:=V4 h hp;omega
 simp[cQ,h0,h1,iF]
 have e:n.log2=(n/2^k).log2+k:=by
  rw[Nat.log2_eq_iff h0];have h2:=(Nat.log2_eq_iff h1).1 rfl;constructor
  .rw[Yr];exact Z1 (Zu _ h2.1) (Wh n _)
  .have:n/2^k+1<=2^((n/2^k).log2+1):=h2.2
   have h3:n<(n/2^k+1)*2^k:=by
    have:=Nat.lt_mul_div_succ n hp;rw[Zq];exact this
   have h4:=Zu (2^k) this;rw[<-Yr]at h4;rw[show(n/2^k).log2+k+1=(n/2^k).log2+1+k by omega];omega
 omega
def U6:bA:=[0,1,2,2,3,3,3,3,4,4,4,4,4,4,4,4,5,5,5,5,5,5,5,5,5,5,5,5,5,5,5,5,6,6,6,6,6,6,6,6,6,6,6,6,6,6,6,6,6,6,6,6,6,6,6,6,6,6,6,6,6,6,6,6]++(So 64 7++So 128 8)
theorem len8:∀x:Fin 256,U6[x.val]?=Wf (UInt8.ofNat (cQ x.val)):=dw
theorem ajG{x:Nat}{a:Nat}{n:Nat}(hx:x<256)(hn:cQ n=cQ x+a)(ha:a<=56){h:Hp}:
  (bnd (ft .u8 (.d (.int .u64 x))) λv10=>bnd (fF (S U6) v10) λv11=>
   bnd (ft .i64 v11) λv12=>bnd (aD .add (I a) v12) λv13=>out (I (cQ n)) v13 h):=by
 have hb:cQ x<=8:=by
  unfold cQ;split
  .omega
  .rename_i h0;have:=(Nat.log2_lt h0 (k:=8)).2 aa;omega
 have h8:=len8 ⟨x,hx⟩;simp(disch:=omega) [];rw[VD _ aa (x:=UInt8.ofNat (cQ x)) (by simpa using h8)];have e:(UInt8.ofNat (cQ x)).toNat=cQ x:=by simp;omega
 simp(disch:=omega) [e];exact df aa
set_option maxRecDepth 20000 in
theorem Mf{n:Nat}(h:n<18446744073709551616):Ds F.ui [.d (.int .u64 n)] (I (cQ n)):=by
 apply ai3
 obtain ⟨x1,a1,hx1,he1,ha1,h1⟩:∃x1 a1:Nat,x1<4294967296∧cQ n=cQ x1+a1∧a1<=32∧((4294967296<=n∧x1=n/4294967296∧a1=32)∨(n<4294967296∧x1=n∧a1=0)):=by
  by_cases hh:4294967296<=n
  .exact⟨n/4294967296,32,aa,LR (k:=32) hh,aa,.inl ⟨hh,rfl,rfl⟩⟩
  .exact⟨n,0,aa,rfl,aa,.inr ⟨aa,rfl,rfl⟩⟩
 obtain ⟨x2,a2,hx2,he2,ha2,h2⟩:∃x2 a2:Nat,x2<65536∧cQ n=cQ x2+a2∧a2<=48∧((65536<=x1∧x2=x1/65536∧a2=a1+16)∨(x1<65536∧x2=x1∧a2=a1)):=by
  by_cases hh:65536<=x1
  .exact⟨x1/65536,a1+16,aa,by(have:=LR (n:=x1) (k:=16) hh;simp[Nat.reducePow]at this;omega),aa,.inl ⟨hh,rfl,rfl⟩⟩
  .exact⟨x1,a1,aa,he1,aa,.inr ⟨aa,rfl,rfl⟩⟩
 obtain ⟨x3,a3,hx3,he3,ha3,h3⟩:∃x3 a3:Nat,x3<256∧cQ n=cQ x3+a3∧a3<=56∧((256<=x2∧x3=x2/256∧a3=a2+8)∨(x2<256∧x3=x2∧a3=a2)):=by
  by_cases hh:256<=x2
  .exact⟨x2/256,a2+8,aa,by(have:=LR (n:=x2) (k:=8) hh;simp[Nat.reducePow]at this;omega),aa,.inl ⟨hh,rfl,rfl⟩⟩
  .exact⟨x2,a2,aa,he2,aa,.inr ⟨aa,rfl,rfl⟩⟩
 simp[ui];have key:=ajG (h:=[]) hx3 he3 ha3;refine fE (l:=[.d (.int .u64 x1),I a1]) (h:=[]) (λq=>?_) ?_
 .rcases h1 with⟨g,rfl,rfl⟩|⟨g,rfl,rfl⟩<;>simp(disch:=omega) [g]
 simp;refine fE (l:=[.d (.int .u64 x2),I a2]) (h:=[]) (λq=>?_) ?_
 .rcases h2 with⟨g,rfl,rfl⟩|⟨g,rfl,rfl⟩<;>simp(disch:=omega) [g]
 simp;refine fE (l:=[.d (.int .u64 x3),I a3]) (h:=[]) (λq=>?_) ?_
 .rcases h3 with⟨g,rfl,rfl⟩|⟨g,rfl,rfl⟩<;>simp(disch:=omega) [g]
 exact key
theorem ahB:vX=(List.range 20).map λi=>D.int .u64 ((10^i:Nat):Int):=by simp only[vX,List.range,List.range.loop,List.map];rfl
theorem ahA{i:Nat}(h:i<20):vX[i]?=Wf (.int .u64 ((10^i:Nat):Int)):=by rw[ahB,List.getElem?_map,List.getElem?_range h];rfl
theorem alv:gl gB=.dptr vX 0:=by unfold gl;rfl
theorem aiH:∀b:Fin 65,1<=b.val->(10^(b.val*78913/262144)<=2^b.val∧2^b.val<=10^(b.val*78913/262144+1)∧(b.val*78913/262144=0∨10^(b.val*78913/262144-1)<2^(b.val-1))∧b.val*78913/262144<20):=dw
theorem GZ{n:Nat}(h:0<n):2^(cQ n-1)<=n∧n<2^cQ n∧1<=cQ n:=by have h0:n≠0:=aa;have:=(Nat.log2_eq_iff h0).1 rfl;simp only[cQ,h0,iF];exact⟨this.1,this.2,aa⟩
theorem TI{n d:Nat}(h1:10^(d-1)<=n)(h2:n<10^d)(hd:1<=d)(h:n<18446744073709551616):Ds F.wF [.d (.int .u64 n)] (I d):=by
 have h0:0<n:=Z0 (Xr am) h1;have⟨b1,b2,b3⟩:=GZ h0
 have hb:cQ n<=64:=by
  unfold cQ;split
  .omega
  .rename_i hz;have:=(Nat.log2_lt hz (k:=64)).2 (by simpa using h);omega
 have⟨t1,t2,t3,t4⟩:=aiH ⟨cQ n,aa⟩ b3;simp only at t1 t2 t3 t4;apply akU;simp[wF];refine cd (Mf h) ?_;simp;refine cd (ajk hb) ?_;generalize hk:cQ n*78913/262144=k at *;have hg:gl gB=.dptr vX 0:=alv;simp(disch:=omega) [hg];rw[ajR _ _ _ (ahA t4)];have hpk:10^(k+1)=10*10^k:=by rw[Nat.pow_succ,Zq]
 have hpd:10^d=10*10^(d-1):=by
  obtain⟨e,rfl⟩:∃e,d=e+1:=⟨d-1,aa⟩;rw[Nat.pow_succ,Zq];rfl
 have a1:10^k<=n->d=k+1:=λhc=>by
  have a1:k<d:=(Yt (a:=10) am).1 aa;have a2:d-1<k+1:=(Yt (a:=10) am).1 aa;omega
 have a2:¬10^k<=n->d=k:=λhc=>by
  have hk1:1<=k:=by
   rcases Ze k with e|e
   .subst e;simp at hc;omega
   .exact e
  have a1:d-1<k:=(Yt (a:=10) am).1 aa
  have a2:k-1<d:=by
   rcases t3 with e|e
   .omega
   .exact(Yt (a:=10) am).1 aa
  omega
 generalize 10^k=P at *;simp;refine cd (apq (decide (P<=n))) ?_;by_cases hc:P<=n
 .have:=a1 hc;simp(disch:=omega) [hc];exact df aa
 .have:=a2 hc;simp(disch:=omega) [hc];exact df aa
def dg(n:Nat):UInt8:=UInt8.ofNat (48+n)
def cJ:Nat->Nat->bA
 |_,0=>[]
 |n,w+1=>cJ (n/10) w++[dg (n%10)]
theorem fq:∀(w n:Nat),RW (cJ n w)=w
 |0,_=>rfl
 |w+1,n=>by simp[cJ,fq w]
def u8(b:UInt8):D:=.int .u8 b.toNat
def tN:bA:=[48,48,48,49,48,50,48,51,48,52,48,53,48,54,48,55,48,56,48,57,49,48,49,49,49,50,49,51,49,52,49,53,49,54,49,55,49,56,49,57,50,48,50,49,50,50,50,51,50,52,50,53,50,54,50,55,50,56,50,57,51,48,51,49,51,50,51,51,51,52,51,53,51,54,51,55,51,56,51,57,52,48,52,49,52,50,52,51,52,52,52,53,52,54,52,55,52,56,52,57,53,48,53,49,53,50,53,51,53,52,53,53,53,54,53,55,53,56,53,57,54,48,54,49,54,50,54,51,54,52,54,53,54,54,54,55,54,56,54,57,55,48,55,49,55,50,55,51,55,52,55,53,55,54,55,55,55,56,55,57,56,48,56,49,56,50,56,51,56,52,56,53,56,54,56,55,56,56,56,57,57,48,57,49,57,50,57,51,57,52,57,53,57,54,57,55,57,56,57,57]
theorem Kb:([48,48,48,49,48,50,48,51,48,52,48,53,48,54,48,55,48,56,48,57,49,48,49,49,49,50,49,51,49,52,49,53,49,54,49,55,49,56,49,57,50,48,50,49,50,50,50,51,50,52,50,53,50,54,50,55,50,56,50,57,51,48,51,49,51,50,51,51,51,52,51,53,51,54,51,55,51,56,51,57,52,48,52,49,52,50,52,51,52,52,52,53,52,54,52,55,52,56,52,57,53,48,53,49,53,50,53,51,53,52,53,53,53,54,53,55,53,56,53,57,54,48,54,49,54,50,54,51,54,52,54,53,54,54,54,55,54,56,54,57,55,48,55,49,55,50,55,51,55,52,55,53,55,54,55,55,55,56,55,57,56,48,56,49,56,50,56,51,56,52,56,53,56,54,56,55,56,56,56,57,57,48,57,49,57,50,57,51,57,52,57,53,57,54,57,55,57,56,57,57]:bA)=tN:=rfl
theorem aex:∀x:Fin 200,tN[x.val]?=Wf (dg (if x.val%2=0 then x.val/2/10 else x.val/2%10)):=dw
def rW(i:Int):D:=u8 (dg (if i%2=0 then i.toNat/2/10 else i.toNat/2%10))
@[simp] theorem aqM (k:iK)(i:Int)(K:V->Prop)(u:PU K)(h0:0<=i)(h1:i<200):rn (bnd (fF (.d (.str tN)) (.d (.int k i)))) K u=K (.d (rW i)):=by
 have h:=VD tN (k:=k) h0 (aex ⟨i.toNat,aa⟩);unfold rn;rw[show V.d (.str tN)=S tN from rfl,h]
 have e:(if i.toNat%2=0 then i.toNat/2/10 else i.toNat/2%10)=(if i%2=0 then i.toNat/2/10 else i.toNat/2%10):=by
  by_cases hc:i%2=0
  .rw[ip hc,ip aa]
  .rw[iN hc,iN aa]
 simp_all[rW,u8]
theorem aeC{x:Nat}:rW (2*(x:Int))=u8 (dg (x/10)):=by grind[rW]
theorem aeB{x:Nat}:rW (2*(x:Int)+1)=u8 (dg (x%10)):=by grind[rW]
theorem NT(n w:Nat):cJ n (w+2)=cJ (n/100) w++[dg (n%100/10),dg (n%100%10)]:=by
 simp only[cJ,List.append_assoc,List.singleton_append];rw[Xm];have e1:n/10%10=n%100/10:=aa;have e2:n%10=n%100%10:=aa
 grind
theorem ajF{α:Type}:∀(l:List α),RW l=8->∃c0 c1 c2 c3 c4 c5 c6 c7,l=[c0,c1,c2,c3,c4,c5,c6,c7]
 |[c0,c1,c2,c3,c4,c5,c6,c7],_=>⟨c0,c1,c2,c3,c4,c5,c6,c7,rfl⟩
 |[],h|[_],h|[_,_],h|[_,_,_],h|[_,_,_,_],h|[_,_,_,_,_],h|[_,_,_,_,_,_],h|[_,_,_,_,_,_,_],h=>by simp at h
 |_::_::_::_::_::_::_::_::_::_,h=>by simp at h
@[simp]theorem arw(s e off len cap tot:Nat):bh (.ref s e off len cap tot)=Wf (I len):=rfl
theorem af8(B:bF)(c0 c1 c2 c3 c4 c5 c6 c7 x0 x1 x2 x3 x4 x5 x6 x7:D){i1 i2 i3 i4 i5 i6 i7:Nat}
  (h1:i1=1) (h2:i2=2) (h3:i3=3) (h4:i4=4) (h5:i5=5) (h6:i6=6) (h7:i7=7) :
  ((((((((c0::c1::c2::c3::c4::c5::c6::c7::B).set i7 x7).set i6 x6).set i5 x5).set i4 x4).set i3 x3).set i2 x2).set i1 x1).set 0 x0=x0::x1::x2::x3::x4::x5::x6::x7::B:=by simp_all
theorem af9(B:bF)(c0 c1 c2 c3 x0 x1 x2 x3:D){i2 i3:Nat}(h1:i1=1)(h2:i2=2)(h3:i3=3):
  ((((c0::c1::c2::c3::B).set i3 x3).set i2 x2).set i1 x1).set 0 x0=x0::x1::x2::x3::B:=by grind
theorem set2(B:bF)(c0 c1 x0 x1:D)(h1:i1=1):((c0::c1::B).set i1 x1).set 0 x0=x0::x1::B:=by grind
@[simp]theorem ara(i:Int):norm (rW i)=rW i:=rfl
theorem xA{x:Nat}(h:i=2*(x:Int)+1):rW i=u8 (dg (x%10)):=by rw[h,aeB]
theorem xB{x:Nat}(h:i=2*(x:Int)):rW i=u8 (dg (x/10)):=by rw[h,aeC]
theorem an2(n w:Nat):cJ n (w+8)=cJ (n/100000000) w++[dg (n/1000000%100/10),dg (n/1000000%100%10),dg (n/10000%100/10),dg (n/10000%100%10),dg (n/100%100/10),dg (n/100%100%10),dg (n%100/10),dg (n%100%10)]:=by simp[NT,Xm]
theorem ams(h0:Hp)(hh:RW h0=2)(k:KL)(off len cap tot:Nat)(pre post:bF)(hpre:RW pre=off):∀(r nd n:Nat)(mid done:bF),nd<=r->RW mid=nd->nd+RW done=len->len<=24->tot=off+len+RW post ->
  n<10^nd->n<18446744073709551616 ->
  (∀(n' nd':Nat)(mid' done':bF),nd'<8->RW mid'=nd'->nd'+RW done'=len->n'<10^nd'->(cJ n' nd').map u8++done'=(cJ n nd).map u8++done->k (.exit 0) [.d (.int .u64 n'),I nd'] [(1,.data 1 (pre++(mid'++(done'++post))) Th SM),ah]) ->
  lp (DT DA 2 (.ref 0 1 off len cap tot)) [] h0 [.d (.int .u64 n),I nd] [(1,.data 1 (pre++(mid++(done++post))) Th SM),ah] k:=by
 intro r
 induction r with
 | zero=> 
  intro nd n mid done hr hm hd hl ht hn h64 hk;apply aL;simp(disch:=omega) [DT];exact hk n nd mid done aa hm hd hn rfl
 | succ r ih=>
  intro nd n mid done hr hm hd hl ht hn h64 hk;apply aL;by_cases h8:8<=nd
  ·obtain ⟨m',c0,c1,c2,c3,c4,c5,c6,c7,rfl⟩:∃(m':bF)(c0 c1 c2 c3 c4 c5 c6 c7:D),mid=m'++[c0,c1,c2,c3,c4,c5,c6,c7]:=by
    have⟨c0,c1,c2,c3,c4,c5,c6,c7,e⟩:=ajF (mid.drop (nd-8)) ae;exact⟨mid.take (nd-8),c0,c1,c2,c3,c4,c5,c6,c7,by rw[<-e,Xu]⟩
   have e0:pre++(m'++[c0,c1,c2,c3,c4,c5,c6,c7]++(done++post))=(pre++m')++c0::c1::c2::c3::c4::c5::c6::c7::(done++post):=ac;rw[e0];simp only[List.length_append,List.length_cons,List.length_nil]at hm;have hA:RW (pre++m')=off+nd-8:=by simp;omega
   have e9:∀x0 x1 x2 x3 x4 x5 x6 x7:D,(pre++m')++x0::x1::x2::x3::x4::x5::x6::x7::(done++post)=pre++(m'++((x0::x1::x2::x3::x4::x5::x6::x7::done)++post)):=by intros;simp
   generalize pre++m'=A at *;unfold DT;simp only[Kb];simp(disch:=try exact cC)[Zt,Zs];rw[af8 _ _ _ _ _ _ _ _ _ _ _ _ _ _ _ _ _ aa aa aa aa aa aa aa,e9]
   rw[xA (x:=n%100) (i:=(n:Int)%100*2+1) aa,xB (x:=n%100) (i:=(n:Int)%100*2) aa,xA (x:=n/100%100) (i:=(n:Int)%10000/100*2+1) aa,xB (x:=n/100%100) (i:=(n:Int)%10000/100*2) aa,xA (x:=n/10000%100) (i:=(n:Int)%100000000/10000%100*2+1) aa,xB (x:=n/10000%100) (i:=(n:Int)%100000000/10000%100*2) aa,xA (x:=n/1000000%100) (i:=(n:Int)%100000000/10000/100*2+1) aa,xB (x:=n/1000000%100) (i:=(n:Int)%100000000/10000/100*2) aa]
   obtain⟨w,rfl⟩:∃w,nd=w+8:=⟨nd-8,aa⟩;have hd8:=an2 n w;rw[show((w+8:Nat):Int)-8=(w:Nat) by omega,show(n:Int)/100000000=((n/100000000:Nat):Int) by omega]
   refine ih w (n/100000000) m' (u8 (dg (n/1000000%100/10))::u8 (dg (n/1000000%100%10))::u8 (dg (n/10000%100/10))::u8 (dg (n/10000%100%10))::u8 (dg (n/100%100/10))::u8 (dg (n/100%100%10))::u8 (dg (n%100/10))::u8 (dg (n%100%10))::done) aa aa dG hl ht ?_ aa ?_
   .grind
   .intro n' nd' mid' done' g1 g2 g3 g4 g5;refine hk n' nd' mid' done' g1 g2 g3 g4 ?_;rw[g5,hd8];simp
  .simp(disch:=omega) [DT];exact hk n nd mid done aa hm hd hn rfl
theorem ES{x:Nat}(h:x<10):u8 (dg x)=.int .u8 (48+x):=by unfold u8 dg;congr 1;simp;omega
theorem ajH{α:Type}:∀(l:List α),RW l=4->∃c0 c1 c2 c3,l=[c0,c1,c2,c3]
 |[c0,c1,c2,c3],_=>⟨c0,c1,c2,c3,rfl⟩
 |[],h|[_],h|[_,_],h|[_,_,_],h=>by simp at h
 |_::_::_::_::_::_,h=>by grind
theorem ajI{α:Type}:∀(l:List α),RW l=2->∃c0 c1,l=[c0,c1]
 |[c0,c1],_=>⟨c0,c1,rfl⟩
 |[],h|[_],h=>by simp at h
 |_::_::_::_,h=>by grind
theorem amt(n nd:Nat)(mid B:bF)(h8:nd<8)(hm:RW mid=nd)(hn:n<10^nd):∃(n1 nd1:Nat)(mid1 B1:bF),nd1<4∧RW mid1=nd1∧n1<10^nd1∧nd1+RW B1=nd+RW B∧(cJ n1 nd1).map u8++B1=(cJ n nd).map u8++B ∧
  ((4<=nd∧n1=n/10000∧nd1=nd-4∧(∃c0 c1 c2 c3,mid=mid1++[c0,c1,c2,c3])∧B1=u8 (dg (n/100%100/10))::u8 (dg (n/100%100%10))::u8 (dg (n%100/10))::u8 (dg (n%100%10))::B)∨(¬4<=nd∧n1=n∧nd1=nd∧mid1=mid∧B1=B)):=by
 by_cases h4:4<=nd
 .obtain⟨w,rfl⟩:∃w,nd=w+4:=⟨nd-4,aa⟩;have⟨c0,c1,c2,c3,e⟩:=ajH (mid.drop w) ae;refine⟨n/10000,w,mid.take w,_,aa,ae,?_,?_,?_,.inl ⟨h4,rfl,aa,⟨c0,c1,c2,c3,by rw[<-e,Xu]⟩,rfl⟩⟩
  .grind
  .grind
  simp[NT,Xm]
 .exact⟨n,nd,mid,B,aa,hm,hn,rfl,rfl,.inr ⟨h4,rfl,rfl,rfl,rfl⟩⟩
theorem amr(n nd:Nat)(mid B:bF)(h8:nd<4)(hm:RW mid=nd)(hn:n<10^nd):∃(n1 nd1:Nat)(mid1 B1:bF),nd1<2∧RW mid1=nd1∧n1<10^nd1∧nd1+RW B1=nd+RW B∧(cJ n1 nd1).map u8++B1=(cJ n nd).map u8++B ∧
  ((2<=nd∧n1=n/100∧nd1=nd-2∧(∃c0 c1,mid=mid1++[c0,c1])∧B1=u8 (dg (n%100/10))::u8 (dg (n%100%10))::B)∨(¬2<=nd∧n1=n∧nd1=nd∧mid1=mid∧B1=B)):=by
 by_cases h4:2<=nd
 .obtain⟨w,rfl⟩:∃w,nd=w+2:=⟨nd-2,aa⟩;have⟨c0,c1,e⟩:=ajI (mid.drop w) ae;refine⟨n/100,w,mid.take w,_,aa,ae,?_,?_,?_,.inl ⟨h4,rfl,aa,⟨c0,c1,by rw[<-e,Xu]⟩,rfl⟩⟩
  .grind
  .grind
  simp[NT]
 .exact⟨n,nd,mid,B,aa,hm,hn,rfl,rfl,.inr ⟨h4,rfl,rfl,rfl,rfl⟩⟩
def re(pre mid B:bF):Hp:=[(1,.data 1 (pre++(mid++B)) Th SM),ah]
theorem XP{off tot n d:Nat}{pre mid post:bF}(hpre:RW pre=off)(hm:RW mid=d)(hd:d<=24)(ht:tot=off+d+RW post)(hn:n<10^d)(h64:n<18446744073709551616):
  CI Y F.uw [.ref 0 1 off d cap tot,.d (.int .u64 n)] [(1,.data 1 (pre++(mid++post)) Th SM),ah] (.tup []) [(1,.data 1 (pre++((cJ n d).map u8++post)) Th SM),ah]:=by
 apply akX;unfold uw;simp only[Kb];simp;refine lo (ams _ rfl _ off d cap tot pre post hpre d d n mid [] aa hm ac hd ht hn h64 (λn' nd mid' done g1 g2 g3 g4 g5=>?_));have hp8:10^nd<=10^7:=Z2 am aa;simp[Nat.reducePow]at hp8;simp(disch:=omega) []
 have⟨n1,d1,mid1,B1,f1,f2,f3,f4,f5,f6⟩:=amt n' nd mid' (done++post) g1 g2 g4;refine fE (l:=[.d (.int .u32 n1),I d1]) (h:=re pre mid1 B1) (λq=>?_) ?_
 .rcases f6 with⟨c,rfl,rfl,⟨c0,c1,c2,c3,rfl⟩,rfl⟩|⟨c,rfl,rfl,rfl,rfl⟩
  .have e0:pre++(mid1++[c0,c1,c2,c3]++(done++post))=(pre++mid1)++c0::c1::c2::c3::(done++post):=ac;rw[e0];simp only[List.length_append,List.length_cons,List.length_nil]at g2;have hA:RW (pre++mid1)=off+nd-4:=by simp;omega
   have e9:∀x0 x1 x2 x3:D,(pre++mid1)++x0::x1::x2::x3::(done++post)=pre++(mid1++(x0::x1::x2::x3::(done++post))):=by intros;simp
   generalize pre++mid1=A at *;simp(disch:=try exact cC)[c,Zt,Zs];rw[af9 _ _ _ _ _ _ _ _ _ aa aa aa,e9]
   rw[xA (x:=n'%100) (i:=(n':Int)%100*2+1) aa,xB (x:=n'%100) (i:=(n':Int)%100*2) aa,xA (x:=n'/100%100) (i:=(n':Int)%10000/100*2+1) aa,xB (x:=n'/100%100) (i:=(n':Int)%10000/100*2) aa];simp[re,I,show((nd-4:Nat):Int)=(nd:Int)-4 by omega]
  .simp(disch:=omega) [c,re]
 have hp4:10^d1<=10^3:=Z2 am aa;simp[Nat.reducePow]at hp4;simp;have⟨n2,d2,mid2,B2,e1,e2,e3,e4,e5,e6⟩:=amr n1 d1 mid1 B1 f1 f2 f3;refine fE (l:=[.d (.int .u32 n2),I d2]) (h:=re pre mid2 B2) (λq=>?_) ?_
 .rcases e6 with⟨c,rfl,rfl,⟨c0,c1,rfl⟩,rfl⟩|⟨c,rfl,rfl,rfl,rfl⟩
  .have e0:pre++(mid2++[c0,c1]++B1)=(pre++mid2)++c0::c1::B1:=ac;rw[re,e0];simp only[List.length_append,List.length_cons,List.length_nil]at f2;have hA:RW (pre++mid2)=off+d1-2:=by simp;omega
   have hB:tot=off+d1+RW B1:=by simp at f4;omega
   have e9:∀x0 x1:D,(pre++mid2)++x0::x1::B1=pre++(mid2++(x0::x1::B1)):=by intros;simp
   generalize pre++mid2=A at *;simp(disch:=try exact cC)[c,Zt,Zs];rw[set2 _ _ _ _ _ aa,e9];rw[xA (x:=n1%100) (i:=(n1:Int)%100*2+1) aa,xB (x:=n1%100) (i:=(n1:Int)%100*2) aa];simp[re,I,show((d1-2:Nat):Int)=(d1:Int)-2 by omega]
  .simp(disch:=omega) [c,re]
 simp
 have hend:re pre ((cJ n2 d2).map u8) B2=[(1,.data 1 (pre++((cJ n d).map u8++post)) Th SM),ah]:=by
  simp only[re];rw[e5,f5,<-List.append_assoc ((cJ n' nd).map u8),g5];simp
 refine fE (l:=[]) (h:=re pre ((cJ n2 d2).map u8) B2) (λq=>?_) ?_
 .match d2,e1,mid2,e2 with
  |0,_,[],_=>rfl
  | 1,_,[c0],_=>
   have hn2:n2<10:=by simpa using e3
   have hB:tot=off+1+RW B2:=by simp at f4;omega
   simp(disch:=try exact cC)[re,cJ];rw[X6 hn2,ES hn2]
 rw[hend];simp[fA];exact⟨cU,.inl aM⟩
@[simp]theorem aq0(s n:Nat)(cs:bF)(h:Hp)(k:bG)(u:PU k):rh (mN s n cs h) k u=rn (lE h[s]?) (λx=>k (.ptr s (x.1+1) 0 (RW cs)) (h.set s (x.1+1,.data n cs Th SM))) .mk:=by unfold rh rn mN;exact GW ..
def ay(n:Nat):Nat:=if n<10 then 1 else ay (n/10)+1
theorem nF(n:Nat):1<=ay n:=by unfold ay;split<;>omega
theorem eW:∀n:Nat,n<10^ay n:=by
 intro n
 induction n using Nat.strongRecOn with
 | _ n ih=>
  unfold ay;split
  .simpa using ‹n<10›
  .have:=ih (n/10) aa;rw[Nat.pow_succ];omega
theorem Bb:∀n:Nat,0<n->10^(ay n-1)<=n:=by
 intro n
 induction n using Nat.strongRecOn with
 | _ n ih=>
  intro h0;unfold ay;split
  .simp;omega
  .have h1:=ih (n/10) aa aa;have h2:=nF (n/10);rw[show ay (n/10)+1-1=(ay (n/10)-1)+1 by omega,Nat.pow_succ];omega
theorem eC{n d:Nat}(h:n<10^d)(hd:1<=d):ay n<=d:=by
 rcases Ze n with e|e
 .subst e;unfold ay;rw[ip aa];exact hd
 .have h1:=Bb n e;have:ay n-1<d:=(Yt (a:=10) am).1 aa;omega
def aA(n:Nat):bA:=cJ n (ay n)
def itoa(z:Int):bA:=if z<0 then 45::aA z.natAbs else aA z.natAbs
def NC:bA:=[48,49,50,51,52,53,54,55,56,57,97,98,99,100,101,102,103,104,105,106,107,108,109,110,111,112,113,114,115,116,117,118,119,120,121,122]
theorem am6:([48,49,50,51,52,53,54,55,56,57,97,98,99,100,101,102,103,104,105,106,107,108,109,110,111,112,113,114,115,116,117,118,119,120,121,122]:bA)=NC:=rfl
theorem aey:∀x:Fin 10,(NC.drop x.val).take 1=aA x.val:=dw
theorem aez:∀x:Fin 100,10<=x.val->(tN.drop (2*x.val)).take 2=aA x.val:=by intro x hx;have h1:=(show ∀x:Fin 100,(tN.drop (2*x.val)).take 2=cJ x.val 2 by decide+kernel) x;rw[h1,aA];congr 1;unfold ay;rw[iN aa];unfold ay;rw[ip aa]
theorem Kr{s:bA}{l:iK}{j:Int}(a b:Nat)(hi:i=a)(hj:j=b)(h1:a<=b)(h2:b<=RW s):nB (.d (.str s)) (Wf (.d (.int k i))) (Wf (.d (.int l j)))=Wf (.d (.str ((s.drop a).take (b-a)))):=by subst hi hj;simp only[nB,eG];rw[ip aa];simp only[];rw[ip aa];simp
theorem QP{n:Nat}(h:n<100):Ds F.yS [I n] (S (aA n)):=by
 apply akT;unfold yS;simp only[Kb,am6];by_cases c:n<10
 .simp(disch:=omega) [c];rw[Kr n (n+1) aa aa aa (by rw[show RW NC=36 from rfl];omega)];have:=aey ⟨n,c⟩;simp[]at this;simp[this];exact eA rfl
 .simp(disch:=omega) [c];rw[Kr (2*n) (2*n+2) aa aa aa (by rw[show RW tN=200 from rfl];omega)];have:=aez ⟨n,h⟩ (by simpa using c);simp[]at this;simp[this];exact eA rfl
theorem Oy:∀l:bA,bytesD (l.map u8)=Wf l
 |[]=>rfl
 | b::l=>by
  have hb:=b.toNat_lt;simp only[Zv,u8,bytesD];rw[ip aa];have:=Oy l;rw[this];simp
abbrev cH(cells:bF):Hp:=[(1,.data 1 cells Th SM),ah]
theorem QY(hc:RW cells=24){l:iK}{j:Int}(a b:Nat)(hi:i=a)(hj:j=b)(h1:a<=b)(h2:b<=24):
  nC 24 1 (cH cells) (.ptr 0 1 0 24) (Wf (.d (.int k i))) (Wf (.d (.int l j)))=Wf (.ref 0 1 a (b-a) (24-a) 24):=by simp only[nC,cH,aH];simp[Jb hj h2,Jb hi h1,hc]
theorem Kt(hc:RW cells=24){l:iK}{j:Int}(b:Nat)(hj:j=b)(h2:b<=24):
  nC 24 1 (cH cells) (.ptr 0 1 0 24) Vc (Wf (.d (.int l j)))=Wf (.ref 0 1 0 b 24 24):=by simp only[nC,cH,aH];simp[Jb hj h2,aaO,hc]
theorem N7(hc:RW cells=24){i:Nat}{bs:bA}(hl:i+len<=24)(he:(cells.drop i).take len=bs.map u8)(hb:RW bs=len):nP (cH cells) (.ref 0 1 i len cap 24)=Wf (S bs):=by simp only[nP,cellsOf,cH,aH];simp[hc,hl,he,hb,Oy]
theorem al7(h1 : -9223372036854775808<z)(h2:z<9223372036854775808):Ds F.wG [I z,I 10] (S (itoa z)):=by
 apply ak3;have jz:=nF z.natAbs;have hd2:ay z.natAbs<=19:=eC aa aa;have hn:=eW z.natAbs;by_cases hs:0<=z∧z<100
 .have⟨hs1,hs2⟩:=hs;obtain⟨n,rfl⟩:∃n:Nat,z=n:=⟨z.toNat,aa⟩;simp[wG,hs1,hs2];refine cd (QP (n:=n) aa) ?_;rw[show itoa (n:Int)=aA n by unfold itoa;rw[iN aa];rfl];exact eA rfl
 .have hcs:(0<=z∧¬z<100)∨¬0<=z:=aa;have hw:z<0->iK.wrap .u64 z=z+18446744073709551616:=λh=>by rw[Pf];omega
  have hw2:z<0->iK.wrap .u64 (-(z+18446744073709551616)) = -z:=λh=>by rw[Pf];omega
  have hn64:z.natAbs<18446744073709551616:=aa;have hn0:0<z.natAbs:=aa;have hab:(z.natAbs:Int)=if z<0 then -z else z:=by split<;>omega
  have hit:itoa z=if z<0 then 45::cJ z.natAbs (ay z.natAbs)else cJ z.natAbs (ay z.natAbs):=rfl
  have hlo:=Bb z.natAbs hn0;generalize ay z.natAbs=d at *;generalize z.natAbs=n at *
  obtain ⟨mid,post,hm,hp,hcell⟩:∃mid post:bF,RW mid=d∧RW post=23-d∧So 24 (D.int .u8 0)=[D.int .u8 0]++(mid++post):=by
   refine⟨So d (.int .u8 0),So (23-d) (.int .u8 0),ac,ac,?_⟩;rw[List.replicate_append_replicate,show d+(23-d)=23 by omega];rfl
  have hmain:bp DA.p (cH ([D.int .u8 0]++(mid++post))) (.fn F.wF [] []) [.d (.int .u64 n)] λv12 h=>
    bnd (aD .add (.d (.int .i64 1)) v12) λv13=>
    bnd (nC 24 1 h (.ptr 0 1 0 24) (Wf (.d (.int .i64 1))) (Wf v13)) λv14=>
    eQ DA.i h (.fn F.uw [] []) [v14,.d (.int .u64 n)] 1 λv15 h=>
    bnd (aD .lss (I z) (.d (.int .i64 0))) λv16=>
    aQ v16 (
     bnd (m5 24 1 (.ptr 0 1 0 24) (.d (.int .i64 0))) λv17=>
     aS h 1 v17 (.d (.int .u8 45)) λ_ h=>
     bnd (aD .add (.d (.int .i64 1)) v12) λv19=>
     bnd (nC 24 1 h (.ptr 0 1 0 24) Vc (Wf v19)) λv20=>
     bnd (nP h v20) λv21=>
     out (S (itoa z)) v21 h) (
     bnd (aD .add (.d (.int .i64 1)) v12) λv22=>
     bnd (nC 24 1 h (.ptr 0 1 0 24) (Wf (.d (.int .i64 1))) (Wf v22)) λv23=>
     bnd (nP h v23) λv24=>
     out (S (itoa z)) v24 h):=by
   refine cd (u:=.mk) (TI hlo hn jz hn64) ?_;simp(disch:=omega) [];rw[QY dG 1 (d+1) aa aa aa aa];simp;refine gG (h':=cH ([D.int .u8 0]++((cJ n d).map u8++post))) (XP (pre:=[D.int .u8 0]) rfl hm aa aa hn hn64) ?_ ac;by_cases g:z<0
   .rw[ip g]at hit;simp[g,fq,hp];rw[aec _ _ _ _ _ _ _ _ _ (by simp[fq];omega) ac];simp(disch:=omega) [bP];rw[Kt (by simp[fq];omega) (d+1) aa aa];simp;rw[N7 (bs:=45::cJ n d) (by simp[fq];omega) aa (by simp[u8,fq,List.take_append,Zx]) (by simp[fq])];rw[hit];simp
    exact eA rfl
   .rw[iN g]at hit;simp(disch:=omega) [g];rw[QY (by simp[fq];omega) 1 (d+1) aa aa aa aa];simp;rw[N7 (bs:=cJ n d) (by simp[fq];omega) aa (by simp[fq,List.take_append,Zx]) (by simp[fq])];rw[hit];simp;exact eA rfl
  rcases hcs with⟨g1,g2⟩|g1
  .have g3:¬z<0:=aa;rw[iN g3]at hab;simp[wG,g1,g2];refine fE (l:=[.d (.int .u64 n)]) (h:=cH ([D.int .u8 0]++(mid++post))) (λq=>?_) hmain;rw[<-hcell];simp(disch:=omega) [g3,hab]
  .have g3:z<0:=aa;rw[ip g3]at hab;simp[wG,g1];refine fE (l:=[.d (.int .u64 n)]) (h:=cH ([D.int .u8 0]++(mid++post))) (λq=>?_) hmain;rw[<-hcell];simp[g3,hab,hw g3,hw2 g3]
theorem akJ(h1 : -9223372036854775808<z)(h2:z<9223372036854775808):Ds F.BC [I z] (S (itoa z)):=by apply ak1;simp[BC];refine cd (al7 h1 h2) ?_;exact eA rfl
theorem HO(h1 : -9223372036854775808<z)(h2:z<9223372036854775808):Ds F.strconv_Itoa [I z] (S (itoa z)):=by apply ad2;simp[strconv_Itoa];refine cd (akJ h1 h2) ?_;exact eA rfl
def iA(b:UInt8):Bool:=decide (48<=b.toNat)&&decide (b.toNat<=57)
theorem ql{b:UInt8}:iA b=Th↔48<=b.toNat∧b.toNat<=57:=by simp[iA]
def eM(a:Nat)(s:bA):Nat:=s.foldl (λa b=>a*10+(b.toNat-48)) a
@[simp]theorem VW(a:Nat):eM a []=a:=by unfold eM;rw[List.foldl_nil]
@[simp]theorem sU(a:Nat)(b:UInt8)(s:bA):eM a (b::s)=eM (a*10+(b.toNat-48)) s:=by unfold eM;rw[List.foldl_cons]
theorem NE(x:Nat):(dg x).toNat=(48+x)%256:=by simp[dg]
theorem am9{b:UInt8}(h:iA b=Th):dg (b.toNat-48)=b:=by rw[ql]at h;apply UInt8.toNat.inj;rw[NE];omega
theorem ZR:∀(s:bA)(a w:Nat),s.all iA=Th->cJ (eM a s) (w+RW s)=cJ a w++s
 |[],a,w,_=>by simp
 | b::s,a,w,h=>by
  simp only[List.all_cons,Z7]at h;have:=ZR s (a*10+(b.toNat-48)) (w+1) h.2;have hb:=ql.1 h.1;rw[sU,List.length_cons,show w+(RW s+1)=w+1+RW s by omega,this];simp only[cJ];rw[show(a*10+(b.toNat-48))/10=a by omega,show(a*10+(b.toNat-48))%10=b.toNat-48 by omega,am9 h.1];simp
theorem MS:∀(s:bA)(a:Nat),a*10^(RW s)<=eM a s
 |[],a=>by simp
 | b::s,a=>by
  have:=MS s (a*10+(b.toNat-48));rw[sU,List.length_cons,Nat.pow_succ];refine Z1 ?_ this;rw[Zq (10^(RW s)),<-Nat.mul_assoc];exact Zu _ aa
theorem BD:∀(s:bA)(a:Nat),s.all iA=Th->eM a s<(a+1)*10^(RW s)
 |[],a,_=>by simp
 | b::s,a,h=>by
  simp only[List.all_cons,Z7]at h;have:=BD s (a*10+(b.toNat-48)) h.2;have hb:=ql.1 h.1;rw[sU,List.length_cons,Nat.pow_succ];refine Z0 this ?_;rw[Zq (10^(RW s)),<-Nat.mul_assoc];exact Zu _ aa
theorem TU{n d:Nat}(h1:10^d<=n)(h2:n<10^(d+1)):ay n=d+1:=by have:=eC h2 aa;have h3:=eW n;have:d<ay n:=(Yt (a:=10) am).1 aa;omega
def iL(s:bA):Bool:=!s.isEmpty&&s.all iA && !(decide (1<RW s)&&decide (s.headD 0=48))
theorem VI{s:bA}(h:iL s=Th):aA (eM 0 s)=s:=by
 simp only[iL,Z7,Y6,Xg,decide_eq_false_iff_not]at h;have⟨⟨h0,h1⟩,h2⟩:=h;cases s with
 |nil=>simp at h0
 | cons b s=>
  have hd:=ZR (b::s) 0 0 h1;simp only[List.all_cons,Z7]at h1;have hb:=ql.1 h1.1;simp only[Zh,cJ,List.nil_append]at hd
  have hn:ay (eM 0 (b::s))=RW (b::s):=by
   have lo:=MS s (b.toNat-48);have hi:=BD s (b.toNat-48) h1.2;simp only[sU,Wb,Zh,List.length_cons]at *;by_cases hs:s=[]
   .subst hs;simp[VW,List.length_nil,Zh];unfold ay;rw[ip aa]
   .have hl:0<RW s:=Xn.2 hs
    have hb0:b.toNat≠48:=by
     rcases h2 with h2|h2
     .omega
     .intro e;apply h2;simp[List.headD_cons];apply UInt8.toNat.inj;rw[e];rfl
    refine TU ?_ ?_
    .refine Z1 ?_ lo;have:=Zu (10^(RW s)) (show 1<=b.toNat-48 by omega);omega
    .refine Z0 hi ?_;rw[Nat.pow_succ,Zq];exact Z4 _ aa
  unfold aA;rw[hn];exact hd
theorem akN{x:Nat}(h:x<10):iA (dg x)=Th:=by rw[ql,NE];omega
theorem ana{x:Nat}(h:x<10):(dg x).toNat=48+x:=by rw[NE];omega
theorem Ei:∀(w n:Nat),(cJ n w).all iA=Th
 |0,_=>rfl
 | w+1,n=>by
  simp[cJ,Yo,Ei w,List.all_cons,List.all_nil,X8,X5];exact akN aa
theorem MU:∀(s t:bA)(a:Nat),eM a (s++t)=eM (eM a s) t
 |[],t,a=>rfl
 |b::s,t,a=>by rw[List.cons_append,sU,sU,MU s t]
theorem HV:∀(w n:Nat),n<10^w->eM 0 (cJ n w)=n
 |0,n,h=>by simp at h;subst h;rfl
 | w+1,n,h=>by
  have:=HV w (n/10) (by rw[Nat.pow_succ]at h;omega);simp[cJ,MU,this,sU,VW];rw[ana aa];omega
theorem Et(n:Nat):iL (aA n)=Th:=by
 have hl:RW (aA n)=ay n:=fq ..;have hp:=nF n;have ha:(aA n).all iA=Th:=Ei ..;have hh:eM 0 (aA n)=n:=HV _ _ (eW n);cases he:aA n with
 |nil=>rw[he]at hl;simp at hl;omega
 | cons b s=>
  rw[he]at hl ha hh;simp only[iL,List.isEmpty_cons,Bool.not_false,X5,ha,List.headD_cons,Y6,Xg,decide_eq_false_iff_not];by_cases h1:1<RW (b::s)
  .right;refine decide_eq_false λe=>?_
   subst e;simp only[List.all_cons,Z7]at ha;have hi:=BD s 0 ha.2;simp only[sU,List.length_cons]at *;have e48:(48:UInt8).toNat=48:=rfl;rw[e48]at hh;simp only[Y5,Wb,Zh,W0]at *;rw[hh]at hi
   have lo:=Bb n (by
    rcases Ze n with e|e
    .have e1:ay 0=1:=by unfold ay;rfl
     rw[e,e1]at hl;omega
    .exact e)
   rw[<-hl]at lo;simp at lo;omega
  .left;simpa using h1
theorem nI(n:Nat):eM 0 (aA n)=n:=HV _ _ (eW n)
def qM(s:bA):Option Int:=if s.headD 0=45 then(if iL s.tail=Th∧s.tail≠[48]then Wf (-(eM 0 s.tail:Int))else Vc)else if iL s=Th then Wf (eM 0 s:Int)else Vc
theorem DL(n:Nat):aA n≠[]:=by intro e;have:RW (aA n)=ay n:=fq ..;have:=nF n;rw[e]at *;simp at *;omega
theorem yM(n:Nat):(aA n).headD 0≠45:=by
 have ha:(aA n).all iA=Th:=Ei ..;cases he:aA n with
 |nil=>exact absurd he (DL n)
 | cons b s=>
  rw[he]at ha;simp only[List.all_cons,Z7,ql]at ha;simp only[List.headD_cons];intro e;subst e;have:(45:UInt8).toNat=45:=rfl;omega
theorem SF(z:Int):qM (itoa z)=Wf z:=by
 unfold qM itoa;by_cases hz:z<0
 .rw[ip hz,List.headD_cons,ip rfl,List.tail_cons,Et,nI,ip]
  .congr 1;omega
  .refine⟨rfl,λe=>?_⟩;have:=nI z.natAbs;rw[e]at this;have e2:eM 0 [48]=0:=rfl;omega
 .rw[iN hz,iN (yM _),ip (Et _),nI];congr 1;omega
theorem ahb{s:bA}(h:qM s=Wf z):s=itoa z:=by
 unfold qM at h;split at h
 .rename_i hd;split at h
  .rename_i hc;simp[Z9]at h;subst h;cases s with
   |nil=>simp at hd
   | cons b s=>
    simp only[List.headD_cons]at hd;subst hd;simp only[List.tail_cons]at *;have he:=VI hc.1
    have h0:eM 0 s≠0:=by
     intro e;rw[e]at he;apply hc.2;rw[<-he];unfold aA ay;rfl
    unfold itoa;rw[ip aa,X0,Int.natAbs_natCast,he]
  .cases h
 .split at h
  .rename_i hc;simp[Z9]at h;subst h;unfold itoa;rw[iN aa,Int.natAbs_natCast,VI hc]
  .cases h
theorem IM:∀(v w n:Nat),cJ n (w+v)=cJ (n/10^v) w++cJ n v
 |0,w,n=>by simp[cJ]
 | v+1,w,n=>by
  rw[show w+(v+1)=(w+v)+1 by omega];simp[cJ];rw[IM v w (n/10),Xm,Nat.pow_succ,Zq 10,List.append_assoc]
theorem IL:∀(w n m:Nat),cJ (n+10^w*m) w=cJ n w
 |0,_,_=>rfl
 | w+1,n,m=>by
  simp only[cJ];have e:n+10^(w+1)*m=n+10*(10^w*m):=by rw[Nat.pow_succ,Zq (10^w) 10,Nat.mul_assoc]
  rw[e,X9 _ _ am,Xe,IL w]
theorem akK{t k r:Nat}(ht:0<t)(hr:r<10^k):aA (r+10^k*t)=aA t++cJ r k:=by
 have h1:=Bb t ht;have h2:=eW t;have h3:=nF t;have⟨d,hd⟩:∃d,ay t=d+1:=⟨ay t-1,aa⟩
 have hn:ay (r+10^k*t)=ay t+k:=by
  rw[hd]at h1 h2 ⊢;simp only[Nat.add_sub_cancel]at h1;rw[show d+1+k=(d+k)+1 by omega];refine TU ?_ ?_
  .rw[Yr,Zq];have:=Z4 (10^k) h1;omega
  .rw[show d+k+1=k+(d+1) by omega,Yr];have:=Z4 (10^k) h2;rw[Nat.mul_succ]at this;omega
 have e:=IM k (ay t) (r+10^k*t);rw[<-hn,X9 _ _ (Nat.pos_of_ne_zero (by have:=Xr (a:=10) (n:=k) am;omega)),W6 hr,Zh,IL]at e;exact e
theorem OP:∀a:Fin 10,aD .and (.d (.int .u64 a.val)) (.d (.int .u64 4294967295))=Wf (.d (.int .u64 a.val)):=by
 intro a
 match a with
 |0|1|2|3|4|5|6|7|8|9=>rfl
@[simp]theorem asA{n:Nat}(h:n<10):aD .and (.d (.int .u64 (n:Int))) (.d (.int .u64 4294967295))=Wf (.d (.int .u64 n)):=OP ⟨n,h⟩
@[simp]theorem asy:aD .and (.d (.int .u64 1)) (.d (.int .u64 4294967295))=Wf (.d (.int .u64 1)):=OP 1
@[simp]theorem asz:aD .and (.d (.int .u64 0)) (.d (.int .u64 4294967295))=Wf (.d (.int .u64 0)):=OP 0
theorem aiP{n:Nat}(h:n<10):Ds F.qU [.d (.int .u64 1),.d (.int .u64 n)] (.tup [.d (.int .u64 0),.d (.int .u64 n)]):=by apply Ug;have e:(n:Int)/4294967296=0:=aa;simp(disch:=omega) [qU,e];exact⟨[],by simp[bQ,bY]⟩
theorem aiO{n:Nat}(h:n<10):Ds F.Bh [.d (.int .u64 1),.d (.int .u64 n)] (.tup [.d (.int .u64 0),.d (.int .u64 n)]):=by apply ai0;simp[Bh];refine cd (aiP h) ?_;simp;exact⟨[],by simp[bQ,bY]⟩
def pE:Nat->Nat->ax
 |_,0=>[]
 |n,w+1=>pE (n/10) w++[n%10]
theorem NS:∀(w n:Nat),RW (pE n w)=w
 |0,_=>rfl
 |w+1,n=>by simp[pE,NS w]
theorem IK:∀(w n:Nat),∀x∈pE n w,x<10
 |0,_=>by simp[pE]
 | w+1,n=>by
  intro x hx;simp[pE,Xc,Wd]at hx;rcases hx with hx|hx
  .exact IK w _ x hx
  .omega
theorem IN:∀(w n:Nat),cJ n w=(pE n w).map dg
 |0,_=>rfl
 |w+1,n=>by simp[cJ,pE,IN w]
def HW(a:Nat)(l:ax):Nat:=l.foldl (λa d=>a*10+d) a
theorem MR:∀(w n:Nat),n<10^w->HW 0 (pE n w)=n
 |0,n,h=>by simp at h;subst h;rfl
 | w+1,n,h=>by
  have:=MR w (n/10) (by rw[Nat.pow_succ]at h;omega);unfold HW at this;simp[HW,pE,List.foldl_append,this,List.foldl_cons,List.foldl_nil];omega
def f8(x:Nat):D:=.int .u8 (48+x)
theorem ZP(n w:Nat):(cJ n w).map u8=(pE n w).map f8:=by rw[IN,Wa];apply List.map_congr_left;intro x hx;exact ES (IK w n x hx)
theorem OL(k:KL)(h0:Hp)(hh:RW h0=0):∀(r a:ax)(s:Nat),RW (a++r)<=18->(∀x∈r,x<10)->s<10^(RW a) ->
  (k (.exit 0) [I (HW s r)] []) ->
  lp (HT DA (aj f8 (a++r)) (I (RW (a++r)))) [] h0 [I s,I (RW a)] [] k
 | []=>by
  intro a s hN hx hs hk;apply aL;simp[HT];exact hk
 | x::r=>by
  intro a s hN hx hs hk;simp at hN hx;have hs18:s<10^17:=Z0 hs (Z2 am aa);simp[Nat.reducePow]at hs18;have hx1:=hx.1;apply aL;simp(disch:=try exact cC)[HT,f8];have:=OL k h0 hh r (a++[x]) (s*10+x) dG hx.2 (by simp[Nat.pow_succ];omega) hk;simp at this
  rw[show(48+(x:Int)-48)=x by omega];exact this
theorem ap5{n w:Nat}(h1:1<=w)(h2:w<=18)(hn:n<10^w):Ds F.wH [S (cJ n w)] (.tup [I n,.d (.pl .nilIface)]):=by
 apply VU;have hl:=NS w n;have PJ:=IK w n;have hh:=MR w n hn;have he:=ZP n w;have hD:=IN w n;generalize cJ n w=L at *;generalize pE n w=l at *;cases l with
 |nil=>simp at hl;omega
 | cons x l=>
  have hx:=PJ x ac
  have hi:fF (S L) (.d (.int .i64 0))=Wf (.d (.int .u8 (48+x))):=by
   rw[hD];simp[fF];have e:=ES hx;unfold u8 at e;injection e
  have Rg:RW L=w:=by rw[hD];simpa using hl
  have hlw:fv (S L)=Wf (I w):=by rw[Hq,Rg]
  simp(disch:=omega) [wH,hlw,hi]
  have hcv:∀(k:bG),oG (S L) [] k=k (aj f8 (x::l)) []:=by
   intro k
   have:V.d (.sl (RW L) (L.map λb=>.int .u8 b.toNat))=aj f8 (x::l):=by
    unfold aj;rw[Rg,hl,<-he];rfl
   simp[oG,this]
  refine fE (l:=[S L]) (h:=[]) (λq=>?_) ?_
  .simp[show ¬(48+(x:Int)=43) by omega]
  show oG (S L) [] _
  rw[hcv];simp;refine lo (OL _ _ rfl (x::l) [] 0 (by simp at hl;simp;omega) PJ ac ?_);simp[hi,hh];refine fE (l:=[I n]) (h:=[]) (λq=>?_) ?_
  .simp[hh,show ¬(48+(x:Int)=45) by omega]
  exact⟨[],by simp[bQ,bY,norm]⟩
theorem GU:pI .neq (.d (.pl .nilIface)) (.d (.pl .nilIface))=Wf (.d (.bool SM)):=rfl
theorem OK{n w:Nat}(h1:1<=w)(h2:w<=18)(hn:n<10^w):Ds F.strconv_Atoi [S (cJ n w)] (.tup [I n,.d (.pl .nilIface)]):=by apply Qw;simp[strconv_Atoi];refine cd (ap5 h1 h2 hn) ?_;simp[GU];exact⟨[],by simp[bQ,bY,norm]⟩
theorem K4(z:D):∀n,dI n [z]=So n z
 |0=>rfl
 |n+1=>by simp[dI,K4 z n,List.replicate_succ]
@[simp] theorem aqU (s Nd:Nat)(z:D)(h:Hp)(i:Int)(k:bG)(u:PU k)(h0:0<=i)(hb:Nd*i<=281474976710656)(h1:i<=9223372036854775807):
  rh (fS s Nd [z] h (.d (.int .i64 i)) (.d (.int .i64 i))) k u=rn (lE h[s]?) (λy=>k (.ref s (y.1+1) 0 i.toNat i.toNat i.toNat) (h.set s (y.1+1,.data 1 (So i.toNat z) Th SM))) .mk:=by unfold rh rn;simp only[fS];rw[ip ⟨h0,Int.le_refl _,ac,hb,h1⟩,GW];simp[K4,Y8,List.length_singleton]
@[simp]theorem arv(s e off len cap tot:Nat):bh (.ref s e off len cap tot)=Wf (.d (.int .i64 (len:Int))):=id rfl
theorem ii{T:bG->Prop}{k:bG}{u:PU k}(h:T k):rh T k u:=h
theorem rF{h:Hp}{f:fI}{v:V}{k:bG}{u:PU k}(hs:bY h args=Wf (ds,h'))(hc:C f ds v)(hk:k v (if fk v then h else h')):rh (bp C h (.fn f [] []) args) k u:=
 xa hs hc hk
variable{α:Type}{f:α->D}{o:List α}{h:Hp}{s e n:Nat}{ex fr:Bool}
theorem C5(Pc:ax)(i:Nat)(x0 x:Nat×Bk)(h0 h:Hp):dl Pc i (x0::h0) (x::h)=(if fC Pc i=Th then x else(x0.1,.none))::dl Pc (i+1) h0 h:=by cases x0;cases x;rfl
theorem GM(Pc:ax)(i:Nat)(x:Nat×Bk)(h:Hp):iq Pc i (x::h)=((!fC Pc i||offB Pc x.2)&&iq Pc (i+1) h):=by cases x;rfl
theorem air(s:Nat):fC [] s=Th:=rfl
theorem TK(t:Nat)(l:ax)(s:Nat):fC (t::l) s=(!(Nat.beq t s)&&fC l s):=rfl
theorem beq_lit(a b:Nat):Nat.beq a b=decide (a=b):=by
 by_cases h:a=b
 .subst h;simp[Xs]
 .rw[decide_eq_false h];cases hb:Nat.beq a b with
  |false=>rfl
  |true=>exact absurd (Zk hb) h
def jm(k:Int)(a b:aw):aw:=List.zipWith (λx y=>x-k*y) a b
def Cb(B:Nat)(l:aw):Bool:=l.all λx=>decide (x.natAbs<10^B)
variable{α:Type}(d:α)(g:α->aw)(w:α->aw->α)
def nJ(m:List α)(i c:Nat):Int:=nth 0 (g (nth d m i)) c
def lI(c:Nat)(m:List α):Nat->Nat->Int->Int
 |0,_,Fr=>Fr
 |r+1,i,Fr=>lI c m r (i+1) (if nJ d g m i c≠0∧(Fr<0∨(nJ d g m i c).natAbs<(nJ d g m Fr.toNat c).natAbs)then i else Fr)
def gy(c o:Nat)(m:List α)(i:Nat):List α:=m.set i (w (nth d m i) (jm ((nJ d g m i c).fdiv (nJ d g m o c)) (g (nth d m i)) (g (nth d m o))))
def km(c o:Nat):Nat->Nat->Bool->List α->Bool×List α
 |0,_,b,m=>(b,m)
 |r+1,i,b,m=>km c o r (i+1) (b||decide ((nJ d g m i c).fmod (nJ d g m o c)≠0)) (gy d g w c o m i)
def oS(c o:Nat):Nat->Nat->List α->List α
 |0,_,m=>m
 |r+1,i,m=>oS c o r (i+1) (gy d g w c o m i)
def pi(c o:Nat)(m:List α):List α:=if nJ d g m o c<0 then m.set o (w (nth d m o) ((g (nth d m o)).map (- ·)))else m
def iG(m:List α)(i j:Nat):List α:=(m.set i (nth d m j)).set j (nth d m i)
def mn(B c:Nat):Nat->Nat->List α->Option (Nat×List α)
 |0,_,_=>Vc
 | f+1,o,m=>
  if (m.all λa=>Cb B (g a))=Th then
   let a:=lI d g c m (RW m-o) o (-1)
   if a<0 then Wf (o,m)else
    let s:=km d g w c o (RW m-(o+1)) (o+1) SM (iG d m o a.toNat)
    if s.1=Th then mn B c f o s.2 else Wf (o+1,oS d g w c o o 0 (pi d g w c o s.2))
  else Vc
def kG(B f:Nat):Nat->Nat->Nat->List α->Option (Nat×List α)
 |0,_,o,m=>Wf (o,m)
 | r+1,c,o,m=>if o<RW m then(match mn d g w B c f o m with
  |some (o',m')=>kG B f r (c+1) o' m'
  |none=>Vc)else Wf (o,m)
def yX(B f columns:Nat)(m:List α):Option (Nat×List α):=kG d g w B f columns 0 0 m
variable{α:Type}{d:α}{g:α->aw}{w:α->aw->α}
theorem rU(c o:Nat)(m:List α)(i:Nat):RW (gy d g w c o m i)=RW m:=by simp[gy]
theorem xx(c o:Nat):∀(r i:Nat)(b:Bool)(m:List α),(km d g w c o r i b m).2.length=RW m
 |0,_,_,_=>rfl
 |r+1,i,b,m=>by simp only[km];rw[xx,rU]
theorem Pz(c o:Nat):∀(r i:Nat)(m:List α),RW (oS d g w c o r i m)=RW m
 |0,_,_=>rfl
 |r+1,i,m=>by simp[oS];rw[Pz,rU]
theorem LM(c o:Nat)(m:List α):RW (pi d g w c o m)=RW m:=by unfold pi;split<;>simp
theorem nu(m:List α)(i j:Nat):RW (iG d m i j)=RW m:=by simp[iG]
theorem OM(c:Nat)(m:List α):∀(r i:Nat)(a:Int),a<i->-1<=a->lI d g c m r i a<(i+r:Nat)∧-1<=lI d g c m r i a
 |0,i,a,h,h0=>⟨by simpa[lI]using h,h0⟩
 | r+1,i,a,h,h0=>by
  simp only[lI];have:=OM c m r (i+1) (if nJ d g m i c≠0∧(a<0∨(nJ d g m i c).natAbs<(nJ d g m a.toNat c).natAbs)then i else a) (by split<;>omega) (by split<;>omega);exact⟨aa,this.2⟩
structure mi{α β:Type}(d:α)(g:α->aw)(w:α->aw->α)(d':β)(g':β->aw)(w':β->aw->β)(p:α->β):Prop where
 d:p d=d'
 g:∀a,g' (p a)=g a
 w:∀a r,p (w a r)=w' (p a) r
section
variable{α β:Type}{d:α}{g:α->aw}{w:α->aw->α}{d':β}{g':β->aw}{w':β->aw->β}{p:α->β}(H:mi d g w d' g' w' p)
include H
theorem mi.nth(m:List α)(i:Nat):nth d' (m.map p) i=p (nth d m i):=by simp[Go.Vm.nth,Z6,List.getElem?_map];cases m[i]?<;>simp[H.d]
theorem mi.ent(m:List α)(i c:Nat):nJ d' g' (m.map p) i c=nJ d g m i c:=by simp[nJ,H.nth,H.g]
theorem mi.take(c o:Nat)(m:List α)(i:Nat):gy d' g' w' c o (m.map p) i=(gy d g w c o m i).map p:=by simp[gy,H.ent,H.nth,H.g,Wx,H.w]
theorem mi.at(c:Nat)(m:List α):∀(r i:Nat)(a:Int),lI d' g' c (m.map p) r i a=lI d g c m r i a
 |0,_,_=>rfl
 |r+1,i,a=>by simp[lI,H.ent,mi.at c m r]
theorem mi.sweep(c o:Nat):∀(r i:Nat)(b:Bool)(m:List α),km d' g' w' c o r i b (m.map p)=((km d g w c o r i b m).1,(km d g w c o r i b m).2.map p)
 |0,_,_,_=>rfl
 |r+1,i,b,m=>by simp[km,H.ent,H.take,mi.sweep c o r]
theorem mi.up(c o:Nat):∀(r i:Nat)(m:List α),oS d' g' w' c o r i (m.map p)=(oS d g w c o r i m).map p
 |0,_,_=>rfl
 |r+1,i,m=>by simp[oS,H.take,mi.up c o r]
theorem mi.neg(c o:Nat)(m:List α):pi d' g' w' c o (m.map p)=(pi d g w c o m).map p:=by simp[pi,H.ent,H.nth,H.g];split<;>simp[Wx,H.w]
theorem mi.swap(m:List α)(i j:Nat):iG d' (m.map p) i j=(iG d m i j).map p:=by simp[iG,H.nth,Wx]
theorem mi.round(B c:Nat):∀(f o:Nat)(m:List α),mn d' g' w' B c f o (m.map p)=(mn d g w B c f o m).map λq=>(q.1,q.2.map p)
 |0,_,_=>rfl
 | f+1,o,m=>by
  have e:((m.map p).all λa=>Cb B (g' a))=m.all λa=>Cb B (g a):=by simp[List.all_map,Function.comp_def,H.g]
  simp only[mn,List.length_map,e,H.at,H.swap,H.sweep,H.neg,H.up,mi.round B c f];split
  .split
   .rfl
   .split<;>rfl
  .rfl
theorem mi.cols(B f:Nat):∀(r c o:Nat)(m:List α),kG d' g' w' B f r c o (m.map p)=(kG d g w B f r c o m).map λq=>(q.1,q.2.map p)
 |0,_,_,_=>rfl
 | r+1,c,o,m=>by
  simp[kG,List.length_map,H.round];split
  .cases mn d g w B c f o m with
   |none=>rfl
   |some q=>exact mi.cols B f r (c+1) q.1 q.2
  .rfl
theorem mi.form(B f c:Nat)(m:List α):yX d' g' w' B f c (m.map p)=(yX d g w B f c m).map λq=>(q.1,q.2.map p):=H.cols B f c 0 0 m
end
abbrev Mz:=cN
def m6(B f c:Nat)(m:Mz):Option (Nat×Mz):=yX [] (λr=>r) (λ_ r=>r) B f c m
def iE(n:Nat)(m:Mz):Mz:=(List.range n).map λc=>m.map (λr=>nth 0 r c)++(So n (0:Int)).set c 1
def pK(k:Nat)(r:aw):Bool:=match r.findIdx? λz=>decide (z≠0)with
 |some i=>decide (k<=i)
 |none=>SM
def Ev(B f k n:Nat)(m:Mz):Option Mz:=
 let l:=(m.filter (pK k)).map (List.drop k)
 if l=[]then Wf []else match m6 B f n l with
  |some (o,w)=>Wf (w.take o)
  |none=>Vc
def k8(B f n:Nat)(m:Mz):Option Mz:=
 match m6 B f (RW m+n) (iE n m)with
 |some (o,w)=>Ev B f (RW m) n (w.take o)
 |none=>Vc
def u6(n:Nat):D:=.int .u64 n
abbrev U(n:Int):V:=.d (.int .u64 n)
@[simp]theorem ar1(n:Nat):V.d (u6 n)=U n:=id rfl
def gY(n:Nat):V:=aj u6 (aI Z n)
theorem ahO(n:Nat):gY n=aj u6 (aI Z n):=rfl
theorem yB(l:ax)(h:Hp)(hl:j<RW l):ld1 h (.dptr (l.map u6) j)=Wf (U (nth 0 l j:Nat)):=mZ u6 0 l h hl
variable{h:Hp}{s e tot:Nat}{l:ax}{ex fr:Bool}
theorem qk(hg:h[s]?=Wf (e,.data 1 (l.map u6) ex fr))(ht:tot=RW l)(h0:0<=i)(h1:i<len)(k:iK):bC h 1 (.ref s e 0 len cap tot) (.d (.int k i))=Wf (.ptr s e i.toNat tot):=by simp only[bC,ij hg];rw[ip ⟨by simp[ht],h0,h1⟩];simp
theorem um(hg:h[s]?=Wf (e,.data 1 (l.map u6) ex fr))(ht:tot=RW l)(hj:j<RW l):ld1 h (.ptr s e j tot)=Wf (U (nth 0 l j:Nat)):=by
 have e1:tot=RW (l.map u6):=by simp[ht]
 simp only[ld1,ij hg,ip e1,List.getElem?_map,List.getElem?_eq_getElem hj,Option.map_some,gN 0 l j hj];rfl
theorem Ac(hg:h[s]?=Wf (e,.data 1 (l.map u6) ex SM))(ht:tot=RW l)(hj:j<RW l)(x:Nat):st h 1 (.ptr s e j tot) (U x)=Wf (h.set s (e,.data 1 ((l.set j x).map u6) ex SM)):=by
 have e1:(l.map u6).take j++[u6 x]++(l.map u6).drop (j+1)=(l.set j x).map u6:=by
  rw[Wx,Yg,ip dG];simp
 simp only[st,iT,jk,ij hg,d8,dX];rw[ip ⟨trivial,by simp[ht],dG⟩];simp only[bP,List.length_singleton];rw[<-e1];rfl
theorem afi(hg:h[s]?=Wf (e,.data 1 (l.map u6) ex fr))(ht:tot=RW l)(h0:0<=i)(h1:i<=cap)(hlc:len<=cap):gU h 1 (.ref s e 0 len cap tot) Vc (Wf (I i))=Wf (.ref s e 0 i.toNat cap tot):=by simp only[gU,ij hg,eG];rw[ip ⟨aa,h1⟩];simp[ht,hlc]
theorem vq(hg:h[s]?=Wf (e,.data 1 (l.map u6) ex fr))(ht:tot=RW l)(h1:len<=cap)(hc:cap<=tot):bQ h (.ref s e 0 len cap tot)=Wf (aj u6 (l.take len),h.set s (e,.data 1 (l.map u6) ex Th)):=by simp only[bQ,dX,ij hg];rw[ip ⟨by simp[ht],h1,dG⟩];simp[aj,List.map_take,bP];omega
theorem PR{h:Hp}{s e cap tot:Nat}{l:ax}{ex fr:Bool}(hg:h[s]?=Wf (e,.data 1 (l.map u6) ex fr))(ht:tot=RW l)(hc:cap<=tot)(hb:cap<1000000000000)(k:KL)(h0:Hp)(hh:RW h0=RW h):∀len,len<=cap->k (.exit 0) [.ref s e 0 (RW (f9 (l.take len))) cap tot] h->lp (uK DA (RW h)) [] h0 [.ref s e 0 len cap tot] h k
 | 0,hl,hk=>by
  apply aL;simp[uK];simpa[f9]using hk
 | len+1,hl,hk=>by
  have e1:=qk hg ht (len:=len+1) (cap:=cap) (i:=(len:Int)) aa aa .i64;have e2:=um hg ht (j:=len) aa;have e3:=afi hg ht (len:=len+1) (cap:=cap) (i:=(len:Int)) aa aa aa;have e4:l.take (len+1)=l.take len++[nth 0 l len]:=by rw[gN 0 l len aa,List.take_append_getElem]
  rw[Int.toNat_natCast]at e1 e3;apply aL;by_cases h2:nth 0 l len=0
  .rw[e4,h2,JH]at hk;have ih:=PR hg ht hc hb k h0 hh len aa hk;simp(disch:=omega) [uK,e1,e2,e3,h2,hh];exact ih
  .rw[e4,JI h2]at hk;have e5:RW (l.take len++[nth 0 l len])=len+1:=by simp;omega
   rw[e5]at hk;simp(disch:=omega) [uK,e1,e2,e3,h2];exact hk
theorem zQ{h:Hp}(hu:(h.all λx=>cj (RW h) x.2)=Th){s e tot:Nat}{l:ax}{ex fr:Bool}(hg:h[s]?=Wf (e,.data 1 (l.map u6) ex fr))(ht:tot=RW l)(hc:cap<=tot)(hb:cap<1000000000000)(hl:len<=cap):
  CI Y F.kD [.ref s e 0 len cap tot] h (.ref s e 0 (RW (f9 (l.take len))) cap tot) h:=by apply ZO;simp[kD];refine lo (PR hg ht hc hb _ _ rfl len hl ?_);simp;have hs:=gD hg;refine⟨ac,by simpa using hu,.inl ⟨rfl,?_⟩⟩;simp[under,hs]
theorem adm{h:Hp}{l0:ax}(k:KL)(h0:Hp)(hh:RW h0=RW h):∀l:ax,RW l<1000000000000->k (.exit 0) [aj u6 (f9 l)] h->lp (uK DA (RW h)) [] h0 [aj u6 l] h k:=by
 intro l hb hk
 induction hn:RW l generalizing l with
 | zero=>
  have:l=[]:=Zn hn;subst this;apply aL;simp[uK];exact hk
 | succ n ih=>
  obtain⟨l,x,rfl⟩:∃l' x,l=l'++[x]:=⟨l.dropLast,l.getLast (by intro e;simp[e]at hn),(List.dropLast_concat_getLast _).symm⟩;have hl:RW l=n:=by simpa using hn
  have e1:=λh:Hp=>mH u6 (l++[x]) h (k:=.i64) (i:=(RW l:Int)) aa dG
  have e2:=λh:Hp=>yB (l++[x]) h (j:=RW l) ac
  have e3:=λh:Hp=>adX u6 (l++[x]) h (i:=(RW l:Int)) aa dG ac
  have e4:nth 0 (l++[x]) (RW l)=x:=ac;simp only[Int.toNat_natCast,W5]at e1 e3;rw[e4]at e2;have e5:(RW (l++[x]):Int)=(RW l:Int)+1:=ac;have e6:bh (aj u6 (l++[x]))=Wf (I ((RW l:Int)+1)):=by rw[<-e5];rfl
  have hb2:RW l<1000000000000:=by simp at hb;omega
  apply aL;by_cases hx:x=0
  .subst hx;rw[JH]at hk;simp(disch:=try exact cC)[uK,e1,e2,e3,e6,hh];exact ih l hb2 hk hl
  .rw[JI hx]at hk;simp(disch:=try exact cC)[uK,e1,e2,e3,e6,hx];exact hk
theorem adn{h:Hp}(hu:(h.all λx=>cj (RW h) x.2)=Th){l:ax}(hb:RW l<1000000000000):CI Y F.kD [aj u6 l] h (aj u6 (f9 l)) h:=by apply ZO;simp[kD];refine lo (adm (l0:=l) _ _ rfl l hb ?_);simp;refine⟨ac,by simpa using hu,.inl ⟨rfl,rfl⟩⟩
def qz(h:Hp)(a:V)(l:ax):Prop:=bh a=Wf (I (RW l))∧∀(t:Hp)(i:Nat),i<RW l->∃p,bC (h++t) 1 a (I i)=Wf p∧ld1 (h++t) p=Wf (U (nth 0 l i:Nat))
theorem Jk(h:Hp)(l:ax):qz h (aj u6 l) l:=by refine⟨rfl,λt i hi=>⟨.dptr (l.map u6) i,?_,yB l _ hi⟩⟩;have:=mH u6 l (h++t) (k:=.i64) (i:=(i:Int)) aa aa;trivial
theorem LG{l:ax}{n i:Nat}(h:i<n):nth 0 (l.take n) i=nth 0 l i:=by grind[nth]
theorem Jj{h:Hp}{s e tot:Nat}{l:ax}{ex fr:Bool}(hg:h[s]?=Wf (e,.data 1 (l.map u6) ex fr))(ht:tot=RW l)(hl:len<=tot):qz h (.ref s e 0 len cap tot) (l.take len):=by
 have e1:RW (l.take len)=len:=by simp;omega
 refine⟨xP,λt i hi=>⟨.ptr s e i tot,?_,?_⟩⟩
 .have hs:=gD hg;have:=qk (h:=h++t) (by rw[List.getElem?_append_left hs];exact hg) ht (len:=len) (cap:=cap) (i:=(i:Int)) aa aa .i64;trivial
 .have hs:=gD hg;rw[LG aa];exact um (h:=h++t) (by rw[List.getElem?_append_left hs];exact hg) ht aa
def pH(h:Hp)(o:ax):Hp:=h++[(1,.data 1 (o.map u6) Th SM),ah]
theorem AT(h:Hp)(o:ax):(pH h o)[RW h]?=Wf (1,.data 1 (o.map u6) Th SM):=by simp[pH]
theorem S7(h:Hp)(o o':ax):(pH h o).set (RW h) (1,.data 1 (o'.map u6) Th SM)=pH h o':=by simp[pH]
@[simp]theorem S8(h:Hp)(o:ax):RW (pH h o)=RW h+2:=by simp[pH]
theorem aaQ{s b:Nat}(hbc:b<=c)(h:Nat.blt s b=Th):Nat.blt s c=Th:=by grind[Wn]
mutual
theorem PD{b c:Nat}(hbc:b<=c):∀v:V,under b v=Th->under c v=Th
 |.ref s ..,h=>aaQ hbc h
 |.ptr s ..,h=>aaQ hbc h
 |.agg l,h=>zM hbc l h
 |.tup l,h=>zM hbc l h
 | .fn _ x y,h=>by
  simp[under,Z7]at h ⊢;exact⟨zM hbc x h.1,zM hbc y h.2⟩
 |.ifc _ x,h=>PD hbc x h
 |.new ..,h=>by cases h
 |.junk,_=>rfl
 |.d _,_=>rfl
 |.dptr ..,_=>rfl
 |.cut _,h=>by cases h
theorem zM{b c:Nat}(hbc:b<=c):∀l:bq,jI b l=Th->jI c l=Th
 |[],_=>rfl
 | x::l,h=>by
  simp[jI,Z7]at h ⊢;exact⟨PD hbc x h.1,zM hbc l h.2⟩
end
theorem ER{b:Nat}(hbc:b<=c){x:Bk}(h:cj b x=Th):cj c x=Th:=by
 cases x with
 |vars l=>exact zM hbc l h
 |none=>rfl
 |data n cs ex fr=>rfl
theorem OR{b:Nat}(hbc:b<=c){h:Hp}(hu:(h.all λx=>cj b x.2)=Th):(h.all λx=>cj c x.2)=Th:=by grind[ER]
variable{h:Hp}{t0 t1:V}{da db:ax}
theorem adC(hb:qz h t1 db)(hsb:bL Z db){x i:Nat}(hx:x<Z)(hN:i+RW db<N)(hNb:N<1000000000000)(k:KL)(h0:Hp)(hh:RW h0=RW h+2)(T:Nat)(o0:ax):
  ∀(r c j:Nat)(o:ax),j+r=RW db->c<Z->RW o=N->bL Z o->val Z o+Z^(i+j)*(c+x*val Z (db.drop j))=T->(∀m,i+RW db<=m->nth 0 o m=nth 0 o0 m) ->
  (∀c' o',c'<Z->RW o'=N->bL Z o'->val Z o'+Z^(i+RW db)*c'=T->(∀m,i+RW db<=m->nth 0 o' m=nth 0 o0 m)->k (.exit 2) [U (c':Nat)] (pH h o')) ->
  lp (IB DA (RW h) (.ref (RW h) 1 0 N N N) (I i) (U x) t1 (I (RW db))) [] h0 [U c,I j] (pH h o) k:=by
 intro r
 induction r with
 | zero=>
  intro c j o hj hc ho hs hv hf hk;have hjl:j=RW db:=aa;subst hjl;have hd:db.drop (RW db)=[]:=List.drop_length;rw[hd]at hv;simp[val,Nat.mul_zero,Nat.add_zero]at hv;apply aL
  simp_all[IB]
 | succ r ih=>
  intro c j o hj hc ho hs hv hf hk;have hjl:j<RW db:=aa;have⟨m,hm⟩:=bD (i+j);rw[<-hm]at hv;have hij:m<RW o:=aa;have⟨y,hy2⟩:=bZ (db.getD j 0);have hy:=hsb.getD cL j;have hw:=hs.getD cL m;have DB:=aiN (B:=Z) (o:=o) (j:=m) (c:=c) (a:=x) (y:=db.getD j 0) (v:=val Z (db.drop (j+1))) hij;rw[<-u9,hv]at DB;rw[hy2]at hy DB
  have⟨p,hp⟩:=bD (x*y);have hxy:p<=999999999*999999999:=by rw[hp];exact Zr (by grind[Z]) (by grind[Z])
  have hpi:(x:Int)*(y:Int)=(p:Int):=by rw[hp];simp
  rw[<-hp]at DB;have e1:((i:Int)+(j:Int))=(m:Int):=aa;have hZ:Z=1000000000:=rfl;have⟨w,hwd⟩:=bZ (o.getD m 0);rw[hwd]at DB hw;have⟨pb,r1,r2⟩:=hb.2 [(1,.data 1 (o.map u6) Th SM),ah] j hjl;rw[show nth 0 db j=y from hy2]at r2;have r3:=qk (AT h o) ho.symm (len:=N) (cap:=N) (i:=(m:Int)) aa aa .i64;have r4:=um (AT h o) ho.symm hij
  have r5:=Ac (AT h o) ho.symm hij ((c+w+p)%Z);rw[show nth 0 o m=w from hwd]at r4;rw[Int.toNat_natCast]at r3;rw[S7]at r5
  change bC (pH h o) 1 t1 (I j)=Wf pb at r1
  change ld1 (pH h o) pb=_ at r2
  have ih2:=ih ((c+w+p)/Z) (j+1) (o.set m ((c+w+p)%Z)) aa ae ae (hs.set (Y7 _ cL)) (by rw[show i+(j+1)=m+1 by omega];omega)
   (λn hn=>by rw[<-hf n hn];simp[nth,List.getElem?_set_ne (show m≠n by omega)]) hk
  clear DB hk ih hv;have⟨t,ht⟩:=bZ (c+w+p);have ht2:t<1000000000000000000+2000000000:=by simp only[hZ]at *;omega
  rw[ht]at ih2 r5;have⟨tm,htm⟩:=bZ (t%Z);have⟨td,htd⟩:=bZ (t/Z);rw[htm]at ih2 r5;rw[htd]at ih2;have e2:(c:Int)+((w:Int)+(p:Int))=(t:Int):=aa;have e3:((t:Int)%1000000000)=(tm:Int):=by simp[hZ]at htm;omega
  have e4:((t:Int)/1000000000)=(td:Int):=by simp[hZ]at htd;omega
  apply aL;simp(disch:=try exact cC)[IB,r1,r2,r3,r4,e1,hpi,e2,Zt,Zs,e3,e4,r5];trivial
theorem adB(ha:qz h t0 da)(hsa:bL Z da)(hb:qz h t1 db)(hsb:bL Z db)(hla:RW da<100000000)(hlb:RW db<100000000)(k:KL)(h0:Hp)(hh:RW h0=RW h+2)(hN:N=RW da+RW db):
  ∀(r i:Nat)(o:ax),i+r=RW da->RW o=N->bL Z o->val Z o=val Z (da.take i)*val Z db->(∀m,i+RW db<=m->nth 0 o m=0) ->
  (∀o',RW o'=N->bL Z o'->val Z o'=val Z da*val Z db->k (.exit 0) [] (pH h o')) ->
  lp (IC DA (RW h) t1 (.ref (RW h) 1 0 N N N) t0 (I (RW da))) [] h0 [I i] (pH h o) k:=by
 intro r
 induction r with
 | zero=>
  intro i o hi ho hs hv hf hk;apply aL;have g:¬i<RW da:=aa;simp[IC,g];rw[show i=RW da by omega,Xj]at hv
  grind
 | succ r ih=>
  intro i o hi ho hs hv hf hk;have hil:i<RW da:=aa;have⟨pa,r1,r2⟩:=ha.2 [(1,.data 1 (o.map u6) Th SM),ah] i hil;have⟨x,hx⟩:=bZ (nth 0 da i);have hxs:x<Z:=by rw[<-hx];exact hsa.getD cL i
  rw[hx]at r2
  change bC (pH h o) 1 t0 (I i)=Wf pa at r1
  change ld1 (pH h o) pa=_ at r2
  have hl:=hb.1;apply aL;simp(disch:=omega) [IC,r1,r2,hl];refine lo (adC hb hsb hxs aa aa _ _ (S8 h o) (val Z o+Z^i*(x*val Z db)) o (RW db) 0 0 o aa cL ho hs ac (λ_ _=>rfl) λc' o' hc' ho' hs' hv' hf'=>?_);simp only[pA];have⟨m,hm⟩:=bD (i+RW db);have hml:m<RW o':=aa
  have r3:=qk (AT h o') ho'.symm (len:=N) (cap:=N) (i:=(m:Int)) aa aa .i64;have r5:=Ac (AT h o') ho'.symm hml c';rw[Int.toNat_natCast]at r3;rw[S7]at r5;have e1:((i:Int)+(RW db:Int))=(m:Int):=aa;have e0:nth 0 o' m=0:=by rw[hf' m aa,hf m aa]
  have hvs:=zK (B:=Z) o' m c' hml;rw[show o'.getD m 0=0 from e0]at hvs
  have ih2:=ih (i+1) (o'.set m c') aa ae (hs'.set hc') (by
   rw[Pw da hil,show da.getD i 0=x from hx,Nat.add_mul,<-hv]
   grind) (λn hn=>by
   simp[nth,Z6,List.getElem?_set_ne (show m≠n by omega)];have:=hf' n aa;rw[hf n aa]at this;exact this) hk
  clear hvs hv' ih hk;simp(disch:=try exact cC)[hl,e1,r3,r5];trivial
theorem JM(hu:(h.all λx=>cj (RW h) x.2)=Th)(ha:qz h t0 da)(hsa:bL Z da)(hb:qz h t1 db)(hsb:bL Z db)(hla:RW da<100000000)(hlb:RW db<100000000)(hN:N=RW da+RW db):
  CI Y F.rt [t0,t1] h (.new 1 ((bE N (val Z da*val Z db)).map u6) Th (RW (aI Z (val Z da*val Z db))) N) h:=by
 apply ang;have l0:=ha.1;have l1:=hb.1;have e1:((RW da:Int)+(RW db:Int))=(N:Int):=aa;simp(disch:=try exact cC)[rt,l0,l1,e1]
 have e2:h++[(1,Bk.data 1 (So N (D.int iK.u64 0)) Th SM),ah]=pH h (So N 0):=by
  simp[pH,u6]
 try simp only[e3]
 try rw[e2]
 refine lo (adB ha hsa hb hsb hla hlb _ _ (S8 ..) hN (RW da) 0 (So N 0) aa ac (λx hx=>by grind[cL]) (by simp[JD,val]) (λm _=>by
  grind[nth]) λo ho hs hv=>?_)
 simp only[pA];have ht:f9 (o.take N)=aI Z (val Z da*val Z db):=by rw[Zx aa,<-hv,uI cW hs]
 have hu2:((pH h o).all λx=>cj (RW (pH h o)) x.2)=Th:=by
  have hm:(h.all λx=>cj (RW (pH h o)) x.2)=Th:=OR ac hu;rw[pH,Yo,<-pH,hm];rfl
 have tr:=zQ hu2 (AT h o) ho.symm (len:=N) (cap:=N) (Z8 _) aa (Z8 _);rw[ht]at tr;refine gG tr ?_ ac;have hol:o=bE N (val Z da*val Z db):=by rw[<-hv,<-ho];exact Ih o hs
 rw[<-hol];refine⟨by simp[pH],aa,.inr (.inr (.inl ⟨RW h,1,_,N,1,o.map u6,true,ae,Z8 _,by simp[aH,pH],rfl⟩))⟩
def trimS(n:Nat):ax:=if n=0 then[]else[n]
theorem adl(n:Nat):f9 [n]=trimS n:=by rfl
theorem adj(n:Nat):val Z (trimS n)=n:=by grind[trimS,val]
theorem adk{n:Nat}(h:n<Z):bL Z (trimS n):=by
 unfold trimS;split
 .exact λx hx=>by cases hx
 .exact λx hx=>by grind
theorem Ri(hu:(h.all λx=>cj (RW h) x.2)=Th){f:Nat}(hf:f<Z)(hf0:0<f)(ha:qz (h++[ah,ah]) t0 da)(hsa:bL Z da)(hla:RW da<100000000)(hN:N=RW da+1):
  CI Y F.uL [t0,U f] h (.new 1 ((bE N (val Z da*f)).map u6) Th (RW (aI Z (val Z da*f))) N) h:=by
 apply ano
 have hli:∀h:Hp,cI 1 [D.int .u64 0] [(0,U f)] h=Wf ([u6 f],h):=λh=>by
  rfl
 have hu2:((h++[(0,Bk.none),ah]).all λx=>cj (RW (h++[(0,Bk.none),ah])) x.2)=Th:=by
  rw[Yo,OR ac hu];rfl
 simp[uL,hli];have t1:=adn hu2 (l:=[f]) ac;rw[adl]at t1;refine gG (args:=[aj u6 [f]]) t1 ?_ (by simp[aj]) (by simp[aj]);have hfl:RW (trimS f)=1:=by simp[trimS,show f≠0 by omega]
 have t2:=JM hu2 ha hsa (Jk _ (trimS f)) (adk hf) hla aa (N:=N) aa;rw[adj]at t2;simp;refine jS (e:=0) (b:=.none) t2 ac ?_;refine⟨ac,aa,.inr (.inr (.inl ⟨RW h+1,1,_,N,1,(bE N (val Z da*f)).map u6,true,aM,aa,by simp[aH],rfl⟩))⟩
def sP(h:Hp)(s e:Nat)(ex:Bool)(l:ax):Hp:=h.set s (e,.data 1 (l.map u6) ex SM)
theorem qJ{h:Hp}{s e:Nat}{ex:Bool}{l:ax}(hs:s<RW h):(sP h s e ex l)[s]?=Wf (e,.data 1 (l.map u6) ex SM):=by simp[sP,hs]
theorem Rp{h:Hp}{s e:Nat}{ex:Bool}{l:ax}:(sP h s e ex l).set s (e,.data 1 (l'.map u6) ex SM)=sP h s e ex l':=by simp[sP]
@[simp]theorem aqH{h:Hp}{s e:Nat}{ex:Bool}{l:ax}:RW (sP h s e ex l)=RW h:=by simp[sP]
theorem AI{b:Nat}{h:Hp}{s e:Nat}{ex:Bool}{l:ax}(hu:(h.all λx=>cj b x.2)=Th):((sP h s e ex l).all λx=>cj b x.2)=Th:=by
 rw[Zz]at hu ⊢;intro x hx;rcases Yj hx with h1|h1
 .grind
 .rw[h1];rfl
def zz(P:Hp->Prop)(a:V)(l:ax):Prop:=bh a=Wf (I (RW l))∧∀(t:Hp)(i:Nat),P t->i<RW l->∃p,bC t 1 a (I i)=Wf p∧ld1 t p=Wf (U (nth 0 l i:Nat))
def gz(g Fr:Nat)(db:ax):Nat->Nat->Nat->Nat->ax->Nat×ax
 |0,_,_,w,l=>(w,l)
 | r+1,k,c,w,l=>
  if nth 0 l (Fr+k)<(c+g*nth 0 db k)%Z+w then gz g Fr db r (k+1) ((c+g*nth 0 db k)/Z) 1 (l.set (Fr+k) (nth 0 l (Fr+k)+Z-((c+g*nth 0 db k)%Z+w)))
  else gz g Fr db r (k+1) ((c+g*nth 0 db k)/Z) 0 (l.set (Fr+k) (nth 0 l (Fr+k)-((c+g*nth 0 db k)%Z+w)))
variable{h:Hp}{s e tot Fr g:Nat}{ex:Bool}{t1:V}{db:ax}
theorem adU(hs:s<RW h)(hb:zz (λt=>∃l,t=sP h s e ex l) t1 db)(hsb:bL Z db)(hg:g<Z)(hat:Fr+RW db<tot)(ht:tot<1000000000000)(Rg:tot=len)(k:KL)(h0:Hp)(hh:RW h0=RW h):
  ∀(r j c w:Nat)(l:ax),j+r=RW db+1->c<Z->w<=1->RW l=tot->bL Z l ->
  k (.exit 0) [I ((gz g Fr db r j c w l).1:Nat)] (sP h s e ex (gz g Fr db r j c w l).2) ->
  lp (Eg DA (RW h) (.ref s e 0 len cap tot) t1 (U g) (I Fr)) [] h0 [U c,I w,I j] (sP h s e ex l) k:=by
 intro r
 induction r with
 | zero=>
  intro j c w l hj hc hw hl hsl hk;apply aL;have g1:¬j<=RW db:=aa;have hl1:=hb.1;simp[Eg,hl1,g1];exact hk
 | succ r ih=>
  intro j c w l hj hc hw hl hsl hk;have hjl:j<=RW db:=aa;have⟨m,hm⟩:=bD (Fr+j);have hml:m<RW l:=aa;have⟨y,hy⟩:=bZ (nth 0 db j);have hys:y<Z:=by rw[<-hy];exact hsb.getD cL j
  have⟨x,hx⟩:=bZ (nth 0 l m);have hxs:x<Z:=by rw[<-hx];exact hsl.getD cL m
  have⟨p,hp⟩:=bD (g*y);have hxy:p<=999999999*999999999:=by rw[hp];exact Zr (by grind[Z]) (by grind[Z])
  have hpi:(g:Int)*(y:Int)=(p:Int):=by rw[hp];simp
  have e1:((Fr:Int)+(j:Int))=(m:Int):=aa;have hZ:Z=1000000000:=rfl;have hl1:=hb.1;have r3:=qk (qJ (e:=e) (ex:=ex) (l:=l) hs) hl.symm (len:=len) (cap:=cap) (i:=(m:Int)) aa aa .i64;have r4:=um (qJ (e:=e) (ex:=ex) (l:=l) hs) hl.symm hml;have r5:=Ac (qJ (e:=e) (ex:=ex) (l:=l) hs) hl.symm hml;simp only[Rp]at r5;rw[hx]at r4;rw[Int.toNat_natCast]at r3
  rw[gz,hy,<-hp,<-hm,hx]at hk;have hsm:(∀v,v<Z->bL Z (l.set m v)):=λv hv=>hsl.set hv
  have⟨t,ht1⟩:=bZ (c+p);rw[ht1]at hk;have⟨tm,htm⟩:=bZ (t%Z);have⟨td,htd⟩:=bZ (t/Z);rw[htm,htd]at hk;have ht2:t<1000000000000000000:=by simp only[hZ]at *;omega
  have htdZ:td<Z:=by simp only[hZ]at *;omega
  have htmZ:tm<Z:=by simp only[hZ]at *;omega
  have e3:((t:Int)%1000000000)=(tm:Int):=by simp[hZ]at htm;omega
  have e4:((t:Int)/1000000000)=(td:Int):=by simp[hZ]at htd;omega
  have main:∀(v:Nat)(w':Nat),v<Z->w'<=1->k (.exit 0) [I ((gz g Fr db r (j+1) td w' (l.set m v)).1:Nat)] (sP h s e ex (gz g Fr db r (j+1) td w' (l.set m v)).2) ->
    lp (Eg DA (RW h) (.ref s e 0 len cap tot) t1 (U g) (I Fr)) [] h0 [U td,I w',I (j+1:Nat)] (sP h s e ex (l.set m v)) k:=λv w' hv hw' hk'=>
   ih (j+1) td w' (l.set m v) aa htdZ hw' ae (hsm v hv) hk'
  clear ih;have e2:(c:Int)+(p:Int)=(t:Int):=aa;apply aL;simp[Eg,hl1,hjl];refine fE (l:=[U t]) (h:=sP h s e ex l) (λq=>?_) ?_
  .by_cases g2:j<RW db
   .have⟨pb,q1,q2⟩:=hb.2 (sP h s e ex l) j ⟨l,rfl⟩ g2;rw[hy]at q2;simp(disch:=omega) [g2,q1,q2,hpi,e2]
   .have hy0:nth 0 db j=0:=by simp[nth,List.getElem?_eq_none (show RW db<=j by omega)]
    rw[hy]at hy0;subst hy0;simp[Nat.mul_zero]at hp;subst hp;obtain rfl:c=t:=aa;simp[g2]
  .simp(disch:=omega) [e1,r3,r4,Zt,Zs,e3,e4];by_cases hxt:x<tm+w
   .rw[ip hxt]at hk;have⟨v,hv⟩:=bZ (x+Z-(tm+w));rw[hv]at hk;have hvZ:v<Z:=aa;have e5:(x:Int)-tm-w<0:=aa;have e6:(x:Int)-tm-w+1000000000=v:=by simp[hZ]at hv;omega
    have r6:=r5 v;refine fE (l:=[I v,I (1:Nat)]) (h:=sP h s e ex l) (λq=>?_) ?_
    .simp(disch:=omega) [e5,e6]
    .simp(disch:=try exact cC)[e1,r3,r6];simpa using main v 1 hvZ (Z8 _) hk
   .rw[iN hxt]at hk;have⟨v,hv⟩:=bZ (x-(tm+w));rw[hv]at hk;have hvZ:v<Z:=aa;have e5:¬((x:Int)-tm-w<0):=aa;have e6:(x:Int)-tm-w=v:=aa;have r6:=r5 v;refine fE (l:=[I v,I (0:Nat)]) (h:=sP h s e ex l) (λq=>?_) ?_
    .simp_all
    .simp(disch:=try exact cC)[e1,r3,r6];simpa using main v 0 hvZ (Zb _) hk
theorem Qm(hu:(h.all λx=>cj (RW h) x.2)=Th)(hs:s<RW h)(hb:zz (λt=>∃l,t=sP h s e ex l) t1 db)(hsb:bL Z db)(hg:g<Z)(hat:Fr+RW db<tot)(ht:tot<1000000000000){l:ax}(hl:RW l=tot)(hsl:bL Z l):
  CI Y F.wV [.ref s e 0 tot tot tot,t1,U g,I Fr] (sP h s e ex l) (B (decide (0<(gz g Fr db (RW db+1) 0 0 0 l).1))) (sP h s e ex (gz g Fr db (RW db+1) 0 0 0 l).2):=by apply ank;simp[wV];refine lo (adU hs hb hsb hg hat ht rfl _ _ ac (RW db+1) 0 0 0 l aa cL (Zb _) hl hsl ?_);simp;refine⟨(Zx ac).symm,?_,.inl ⟨rfl,rfl⟩⟩;exact AI hu
def m9(Fr:Nat)(db:ax):Nat->Nat->Nat->ax->ax
 |0,_,_,l=>l
 |r+1,k,c,l=>m9 Fr db r (k+1) ((c+nth 0 l (Fr+k)+nth 0 db k)/Z) (l.set (Fr+k) ((c+nth 0 l (Fr+k)+nth 0 db k)%Z))
theorem ap2(hs:s<RW h)(hb:zz (λt=>∃l,t=sP h s e ex l) t1 db)(hsb:bL Z db)(hat:Fr+RW db<tot)(ht:tot<1000000000000)(Rg:tot=len)(k:KL)(h0:Hp)(hh:RW h0=RW h):
  ∀(r j c:Nat)(l:ax),j+r=RW db+1->c<Z->RW l=tot->bL Z l ->
  k (.exit 0) [] (sP h s e ex (m9 Fr db r j c l)) ->
  lp (IF DA (RW h) (.ref s e 0 len cap tot) t1 (I Fr)) [] h0 [U c,I j] (sP h s e ex l) k:=by
 intro r
 induction r with
 | zero=>
  intro j c l hj hc hl hsl hk;apply aL;have g1:¬j<=RW db:=aa;have hl1:=hb.1;simp[IF,hl1,g1];exact hk
 | succ r ih=>
  intro j c l hj hc hl hsl hk;have hjl:j<=RW db:=aa;have⟨m,hm⟩:=bD (Fr+j);have hml:m<RW l:=aa;have⟨y,hy⟩:=bZ (nth 0 db j);have hys:y<Z:=by rw[<-hy];exact hsb.getD cL j
  have⟨x,hx⟩:=bZ (nth 0 l m);have hxs:x<Z:=by rw[<-hx];exact hsl.getD cL m
  have e1:((Fr:Int)+(j:Int))=(m:Int):=aa;have hZ:Z=1000000000:=rfl;have hl1:=hb.1;have r3:=qk (qJ (e:=e) (ex:=ex) (l:=l) hs) hl.symm (len:=len) (cap:=cap) (i:=(m:Int)) aa aa .i64;have r4:=um (qJ (e:=e) (ex:=ex) (l:=l) hs) hl.symm hml;have r5:=Ac (qJ (e:=e) (ex:=ex) (l:=l) hs) hl.symm hml;simp only[Rp]at r5;rw[hx]at r4;rw[Int.toNat_natCast]at r3
  rw[m9,hy,<-hm,hx]at hk;have⟨t,ht1⟩:=bZ (c+x+y);rw[ht1]at hk;have⟨tm,htm⟩:=bZ (t%Z);have⟨td,htd⟩:=bZ (t/Z);rw[htm,htd]at hk;have ht2:t<3000000000:=by simp only[hZ]at *;omega
  have htdZ:td<Z:=by simp only[hZ]at *;omega
  have htmZ:tm<Z:=by simp only[hZ]at *;omega
  have e3:((t:Int)%1000000000)=(tm:Int):=by simp[hZ]at htm;omega
  have e4:((t:Int)/1000000000)=(td:Int):=by simp[hZ]at htd;omega
  have ih2:=ih (j+1) td (l.set m tm) aa htdZ ae (hsl.set htmZ) hk;have r6:=r5 tm;clear ih;apply aL;simp(disch:=omega) [IF,hl1,hjl,e1,r3,r4];refine fE (l:=[U t]) (h:=sP h s e ex l) (λq=>?_) ?_
  .by_cases g2:j<RW db
   .have⟨pb,q1,q2⟩:=hb.2 (sP h s e ex l) j ⟨l,rfl⟩ g2;rw[hy]at q2;have e2:(c:Int)+(x:Int)+(y:Int)=(t:Int):=aa;simp(disch:=omega) [g2,q1,q2,e2]
   .have hy0:nth 0 db j=0:=by simp[nth,List.getElem?_eq_none (show RW db<=j by omega)]
    rw[hy]at hy0;subst hy0;have e2:(c:Int)+(x:Int)=(t:Int):=aa
    simp_all
  .simp(disch:=try exact cC)[e1,r3,r4,Zt,Zs,e3,e4,r6];trivial
theorem aa9(hu:(h.all λx=>cj (RW h) x.2)=Th)(hs:s<RW h)(hb:zz (λt=>∃l,t=sP h s e ex l) t1 db)(hsb:bL Z db)(hat:Fr+RW db<tot)(ht:tot<1000000000000){l:ax}(hl:RW l=tot)(hsl:bL Z l):
  CI Y F.uN [.ref s e 0 tot tot tot,t1,I Fr] (sP h s e ex l) (.tup []) (sP h s e ex (m9 Fr db (RW db+1) 0 0 l)):=by apply anv;simp[uN];refine lo (ap2 hs hb hsb hat ht rfl _ _ ac (RW db+1) 0 0 l aa cL hl hsl ?_);simp;refine⟨(Zx ac).symm,?_,.inl ⟨rfl,rfl⟩⟩;exact AI hu
end Go.Vm
namespace Go.Big
section
variable{B:Nat}
theorem rP(l:ax)(i:Nat)(h:i<=RW l):val B l=val B (l.take i)+B^i*val B (l.drop i):=by have:=val_append (B:=B) (l.take i) (l.drop i);rw[Xu,Zp,Yp h]at this;exact this
theorem acp(l:ax)(z:Nat):val B (l++So z 0)=val B l:=by rw[val_append,JD];simp
theorem PV(hB:0<B){l:ax}{n:Nat}(h:val B l<B^n):val B (l.drop n)=0:=by
 rcases Zi n (RW l) with h1|h1
 .have:=rP (B:=B) l n aa;rcases Ze (val B (l.drop n))with h2|h2
  .exact h2
  .have:=Z4 (B^n) h2;omega
 .rw[Y9 h1];rfl
variable{L lD lB x0 x1 x2 y0 y1 D v g r hi:Nat}
structure Gs(B L lD lB x0 x1 x2 y0 y1 D v hi:Nat):Prop where
 B0:0<B
 D_eq:D=lD+L*(x0+B*hi)
 v_eq:v=lB+L*(y0+B*y1)
 lDL:lD<L
 lBL:lB<L
 hx0:x0<B
 hy0:y0<B
 hy1:0<y1
 hD:D<B*v
theorem Gs.vpos(G:Gs B L lD lB x0 x1 x2 y0 y1 D v hi):L*B<=v:=by
 rw[G.v_eq]
 have h1:L*B<=L*(y0+B*y1):=Z4 L (by
  have:=Z4 B G.hy1;omega)
 omega
theorem Gs.pos(G:Gs B L lD lB x0 x1 x2 y0 y1 D v hi):0<v:=by have:=G.vpos;have h1:=G.lDL;have h2:0<L*B:=Yk aa G.B0;omega
theorem Gs.first(G:Gs B L lD lB x0 x1 x2 y0 y1 D v hi):D/v<=hi/y1:=by
 have hvp:=G.pos;rw[Xt G.hy1];have h1:D/v*v<=D:=Wh D v;generalize D/v=q at *
 have h2:q*(L*(B*y1))<=q*v:=Z4 q (by
  rw[G.v_eq];have:=Z4 L (Nat.le_add_left (B*y1) y0);omega)
 have h3:D<L*B*(hi+1):=by
  rw[G.D_eq];have:=G.lDL;have h4:=Z4 L (show x0+1+B*hi<=B*(hi+1) by rw[Zm];have:=G.hx0;omega);rw[<-Nat.mul_assoc]at h4
  have h5:L*(x0+1+B*hi)=L+L*(x0+B*hi):=by
   rw[show x0+1+B*hi=1+(x0+B*hi) by omega,Zm];simp
  omega
 have h6:q*(L*(B*y1))=L*B*(q*y1):=by
  rw[<-Nat.mul_assoc L B y1,Y3]
 have h7:L*B*(q*y1)<L*B*(hi+1):=aa;have:=Xd h7;omega
theorem Gs.far(G:Gs B L lD lB x0 x1 x2 y0 y1 D v hi)(h:B<=g):D/v<g:=by have:=(Xf G.pos).2 G.hD;omega
theorem Gs.over(G:Gs B L lD lB x0 x1 x2 y0 y1 D v hi)(he:g*y1+r=hi)(h:r*B+x0<g*y0):D/v<g:=by
 rw[Xf G.pos]
 have h1:L*(x0+1+B*hi)<=g*v:=by
  rw[G.v_eq];have h2:g*(L*(y0+B*y1))<=g*(lB+L*(y0+B*y1)):=Z4 g aa
  have h3:g*(L*(y0+B*y1))=L*(g*y0+B*(g*y1)):=by
   rw[Y3 g L,Zm,Y3 g B]
  have h4:L*(x0+1+B*hi)<=L*(g*y0+B*(g*y1)):=Z4 L (by
   rw[<-he,Zm,Zq B r];omega)
  omega
 have h5:L*(x0+1+B*hi)=L+L*(x0+B*hi):=by
  rw[show x0+1+B*hi=1+(x0+B*hi) by omega,Zm];simp
 have:=G.lDL;rw[G.D_eq];omega
theorem Gs.near(G:Gs B L lD lB x0 x1 x2 y0 y1 D v hi)(he:g*y1+r=hi)(hg:g<B)(h:¬(r<B∧r*B+x0<g*y0)):g*v<D+v:=by
 have h0:g*(y0+B*y1)<=x0+B*hi:=by
  rw[Zm,Y3 g B,<-he,Zm];by_cases hr:r<B
  .have:¬r*B+x0<g*y0:=λh'=>h ⟨hr,h'⟩
   rw[Zq r B]at this;omega
  .have h1:g*y0<=B*B:=Zr aa (by have:=G.hy0;omega);have h2:=Z4 B (show B<=r by omega);omega
 have h1:=Z4 L h0
 have h2:g*lB<L*B:=by
  have:=Zr (show g<=B-1 by omega) (show lB<=L by have:=G.lBL;omega);have hL:0<L:=by have:=G.lBL;omega
  have h3:(B-1)*L+L=L*B:=by
   have:=G.B0;obtain⟨b,rfl⟩:∃b,B=b+1:=⟨B-1,aa⟩;rw[Nat.add_sub_cancel,Zq L,X3]
  omega
 have h3:g*v=g*lB+L*(g*(y0+B*y1)):=by
  rw[G.v_eq,Zm,Y3 g L]
 have h4:=G.vpos;have h5:=G.D_eq;omega
end
end Go.Big
namespace Go.Vm
open Go Go.Am Go.Big
variable{l:ax}{h h1 h2:Hp}{a b va vb:V}
theorem LH{m n v:Nat}(h:m≠n):nth 0 (l.set m v) n=nth 0 l n:=by simp[nth,List.getElem?_set_ne h]
structure zA(l l':ax)(a b:Nat):Prop where
 len:RW l'=RW l
 same:∀m,m<a∨b<=m->nth 0 l' m=nth 0 l m
theorem JV{g Fr:Nat}(hg:g<Z){db:ax}(hsb:bL Z db):∀(r j c w:Nat)(l:ax),Fr+j+r<=RW l->c<Z->w<=1->bL Z l->c+g*val Z (db.drop j)<Z^r ->
  zA l (gz g Fr db r j c w l).2 (Fr+j) (Fr+j+r)∧bL Z (gz g Fr db r j c w l).2∧(gz g Fr db r j c w l).1<=1 ∧
  val Z (gz g Fr db r j c w l).2+Z^(Fr+j)*(c+g*val Z (db.drop j)+w)=val Z l+Z^(Fr+j+r)*(gz g Fr db r j c w l).1
 | 0,j,c,w,l,hl,hc,hw,hs,hT=>by
  have h0:c+g*val Z (db.drop j)=0:=by simp at hT;omega
  refine⟨⟨rfl,λ_ _=>rfl⟩,hs,hw,?_⟩;rw[h0,Zh];rfl
 | r+1,j,c,w,l,hl,hc,hw,hs,hT=>by
  have⟨m,hm⟩:=bD (Fr+j);have hml:m<RW l:=aa;have⟨x,hx⟩:=bZ (nth 0 l m);have hxs:x<Z:=by rw[<-hx];exact hs.getD cL m
  have⟨y,hy⟩:=bZ (nth 0 db j);rw[gz,hy,<-hm,hx];have hvd:val Z (db.drop j)=y+Z*val Z (db.drop (j+1)):=by rw[u9,show db.getD j 0=y from hy]
  have⟨V,hV⟩:=bZ (val Z (db.drop (j+1)));rw[hvd,hV]at hT ⊢;have⟨t,ht⟩:=bZ (c+g*y);rw[ht];have⟨tm,htm⟩:=bZ (t%Z);have⟨td,htd⟩:=bZ (t/Z);have hdm:t=tm+Z*td:=by rw[<-htm,<-htd];exact(Xp t Z).symm
  have htmZ:tm<Z:=by rw[<-htm];exact Y7 _ cL
  rw[htm,htd]
  have hsum:c+g*(y+Z*V)=tm+Z*(td+g*V):=by
   rw[Zm,Y3 g Z,Zm];omega
  rw[hsum]at hT ⊢
  have hT2:td+g*V<Z^r:=by
   rw[Nat.pow_succ,Zq (Z^r)]at hT;have:Z*(td+g*V)<Z*Z^r:=aa;exact Xd this
  have step:∀(v w':Nat),v<Z->w'<=1->v+(tm+w)=x+Z*w'->td<Z ->
    zA l (gz g Fr db r (j+1) td w' (l.set m v)).2 (Fr+j) (Fr+j+(r+1))∧bL Z (gz g Fr db r (j+1) td w' (l.set m v)).2∧(gz g Fr db r (j+1) td w' (l.set m v)).1<=1 ∧
    val Z (gz g Fr db r (j+1) td w' (l.set m v)).2+Z^m*(tm+Z*(td+g*V)+w)=val Z l+Z^(m+(r+1))*(gz g Fr db r (j+1) td w' (l.set m v)).1:=by
   intro v w' hv hw' he htd2;have⟨⟨f1,f2⟩,i2,i3,i4⟩:=JV hg hsb (g:=g) (Fr:=Fr) r (j+1) td w' (l.set m v) dG htd2 hw' (hs.set hv) (by rw[hV];exact hT2);refine⟨⟨by rw[f1];simp,λn hn=>?_⟩,i2,i3,?_⟩
   .rw[f2 n aa,LH aa]
   .have hvs:=zK (B:=Z) l m v hml;rw[show l.getD m 0=x from hx]at hvs;rw[hV,show Fr+(j+1)=m+1 by omega]at i4;rw[show m+(r+1)=m+1+r by omega];generalize val Z (gz g Fr db r (j+1) td w' (l.set m v)).2=R at *;generalize(gz g Fr db r (j+1) td w' (l.set m v)).1=W at *;generalize val Z (l.set m v)=R1 at *;generalize val Z l=R0 at *;generalize td+g*V=T at *
    rw[Nat.pow_succ Z m,Nat.mul_assoc (Z^m) Z (T+w')]at i4;generalize Z^m=P at *;have h1:P*v+P*(tm+w)=P*x+P*(Z*w'):=by rw[<-Zm,<-Zm,he]
    have h2:P*(Z*(T+w'))=P*(Z*T)+P*(Z*w'):=by rw[Zm Z,Zm]
    have h3:P*(tm+Z*T+w)=P*(tm+w)+P*(Z*T):=by rw[<-Zm];congr 1;omega
    omega
  have htd2:td<Z:=by
   have hy2:y<Z:=by rw[<-hy];exact hsb.getD cL j
   have:=Zr (show g<=999999999 by simp[Z]at hg;omega) (show y<=999999999 by simp[Z]at hy2;omega);simp only[Z]at *;omega
  rw[<-hm]at step;by_cases PJ:x<tm+w
  .simp[ip PJ];exact step _ 1 aa (Z8 _) aa htd2
  .simp[iN PJ];exact step _ 0 aa (Zb _) aa htd2
theorem OJ{Fr:Nat}{db:ax}(hsb:bL Z db):∀(r j c:Nat)(l:ax),Fr+j+r<=RW l->c<=1->bL Z l ->
  zA l (m9 Fr db r j c l) (Fr+j) (Fr+j+r)∧bL Z (m9 Fr db r j c l) ∧
  ∃ce,val Z (m9 Fr db r j c l)+Z^(Fr+j+r)*(ce+val Z (db.drop (j+r)))=val Z l+Z^(Fr+j)*(c+val Z (db.drop j))
 |0,j,c,l,hl,hc,hs=>⟨⟨rfl,λ_ _=>rfl⟩,hs,c,rfl⟩
 | r+1,j,c,l,hl,hc,hs=>by
  have⟨m,hm⟩:=bD (Fr+j);have hml:m<RW l:=aa;have⟨x,hx⟩:=bZ (nth 0 l m);have hxs:x<Z:=by rw[<-hx];exact hs.getD cL m
  have⟨y,hy⟩:=bZ (nth 0 db j);have hys:y<Z:=by rw[<-hy];exact hsb.getD cL j
  rw[m9,hy,<-hm,hx];have hvd:val Z (db.drop j)=y+Z*val Z (db.drop (j+1)):=by rw[u9,show db.getD j 0=y from hy]
  have⟨t,ht⟩:=bZ (c+x+y);rw[ht];have⟨tm,htm⟩:=bZ (t%Z);have⟨td,htd⟩:=bZ (t/Z);have hdm:t=tm+Z*td:=by rw[<-htm,<-htd];exact(Xp t Z).symm
  have htmZ:tm<Z:=by rw[<-htm];exact Y7 _ cL
  have htd1:td<=1:=by simp[Z]at *;omega
  rw[htm,htd];have⟨⟨f1,f2⟩,i2,ce,i4⟩:=OJ hsb (Fr:=Fr) r (j+1) td (l.set m tm) dG htd1 (hs.set htmZ);refine⟨⟨by rw[f1];simp,λn hn=>?_⟩,i2,ce,?_⟩
  .rw[f2 n aa,LH aa]
  .have hvs:=zK (B:=Z) l m tm hml;rw[show l.getD m 0=x from hx]at hvs;rw[show Fr+(j+1)=m+1 by omega,show j+1+r=j+(r+1) by omega]at i4;rw[show m+(r+1)=m+1+r by omega,hvd];generalize val Z (m9 Fr db r (j+1) td (l.set m tm))=R at *;generalize val Z (l.set m tm)=R1 at *;generalize val Z l=R0 at *;generalize val Z (db.drop (j+1))=V at *
   rw[Nat.pow_succ Z m,Nat.mul_assoc (Z^m) Z (td+V)]at i4;generalize Z^(m+1+r)*(ce+val Z (db.drop (j+(r+1))))=Q at *;generalize Z^m=P at *;have h1:P*tm+P*(Z*td)=P*x+P*(c+y):=by rw[<-Zm,<-Zm,<-hdm,<-ht];congr 1;omega
   have h2:P*(Z*(td+V))=P*(Z*td)+P*(Z*V):=by rw[Zm Z,Zm]
   have h3:P*(c+(y+Z*V))=P*(c+y)+P*(Z*V):=by rw[<-Zm];congr 1;omega
   omega
theorem zA.take{l l':ax}{a b:Nat}(h:zA l l' a b):l'.take a=l.take a:=by
 refine Wl (by simp[h.len]) λi h1 h2=>?_
 simp[Zp]at h1 h2;have:=h.same i (.inl aa);rw[gN _ _ _ aa,gN _ _ _ aa]at this;simpa using this
theorem zA.drop{l l':ax}{a b:Nat}(h:zA l l' a b):l'.drop b=l.drop b:=by
 refine Wl (by simp[h.len]) λi h1 h2=>?_
 simp[Yl]at h1 h2;have:=h.same (b+i) (.inr aa);rw[gN _ _ _ aa,gN _ _ _ aa]at this;simpa using this
theorem am5{al db:ax}{i g:Nat}(hsa:bL Z al)(hsb:bL Z db)(hi:i+RW db<RW al)(hg:g<Z)(hD:val Z (al.drop i)<Z*val Z db)(h1:g*val Z db<val Z (al.drop i)+val Z db)(h2:val Z (al.drop i)/val Z db<=g)
  {w:Nat} {l1 l2:ax} (hw:(gz g i db (RW db+1) 0 0 0 al).1=w) (hl1:(gz g i db (RW db+1) 0 0 0 al).2=l1) (hl2:m9 i db (RW db+1) 0 0 l1=l2) :
  (RW l1=RW al∧bL Z l1) ∧
  (w=0->bL Z l1∧RW l1=RW al∧l1.take i=al.take i∧g=val Z (al.drop i)/val Z db∧val Z (l1.drop i)=val Z (al.drop i)%val Z db) ∧
  (0<w->bL Z l2∧RW l2=RW al∧l2.take i=al.take i∧0<g∧g-1=val Z (al.drop i)/val Z db∧val Z (l2.drop i)=val Z (al.drop i)%val Z db):=by
 have hvb:=jH (B:=Z) cL hsb
 have hvp:0<val Z db:=by
  rcases Ze (val Z db)with h|h
  .rw[h]at hD;simp at hD
  .exact h
 have hpow:Z^(RW db+1)=Z*Z^(RW db):=by rw[Nat.pow_succ,Zq]
 have hDlt:val Z (al.drop i)<Z^(RW db+1):=by
  rw[hpow];exact Nat.lt_trans hD (Nat.mul_lt_mul_of_pos_left hvb cL)
 have htop:val Z (al.drop (i+(RW db+1)))=0:=by
  rw[<-List.drop_drop];exact PV cL hDlt
 obtain ⟨f,s1,w1,e⟩:=JV hg hsb (RW db+1) 0 0 0 al aa cL (Zb _) hsa (by
  rw[Yz,Zh,hpow];have a1:=Z4 g (show val Z db<=Z^(RW db) by omega);have a2:=Nat.mul_lt_mul_of_pos_right hg (show 0<Z^(RW db) from Xr cL);omega) (Fr:=i) (g:=g)
 rw[hw,hl1]at e;rw[hl1]at f s1;rw[hw]at w1;simp[Nat.add_zero,Yz,Zh]at e f;have len1:=f.len
 have below:∀{l:ax},bL Z l->l.drop (i+(RW db+1))=al.drop (i+(RW db+1))->val Z (l.drop i)<Z^(RW db+1):=λ{l} hs he=>by
  have hz:=rP (B:=Z) (l.drop i) (min (RW db+1) (RW (l.drop i))) (Nat.min_le_right ..);by_cases hc:RW db+1<=RW (l.drop i)
  .rw[Yp hc,List.drop_drop,he,htop,Nat.mul_zero,Nat.add_zero]at hz;rw[hz];have:=jH (B:=Z) cL ((hs.drop i).take (RW db+1));rw[Zp,Yp hc]at this;exact this
  .have:=jH (B:=Z) cL (hs.drop i);exact Z0 this (Z2 cL aa)
 have hsp:∀{l:ax},RW l=RW al->l.take i=al.take i->val Z l=val Z (al.take i)+Z^i*val Z (l.drop i):=λ{l} h h'=>by
  rw[<-h'];exact rP l i aa
 have DQ:=rP (B:=Z) al i aa;have hdm:=Xo (val Z (al.drop i)) (val Z db);have hml:=Y7 (val Z (al.drop i)) hvp;have b1:=below s1 f.drop;rw[hsp len1 f.take,DQ,Yr,Nat.mul_assoc (Z^i)]at e
 have e2:val Z (l1.drop i)+g*val Z db=val Z (al.drop i)+Z^(RW db+1)*w:=by
  have:Z^i*(val Z (l1.drop i)+g*val Z db)=Z^i*(val Z (al.drop i)+Z^(RW db+1)*w):=by rw[Zm,Zm];omega
  exact Xv (Xr cL) this
 have⟨D,hDe⟩:=bZ (val Z (al.drop i));have⟨v,hve⟩:=bZ (val Z db);refine⟨⟨len1,s1⟩,λw0=>?_,λwp=>?_⟩
 .subst w0;rw[Nat.mul_zero,Nat.add_zero]at e2
  have hq:g=val Z (al.drop i)/val Z db:=by
   refine Nat.le_antisymm ?_ h2;rw[Xt hvp];omega
  refine⟨s1,len1,f.take,hq,?_⟩;rw[<-hq]at hdm;rw[Zq]at hdm;omega
 .have hw1:w=1:=aa;subst hw1;have⟨f2,s2,ce,e3⟩:=OJ hsb (Fr:=i) (RW db+1) 0 0 l1 aa (Zb _) s1;rw[hl2]at f2 s2 e3;simp[Nat.add_zero,Yz,Zh]at e3 f2;have hdn:db.drop (RW db+1)=[]:=Y9 aa;rw[hdn,show val Z []=0 from rfl]at e3;simp[Nat.add_zero]at e3;have len2:RW l2=RW al:=by rw[f2.len,len1]
  have tk2:l2.take i=al.take i:=by rw[f2.take,f.take]
  have b2:=below s2 (by rw[f2.drop,f.drop]);rw[hsp len2 tk2,hsp len1 f.take,Yr,Nat.mul_assoc (Z^i)]at e3
  have e4:val Z (l2.drop i)+Z^(RW db+1)*ce=val Z (l1.drop i)+val Z db:=by
   have:Z^i*(val Z (l2.drop i)+Z^(RW db+1)*ce)=Z^i*(val Z (l1.drop i)+val Z db):=by rw[Zm,Zm];omega
   exact Xv (Xr cL) this
  have hgl:g*val Z db<=(val Z (al.drop i)/val Z db+1)*val Z db:=by
   rcases Zi (val Z (al.drop i)/val Z db+1) g with h3|h3
   .exfalso;have h4:=Zu (val Z db) (show val Z (al.drop i)/val Z db+2<=g by omega);rw[Nat.add_mul,Zq (val Z (al.drop i)/val Z db)]at h4;omega
   .exact Zu _ h3
  have hgp:0<g:=by
   rcases Ze g with h|h
   .subst h;omega
   .exact h
  have hgq:g=val Z (al.drop i)/val Z db+1:=by
   refine Nat.le_antisymm ?_ ?_
   .exact Nat.le_of_mul_le_mul_right hgl hvp
   .rw[Nat.succ_le_iff,Xf hvp];omega
  refine⟨s2,len2,tk2,hgp,aa,?_⟩;rw[hgq,Nat.add_mul,W0,Zq (val Z (al.drop i)/val Z db)]at e2;generalize Z^(RW db+1)=P at *
  have hce:ce=1:=by
   rcases Zi ce 1 with h|h
   .have:ce=0:=aa;subst this;omega
   .rcases Zi ce 2 with h'|h'
    .omega
    .have:=Z4 P h';omega
  subst hce;omega
def t7(o:ax):Hp:=[(1,.data 1 (o.map u6) Th SM),ah]
theorem GH(o:ax):(t7 o)[0]?=Wf (1,.data 1 (o.map u6) Th SM):=rfl
theorem aia(o o':ax):(t7 o).set 0 (1,.data 1 (o'.map u6) Th SM)=t7 o':=rfl
@[simp]theorem aq5(o:ax):RW (t7 o)=2:=rfl
theorem QR{p:ax}(hsp:bL Z p)(DP:RW p<1000000000000){n N:Nat}(hn:0<n)(hnZ:n<=Z)(hN:N=RW p)(k:KL)(h0:Hp)(hh:RW h0=2) :
  ∀(i:Nat)(o:ax)(r:Nat),i<=RW p->RW o=N->bL Z o->r<n->val Z (p.drop i)=n*val Z (o.drop i)+r ->
  (∀o' r',RW o'=N->bL Z o'->r'<n->val Z p=n*val Z o'+r'->k (.exit 0) [U (r':Nat)] (t7 o')) ->
  lp (IE DA (aj u6 p) (U n) (.ref 0 1 0 N N N)) [] h0 [U r,I ((i:Int)-1)] (t7 o) k
 | 0,o,r,hi,ho,hso,hr,hv,hk=>by
  apply aL;simp[IE];exact hk o r ho hso hr (by simpa using hv)
 | i+1,o,r,hi,ho,hso,hr,hv,hk=>by
  have⟨x,hx⟩:=bZ (nth 0 p i);have hxs:x<Z:=by rw[<-hx];exact hsp.getD cL i
  have e1:=λh:Hp=>mH u6 p h (k:=.i64) (i:=(i:Int)) aa aa
  have e2:=λh:Hp=>yB p h (j:=i) aa
  rw[hx]at e2;have r3:=qk (GH o) ho.symm (len:=N) (cap:=N) (i:=(i:Int)) aa aa .i64;have r5:=Ac (GH o) ho.symm (j:=i) aa;simp only[aia]at r5;simp[Int.toNat_natCast]at e1 r3;have e0:((i+1:Nat):Int)-1=(i:Int):=aa;have hZ:Z=1000000000:=rfl;have⟨t,ht⟩:=bZ (r*Z+x);have⟨q,hq⟩:=bZ (t/n)
  have⟨r2,hr2⟩:=bZ (t%n);have hdm:n*q+r2=t:=by rw[<-hq,<-hr2];exact Xo t n
  have hr2n:r2<n:=by rw[<-hr2];exact Y7 _ hn
  have htn:t<Z*n:=by
   have:=Zu Z (show r+1<=n by omega);rw[Nat.add_mul,Zq n Z]at this;omega
  have hqZ:q<Z:=by rw[<-hq];exact Wm (by rw[Zq];exact htn)
  have htb:t<1000000000000000001:=by
   have:=Z4 Z hnZ;simp only[hZ]at *;omega
  have hdr:(o.set i q).drop i=q::o.drop (i+1):=by
   rw[List.drop_set,iN aa,Y5];rw[Yw (show i<RW o by omega)];rfl
  have ih:=QR hsp DP hn hnZ hN k h0 hh i (o.set i q) r2 aa (by simpa using ho) (hso.set hqZ) hr2n (by
   rw[u9,show p.getD i 0=x from hx,hv,hdr];simp[val];rw[Zm,Zm,Y3 n Z,Zq Z r];omega) hk
  have r6:=r5 q;have e3:(r:Int)*1000000000+(x:Int)=(t:Int):=by simp[hZ]at ht;omega
  have e4:(t:Int)/(n:Int)=(q:Int):=by rw[<-hq];simp
  have e5:(t:Int)%(n:Int)=(r2:Int):=by rw[<-hr2];simp
  have hrb:r<1000000000:=by simp[hZ]at hnZ;omega
  have hn0:¬((n:Int)=0):=aa;have hqb:(q:Int)<18446744073709551616:=by simp[hZ]at hqZ;omega
  apply aL;rw[e0];simp(disch:=try exact cC)[IE,e1,e2,e3,r3,hn0,Zt,Zs,e4,e5,r6,hh];simpa using ih
theorem PS(l:ax):∃z,l=f9 l++So z 0:=by
 induction hn:RW l generalizing l with
 | zero=>
  have:l=[]:=Zn hn;subst this;exact⟨0,rfl⟩
 | succ n ih=>
  obtain⟨l,x,rfl⟩:∃l' x,l=l'++[x]:=⟨l.dropLast,l.getLast (by intro e;simp[e]at hn),(List.dropLast_concat_getLast _).symm⟩;by_cases hx:x=0
  .subst hx;rw[JH];have⟨z,hz⟩:=ih l (by simpa using hn);refine⟨z+1,?_⟩
   conv=>lhs;rw[hz]
   rw[List.append_assoc,List.replicate_succ']
  .rw[JI hx];exact⟨0,ac⟩
theorem JU:l.take (RW (f9 l))=f9 l:=by have⟨z,hz⟩:=PS l;generalize f9 l=t at *;subst hz;rw[X7 rfl]
theorem tM(h:Hp)(n:Int):bQ h (U n)=Wf (U n,h):=rfl
theorem fR(ha:bQ h a=Wf (va,h1))(hb:bQ h1 b=Wf (vb,h2)):out (.tup [va,vb]) (.tup [a,b]) h:=
 ⟨h2,by simp[bQ,bY,ha,hb]⟩
theorem oj{h3:Hp}{c vc:V}(ha:bQ h a=Wf (va,h1))(hb:bQ h1 b=Wf (vb,h2))(hc:bQ h2 c=Wf (vc,h3)):out (.tup [va,vb,vc]) (.tup [a,b,c]) h:=
 ⟨h3,by simp[bQ,bY,ha,hb,hc]⟩
theorem QQ{a n:Nat}(ha:RW (aI Z a)<100000000)(hn:0<n)(hnZ:n<=Z):Ds F.wW [gY a,U n] (.tup [gY (a/n),U (a%n:Nat)]):=by
 apply anm;have⟨p,hp⟩:=bZ (aI Z a);have hsp:bL Z p:=by rw[<-hp];exact jc cW a
 have hval:val Z p=a:=by rw[<-hp];exact kS cW a
 rw[gY,hp];rw[hp]at ha;simp(disch:=try exact cC)[wW];have e2:[(1,Bk.data 1 (So (RW p) (D.int iK.u64 0)) Th SM),ah]=t7 (So (RW p) 0):=by simp[t7,u6]
 rw[e2];refine lo (QR hsp aa hn hnZ rfl _ _ rfl (RW p) (So (RW p) 0) 0 (Z8 _) ac (λx hx=>by rw[Ww]at hx;rw[hx.2];exact cL) hn (by rw[List.drop_length,Y9 ac];simp[val]) λo r ho hs hr hv=>?_);simp only[pA];rw[hval]at hv
 have hq:val Z o=a/n:=by rw[hv,Nat.mul_add_div hn,W6 hr,Nat.add_zero]
 have hr2:r=a%n:=by rw[hv,Nat.mul_add_mod,X6 hr]
 have ht:f9 (o.take (RW p))=aI Z (a/n):=by rw[Zx aa,<-hq,uI cW hs]
 have tr:=zQ (h:=t7 o) rfl (GH o) ho.symm (len:=RW p) (cap:=RW p) (Z8 _) aa (Z8 _);rw[ht]at tr;refine gG tr ?_ ac
 have htl:o.take (RW (aI Z (a/n)))=aI Z (a/n):=by
  have h2:f9 o=aI Z (a/n):=by rw[<-hq,uI cW hs]
  rw[<-h2];exact JU
 have sn:=vq (GH o) ho.symm (len:=RW (aI Z (a/n))) (cap:=RW p) (by rw[rj cW,<-hq,<-ho];exact jH cL hs) (Z8 _);rw[htl]at sn;have e6:((a:Int)%(n:Int))=((a%n:Nat):Int):=ac;rw[hr2,e6];exact fR sn (tM _ _)
end Go.Vm
