/- Lemmas. -/
import Derived.Test.YtmfphhiejjamaaaGreatDoorQVmB
set_option linter.unusedVariables false
set_option linter.unusedSimpArgs false
namespace Go.Vm
open Go Go.Am
variable{p:Prop}{k:IntKind}{n i:Int}{a b j tot:Nat}{v:V}{xs args ds:LwQ}{C:xB}
@[simp]theorem AW(v:V)(k:V->Prop):bnd (some v) k=k v:=rfl
theorem fL(p:Prop)[Decidable p](A B:Prop):cnd (.d (.bool (decide p))) A B=if p then A else B:=by simp[cnd]
theorem CE[Decidable p](hp:p)(h:Hp)(T:kkQ->Prop)(k:kkQ):gd (.d (.bool (decide p))) true h T k=T k:=by simp[gd,hp]
theorem Uv[Decidable p](hp:p)(x y:V):qM (.d (.bool (decide p))) x y=some x:=by simp[qM,hp]
theorem aaq[Decidable p](hp:¬p)(x y:V):qM (.d (.bool (decide p))) x y=some y:=by simp[qM,hp]
@[simp low]theorem aeU(b:Bool)(x y:V):qM (.d (.bool b)) x y=some (if b=true then x else y):=by cases b<;>rfl
@[simp]theorem ag9(l:LwQ)(i:Nat)(k:V->Prop):ext (.tup l) i k=bnd l[i]? k:=rfl
theorem Dj(k:LwQ->Hp->Prop)(T:(LwQ->Hp->Prop)->Prop):jn k T=T k:=rfl
theorem L3{k:LwQ->Hp->Prop}{T:(LwQ->Hp->Prop)->Prop}{l:LwQ}{h:Hp}(hT:∀q,T q=q l h):jn k T=k l h:=hT k
@[simp]theorem DJ(x:V)(l:LwQ):ge (x::l) 0=x:=rfl
@[simp]theorem ag5(x:V)(l:LwQ)(n:Nat):ge (x::l) (n+1)=ge l n:=rfl
@[simp]theorem aii(x y:V)(l:LwQ):ge (x::y::l) 1=y:=rfl
@[simp]theorem aih(x y z:V)(l:LwQ):ge (x::y::z::l) 2=z:=rfl
@[simp]theorem af7(x y z u:V)(l:LwQ):ge (x::y::z::u::l) 3=u:=rfl
@[simp] theorem iP (i:Nat)(q:LwQ->Hp->Prop)(r:List (Exit×(LwQ->Hp->Prop)))(l:LwQ)(h:Hp):exK ((.exit i,q)::r) (.exit i) l h=q l h:=by simp only[exK,WC,X7]
@[simp]theorem DL(q:LwQ->Hp->Prop)(r:List (Exit×(LwQ->Hp->Prop)))(l:LwQ)(h:Hp):exK ((.ret,q)::r) .ret l h=q l h:=rfl
@[simp]theorem AL(i:Nat)(p:LwQ->Hp->Prop)(r:List (Exit×(LwQ->Hp->Prop)))(l:LwQ)(h:Hp):exK ((.exit i,p)::r) .ret l h=exK r .ret l h:=rfl
theorem aj{step:aL}{clr:LnQ}{h0:Hp}{l:LwQ}{h:Hp}{k:KL}(hs:step l h (lpK clr h0 (fun l h=>lp step clr h0 l h k) k)):lp step clr h0 l h k:=by
 intro I hI;refine hI l h ⟨_,hs,fun ex l' h' hq=>?_⟩;cases ex
 case normal=>exact⟨hq.1,hq.2 I hI⟩
 all_goals exact hq
@[simp]theorem ad3(clr:LnQ)(h0:Hp)(I:LwQ->Hp->Prop)(k:KL)(l:LwQ)(h:Hp):lpK clr h0 I k .normal l h=(clean clr l h=true∧I l (au clr 0 h0 h)):=rfl
@[simp]theorem afS(clr:LnQ)(h0:Hp)(I:LwQ->Hp->Prop)(k:KL)(i:Nat)(l:LwQ)(h:Hp):lpK clr h0 I k (.exit i) l h=k (.exit i) l h:=rfl
@[simp]theorem agZ(clr:LnQ)(h0:Hp)(I:LwQ->Hp->Prop)(k:KL)(l:LwQ)(h:Hp):lpK clr h0 I k .ret l h=k .ret l h:=rfl
theorem HA:∀l:LwQ,dT [] l=true:=by
 intro l
 have key:∀x:V,kH [] x=true:=by
  intro x
  induction x using V.rec (motive_2:=fun l=>dT [] l=true)with
  |agg l ih=>trivial
  |tup l ih=>trivial
  |fn g a b iha ihb=>grind[kH]
  |ifc t x ih=>trivial
  |nil=>rfl
  |cons x l ih ihl=>grind[dT]
  |_=>rfl
 induction l with
 |nil=>rfl
 |cons x l ih=>grind[dT]
theorem z8:∀(h:Hp)(i:Nat),qk [] i h=true
 |[],_=>rfl
 | (_,b)::h,i=>by
  simp only[qk,z8 h,Y4,Yg,Y9];right;cases b<;>simp[offB,HA]
@[simp]theorem clean_nil(l:LwQ)(h:Hp):clean [] l h=true:=by simp[clean,HA,z8]
theorem Hs:∀(i:Nat)(h0 h:Hp),h.length=h0.length->au [] i h0 h=h
 |_,[],h,_=>by cases h<;>rfl
 |_,_::_,[],_=>rfl
 | i,(e0,b0)::h0,(e,b)::h,hl=>by
  simp only[au,dw,if_true];rw[Hs (i+1) h0 h (by grind)]
theorem wrap_i64(h : -9223372036854775808<=n∧n<=9223372036854775807):IntKind.wrap .i64 n=n:=by
 have e1:(2:Int)^64=18446744073709551616:=ae;have e2:(2:Int)^(64-1)=9223372036854775808:=ae
 grind[IntKind.wrap,IntKind.bits,IntKind.signed]
theorem Nk(hk:k.signed=false)(h:0<=n∧n<2^k.bits):k.wrap n=n:=by grind[IntKind.wrap,Int.emod_eq_of_lt]
theorem wrap_u64(h:0<=n∧n<18446744073709551616):IntKind.wrap .u64 n=n:=Nk rfl h
theorem wrap_u32(h:0<=n∧n<4294967296):IntKind.wrap .u32 n=n:=Nk rfl h
theorem wrap_u32'(n:Int):IntKind.wrap .u32 n=n%4294967296:=by rfl
theorem GY(n:Int):IntKind.wrap .u64 n=n%18446744073709551616:=by rfl
@[simp]theorem ahl(k:IntKind)(a b:Int):biI .lss (.d (.int k a)) (.d (.int k b))=some (.d (.bool (decide (a<b)))):=by simp[biI,ib,mr,jp]
@[simp]theorem ahm(k:IntKind)(a b:Int):biI .leq (.d (.int k a)) (.d (.int k b))=some (.d (.bool (decide (a<=b)))):=by simp[biI,ib,mr,jp]
@[simp]theorem ahn(k:IntKind)(a b:Int):biI .gtr (.d (.int k a)) (.d (.int k b))=some (.d (.bool (decide (b<a)))):=by simp[biI,ib,mr,jp]
@[simp]theorem aho(k:IntKind)(a b:Int):biI .geq (.d (.int k a)) (.d (.int k b))=some (.d (.bool (decide (b<=a)))):=by simp[biI,ib,mr,jp]
@[simp]theorem ahp(k:IntKind)(a b:Int):biI .eql (.d (.int k a)) (.d (.int k b))=some (.d (.bool (decide (a=b)))):=by simp[biI,ib,mr,jp];rfl
@[simp]theorem ahk(k:IntKind)(a b:Int):biI .neq (.d (.int k a)) (.d (.int k b))=some (.d (.bool (decide (a≠b)))):=by simp[biI,ib,mr,jp];rfl
theorem x9(k:IntKind)(a b:Int):biI .add (.d (.int k a)) (.d (.int k b))=some (.d (.int k (k.wrap (a+b)))):=by simp[biI,ib,mr,jp]
theorem rT(k:IntKind)(a b:Int):biI .sub (.d (.int k a)) (.d (.int k b))=some (.d (.int k (k.wrap (a-b)))):=by simp[biI,ib,mr,jp]
theorem vJ(k:IntKind)(a b:Int):biI .mul (.d (.int k a)) (.d (.int k b))=some (.d (.int k (k.wrap (a*b)))):=by simp[biI,ib,mr,jp]
theorem FW{a b:Int}(h : -9223372036854775808<=a+b∧a+b<=9223372036854775807):biI .add (I a) (I b)=some (I (a+b)):=by rw[x9,wrap_i64 h]
theorem rE{a b:Int}(h : -9223372036854775808<=a-b∧a-b<=9223372036854775807):biI .sub (I a) (I b)=some (I (a-b)):=by rw[rT,wrap_i64 h]
@[simp]theorem abo(k l:IntKind)(n:Int):cvI k (.d (.int l n))=some (.d (.int k (k.wrap n))):=rfl
@[simp]theorem ahr(a b:Bool):biB .eql (.d (.bool a)) (.d (.bool b))=some (.d (.bool (a == b))):=rfl
@[simp]theorem ahq(a b:Bool):biB .neq (.d (.bool a)) (.d (.bool b))=some (.d (.bool (a !=b))):=rfl
@[simp]theorem agG(b:Bool):unV .not (.d (.bool b))=some (.d (.bool (!b))):=rfl
def lst{α:Type}(f:α->D)(l:List α):V:=.d (.sl l.length (l.map f))
section
variable{α:Type}(f:α->D)(l:List α)
@[simp]theorem afV:bj (lst f l)=some (I l.length):=rfl
theorem aJ(h:Hp)(hj:i=j)(hl:j<l.length):ixV h 1 (lst f l) (.d (.int k i))=some (.dptr (l.map f) j):=by subst hj;simp only[ixV,lst];rw[if_pos ⟨aa,aa,af⟩];simp
theorem ad7(h:Hp)(hl:j<l.length):ld1 h (.dptr (l.map f) j)=some (.d (f l[j])):=by simp[ld1,hl]
end
section
variable{α:Type}(f:α->D)(l:List α)
theorem FS(d top:Nat):boV d top none=some d:=rfl
theorem nz{d top:Nat}(hi:i=j)(hj:j<=top):boV d top (some (.d (.int k i)))=some j:=by subst hi;simp only[boV];rw[if_pos ⟨aa,aa⟩];simp
theorem Tm{h:Hp}{lo hi:Option V}{i:Nat}(h0:0<l.length)(hj:boV l.length l.length hi=some j)(hi2:boV 0 j lo=some i)(hij:i<=j)(hjl:j<=l.length):slV h 1 (lst f l) lo hi=some (lst f ((l.drop i).take (j-i))):=by simp only[slV,lst,hj,hi2];rw[if_pos ⟨af,h0⟩];simp only[Yc,List.map_take,List.map_drop,Zr,Yo];rw[Yv aa]
theorem afx{h:Hp}(h0:0<l.length)(hi:i=j)(hj:j<=l.length):slV h 1 (lst f l) none (some (I i))=some (lst f (l.take j)):=by rw[Tm f l h0 (nz hi hj) (FS 0 j) (Yl _) hj];simp
theorem afw{h:Hp}(h0:0<l.length)(hi:i=j)(hj:j<=l.length):slV h 1 (lst f l) (some (I i)) none=some (lst f (l.drop j)):=by rw[Tm f l h0 (FS _ _) (nz hi hj) hj (Z7 _)];rw[Z6 af]
end
@[simp]theorem ahG(h:Hp)(x:D):bJ h (.d x)=some (.d (norm x),h):=by rfl
@[simp]theorem afO(k:IntKind)(n:Int):norm (.int k n)=.int k n:=rfl
@[simp]theorem aeW(b:Bool):norm (.bool b)=.bool b:=rfl
@[simp]theorem afK(s:LuQ):norm (.str s)=.str s:=rfl
@[simp]theorem agW(n:Nat)(l:LdQ):norm (.sl n l)=.sl n l:=rfl
@[simp]theorem afN:norm (.pl (.slice none 0 0))=.sl 0 []:=rfl
@[simp]theorem Ek{α:Type}(h:Hp)(f:α->D)(l:List α):bJ h (lst f l)=some (lst f l,h):=by rfl
@[simp]theorem aeQ(h:Hp):aS h []=some ([],h):=by rfl
theorem mT{h h1 h2:Hp}{x:V}{l:LwQ}(e1:bJ h v=some (x,h1))(e2:aS h1 l=some (xs,h2)):aS h (v::l)=some (x::xs,h2):=by grind[aS]
theorem pT{D:qz}{h h':Hp}{f:FuncId}{args:LwQ}{v:V}{s:Nat}{k:kkQ}(hc:D f args h v h')(hk:k v h')(hn:∀n cells ex len cap,v≠.new n cells ex len cap)(hn2:∀n,v≠.cut n:=by simp)(hn3:∀n cells ex len cap y,v≠.tup [.new n cells ex len cap,.d y]:=by intro _ _ _ _ _ _ h;cases h)
  (hn4:∀n cells ex len cap,v≠.tup [.new n cells ex len cap]:=by intro _ _ _ _ _ h;cases h) (hn5:∀n cells ex len cap y,v≠.tup [.tup [.new n cells ex len cap],.d y]:=by intro _ _ _ _ _ _ h;cases h):cai D h (.fn f [] []) args s k:=by grind[cai]
theorem BR{h h':Hp}{f:FuncId}{args:LwQ}{cells:LdQ}{s e:Nat}{b:Bk}{k:kkQ}{DD:qz}(hc:DD f args h (.tup [.new 1 cells true 0 0]) h')(hs:h'[s]?=some (e,b))
  (hk:k (.ptr s (e+1) 0 cells.length) (h'.set s (e+1,.vars (cells.map .d)))):cai DD h (.fn f [] []) args s k:=by grind[cai,new]
theorem fe{h h':Hp}{f:FuncId}{args:LwQ}{n len cap:Nat}{cells:LdQ}{s e:Nat}{b:Bk}{ex:Bool}{k:kkQ}{DD:qz}(hc:DD f args h (.new n cells ex len cap) h')(hs:h'[s]?=some (e,b))
  (hk:k (.ref s (e+1) 0 len cap cells.length) (h'.set s (e+1,.data n cells ex false))):cai DD h (.fn f [] []) args s k:=by grind[cai,new]
theorem OQ{h h':Hp}{f:FuncId}{k:kkQ}(hs:aS h args=some (ds,h'))(hc:C f ds v)(hk:k v (if fN v then h else h')):cal C h (.fn f [] []) args k:=by grind[cal]
theorem agp{h:Hp}{f:FuncId}{k:kkQ}(hc:C f args v)(hs:aS h args=some (args,h))(hk:k v h):cal C h (.fn f [] []) args k:=
 OQ hs hc (by grind)
theorem UE{x:D}{h:Hp}(hx:norm x=x):out (.d x) (.d x) h:=⟨h,by simp[hx]⟩
theorem aav{α:Type}(f:α->D)(l:List α)(h:Hp):out (lst f l) (lst f l) h:=⟨h,af⟩
@[simp]theorem agU(k:IntKind)(n:Int)(h:Hp):out (.d (.int k n)) (.d (.int k n)) h:=UE rfl
@[simp]theorem UF(b:Bool)(h:Hp):out (.d (.bool b)) (.d (.bool b)) h:=UE rfl
theorem Ew{l:IntKind}(hb:b<=k.bits):biI .shr (.d (.int k a)) (.d (.int l b))=some (.d (.int k ((a/2^b:Nat):Int))):=by
 have h1:¬((b:Int)<0):=aa
 grind[biI,ib,mr,jp]
theorem yd(h:a+b<18446744073709551616):biI .add (.d (.int .u64 a)) (.d (.int .u64 b))=some (.d (.int .u64 ((a+b:Nat):Int))):=by rw[x9,wrap_u64 aa];simp
theorem Dy(h:a*b<18446744073709551616):biI .mul (.d (.int .u64 a)) (.d (.int .u64 b))=some (.d (.int .u64 ((a*b:Nat):Int))):=by grind[vJ,wrap_u64]
theorem aex(h:a<18446744073709551616):cvI .u64 (.d (.int k a))=some (.d (.int .u64 a)):=by rw[abo,wrap_u64 aa]
theorem pw(a:Nat):cvI .u32 (.d (.int k a))=some (.d (.int .u32 ((a%4294967296:Nat):Int))):=by rfl
theorem addN(h:a+b<=9223372036854775807):biI .add (I a) (I b)=some (I ((a+b:Nat):Int)):=by rw[FW aa];simp
theorem wE(h:a+1<=9223372036854775807):biI .add (I a) (I 1)=some (I ((a+1:Nat):Int)):=addN h
theorem xa{s by_:Nat}{z:D}{h:Hp}{n:Nat}{e:Nat}{b:Bk}{k:kkQ}(hs:h[s]?=some (e,b))(hn:by_*n<=281474976710656)(hn2:n<=9223372036854775807)
  (hk:k (.ref s (e+1) 0 n n n) (h.set s (e+1,.data 1 (List.replicate n z) true false))):mkS s by_ [z] h (I n) (I n) k:=by
 have hr:∀n,jv n [z]=List.replicate n z:=fun n=>by
  induction n with
  |zero=>rfl
  |succ n ih=>grind[jv]
 simp only[mkS];rw[if_pos ⟨aa,aa,af,aa,aa⟩]
 grind[new]
section
variable{α:Type}{f:α->D}{l:List α}{h:Hp}{s e:Nat}{ex fr:Bool}
theorem uj(hs:h[s]?=some (e,.data 1 (l.map f) ex fr)){len cap:Nat}(hij:i=j)(hj:j<len)(ht:tot=l.length):ixV h 1 (.ref s e 0 len cap tot) (.d (.int k i))=some (.ptr s e j tot):=by subst hij;simp only[ixV,aw,hs,if_true];rw[if_pos ⟨by grind,aa,aa⟩];simp
theorem Cq(hs:h[s]?=some (e,.data 1 (l.map f) ex fr))(hj:j<l.length)(ht:tot=l.length):ld1 h (.ptr s e j tot)=some (.d (f l[j])):=by grind[ld1,aw]
theorem tQ(hs:h[s]?=some (e,.data 1 (l.map f) ex false))(hj:j<l.length)(ht:tot=l.length){x:α}(hn:norm (f x)=f x){k:kkQ}:
  stD h 1 (.ptr s e j tot) (.d (f x)) k=k .junk (h.set s (e,.data 1 ((l.set j x).map f) ex false)):=by
 have e1:(l.map f).take j++[f x]++(l.map f).drop (j+1)=(l.set j x).map f:=by
  rw[List.map_set,Ya,if_pos (by grind)];simp
 have hle:j+1<=l.length:=hj;simp only[stD,st,sto,aw,hs,if_true,iH,toD,hn]
 grind[bS]
end
theorem rG{α:Type}{f:α->D}{l:List α}{h:Hp}{s e:Nat}{ex fr:Bool}(hs:h[s]?=some (e,.data 1 (l.map f) ex fr)){n m:Nat}(hn:n=l.length)(hm:n<=m)(ht:tot=l.length):
  bJ h (.ref s e 0 n m tot)=some (lst f l,h.set s (e,.data 1 (l.map f) ex true)):=by subst hn;subst ht;simp only[bJ,toD,aw,hs,if_true,Yz];rw[if_pos ⟨trivial,hm,aa⟩];simp only[Zj,Yc,bS,lst];rw[Z6 af]
end Go.Vm
namespace Go.Big
variable{l b d p o:LnQ}{i a x n k m r y w high low:Nat}
def val(B:Nat):LnQ->Nat
 |[]=>0
 |x::l=>x+B*val B l
def iN:LnQ->LnQ
 |[]=>[]
 | x::l=>match iN l with
  |[]=>if x=0 then[]else[x]
  |y::r=>x::y::r
def AO(B:Nat):Nat->Nat->LnQ
 |0,_=>[]
 |f+1,n=>if n=0 then[]else n%B::AO B f (n/B)
def dig(B n:Nat):LnQ:=AO B n n
def aH(B:Nat)(l:LnQ):Prop:=∀x∈l,x<B
section
variable{B:Nat}
theorem val_append(a b:LnQ):val B (a++b)=val B a+B^a.length*val B b:=by
 induction a with
 |nil=>simp[val]
 |cons x a ih=>grind[val]
theorem jE(hB:0<B)(h:aH B l):val B l<B^l.length:=by
 induction l with
 |nil=>simp[val]
 | cons x l ih=>
  have h1:=ih fun y hy=>h y (by grind)
  have h2:=h x af;simp only[val,List.length_cons,Nat.pow_succ];have:B*(val B l+1)<=B*B^l.length:=Zw B h1
  grind
theorem aH.take{l:LnQ}(h:aH B l)(n:Nat):aH B (l.take n):=fun x hx=>h x (List.mem_of_mem_take hx)
theorem aH.drop{l:LnQ}(h:aH B l)(n:Nat):aH B (l.drop n):=fun x hx=>h x (List.mem_of_mem_drop hx)
theorem aH.get(h:aH B l)(hi:i<l.length):l[i]<B:=h _ (Wj hi)
theorem aH.append{a:LnQ}(ha:aH B a)(hb:aH B b):aH B (a++b):=fun x hx=>by
 rcases W4.1 hx with h|h
 .exact ha x h
 .exact hb x h
theorem Q1(l:LnQ):val B (iN l)=val B l:=by
 induction l with
 |nil=>rfl
 | cons x l ih=>
  grind[iN,val]
theorem Kw(h:aH B l):aH B (iN l):=by
 induction l with
 |nil=>exact h
 | cons x l ih=>
  have h1:=ih fun y hy=>h y (by grind)
  have hx:=h x af;unfold iN;split
  .split
   .grind
   .intro y hy;grind
  .rename_i y r he;rw[he]at h1;intro z hz;rcases Zo.1 hz with rfl|hz
   .exact hx
   .exact h1 z hz
def A8(l:LnQ):Prop:=∀h:l≠[],l.getLast h≠0
theorem Nr(l:LnQ):A8 (iN l):=by
 induction l with
 |nil=>intro h;trivial
 | cons x l ih=>
  unfold iN;split
  .split
   .grind
   .rename_i hx;intro h;trivial
  .rename_i y r he;rw[he]at ih;intro h;rw[Wo af];exact ih af
theorem Gc(h:A8 l):iN l=l:=by
 induction l with
 |nil=>rfl
 | cons x l ih=>
  unfold iN;cases l with
  | nil=>
   have:=h af
   grind[iN]
  | cons y r=>
   have:A8 (y::r):=fun hh=>by have:=h af;rwa [Wo af]at this
   grind
theorem qW(l:LnQ):iN (l++[0])=iN l:=by
 induction l with
 |nil=>rfl
 |cons x l ih=>grind[iN]
theorem yG(h:x≠0):iN (l++[x])=l++[x]:=Gc fun _=>by grind
theorem DN(hB:2<=B):∀(f n:Nat),n<=f->val B (AO B f n)=n∧aH B (AO B f n)∧A8 (AO B f n)
 | 0,n,h=>by
  have:n=0:=aa;subst this;exact⟨rfl,fun x hx=>by trivial,fun hx=>absurd rfl hx⟩
 | f+1,n,h=>by
  unfold AO;split
  .rename_i h0;subst h0;exact⟨rfl,fun x hx=>by simp at hx,fun hx=>absurd rfl hx⟩
  .rename_i h0;have hlt:n/B<n:=Nat.div_lt_self aa aa;obtain⟨h1,h2,h3⟩:=DN hB f (n/B) aa;refine⟨?_,?_,?_⟩
   .grind[val,Xk]
   .intro x hx;rcases Zo.1 hx with rfl|hx
    .exact Y7 _ aa
    .exact h2 x hx
   .intro hne;by_cases hd:AO B f (n/B)=[]
    .simp only[hd];rw[hd]at h1;simp only[val]at h1
     have:n<B:=by
      rcases Zi n B with h|h
      .exact h
      .have:=V4 h (by omega:0<B);omega
     grind[Yk]
    .rw[Wo hd];exact h3 hd
theorem iS(hB:2<=B)(n:Nat):val B (dig B n)=n:=(DN hB n n (Z7 n)).1
theorem cJ(hB:2<=B)(n:Nat):aH B (dig B n):=(DN hB n n (Z7 n)).2.1
theorem FD(hB:2<=B)(n:Nat):A8 (dig B n):=(DN hB n n (Z7 n)).2.2
theorem xh(h:A8 l)(hl:l≠[])(hB:0<B):val B l≠0:=by
 induction l with
 |nil=>trivial
 | cons x l ih=>
  cases l with
  |nil=>have:=h af;trivial
  | cons y r=>
   have hn:A8 (y::r):=fun hh=>by have:=h af;rwa [Wo af]at this
   have:=ih hn af;simp only[val]at this ⊢;have:=Yx hB (X1 this);omega
theorem LD(hB:0<B):∀{a b:LnQ},aH B a->aH B b->A8 a->A8 b->val B a=val B b->a=b
 |[],[],_,_,_,_,_=>rfl
 |[],y::b,_,_,_,hb,h=>absurd h.symm (xh hb af hB)
 |x::a,[],_,_,ha,_,h=>absurd h (xh ha af hB)
 | x::a,y::b,sa,sb,na,nb,h=>by
  have hx:=sa x af;have hy:=sb y af;simp only[val]at h
  have e1:x=y:=by
   have:=congrArg (· % B) h;simpa[Xu,Yk hx,Yk hy]using this
  subst e1;have e2:val B a=val B b:=Xv hB aa;have tl:∀{l:LnQ}{x:Nat},A8 (x::l)->A8 l:=fun{l x} h hl=>by have:=h af;grind
  rw[LD hB (fun z hz=>sa z (by grind)) (fun z hz=>sb z (by grind)) (tl na) (tl nb) e2]
theorem rR(hB:2<=B)(h:aH B l):dig B (val B l)=iN l:=
 LD aa (cJ hB _) (Kw h) (FD hB _) (Nr l) (by rw[iS hB,Q1])
theorem j4:dig B 0=[]:=rfl
theorem kJ(hB:2<=B):dig B n=[]↔n=0:=by
 constructor
 .intro h;have:=iS hB n;rw[h]at this;exact this.symm
 .rintro rfl;rfl
theorem pN(hB:2<=B):(dig B n).length<=k↔n<B^k:=by
 have hv:=iS hB n;have hs:=jE aa (cJ hB n);rw[hv]at hs;constructor
 .intro h;exact Z1 hs (Z4 aa h)
 .intro h;rcases Zi k (dig B n).length with hk|hk
  .exfalso;have hne:dig B n≠[]:=by intro e;rw[e]at hk;simp at hk
   have hdrop:val B ((dig B n).drop k)≠0:=by
    refine xh ?_ (by grind[List.drop_eq_nil_iff]) aa;intro hd;rw[List.getLast_drop];exact FD hB n hne
   have:=val_append (B:=B) ((dig B n).take k) ((dig B n).drop k);rw[Yi,hv,Zr,Yv aa]at this;have:=Zw (B^k) (X1 hdrop);omega
  omega
def N5(a b:LnQ):Nat->Int
 |0=>0
 |i+1=>if a.getD i 0<b.getD i 0 then -1 else if b.getD i 0<a.getD i 0 then 1 else N5 a b i
def cmp(a b:Nat):Int:=if a<b then -1 else if b<a then 1 else 0
theorem PV(hB:0<B){a b:LnQ}(ha:aH B a)(hb:aH B b):∀i,i<=a.length->i<=b.length->N5 a b i=cmp (val B (a.take i)) (val B (b.take i))
 |0,_,_=>by rfl
 | i+1,h1,h2=>by
  have e:∀(l:LnQ)(h:i<l.length),val B (l.take (i+1))=val B (l.take i)+B^i*l[i]:=fun l h=>by
   rw[Xp,val_append,Zr,Yv aa]
   grind[val]
  have la:=jE hB (ha.take i);have lb:=jE hB (hb.take i);rw[Zr,Yv aa]at la lb;rw[N5,e a aa,e b aa,PV hB ha hb i aa aa];have ga:a.getD i 0=a[i]:=by simp[show i<a.length by omega]
  have gb:b.getD i 0=b[i]:=by simp[show i<b.length by omega]
  rw[ga,gb];generalize a[i]=x,b[i]=y at *;unfold cmp;rcases Nat.lt_trichotomy x y with h|h|h
  .rw[if_pos h];have:B^i*(x+1)<=B^i*y:=Zw _ h;rw[Nat.mul_add]at this;rw[if_pos aa]
  .grind
  .rw[if_neg aa,if_pos h];have:B^i*(y+1)<=B^i*x:=Zw _ h;rw[Nat.mul_add]at this;rw[if_neg aa,if_pos aa]
theorem JL(hB:2<=B)(h:(dig B m).length<(dig B n).length):m<n:=by
 have h1:m<B^(dig B m).length:=(pN hB).1 (Z7 _);rcases Zi n (B^(dig B m).length)with h2|h2
 .have:=(pN hB).2 h2;omega
 .omega
theorem qC(l:LnQ)(i:Nat):val B (l.drop i)=l.getD i 0+B*val B (l.drop (i+1)):=by
 by_cases h:i<l.length
 .grind[Z0,val]
 .rw[Zb aa,Zb aa];simp[val,List.getElem?_eq_none (by omega:l.length<=i)]
theorem aH.getD{l:LnQ}(h:aH B l)(hB:0<B)(i:Nat):l.getD i 0<B:=by
 by_cases hi:i<l.length
 .simp_all[get]
 .simp[List.getElem?_eq_none (by omega:l.length<=i),hB]
theorem Kn(l:LnQ)(x:Nat):val B (l++[x])=val B l+B^l.length*x:=by simp[val_append,val]
theorem oW(n:Nat):val B (List.replicate n 0)=0:=by
 induction n with
 |zero=>rfl
 |succ n ih=>grind[val]
theorem aH.snoc(h:aH B l)(hx:x<B):aH B (l++[x]):=h.append fun y hy=>by grind
theorem po:(d++List.replicate (r+1) 0).set d.length x=(d++[x])++List.replicate r 0:=by grind
end
def bln(n:Nat):Nat:=if n=0 then 0 else n.log2+1
theorem sG:bln 0=0:=rfl
theorem oF(n:Nat):n<2^bln n:=by
 unfold bln;split
 .omega
 .exact Nat.lt_log2_self
theorem uI(h:n≠0):2^(bln n-1)<=n:=by unfold bln;rw[if_neg h];exact Nat.log2_self_le h
theorem qS(h:n≠0):0<bln n:=by unfold bln;rw[if_neg h];omega
theorem Au(h1:2^k<=n)(h2:n<2^(k+1)):bln n=k+1:=by
 have h0:n≠0:=by have:=Zq k;omega
 unfold bln;rw[if_neg h0];have:=(Nat.log2_eq_iff h0).2 ⟨h1,h2⟩;omega
theorem Ao(h:0<n):bln n=bln (n/2)+1:=by
 by_cases h2:n/2=0
 .have:n=1:=aa;subst this;decide
 .have l1:=oF (n/2);have l2:=uI h2;have l3:=qS h2;obtain⟨k,hk⟩:∃k,bln (n/2)=k+1:=⟨bln (n/2)-1,aa⟩;rw[hk]at l1 l2 ⊢;simp only[Yd]at l2;refine Au ?_ ?_
  .rw[Nat.pow_succ];omega
  .rw[Nat.pow_succ];omega
theorem km(h:n<2^k):bln n<=k:=by
 by_cases h0:n=0
 .subst h0;simp[sG]
 .have:=uI h0;rcases Zi k (bln n)with h1|h1
  .have h3:2^k<=2^(bln n-1):=Z4 ae aa;omega
  .exact h1
theorem Al(hp:aH 4294967296 p)(hx:x≠0):bln (val 4294967296 (p++[x]))=32*p.length+bln x:=by
 have hv:=jE (B:=4294967296) ae hp;have hW:(4294967296:Nat)^p.length=2^(32*p.length):=by rw[Xc]
 have l1:=oF x;have l2:=uI hx;have l3:=qS hx;obtain⟨k,hk⟩:∃k,bln x=k+1:=⟨bln x-1,aa⟩;rw[hk]at l1 l2 ⊢;simp only[Yd]at l2;rw[val_append];simp only[val,Nat.mul_zero,Nat.add_zero];rw[hW]at hv ⊢;rw[<-Nat.add_assoc];refine Au ?_ ?_
 .rw[Y6];have:=Zw (2^(32*p.length)) l2;omega
 .rw[Nat.add_assoc,Y6];have:=Zw (2^(32*p.length)) l1;rw[Nat.mul_succ]at this;omega
def nP(r:Nat):LnQ->LnQ
 |[]=>[]
 |x::l=>(x/2^r+(2^(32-r)*l.headD 0)%4294967296)::nP r l
theorem uZ(r:Nat):∀l,(nP r l).length=l.length
 |[]=>rfl
 |x::l=>by simp[nP,uZ r l]
theorem qH(hr:r<=32):2^r*2^(32-r)=4294967296:=by rw[<-Y6,show r+(32-r)=32 by omega]
theorem A4(hr:r<=32)(hx:x<4294967296):x/2^r+(2^(32-r)*y)%4294967296<4294967296:=by have hs:=qH hr;have hp:=Zq r;have hq:=Zq (32-r);generalize 2^r=a at *;generalize 2^(32-r)=b at *;have h1:x/a<b:=Wl (by rw[hs];exact hx);rw[<-hs,Zt a b,Xe];have h2:y%a<a:=Y7 _ hp;have h3:b*(y%a+1)<=b*a:=Zw b h2;rw[Nat.mul_add]at h3;omega
theorem rH{r:Nat}(hr:r<=32):∀{l:LnQ},aH 4294967296 l->aH 4294967296 (nP r l)
 |[],_=>fun x hx=>by simp[nP]at hx
 | x::l,h=>by
  intro y hy;simp only[nP,Zo]at hy;rcases hy with rfl|hy
  .exact A4 hr (h x af)
  .exact rH hr (fun z hz=>h z (by simp[hz])) y hy
theorem uW{r:Nat}(hr:r<=32):∀(l:LnQ),val 4294967296 (nP r l)=val 4294967296 l/2^r
 |[]=>by simp[nP,val]
 | x::l=>by
  have hs:=qH hr;have hp:=Zq r;have hq:=Zq (32-r);have ih:=uW hr l;simp only[nP,val,ih]
  have hh:(2^(32-r)*l.headD 0)%4294967296=(2^(32-r)*val 4294967296 l)%4294967296:=by
   cases l with
   |nil=>simp[val]
   | cons y l=>
    simp only[List.headD_cons,val];rw[Nat.mul_add,<-Nat.mul_assoc (2^(32-r)) 4294967296,Zt (2^(32-r)) 4294967296,Nat.mul_assoc 4294967296,Xu]
  rw[hh];generalize val 4294967296 l=v at *;generalize 2^r=a at *;generalize 2^(32-r)=b at *;rw[<-hs,Nat.mul_assoc a b v,Yr _ _ hp];have e1:v/a=b*v/(a*b):=by rw[Zt a b,Nat.mul_div_mul_left _ _ hq]
  rw[e1];have:=Xk (b*v) (a*b);omega
theorem MC{b:Nat}(hb:0<b)(h:b*2^n<=a):a/b=2^n+(a-b*2^n)/b∧a%b=(a-b*2^n)%b:=by obtain⟨c,rfl⟩:∃c,a=c+b*2^n:=⟨a-b*2^n,aa⟩;rw[Yd,Yr _ _ hb,Xu];exact⟨aa,rfl⟩
def CU(w:Nat):Nat->Nat->Nat->Nat->Option Nat
 |0,_,_,out=>some out
 | n+1,low,high,out=>
  if 2^(w+1)<=low*low/2^w then CU w n (low*low/2^w/2) (((if high*high/2^w*2^w=high*high then high*high/2^w else high*high/2^w+1)+1)/2) (out*2+1)
  else if 2^(w+1)<=(if high*high/2^w*2^w=high*high then high*high/2^w else high*high/2^w+1)then none
  else CU w n (low*low/2^w) (if high*high/2^w*2^w=high*high then high*high/2^w else high*high/2^w+1) (out*2)
def pq(p n w:Nat):Option Nat:=CU w n (p*2^(w-(bln p-1))) (p*2^(w-(bln p-1))) (bln p-1)
theorem Db(h:high<=2^(w+1)):(if high*high/2^w*2^w=high*high then high*high/2^w else high*high/2^w+1)<=2^(w+2):=by
 have hp:=Zq w;have h2:high*high<=2^(w+1)*2^(w+1):=Zn h h;have e:2^(w+1)*2^(w+1)=2^(w+2)*2^w:=by rw[<-Y6,<-Y6];congr 1;omega
 rw[e]at h2;generalize high*high=s at *;have hd:=Yf s (2^w);have hm:=Y7 s hp;split
 .exact Nat.div_le_of_le_mul (by rw[Zt];exact h2)
 .rename_i hne
  have:s/2^w<2^(w+2):=by
   rcases Zi (s/2^w) (2^(w+2))with h3|h3
   .exact h3
   .have h4:=Zz (2^w) h3;rw[Zt]at hd;omega
  omega
theorem BU(h:low<=2^(w+1)):low*low/2^w<=2^(w+2):=by
 have h2:low*low<=2^(w+1)*2^(w+1):=Zn h h;have e:2^(w+1)*2^(w+1)=2^w*2^(w+2):=by rw[<-Y6,<-Y6];congr 1;omega
 rw[e]at h2;exact Nat.div_le_of_le_mul h2
theorem xC{B:Nat}:∀(l:LnQ)(j x:Nat),j<l.length->val B (l.set j x)+B^j*l.getD j 0=val B l+B^j*x
 |[],j,x,h=>by simp at h
 |y::l,0,x,h=>by simp[val];omega
 | y::l,j+1,x,h=>by
  have:=xC (B:=B) l j x (by simpa using h);simp only[List.set_cons_succ,val,List.getD_cons_succ,Nat.pow_succ];rw[Zt (B^j) B,Nat.mul_assoc,Nat.mul_assoc];generalize val B (l.set j x)=p at *;generalize B^j*l.getD j 0=q at *;generalize B^j*x=r at *;have h2:B*(p+q)=B*(val B l+r):=by rw[this]
  rw[Nat.mul_add,Nat.mul_add]at h2;omega
theorem aH.set{B:Nat}{l:LnQ}(h:aH B l){j x:Nat}(hx:x<B):aH B (l.set j x):=by
 intro y hy;rcases Yq hy with h1|h1
 .exact h y h1
 .subst h1;exact hx
theorem yz{B:Nat}(l:LnQ)(h:i<l.length):val B (l.take (i+1))=val B (l.take i)+B^i*l.getD i 0:=by rw[Xp,val_append,Zr,Yv aa];simp[List.getElem?_eq_getElem h,val]
theorem UX{B:Nat}{j c v:Nat}(hj:j<o.length):
  val B (o.set j ((c+o.getD j 0+a*y)%B))+B^(j+1)*((c+o.getD j 0+a*y)/B+a*v)=val B o+B^j*(c+a*(y+B*v)):=by
 have h:=xC (B:=B) o j ((c+o.getD j 0+a*y)%B) hj;generalize val B (o.set j ((c+o.getD j 0+a*y)%B))=p at *;generalize o.getD j 0=w at *;have hd:=Xk (c+w+a*y) B;generalize(c+w+a*y)%B=r at *;generalize(c+w+a*y)/B=d at *;generalize val B o=q at *;generalize hP:B^j=P at *;rw[Nat.pow_succ,hP,Nat.mul_assoc]
 have e1:P*(B*(d+a*v))+P*r=P*(c+w+a*y)+P*(a*(B*v)):=by
  rw[<-Nat.mul_add,<-Nat.mul_add,<-hd,Nat.mul_add B,Y1 a B v];congr 1;omega
 have e2:P*(c+a*(y+B*v))+P*w=P*(c+w+a*y)+P*(a*(B*v)):=by
  rw[<-Nat.mul_add,<-Nat.mul_add,Nat.mul_add a];congr 1;omega
 omega
end Go.Big
namespace Go.Vm
open Go Go.Am
abbrev ak:TyI:=⟨.f,1,8,[.pl .nilFunc],false⟩
abbrev lN:TyI:=⟨.o,1,0,[],false⟩
abbrev EG:TyI:=⟨.p,1,8,[.pl (.pointer none)],false⟩
abbrev Pz:TyI:=⟨.i .i64,1,8,[.int .i64 0],false⟩
abbrev Py:TyI:=⟨.i .u8,1,1,[.int .u8 0],false⟩
abbrev Px:TyI:=⟨.s,1,16,[.str []],false⟩
abbrev Pw:TyI:=⟨.st [(0,1),(1,1)],2,32,[.bool false,.pl (.slice none 0 0)],false⟩
abbrev TP:TyI:=⟨.i .u64,1,8,[.int .u64 0],false⟩
abbrev TO:TyI:=⟨.it,1,16,[.pl .nilIface],false⟩
abbrev TN:TyI:=⟨.i .i32,1,4,[.int .i32 0],false⟩
abbrev NS:TyI:=⟨.sl 3,1,24,[.pl (.slice none 0 0)],false⟩
abbrev T5:TyI:=⟨.sl 100,1,24,[.pl (.slice none 0 0)],false⟩
abbrev T4:TyI:=⟨.st [(0,1),(1,1),(2,1),(3,1)],4,24,[.int .i64 0,.int .i64 0,.bool false,.int .u8 0],false⟩
abbrev T2:TyI:=⟨.st [(0,1),(1,1)],2,24,[.str [],.int .u64 0],false⟩
abbrev T1:TyI:=⟨.st [(0,1)],1,8,[.pl (.pointer none)],false⟩
abbrev TZ:TyI:=⟨.st [(0,1),(1,1),(2,1)],3,40,[.int .i64 0,.int .i64 0,.pl (.slice none 0 0)],false⟩
abbrev TY:TyI:=⟨.sl 43,1,24,[.pl (.slice none 0 0)],false⟩
abbrev TX:TyI:=⟨.st [(0,1),(1,1),(2,1)],3,72,[.pl (.slice none 0 0),.pl (.slice none 0 0),.pl (.slice none 0 0)],false⟩
abbrev TW:TyI:=⟨.sl 50,1,24,[.pl (.slice none 0 0)],false⟩
abbrev TU:TyI:=⟨.sl 89,1,24,[.pl (.slice none 0 0)],false⟩
abbrev TT:TyI:=⟨.st [(0,2),(2,1)],3,56,[.bool false,.pl (.slice none 0 0),.pl (.slice none 0 0)],false⟩
abbrev TS:TyI:=⟨.st [(0,1),(1,1)],2,32,[.pl (.pointer none),.pl (.slice none 0 0)],false⟩
abbrev TR:TyI:=⟨.st [(0,1),(1,1),(2,1)],3,56,[.pl (.slice none 0 0),.pl (.slice none 0 0),.int .i64 0],false⟩
abbrev TQ:TyI:=⟨.st [(0,1),(1,1),(2,1)],3,48,[.str [],.str [],.pl .nilIface],false⟩
abbrev zy:TyI:=⟨.st [(0,1),(1,1),(2,1),(3,1)],4,40,[.pl (.pointer none),.pl (.pointer none),.pl (.pointer none),.str []],false⟩
abbrev zw:TyI:=⟨.st [(0,1),(1,1),(2,1),(3,1),(4,1),(5,1),(6,1),(7,1),(8,1),(9,1),(10,1)],11,48,[.int .u64 0,.int .u64 0,.int .u32 0,.int .u8 0,.int .u8 0,.int .u8 0,.int .u8 0,.pl .nilFunc,.pl (.pointer none),.int .i32 0,.int .i32 0],false⟩
abbrev slQ(n:Nat):TyI:=⟨.sl n,1,24,[.pl (.slice none 0 0)],false⟩
def ahB:List TyI:=[
 lN,ak,Pz,Pz,⟨.b,1,1,[.bool false],false⟩,Py,Py,T4,T4,Px,Px,Px,TP,T2,T2,EG]
def ahA:List TyI:=[
 EG,EG,T1,T1,TO,TN,Px,⟨.st [(0,1),(1,1),(2,1)],3,32,[.int .i64 0,.int .i64 0,.str []],false⟩,⟨.st [(0,1),(1,1),(2,1)],3,32,[.int .i64 0,.int .i64 0,.str []],true⟩,ak,ak,Pz,lN,ak,ak,ak]
def ahz:List TyI:=[
 NS,Pw,Pw,ak,ak,ak,ak,NS,slQ 24,TZ,TZ,NS,TY,TY,TX,TX]
def ahy:List TyI:=[
 ak,⟨.st [(0,1),(1,1)],2,32,[.str [],.str []],false⟩,⟨.st [(0,1),(1,1)],2,32,[.str [],.str []],true⟩,ak,TW,TW,ak,ak,TU,TU,Pw,Pw,lN,ak,lN,ak]
def ahx:List TyI:=[
 ak,ak,ak,ak,ak,ak,ak,ak,ak,ak,TO,TO,lN,ak,ak,ak]
def ahw:List TyI:=[
 slQ 84,lN,ak,TT,TT,ak,ak,ak,ak,⟨.i .u32,1,4,[.int .u32 0],false⟩,ak,ak,ak,ak,ak,ak]
def ahv:List TyI:=[
 slQ 45,ak,ak,ak,TP,ak,ak,ak,ak,TP,slQ 4,lN,ak,ak,lN,ak]
def ahu:List TyI:=[
 EG,slQ 5,TS,TS,ak,ak,ak,ak,ak,ak,lN,ak,ak,ak,ak,ak]
def aht:List TyI:=[
 ak,lN,ak,ak,ak,EG,ak,lN,ak,lN,ak,ak,ak,lN,ak,ak]
def ahs:List TyI:=[
 lN,ak,lN,ak,EG,Pz,lN,ak,EG,ak,ak,ak,ak,lN,ak,ak]
def afo:List TyI:=[
 lN,ak,ak,ak,ak,T5,T5,ak,TR,TR,ak,ak,lN,ak,ak,T5]
def afn:List TyI:=[
 ak,ak,ak,ak,ak,ak,⟨.ar 24 5,24,24,List.replicate 24 (.int .u8 0),false⟩,ak,lN,ak,⟨.o,1,8,[.pl (.pointer none)],false⟩,ak,ak,lN,ak,ak]
def afm:List TyI:=[
 TQ,TQ,ak,ak,ak,lN,ak,ak,ak,ak,ak,⟨.ar 20 100,20,160,List.replicate 20 (.int .u64 0),false⟩,⟨.ar 65 5,65,65,List.replicate 65 (.int .u8 0),false⟩,ak,ak,EG]
def afl:List TyI:=[
 ⟨.st [(0,1)],1,16,[.str []],false⟩,⟨.st [(0,1)],1,16,[.str []],false⟩,⟨.ar 32 5,32,32,List.replicate 32 (.int .u8 0),false⟩,⟨.ar 64 5,64,64,List.replicate 64 (.int .u8 0),false⟩,zy,zy,⟨.ar 0 16,0,0,[],false⟩,⟨.st [(0,0)],0,0,[],false⟩,⟨.st [(0,0)],0,0,[],false⟩,Py,Py,ak,TN,TN,zw,zw]
def D6:List (List TyI):=[ahB,ahA,ahz,ahy,ahx,ahw,ahv,ahu,aht,ahs,afo,afn,afm,afl]
def aeH:LnQ:=[0,1,135,136,141,156,157,158,159,160,161,162,163,164,165,166,167,168,169,170,171,172,173,174,175,176,177,178,179,180,181,182]
def od:Nat:=2
namespace F
def aU:FuncId:=3
def dF:FuncId:=4
def aI:FuncId:=5
def bf:FuncId:=6
def fK:FuncId:=7
def jc:FuncId:=8
def bu:FuncId:=9
def bQ:FuncId:=10
def dq:FuncId:=11
def dt:FuncId:=12
def eC:FuncId:=13
def gF:FuncId:=14
def eJ:FuncId:=15
def gy:FuncId:=16
def d5:FuncId:=17
def dD:FuncId:=18
def dE:FuncId:=19
def dW:FuncId:=20
def bm:FuncId:=21
def du:FuncId:=22
def cj:FuncId:=23
def fc:FuncId:=24
def strconv_Itoa:FuncId:=25
def strings_Repeat:FuncId:=26
def az:FuncId:=27
def eB:FuncId:=28
def cK:FuncId:=29
def cG:FuncId:=30
def strings_HasPrefix:FuncId:=31
def strconv_Atoi:FuncId:=32
def bi:FuncId:=33
def ct:FuncId:=34
def iw:FuncId:=35
def iu:FuncId:=36
def bA:FuncId:=37
def fA:FuncId:=38
def ba:FuncId:=39
def b9:FuncId:=40
def bR:FuncId:=41
def bY:FuncId:=42
def eF:FuncId:=43
def fo:FuncId:=44
def fM:FuncId:=45
def ik:FuncId:=46
def gn:FuncId:=47
def co:FuncId:=48
def ft:FuncId:=49
def ix:FuncId:=50
def iv:FuncId:=51
def dR:FuncId:=52
def b6:FuncId:=53
def fY:FuncId:=54
def eW:FuncId:=55
def aW:FuncId:=56
def mS:FuncId:=57
def ku:FuncId:=58
def fG:FuncId:=59
def ff:FuncId:=60
def dp:FuncId:=61
def bq:FuncId:=62
def lh:FuncId:=63
def gI:FuncId:=64
def mH:FuncId:=65
def gM:FuncId:=66
def iz:FuncId:=67
def jJ:FuncId:=68
def dG:FuncId:=69
def ic:FuncId:=70
def CL:FuncId:=71
def ew:FuncId:=72
def gr:FuncId:=73
def dn:FuncId:=74
def fR:FuncId:=75
def a6:FuncId:=76
def eE:FuncId:=77
def aZ:FuncId:=78
def fC:FuncId:=79
def gJ:FuncId:=80
def fq:FuncId:=81
def bL:FuncId:=82
def dv:FuncId:=83
def aB:FuncId:=84
def aR:FuncId:=85
def kC:FuncId:=86
def vQ:FuncId:=87
def eY:FuncId:=88
def eR:FuncId:=89
def bX:FuncId:=90
def bC:FuncId:=91
def cF:FuncId:=92
def ii:FuncId:=93
def bV:FuncId:=94
def jg:FuncId:=95
def ig:FuncId:=96
def dz:FuncId:=97
def qw:FuncId:=98
def gC:FuncId:=99
def za:FuncId:=102
def bT:FuncId:=107
def dd:FuncId:=108
def kU:FuncId:=109
def fZ:FuncId:=110
def bD:FuncId:=111
def fk:FuncId:=112
def gj:FuncId:=113
def ci:FuncId:=114
def cD:FuncId:=115
def cV:FuncId:=116
def iF:FuncId:=117
def ac:FuncId:=118
def bz:FuncId:=119
def aO:FuncId:=120
def bU:FuncId:=121
def bp:FuncId:=122
def fU:FuncId:=123
def iM:FuncId:=124
def cW:FuncId:=125
def cL:FuncId:=126
def ay:FuncId:=127
def aP:FuncId:=128
def dC:FuncId:=129
def bw:FuncId:=130
def iK:FuncId:=131
def dy:FuncId:=132
def bN:FuncId:=133
def qP:FuncId:=134
def jt:FuncId:=140
def eM:FuncId:=141
def jh:FuncId:=142
def gN:FuncId:=143
def bP:FuncId:=144
def gh:FuncId:=145
def gm:FuncId:=146
def kS:FuncId:=151
def fH:FuncId:=152
def dY:FuncId:=153
end F
end Go.Vm
namespace Go.Vm
open Go Go.Am
noncomputable section
def ZL:List TyI->Nat->TyI
 |[],_=>⟨.o,0,0,[],false⟩
 |x::_,0=>x
 |_::l,n+1=>ZL l n
def Kz:List (List TyI)->Nat->List TyI
 |[],_=>[]
 |x::_,0=>x
 |_::l,n+1=>Kz l n
def pW:Nat->LuQ->Nat
 |a,[]=>a
 |a,c::l=>pW (a*10+(c.toNat-48)) l
def oN(c:UInt8):Bool:=Nat.ble 48 c.toNat&&Nat.ble c.toNat 57
def Lh:LvQ->Option Value
 |[.string s,.int .i64 a,.int .i64 b]=>if a=10∧b=64∧s.data.toList≠[]∧s.data.toList.all oN=true∧s.data.toList.length<=1000∧pW 0 s.data.toList<10000000000000000000 then some (.tuple #[.int .u64 (pW 0 s.data.toList),.nilIface])else none
 |_=>none
def yk:LvQ->Option Value
 |[.int .u64 x,.int .u64 y,.int .u64 c]=>if 0<=x∧0<=y∧0<=c∧c<=1 then some (.tuple #[.int .u64 (((x.toNat+y.toNat+c.toNat)%18446744073709551616:Nat):Int),.int .u64 (((x.toNat+y.toNat+c.toNat)/18446744073709551616:Nat):Int)])else none
 |_=>none
def Ez(f:FuncId)(lb:LvQ)(H:AH):Option (List LvQ):=none
def K4(f:FuncId)(lb:LvQ)(H:AH):LvQ:=[]
def adE(f:FuncId)(cs:LwQ):Option (List LvQ):=none
def X:Cfg:={P:=Go.Proofs.Tryz.prog,allow:=dw aeH,glob:=fun g=>Nat.beq g od,orc:=fun f args=>(match Nat.beq f F.fH with
 |true=>Lh args
 | false=>match Nat.beq f F.eM with
  |true=>yk args
  |false=>none),seq:=Ez,seqK:=K4}
def Ll:LdQ:=[.int .u64 1,.int .u64 10,.int .u64 100,.int .u64 1000,.int .u64 10000,.int .u64 100000,.int .u64 1000000,.int .u64 10000000,.int .u64 100000000,.int .u64 1000000000,.int .u64 10000000000,.int .u64 100000000000,
 .int .u64 1000000000000,.int .u64 10000000000000,.int .u64 100000000000000,.int .u64 1000000000000000,.int .u64 10000000000000000,.int .u64 100000000000000000,.int .u64 1000000000000000000,.int .u64 10000000000000000000]
def Y:lG:={X:=X,ty:=fun t=>ZL (Kz D6 (t/16)) (t%16),glob:=fun g=>(match Nat.beq g od with
 |true=>some Ll
 |false=>none),seq:=adE}
end
end Go.Vm
set_option maxRecDepth 100000
namespace Go.Vm
open Go Go.Am
variable{x:Prop}{P:Program}{t:TypeId}{z:LdQ}{k k':kkQ}{a b f v0 c v:V}{h0 h:Hp}{T:kkQ->Prop}{s n m:Nat}{cs l:LwQ}{ps:List (Nat×V)}{dr w:Bool}
def aer:Value->Value->Bool
 |.pointer none,.pointer none=>true
 |.slice none a b,.slice none c d=>a == c&&b == d
 |.nilFunc,.nilFunc=>true
 |.nilIface,.nilIface=>true
 |.map none,.map none=>true
 |.chan none,.chan none=>true
 |_,_=>false
theorem abe{x y:Value}(h:aer x y=true):x=y:=by unfold aer at h;split at h<;>first|rfl|(simp at h;obtain⟨rfl,rfl⟩:=h;rfl)|cases h
def aes:D->D->Bool
 |.int k a,.int l b=>decide (k=l)&&decide (a=b)
 |.bool a,.bool b=>a == b
 |.str a,.str b=>a == b
 |.pl a,.pl b=>aer a b
 |_,_=>false
theorem abf{x y:D}(h:aes x y=true):x=y:=by
 unfold aes at h;split at h
 .simp at h;obtain⟨rfl,rfl⟩:=h;rfl
 .simp at h;subst h;rfl
 .simp at h;subst h;rfl
 .rw[abe h]
 .cases h
def WG:LdQ->LdQ->Bool
 |[],[]=>true
 |x::l,y::m=>aes x y&&WG l m
 |_,_=>false
theorem Qv:∀{l m:LdQ},WG l m=true->l=m
 |[],[],_=>rfl
 | x::l,y::m,h=>by
  simp only[WG,Z8]at h;rw[abf h.1,Qv h.2]
 |[],_::_,h=>by cases h
 |_::_,[],h=>by cases h
def VH(P:Program)(t:TypeId)(k:Ty):Bool:=match k with
 |.i k=>match P.underlying t with|some (.int k')=>decide (k'=k)|_=>false
 |.b=>match P.underlying t with|some .bool=>true|_=>false
 |.s=>match P.underlying t with|some .string=>true|_=>false
 |.p=>match P.underlying t with|some (.pointer _)=>true|_=>false
 |.f=>match P.underlying t with|some (.func ..)=>true|_=>false
 |.it=>match P.underlying t with|some (.interface _)=>true|_=>false
 |.sl e=>match P.underlying t with|some (.slice e')=>e' == e|_=>false
 |.ar n e=>match P.underlying t with|some (.array n' e')=>n' == n&&e' == e|_=>false
 |.st fs=>match P.underlying t with|some (.struct gs)=>decide (gs.toList.map (fun f=>(f.offset,szO P f.type))=fs.map fun p=>(p.1,some p.2))|_=>false
 |.o=>true
def Ol(P:Program)(t:TypeId):D->Bool
 |.int _ _=>match P.underlying t with|some (.int _)=>true|_=>false
 |.bool _=>match P.underlying t with|some .bool=>true|_=>false
 |.str _=>match P.underlying t with|some .string=>true|_=>false
 |_=>false
theorem R3{d:D}(h:Ol P t d=true):Qm P t d:=by
 unfold Ol at h;split at h
 .split at h
  .rename_i hu;exact⟨_,hu⟩
  .cases h
 .split at h
  .rename_i hu;exact hu
  .cases h
 .split at h
  .rename_i hu;exact hu
  .cases h
 .cases h
def VZ(P:Program)(t:TypeId)(z:LdQ):Bool:=match P.underlying t with
 |some (.struct gs)=> !P.stoodInHeld t && !P.eqGuardType P.depth t&&decide (gs.size=z.length)&&(gs.toList.zipIdx.zip z).all fun x=>x.1.1.offset == x.1.2&&x.1.1.name != "_" && Ol P x.1.1.type x.2
 |_=>false
theorem VY(h:VZ P t z=true):J5 P t z:=by
 unfold VZ at h;split at h
 .rename_i gs hu;simp only[Z8,Y9,decide_eq_true_eq,Zv]at h;obtain⟨⟨⟨h1,h2⟩,h3⟩,h4⟩:=h;refine⟨gs,hu,h1,h2,h3,fun i f d hf hd=>?_⟩
  have:=h4 ((f,i),d) (by
   apply Xf (i:=i);rw[List.getElem?_zip_eq_some];exact⟨by rw[List.getElem?_zipIdx,hf];simp,hd⟩)
  simp only[beq_iff_eq,bne_iff_ne]at this;exact⟨this.1.1,this.1.2,R3 this.2⟩
 .cases h
def tyB(P:Program)(t:TypeId)(i:TyI):Bool:=(!i.eq||VZ P t i.z)&&match i.k with
 |.o=>true
 | k=>VH P t k&&decide (szO P t=some i.sz)&&decide (rD P t=some i.bytes)&&match iZ P t with
  |some z=>plain z&&z.cells.size == i.sz&&(z.cells.toList.all fun c=>plain c&&okCell c)&&WG (z.cells.toList.map jp) i.z
  |none=>false
theorem O7{i:TyI}(h:tyB P t i=true):FX P t i:=by
  unfold tyB at h;rw[Z8]at h;obtain⟨h0,h⟩:=h
  have heq:i.eq=true->J5 P t i.z:=fun e=>by
    rw[e]at h0;exact VY (by simpa using h0)
  by_cases hk:i.k = .o
  · exact⟨by rw[hk];trivial,fun h=>absurd hk h,fun h=>absurd hk h,fun h=>absurd hk h,heq⟩
  · have h2:VH P t i.k=true∧szO P t=some i.sz∧rD P t=some i.bytes∧(match iZ P t with
        |some z=>plain z&&z.cells.size == i.sz&&(z.cells.toList.all fun c=>plain c&&okCell c)&&WG (z.cells.toList.map jp) i.z
        |none=>false)=true:=by
      split at h
      · rename_i e;exact absurd e hk
      · simp only[Z8,decide_eq_true_eq]at h
        exact⟨h.1.1.1,h.1.1.2,h.1.2,h.2⟩
    obtain⟨h1,h2,h3,h4⟩:=h2;refine⟨?_,fun _=>h2,fun _=>h3,fun _=> ?_,heq⟩
    · unfold VH at h1
      cases hq:i.k<;>rw[hq]at h1<;>dsimp only at h1 ⊢
      all_goals first
        |trivial
        | (split at h1
           · rename_i hu
             first
               |(simp only[decide_eq_true_eq]at h1;subst h1;exact hu)
               |exact hu
               |exact⟨_,hu⟩
               |exact⟨_,_,_,hu⟩
               |(simp only[beq_iff_eq]at h1;subst h1;exact hu)
               |(simp only[Z8,beq_iff_eq]at h1;obtain⟨rfl,rfl⟩:=h1;exact hu)
               |(simp only[decide_eq_true_eq]at h1;exact⟨_,hu,h1⟩)
           · cases h1)
    · split at h4
      · rename_i z hz
        simp only[Z8,beq_iff_eq,Zv]at h4;refine⟨z,hz,h4.1.1.1,Qv h4.2,h4.1.1.2,fun c hc=> ?_⟩;have:=h4.1.2 c hc;exact this
      · cases h4
theorem Bh:∀(l:List (List TyI))(n:Nat),l.length<=n->Kz l n=[]
 |[],_,_=>rfl
 |_::_,0,h=>by simp at h
 |_::l,n+1,h=>Bh l n (by simpa using h)
theorem adq:(List.range (16*D6.length)).all (fun t=>tyB Y.X.P t (Y.ty t))=true:=bb
section
variable{F:Nat->Prop}{H:AH}
end
theorem yOk:YOk Y where
 seq gf cs xs h0:=by
  have h:(none:Option (List LvQ))=some xs:=h0;cases h
 ty t:=by
  by_cases ht:t<16*D6.length
  .exact O7 (Zv.1 adq t (X6.2 ht))
  .refine O7 ?_
   have:(Y.ty t).k=.o:=by
    show(ZL (Kz D6 (t/16)) (t%16)).k=.o
    have h2:∀t n:Nat,¬t<16*n->n<=t/16:=fun t n hn=>by omega
    rw[Bh D6 (t/16) (h2 t _ ht)];rfl
   have h2:(Y.ty t).eq=false:=by
    show(ZL (Kz D6 (t/16)) (t%16)).eq=false
    have h2:∀t n:Nat,¬t<16*n->n<=t/16:=fun t n hn=>by omega
    rw[Bh D6 (t/16) (h2 t _ ht)];rfl
   unfold tyB;rw[this,h2];rfl
theorem Cb{o:Option V}{k k':V->Prop}(h1:x=bnd o k)(h:∀v,k v=k' v):x=bnd o k':=by rw[h1,funext h]
theorem acF{o:V}{i:Nat}{k k':V->Prop}(h1:x=ext o i k)(h:∀v,k v=k' v):x=ext o i k':=by rw[h1,funext h]
theorem UP{op:BinOp}{k k':V->Prop}(h1:x=rj h0 op a b k)(h:∀v,k v=k' v):x=rj h0 op a b k':=by rw[h1,funext h]
theorem vP(h1:x=T k)(h:∀v h,k v h=k' v h):x=T k':=by rw[h1,show k=k' from funext fun v=>funext fun y=>h v y]
theorem B4{C:xB}{a:LwQ}(h1:x=cal C h0 f a k)(h:∀v h,k v h=k' v h):x=cal C h0 f a k':=vP h1 h
theorem acW{C:qz}{a:LwQ}(h1:x=cai C h0 f a s k)(h:∀v h,k v h=k' v h):x=cai C h0 f a s k':=vP h1 h
theorem ac5(h1:x=alV s cs h0 k)(h:∀v h,k v h=k' v h):x=alV s cs h0 k':=vP h1 h
theorem ac6{cs:LdQ}(h1:x=alD s n cs h0 k)(h:∀v h,k v h=k' v h):x=alD s n cs h0 k':=vP h1 h
theorem YA(h1:x=cQ s v0 h0 k)(h:∀v h,k v h=k' v h):x=cQ s v0 h0 k':=vP h1 h
theorem Vs(h1:x=cR n z ps h0 k)(h:∀v h,k v h=k' v h):x=cR n z ps h0 k':=vP h1 h
theorem Vq(h1:x=rq s n z ps h0 k)(h:∀v h,k v h=k' v h):x=rq s n z ps h0 k':=vP h1 h
theorem acu(h1:x=mkS s n z h0 a b k)(h:∀v h,k v h=k' v h):x=mkS s n z h0 a b k':=vP h1 h
theorem acd(h1:x=stD h0 n a b k)(h:∀v h,k v h=k' v h):x=stD h0 n a b k':=vP h1 h
theorem ac3(h1:x=apV dr s n m a b h0 k)(h:∀v h,k v h=k' v h):x=apV dr s n m a b h0 k':=vP h1 h
theorem agB(h1:x=apZ dr s n m z a b h0 k)(h:∀v h,k v h=k' v h):x=apZ dr s n m z a b h0 k':=vP h1 h
theorem aga(h1:x=gd c w h0 T k)(h:∀v h,k v h=k' v h):x=gd c w h0 T k':=vP h1 h
theorem acQ{A A' B B':Prop}(h1:x=cnd c A B)(ha:A=A')(hb:B=B'):x=cnd c A' B':=by rw[h1,ha,hb]
theorem af1{k k':LwQ->Hp->Prop}{T T':(LwQ->Hp->Prop)->Prop}(h1:x=jn k T)(hk:∀l h,k l h=k' l h)(hT:∀q,T q=T' q):x=jn k' T':=by rw[h1,show k=k' from funext fun v=>funext fun y=>hk v y,show T=T' from funext hT]
theorem afR{s s':aL}{clr:LnQ}{h2:Hp}{k k':KL}(h1:x=lp s clr h0 l h2 k)(hs:∀l h q,s l h q=s' l h q)(hk:∀ex l h,k ex l h=k' ex l h):x=lp s' clr h0 l h2 k':=by rw[h1,show s=s' from funext fun a=>funext fun b=>funext fun c=>hs a b c,show k=k' from funext fun a=>funext fun b=>funext fun c=>hk a b c]
theorem acI{e ex:Exit}{q q':LwQ->Hp->Prop}{r r':List (Exit×(LwQ->Hp->Prop))}(h1:x=exK ((e,q)::r) ex l h)(hq:∀l h,q l h=q' l h)(hr:exK r ex l h=exK r' ex l h):x=exK ((e,q')::r') ex l h:=by
 rw[h1,show q=q' from funext fun v=>funext fun y=>hq v y];simp only[exK];split
 .rfl
 .exact hr
theorem Vz{y:Prop}{k:V->Prop}(h1:x=bnd (some v) k)(h2:k v=y):x=y:=h1.trans h2
noncomputable def gl(g:Nat):V:=match Y.glob g with
 |some cs=>.dptr cs 0
 |none=>.junk
end Go.Vm
