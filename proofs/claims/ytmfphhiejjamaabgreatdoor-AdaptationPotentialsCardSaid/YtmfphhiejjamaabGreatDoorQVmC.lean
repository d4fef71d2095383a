/- Lemmas. -/
import Derived.Test.YtmfphhiejjamaabGreatDoorQVmB
set_option linter.unusedVariables false
set_option linter.unusedSimpArgs false
namespace Go.Vm
open Go Go.Am
variable{p:Prop}{k:IntKind}{n i:Int}{a b j:Nat}{v:V}{xs args ds:LwQ}{C:xB}
@[simp]theorem AW(v:V)(k:V->Prop):bnd (some v) k=k v:=rfl
theorem Uv[Decidable p](hp:p)(x y:V):qM (.d (.bool (decide p))) x y=some x:=by simp[qM,hp]
theorem aaq[Decidable p](hp:¬p)(x y:V):qM (.d (.bool (decide p))) x y=some y:=by simp[qM,hp]
@[simp low]theorem aeU(b:Bool)(x y:V):qM (.d (.bool b)) x y=some (if b=true then x else y):=by cases b<;>rfl
@[simp]theorem ag9(l:LwQ)(i:Nat)(k:V->Prop):ext (.tup l) i k=bnd l[i]? k:=rfl
theorem L3{k:LwQ->Hp->Prop}{T:(LwQ->Hp->Prop)->Prop}{l:LwQ}{h:Hp}(hT:∀q,T q=q l h):jn k T=k l h:=hT k
@[simp]theorem DJ(x:V)(l:LwQ):ge (x::l) 0=x:=rfl
@[simp]theorem ag5(x:V)(l:LwQ)(n:Nat):ge (x::l) (n+1)=ge l n:=rfl
@[simp]theorem aii(x y:V)(l:LwQ):ge (x::y::l) 1=y:=rfl
@[simp]theorem aih(x y z:V)(l:LwQ):ge (x::y::z::l) 2=z:=rfl
@[simp]theorem af7(x y z u:V)(l:LwQ):ge (x::y::z::u::l) 3=u:=rfl
@[simp] theorem iP (i:Nat)(q:LwQ->Hp->Prop)(r:List (Exit×(LwQ->Hp->Prop)))(l:LwQ)(h:Hp):exK ((.exit i,q)::r) (.exit i) l h=q l h:=by simp only[exK,WC,X7]
@[simp]theorem DL(q:LwQ->Hp->Prop)(r:List (Exit×(LwQ->Hp->Prop)))(l:LwQ)(h:Hp):exK ((.ret,q)::r) .ret l h=q l h:=rfl
@[simp]theorem AL(i:Nat)(p:LwQ->Hp->Prop)(r:List (Exit×(LwQ->Hp->Prop)))(l:LwQ)(h:Hp):exK ((.exit i,p)::r) .ret l h=exK r .ret l h:=rfl
theorem aj{step:aL}{clr:LnQ}{h0:Hp}{l:LwQ}{h:Hp}{k:KL}(hs:step l h (lpK clr h0 (fun l h=>lp step clr h0 l h k) k)):lp step clr h0 l h k:=by
 intro I hI;refine hI l h ⟨_,hs,fun ex l' h' hq=>?_⟩;cases ex
 case normal=>exact⟨hq.1,hq.2 I hI⟩
 all_goals exact hq
@[simp]theorem ad3(clr:LnQ)(h0:Hp)(I:LwQ->Hp->Prop)(k:KL)(l:LwQ)(h:Hp):lpK clr h0 I k .normal l h=(clean clr l h=true∧I l (au clr 0 h0 h)):=rfl
@[simp]theorem afS(clr:LnQ)(h0:Hp)(I:LwQ->Hp->Prop)(k:KL)(i:Nat)(l:LwQ)(h:Hp):lpK clr h0 I k (.exit i) l h=k (.exit i) l h:=rfl
@[simp]theorem agZ(clr:LnQ)(h0:Hp)(I:LwQ->Hp->Prop)(k:KL)(l:LwQ)(h:Hp):lpK clr h0 I k .ret l h=k .ret l h:=rfl
theorem HA:∀l:LwQ,dT [] l=true:=by
 intro l
 have key:∀x:V,kH [] x=true:=by
  intro x
  induction x using V.rec (motive_2:=fun l=>dT [] l=true)with
  |agg l ih=>trivial
  |tup l ih=>trivial
  |fn g a b iha ihb=>grind[kH]
  |ifc t x ih=>trivial
  |nil=>rfl
  |cons x l ih ihl=>grind[dT]
  |_=>rfl
 induction l with
 |nil=>rfl
 |cons x l ih=>grind[dT]
theorem z8:∀(h:Hp)(i:Nat),qk [] i h=true
 |[],_=>rfl
 | (_,b)::h,i=>by
  simp only[qk,z8 h,Y4,Yg,Y9];right;cases b<;>simp[offB,HA]
@[simp]theorem clean_nil(l:LwQ)(h:Hp):clean [] l h=true:=by simp[clean,HA,z8]
theorem Hs:∀(i:Nat)(h0 h:Hp),h.length=h0.length->au [] i h0 h=h
 |_,[],h,_=>by cases h<;>rfl
 |_,_::_,[],_=>rfl
 | i,(e0,b0)::h0,(e,b)::h,hl=>by
  simp only[au,dw,if_true];rw[Hs (i+1) h0 h (by grind)]
theorem wrap_i64(h : -9223372036854775808<=n∧n<=9223372036854775807):IntKind.wrap .i64 n=n:=by
 have e1:(2:Int)^64=18446744073709551616:=ae;have e2:(2:Int)^(64-1)=9223372036854775808:=ae
 grind[IntKind.wrap,IntKind.bits,IntKind.signed]
theorem Nk(hk:k.signed=false)(h:0<=n∧n<2^k.bits):k.wrap n=n:=by grind[IntKind.wrap,Int.emod_eq_of_lt]
theorem wrap_u64(h:0<=n∧n<18446744073709551616):IntKind.wrap .u64 n=n:=Nk rfl h
theorem wrap_u32(h:0<=n∧n<4294967296):IntKind.wrap .u32 n=n:=Nk rfl h
theorem GY(n:Int):IntKind.wrap .u64 n=n%18446744073709551616:=by rfl
@[simp]theorem ahl(k:IntKind)(a b:Int):biI .lss (.d (.int k a)) (.d (.int k b))=some (.d (.bool (decide (a<b)))):=by simp[biI,ib,mr,jp]
@[simp]theorem ahm(k:IntKind)(a b:Int):biI .leq (.d (.int k a)) (.d (.int k b))=some (.d (.bool (decide (a<=b)))):=by simp[biI,ib,mr,jp]
@[simp]theorem ahn(k:IntKind)(a b:Int):biI .gtr (.d (.int k a)) (.d (.int k b))=some (.d (.bool (decide (b<a)))):=by simp[biI,ib,mr,jp]
@[simp]theorem aho(k:IntKind)(a b:Int):biI .geq (.d (.int k a)) (.d (.int k b))=some (.d (.bool (decide (b<=a)))):=by simp[biI,ib,mr,jp]
@[simp]theorem ahp(k:IntKind)(a b:Int):biI .eql (.d (.int k a)) (.d (.int k b))=some (.d (.bool (decide (a=b)))):=by simp[biI,ib,mr,jp];rfl
@[simp]theorem ahk(k:IntKind)(a b:Int):biI .neq (.d (.int k a)) (.d (.int k b))=some (.d (.bool (decide (a≠b)))):=by simp[biI,ib,mr,jp];rfl
theorem x9(k:IntKind)(a b:Int):biI .add (.d (.int k a)) (.d (.int k b))=some (.d (.int k (k.wrap (a+b)))):=by simp[biI,ib,mr,jp]
theorem rT(k:IntKind)(a b:Int):biI .sub (.d (.int k a)) (.d (.int k b))=some (.d (.int k (k.wrap (a-b)))):=by simp[biI,ib,mr,jp]
theorem vJ(k:IntKind)(a b:Int):biI .mul (.d (.int k a)) (.d (.int k b))=some (.d (.int k (k.wrap (a*b)))):=by simp[biI,ib,mr,jp]
theorem FW{a b:Int}(h : -9223372036854775808<=a+b∧a+b<=9223372036854775807):biI .add (I a) (I b)=some (I (a+b)):=by rw[x9,wrap_i64 h]
@[simp]theorem abo(k l:IntKind)(n:Int):cvI k (.d (.int l n))=some (.d (.int k (k.wrap n))):=rfl
@[simp]theorem ahr(a b:Bool):biB .eql (.d (.bool a)) (.d (.bool b))=some (.d (.bool (a == b))):=rfl
@[simp]theorem ahq(a b:Bool):biB .neq (.d (.bool a)) (.d (.bool b))=some (.d (.bool (a !=b))):=rfl
@[simp]theorem agG(b:Bool):unV .not (.d (.bool b))=some (.d (.bool (!b))):=rfl
def lst{α:Type}(f:α->D)(l:List α):V:=.d (.sl l.length (l.map f))
section
variable{α:Type}(f:α->D)(l:List α)
@[simp]theorem afV:bj (lst f l)=some (I l.length):=rfl
theorem aJ(h:Hp)(hj:i=j)(hl:j<l.length):ixV h 1 (lst f l) (.d (.int k i))=some (.dptr (l.map f) j):=by subst hj;simp only[ixV,lst];rw[if_pos ⟨aa,aa,af⟩];simp
theorem ad7(h:Hp)(hl:j<l.length):ld1 h (.dptr (l.map f) j)=some (.d (f l[j])):=by simp[ld1,hl]
end
section
variable{α:Type}(f:α->D)(l:List α)
theorem FS(d top:Nat):boV d top none=some d:=rfl
theorem xz{d top:Nat}(hi:i=j)(hj:j<=top):boV d top (some (.d (.int k i)))=some j:=by subst hi;simp only[boV];rw[if_pos ⟨aa,aa⟩];simp
theorem Tm{h:Hp}{lo hi:Option V}{i:Nat}(h0:0<l.length)(hj:boV l.length l.length hi=some j)(hi2:boV 0 j lo=some i)(hij:i<=j)(hjl:j<=l.length):slV h 1 (lst f l) lo hi=some (lst f ((l.drop i).take (j-i))):=by simp only[slV,lst,hj,hi2];rw[if_pos ⟨af,h0⟩];simp only[Yc,List.map_take,List.map_drop,Zr,Yo];rw[Yv aa]
theorem afx{h:Hp}(h0:0<l.length)(hi:i=j)(hj:j<=l.length):slV h 1 (lst f l) none (some (I i))=some (lst f (l.take j)):=by rw[Tm f l h0 (xz hi hj) (FS 0 j) (Yl _) hj];simp
theorem afw{h:Hp}(h0:0<l.length)(hi:i=j)(hj:j<=l.length):slV h 1 (lst f l) (some (I i)) none=some (lst f (l.drop j)):=by rw[Tm f l h0 (FS _ _) (xz hi hj) hj (Z7 _)];rw[Z6 af]
end
@[simp]theorem ahG(h:Hp)(x:D):bJ h (.d x)=some (.d (norm x),h):=by rfl
@[simp]theorem afO(k:IntKind)(n:Int):norm (.int k n)=.int k n:=rfl
@[simp]theorem aeW(b:Bool):norm (.bool b)=.bool b:=rfl
@[simp]theorem afK(s:LuQ):norm (.str s)=.str s:=rfl
@[simp]theorem agW(n:Nat)(l:LdQ):norm (.sl n l)=.sl n l:=rfl
@[simp]theorem afN:norm (.pl (.slice none 0 0))=.sl 0 []:=rfl
@[simp]theorem Ek{α:Type}(h:Hp)(f:α->D)(l:List α):bJ h (lst f l)=some (lst f l,h):=by rfl
@[simp]theorem aeQ(h:Hp):aS h []=some ([],h):=by rfl
theorem mT{h h1 h2:Hp}{x:V}{l:LwQ}(e1:bJ h v=some (x,h1))(e2:aS h1 l=some (xs,h2)):aS h (v::l)=some (x::xs,h2):=by grind[aS]
theorem pT{D:qz}{h h':Hp}{f:FuncId}{args:LwQ}{v:V}{s:Nat}{k:kkQ}(hc:D f args h v h')(hk:k v h')(hn:∀n cells ex len cap,v≠.new n cells ex len cap)(hn2:∀n,v≠.cut n:=by simp)(hn3:∀n cells ex len cap y,v≠.tup [.new n cells ex len cap,.d y]:=by intro _ _ _ _ _ _ h;cases h)
  (hn4:∀n cells ex len cap,v≠.tup [.new n cells ex len cap]:=by intro _ _ _ _ _ h;cases h) (hn5:∀n cells ex len cap y,v≠.tup [.tup [.new n cells ex len cap],.d y]:=by intro _ _ _ _ _ _ h;cases h):cai D h (.fn f [] []) args s k:=by grind[cai]
theorem XT{h h':Hp}{f:FuncId}{args:LwQ}{cells:LdQ}{y:D}{s e:Nat}{b:Bk}{k:kkQ}{DD:qz}(hc:DD f args h (.tup [.tup [.new 1 cells true 0 0],.d y]) h')(hs:h'[s]?=some (e,b))
  (hk:k (.tup [.ptr s (e+1) 0 cells.length,.d y]) (h'.set s (e+1,.vars (cells.map .d)))):cai DD h (.fn f [] []) args s k:=by grind[cai,new]
theorem MU{h h':Hp}{f:FuncId}{args:LwQ}{n len cap:Nat}{cells:LdQ}{y:D}{s e:Nat}{b:Bk}{ex:Bool}{k:kkQ}{DD:qz}(hc:DD f args h (.tup [.new n cells ex len cap,.d y]) h')(hs:h'[s]?=some (e,b))
  (hk:k (.tup [.ref s (e+1) 0 len cap cells.length,.d y]) (h'.set s (e+1,.data n cells ex false))):cai DD h (.fn f [] []) args s k:=by grind[cai,new]
theorem fe{h h':Hp}{f:FuncId}{args:LwQ}{n len cap:Nat}{cells:LdQ}{s e:Nat}{b:Bk}{ex:Bool}{k:kkQ}{DD:qz}(hc:DD f args h (.new n cells ex len cap) h')(hs:h'[s]?=some (e,b))
  (hk:k (.ref s (e+1) 0 len cap cells.length) (h'.set s (e+1,.data n cells ex false))):cai DD h (.fn f [] []) args s k:=by grind[cai,new]
theorem OQ{h h':Hp}{f:FuncId}{k:kkQ}(hs:aS h args=some (ds,h'))(hc:C f ds v)(hk:k v (if fN v then h else h')):cal C h (.fn f [] []) args k:=by grind[cal]
theorem agp{h:Hp}{f:FuncId}{k:kkQ}(hc:C f args v)(hs:aS h args=some (args,h))(hk:k v h):cal C h (.fn f [] []) args k:=
 OQ hs hc (by grind)
theorem UE{x:D}{h:Hp}(hx:norm x=x):out (.d x) (.d x) h:=⟨h,by simp[hx]⟩
theorem aav{α:Type}(f:α->D)(l:List α)(h:Hp):out (lst f l) (lst f l) h:=⟨h,af⟩
@[simp]theorem agU(k:IntKind)(n:Int)(h:Hp):out (.d (.int k n)) (.d (.int k n)) h:=UE rfl
@[simp]theorem UF(b:Bool)(h:Hp):out (.d (.bool b)) (.d (.bool b)) h:=UE rfl
theorem Ew{l:IntKind}(hb:b<=k.bits):biI .shr (.d (.int k a)) (.d (.int l b))=some (.d (.int k ((a/2^b:Nat):Int))):=by
 have h1:¬((b:Int)<0):=aa
 grind[biI,ib,mr,jp]
theorem yd(h:a+b<18446744073709551616):biI .add (.d (.int .u64 a)) (.d (.int .u64 b))=some (.d (.int .u64 ((a+b:Nat):Int))):=by rw[x9,wrap_u64 aa];simp
theorem Dy(h:a*b<18446744073709551616):biI .mul (.d (.int .u64 a)) (.d (.int .u64 b))=some (.d (.int .u64 ((a*b:Nat):Int))):=by grind[vJ,wrap_u64]
theorem aex(h:a<18446744073709551616):cvI .u64 (.d (.int k a))=some (.d (.int .u64 a)):=by rw[abo,wrap_u64 aa]
theorem addN(h:a+b<=9223372036854775807):biI .add (I a) (I b)=some (I ((a+b:Nat):Int)):=by rw[FW aa];simp
theorem wE(h:a+1<=9223372036854775807):biI .add (I a) (I 1)=some (I ((a+1:Nat):Int)):=addN h
section
variable{α:Type}{f:α->D}{l:List α}{h:Hp}{s e:Nat}{ex fr:Bool}
end
end Go.Vm
namespace Go.Big
variable{l b o:LnQ}{i a x n k m:Nat}
def val(B:Nat):LnQ->Nat
 |[]=>0
 |x::l=>x+B*val B l
def iN:LnQ->LnQ
 |[]=>[]
 | x::l=>match iN l with
  |[]=>if x=0 then[]else[x]
  |y::r=>x::y::r
def AO(B:Nat):Nat->Nat->LnQ
 |0,_=>[]
 |f+1,n=>if n=0 then[]else n%B::AO B f (n/B)
def dig(B n:Nat):LnQ:=AO B n n
def aH(B:Nat)(l:LnQ):Prop:=∀x∈l,x<B
section
variable{B:Nat}
theorem val_append(a b:LnQ):val B (a++b)=val B a+B^a.length*val B b:=by
 induction a with
 |nil=>simp[val]
 |cons x a ih=>grind[val]
theorem jE(hB:0<B)(h:aH B l):val B l<B^l.length:=by
 induction l with
 |nil=>simp[val]
 | cons x l ih=>
  have h1:=ih fun y hy=>h y (by grind)
  have h2:=h x af;simp only[val,List.length_cons,Nat.pow_succ];have:B*(val B l+1)<=B*B^l.length:=Zw B h1
  grind
theorem aH.take{l:LnQ}(h:aH B l)(n:Nat):aH B (l.take n):=fun x hx=>h x (List.mem_of_mem_take hx)
theorem aH.drop{l:LnQ}(h:aH B l)(n:Nat):aH B (l.drop n):=fun x hx=>h x (List.mem_of_mem_drop hx)
theorem aH.get(h:aH B l)(hi:i<l.length):l[i]<B:=h _ (Wj hi)
theorem aH.append{a:LnQ}(ha:aH B a)(hb:aH B b):aH B (a++b):=fun x hx=>by
 rcases W4.1 hx with h|h
 .exact ha x h
 .exact hb x h
theorem Q1(l:LnQ):val B (iN l)=val B l:=by
 induction l with
 |nil=>rfl
 | cons x l ih=>
  grind[iN,val]
theorem Kw(h:aH B l):aH B (iN l):=by
 induction l with
 |nil=>exact h
 | cons x l ih=>
  have h1:=ih fun y hy=>h y (by grind)
  have hx:=h x af;unfold iN;split
  .split
   .grind
   .intro y hy;grind
  .rename_i y r he;rw[he]at h1;intro z hz;rcases Zo.1 hz with rfl|hz
   .exact hx
   .exact h1 z hz
def A8(l:LnQ):Prop:=∀h:l≠[],l.getLast h≠0
theorem Nr(l:LnQ):A8 (iN l):=by
 induction l with
 |nil=>intro h;trivial
 | cons x l ih=>
  unfold iN;split
  .split
   .grind
   .rename_i hx;intro h;trivial
  .rename_i y r he;rw[he]at ih;intro h;rw[List.getLast_cons af];exact ih af
theorem Gc(h:A8 l):iN l=l:=by
 induction l with
 |nil=>rfl
 | cons x l ih=>
  unfold iN;cases l with
  | nil=>
   have:=h af
   grind[iN]
  | cons y r=>
   have:A8 (y::r):=fun hh=>by have:=h af;rwa [List.getLast_cons af]at this
   grind
theorem qW(l:LnQ):iN (l++[0])=iN l:=by
 induction l with
 |nil=>rfl
 |cons x l ih=>grind[iN]
theorem yG(h:x≠0):iN (l++[x])=l++[x]:=Gc fun _=>by grind
theorem DN(hB:2<=B):∀(f n:Nat),n<=f->val B (AO B f n)=n∧aH B (AO B f n)∧A8 (AO B f n)
 | 0,n,h=>by
  have:n=0:=aa;subst this;exact⟨rfl,fun x hx=>by trivial,fun hx=>absurd rfl hx⟩
 | f+1,n,h=>by
  unfold AO;split
  .rename_i h0;subst h0;exact⟨rfl,fun x hx=>by simp at hx,fun hx=>absurd rfl hx⟩
  .rename_i h0;have hlt:n/B<n:=Nat.div_lt_self aa aa;obtain⟨h1,h2,h3⟩:=DN hB f (n/B) aa;refine⟨?_,?_,?_⟩
   .grind[val,Xk]
   .intro x hx;rcases Zo.1 hx with rfl|hx
    .exact Y7 _ aa
    .exact h2 x hx
   .intro hne;by_cases hd:AO B f (n/B)=[]
    .simp only[hd];rw[hd]at h1;simp only[val]at h1
     have:n<B:=by
      rcases Zi n B with h|h
      .exact h
      .have:=V4 h (by omega:0<B);omega
     grind[Yk]
    .rw[List.getLast_cons hd];exact h3 hd
theorem iS(hB:2<=B)(n:Nat):val B (dig B n)=n:=(DN hB n n (Z7 n)).1
theorem cJ(hB:2<=B)(n:Nat):aH B (dig B n):=(DN hB n n (Z7 n)).2.1
theorem FD(hB:2<=B)(n:Nat):A8 (dig B n):=(DN hB n n (Z7 n)).2.2
theorem xh(h:A8 l)(hl:l≠[])(hB:0<B):val B l≠0:=by
 induction l with
 |nil=>trivial
 | cons x l ih=>
  cases l with
  |nil=>have:=h af;trivial
  | cons y r=>
   have hn:A8 (y::r):=fun hh=>by have:=h af;rwa [List.getLast_cons af]at this
   have:=ih hn af;simp only[val]at this ⊢;have:=Yx hB (Nat.pos_of_ne_zero this);omega
theorem LD(hB:0<B):∀{a b:LnQ},aH B a->aH B b->A8 a->A8 b->val B a=val B b->a=b
 |[],[],_,_,_,_,_=>rfl
 |[],y::b,_,_,_,hb,h=>absurd h.symm (xh hb af hB)
 |x::a,[],_,_,ha,_,h=>absurd h (xh ha af hB)
 | x::a,y::b,sa,sb,na,nb,h=>by
  have hx:=sa x af;have hy:=sb y af;simp only[val]at h
  have e1:x=y:=by
   have:=congrArg (· % B) h;simpa[Xu,Yk hx,Yk hy]using this
  subst e1;have e2:val B a=val B b:=Xv hB aa;have tl:∀{l:LnQ}{x:Nat},A8 (x::l)->A8 l:=fun{l x} h hl=>by have:=h af;grind
  rw[LD hB (fun z hz=>sa z (by grind)) (fun z hz=>sb z (by grind)) (tl na) (tl nb) e2]
theorem rR(hB:2<=B)(h:aH B l):dig B (val B l)=iN l:=
 LD aa (cJ hB _) (Kw h) (FD hB _) (Nr l) (by rw[iS hB,Q1])
theorem pN(hB:2<=B):(dig B n).length<=k↔n<B^k:=by
 have hv:=iS hB n;have hs:=jE aa (cJ hB n);rw[hv]at hs;constructor
 .intro h;exact Z1 hs (Z4 aa h)
 .intro h;rcases Zi k (dig B n).length with hk|hk
  .exfalso;have hne:dig B n≠[]:=by intro e;rw[e]at hk;simp at hk
   have hdrop:val B ((dig B n).drop k)≠0:=by
    refine xh ?_ (by grind[List.drop_eq_nil_iff]) aa;intro hd;rw[List.getLast_drop];exact FD hB n hne
   have:=val_append (B:=B) ((dig B n).take k) ((dig B n).drop k);rw[Yi,hv,Zr,Yv aa]at this;have:=Zw (B^k) (Nat.pos_of_ne_zero hdrop);omega
  omega
def N5(a b:LnQ):Nat->Int
 |0=>0
 |i+1=>if a.getD i 0<b.getD i 0 then -1 else if b.getD i 0<a.getD i 0 then 1 else N5 a b i
def cmp(a b:Nat):Int:=if a<b then -1 else if b<a then 1 else 0
theorem PV(hB:0<B){a b:LnQ}(ha:aH B a)(hb:aH B b):∀i,i<=a.length->i<=b.length->N5 a b i=cmp (val B (a.take i)) (val B (b.take i))
 |0,_,_=>by rfl
 | i+1,h1,h2=>by
  have e:∀(l:LnQ)(h:i<l.length),val B (l.take (i+1))=val B (l.take i)+B^i*l[i]:=fun l h=>by
   rw[Xp,val_append,Zr,Yv aa]
   grind[val]
  have la:=jE hB (ha.take i);have lb:=jE hB (hb.take i);rw[Zr,Yv aa]at la lb;rw[N5,e a aa,e b aa,PV hB ha hb i aa aa];have ga:a.getD i 0=a[i]:=by simp[show i<a.length by omega]
  have gb:b.getD i 0=b[i]:=by simp[show i<b.length by omega]
  rw[ga,gb];generalize a[i]=x,b[i]=y at *;unfold cmp;rcases Nat.lt_trichotomy x y with h|h|h
  .rw[if_pos h];have:B^i*(x+1)<=B^i*y:=Zw _ h;rw[Zq]at this;rw[if_pos aa]
  .grind
  .rw[if_neg aa,if_pos h];have:B^i*(y+1)<=B^i*x:=Zw _ h;rw[Zq]at this;rw[if_neg aa,if_pos aa]
theorem JL(hB:2<=B)(h:(dig B m).length<(dig B n).length):m<n:=by
 have h1:m<B^(dig B m).length:=(pN hB).1 (Z7 _);rcases Zi n (B^(dig B m).length)with h2|h2
 .have:=(pN hB).2 h2;omega
 .omega
theorem qC(l:LnQ)(i:Nat):val B (l.drop i)=l.getD i 0+B*val B (l.drop (i+1)):=by
 by_cases h:i<l.length
 .grind[Z0,val]
 .rw[Zb aa,Zb aa];simp[val,List.getElem?_eq_none (by omega:l.length<=i)]
theorem aH.getD{l:LnQ}(h:aH B l)(hB:0<B)(i:Nat):l.getD i 0<B:=by
 by_cases hi:i<l.length
 .simp_all[get]
 .simp[List.getElem?_eq_none (by omega:l.length<=i),hB]
theorem Kn(l:LnQ)(x:Nat):val B (l++[x])=val B l+B^l.length*x:=by simp[val_append,val]
theorem oW(n:Nat):val B (List.replicate n 0)=0:=by
 induction n with
 |zero=>rfl
 |succ n ih=>grind[val]
theorem aH.snoc(h:aH B l)(hx:x<B):aH B (l++[x]):=h.append fun y hy=>by grind
end
theorem MC{b:Nat}(hb:0<b)(h:b*2^n<=a):a/b=2^n+(a-b*2^n)/b∧a%b=(a-b*2^n)%b:=by obtain⟨c,rfl⟩:∃c,a=c+b*2^n:=⟨a-b*2^n,aa⟩;rw[Yd,Yr _ _ hb,Xu];exact⟨aa,rfl⟩
def CU(w:Nat):Nat->Nat->Nat->Nat->Option Nat
 |0,_,_,out=>some out
 | n+1,low,high,out=>
  if 2^(w+1)<=low*low/2^w then CU w n (low*low/2^w/2) (((if high*high/2^w*2^w=high*high then high*high/2^w else high*high/2^w+1)+1)/2) (out*2+1)
  else if 2^(w+1)<=(if high*high/2^w*2^w=high*high then high*high/2^w else high*high/2^w+1)then none
  else CU w n (low*low/2^w) (if high*high/2^w*2^w=high*high then high*high/2^w else high*high/2^w+1) (out*2)
theorem xC{B:Nat}:∀(l:LnQ)(j x:Nat),j<l.length->val B (l.set j x)+B^j*l.getD j 0=val B l+B^j*x
 |[],j,x,h=>by simp at h
 |y::l,0,x,h=>by simp[val];omega
 | y::l,j+1,x,h=>by
  have:=xC (B:=B) l j x (by simpa using h);simp only[List.set_cons_succ,val,List.getD_cons_succ,Nat.pow_succ];rw[Zt (B^j) B,Nat.mul_assoc,Nat.mul_assoc];generalize val B (l.set j x)=p at *;generalize B^j*l.getD j 0=q at *;generalize B^j*x=r at *;have h2:B*(p+q)=B*(val B l+r):=by rw[this]
  rw[Zq,Zq]at h2;omega
theorem aH.set{B:Nat}{l:LnQ}(h:aH B l){j x:Nat}(hx:x<B):aH B (l.set j x):=by
 intro y hy;rcases Yq hy with h1|h1
 .exact h y h1
 .subst h1;exact hx
theorem yz{B:Nat}(l:LnQ)(h:i<l.length):val B (l.take (i+1))=val B (l.take i)+B^i*l.getD i 0:=by rw[Xp,val_append,Zr,Yv aa];simp[List.getElem?_eq_getElem h,val]
theorem UX{B:Nat}{j c y v:Nat}(hj:j<o.length):
  val B (o.set j ((c+o.getD j 0+a*y)%B))+B^(j+1)*((c+o.getD j 0+a*y)/B+a*v)=val B o+B^j*(c+a*(y+B*v)):=by
 have h:=xC (B:=B) o j ((c+o.getD j 0+a*y)%B) hj;generalize val B (o.set j ((c+o.getD j 0+a*y)%B))=p at *;generalize o.getD j 0=w at *;have hd:=Xk (c+w+a*y) B;generalize(c+w+a*y)%B=r at *;generalize(c+w+a*y)/B=d at *;generalize val B o=q at *;generalize hP:B^j=P at *;rw[Nat.pow_succ,hP,Nat.mul_assoc]
 have e1:P*(B*(d+a*v))+P*r=P*(c+w+a*y)+P*(a*(B*v)):=by
  rw[<-Zq,<-Zq,<-hd,Zq B,Y1 a B v];congr 1;omega
 have e2:P*(c+a*(y+B*v))+P*w=P*(c+w+a*y)+P*(a*(B*v)):=by
  rw[<-Zq,<-Zq,Zq a];congr 1;omega
 omega
end Go.Big
namespace Go.Vm
open Go Go.Am
abbrev ak:TyI:=⟨.f,1,8,[.pl .nilFunc],false⟩
abbrev lN:TyI:=⟨.o,1,0,[],false⟩
abbrev EG:TyI:=⟨.p,1,8,[.pl (.pointer none)],false⟩
abbrev Pz:TyI:=⟨.i .i64,1,8,[.int .i64 0],false⟩
abbrev Py:TyI:=⟨.i .u8,1,1,[.int .u8 0],false⟩
abbrev Px:TyI:=⟨.s,1,16,[.str []],false⟩
abbrev Pw:TyI:=⟨.st [(0,1),(1,1),(2,1)],3,72,[.pl (.slice none 0 0),.pl (.slice none 0 0),.pl (.slice none 0 0)],false⟩
abbrev TP:TyI:=⟨.i .u64,1,8,[.int .u64 0],false⟩
abbrev TO:TyI:=⟨.it,1,16,[.pl .nilIface],false⟩
abbrev TN:TyI:=⟨.i .i32,1,4,[.int .i32 0],false⟩
abbrev NS:TyI:=⟨.sl 3,1,24,[.pl (.slice none 0 0)],false⟩
abbrev T5:TyI:=⟨.st [(0,1),(1,1),(2,1),(3,1)],4,24,[.int .i64 0,.int .i64 0,.bool false,.int .u8 0],false⟩
abbrev T4:TyI:=⟨.st [(0,1),(1,1)],2,24,[.str [],.int .u64 0],false⟩
abbrev T2:TyI:=⟨.st [(0,1)],1,8,[.pl (.pointer none)],false⟩
abbrev T1:TyI:=⟨.st [(0,1),(1,5),(6,45),(51,16),(67,1)],68,68,[.int .u8 0,.int .u8 0,.int .u8 0,.int .u8 0,.int .u8 0,.int .u8 0,.int .i8 0,.int .i8 0,.int .i8 0,.int .i8 0,.int .i8 0,.int .i8 0,.int .i8 0,.int .i8 0,.int .i8 0,.int .i8 0,.int .i8 0,.int .i8 0,.int .i8 0,.int .i8 0,.int .i8 0,.int .i8 0,.int .i8 0,.int .i8 0,.int .i8 0,.int .i8 0,.int .i8 0,.int .i8 0,.int .i8 0,.int .i8 0,.int .i8 0,.int .i8 0,.int .i8 0,.int .i8 0,.int .i8 0,.int .i8 0,.int .i8 0,.int .i8 0,.int .i8 0,.int .i8 0,.int .i8 0,.int .i8 0,.int .i8 0,.int .i8 0,.int .i8 0,.int .i8 0,.int .i8 0,.int .i8 0,.int .i8 0,.int .i8 0,.int .i8 0,.int .u8 0,.int .u8 0,.int .u8 0,.int .u8 0,.int .u8 0,.int .u8 0,.int .u8 0,.int .u8 0,.int .u8 0,.int .u8 0,.int .u8 0,.int .u8 0,.int .u8 0,.int .u8 0,.int .u8 0,.int .u8 0,.int .u8 0],false⟩
abbrev TZ:TyI:=⟨.st [(0,68),(68,5),(73,45),(118,2)],120,120,[.int .u8 0,.int .u8 0,.int .u8 0,.int .u8 0,.int .u8 0,.int .u8 0,.int .i8 0,.int .i8 0,.int .i8 0,.int .i8 0,.int .i8 0,.int .i8 0,.int .i8 0,.int .i8 0,.int .i8 0,.int .i8 0,.int .i8 0,.int .i8 0,.int .i8 0,.int .i8 0,.int .i8 0,.int .i8 0,.int .i8 0,.int .i8 0,.int .i8 0,.int .i8 0,.int .i8 0,.int .i8 0,.int .i8 0,.int .i8 0,.int .i8 0,.int .i8 0,.int .i8 0,.int .i8 0,.int .i8 0,.int .i8 0,.int .i8 0,.int .i8 0,.int .i8 0,.int .i8 0,.int .i8 0,.int .i8 0,.int .i8 0,.int .i8 0,.int .i8 0,.int .i8 0,.int .i8 0,.int .i8 0,.int .i8 0,.int .i8 0,.int .i8 0,.int .u8 0,.int .u8 0,.int .u8 0,.int .u8 0,.int .u8 0,.int .u8 0,.int .u8 0,.int .u8 0,.int .u8 0,.int .u8 0,.int .u8 0,.int .u8 0,.int .u8 0,.int .u8 0,.int .u8 0,.int .u8 0,.int .u8 0,.int .u8 0,.int .u8 0,.int .u8 0,.int .u8 0,.int .u8 0,.int .i8 0,.int .i8 0,.int .i8 0,.int .i8 0,.int .i8 0,.int .i8 0,.int .i8 0,.int .i8 0,.int .i8 0,.int .i8 0,.int .i8 0,.int .i8 0,.int .i8 0,.int .i8 0,.int .i8 0,.int .i8 0,.int .i8 0,.int .i8 0,.int .i8 0,.int .i8 0,.int .i8 0,.int .i8 0,.int .i8 0,.int .i8 0,.int .i8 0,.int .i8 0,.int .i8 0,.int .i8 0,.int .i8 0,.int .i8 0,.int .i8 0,.int .i8 0,.int .i8 0,.int .i8 0,.int .i8 0,.int .i8 0,.int .i8 0,.int .i8 0,.int .i8 0,.int .i8 0,.int .i8 0,.int .i8 0,.int .i8 0,.int .i8 0,.int .i8 0,.int .i8 0,.int .u8 0],false⟩
abbrev TY:TyI:=⟨.st [(0,3),(3,1),(4,2)],6,128,[.pl (.slice none 0 0),.pl (.slice none 0 0),.pl (.slice none 0 0),.pl (.slice none 0 0),.str [],.str []],false⟩
abbrev TX:TyI:=⟨.sl 45,1,24,[.pl (.slice none 0 0)],false⟩
abbrev TW:TyI:=⟨.st [(0,1),(1,1),(2,1)],3,40,[.int .i64 0,.int .i64 0,.pl (.slice none 0 0)],false⟩
abbrev TU:TyI:=⟨.st [(0,1),(1,1),(2,1)],3,64,[.pl (.slice none 0 0),.pl (.slice none 0 0),.str []],false⟩
abbrev TT:TyI:=⟨.sl 180,1,24,[.pl (.slice none 0 0)],false⟩
abbrev TS:TyI:=⟨.st [(0,1),(1,1),(2,1)],3,48,[.str [],.str [],.pl .nilIface],false⟩
abbrev TR:TyI:=⟨.st [(0,1),(1,1),(2,1),(3,1)],4,40,[.pl (.pointer none),.pl (.pointer none),.pl (.pointer none),.str []],false⟩
abbrev TQ:TyI:=⟨.st [(0,1),(1,1),(2,1),(3,1),(4,1),(5,1),(6,1),(7,1),(8,1),(9,1),(10,1)],11,48,[.int .u64 0,.int .u64 0,.int .u32 0,.int .u8 0,.int .u8 0,.int .u8 0,.int .u8 0,.pl .nilFunc,.pl (.pointer none),.int .i32 0,.int .i32 0],false⟩
abbrev slQ(n:Nat):TyI:=⟨.sl n,1,24,[.pl (.slice none 0 0)],false⟩
def ahB:List TyI:=[
 lN,ak,Pz,Pz,⟨.b,1,1,[.bool false],false⟩,Py,Py,T5,T5,Px,Px,Px,TP,T4,T4,EG]
def ahA:List TyI:=[
 EG,EG,T2,T2,TO,TN,⟨.ar 5 5,5,5,[.int .u8 0,.int .u8 0,.int .u8 0,.int .u8 0,.int .u8 0],false⟩,⟨.i .i8,1,1,[.int .i8 0],false⟩,⟨.ar 3 23,3,3,[.int .i8 0,.int .i8 0,.int .i8 0],false⟩,⟨.ar 3 24,9,9,List.replicate 9 (.int .i8 0),false⟩,⟨.ar 5 25,45,45,List.replicate 45 (.int .i8 0),false⟩,⟨.ar 2 5,2,2,[.int .u8 0,.int .u8 0],false⟩,⟨.ar 2 27,4,4,[.int .u8 0,.int .u8 0,.int .u8 0,.int .u8 0],false⟩,⟨.ar 4 28,16,16,List.replicate 16 (.int .u8 0),false⟩,T1,T1]
def ahz:List TyI:=[
 ⟨.st [(0,1),(1,1)],2,2,[.int .i8 0,.int .u8 0],false⟩,⟨.st [(0,1),(1,1)],2,2,[.int .i8 0,.int .u8 0],true⟩,TZ,TZ,ak,NS,NS,slQ 57,slQ 98,Pw,Pw,Px,⟨.st [(0,1),(1,1)],2,32,[.str [],.str []],false⟩,⟨.st [(0,1),(1,1)],2,32,[.str [],.str []],true⟩,TY,TY]
def ahy:List TyI:=[
 ak,slQ 59,Pz,lN,ak,TX,TX,lN,ak,slQ 77,ak,slQ 54,ak,ak,ak,⟨.st [(0,1),(1,1)],2,16,[.int .i64 0,.int .i64 0],false⟩]
def ahx:List TyI:=[
 ⟨.st [(0,1),(1,1)],2,16,[.int .i64 0,.int .i64 0],true⟩,lN,ak,ak,ak,ak,lN,ak,slQ 79,lN,ak,ak,ak,NS,TW,TW]
def ahw:List TyI:=[
 ak,ak,ak,ak,EG,lN,ak,ak,lN,ak,slQ 49,Pw,Pw,ak,ak,ak]
def ahv:List TyI:=[
 ak,ak,slQ 64,ak,ak,ak,lN,ak,ak,ak,lN,ak,ak,ak,ak,ak]
def ahu:List TyI:=[
 ak,ak,ak,ak,ak,ak,ak,ak,ak,ak,lN,ak,ak,ak,ak,ak]
def aht:List TyI:=[
 ak,slQ 43,TU,TU,ak,ak,ak,ak,ak,ak,ak,ak,ak,lN,ak,ak]
def ahs:List TyI:=[
 ak,ak,ak,ak,ak,ak,ak,ak,lN,ak,lN,ak,ak,lN,ak,ak]
def afo:List TyI:=[
 ak,lN,ak,ak,ak,ak,ak,ak,ak,ak,ak,ak,ak,ak,ak,ak]
def afn:List TyI:=[
 ak,ak,ak,ak,TP,TO,TO,lN,ak,lN,ak,TT,TT,ak,ak,ak]
def afm:List TyI:=[
 ak,ak,ak,ak,ak,ak,ak,ak,ak,ak,ak,ak,ak,ak,ak,TP]
def afl:List TyI:=[
 ak,ak,ak,ak,lN,ak,lN,ak,lN,ak,slQ 5,ak,ak,ak,lN,ak]
def afk:List TyI:=[
 ak,ak,Pz,lN,ak,EG,ak,ak,⟨.ar 24 5,24,24,List.replicate 24 (.int .u8 0),false⟩,ak,lN,ak,ak,lN,ak,ak]
def afj:List TyI:=[
 lN,ak,ak,TS,TS,ak,ak,ak,⟨.ar 20 180,20,160,List.replicate 20 (.int .u64 0),false⟩,⟨.i .u32,1,4,[.int .u32 0],false⟩,⟨.ar 65 5,65,65,List.replicate 65 (.int .u8 0),false⟩,ak,ak,ak,EG,EG]
def afi:List TyI:=[
 ⟨.st [(0,1)],1,16,[.str []],false⟩,⟨.st [(0,1)],1,16,[.str []],false⟩,⟨.ar 32 5,32,32,List.replicate 32 (.int .u8 0),false⟩,⟨.ar 64 5,64,64,List.replicate 64 (.int .u8 0),false⟩,ak,TR,TR,⟨.ar 0 16,0,0,[],false⟩,⟨.st [(0,0)],0,0,[],false⟩,⟨.st [(0,0)],0,0,[],false⟩,Py,Py,ak,TN,TN,TQ]
def afh:List TyI:=[
 TQ,⟨.o,1,8,[.pl (.pointer none)],false⟩]
def D6:List (List TyI):=[ahB,ahA,ahz,ahy,ahx,ahw,ahv,ahu,aht,ahs,afo,afn,afm,afl,afk,afj,afi,afh]
def aeH:LnQ:=[0,1,187,188,189,190,191,192,193,194,195,196,197,198,199,200,201,202,203,204,205,206,207,208,209,210,211,212]
def od:Nat:=2
namespace F
def dk:FuncId:=3
def fi:FuncId:=4
def iu:FuncId:=5
def ip:FuncId:=6
def gH:FuncId:=7
def gR:FuncId:=8
def jj:FuncId:=9
def fu:FuncId:=10
def ik:FuncId:=11
def gX:FuncId:=12
def fL:FuncId:=13
def fk:FuncId:=14
def jq:FuncId:=15
def jr:FuncId:=16
def bX:FuncId:=17
def ix:FuncId:=18
def iw:FuncId:=19
def nJ:FuncId:=20
def eJ:FuncId:=21
def fA:FuncId:=22
def gW:FuncId:=23
def bQ:FuncId:=24
def cE:FuncId:=25
def d8:FuncId:=26
def dG:FuncId:=27
def aM:FuncId:=28
def eE:FuncId:=29
def ef:FuncId:=30
def j9:FuncId:=31
def fS:FuncId:=32
def fK:FuncId:=33
def im:FuncId:=34
def kq:FuncId:=35
def nz:FuncId:=36
def fX:FuncId:=37
def gG:FuncId:=38
def du:FuncId:=39
def qi:FuncId:=40
def j8:FuncId:=41
def ij:FuncId:=42
def fM:FuncId:=43
def nh:FuncId:=44
def fP:FuncId:=45
def fR:FuncId:=46
def mH:FuncId:=47
def lU:FuncId:=48
def lF:FuncId:=49
def jJ:FuncId:=50
def aU:FuncId:=51
def bf:FuncId:=52
def oY:FuncId:=53
def qG:FuncId:=54
def ql:FuncId:=55
def eQ:FuncId:=56
def je:FuncId:=57
def bU:FuncId:=58
def bq:FuncId:=59
def dp:FuncId:=60
def cS:FuncId:=61
def gB:FuncId:=62
def lY:FuncId:=63
def jL:FuncId:=64
def nY:FuncId:=65
def gA:FuncId:=66
def eX:FuncId:=67
def xM:FuncId:=68
def jd:FuncId:=69
def aZ:FuncId:=70
def kt:FuncId:=71
def nI:FuncId:=72
def fG:FuncId:=73
def aR:FuncId:=74
def jf:FuncId:=75
def mS:FuncId:=76
def dE:FuncId:=77
def oU:FuncId:=78
def pf:FuncId:=79
def sG:FuncId:=80
def d7:FuncId:=81
def oD:FuncId:=82
def nu:FuncId:=83
def lZ:FuncId:=84
def bV:FuncId:=85
def o7:FuncId:=86
def gF:FuncId:=87
def strconv_Itoa:FuncId:=88
def qa:FuncId:=89
def cC:FuncId:=90
def bC:FuncId:=91
def cF:FuncId:=92
def ig:FuncId:=93
def ii:FuncId:=94
def jg:FuncId:=95
def jc:FuncId:=96
def mU:FuncId:=97
def qb:FuncId:=98
def gP:FuncId:=99
def iI:FuncId:=100
def uz:FuncId:=101
def sy:FuncId:=102
def oG:FuncId:=103
def bD:FuncId:=104
def kC:FuncId:=105
def rX:FuncId:=106
def nj:FuncId:=107
def cG:FuncId:=108
def qw:FuncId:=109
def xH:FuncId:=110
def sX:FuncId:=111
def aI:FuncId:=112
def iJ:FuncId:=113
def oX:FuncId:=114
def d9:FuncId:=115
def iM:FuncId:=116
def strconv_Atoi:FuncId:=117
def lh:FuncId:=118
def eW:FuncId:=119
def fU:FuncId:=120
def cW:FuncId:=121
def bw:FuncId:=122
def aP:FuncId:=123
def cL:FuncId:=124
def ay:FuncId:=125
def dC:FuncId:=126
def pi:FuncId:=127
def gy:FuncId:=128
def fJ:FuncId:=129
def sW:FuncId:=130
def nF:FuncId:=131
def nD:FuncId:=132
def iF:FuncId:=133
def sF:FuncId:=134
def sj:FuncId:=135
def aW:FuncId:=136
def aO:FuncId:=137
def ju:FuncId:=138
def kf:FuncId:=139
def gN:FuncId:=140
def ic:FuncId:=141
def CL:FuncId:=142
def dz:FuncId:=143
def cD:FuncId:=144
def cU:FuncId:=145
def dF:FuncId:=146
def jh:FuncId:=147
def bP:FuncId:=148
def oT:FuncId:=149
def sf:FuncId:=150
def dK:FuncId:=151
def lJ:FuncId:=152
def size_digits:FuncId:=153
def nE:FuncId:=154
def qJ:FuncId:=155
def oE:FuncId:=156
def bu:FuncId:=157
def eY:FuncId:=158
def dY:FuncId:=159
def za:FuncId:=160
def iK:FuncId:=165
def dy:FuncId:=166
def bN:FuncId:=167
def qP:FuncId:=168
def cj:FuncId:=169
def fH:FuncId:=170
def gM:FuncId:=171
def ku:FuncId:=172
def gC:FuncId:=173
def km:FuncId:=174
def gh:FuncId:=178
def gm:FuncId:=179
def vQ:FuncId:=182
end F
end Go.Vm
namespace Go.Vm
open Go Go.Am
noncomputable section
def ZL:List TyI->Nat->TyI
 |[],_=>⟨.o,0,0,[],false⟩
 |x::_,0=>x
 |_::l,n+1=>ZL l n
def Kz:List (List TyI)->Nat->List TyI
 |[],_=>[]
 |x::_,0=>x
 |_::l,n+1=>Kz l n
def pW:Nat->LuQ->Nat
 |a,[]=>a
 |a,c::l=>pW (a*10+(c.toNat-48)) l
def oN(c:UInt8):Bool:=Nat.ble 48 c.toNat&&Nat.ble c.toNat 57
def Lh:LvQ->Option Value
 |[.string s,.int .i64 a,.int .i64 b]=>if a=10∧b=64∧s.data.toList≠[]∧s.data.toList.all oN=true∧s.data.toList.length<=1000∧pW 0 s.data.toList<10000000000000000000 then some (.tuple #[.int .u64 (pW 0 s.data.toList),.nilIface])else none
 |_=>none
def PS:LvQ->Option Value
 | [.string s,.int .i64 a,.int .i64 b]=>if a=10∧b=64 then(match s.data.toList with
  |45::l=>if l≠[]∧l.all oN=true∧l.length<=1000∧pW 0 l<9223372036854775808 then some (.tuple #[.int .i64 (-(pW 0 l:Int)),.nilIface])else none
  |l=>if l≠[]∧l.all oN=true∧l.length<=1000∧pW 0 l<9223372036854775808 then some (.tuple #[.int .i64 (pW 0 l),.nilIface])else none)else none
 |_=>none
def On:Value->Bool
 |.slice ..=>true
 |_=>false
def J7(H:AH)(p q:Value):Option (List LvQ):=match nU H 1 p,nU H 1 q with
 |some (k,xs),some (k',ys)=>if k=k'∧xs.length=k∧ys.length=k∧k<4611686018427387904∧(On p&&On q)=true∧(xs.all fun v=>plain v&&okCell v)=true∧(ys.all fun v=>plain v&&okCell v)=true then some ((xs.zip ys).map fun x=>[x.1,x.2])else none
 |_,_=>none
def Ez(f:FuncId)(lb:LvQ)(H:AH):Option (List LvQ):=match Nat.beq f F.dK with
 | true=>match lb with
  | [.pointer (some ⟨b,o,none⟩)]=>match bF H b o 3 with
   |some [p,q,_]=>J7 H p q
   |_=>none
  |_=>none
 | false=>match Nat.beq f F.nD with
  | true=>match lb with
   | [.pointer (some ⟨b,o,none⟩),.pointer (some ⟨b',o',none⟩)]=>match bF H b o 1,bF H b' o' 1 with
    |some [p],some [q]=>J7 H p q
    |_,_=>none
   |_=>none
  |false=>none
def K4(f:FuncId)(lb:LvQ)(H:AH):LvQ:=match lb with
 |[.pointer (some ⟨b,o,none⟩)]=>(bF H b o 3).getD []
 |[.pointer (some ⟨b,o,none⟩),.pointer (some ⟨b',o',none⟩)]=>(bF H b o 1).getD []++(bF H b' o' 1).getD []
 |_=>[]
def lits:LdQ->Option LvQ
 |[]=>some []
 | x::l=>match x,lits l with
  |.int k n,some r=>some (.int k n::r)
  |.str s,some r=>some (.string ⟨⟨s⟩⟩::r)
  |_,_=>none
def slD:D->Option (Nat×LdQ)
 |.sl n l=>some (n,l)
 |.pl (.slice none 0 0)=>some (0,[])
 |_=>none
def J8(p q:D):Option (List LvQ):=match slD p,slD q with
 | some (k,l),some (k',m)=>match lits l,lits m with
  |some xs,some ys=>if k=k'∧xs.length=k∧ys.length=k∧k<4611686018427387904 then some ((xs.zip ys).map fun x=>[x.1,x.2])else none
  |_,_=>none
 |_,_=>none
def adE(f:FuncId)(cs:LwQ):Option (List LvQ):=match Nat.beq f F.dK with
 | true=>match cs with
  |[.dptr [p,q,_] 0]=>J8 p q
  |_=>none
 | false=>match Nat.beq f F.nD with
  | true=>match cs with
   |[.dptr [p] 0,.dptr [q] 0]=>J8 p q
   |_=>none
  |false=>none
def X:Cfg:={P:=Go.Proofs.Tryz.prog,allow:=dw aeH,glob:=fun g=>Nat.beq g od,orc:=fun f args=>(match Nat.beq f F.fH with
 |true=>Lh args
 | false=>match Nat.beq f F.gM with
  |true=>PS args
  |false=>none),seq:=Ez,seqK:=K4}
def Ll:LdQ:=[.int .u64 1,.int .u64 10,.int .u64 100,.int .u64 1000,.int .u64 10000,.int .u64 100000,.int .u64 1000000,.int .u64 10000000,.int .u64 100000000,.int .u64 1000000000,.int .u64 10000000000,.int .u64 100000000000,
 .int .u64 1000000000000,.int .u64 10000000000000,.int .u64 100000000000000,.int .u64 1000000000000000,.int .u64 10000000000000000,.int .u64 100000000000000000,.int .u64 1000000000000000000,.int .u64 10000000000000000000]
def Y:lG:={X:=X,ty:=fun t=>ZL (Kz D6 (t/16)) (t%16),glob:=fun g=>(match Nat.beq g od with
 |true=>some Ll
 |false=>none),seq:=adE}
end
end Go.Vm
set_option maxRecDepth 100000
namespace Go.Vm
open Go Go.Am
variable{x:Prop}{y w:Value}{P:Program}{t:TypeId}{d p:D}{z l:LdQ}{k k':kkQ}{a b f v0 c v:V}{h0 h:Hp}{T:kkQ->Prop}{s n m:Nat}{ps:List (Nat×V)}{dr:Bool}
def aer:Value->Value->Bool
 |.pointer none,.pointer none=>true
 |.slice none a b,.slice none c d=>a == c&&b == d
 |.nilFunc,.nilFunc=>true
 |.nilIface,.nilIface=>true
 |.map none,.map none=>true
 |.chan none,.chan none=>true
 |_,_=>false
theorem abe{x:Value}(h:aer x y=true):x=y:=by unfold aer at h;split at h<;>first|rfl|(simp at h;obtain⟨rfl,rfl⟩:=h;rfl)|cases h
def aes:D->D->Bool
 |.int k a,.int l b=>decide (k=l)&&decide (a=b)
 |.bool a,.bool b=>a == b
 |.str a,.str b=>a == b
 |.pl a,.pl b=>aer a b
 |_,_=>false
theorem abf{x y:D}(h:aes x y=true):x=y:=by
 unfold aes at h;split at h
 .simp at h;obtain⟨rfl,rfl⟩:=h;rfl
 .simp at h;subst h;rfl
 .simp at h;subst h;rfl
 .rw[abe h]
 .cases h
def WG:LdQ->LdQ->Bool
 |[],[]=>true
 |x::l,y::m=>aes x y&&WG l m
 |_,_=>false
theorem Qv:∀{l m:LdQ},WG l m=true->l=m
 |[],[],_=>rfl
 | x::l,y::m,h=>by
  simp only[WG,Z8]at h;rw[abf h.1,Qv h.2]
 |[],_::_,h=>by cases h
 |_::_,[],h=>by cases h
def VH(P:Program)(t:TypeId)(k:Ty):Bool:=match k with
 |.i k=>match P.underlying t with|some (.int k')=>decide (k'=k)|_=>false
 |.b=>match P.underlying t with|some .bool=>true|_=>false
 |.s=>match P.underlying t with|some .string=>true|_=>false
 |.p=>match P.underlying t with|some (.pointer _)=>true|_=>false
 |.f=>match P.underlying t with|some (.func ..)=>true|_=>false
 |.it=>match P.underlying t with|some (.interface _)=>true|_=>false
 |.sl e=>match P.underlying t with|some (.slice e')=>e' == e|_=>false
 |.ar n e=>match P.underlying t with|some (.array n' e')=>n' == n&&e' == e|_=>false
 |.st fs=>match P.underlying t with|some (.struct gs)=>decide (gs.toList.map (fun f=>(f.offset,szO P f.type))=fs.map fun p=>(p.1,some p.2))|_=>false
 |.o=>true
def Ol(P:Program)(t:TypeId):D->Bool
 |.int _ _=>match P.underlying t with|some (.int _)=>true|_=>false
 |.bool _=>match P.underlying t with|some .bool=>true|_=>false
 |.str _=>match P.underlying t with|some .string=>true|_=>false
 |_=>false
theorem R3(h:Ol P t d=true):Qm P t d:=by
 unfold Ol at h;split at h
 .split at h
  .rename_i hu;exact⟨_,hu⟩
  .cases h
 .split at h
  .rename_i hu;exact hu
  .cases h
 .split at h
  .rename_i hu;exact hu
  .cases h
 .cases h
def VZ(P:Program)(t:TypeId)(z:LdQ):Bool:=match P.underlying t with
 |some (.struct gs)=> !P.stoodInHeld t && !P.eqGuardType P.depth t&&decide (gs.size=z.length)&&(gs.toList.zipIdx.zip z).all fun x=>x.1.1.offset == x.1.2&&x.1.1.name != "_" && Ol P x.1.1.type x.2
 |_=>false
theorem VY(h:VZ P t z=true):J5 P t z:=by
 unfold VZ at h;split at h
 .rename_i gs hu;simp only[Z8,Y9,decide_eq_true_eq,Zv]at h;obtain⟨⟨⟨h1,h2⟩,h3⟩,h4⟩:=h;refine⟨gs,hu,h1,h2,h3,fun i f d hf hd=>?_⟩
  have:=h4 ((f,i),d) (by
   apply W0 (i:=i);rw[List.getElem?_zip_eq_some];exact⟨by rw[List.getElem?_zipIdx,hf];simp,hd⟩)
  simp only[beq_iff_eq,bne_iff_ne]at this;exact⟨this.1.1,this.1.2,R3 this.2⟩
 .cases h
def tyB(P:Program)(t:TypeId)(i:TyI):Bool:=(!i.eq||VZ P t i.z)&&match i.k with
 |.o=>true
 | k=>VH P t k&&decide (szO P t=some i.sz)&&decide (rD P t=some i.bytes)&&match iZ P t with
  |some z=>plain z&&z.cells.size == i.sz&&(z.cells.toList.all fun c=>plain c&&okCell c)&&WG (z.cells.toList.map jp) i.z
  |none=>false
theorem O7{i:TyI}(h:tyB P t i=true):FX P t i:=by
  unfold tyB at h;rw[Z8]at h;obtain⟨h0,h⟩:=h
  have heq:i.eq=true->J5 P t i.z:=fun e=>by
    rw[e]at h0;exact VY (by simpa using h0)
  by_cases hk:i.k = .o
  · exact⟨by rw[hk];trivial,fun h=>absurd hk h,fun h=>absurd hk h,fun h=>absurd hk h,heq⟩
  · have h2:VH P t i.k=true∧szO P t=some i.sz∧rD P t=some i.bytes∧(match iZ P t with
        |some z=>plain z&&z.cells.size == i.sz&&(z.cells.toList.all fun c=>plain c&&okCell c)&&WG (z.cells.toList.map jp) i.z
        |none=>false)=true:=by
      split at h
      · rename_i e;exact absurd e hk
      · simp only[Z8,decide_eq_true_eq]at h
        exact⟨h.1.1.1,h.1.1.2,h.1.2,h.2⟩
    obtain⟨h1,h2,h3,h4⟩:=h2;refine⟨?_,fun _=>h2,fun _=>h3,fun _=> ?_,heq⟩
    · unfold VH at h1
      cases hq:i.k<;>rw[hq]at h1<;>dsimp only at h1 ⊢
      all_goals first
        |trivial
        | (split at h1
           · rename_i hu
             first
               |(simp only[decide_eq_true_eq]at h1;subst h1;exact hu)
               |exact hu
               |exact⟨_,hu⟩
               |exact⟨_,_,_,hu⟩
               |(simp only[beq_iff_eq]at h1;subst h1;exact hu)
               |(simp only[Z8,beq_iff_eq]at h1;obtain⟨rfl,rfl⟩:=h1;exact hu)
               |(simp only[decide_eq_true_eq]at h1;exact⟨_,hu,h1⟩)
           · cases h1)
    · split at h4
      · rename_i z hz
        simp only[Z8,beq_iff_eq,Zv]at h4;refine⟨z,hz,h4.1.1.1,Qv h4.2,h4.1.1.2,fun c hc=> ?_⟩;have:=h4.1.2 c hc;exact this
      · cases h4
theorem Bh:∀(l:List (List TyI))(n:Nat),l.length<=n->Kz l n=[]
 |[],_,_=>rfl
 |_::_,0,h=>by simp at h
 |_::l,n+1,h=>Bh l n (by simpa using h)
theorem adq:(List.range (16*D6.length)).all (fun t=>tyB Y.X.P t (Y.ty t))=true:=bb
section
variable{F:Nat->Prop}{H:AH}
theorem Aj:∀{l:LdQ}{xs:LvQ},lits l=some xs->(∀v∈xs,okZ v)∧∀ws,RDs F H l ws->ws=xs
 | [],xs,h=>by
  simp only[lits,Z9]at h;subst h;exact⟨fun v hv=>(by cases hv),fun ws hw=>by simpa only[RDs]using hw⟩
 | x::l,xs,h=>by
  unfold lits at h;split at h
  .rename_i k n r hr;simp only[Z9]at h;subst h;obtain⟨q1,q2⟩:=Aj hr;refine⟨fun v hv=>?_,fun ws hw=>?_⟩
   .rcases Zo.1 hv with rfl|hv
    .exact⟨rfl,rfl⟩
    .exact q1 v hv
   .simp only[RDs,RD]at hw;obtain⟨v,us,rfl,rfl,h2⟩:=hw;rw[q2 us h2]
  .rename_i s r hr;simp only[Z9]at h;subst h;obtain⟨q1,q2⟩:=Aj hr;refine⟨fun v hv=>?_,fun ws hw=>?_⟩
   .rcases Zo.1 hv with rfl|hv
    .exact⟨rfl,rfl⟩
    .exact q1 v hv
   .simp only[RDs,RD]at hw;obtain⟨v,us,rfl,rfl,h2⟩:=hw;rw[q2 us h2]
  .cases h
theorem Tp{k:Nat}{xs:LvQ}(h:slD p=some (k,l))(hl:lits l=some xs)(hk:xs.length=k)(hw:RD F H p w):nU H 1 w=some (k,xs):=by
 obtain⟨q1,q2⟩:=Aj (F:=F) (H:=H) hl;unfold slD at h;split at h
 .rename_i n l';simp only[Z9,Z5]at h;obtain⟨rfl,rfl⟩:=h;simp only[RD]at hw;rcases hw with⟨rfl,rfl,h3⟩|⟨c,o,cap,vs,m,rfl,h1,h2,h3,h4,h5,h6,h7,h8⟩
  .simp only[lits,Z9]at hl;subst hl;rcases h3 with rfl|⟨c,o,cap,rfl,_⟩
   .rfl
   .simp[nU]
  .have e:=q2 vs h7;subst e
   have hl:l'.length=n:=by
    rw[<-hk,Rr h6]
   simp only[nU,Yc];rw[if_neg aa,<-hl,h6];simp
 .simp only[Z9,Z5]at h;obtain⟨rfl,rfl⟩:=h;simp only[lits,Z9]at hl;subst hl;simp only[RD]at hw;obtain⟨rfl,_⟩:=hw;rfl
 .cases h
theorem To{k:Nat}(h:slD p=some (k,l))(hw:RD F H p w):On w=true:=by
 unfold slD at h;split at h
 .rename_i n l';simp only[RD]at hw;rcases hw with⟨_,_,h3⟩|⟨c,o,cap,vs,m,rfl,_⟩
  .rcases h3 with rfl|⟨c,o,cap,rfl,_⟩<;>rfl
  .rfl
 .simp only[RD]at hw;obtain⟨rfl,_⟩:=hw;rfl
 .cases h
theorem De{q:D}{xs:List LvQ}(h:J8 p q=some xs):(∀z∈xs,∀v∈z,okZ v)∧∀v w,RD F H p v->RD F H q w->J7 H v w=some xs:=by
 unfold J8 at h;split at h
 case h_2=>cases h
 rename_i k l k' m hp hq;split at h
 case h_2=>cases h
 rename_i us vs hl hm;split at h
 case isFalse=>cases h
 rename_i hc;simp only[Z9]at h;subst h;have o1:=(Aj (F:=F) (H:=H) hl).1;have o2:=(Aj (F:=F) (H:=H) hm).1;refine⟨fun z hz v hv=>?_,fun v w hv hw=>?_⟩
 .obtain⟨⟨a,b⟩,hab,rfl⟩:=Zc.1 hz;have:=We hab;simp only[Zo,Ys,or_false]at hv;rcases hv with rfl|rfl
  .exact o1 _ this.1
  .exact o2 _ this.2
 .unfold J7;rw[Tp hp hl hc.2.1 hv,Tp hq hm (hc.2.2.1.trans hc.1) hw];have c1:(us.all fun v=>plain v&&okCell v)=true:=Zv.2 fun x hx=>by have:=o1 x hx;simp[this.1,this.2]
  have c2:(vs.all fun v=>plain v&&okCell v)=true:=Zv.2 fun x hx=>by have:=o2 x hx;simp[this.1,this.2]
  exact if_pos ⟨hc.1,hc.2.1,hc.2.2.1,hc.2.2.2,by rw[To hp hv,To hq hw];rfl,c1,c2⟩
end
theorem yOk:YOk Y where
 seq gf cs xs h0:=by
  have h:adE gf cs=some xs:=h0;clear h0;unfold adE at h;split at h
  .rename_i hg;split at h
   .rename_i p q d;refine⟨(De (F:=fun _=>True) (H:=⟨0,[]⟩) h).1,fun φ F H hp lb hr=>?_⟩;simp only[RVs,RV]at hr;obtain⟨v,_,rfl,⟨c,o,vs,rfl,hF,hrd,hd⟩,rfl⟩:=hr;simp only[RDs]at hd;obtain⟨v1,_,rfl,d1,v2,_,rfl,d2,v3,_,rfl,d3,rfl⟩:=hd;rw[show([p,q,d]:LdQ).length=3 from rfl]at hrd;refine⟨?_,fun F' H' hl=>?_⟩
    .rw[show Y.X.seq=Ez from rfl];unfold Ez;rw[hg];simp only[Nat.add_zero];rw[hrd];exact(De h).2 _ _ d1 d2
    .rw[show Y.X.seqK=K4 from rfl];simp only[K4,Nat.add_zero];rw[oZ (hl.keep c hF)]
   .cases h
  .rename_i hg;split at h
   .rename_i hg2;split at h
    .rename_i p q;refine⟨(De (F:=fun _=>True) (H:=⟨0,[]⟩) h).1,fun φ F H hp lb hr=>?_⟩;simp only[RVs,RV]at hr;obtain⟨v,_,rfl,⟨c,o,vs,rfl,hF,hrd,hd⟩,v',_,rfl,⟨c',o',vs',rfl,hF',hrd',hd'⟩,rfl⟩:=hr;simp only[RDs]at hd hd';obtain⟨v1,_,rfl,d1,rfl⟩:=hd;obtain⟨v2,_,rfl,d2,rfl⟩:=hd';rw[show([p]:LdQ).length=1 from rfl]at hrd;rw[show([q]:LdQ).length=1 from rfl]at hrd'
     refine⟨?_,fun F' H' hl=>?_⟩
     .rw[show Y.X.seq=Ez from rfl];unfold Ez;rw[hg,hg2];simp only[Nat.add_zero];rw[hrd,hrd'];exact(De h).2 _ _ d1 d2
     .rw[show Y.X.seqK=K4 from rfl];simp only[K4,Nat.add_zero];rw[oZ (hl.keep c hF),oZ (hl.keep c' hF')]
    .cases h
   .cases h
 ty t:=by
  by_cases ht:t<16*D6.length
  .exact O7 (Zv.1 adq t (X6.2 ht))
  .refine O7 ?_
   have:(Y.ty t).k=.o:=by
    show(ZL (Kz D6 (t/16)) (t%16)).k=.o
    have h2:∀t n:Nat,¬t<16*n->n<=t/16:=fun t n hn=>by omega
    rw[Bh D6 (t/16) (h2 t _ ht)];rfl
   have h2:(Y.ty t).eq=false:=by
    show(ZL (Kz D6 (t/16)) (t%16)).eq=false
    have h2:∀t n:Nat,¬t<16*n->n<=t/16:=fun t n hn=>by omega
    rw[Bh D6 (t/16) (h2 t _ ht)];rfl
   unfold tyB;rw[this,h2];rfl
theorem ac2{o:Option V}{k k':V->Prop}(h1:x=bnd o k)(h:∀v,k v=k' v):x=bnd o k':=by rw[h1,funext h]
theorem acF{o:V}{i:Nat}{k k':V->Prop}(h1:x=ext o i k)(h:∀v,k v=k' v):x=ext o i k':=by rw[h1,funext h]
theorem UP{op:BinOp}{k k':V->Prop}(h1:x=rj h0 op a b k)(h:∀v,k v=k' v):x=rj h0 op a b k':=by rw[h1,funext h]
theorem vP(h1:x=T k)(h:∀v h,k v h=k' v h):x=T k':=by rw[h1,show k=k' from funext fun v=>funext fun y=>h v y]
theorem acV{C:xB}{a:LwQ}(h1:x=cal C h0 f a k)(h:∀v h,k v h=k' v h):x=cal C h0 f a k':=vP h1 h
theorem acW{C:qz}{a:LwQ}(h1:x=cai C h0 f a s k)(h:∀v h,k v h=k' v h):x=cai C h0 f a s k':=vP h1 h
theorem ac5{cs:LwQ}(h1:x=alV s cs h0 k)(h:∀v h,k v h=k' v h):x=alV s cs h0 k':=vP h1 h
theorem ac6{cs:LdQ}(h1:x=alD s n cs h0 k)(h:∀v h,k v h=k' v h):x=alD s n cs h0 k':=vP h1 h
theorem YA(h1:x=cQ s v0 h0 k)(h:∀v h,k v h=k' v h):x=cQ s v0 h0 k':=vP h1 h
theorem Vs(h1:x=cR n z ps h0 k)(h:∀v h,k v h=k' v h):x=cR n z ps h0 k':=vP h1 h
theorem Vq(h1:x=rq s n z ps h0 k)(h:∀v h,k v h=k' v h):x=rq s n z ps h0 k':=vP h1 h
theorem acu(h1:x=mkS s n z h0 a b k)(h:∀v h,k v h=k' v h):x=mkS s n z h0 a b k':=vP h1 h
theorem acd(h1:x=stD h0 n a b k)(h:∀v h,k v h=k' v h):x=stD h0 n a b k':=vP h1 h
theorem ac3(h1:x=apV dr s n m a b h0 k)(h:∀v h,k v h=k' v h):x=apV dr s n m a b h0 k':=vP h1 h
theorem agB(h1:x=apZ dr s n m z a b h0 k)(h:∀v h,k v h=k' v h):x=apZ dr s n m z a b h0 k':=vP h1 h
theorem aga{w:Bool}(h1:x=gd c w h0 T k)(h:∀v h,k v h=k' v h):x=gd c w h0 T k':=vP h1 h
theorem acQ{A A' B B':Prop}(h1:x=cnd c A B)(ha:A=A')(hb:B=B'):x=cnd c A' B':=by rw[h1,ha,hb]
theorem af1{k k':LwQ->Hp->Prop}{T T':(LwQ->Hp->Prop)->Prop}(h1:x=jn k T)(hk:∀l h,k l h=k' l h)(hT:∀q,T q=T' q):x=jn k' T':=by rw[h1,show k=k' from funext fun v=>funext fun y=>hk v y,show T=T' from funext hT]
theorem afR{s s':aL}{clr:LnQ}{h2:Hp}{l:LwQ}{k k':KL}(h1:x=lp s clr h0 l h2 k)(hs:∀l h q,s l h q=s' l h q)(hk:∀ex l h,k ex l h=k' ex l h):x=lp s' clr h0 l h2 k':=by rw[h1,show s=s' from funext fun a=>funext fun b=>funext fun c=>hs a b c,show k=k' from funext fun a=>funext fun b=>funext fun c=>hk a b c]
theorem acI{e ex:Exit}{q q':LwQ->Hp->Prop}{r r':List (Exit×(LwQ->Hp->Prop))}{l:LwQ}(h1:x=exK ((e,q)::r) ex l h)(hq:∀l h,q l h=q' l h)(hr:exK r ex l h=exK r' ex l h):x=exK ((e,q')::r') ex l h:=by
 rw[h1,show q=q' from funext fun v=>funext fun y=>hq v y];simp only[exK];split
 .rfl
 .exact hr
theorem Vz{y:Prop}{k:V->Prop}(h1:x=bnd (some v) k)(h2:k v=y):x=y:=h1.trans h2
noncomputable def gl(g:Nat):V:=match Y.glob g with
 |some cs=>.dptr cs 0
 |none=>.junk
end Go.Vm
