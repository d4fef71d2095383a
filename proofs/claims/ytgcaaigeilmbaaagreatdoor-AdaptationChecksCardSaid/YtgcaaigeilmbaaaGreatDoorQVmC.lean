/- Lemmas. -/
import Derived.Test.YtgcaaigeilmbaaaGreatDoorQVmB
set_option linter.unusedVariables false
set_option linter.unusedSimpArgs false
namespace Go.Vm
open Go Go.Am
variable{p:Prop}{k:IntKind}{n i:Int}{a b j:Nat}{v:V}{xs args ds:LwQ}{C:fR}
@[simp]theorem xl(v:V)(k:V->Prop):bnd (some v) k=k v:=rfl
theorem pW[Decidable p](hp:p)(x y:V):Hk (.d (.bool (decide p))) x y=some x:=by simp[Hk,hp]
theorem rU[Decidable p](hp:¬p)(x y:V):Hk (.d (.bool (decide p))) x y=some y:=by simp[Hk,hp]
@[simp low]theorem vk(b:Bool)(x y:V):Hk (.d (.bool b)) x y=some (if b=true then x else y):=by cases b<;>rfl
@[simp]theorem afK(l:LwQ)(i:Nat)(k:V->Prop):ext (.tup l) i k=bnd l[i]? k:=rfl
theorem Tn{k:LwQ->Hp->Prop}{T:(LwQ->Hp->Prop)->Prop}{l:LwQ}{h:Hp}(hT:∀q,T q=q l h):jn k T=k l h:=hT k
@[simp]theorem xX(x:V)(l:LwQ):ge (x::l) 0=x:=rfl
@[simp]theorem xY(x:V)(l:LwQ)(n:Nat):ge (x::l) (n+1)=ge l n:=rfl
@[simp]theorem zH(x y:V)(l:LwQ):ge (x::y::l) 1=y:=rfl
@[simp]theorem zG(x y z:V)(l:LwQ):ge (x::y::z::l) 2=z:=rfl
@[simp]theorem afp(x y z u:V)(l:LwQ):ge (x::y::z::u::l) 3=u:=rfl
@[simp] theorem Dv (i:Nat)(q:LwQ->Hp->Prop)(r:List (Exit×(LwQ->Hp->Prop)))(l:LwQ)(h:Hp):exK ((.exit i,q)::r) (.exit i) l h=q l h:=by simp only[exK,qJ,Za]
@[simp]theorem x8(q:LwQ->Hp->Prop)(r:List (Exit×(LwQ->Hp->Prop)))(l:LwQ)(h:Hp):exK ((.ret,q)::r) .ret l h=q l h:=rfl
@[simp]theorem xd(i:Nat)(p:LwQ->Hp->Prop)(r:List (Exit×(LwQ->Hp->Prop)))(l:LwQ)(h:Hp):exK ((.exit i,p)::r) .ret l h=exK r .ret l h:=rfl
theorem AJ{step:AP}{clr:LnQ}{h0:Hp}{l:LwQ}{h:Hp}{k:KL}(hs:step l h (lpK clr h0 (fun l h=>lp step clr h0 l h k) k)):lp step clr h0 l h k:=by
 intro I hI;refine hI l h ⟨_,hs,fun ex l' h' hq=>?_⟩;cases ex
 case normal=>exact⟨hq.1,hq.2 I hI⟩
 all_goals exact hq
@[simp]theorem uu(clr:LnQ)(h0:Hp)(I:LwQ->Hp->Prop)(k:KL)(l:LwQ)(h:Hp):lpK clr h0 I k .normal l h=(clean clr l h=true∧I l (aL clr 0 h0 h)):=rfl
@[simp]theorem wO(clr:LnQ)(h0:Hp)(I:LwQ->Hp->Prop)(k:KL)(i:Nat)(l:LwQ)(h:Hp):lpK clr h0 I k (.exit i) l h=k (.exit i) l h:=rfl
@[simp]theorem xR(clr:LnQ)(h0:Hp)(I:LwQ->Hp->Prop)(k:KL)(l:LwQ)(h:Hp):lpK clr h0 I k .ret l h=k .ret l h:=rfl
theorem je:∀l:LwQ,dp [] l=true:=by
 intro l
 have key:∀x:V,E4 [] x=true:=by
  intro x
  induction x using V.rec (motive_2:=fun l=>dp [] l=true)with
  |agg l ih=>trivial
  |tup l ih=>trivial
  |fn g a b iha ihb=>grind[E4]
  |ifc t x ih=>trivial
  |nil=>rfl
  |cons x l ih ihl=>grind[dp]
  |_=>rfl
 induction l with
 |nil=>rfl
 |cons x l ih=>grind[dp]
theorem kL:∀(h:Hp)(i:Nat),jF [] i h=true
 |[],_=>rfl
 | (_,b)::h,i=>by
  simp only[jF,kL h,Yj,Zn,Zp];right;cases b<;>simp[offB,je]
@[simp]theorem clean_nil(l:LwQ)(h:Hp):clean [] l h=true:=by simp[clean,je,kL]
theorem ja:∀(i:Nat)(h0 h:Hp),h.length=h0.length->aL [] i h0 h=h
 |_,[],h,_=>by cases h<;>rfl
 |_,_::_,[],_=>rfl
 | i,(e0,b0)::h0,(e,b)::h,hl=>by
  simp only[aL,d9,if_true];rw[ja (i+1) h0 h (by grind)]
theorem wrap_i64(h : -9223372036854775808<=n∧n<=9223372036854775807):IntKind.wrap .i64 n=n:=by
 have e1:(2:Int)^64=18446744073709551616:=AF;have e2:(2:Int)^(64-1)=9223372036854775808:=AF
 grind[IntKind.wrap,IntKind.bits,IntKind.signed]
theorem lV(hk:k.signed=false)(h:0<=n∧n<2^k.bits):k.wrap n=n:=by grind[IntKind.wrap,Int.emod_eq_of_lt]
theorem wrap_u64(h:0<=n∧n<18446744073709551616):IntKind.wrap .u64 n=n:=lV rfl h
theorem wrap_u32(h:0<=n∧n<4294967296):IntKind.wrap .u32 n=n:=lV rfl h
theorem Qi(n:Int):IntKind.wrap .u64 n=n%18446744073709551616:=by rfl
@[simp]theorem yo(k:IntKind)(a b:Int):biI .lss (.d (.int k a)) (.d (.int k b))=some (.d (.bool (decide (a<b)))):=by simp[biI,bf,Fi,bv]
@[simp]theorem yp(k:IntKind)(a b:Int):biI .leq (.d (.int k a)) (.d (.int k b))=some (.d (.bool (decide (a<=b)))):=by simp[biI,bf,Fi,bv]
@[simp]theorem yq(k:IntKind)(a b:Int):biI .gtr (.d (.int k a)) (.d (.int k b))=some (.d (.bool (decide (b<a)))):=by simp[biI,bf,Fi,bv]
@[simp]theorem yr(k:IntKind)(a b:Int):biI .geq (.d (.int k a)) (.d (.int k b))=some (.d (.bool (decide (b<=a)))):=by simp[biI,bf,Fi,bv]
@[simp]theorem yu(k:IntKind)(a b:Int):biI .eql (.d (.int k a)) (.d (.int k b))=some (.d (.bool (decide (a=b)))):=by simp[biI,bf,Fi,bv];rfl
@[simp]theorem yn(k:IntKind)(a b:Int):biI .neq (.d (.int k a)) (.d (.int k b))=some (.d (.bool (decide (a≠b)))):=by simp[biI,bf,Fi,bv];rfl
theorem K6(k:IntKind)(a b:Int):biI .add (.d (.int k a)) (.d (.int k b))=some (.d (.int k (k.wrap (a+b)))):=by simp[biI,bf,Fi,bv]
theorem ta(k:IntKind)(a b:Int):biI .sub (.d (.int k a)) (.d (.int k b))=some (.d (.int k (k.wrap (a-b)))):=by simp[biI,bf,Fi,bv]
theorem tc(k:IntKind)(a b:Int):biI .mul (.d (.int k a)) (.d (.int k b))=some (.d (.int k (k.wrap (a*b)))):=by simp[biI,bf,Fi,bv]
theorem Wj{a b:Int}(h : -9223372036854775808<=a+b∧a+b<=9223372036854775807):biI .add (I a) (I b)=some (I (a+b)):=by rw[K6,wrap_i64 h]
@[simp]theorem ya(k l:IntKind)(n:Int):cvI k (.d (.int l n))=some (.d (.int k (k.wrap n))):=rfl
@[simp]theorem yw(a b:Bool):biB .eql (.d (.bool a)) (.d (.bool b))=some (.d (.bool (a == b))):=rfl
@[simp]theorem yv(a b:Bool):biB .neq (.d (.bool a)) (.d (.bool b))=some (.d (.bool (a !=b))):=rfl
@[simp]theorem xw(b:Bool):unV .not (.d (.bool b))=some (.d (.bool (!b))):=rfl
def lst{α:Type}(f:α->D)(l:List α):V:=.d (.sl l.length (l.map f))
section
variable{α:Type}(f:α->D)(l:List α)
@[simp]theorem wS:fL (lst f l)=some (I l.length):=rfl
theorem qw(h:Hp)(hj:i=j)(hl:j<l.length):ixV h 1 (lst f l) (.d (.int k i))=some (.dptr (l.map f) j):=by subst hj;simp only[ixV,lst];rw[if_pos ⟨aa,aa,mR⟩];simp
theorem uv(h:Hp)(hl:j<l.length):ld1 h (.dptr (l.map f) j)=some (.d (f l[j])):=by simp[ld1,hl]
end
section
variable{α:Type}(f:α->D)(l:List α)
theorem PH(d top:Nat):boV d top none=some d:=rfl
theorem lK{d top:Nat}(hi:i=j)(hj:j<=top):boV d top (some (.d (.int k i)))=some j:=by subst hi;simp only[boV];rw[if_pos ⟨aa,aa⟩];simp
theorem pi{h:Hp}{lo hi:Option V}{i:Nat}(h0:0<l.length)(hj:boV l.length l.length hi=some j)(hi2:boV 0 j lo=some i)(hij:i<=j)(hjl:j<=l.length):slV h 1 (lst f l) lo hi=some (lst f ((l.drop i).take (j-i))):=by simp only[slV,lst,hj,hi2];rw[if_pos ⟨mR,h0⟩];simp only[X9,List.map_take,List.map_drop,Zz,Zm];rw[Yl aa]
theorem vZ{h:Hp}(h0:0<l.length)(hi:i=j)(hj:j<=l.length):slV h 1 (lst f l) none (some (I i))=some (lst f (l.take j)):=by rw[pi f l h0 (lK hi hj) (PH 0 j) (Zg _) hj];simp
theorem vY{h:Hp}(h0:0<l.length)(hi:i=j)(hj:j<=l.length):slV h 1 (lst f l) (some (I i)) none=some (lst f (l.drop j)):=by rw[pi f l h0 (PH _ _) (lK hi hj) hj (Z5 _)];rw[Zd mR]
end
@[simp]theorem yM(h:Hp)(x:D):cX h (.d x)=some (.d (norm x),h):=by rfl
@[simp]theorem wJ(k:IntKind)(n:Int):norm (.int k n)=.int k n:=rfl
@[simp]theorem vm(b:Bool):norm (.bool b)=.bool b:=rfl
@[simp]theorem wE(s:LuQ):norm (.str s)=.str s:=rfl
@[simp]theorem xO(n:Nat)(l:LdQ):norm (.sl n l)=.sl n l:=rfl
@[simp]theorem wH:norm (.pl (.slice none 0 0))=.sl 0 []:=rfl
@[simp]theorem pf{α:Type}(h:Hp)(f:α->D)(l:List α):cX h (lst f l)=some (lst f l,h):=by rfl
@[simp]theorem vg(h:Hp):AT h []=some ([],h):=by rfl
theorem GY{h h1 h2:Hp}{x:V}{l:LwQ}(e1:cX h v=some (x,h1))(e2:AT h1 l=some (xs,h2)):AT h (v::l)=some (x::xs,h2):=by grind[AT]
theorem GN{D:ee}{h h':Hp}{f:FuncId}{args:LwQ}{v:V}{s:Nat}{k:kkQ}(hc:D f args h v h')(hk:k v h')(hn:∀n cells ex len cap,v≠.new n cells ex len cap)(hn2:∀n,v≠.cut n:=by simp)(hn3:∀n cells ex len cap y,v≠.tup [.new n cells ex len cap,.d y]:=by intro _ _ _ _ _ _ h;cases h)
  (hn4:∀n cells ex len cap,v≠.tup [.new n cells ex len cap]:=by intro _ _ _ _ _ h;cases h) (hn5:∀n cells ex len cap y,v≠.tup [.tup [.new n cells ex len cap],.d y]:=by intro _ _ _ _ _ _ h;cases h):cai D h (.fn f [] []) args s k:=by grind[cai]
theorem abx{h h':Hp}{f:FuncId}{args:LwQ}{cells:LdQ}{y:D}{s e:Nat}{b:Bk}{k:kkQ}{DD:ee}(hc:DD f args h (.tup [.tup [.new 1 cells true 0 0],.d y]) h')(hs:h'[s]?=some (e,b))
  (hk:k (.tup [.ptr s (e+1) 0 cells.length,.d y]) (h'.set s (e+1,.vars (cells.map .d)))):cai DD h (.fn f [] []) args s k:=by grind[cai,new]
theorem TS{h h':Hp}{f:FuncId}{args:LwQ}{n len cap:Nat}{cells:LdQ}{y:D}{s e:Nat}{b:Bk}{ex:Bool}{k:kkQ}{DD:ee}(hc:DD f args h (.tup [.new n cells ex len cap,.d y]) h')(hs:h'[s]?=some (e,b))
  (hk:k (.tup [.ref s (e+1) 0 len cap cells.length,.d y]) (h'.set s (e+1,.data n cells ex false))):cai DD h (.fn f [] []) args s k:=by grind[cai,new]
theorem CU{h h':Hp}{f:FuncId}{args:LwQ}{n len cap:Nat}{cells:LdQ}{s e:Nat}{b:Bk}{ex:Bool}{k:kkQ}{DD:ee}(hc:DD f args h (.new n cells ex len cap) h')(hs:h'[s]?=some (e,b))
  (hk:k (.ref s (e+1) 0 len cap cells.length) (h'.set s (e+1,.data n cells ex false))):cai DD h (.fn f [] []) args s k:=by grind[cai,new]
theorem uV{h h':Hp}{f:FuncId}{k:kkQ}(hs:AT h args=some (ds,h'))(hc:C f ds v)(hk:k v (if cj v then h else h')):cal C h (.fn f [] []) args k:=by grind[cal]
theorem xj{h:Hp}{f:FuncId}{k:kkQ}(hc:C f args v)(hs:AT h args=some (args,h))(hk:k v h):cal C h (.fn f [] []) args k:=
 uV hs hc (by grind)
theorem tB{x:D}{h:Hp}(hx:norm x=x):out (.d x) (.d x) h:=⟨h,by simp[hx]⟩
theorem acr{α:Type}(f:α->D)(l:List α)(h:Hp):out (lst f l) (lst f l) h:=⟨h,mR⟩
@[simp]theorem xL(k:IntKind)(n:Int)(h:Hp):out (.d (.int k n)) (.d (.int k n)) h:=tB rfl
@[simp]theorem ww(b:Bool)(h:Hp):out (.d (.bool b)) (.d (.bool b)) h:=tB rfl
theorem OS{l:IntKind}(hb:b<=k.bits):biI .shr (.d (.int k a)) (.d (.int l b))=some (.d (.int k ((a/2^b:Nat):Int))):=by
 have h1:¬((b:Int)<0):=aa
 grind[biI,bf,Fi,bv]
theorem K7(h:a+b<18446744073709551616):biI .add (.d (.int .u64 a)) (.d (.int .u64 b))=some (.d (.int .u64 ((a+b:Nat):Int))):=by rw[K6,wrap_u64 aa];simp
theorem Oi(h:a*b<18446744073709551616):biI .mul (.d (.int .u64 a)) (.d (.int .u64 b))=some (.d (.int .u64 ((a*b:Nat):Int))):=by grind[tc,wrap_u64]
theorem aeU(h:a<18446744073709551616):cvI .u64 (.d (.int k a))=some (.d (.int .u64 a)):=by rw[ya,wrap_u64 aa]
theorem addN(h:a+b<=9223372036854775807):biI .add (I a) (I b)=some (I ((a+b:Nat):Int)):=by rw[Wj aa];simp
theorem LO(h:a+1<=9223372036854775807):biI .add (I a) (I 1)=some (I ((a+1:Nat):Int)):=addN h
section
variable{α:Type}{f:α->D}{l:List α}{h:Hp}{s e:Nat}{ex fr:Bool}
end
end Go.Vm
namespace Go.Big
variable{l a b o:LnQ}{i x n k m:Nat}
def val(B:Nat):LnQ->Nat
 |[]=>0
 |x::l=>x+B*val B l
def Dt:LnQ->LnQ
 |[]=>[]
 | x::l=>match Dt l with
  |[]=>if x=0 then[]else[x]
  |y::r=>x::y::r
def jT(B:Nat):Nat->Nat->LnQ
 |0,_=>[]
 |f+1,n=>if n=0 then[]else n%B::jT B f (n/B)
def dig(B n:Nat):LnQ:=jT B n n
def bH(B:Nat)(l:LnQ):Prop:=∀x∈l,x<B
section
variable{B:Nat}
theorem val_append(a b:LnQ):val B (a++b)=val B a+B^a.length*val B b:=by
 induction a with
 |nil=>simp[val]
 |cons x a ih=>grind[val]
theorem tQ(hB:0<B)(h:bH B l):val B l<B^l.length:=by
 induction l with
 |nil=>simp[val]
 | cons x l ih=>
  have h1:=ih fun y hy=>h y (by grind)
  have h2:=h x mR;simp only[val,List.length_cons,Nat.pow_succ];have:B*(val B l+1)<=B*B^l.length:=Zr B h1
  grind
theorem bH.take{l:LnQ}(h:bH B l)(n:Nat):bH B (l.take n):=fun x hx=>h x (List.mem_of_mem_take hx)
theorem bH.drop{l:LnQ}(h:bH B l)(n:Nat):bH B (l.drop n):=fun x hx=>h x (List.mem_of_mem_drop hx)
theorem bH.get(h:bH B l)(hi:i<l.length):l[i]<B:=h _ (Xq hi)
theorem bH.append(ha:bH B a)(hb:bH B b):bH B (a++b):=fun x hx=>by
 rcases Y6.1 hx with h|h
 .exact ha x h
 .exact hb x h
theorem nT(l:LnQ):val B (Dt l)=val B l:=by
 induction l with
 |nil=>rfl
 | cons x l ih=>
  grind[Dt,val]
theorem kq(h:bH B l):bH B (Dt l):=by
 induction l with
 |nil=>exact h
 | cons x l ih=>
  have h1:=ih fun y hy=>h y (by grind)
  have hx:=h x mR;unfold Dt;split
  .split
   .grind
   .intro y hy;grind
  .rename_i y r he;rw[he]at h1;intro z hz;rcases Zs.1 hz with rfl|hz
   .exact hx
   .exact h1 z hz
def iC(l:LnQ):Prop:=∀h:l≠[],l.getLast h≠0
theorem lY(l:LnQ):iC (Dt l):=by
 induction l with
 |nil=>intro h;trivial
 | cons x l ih=>
  unfold Dt;split
  .split
   .grind
   .rename_i hx;intro h;trivial
  .rename_i y r he;rw[he]at ih;intro h;rw[List.getLast_cons mR];exact ih mR
theorem iH(h:iC l):Dt l=l:=by
 induction l with
 |nil=>rfl
 | cons x l ih=>
  unfold Dt;cases l with
  | nil=>
   have:=h mR
   grind[Dt]
  | cons y r=>
   have:iC (y::r):=fun hh=>by have:=h mR;rwa [List.getLast_cons mR]at this
   grind
theorem Hu(l:LnQ):Dt (l++[0])=Dt l:=by
 induction l with
 |nil=>rfl
 |cons x l ih=>grind[Dt]
theorem lX(h:x≠0):Dt (l++[x])=l++[x]:=iH fun _=>by grind
theorem gI(hB:2<=B):∀(f n:Nat),n<=f->val B (jT B f n)=n∧bH B (jT B f n)∧iC (jT B f n)
 | 0,n,h=>by
  have:n=0:=aa;subst this;exact⟨rfl,fun x hx=>by trivial,fun hx=>absurd rfl hx⟩
 | f+1,n,h=>by
  unfold jT;split
  .rename_i h0;subst h0;exact⟨rfl,fun x hx=>by simp at hx,fun hx=>absurd rfl hx⟩
  .rename_i h0;have hlt:n/B<n:=Nat.div_lt_self aa aa;obtain⟨h1,h2,h3⟩:=gI hB f (n/B) aa;refine⟨?_,?_,?_⟩
   .grind[val,Xw]
   .intro x hx;rcases Zs.1 hx with rfl|hx
    .exact Yt _ aa
    .exact h2 x hx
   .intro hne;by_cases hd:jT B f (n/B)=[]
    .simp only[hd];rw[hd]at h1;simp only[val]at h1
     have:n<B:=by
      rcases Zx n B with h|h
      .exact h
      .have:=Wo h (by omega:0<B);omega
     grind[Ya]
    .rw[List.getLast_cons hd];exact h3 hd
theorem mT(hB:2<=B)(n:Nat):val B (dig B n)=n:=(gI hB n n (Z5 n)).1
theorem jq(hB:2<=B)(n:Nat):bH B (dig B n):=(gI hB n n (Z5 n)).2.1
theorem Pn(hB:2<=B)(n:Nat):iC (dig B n):=(gI hB n n (Z5 n)).2.2
theorem Kn(h:iC l)(hl:l≠[])(hB:0<B):val B l≠0:=by
 induction l with
 |nil=>trivial
 | cons x l ih=>
  cases l with
  |nil=>have:=h mR;trivial
  | cons y r=>
   have hn:iC (y::r):=fun hh=>by have:=h mR;rwa [List.getLast_cons mR]at this
   have:=ih hn mR;simp only[val]at this ⊢;have:=Yi hB (Nat.pos_of_ne_zero this);omega
theorem kN(hB:0<B):∀{a b:LnQ},bH B a->bH B b->iC a->iC b->val B a=val B b->a=b
 |[],[],_,_,_,_,_=>rfl
 |[],y::b,_,_,_,hb,h=>absurd h.symm (Kn hb mR hB)
 |x::a,[],_,_,ha,_,h=>absurd h (Kn ha mR hB)
 | x::a,y::b,sa,sb,na,nb,h=>by
  have hx:=sa x mR;have hy:=sb y mR;simp only[val]at h
  have e1:x=y:=by
   have:=congrArg (· % B) h;simpa[Xm,Ya hx,Ya hy]using this
  subst e1;have e2:val B a=val B b:=X1 hB aa;have tl:∀{l:LnQ}{x:Nat},iC (x::l)->iC l:=fun{l x} h hl=>by have:=h mR;grind
  rw[kN hB (fun z hz=>sa z (by grind)) (fun z hz=>sb z (by grind)) (tl na) (tl nb) e2]
theorem sO(hB:2<=B)(h:bH B l):dig B (val B l)=Dt l:=
 kN aa (jq hB _) (kq h) (Pn hB _) (lY l) (by rw[mT hB,nT])
theorem sQ(hB:2<=B):(dig B n).length<=k↔n<B^k:=by
 have hv:=mT hB n;have hs:=tQ aa (jq hB n);rw[hv]at hs;constructor
 .intro h;exact Zv hs (Zc aa h)
 .intro h;rcases Zx k (dig B n).length with hk|hk
  .exfalso;have hne:dig B n≠[]:=by intro e;rw[e]at hk;simp at hk
   have hdrop:val B ((dig B n).drop k)≠0:=by
    refine Kn ?_ (by grind[List.drop_eq_nil_iff]) aa;intro hd;rw[List.getLast_drop];exact Pn hB n hne
   have:=val_append (B:=B) ((dig B n).take k) ((dig B n).drop k);rw[X8,hv,Zz,Yl aa]at this;have:=Zr (B^k) (Nat.pos_of_ne_zero hdrop);omega
  omega
def UD(a b:LnQ):Nat->Int
 |0=>0
 |i+1=>if a.getD i 0<b.getD i 0 then -1 else if b.getD i 0<a.getD i 0 then 1 else UD a b i
def cmp(a b:Nat):Int:=if a<b then -1 else if b<a then 1 else 0
theorem VI(hB:0<B){a b:LnQ}(ha:bH B a)(hb:bH B b):∀i,i<=a.length->i<=b.length->UD a b i=cmp (val B (a.take i)) (val B (b.take i))
 |0,_,_=>by rfl
 | i+1,h1,h2=>by
  have e:∀(l:LnQ)(h:i<l.length),val B (l.take (i+1))=val B (l.take i)+B^i*l[i]:=fun l h=>by
   rw[W4,val_append,Zz,Yl aa]
   grind[val]
  have la:=tQ hB (ha.take i);have lb:=tQ hB (hb.take i);rw[Zz,Yl aa]at la lb;rw[UD,e a aa,e b aa,VI hB ha hb i aa aa];have ga:a.getD i 0=a[i]:=by simp[show i<a.length by omega]
  have gb:b.getD i 0=b[i]:=by simp[show i<b.length by omega]
  rw[ga,gb];generalize a[i]=x,b[i]=y at *;unfold cmp;rcases Nat.lt_trichotomy x y with h|h|h
  .rw[if_pos h];have:B^i*(x+1)<=B^i*y:=Zr _ h;rw[Y4]at this;rw[if_pos aa]
  .grind
  .rw[if_neg aa,if_pos h];have:B^i*(y+1)<=B^i*x:=Zr _ h;rw[Y4]at this;rw[if_neg aa,if_pos aa]
theorem RR(hB:2<=B)(h:(dig B m).length<(dig B n).length):m<n:=by
 have h1:m<B^(dig B m).length:=(sQ hB).1 (Z5 _);rcases Zx n (B^(dig B m).length)with h2|h2
 .have:=(sQ hB).2 h2;omega
 .omega
theorem Hf(l:LnQ)(i:Nat):val B (l.drop i)=l.getD i 0+B*val B (l.drop (i+1)):=by
 by_cases h:i<l.length
 .grind[Y2,val]
 .rw[Ys aa,Ys aa];simp[val,List.getElem?_eq_none (by omega:l.length<=i)]
theorem bH.getD{l:LnQ}(h:bH B l)(hB:0<B)(i:Nat):l.getD i 0<B:=by
 by_cases hi:i<l.length
 .simp_all[get]
 .simp[List.getElem?_eq_none (by omega:l.length<=i),hB]
theorem Sn(l:LnQ)(x:Nat):val B (l++[x])=val B l+B^l.length*x:=by simp[val_append,val]
theorem MJ(n:Nat):val B (List.replicate n 0)=0:=by
 induction n with
 |zero=>rfl
 |succ n ih=>grind[val]
theorem bH.snoc(h:bH B l)(hx:x<B):bH B (l++[x]):=h.append fun y hy=>by grind
end
def qd(w:Nat):Nat->Nat->Nat->Nat->Option Nat
 |0,_,_,out=>some out
 | n+1,low,high,out=>
  if 2^(w+1)<=low*low/2^w then qd w n (low*low/2^w/2) (((if high*high/2^w*2^w=high*high then high*high/2^w else high*high/2^w+1)+1)/2) (out*2+1)
  else if 2^(w+1)<=(if high*high/2^w*2^w=high*high then high*high/2^w else high*high/2^w+1)then none
  else qd w n (low*low/2^w) (if high*high/2^w*2^w=high*high then high*high/2^w else high*high/2^w+1) (out*2)
theorem KG{B:Nat}:∀(l:LnQ)(j x:Nat),j<l.length->val B (l.set j x)+B^j*l.getD j 0=val B l+B^j*x
 |[],j,x,h=>by simp at h
 |y::l,0,x,h=>by simp[val];omega
 | y::l,j+1,x,h=>by
  have:=KG (B:=B) l j x (by simpa using h);simp only[List.set_cons_succ,val,List.getD_cons_succ,Nat.pow_succ];rw[Y5 (B^j) B,Nat.mul_assoc,Nat.mul_assoc];generalize val B (l.set j x)=p at *;generalize B^j*l.getD j 0=q at *;generalize B^j*x=r at *;have h2:B*(p+q)=B*(val B l+r):=by rw[this]
  rw[Y4,Y4]at h2;omega
theorem bH.set{B:Nat}{l:LnQ}(h:bH B l){j x:Nat}(hx:x<B):bH B (l.set j x):=by
 intro y hy;rcases Yu hy with h1|h1
 .exact h y h1
 .subst h1;exact hx
theorem Lg{B:Nat}(l:LnQ)(h:i<l.length):val B (l.take (i+1))=val B (l.take i)+B^i*l.getD i 0:=by rw[W4,val_append,Zz,Yl aa];simp[List.getElem?_eq_getElem h,val]
theorem aaG{B:Nat}{j c a y v:Nat}(hj:j<o.length):
  val B (o.set j ((c+o.getD j 0+a*y)%B))+B^(j+1)*((c+o.getD j 0+a*y)/B+a*v)=val B o+B^j*(c+a*(y+B*v)):=by
 have h:=KG (B:=B) o j ((c+o.getD j 0+a*y)%B) hj;generalize val B (o.set j ((c+o.getD j 0+a*y)%B))=p at *;generalize o.getD j 0=w at *;have hd:=Xw (c+w+a*y) B;generalize(c+w+a*y)%B=r at *;generalize(c+w+a*y)/B=d at *;generalize val B o=q at *;generalize hP:B^j=P at *;rw[Nat.pow_succ,hP,Nat.mul_assoc]
 have e1:P*(B*(d+a*v))+P*r=P*(c+w+a*y)+P*(a*(B*v)):=by
  rw[<-Y4,<-Y4,<-hd,Y4 B,Yq a B v];congr 1;omega
 have e2:P*(c+a*(y+B*v))+P*w=P*(c+w+a*y)+P*(a*(B*v)):=by
  rw[<-Y4,<-Y4,Y4 a];congr 1;omega
 omega
end Go.Big
namespace Go.Vm
open Go Go.Am
abbrev ae:TyI:=⟨.f,1,8,[.pl .nilFunc],false⟩
abbrev bF:TyI:=⟨.o,1,0,[],false⟩
abbrev gW:TyI:=⟨.p,1,8,[.pl (.pointer none)],false⟩
abbrev m9:TyI:=⟨.i .i64,1,8,[.int .i64 0],false⟩
abbrev m8:TyI:=⟨.i .u8,1,1,[.int .u8 0],false⟩
abbrev Vy:TyI:=⟨.s,1,16,[.str []],false⟩
abbrev m6:TyI:=⟨.st [(0,1),(1,1),(2,1)],3,72,[.pl (.slice none 0 0),.pl (.slice none 0 0),.pl (.slice none 0 0)],false⟩
abbrev ZY:TyI:=⟨.i .u64,1,8,[.int .u64 0],false⟩
abbrev pu:TyI:=⟨.it,1,16,[.pl .nilIface],false⟩
abbrev ZX:TyI:=⟨.i .i32,1,4,[.int .i32 0],false⟩
abbrev md:TyI:=⟨.sl 3,1,24,[.pl (.slice none 0 0)],false⟩
abbrev pL:TyI:=⟨.st [(0,1),(1,1),(2,1),(3,1)],4,24,[.int .i64 0,.int .i64 0,.bool false,.int .u8 0],false⟩
abbrev pK:TyI:=⟨.st [(0,1),(1,1)],2,24,[.str [],.int .u64 0],false⟩
abbrev pJ:TyI:=⟨.st [(0,1)],1,8,[.pl (.pointer none)],false⟩
abbrev pI:TyI:=⟨.st [(0,1),(1,5),(6,45),(51,16),(67,1)],68,68,[.int .u8 0,.int .u8 0,.int .u8 0,.int .u8 0,.int .u8 0,.int .u8 0,.int .i8 0,.int .i8 0,.int .i8 0,.int .i8 0,.int .i8 0,.int .i8 0,.int .i8 0,.int .i8 0,.int .i8 0,.int .i8 0,.int .i8 0,.int .i8 0,.int .i8 0,.int .i8 0,.int .i8 0,.int .i8 0,.int .i8 0,.int .i8 0,.int .i8 0,.int .i8 0,.int .i8 0,.int .i8 0,.int .i8 0,.int .i8 0,.int .i8 0,.int .i8 0,.int .i8 0,.int .i8 0,.int .i8 0,.int .i8 0,.int .i8 0,.int .i8 0,.int .i8 0,.int .i8 0,.int .i8 0,.int .i8 0,.int .i8 0,.int .i8 0,.int .i8 0,.int .i8 0,.int .i8 0,.int .i8 0,.int .i8 0,.int .i8 0,.int .i8 0,.int .u8 0,.int .u8 0,.int .u8 0,.int .u8 0,.int .u8 0,.int .u8 0,.int .u8 0,.int .u8 0,.int .u8 0,.int .u8 0,.int .u8 0,.int .u8 0,.int .u8 0,.int .u8 0,.int .u8 0,.int .u8 0,.int .u8 0],false⟩
abbrev pG:TyI:=⟨.st [(0,68),(68,5),(73,45),(118,2)],120,120,[.int .u8 0,.int .u8 0,.int .u8 0,.int .u8 0,.int .u8 0,.int .u8 0,.int .i8 0,.int .i8 0,.int .i8 0,.int .i8 0,.int .i8 0,.int .i8 0,.int .i8 0,.int .i8 0,.int .i8 0,.int .i8 0,.int .i8 0,.int .i8 0,.int .i8 0,.int .i8 0,.int .i8 0,.int .i8 0,.int .i8 0,.int .i8 0,.int .i8 0,.int .i8 0,.int .i8 0,.int .i8 0,.int .i8 0,.int .i8 0,.int .i8 0,.int .i8 0,.int .i8 0,.int .i8 0,.int .i8 0,.int .i8 0,.int .i8 0,.int .i8 0,.int .i8 0,.int .i8 0,.int .i8 0,.int .i8 0,.int .i8 0,.int .i8 0,.int .i8 0,.int .i8 0,.int .i8 0,.int .i8 0,.int .i8 0,.int .i8 0,.int .i8 0,.int .u8 0,.int .u8 0,.int .u8 0,.int .u8 0,.int .u8 0,.int .u8 0,.int .u8 0,.int .u8 0,.int .u8 0,.int .u8 0,.int .u8 0,.int .u8 0,.int .u8 0,.int .u8 0,.int .u8 0,.int .u8 0,.int .u8 0,.int .u8 0,.int .u8 0,.int .u8 0,.int .u8 0,.int .u8 0,.int .i8 0,.int .i8 0,.int .i8 0,.int .i8 0,.int .i8 0,.int .i8 0,.int .i8 0,.int .i8 0,.int .i8 0,.int .i8 0,.int .i8 0,.int .i8 0,.int .i8 0,.int .i8 0,.int .i8 0,.int .i8 0,.int .i8 0,.int .i8 0,.int .i8 0,.int .i8 0,.int .i8 0,.int .i8 0,.int .i8 0,.int .i8 0,.int .i8 0,.int .i8 0,.int .i8 0,.int .i8 0,.int .i8 0,.int .i8 0,.int .i8 0,.int .i8 0,.int .i8 0,.int .i8 0,.int .i8 0,.int .i8 0,.int .i8 0,.int .i8 0,.int .i8 0,.int .i8 0,.int .i8 0,.int .i8 0,.int .i8 0,.int .i8 0,.int .i8 0,.int .i8 0,.int .u8 0],false⟩
abbrev pF:TyI:=⟨.st [(0,1),(1,1),(2,1),(3,2)],5,64,[.int .u8 0,.int .u8 0,.pl (.slice none 0 0),.str [],.str []],false⟩
abbrev pE:TyI:=⟨.st [(0,3),(3,1),(4,2)],6,128,[.pl (.slice none 0 0),.pl (.slice none 0 0),.pl (.slice none 0 0),.pl (.slice none 0 0),.str [],.str []],false⟩
abbrev pD:TyI:=⟨.sl 40,1,24,[.pl (.slice none 0 0)],false⟩
abbrev pC:TyI:=⟨.st [(0,1),(1,1),(2,1)],3,40,[.int .i64 0,.int .i64 0,.pl (.slice none 0 0)],false⟩
abbrev pB:TyI:=⟨.st [(0,1),(1,1),(2,1)],3,64,[.pl (.slice none 0 0),.pl (.slice none 0 0),.str []],false⟩
abbrev pA:TyI:=⟨.sl 180,1,24,[.pl (.slice none 0 0)],false⟩
abbrev pz:TyI:=⟨.st [(0,1),(1,1),(2,1)],3,48,[.str [],.str [],.pl .nilIface],false⟩
abbrev py:TyI:=⟨.st [(0,1),(1,1),(2,1),(3,1)],4,40,[.pl (.pointer none),.pl (.pointer none),.pl (.pointer none),.str []],false⟩
abbrev px:TyI:=⟨.st [(0,1),(1,1),(2,1),(3,1),(4,1),(5,1),(6,1),(7,1),(8,1),(9,1),(10,1)],11,48,[.int .u64 0,.int .u64 0,.int .u32 0,.int .u8 0,.int .u8 0,.int .u8 0,.int .u8 0,.pl .nilFunc,.pl (.pointer none),.int .i32 0,.int .i32 0],false⟩
abbrev slQ(n:Nat):TyI:=⟨.sl n,1,24,[.pl (.slice none 0 0)],false⟩
def yG:List TyI:=[
 bF,ae,m9,m9,⟨.b,1,1,[.bool false],false⟩,m8,m8,pL,pL,Vy,Vy,Vy,ZY,pK,pK,gW]
def yF:List TyI:=[
 gW,gW,pJ,pJ,pu,ZX,⟨.ar 5 5,5,5,[.int .u8 0,.int .u8 0,.int .u8 0,.int .u8 0,.int .u8 0],false⟩,⟨.i .i8,1,1,[.int .i8 0],false⟩,⟨.ar 3 23,3,3,[.int .i8 0,.int .i8 0,.int .i8 0],false⟩,⟨.ar 3 24,9,9,List.replicate 9 (.int .i8 0),false⟩,⟨.ar 5 25,45,45,List.replicate 45 (.int .i8 0),false⟩,⟨.ar 2 5,2,2,[.int .u8 0,.int .u8 0],false⟩,⟨.ar 2 27,4,4,[.int .u8 0,.int .u8 0,.int .u8 0,.int .u8 0],false⟩,⟨.ar 4 28,16,16,List.replicate 16 (.int .u8 0),false⟩,pI,pI]
def yE:List TyI:=[
 ⟨.st [(0,1),(1,1)],2,2,[.int .i8 0,.int .u8 0],false⟩,⟨.st [(0,1),(1,1)],2,2,[.int .i8 0,.int .u8 0],true⟩,pG,pG,md,md,Vy,⟨.st [(0,1),(1,1)],2,32,[.str [],.str []],false⟩,⟨.st [(0,1),(1,1)],2,32,[.str [],.str []],true⟩,pF,pF,ae,md,slQ 68,slQ 109,m6]
def yD:List TyI:=[
 m6,pE,pE,ae,ae,m9,ae,pD,pD,bF,ae,ae,⟨.st [(0,1),(1,1)],2,16,[.int .i64 0,.int .i64 0],false⟩,⟨.st [(0,1),(1,1)],2,16,[.int .i64 0,.int .i64 0],true⟩,ae,bF]
def yC:List TyI:=[
 ae,slQ 96,bF,ae,slQ 37,bF,ae,slQ 81,bF,ae,ae,ae,ae,ae,ae,ae]
def yB:List TyI:=[
 pC,pC,ae,ae,ae,ae,ae,ae,ae,ae,ae,ae,gW,bF,ae,ae]
def yA:List TyI:=[
 slQ 56,ae,slQ 65,m6,m6,ae,bF,ae,ae,ae,ae,ae,ae,slQ 61,bF,ae]
def yz:List TyI:=[
 ae,ae,ae,ae,ae,ae,ae,ae,ae,ae,ae,ae,ae,ae,ae,ae]
def yy:List TyI:=[
 bF,ae,ae,ae,ae,ae,ae,ae,ae,ae,bF,ae,bF,ae,ae,ae]
def yx:List TyI:=[
 ae,ae,ae,ae,ae,ae,ae,ae,ae,ae,ae,ae,ae,ae,ae,ae]
def vQ:List TyI:=[
 pu,pu,bF,ae,bF,ae,ae,ae,ae,ae,ae,slQ 38,pB,pB,ae,ae]
def vP:List TyI:=[
 ae,ae,slQ 5,ae,ZY,bF,ae,ae,pA,pA,ae,ae,bF,ae,ae,bF]
def vO:List TyI:=[
 ae,ae,ae,ae,bF,ae,ae,bF,ae,ae,m9,bF,ae,gW,ae,ae]
def vN:List TyI:=[
 bF,ae,ae,ae,ae,ae,ae,ae,bF,ae,ae,ae,ae,ae,ae,ae]
def vM:List TyI:=[
 ae,⟨.ar 24 5,24,24,List.replicate 24 (.int .u8 0),false⟩,ae,ae,bF,ae,bF,ae,ZY,ae,pz,pz,ae,ae,ae,ae]
def vL:List TyI:=[
 ae,ae,bF,ae,ae,ae,⟨.ar 20 180,20,160,List.replicate 20 (.int .u64 0),false⟩,⟨.i .u32,1,4,[.int .u32 0],false⟩,⟨.ar 65 5,65,65,List.replicate 65 (.int .u8 0),false⟩,ae,ae,ae,gW,gW,⟨.st [(0,1)],1,16,[.str []],false⟩,⟨.st [(0,1)],1,16,[.str []],false⟩]
def vK:List TyI:=[
 bF,ae,ae,⟨.ar 32 5,32,32,List.replicate 32 (.int .u8 0),false⟩,⟨.ar 64 5,64,64,List.replicate 64 (.int .u8 0),false⟩,ae,py,py,⟨.ar 0 16,0,0,[],false⟩,⟨.st [(0,0)],0,0,[],false⟩,⟨.st [(0,0)],0,0,[],false⟩,m8,m8,ae,ZX,ZX]
def vJ:List TyI:=[
 px,px,⟨.o,1,8,[.pl (.pointer none)],false⟩]
def gO:List (List TyI):=[yG,yF,yE,yD,yC,yB,yA,yz,yy,yx,vQ,vP,vO,vN,vM,vL,vK,vJ]
def uZ:LnQ:=[0,1,188,189,190,191,192,193,194,195,196,197,198,199,200,201,202,203,204,205,206,207,208,209,210,211,212,213]
def FZ:Nat:=2
namespace F
def AS:FuncId:=3
def BZ:FuncId:=4
def CG:FuncId:=5
def Dc:FuncId:=6
def C4:FuncId:=7
def Bf:FuncId:=8
def D4:FuncId:=9
def Dr:FuncId:=10
def DW:FuncId:=11
def B7:FuncId:=12
def Ci:FuncId:=13
def Ca:FuncId:=14
def Cb:FuncId:=15
def Dn:FuncId:=16
def Cr:FuncId:=17
def Df:FuncId:=18
def BH:FuncId:=19
def Dg:FuncId:=20
def De:FuncId:=21
def FM:FuncId:=22
def Ch:FuncId:=23
def ES:FuncId:=24
def Ck:FuncId:=25
def Cm:FuncId:=26
def DL:FuncId:=27
def Da:FuncId:=28
def Eo:FuncId:=29
def CQ:FuncId:=30
def Bz:FuncId:=31
def G7:FuncId:=32
def B9:FuncId:=33
def Bw:FuncId:=34
def By:FuncId:=35
def Bg:FuncId:=36
def AM:FuncId:=37
def Fp:FuncId:=38
def CR:FuncId:=39
def BN:FuncId:=40
def G1:FuncId:=41
def DI:FuncId:=42
def B8:FuncId:=43
def Hs:FuncId:=44
def Hr:FuncId:=45
def En:FuncId:=46
def Db:FuncId:=47
def Cz:FuncId:=48
def CM:FuncId:=49
def DN:FuncId:=50
def Fq:FuncId:=51
def BR:FuncId:=52
def Gn:FuncId:=53
def B6:FuncId:=54
def F8:FuncId:=55
def Gt:FuncId:=56
def H4:FuncId:=57
def FE:FuncId:=58
def GB:FuncId:=59
def HB:FuncId:=60
def AW:FuncId:=61
def AZ:FuncId:=62
def FF:FuncId:=63
def KP:FuncId:=64
def Em:FuncId:=65
def AY:FuncId:=66
def Es:FuncId:=67
def EU:FuncId:=68
def DY:FuncId:=69
def FL:FuncId:=70
def Cv:FuncId:=71
def AU:FuncId:=72
def DJ:FuncId:=73
def Ey:FuncId:=74
def Be:FuncId:=75
def HR:FuncId:=76
def FA:FuncId:=77
def KI:FuncId:=78
def Ij:FuncId:=79
def EV:FuncId:=80
def BB:FuncId:=81
def G3:FuncId:=82
def FC:FuncId:=83
def CL:FuncId:=84
def FD:FuncId:=85
def Jc:FuncId:=86
def HY:FuncId:=87
def Ga:FuncId:=88
def Bh:FuncId:=89
def Ft:FuncId:=90
def Bo:FuncId:=91
def strconv_Itoa:FuncId:=92
def Dl:FuncId:=93
def strconv_Atoi:FuncId:=94
def Cn:FuncId:=95
def HX:FuncId:=96
def FW:FuncId:=97
def AL:FuncId:=98
def Dp:FuncId:=99
def Gp:FuncId:=100
def H3:FuncId:=101
def Ea:FuncId:=102
def Co:FuncId:=103
def FJ:FuncId:=104
def FH:FuncId:=105
def GW:FuncId:=106
def Bt:FuncId:=107
def EK:FuncId:=108
def C7:FuncId:=109
def NK:FuncId:=110
def CF:FuncId:=111
def D3:FuncId:=112
def BF:FuncId:=113
def Bu:FuncId:=114
def BE:FuncId:=115
def AR:FuncId:=116
def BU:FuncId:=117
def F9:FuncId:=118
def C5:FuncId:=119
def EW:FuncId:=120
def AX:FuncId:=121
def AQ:FuncId:=122
def D2:FuncId:=123
def GX:FuncId:=124
def A7:FuncId:=125
def C3:FuncId:=126
def Do:FuncId:=127
def FI:FuncId:=128
def Hj:FuncId:=129
def BA:FuncId:=130
def C9:FuncId:=131
def DO:FuncId:=132
def BP:FuncId:=133
def Lw:FuncId:=134
def DR:FuncId:=139
def CZ:FuncId:=140
def AK:FuncId:=141
def Bm:FuncId:=142
def Br:FuncId:=143
def BQ:FuncId:=144
def BC:FuncId:=145
def BL:FuncId:=146
def Cl:FuncId:=147
def DK:FuncId:=148
def A8:FuncId:=149
def Gu:FuncId:=150
def Ep:FuncId:=151
def CK:FuncId:=152
def Cy:FuncId:=153
def Ii:FuncId:=154
def Bs:FuncId:=155
def Dq:FuncId:=156
def BO:FuncId:=157
def Bj:FuncId:=158
def Hl:FuncId:=159
def Cw:FuncId:=163
def B4:FuncId:=164
def Ba:FuncId:=165
def CO:FuncId:=166
def Gm:FuncId:=167
def HW:FuncId:=168
def bN:FuncId:=169
def EP:FuncId:=170
def size_digits:FuncId:=171
def CH:FuncId:=172
def Cp:FuncId:=173
def CJ:FuncId:=174
def bV:FuncId:=179
def Eu:FuncId:=180
def CN:FuncId:=181
def DT:FuncId:=182
def Er:FuncId:=183
def JL:FuncId:=186
def FN:FuncId:=187
end F
end Go.Vm
namespace Go.Vm
open Go Go.Am
noncomputable section
def rH:List TyI->Nat->TyI
 |[],_=>⟨.o,0,0,[],false⟩
 |x::_,0=>x
 |_::l,n+1=>rH l n
def kr:List (List TyI)->Nat->List TyI
 |[],_=>[]
 |x::_,0=>x
 |_::l,n+1=>kr l n
def de:Nat->LuQ->Nat
 |a,[]=>a
 |a,c::l=>de (a*10+(c.toNat-48)) l
def dP(c:UInt8):Bool:=Nat.ble 48 c.toNat&&Nat.ble c.toNat 57
def tz:LvQ->Option Value
 |[.string s,.int .i64 a,.int .i64 b]=>if a=10∧b=64∧s.data.toList≠[]∧s.data.toList.all dP=true∧s.data.toList.length<=1000∧de 0 s.data.toList<10000000000000000000 then some (.tuple #[.int .u64 (de 0 s.data.toList),.nilIface])else none
 |_=>none
def tA:LvQ->Option Value
 | [.string s,.int .i64 a,.int .i64 b]=>if a=10∧b=64 then(match s.data.toList with
  |45::l=>if l≠[]∧l.all dP=true∧l.length<=1000∧de 0 l<9223372036854775808 then some (.tuple #[.int .i64 (-(de 0 l:Int)),.nilIface])else none
  |l=>if l≠[]∧l.all dP=true∧l.length<=1000∧de 0 l<9223372036854775808 then some (.tuple #[.int .i64 (de 0 l),.nilIface])else none)else none
 |_=>none
def mD:Value->Bool
 |.slice ..=>true
 |_=>false
def R8(H:AH)(p q:Value):Option (List LvQ):=match FS H 1 p,FS H 1 q with
 |some (k,xs),some (k',ys)=>if k=k'∧xs.length=k∧ys.length=k∧k<4611686018427387904∧(mD p&&mD q)=true∧(xs.all fun v=>plain v&&okCell v)=true∧(ys.all fun v=>plain v&&okCell v)=true then some ((xs.zip ys).map fun x=>[x.1,x.2])else none
 |_,_=>none
def gT(f:FuncId)(lb:LvQ)(H:AH):Option (List LvQ):=match Nat.beq f F.bN with
 | true=>match lb with
  | [.pointer (some ⟨b,o,none⟩)]=>match am H b o 3 with
   |some [p,q,_]=>R8 H p q
   |_=>none
  |_=>none
 | false=>match Nat.beq f F.FH with
  | true=>match lb with
   | [.pointer (some ⟨b,o,none⟩),.pointer (some ⟨b',o',none⟩)]=>match am H b o 1,am H b' o' 1 with
    |some [p],some [q]=>R8 H p q
    |_,_=>none
   |_=>none
  |false=>none
def kv(f:FuncId)(lb:LvQ)(H:AH):LvQ:=match lb with
 |[.pointer (some ⟨b,o,none⟩)]=>(am H b o 3).getD []
 |[.pointer (some ⟨b,o,none⟩),.pointer (some ⟨b',o',none⟩)]=>(am H b o 1).getD []++(am H b' o' 1).getD []
 |_=>[]
def lits:LdQ->Option LvQ
 |[]=>some []
 | x::l=>match x,lits l with
  |.int k n,some r=>some (.int k n::r)
  |.str s,some r=>some (.string ⟨⟨s⟩⟩::r)
  |_,_=>none
def slD:D->Option (Nat×LdQ)
 |.sl n l=>some (n,l)
 |.pl (.slice none 0 0)=>some (0,[])
 |_=>none
def rG(p q:D):Option (List LvQ):=match slD p,slD q with
 | some (k,l),some (k',m)=>match lits l,lits m with
  |some xs,some ys=>if k=k'∧xs.length=k∧ys.length=k∧k<4611686018427387904 then some ((xs.zip ys).map fun x=>[x.1,x.2])else none
  |_,_=>none
 |_,_=>none
def tZ(f:FuncId)(cs:LwQ):Option (List LvQ):=match Nat.beq f F.bN with
 | true=>match cs with
  |[.dptr [p,q,_] 0]=>rG p q
  |_=>none
 | false=>match Nat.beq f F.FH with
  | true=>match cs with
   |[.dptr [p] 0,.dptr [q] 0]=>rG p q
   |_=>none
  |false=>none
def X:Cfg:={P:=Go.Proofs.Tryz.prog,allow:=d9 uZ,glob:=fun g=>Nat.beq g FZ,orc:=fun f args=>(match Nat.beq f F.Cw with
 |true=>tz args
 | false=>match Nat.beq f F.bV with
  |true=>tA args
  |false=>none),seq:=gT,seqK:=kv}
def uj:LdQ:=[.int .u64 1,.int .u64 10,.int .u64 100,.int .u64 1000,.int .u64 10000,.int .u64 100000,.int .u64 1000000,.int .u64 10000000,.int .u64 100000000,.int .u64 1000000000,.int .u64 10000000000,.int .u64 100000000000,
 .int .u64 1000000000000,.int .u64 10000000000000,.int .u64 100000000000000,.int .u64 1000000000000000,.int .u64 10000000000000000,.int .u64 100000000000000000,.int .u64 1000000000000000000,.int .u64 10000000000000000000]
def Y:bD:={X:=X,ty:=fun t=>rH (kr gO (t/16)) (t%16),glob:=fun g=>(match Nat.beq g FZ with
 |true=>some uj
 |false=>none),seq:=tZ}
end
end Go.Vm
set_option maxRecDepth 100000
namespace Go.Vm
open Go Go.Am
variable{x:Prop}{y w:Value}{P:Program}{t:TypeId}{d p:D}{z l:LdQ}{k k':kkQ}{a b f v0 c v:V}{h0 h:Hp}{T:kkQ->Prop}{s n m:Nat}{ps:List (Nat×V)}{dr:Bool}
def uP:Value->Value->Bool
 |.pointer none,.pointer none=>true
 |.slice none a b,.slice none c d=>a == c&&b == d
 |.nilFunc,.nilFunc=>true
 |.nilIface,.nilIface=>true
 |.map none,.map none=>true
 |.chan none,.chan none=>true
 |_,_=>false
theorem acY{x:Value}(h:uP x y=true):x=y:=by unfold uP at h;split at h<;>first|rfl|(simp at h;obtain⟨rfl,rfl⟩:=h;rfl)|cases h
def uQ:D->D->Bool
 |.int k a,.int l b=>decide (k=l)&&decide (a=b)
 |.bool a,.bool b=>a == b
 |.str a,.str b=>a == b
 |.pl a,.pl b=>uP a b
 |_,_=>false
theorem sL{x y:D}(h:uQ x y=true):x=y:=by
 unfold uQ at h;split at h
 .simp at h;obtain⟨rfl,rfl⟩:=h;rfl
 .simp at h;subst h;rfl
 .simp at h;subst h;rfl
 .rw[acY h]
 .cases h
def qM:LdQ->LdQ->Bool
 |[],[]=>true
 |x::l,y::m=>uQ x y&&qM l m
 |_,_=>false
theorem nF:∀{l m:LdQ},qM l m=true->l=m
 |[],[],_=>rfl
 | x::l,y::m,h=>by
  simp only[qM,Z7]at h;rw[sL h.1,nF h.2]
 |[],_::_,h=>by cases h
 |_::_,[],h=>by cases h
def qt(P:Program)(t:TypeId)(k:Ty):Bool:=match k with
 |.i k=>match P.underlying t with|some (.int k')=>decide (k'=k)|_=>false
 |.b=>match P.underlying t with|some .bool=>true|_=>false
 |.s=>match P.underlying t with|some .string=>true|_=>false
 |.p=>match P.underlying t with|some (.pointer _)=>true|_=>false
 |.f=>match P.underlying t with|some (.func ..)=>true|_=>false
 |.it=>match P.underlying t with|some (.interface _)=>true|_=>false
 |.sl e=>match P.underlying t with|some (.slice e')=>e' == e|_=>false
 |.ar n e=>match P.underlying t with|some (.array n' e')=>n' == n&&e' == e|_=>false
 |.st fs=>match P.underlying t with|some (.struct gs)=>decide (gs.toList.map (fun f=>(f.offset,szO P f.type))=fs.map fun p=>(p.1,some p.2))|_=>false
 |.o=>true
def mC(P:Program)(t:TypeId):D->Bool
 |.int _ _=>match P.underlying t with|some (.int _)=>true|_=>false
 |.bool _=>match P.underlying t with|some .bool=>true|_=>false
 |.str _=>match P.underlying t with|some .string=>true|_=>false
 |_=>false
theorem oE(h:mC P t d=true):nD P t d:=by
 unfold mC at h;split at h
 .split at h
  .rename_i hu;exact⟨_,hu⟩
  .cases h
 .split at h
  .rename_i hu;exact hu
  .cases h
 .split at h
  .rename_i hu;exact hu
  .cases h
 .cases h
def qG(P:Program)(t:TypeId)(z:LdQ):Bool:=match P.underlying t with
 |some (.struct gs)=> !P.stoodInHeld t && !P.eqGuardType P.depth t&&decide (gs.size=z.length)&&(gs.toList.zipIdx.zip z).all fun x=>x.1.1.offset == x.1.2&&x.1.1.name != "_" && mC P x.1.1.type x.2
 |_=>false
theorem qF(h:qG P t z=true):R7 P t z:=by
 unfold qG at h;split at h
 .rename_i gs hu;simp only[Z7,Zp,decide_eq_true_eq,Z3]at h;obtain⟨⟨⟨h1,h2⟩,h3⟩,h4⟩:=h;refine⟨gs,hu,h1,h2,h3,fun i f d hf hd=>?_⟩
  have:=h4 ((f,i),d) (by
   apply Zf (i:=i);rw[List.getElem?_zip_eq_some];exact⟨by rw[List.getElem?_zipIdx,hf];simp,hd⟩)
  simp only[beq_iff_eq,bne_iff_ne]at this;exact⟨this.1.1,this.1.2,oE this.2⟩
 .cases h
def tyB(P:Program)(t:TypeId)(i:TyI):Bool:=(!i.eq||qG P t i.z)&&match i.k with
 |.o=>true
 | k=>qt P t k&&decide (szO P t=some i.sz)&&decide (cW P t=some i.bytes)&&match bb P t with
  |some z=>plain z&&z.cells.size == i.sz&&(z.cells.toList.all fun c=>plain c&&okCell c)&&qM (z.cells.toList.map bv) i.z
  |none=>false
theorem mW{i:TyI}(h:tyB P t i=true):iB P t i:=by
  unfold tyB at h;rw[Z7]at h;obtain⟨h0,h⟩:=h
  have heq:i.eq=true->R7 P t i.z:=fun e=>by
    rw[e]at h0;exact qF (by simpa using h0)
  by_cases hk:i.k = .o
  · exact⟨by rw[hk];trivial,fun h=>absurd hk h,fun h=>absurd hk h,fun h=>absurd hk h,heq⟩
  · have h2:qt P t i.k=true∧szO P t=some i.sz∧cW P t=some i.bytes∧(match bb P t with
        |some z=>plain z&&z.cells.size == i.sz&&(z.cells.toList.all fun c=>plain c&&okCell c)&&qM (z.cells.toList.map bv) i.z
        |none=>false)=true:=by
      split at h
      · rename_i e;exact absurd e hk
      · simp only[Z7,decide_eq_true_eq]at h
        exact⟨h.1.1.1,h.1.1.2,h.1.2,h.2⟩
    obtain⟨h1,h2,h3,h4⟩:=h2;refine⟨?_,fun _=>h2,fun _=>h3,fun _=> ?_,heq⟩
    · unfold qt at h1
      cases hq:i.k<;>rw[hq]at h1<;>dsimp only at h1 ⊢
      all_goals first
        |trivial
        | (split at h1
           · rename_i hu
             first
               |(simp only[decide_eq_true_eq]at h1;subst h1;exact hu)
               |exact hu
               |exact⟨_,hu⟩
               |exact⟨_,_,_,hu⟩
               |(simp only[beq_iff_eq]at h1;subst h1;exact hu)
               |(simp only[Z7,beq_iff_eq]at h1;obtain⟨rfl,rfl⟩:=h1;exact hu)
               |(simp only[decide_eq_true_eq]at h1;exact⟨_,hu,h1⟩)
           · cases h1)
    · split at h4
      · rename_i z hz
        simp only[Z7,beq_iff_eq,Z3]at h4;refine⟨z,hz,h4.1.1.1,nF h4.2,h4.1.1.2,fun c hc=> ?_⟩;have:=h4.1.2 c hc;exact this
      · cases h4
theorem fE:∀(l:List (List TyI))(n:Nat),l.length<=n->kr l n=[]
 |[],_,_=>rfl
 |_::_,0,h=>by simp at h
 |_::l,n+1,h=>fE l n (by simpa using h)
theorem tU:(List.range (16*gO.length)).all (fun t=>tyB Y.X.P t (Y.ty t))=true:=dQ
section
variable{F:Nat->Prop}{H:AH}
theorem fi:∀{l:LdQ}{xs:LvQ},lits l=some xs->(∀v∈xs,okZ v)∧∀ws,RDs F H l ws->ws=xs
 | [],xs,h=>by
  simp only[lits,Z9]at h;subst h;exact⟨fun v hv=>(by cases hv),fun ws hw=>by simpa only[RDs]using hw⟩
 | x::l,xs,h=>by
  unfold lits at h;split at h
  .rename_i k n r hr;simp only[Z9]at h;subst h;obtain⟨q1,q2⟩:=fi hr;refine⟨fun v hv=>?_,fun ws hw=>?_⟩
   .rcases Zs.1 hv with rfl|hv
    .exact⟨rfl,rfl⟩
    .exact q1 v hv
   .simp only[RDs,RD]at hw;obtain⟨v,us,rfl,rfl,h2⟩:=hw;rw[q2 us h2]
  .rename_i s r hr;simp only[Z9]at h;subst h;obtain⟨q1,q2⟩:=fi hr;refine⟨fun v hv=>?_,fun ws hw=>?_⟩
   .rcases Zs.1 hv with rfl|hv
    .exact⟨rfl,rfl⟩
    .exact q1 v hv
   .simp only[RDs,RD]at hw;obtain⟨v,us,rfl,rfl,h2⟩:=hw;rw[q2 us h2]
  .cases h
theorem pk{k:Nat}{xs:LvQ}(h:slD p=some (k,l))(hl:lits l=some xs)(hk:xs.length=k)(hw:RD F H p w):FS H 1 w=some (k,xs):=by
 obtain⟨q1,q2⟩:=fi (F:=F) (H:=H) hl;unfold slD at h;split at h
 .rename_i n l';simp only[Z9,Z8]at h;obtain⟨rfl,rfl⟩:=h;simp only[RD]at hw;rcases hw with⟨rfl,rfl,h3⟩|⟨c,o,cap,vs,m,rfl,h1,h2,h3,h4,h5,h6,h7,h8⟩
  .simp only[lits,Z9]at hl;subst hl;rcases h3 with rfl|⟨c,o,cap,rfl,_⟩
   .rfl
   .simp[FS]
  .have e:=q2 vs h7;subst e
   have hl:l'.length=n:=by
    rw[<-hk,oj h6]
   simp only[FS,X9];rw[if_neg aa,<-hl,h6];simp
 .simp only[Z9,Z8]at h;obtain⟨rfl,rfl⟩:=h;simp only[lits,Z9]at hl;subst hl;simp only[RD]at hw;obtain⟨rfl,_⟩:=hw;rfl
 .cases h
theorem pj{k:Nat}(h:slD p=some (k,l))(hw:RD F H p w):mD w=true:=by
 unfold slD at h;split at h
 .rename_i n l';simp only[RD]at hw;rcases hw with⟨_,_,h3⟩|⟨c,o,cap,vs,m,rfl,_⟩
  .rcases h3 with rfl|⟨c,o,cap,rfl,_⟩<;>rfl
  .rfl
 .simp only[RD]at hw;obtain⟨rfl,_⟩:=hw;rfl
 .cases h
theorem gm{q:D}{xs:List LvQ}(h:rG p q=some xs):(∀z∈xs,∀v∈z,okZ v)∧∀v w,RD F H p v->RD F H q w->R8 H v w=some xs:=by
 unfold rG at h;split at h
 case h_2=>cases h
 rename_i k l k' m hp hq;split at h
 case h_2=>cases h
 rename_i us vs hl hm;split at h
 case isFalse=>cases h
 rename_i hc;simp only[Z9]at h;subst h;have o1:=(fi (F:=F) (H:=H) hl).1;have o2:=(fi (F:=F) (H:=H) hm).1;refine⟨fun z hz v hv=>?_,fun v w hv hw=>?_⟩
 .obtain⟨⟨a,b⟩,hab,rfl⟩:=Zi.1 hz;have:=List.of_mem_zip hab;simp only[Zs,Ye,or_false]at hv;rcases hv with rfl|rfl
  .exact o1 _ this.1
  .exact o2 _ this.2
 .unfold R8;rw[pk hp hl hc.2.1 hv,pk hq hm (hc.2.2.1.trans hc.1) hw];have c1:(us.all fun v=>plain v&&okCell v)=true:=Z3.2 fun x hx=>by have:=o1 x hx;simp[this.1,this.2]
  have c2:(vs.all fun v=>plain v&&okCell v)=true:=Z3.2 fun x hx=>by have:=o2 x hx;simp[this.1,this.2]
  exact if_pos ⟨hc.1,hc.2.1,hc.2.2.1,hc.2.2.2,by rw[pj hp hv,pj hq hw];rfl,c1,c2⟩
end
theorem yOk:YOk Y where
 seq gf cs xs h0:=by
  have h:tZ gf cs=some xs:=h0;clear h0;unfold tZ at h;split at h
  .rename_i hg;split at h
   .rename_i p q d;refine⟨(gm (F:=fun _=>True) (H:=⟨0,[]⟩) h).1,fun φ F H hp lb hr=>?_⟩;simp only[RVs,RV]at hr;obtain⟨v,_,rfl,⟨c,o,vs,rfl,hF,hrd,hd⟩,rfl⟩:=hr;simp only[RDs]at hd;obtain⟨v1,_,rfl,d1,v2,_,rfl,d2,v3,_,rfl,d3,rfl⟩:=hd;rw[show([p,q,d]:LdQ).length=3 from rfl]at hrd;refine⟨?_,fun F' H' hl=>?_⟩
    .rw[show Y.X.seq=gT from rfl];unfold gT;rw[hg];simp only[Nat.add_zero];rw[hrd];exact(gm h).2 _ _ d1 d2
    .rw[show Y.X.seqK=kv from rfl];simp only[kv,Nat.add_zero];rw[cu (hl.keep c hF)]
   .cases h
  .rename_i hg;split at h
   .rename_i hg2;split at h
    .rename_i p q;refine⟨(gm (F:=fun _=>True) (H:=⟨0,[]⟩) h).1,fun φ F H hp lb hr=>?_⟩;simp only[RVs,RV]at hr;obtain⟨v,_,rfl,⟨c,o,vs,rfl,hF,hrd,hd⟩,v',_,rfl,⟨c',o',vs',rfl,hF',hrd',hd'⟩,rfl⟩:=hr;simp only[RDs]at hd hd';obtain⟨v1,_,rfl,d1,rfl⟩:=hd;obtain⟨v2,_,rfl,d2,rfl⟩:=hd';rw[show([p]:LdQ).length=1 from rfl]at hrd;rw[show([q]:LdQ).length=1 from rfl]at hrd'
     refine⟨?_,fun F' H' hl=>?_⟩
     .rw[show Y.X.seq=gT from rfl];unfold gT;rw[hg,hg2];simp only[Nat.add_zero];rw[hrd,hrd'];exact(gm h).2 _ _ d1 d2
     .rw[show Y.X.seqK=kv from rfl];simp only[kv,Nat.add_zero];rw[cu (hl.keep c hF),cu (hl.keep c' hF')]
    .cases h
   .cases h
 ty t:=by
  by_cases ht:t<16*gO.length
  .exact mW (Z3.1 tU t (Zb.2 ht))
  .refine mW ?_
   have:(Y.ty t).k=.o:=by
    show(rH (kr gO (t/16)) (t%16)).k=.o
    have h2:∀t n:Nat,¬t<16*n->n<=t/16:=fun t n hn=>by omega
    rw[fE gO (t/16) (h2 t _ ht)];rfl
   have h2:(Y.ty t).eq=false:=by
    show(rH (kr gO (t/16)) (t%16)).eq=false
    have h2:∀t n:Nat,¬t<16*n->n<=t/16:=fun t n hn=>by omega
    rw[fE gO (t/16) (h2 t _ ht)];rfl
   unfold tyB;rw[this,h2];rfl
theorem aea{o:Option V}{k k':V->Prop}(h1:x=bnd o k)(h:∀v,k v=k' v):x=bnd o k':=by rw[h1,funext h]
theorem adU{o:V}{i:Nat}{k k':V->Prop}(h1:x=ext o i k)(h:∀v,k v=k' v):x=ext o i k':=by rw[h1,funext h]
theorem aaA{op:BinOp}{k k':V->Prop}(h1:x=oA h0 op a b k)(h:∀v,k v=k' v):x=oA h0 op a b k':=by rw[h1,funext h]
theorem JJ(h1:x=T k)(h:∀v h,k v h=k' v h):x=T k':=by rw[h1,show k=k' from funext fun v=>funext fun y=>h v y]
theorem ad3{C:fR}{a:LwQ}(h1:x=cal C h0 f a k)(h:∀v h,k v h=k' v h):x=cal C h0 f a k':=JJ h1 h
theorem ad4{C:ee}{a:LwQ}(h1:x=cai C h0 f a s k)(h:∀v h,k v h=k' v h):x=cai C h0 f a s k':=JJ h1 h
theorem aec{cs:LwQ}(h1:x=alV s cs h0 k)(h:∀v h,k v h=k' v h):x=alV s cs h0 k':=JJ h1 h
theorem aed{cs:LdQ}(h1:x=alD s n cs h0 k)(h:∀v h,k v h=k' v h):x=alD s n cs h0 k':=JJ h1 h
theorem abC(h1:x=oR s v0 h0 k)(h:∀v h,k v h=k' v h):x=oR s v0 h0 k':=JJ h1 h
theorem aaX(h1:x=mB n z ps h0 k)(h:∀v h,k v h=k' v h):x=mB n z ps h0 k':=JJ h1 h
theorem aaW(h1:x=mA s n z ps h0 k)(h:∀v h,k v h=k' v h):x=mA s n z ps h0 k':=JJ h1 h
theorem adN(h1:x=mkS s n z h0 a b k)(h:∀v h,k v h=k' v h):x=mkS s n z h0 a b k':=JJ h1 h
theorem adw(h1:x=stD h0 n a b k)(h:∀v h,k v h=k' v h):x=stD h0 n a b k':=JJ h1 h
theorem aeb(h1:x=apV dr s n m a b h0 k)(h:∀v h,k v h=k' v h):x=apV dr s n m a b h0 k':=JJ h1 h
theorem afH(h1:x=apZ dr s n m z a b h0 k)(h:∀v h,k v h=k' v h):x=apZ dr s n m z a b h0 k':=JJ h1 h
theorem afq{w:Bool}(h1:x=gd c w h0 T k)(h:∀v h,k v h=k' v h):x=gd c w h0 T k':=JJ h1 h
theorem ad0{A A' B B':Prop}(h1:x=cnd c A B)(ha:A=A')(hb:B=B'):x=cnd c A' B':=by rw[h1,ha,hb]
theorem afn{k k':LwQ->Hp->Prop}{T T':(LwQ->Hp->Prop)->Prop}(h1:x=jn k T)(hk:∀l h,k l h=k' l h)(hT:∀q,T q=T' q):x=jn k' T':=by rw[h1,show k=k' from funext fun v=>funext fun y=>hk v y,show T=T' from funext hT]
theorem afh{s s':AP}{clr:LnQ}{h2:Hp}{l:LwQ}{k k':KL}(h1:x=lp s clr h0 l h2 k)(hs:∀l h q,s l h q=s' l h q)(hk:∀ex l h,k ex l h=k' ex l h):x=lp s' clr h0 l h2 k':=by rw[h1,show s=s' from funext fun a=>funext fun b=>funext fun c=>hs a b c,show k=k' from funext fun a=>funext fun b=>funext fun c=>hk a b c]
theorem adV{e ex:Exit}{q q':LwQ->Hp->Prop}{r r':List (Exit×(LwQ->Hp->Prop))}{l:LwQ}(h1:x=exK ((e,q)::r) ex l h)(hq:∀l h,q l h=q' l h)(hr:exK r ex l h=exK r' ex l h):x=exK ((e,q')::r') ex l h:=by
 rw[h1,show q=q' from funext fun v=>funext fun y=>hq v y];simp only[exK];split
 .rfl
 .exact hr
theorem aaY{y:Prop}{k:V->Prop}(h1:x=bnd (some v) k)(h2:k v=y):x=y:=h1.trans h2
noncomputable def gl(g:Nat):V:=match Y.glob g with
 |some cs=>.dptr cs 0
 |none=>.junk
end Go.Vm
