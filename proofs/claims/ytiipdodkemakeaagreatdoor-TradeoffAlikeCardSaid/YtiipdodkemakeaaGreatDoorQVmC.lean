/- Lemmas. -/
import Derived.Test.YtiipdodkemakeaaGreatDoorQVmB
set_option linter.unusedVariables false
set_option linter.unusedSimpArgs false
namespace Go.Vm
open Go Go.Am
variable{p:Prop}{k:IntKind}{n i:Int}{j a b:Nat}{C:tu}{args ds:LwQ}
@[simp]theorem Ac(v:V)(k:V->Prop):bnd (some v) k=k v:=rfl
theorem VW[Decidable p](hp:p)(x y:V):mV (.d (.bool (decide p))) x y=some x:=by simp[mV,hp]
theorem abR[Decidable p](hp:¬p)(x y:V):mV (.d (.bool (decide p))) x y=some y:=by simp[mV,hp]
@[simp low]theorem agf(b:Bool)(x y:V):mV (.d (.bool b)) x y=some (if b=true then x else y):=by cases b<;>rfl
@[simp]theorem aiP(l:LwQ)(i:Nat)(k:V->Prop):ext (.tup l) i k=bnd l[i]? k:=rfl
theorem Mv{k:LwQ->Hp->Prop}{T:(LwQ->Hp->Prop)->Prop}{l:LwQ}{h:Hp}(hT:∀q,T q=q l h):jn k T=k l h:=hT k
@[simp]theorem QZ(x:V)(l:LwQ):ge (x::l) 0=x:=rfl
@[simp]theorem aiL(x:V)(l:LwQ)(n:Nat):ge (x::l) (n+1)=ge l n:=rfl
@[simp]theorem aj0(x y:V)(l:LwQ):ge (x::y::l) 1=y:=rfl
@[simp]theorem ajZ(x y z:V)(l:LwQ):ge (x::y::z::l) 2=z:=rfl
@[simp]theorem ahJ(x y z u:V)(l:LwQ):ge (x::y::z::u::l) 3=u:=rfl
@[simp] theorem kR (i:Nat)(q:LwQ->Hp->Prop)(r:List (Exit×(LwQ->Hp->Prop)))(l:LwQ)(h:Hp):exK ((.exit i,q)::r) (.exit i) l h=q l h:=by simp only[exK,ZJ,Xi]
@[simp]theorem Du(q:LwQ->Hp->Prop)(r:List (Exit×(LwQ->Hp->Prop)))(l:LwQ)(h:Hp):exK ((.ret,q)::r) .ret l h=q l h:=rfl
@[simp]theorem zU(i:Nat)(p:LwQ->Hp->Prop)(r:List (Exit×(LwQ->Hp->Prop)))(l:LwQ)(h:Hp):exK ((.exit i,p)::r) .ret l h=exK r .ret l h:=rfl
theorem ak{step:aS}{clr:LnQ}{h0:Hp}{l:LwQ}{h:Hp}{k:KL}(hs:step l h (lpK clr h0 (fun l h=>lp step clr h0 l h k) k)):lp step clr h0 l h k:=by
 intro I hI;refine hI l h ⟨_,hs,fun ex l' h' hq=>?_⟩;cases ex
 case normal=>exact⟨hq.1,hq.2 I hI⟩
 all_goals exact hq
@[simp]theorem ae6(clr:LnQ)(h0:Hp)(I:LwQ->Hp->Prop)(k:KL)(l:LwQ)(h:Hp):lpK clr h0 I k .normal l h=(clean clr l h=true∧I l (aO clr 0 h0 h)):=rfl
@[simp]theorem aho(clr:LnQ)(h0:Hp)(I:LwQ->Hp->Prop)(k:KL)(i:Nat)(l:LwQ)(h:Hp):lpK clr h0 I k (.exit i) l h=k (.exit i) l h:=rfl
@[simp]theorem aiE(clr:LnQ)(h0:Hp)(I:LwQ->Hp->Prop)(k:KL)(l:LwQ)(h:Hp):lpK clr h0 I k .ret l h=k .ret l h:=rfl
theorem HJ:∀l:LwQ,iX [] l=true:=by
 intro l
 have key:∀x:V,pN [] x=true:=by
  intro x
  induction x using V.rec (motive_2:=fun l=>iX [] l=true)with
  |agg l ih=>trivial
  |tup l ih=>trivial
  |fn g a b iha ihb=>grind[pN]
  |ifc t x ih=>trivial
  |nil=>rfl
  |cons x l ih ihl=>grind[iX]
  |_=>rfl
 induction l with
 |nil=>rfl
 |cons x l ih=>grind[iX]
theorem LU:∀(h:Hp)(i:Nat),pz [] i h=true
 |[],_=>rfl
 | (_,b)::h,i=>by
  simp only[pz,LU h,Ya,Yg,Y0];right;cases b<;>simp[offB,HJ]
@[simp]theorem clean_nil(l:LwQ)(h:Hp):clean [] l h=true:=by simp[clean,HJ,LU]
theorem Hz:∀(i:Nat)(h0 h:Hp),h.length=h0.length->aO [] i h0 h=h
 |_,[],h,_=>by cases h<;>rfl
 |_,_::_,[],_=>rfl
 | i,(e0,b0)::h0,(e,b)::h,hl=>by
  simp only[aO,gX,if_true];rw[Hz (i+1) h0 h (by grind)]
theorem wrap_i64(h : -9223372036854775808<=n∧n<=9223372036854775807):IntKind.wrap .i64 n=n:=by
 have e1:(2:Int)^64=18446744073709551616:=af;have e2:(2:Int)^(64-1)=9223372036854775808:=af
 grind[IntKind.wrap,IntKind.bits,IntKind.signed]
theorem ND(hk:k.signed=false)(h:0<=n∧n<2^k.bits):k.wrap n=n:=by grind[IntKind.wrap,Int.emod_eq_of_lt]
theorem wrap_u64(h:0<=n∧n<18446744073709551616):IntKind.wrap .u64 n=n:=ND rfl h
theorem wrap_u32(h:0<=n∧n<4294967296):IntKind.wrap .u32 n=n:=ND rfl h
theorem G1(n:Int):IntKind.wrap .u64 n=n%18446744073709551616:=by rfl
@[simp]theorem ai1(k:IntKind)(a b:Int):biI .lss (.d (.int k a)) (.d (.int k b))=some (.d (.bool (decide (a<b)))):=by simp[biI,iD,mX,jf]
@[simp]theorem ai2(k:IntKind)(a b:Int):biI .leq (.d (.int k a)) (.d (.int k b))=some (.d (.bool (decide (a<=b)))):=by simp[biI,iD,mX,jf]
@[simp]theorem ai3(k:IntKind)(a b:Int):biI .gtr (.d (.int k a)) (.d (.int k b))=some (.d (.bool (decide (b<a)))):=by simp[biI,iD,mX,jf]
@[simp]theorem ai4(k:IntKind)(a b:Int):biI .geq (.d (.int k a)) (.d (.int k b))=some (.d (.bool (decide (b<=a)))):=by simp[biI,iD,mX,jf]
@[simp]theorem ai5(k:IntKind)(a b:Int):biI .eql (.d (.int k a)) (.d (.int k b))=some (.d (.bool (decide (a=b)))):=by simp[biI,iD,mX,jf];rfl
@[simp]theorem ai0(k:IntKind)(a b:Int):biI .neq (.d (.int k a)) (.d (.int k b))=some (.d (.bool (decide (a≠b)))):=by simp[biI,iD,mX,jf];rfl
theorem Ah(k:IntKind)(a b:Int):biI .add (.d (.int k a)) (.d (.int k b))=some (.d (.int k (k.wrap (a+b)))):=by simp[biI,iD,mX,jf]
theorem Ae(k:IntKind)(a b:Int):biI .sub (.d (.int k a)) (.d (.int k b))=some (.d (.int k (k.wrap (a-b)))):=by simp[biI,iD,mX,jf]
theorem Ag(k:IntKind)(a b:Int):biI .mul (.d (.int k a)) (.d (.int k b))=some (.d (.int k (k.wrap (a*b)))):=by simp[biI,iD,mX,jf]
@[simp]theorem Rq(k l:IntKind)(n:Int):cvI k (.d (.int l n))=some (.d (.int k (k.wrap n))):=rfl
@[simp]theorem ai7(a b:Bool):biB .eql (.d (.bool a)) (.d (.bool b))=some (.d (.bool (a == b))):=rfl
@[simp]theorem ai6(a b:Bool):biB .neq (.d (.bool a)) (.d (.bool b))=some (.d (.bool (a !=b))):=rfl
@[simp]theorem aij(b:Bool):unV .not (.d (.bool b))=some (.d (.bool (!b))):=rfl
def lst{α:Type}(f:α->D)(l:List α):V:=.d (.sl l.length (l.map f))
section
variable{α:Type}(f:α->D)(l:List α)
@[simp]theorem aht:aY (lst f l)=some (I l.length):=rfl
theorem iC(h:Hp)(hj:i=j)(hl:j<l.length):ixV h 1 (lst f l) (.d (.int k i))=some (.dptr (l.map f) j):=by subst hj;simp only[ixV,lst];rw[if_pos ⟨aa,aa,ae⟩];simp
theorem lK(h:Hp)(hl:j<l.length):ld1 h (.dptr (l.map f) j)=some (.d (f l[j])):=by simp[ld1,hl]
end
section
variable{α:Type}(f:α->D)(l:List α)
theorem FY(d top:Nat):boV d top none=some d:=rfl
theorem wN{d top:Nat}(hi:i=j)(hj:j<=top):boV d top (some (.d (.int k i)))=some j:=by subst hi;simp only[boV];rw[if_pos ⟨aa,aa⟩];simp
theorem UM{h:Hp}{lo hi:Option V}{i:Nat}(h0:0<l.length)(hj:boV l.length l.length hi=some j)(hi2:boV 0 j lo=some i)(hij:i<=j)(hjl:j<=l.length):slV h 1 (lst f l) lo hi=some (lst f ((l.drop i).take (j-i))):=by simp only[slV,lst,hj,hi2];rw[if_pos ⟨ae,h0⟩];simp only[Ym,List.map_take,List.map_drop,Zo,Yt];rw[Yx aa]
theorem adK{h:Hp}(h0:0<l.length)(hi:i=j)(hj:j<=l.length):slV h 1 (lst f l) none (some (I i))=some (lst f (l.take j)):=by rw[UM f l h0 (wN hi hj) (FY 0 j) (Y4 _) hj];simp
theorem agW{h:Hp}(h0:0<l.length)(hi:i=j)(hj:j<=l.length):slV h 1 (lst f l) (some (I i)) none=some (lst f (l.drop j)):=by rw[UM f l h0 (FY _ _) (wN hi hj) hj (Z8 _)];rw[Zw ae]
end
@[simp]theorem ajo(h:Hp)(x:D):aD h (.d x)=some (.d (norm x),h):=by rfl
@[simp]theorem ahh(k:IntKind)(n:Int):norm (.int k n)=.int k n:=rfl
@[simp]theorem agj(b:Bool):norm (.bool b)=.bool b:=rfl
@[simp]theorem ahd(s:LuQ):norm (.str s)=.str s:=rfl
@[simp]theorem aiA(n:Nat)(l:LdQ):norm (.sl n l)=.sl n l:=rfl
@[simp]theorem ahg:norm (.pl (.slice none 0 0))=.sl 0 []:=rfl
@[simp]theorem K2{α:Type}(h:Hp)(f:α->D)(l:List α):aD h (lst f l)=some (lst f l,h):=by rfl
@[simp]theorem agb(h:Hp):ai h []=some ([],h):=by rfl
theorem gL{D:qG}{h h':Hp}{f:FuncId}{args:LwQ}{v:V}{s:Nat}{k:kkQ}(hc:D f args h v h')(hk:k v h')(hn:∀n cells ex len cap,v≠.new n cells ex len cap)(hn2:∀n,v≠.cut n:=by simp)(hn3:∀n cells ex len cap y,v≠.tup [.new n cells ex len cap,.d y]:=by intro _ _ _ _ _ _ h;cases h)
  (hn4:∀n cells ex len cap,v≠.tup [.new n cells ex len cap]:=by intro _ _ _ _ _ h;cases h) (hn5:∀n cells ex len cap y,v≠.tup [.tup [.new n cells ex len cap],.d y]:=by intro _ _ _ _ _ _ h;cases h):cai D h (.fn f [] []) args s k:=by grind[cai]
theorem aaB{h h':Hp}{f:FuncId}{args:LwQ}{n len cap:Nat}{cells:LdQ}{y:D}{s e:Nat}{b:Bk}{ex:Bool}{k:kkQ}{DD:qG}(hc:DD f args h (.tup [.new n cells ex len cap,.d y]) h')(hs:h'[s]?=some (e,b))
  (hk:k (.tup [.ref s (e+1) 0 len cap cells.length,.d y]) (h'.set s (e+1,.data n cells ex false))):cai DD h (.fn f [] []) args s k:=by grind[cai,new]
theorem gv{h h':Hp}{f:FuncId}{args:LwQ}{n len cap:Nat}{cells:LdQ}{s e:Nat}{b:Bk}{ex:Bool}{k:kkQ}{DD:qG}(hc:DD f args h (.new n cells ex len cap) h')(hs:h'[s]?=some (e,b))
  (hk:k (.ref s (e+1) 0 len cap cells.length) (h'.set s (e+1,.data n cells ex false))):cai DD h (.fn f [] []) args s k:=by grind[cai,new]
theorem pY{h h':Hp}{f:FuncId}{v:V}{k:kkQ}(hs:ai h args=some (ds,h'))(hc:C f ds v)(hk:k v (if cC v then h else h')):cal C h (.fn f [] []) args k:=by grind[cal]
theorem ah2{h:Hp}{f:FuncId}{v:V}{k:kkQ}(hc:C f args v)(hs:ai h args=some (args,h))(hk:k v h):cal C h (.fn f [] []) args k:=
 pY hs hc (by grind)
theorem WB{x:D}{h:Hp}(hx:norm x=x):out (.d x) (.d x) h:=⟨h,by simp[hx]⟩
theorem abW{α:Type}(f:α->D)(l:List α)(h:Hp):out (lst f l) (lst f l) h:=⟨h,ae⟩
@[simp]theorem aix(k:IntKind)(n:Int)(h:Hp):out (.d (.int k n)) (.d (.int k n)) h:=WB rfl
@[simp]theorem LM(b:Bool)(h:Hp):out (.d (.bool b)) (.d (.bool b)) h:=WB rfl
theorem IX{l:IntKind}(hb:b<=k.bits):biI .shr (.d (.int k a)) (.d (.int l b))=some (.d (.int k ((a/2^b:Nat):Int))):=by
 have h1:¬((b:Int)<0):=aa
 grind[biI,iD,mX,jf]
theorem xn(h:a+b<18446744073709551616):biI .add (.d (.int .u64 a)) (.d (.int .u64 b))=some (.d (.int .u64 ((a+b:Nat):Int))):=by rw[Ah,wrap_u64 aa];simp
theorem Di(h:a*b<18446744073709551616):biI .mul (.d (.int .u64 a)) (.d (.int .u64 b))=some (.d (.int .u64 ((a*b:Nat):Int))):=by grind[Ag,wrap_u64]
theorem afG(h:a<18446744073709551616):cvI .u64 (.d (.int k a))=some (.d (.int .u64 a)):=by rw[Rq,wrap_u64 aa]
section
variable{α:Type}{f:α->D}{l:List α}{h:Hp}{s e:Nat}{ex fr:Bool}
end
theorem UH{α:Type}{f:α->D}{l:List α}{h:Hp}{s e:Nat}{ex fr:Bool}(hs:h[s]?=some (e,.data 1 (l.map f) ex fr)){n m tot:Nat}(hn:n=l.length)(hm:n<=m)(ht:tot=l.length):
  aD h (.ref s e 0 n m tot)=some (lst f l,h.set s (e,.data 1 (l.map f) ex true)):=by subst hn;subst ht;simp only[aD,toD,ax,hs,if_true,List.length_map];rw[if_pos ⟨trivial,hm,aa⟩];simp only[Yc,Ym,bL,lst];rw[Zw ae]
end Go.Vm
namespace Go.Big
variable{l a b o:LnQ}{i x n k m:Nat}
def val(B:Nat):LnQ->Nat
 |[]=>0
 |x::l=>x+B*val B l
def iI:LnQ->LnQ
 |[]=>[]
 | x::l=>match iI l with
  |[]=>if x=0 then[]else[x]
  |y::r=>x::y::r
def CN(B:Nat):Nat->Nat->LnQ
 |0,_=>[]
 |f+1,n=>if n=0 then[]else n%B::CN B f (n/B)
def dig(B n:Nat):LnQ:=CN B n n
def aH(B:Nat)(l:LnQ):Prop:=∀x∈l,x<B
section
variable{B:Nat}
theorem val_append(a b:LnQ):val B (a++b)=val B a+B^a.length*val B b:=by
 induction a with
 |nil=>simp[val]
 |cons x a ih=>grind[val]
theorem jD(hB:0<B)(h:aH B l):val B l<B^l.length:=by
 induction l with
 |nil=>simp[val]
 | cons x l ih=>
  have h1:=ih fun y hy=>h y (by grind)
  have h2:=h x ae;simp only[val,List.length_cons,Nat.pow_succ];have:B*(val B l+1)<=B*B^l.length:=Z0 B h1
  grind
theorem aH.take{l:LnQ}(h:aH B l)(n:Nat):aH B (l.take n):=fun x hx=>h x (Wz hx)
theorem aH.drop{l:LnQ}(h:aH B l)(n:Nat):aH B (l.drop n):=fun x hx=>h x (List.mem_of_mem_drop hx)
theorem aH.get(h:aH B l)(hi:i<l.length):l[i]<B:=h _ (Ze hi)
theorem aH.append(ha:aH B a)(hb:aH B b):aH B (a++b):=fun x hx=>by
 rcases W0.1 hx with h|h
 .exact ha x h
 .exact hb x h
theorem R3(l:LnQ):val B (iI l)=val B l:=by
 induction l with
 |nil=>rfl
 | cons x l ih=>
  grind[iI,val]
theorem KJ(h:aH B l):aH B (iI l):=by
 induction l with
 |nil=>exact h
 | cons x l ih=>
  have h1:=ih fun y hy=>h y (by grind)
  have hx:=h x ae;unfold iI;split
  .split
   .grind
   .intro y hy;grind
  .rename_i y r he;rw[he]at h1;intro z hz;rcases Zx.1 hz with rfl|hz
   .exact hx
   .exact h1 z hz
def Ap(l:LnQ):Prop:=∀h:l≠[],l.getLast h≠0
theorem NI(l:LnQ):Ap (iI l):=by
 induction l with
 |nil=>intro h;trivial
 | cons x l ih=>
  unfold iI;split
  .split
   .grind
   .rename_i hx;intro h;trivial
  .rename_i y r he;rw[he]at ih;intro h;rw[List.getLast_cons ae];exact ih ae
theorem Gi(h:Ap l):iI l=l:=by
 induction l with
 |nil=>rfl
 | cons x l ih=>
  unfold iI;cases l with
  | nil=>
   have:=h ae
   grind[iI]
  | cons y r=>
   have:Ap (y::r):=fun hh=>by have:=h ae;rwa [List.getLast_cons ae]at this
   grind
theorem qu(l:LnQ):iI (l++[0])=iI l:=by
 induction l with
 |nil=>rfl
 |cons x l ih=>grind[iI]
theorem xO(h:x≠0):iI (l++[x])=l++[x]:=Gi fun _=>by grind
theorem Dw(hB:2<=B):∀(f n:Nat),n<=f->val B (CN B f n)=n∧aH B (CN B f n)∧Ap (CN B f n)
 | 0,n,h=>by
  have:n=0:=aa;subst this;exact⟨rfl,fun x hx=>by trivial,fun hx=>absurd rfl hx⟩
 | f+1,n,h=>by
  unfold CN;split
  .rename_i h0;subst h0;exact⟨rfl,fun x hx=>by simp at hx,fun hx=>absurd rfl hx⟩
  .rename_i h0;have hlt:n/B<n:=Nat.div_lt_self aa aa;obtain⟨h1,h2,h3⟩:=Dw hB f (n/B) aa;refine⟨?_,?_,?_⟩
   .grind[val,Xe]
   .intro x hx;rcases Zx.1 hx with rfl|hx
    .exact Yu _ aa
    .exact h2 x hx
   .intro hne;by_cases hd:CN B f (n/B)=[]
    .simp only[hd];rw[hd]at h1;simp only[val]at h1
     have:n<B:=by
      rcases Zg n B with h|h
      .exact h
      .have:=V0 h (by omega:0<B);omega
     grind[Xz]
    .rw[List.getLast_cons hd];exact h3 hd
theorem iK(hB:2<=B)(n:Nat):val B (dig B n)=n:=(Dw hB n n (Z8 n)).1
theorem cI(hB:2<=B)(n:Nat):aH B (dig B n):=(Dw hB n n (Z8 n)).2.1
theorem FK(hB:2<=B)(n:Nat):Ap (dig B n):=(Dw hB n n (Z8 n)).2.2
theorem wl(h:Ap l)(hl:l≠[])(hB:0<B):val B l≠0:=by
 induction l with
 |nil=>trivial
 | cons x l ih=>
  cases l with
  |nil=>have:=h ae;trivial
  | cons y r=>
   have hn:Ap (y::r):=fun hh=>by have:=h ae;rwa [List.getLast_cons ae]at this
   have:=ih hn ae;simp only[val]at this ⊢;have:=X9 hB (Nat.pos_of_ne_zero this);omega
theorem LY(hB:0<B):∀{a b:LnQ},aH B a->aH B b->Ap a->Ap b->val B a=val B b->a=b
 |[],[],_,_,_,_,_=>rfl
 |[],y::b,_,_,_,hb,h=>absurd h.symm (wl hb ae hB)
 |x::a,[],_,_,ha,_,h=>absurd h (wl ha ae hB)
 | x::a,y::b,sa,sb,na,nb,h=>by
  have hx:=sa x ae;have hy:=sb y ae;simp only[val]at h
  have e1:x=y:=by
   have:=congrArg (· % B) h;simpa[W5,Xz hx,Xz hy]using this
  subst e1;have e2:val B a=val B b:=Xl hB aa;have tl:∀{l:LnQ}{x:Nat},Ap (x::l)->Ap l:=fun{l x} h hl=>by have:=h ae;grind
  rw[LY hB (fun z hz=>sa z (by grind)) (fun z hz=>sb z (by grind)) (tl na) (tl nb) e2]
theorem rr(hB:2<=B)(h:aH B l):dig B (val B l)=iI l:=
 LY aa (cI hB _) (KJ h) (FK hB _) (NI l) (by rw[iK hB,R3])
theorem pj(hB:2<=B):(dig B n).length<=k↔n<B^k:=by
 have hv:=iK hB n;have hs:=jD aa (cI hB n);rw[hv]at hs;constructor
 .intro h;exact Z3 hs (Z4 aa h)
 .intro h;rcases Zg k (dig B n).length with hk|hk
  .exfalso;have hne:dig B n≠[]:=by intro e;rw[e]at hk;simp at hk
   have hdrop:val B ((dig B n).drop k)≠0:=by
    refine wl ?_ (by grind[List.drop_eq_nil_iff]) aa;intro hd;rw[List.getLast_drop];exact FK hB n hne
   have:=val_append (B:=B) ((dig B n).take k) ((dig B n).drop k);rw[Xx,hv,Zo,Yx aa]at this;have:=Z0 (B^k) (Nat.pos_of_ne_zero hdrop);omega
  omega
def Oi(a b:LnQ):Nat->Int
 |0=>0
 |i+1=>if a.getD i 0<b.getD i 0 then -1 else if b.getD i 0<a.getD i 0 then 1 else Oi a b i
def cmp(a b:Nat):Int:=if a<b then -1 else if b<a then 1 else 0
theorem Qm(hB:0<B){a b:LnQ}(ha:aH B a)(hb:aH B b):∀i,i<=a.length->i<=b.length->Oi a b i=cmp (val B (a.take i)) (val B (b.take i))
 |0,_,_=>by rfl
 | i+1,h1,h2=>by
  have e:∀(l:LnQ)(h:i<l.length),val B (l.take (i+1))=val B (l.take i)+B^i*l[i]:=fun l h=>by
   rw[List.take_add_one,val_append,Zo,Yx aa]
   grind[val]
  have la:=jD hB (ha.take i);have lb:=jD hB (hb.take i);rw[Zo,Yx aa]at la lb;rw[Oi,e a aa,e b aa,Qm hB ha hb i aa aa];have ga:a.getD i 0=a[i]:=by simp[show i<a.length by omega]
  have gb:b.getD i 0=b[i]:=by simp[show i<b.length by omega]
  rw[ga,gb];generalize a[i]=x,b[i]=y at *;unfold cmp;rcases Nat.lt_trichotomy x y with h|h|h
  .rw[if_pos h];have:B^i*(x+1)<=B^i*y:=Z0 _ h;rw[Zm]at this;rw[if_pos aa]
  .grind
  .rw[if_neg aa,if_pos h];have:B^i*(y+1)<=B^i*x:=Z0 _ h;rw[Zm]at this;rw[if_neg aa,if_pos aa]
theorem J0(hB:2<=B)(h:(dig B m).length<(dig B n).length):m<n:=by
 have h1:m<B^(dig B m).length:=(pj hB).1 (Z8 _);rcases Zg n (B^(dig B m).length)with h2|h2
 .have:=(pj hB).2 h2;omega
 .omega
theorem qa(l:LnQ)(i:Nat):val B (l.drop i)=l.getD i 0+B*val B (l.drop (i+1)):=by
 by_cases h:i<l.length
 .grind[Yq,val]
 .rw[Y3 aa,Y3 aa];simp[val,List.getElem?_eq_none (by omega:l.length<=i)]
theorem aH.getD{l:LnQ}(h:aH B l)(hB:0<B)(i:Nat):l.getD i 0<B:=by
 by_cases hi:i<l.length
 .simp_all[get]
 .simp[List.getElem?_eq_none (by omega:l.length<=i),hB]
theorem KE(l:LnQ)(x:Nat):val B (l++[x])=val B l+B^l.length*x:=by simp[val_append,val]
theorem Ax(n:Nat):val B (List.replicate n 0)=0:=by
 induction n with
 |zero=>rfl
 |succ n ih=>grind[val]
theorem aH.snoc(h:aH B l)(hx:x<B):aH B (l++[x]):=h.append fun y hy=>by grind
end
def Jv(w:Nat):Nat->Nat->Nat->Nat->Option Nat
 |0,_,_,out=>some out
 | n+1,low,high,out=>
  if 2^(w+1)<=low*low/2^w then Jv w n (low*low/2^w/2) (((if high*high/2^w*2^w=high*high then high*high/2^w else high*high/2^w+1)+1)/2) (out*2+1)
  else if 2^(w+1)<=(if high*high/2^w*2^w=high*high then high*high/2^w else high*high/2^w+1)then none
  else Jv w n (low*low/2^w) (if high*high/2^w*2^w=high*high then high*high/2^w else high*high/2^w+1) (out*2)
theorem wR{B:Nat}:∀(l:LnQ)(j x:Nat),j<l.length->val B (l.set j x)+B^j*l.getD j 0=val B l+B^j*x
 |[],j,x,h=>by simp at h
 |y::l,0,x,h=>by simp[val];omega
 | y::l,j+1,x,h=>by
  have:=wR (B:=B) l j x (by simpa using h);simp only[List.set_cons_succ,val,List.getD_cons_succ,Nat.pow_succ];rw[Zq (B^j) B,Nat.mul_assoc,Nat.mul_assoc];generalize val B (l.set j x)=p at *;generalize B^j*l.getD j 0=q at *;generalize B^j*x=r at *;have h2:B*(p+q)=B*(val B l+r):=by rw[this]
  rw[Zm,Zm]at h2;omega
theorem aH.set{B:Nat}{l:LnQ}(h:aH B l){j x:Nat}(hx:x<B):aH B (l.set j x):=by
 intro y hy;rcases Yv hy with h1|h1
 .exact h y h1
 .subst h1;exact hx
theorem xG{B:Nat}(l:LnQ)(h:i<l.length):val B (l.take (i+1))=val B (l.take i)+B^i*l.getD i 0:=by rw[List.take_add_one,val_append,Zo,Yx aa];simp[List.getElem?_eq_getElem h,val]
theorem WZ{B:Nat}{j c a y v:Nat}(hj:j<o.length):
  val B (o.set j ((c+o.getD j 0+a*y)%B))+B^(j+1)*((c+o.getD j 0+a*y)/B+a*v)=val B o+B^j*(c+a*(y+B*v)):=by
 have h:=wR (B:=B) o j ((c+o.getD j 0+a*y)%B) hj;generalize val B (o.set j ((c+o.getD j 0+a*y)%B))=p at *;generalize o.getD j 0=w at *;have hd:=Xe (c+w+a*y) B;generalize(c+w+a*y)%B=r at *;generalize(c+w+a*y)/B=d at *;generalize val B o=q at *;generalize hP:B^j=P at *;rw[Nat.pow_succ,hP,Nat.mul_assoc]
 have e1:P*(B*(d+a*v))+P*r=P*(c+w+a*y)+P*(a*(B*v)):=by
  rw[<-Zm,<-Zm,<-hd,Zm B,Yz a B v];congr 1;omega
 have e2:P*(c+a*(y+B*v))+P*w=P*(c+w+a*y)+P*(a*(B*v)):=by
  rw[<-Zm,<-Zm,Zm a];congr 1;omega
 omega
end Go.Big
namespace Go.Vm
open Go Go.Am
abbrev aj:TyI:=⟨.f,1,8,[.pl .nilFunc],false⟩
abbrev ko:TyI:=⟨.o,1,0,[],false⟩
abbrev Ev:TyI:=⟨.p,1,8,[.pl (.pointer none)],false⟩
abbrev PW:TyI:=⟨.i .i64,1,8,[.int .i64 0],false⟩
abbrev PV:TyI:=⟨.i .u8,1,1,[.int .u8 0],false⟩
abbrev PT:TyI:=⟨.s,1,16,[.str []],false⟩
abbrev Vb:TyI:=⟨.i .u64,1,8,[.int .u64 0],false⟩
abbrev Va:TyI:=⟨.it,1,16,[.pl .nilIface],false⟩
abbrev U9:TyI:=⟨.i .i32,1,4,[.int .i32 0],false⟩
abbrev U8:TyI:=⟨.sl 3,1,24,[.pl (.slice none 0 0)],false⟩
abbrev Vw:TyI:=⟨.st [(0,1),(1,1),(2,1),(3,1)],4,24,[.int .i64 0,.int .i64 0,.bool false,.int .u8 0],false⟩
abbrev Vv:TyI:=⟨.st [(0,1),(1,1)],2,24,[.str [],.int .u64 0],false⟩
abbrev Vu:TyI:=⟨.st [(0,1)],1,8,[.pl (.pointer none)],false⟩
abbrev Vt:TyI:=⟨.st [(0,1),(1,1),(2,1)],3,40,[.int .u8 0,.pl (.slice none 0 0),.bool false],false⟩
abbrev Vs:TyI:=⟨.sl 36,1,24,[.pl (.slice none 0 0)],false⟩
abbrev Vr:TyI:=⟨.st [(0,1),(1,1),(2,1)],3,72,[.pl (.slice none 0 0),.pl (.slice none 0 0),.pl (.slice none 0 0)],false⟩
abbrev Vq:TyI:=⟨.sl 47,1,24,[.pl (.slice none 0 0)],false⟩
abbrev Vp:TyI:=⟨.st [(0,1),(1,1),(2,1),(3,1),(4,1)],5,56,[.pl (.slice none 0 0),.pl (.slice none 0 0),.bool false,.bool false,.bool false],false⟩
abbrev Vo:TyI:=⟨.st [(0,2),(2,2),(4,1),(5,1),(6,1)],7,72,[.str [],.str [],.str [],.str [],.bool false,.bool false,.bool false],false⟩
abbrev Vn:TyI:=⟨.st [(0,1),(1,1)],2,32,[.int .i64 0,.pl (.slice none 0 0)],false⟩
abbrev Vl:TyI:=⟨.st [(0,1),(1,1),(2,1)],3,56,[.int .i64 0,.pl (.slice none 0 0),.pl (.slice none 0 0)],false⟩
abbrev Vk:TyI:=⟨.sl 130,1,24,[.pl (.slice none 0 0)],false⟩
abbrev Vj:TyI:=⟨.sl 45,1,24,[.pl (.slice none 0 0)],false⟩
abbrev Vi:TyI:=⟨.st [(0,1),(1,1),(2,1)],3,64,[.pl (.slice none 0 0),.pl (.slice none 0 0),.str []],false⟩
abbrev Vh:TyI:=⟨.sl 167,1,24,[.pl (.slice none 0 0)],false⟩
abbrev Vg:TyI:=⟨.st [(0,1),(1,1),(2,1)],3,48,[.str [],.str [],.pl .nilIface],false⟩
abbrev Vf:TyI:=⟨.st [(0,1),(1,1),(2,1),(3,1)],4,40,[.pl (.pointer none),.pl (.pointer none),.pl (.pointer none),.str []],false⟩
abbrev Vd:TyI:=⟨.st [(0,1),(1,1),(2,1),(3,1),(4,1),(5,1),(6,1),(7,1),(8,1),(9,1),(10,1)],11,48,[.int .u64 0,.int .u64 0,.int .u32 0,.int .u8 0,.int .u8 0,.int .u8 0,.int .u8 0,.pl .nilFunc,.pl (.pointer none),.int .i32 0,.int .i32 0],false⟩
abbrev slQ(n:Nat):TyI:=⟨.sl n,1,24,[.pl (.slice none 0 0)],false⟩
def aji:List TyI:=[
 ko,aj,PW,PW,⟨.b,1,1,[.bool false],false⟩,PV,PV,Vw,Vw,PT,PT,PT,Vb,Vv,Vv,Ev]
def ajh:List TyI:=[
 Ev,Ev,Vu,Vu,Va,U9,slQ 26,Vt,Vt,⟨.i .i8,1,1,[.int .i8 0],false⟩,⟨.ar 4 25,4,4,[.int .i8 0,.int .i8 0,.int .i8 0,.int .i8 0],false⟩,aj,aj,U8,U8,Vs]
def ajg:List TyI:=[
 Vs,Vr,Vr,aj,U8,aj,Vq,Vq,PW,ko,aj,aj,aj,PT,⟨.st [(0,1),(1,1)],2,32,[.str [],.str []],false⟩,⟨.st [(0,1),(1,1)],2,32,[.str [],.str []],true⟩]
def ajf:List TyI:=[
 aj,Vp,Vp,ko,aj,aj,aj,ko,aj,ko,aj,aj,ko,aj,Vo,Vo]
def aje:List TyI:=[
 aj,aj,slQ 39,ko,aj,aj,aj,aj,slQ 30,aj,Vn,Vn,ko,aj,aj,Vl]
def ajd:List TyI:=[
 Vl,ko,aj,aj,ko,aj,aj,aj,aj,aj,aj,Ev,aj,ko,aj,aj]
def ajc:List TyI:=[
 aj,aj,aj,Vk,Vk,aj,aj,aj,aj,aj,aj,aj,Vj,aj,ko,aj]
def ajb:List TyI:=[
 aj,aj,aj,aj,aj,aj,ko,aj,aj,aj,aj,Vi,Vi,aj,aj,aj]
def aja:List TyI:=[
 aj,aj,Vj,aj,aj,ko,aj,aj,aj,ko,aj,aj,aj,aj,Va,Va]
def ai9:List TyI:=[
 ko,aj,aj,ko,aj,aj,aj,aj,aj,aj,ko,aj,ko,aj,aj,aj]
def agJ:List TyI:=[
 aj,aj,aj,aj,aj,ko,aj,Vb,ko,aj,aj,Vh,Vh,aj,aj,aj]
def agI:List TyI:=[
 aj,aj,aj,aj,aj,aj,aj,aj,aj,aj,ko,aj,ko,aj,aj,aj]
def agH:List TyI:=[
 aj,aj,aj,aj,aj,aj,aj,aj,aj,PW,ko,aj,Vb,Ev,aj,aj]
def agG:List TyI:=[
 ko,aj,aj,slQ 5,aj,⟨.ar 24 5,24,24,List.replicate 24 (.int .u8 0),false⟩,aj,aj,ko,aj,aj,aj,aj,aj,aj,ko]
def agF:List TyI:=[
 aj,aj,aj,aj,aj,aj,Vg,Vg,aj,aj,aj,⟨.ar 20 167,20,160,List.replicate 20 (.int .u64 0),false⟩,⟨.i .u32,1,4,[.int .u32 0],false⟩,⟨.ar 65 5,65,65,List.replicate 65 (.int .u8 0),false⟩,aj,aj]
def agE:List TyI:=[
 ko,aj,Ev,Ev,⟨.st [(0,1)],1,16,[.str []],false⟩,⟨.st [(0,1)],1,16,[.str []],false⟩,aj,⟨.ar 32 5,32,32,List.replicate 32 (.int .u8 0),false⟩,⟨.ar 64 5,64,64,List.replicate 64 (.int .u8 0),false⟩,aj,Vf,Vf,⟨.ar 0 16,0,0,[],false⟩,⟨.st [(0,0)],0,0,[],false⟩,⟨.st [(0,0)],0,0,[],false⟩,PV]
def agD:List TyI:=[
 PV,aj,U9,U9,Vd,Vd,aj,⟨.o,1,8,[.pl (.pointer none)],false⟩,aj,aj,aj]
def DW:List (List TyI):=[aji,ajh,ajg,ajf,aje,ajd,ajc,ajb,aja,ai9,agJ,agI,agH,agG,agF,agE,agD]
def afR:LnQ:=[0,1,195,196,197,198,199,200,201,202,203,204,205,206,207,208,209,210,211,212,213,214,215,216,217,218,219,220,221]
def nW:Nat:=2
namespace F
def bW:FuncId:=3
def eX:FuncId:=4
def fI:FuncId:=5
def ie:FuncId:=6
def b9:FuncId:=7
def gP:FuncId:=8
def cx:FuncId:=9
def cu:FuncId:=10
def fW:FuncId:=11
def dK:FuncId:=12
def fe:FuncId:=13
def eC:FuncId:=14
def gH:FuncId:=15
def cT:FuncId:=16
def gN:FuncId:=17
def fu:FuncId:=18
def eW:FuncId:=19
def jd:FuncId:=20
def bh:FuncId:=21
def nj:FuncId:=22
def bF:FuncId:=23
def aQ:FuncId:=24
def bG:FuncId:=25
def fk:FuncId:=26
def pQ:FuncId:=27
def gJ:FuncId:=28
def eE:FuncId:=29
def jQ:FuncId:=30
def kK:FuncId:=31
def gE:FuncId:=32
def nB:FuncId:=33
def jR:FuncId:=34
def oo:FuncId:=35
def nC:FuncId:=36
def dM:FuncId:=37
def fv:FuncId:=38
def fV:FuncId:=39
def jV:FuncId:=40
def nh:FuncId:=41
def iW:FuncId:=42
def jY:FuncId:=43
def cN:FuncId:=44
def bZ:FuncId:=45
def dF:FuncId:=46
def iY:FuncId:=47
def cZ:FuncId:=48
def mh:FuncId:=49
def iF:FuncId:=50
def ic:FuncId:=51
def gC:FuncId:=52
def kY:FuncId:=53
def fL:FuncId:=54
def nD:FuncId:=55
def mi:FuncId:=56
def bi:FuncId:=57
def aP:FuncId:=58
def lG:FuncId:=59
def dh:FuncId:=60
def strconv_Itoa:FuncId:=61
def dD:FuncId:=62
def d7:FuncId:=63
def oL:FuncId:=64
def pJ:FuncId:=65
def lF:FuncId:=66
def qd:FuncId:=67
def jI:FuncId:=68
def fX:FuncId:=69
def nA:FuncId:=70
def fK:FuncId:=71
def gB:FuncId:=72
def aT:FuncId:=73
def eJ:FuncId:=74
def eD:FuncId:=75
def gI:FuncId:=76
def kP:FuncId:=77
def jX:FuncId:=78
def cD:FuncId:=79
def fF:FuncId:=80
def oM:FuncId:=81
def cO:FuncId:=82
def fj:FuncId:=83
def ja:FuncId:=84
def ma:FuncId:=85
def oC:FuncId:=86
def bE:FuncId:=87
def aN:FuncId:=88
def bV:FuncId:=89
def jT:FuncId:=90
def hO:FuncId:=91
def mS:FuncId:=92
def kM:FuncId:=93
def gj:FuncId:=94
def cj:FuncId:=95
def pI:FuncId:=96
def nm:FuncId:=97
def pD:FuncId:=98
def oI:FuncId:=99
def lR:FuncId:=100
def gG:FuncId:=101
def iz:FuncId:=102
def dZ:FuncId:=103
def gk:FuncId:=104
def ia:FuncId:=105
def rD:FuncId:=106
def oG:FuncId:=107
def kN:FuncId:=108
def il:FuncId:=109
def jZ:FuncId:=110
def gD:FuncId:=111
def aW:FuncId:=112
def nu:FuncId:=113
def qe:FuncId:=114
def yo:FuncId:=115
def Cp:FuncId:=116
def rC:FuncId:=117
def m7:FuncId:=118
def strconv_Atoi:FuncId:=119
def fN:FuncId:=120
def ju:FuncId:=121
def de:FuncId:=122
def bz:FuncId:=123
def aM:FuncId:=124
def mO:FuncId:=125
def dI:FuncId:=126
def aI:FuncId:=127
def iA:FuncId:=128
def oJ:FuncId:=129
def oP:FuncId:=130
def fY:FuncId:=131
def fH:FuncId:=132
def rU:FuncId:=133
def cE:FuncId:=134
def c8:FuncId:=135
def dL:FuncId:=136
def cM:FuncId:=137
def aA:FuncId:=138
def dJ:FuncId:=139
def oE:FuncId:=140
def mg:FuncId:=141
def aR:FuncId:=142
def eM:FuncId:=143
def cG:FuncId:=144
def dV:FuncId:=145
def aw:FuncId:=146
def pK:FuncId:=147
def eA:FuncId:=148
def bS:FuncId:=149
def aV:FuncId:=150
def gZ:FuncId:=156
def jb:FuncId:=157
def gF:FuncId:=158
def bQ:FuncId:=159
def kh:FuncId:=160
def iE:FuncId:=161
def dG:FuncId:=162
def bN:FuncId:=163
def qj:FuncId:=164
def aU:FuncId:=165
def aL:FuncId:=166
def jm:FuncId:=167
def rH:FuncId:=168
def cX:FuncId:=169
def kZ:FuncId:=170
def size_digits:FuncId:=171
def cg:FuncId:=172
def jh:FuncId:=173
def cW:FuncId:=174
def fG:FuncId:=179
def dX:FuncId:=180
def iw:FuncId:=181
def fT:FuncId:=182
def eU:FuncId:=183
def fU:FuncId:=184
def bv:FuncId:=187
def jW:FuncId:=188
def f9:FuncId:=189
def jc:FuncId:=190
def uX:FuncId:=193
def nF:FuncId:=194
def um:FuncId:=cX
end F
end Go.Vm
namespace Go.Vm
open Go Go.Am
noncomputable section
def R7:List TyI->Nat->TyI
 |[],_=>⟨.o,0,0,[],false⟩
 |x::_,0=>x
 |_::l,n+1=>R7 l n
def KN:List (List TyI)->Nat->List TyI
 |[],_=>[]
 |x::_,0=>x
 |_::l,n+1=>KN l n
def pB:Nat->LuQ->Nat
 |a,[]=>a
 |a,c::l=>pB (a*10+(c.toNat-48)) l
def oA(c:UInt8):Bool:=Nat.ble 48 c.toNat&&Nat.ble c.toNat 57
def LG:LvQ->Option Value
 |[.string s,.int .i64 a,.int .i64 b]=>if a=10∧b=64∧s.data.toList≠[]∧s.data.toList.all oA=true∧s.data.toList.length<=1000∧pB 0 s.data.toList<10000000000000000000 then some (.tuple #[.int .u64 (pB 0 s.data.toList),.nilIface])else none
 |_=>none
def Qj:LvQ->Option Value
 | [.string s,.int .i64 a,.int .i64 b]=>if a=10∧b=64 then(match s.data.toList with
  |45::l=>if l≠[]∧l.all oA=true∧l.length<=1000∧pB 0 l<9223372036854775808 then some (.tuple #[.int .i64 (-(pB 0 l:Int)),.nilIface])else none
  |l=>if l≠[]∧l.all oA=true∧l.length<=1000∧pB 0 l<9223372036854775808 then some (.tuple #[.int .i64 (pB 0 l),.nilIface])else none)else none
 |_=>none
def OA:Value->Bool
 |.slice ..=>true
 |_=>false
def Nz(H:AH)(p q:Value):Option (List LvQ):=match mQ H 1 p,mQ H 1 q with
 |some (k,xs),some (k',ys)=>if k=k'∧xs.length=k∧ys.length=k∧k<4611686018427387904∧(OA p&&OA q)=true∧(xs.all fun v=>plain v&&okCell v)=true∧(ys.all fun v=>plain v&&okCell v)=true then some ((xs.zip ys).map fun x=>[x.1,x.2])else none
 |_,_=>none
def I6(f:FuncId)(lb:LvQ)(H:AH):Option (List LvQ):=match Nat.beq f F.cX with
 | true=>match lb with
  | [.pointer (some ⟨b,o,none⟩)]=>match bX H b o 3 with
   |some [p,q,_]=>Nz H p q
   |_=>none
  |_=>none
 | false=>match Nat.beq f F.um with
  | true=>match lb with
   | [.pointer (some ⟨b,o,none⟩),.pointer (some ⟨b',o',none⟩)]=>match bX H b o 1,bX H b' o' 1 with
    |some [p],some [q]=>Nz H p q
    |_,_=>none
   |_=>none
  |false=>none
def Lh(f:FuncId)(lb:LvQ)(H:AH):LvQ:=match lb with
 |[.pointer (some ⟨b,o,none⟩)]=>(bX H b o 3).getD []
 |[.pointer (some ⟨b,o,none⟩),.pointer (some ⟨b',o',none⟩)]=>(bX H b o 1).getD []++(bX H b' o' 1).getD []
 |_=>[]
def lits:LdQ->Option LvQ
 |[]=>some []
 | x::l=>match x,lits l with
  |.int k n,some r=>some (.int k n::r)
  |.str s,some r=>some (.string ⟨⟨s⟩⟩::r)
  |_,_=>none
def slD:D->Option (Nat×LdQ)
 |.sl n l=>some (n,l)
 |.pl (.slice none 0 0)=>some (0,[])
 |_=>none
def RS(p q:D):Option (List LvQ):=match slD p,slD q with
 | some (k,l),some (k',m)=>match lits l,lits m with
  |some xs,some ys=>if k=k'∧xs.length=k∧ys.length=k∧k<4611686018427387904 then some ((xs.zip ys).map fun x=>[x.1,x.2])else none
  |_,_=>none
 |_,_=>none
def aeF(f:FuncId)(cs:LwQ):Option (List LvQ):=match Nat.beq f F.cX with
 | true=>match cs with
  |[.dptr [p,q,_] 0]=>RS p q
  |_=>none
 | false=>match Nat.beq f F.um with
  | true=>match cs with
   |[.dptr [p] 0,.dptr [q] 0]=>RS p q
   |_=>none
  |false=>none
def X:Cfg:={P:=Go.Proofs.Tryz.prog,allow:=gX afR,glob:=fun g=>Nat.beq g nW,orc:=fun f args=>(match Nat.beq f F.fG with
 |true=>LG args
 | false=>match Nat.beq f F.fj with
  |true=>Qj args
  |false=>none),seq:=I6,seqK:=Lh}
def LI:LdQ:=[.int .u64 1,.int .u64 10,.int .u64 100,.int .u64 1000,.int .u64 10000,.int .u64 100000,.int .u64 1000000,.int .u64 10000000,.int .u64 100000000,.int .u64 1000000000,.int .u64 10000000000,.int .u64 100000000000,
 .int .u64 1000000000000,.int .u64 10000000000000,.int .u64 100000000000000,.int .u64 1000000000000000,.int .u64 10000000000000000,.int .u64 100000000000000000,.int .u64 1000000000000000000,.int .u64 10000000000000000000]
def Y:ku:={X:=X,ty:=fun t=>R7 (KN DW (t/16)) (t%16),glob:=fun g=>(match Nat.beq g nW with
 |true=>some LI
 |false=>none),seq:=aeF}
end
end Go.Vm
set_option maxRecDepth 100000
namespace Go.Vm
open Go Go.Am
variable{x:Prop}{y w:Value}{P:Program}{t:TypeId}{d p:D}{z l:LdQ}{k k':kkQ}{a b f v0 c v:V}{h0 h:Hp}{T:kkQ->Prop}{s n m:Nat}{ps:List (Nat×V)}{dr:Bool}
def afz:Value->Value->Bool
 |.pointer none,.pointer none=>true
 |.slice none a b,.slice none c d=>a == c&&b == d
 |.nilFunc,.nilFunc=>true
 |.nilIface,.nilIface=>true
 |.map none,.map none=>true
 |.chan none,.chan none=>true
 |_,_=>false
theorem acO{x:Value}(h:afz x y=true):x=y:=by unfold afz at h;split at h<;>first|rfl|(simp at h;obtain⟨rfl,rfl⟩:=h;rfl)|cases h
def afA:D->D->Bool
 |.int k a,.int l b=>decide (k=l)&&decide (a=b)
 |.bool a,.bool b=>a == b
 |.str a,.str b=>a == b
 |.pl a,.pl b=>afz a b
 |_,_=>false
theorem acQ{x y:D}(h:afA x y=true):x=y:=by
 unfold afA at h;split at h
 .simp at h;obtain⟨rfl,rfl⟩:=h;rfl
 .simp at h;subst h;rfl
 .simp at h;subst h;rfl
 .rw[acO h]
 .cases h
def ZN:LdQ->LdQ->Bool
 |[],[]=>true
 |x::l,y::m=>afA x y&&ZN l m
 |_,_=>false
theorem Rb:∀{l m:LdQ},ZN l m=true->l=m
 |[],[],_=>rfl
 | x::l,y::m,h=>by
  simp only[ZN,Z7]at h;rw[acQ h.1,Rb h.2]
 |[],_::_,h=>by cases h
 |_::_,[],h=>by cases h
def YI(P:Program)(t:TypeId)(k:Ty):Bool:=match k with
 |.i k=>match P.underlying t with|some (.int k')=>decide (k'=k)|_=>false
 |.b=>match P.underlying t with|some .bool=>true|_=>false
 |.s=>match P.underlying t with|some .string=>true|_=>false
 |.p=>match P.underlying t with|some (.pointer _)=>true|_=>false
 |.f=>match P.underlying t with|some (.func ..)=>true|_=>false
 |.it=>match P.underlying t with|some (.interface _)=>true|_=>false
 |.sl e=>match P.underlying t with|some (.slice e')=>e' == e|_=>false
 |.ar n e=>match P.underlying t with|some (.array n' e')=>n' == n&&e' == e|_=>false
 |.st fs=>match P.underlying t with|some (.struct gs)=>decide (gs.toList.map (fun f=>(f.offset,szO P f.type))=fs.map fun p=>(p.1,some p.2))|_=>false
 |.o=>true
def Oz(P:Program)(t:TypeId):D->Bool
 |.int _ _=>match P.underlying t with|some (.int _)=>true|_=>false
 |.bool _=>match P.underlying t with|some .bool=>true|_=>false
 |.str _=>match P.underlying t with|some .string=>true|_=>false
 |_=>false
theorem S9(h:Oz P t d=true):QO P t d:=by
 unfold Oz at h;split at h
 .split at h
  .rename_i hu;exact⟨_,hu⟩
  .cases h
 .split at h
  .rename_i hu;exact hu
  .cases h
 .split at h
  .rename_i hu;exact hu
  .cases h
 .cases h
def ZD(P:Program)(t:TypeId)(z:LdQ):Bool:=match P.underlying t with
 |some (.struct gs)=> !P.stoodInHeld t && !P.eqGuardType P.depth t&&decide (gs.size=z.length)&&(gs.toList.zipIdx.zip z).all fun x=>x.1.1.offset == x.1.2&&x.1.1.name != "_" && Oz P x.1.1.type x.2
 |_=>false
theorem ZC(h:ZD P t z=true):Kj P t z:=by
 unfold ZD at h;split at h
 .rename_i gs hu;simp only[Z7,Y0,decide_eq_true_eq,Z2]at h;obtain⟨⟨⟨h1,h2⟩,h3⟩,h4⟩:=h;refine⟨gs,hu,h1,h2,h3,fun i f d hf hd=>?_⟩
  have:=h4 ((f,i),d) (by
   apply Xu (i:=i);rw[List.getElem?_zip_eq_some];exact⟨by rw[List.getElem?_zipIdx,hf];simp,hd⟩)
  simp only[beq_iff_eq,bne_iff_ne]at this;exact⟨this.1.1,this.1.2,S9 this.2⟩
 .cases h
def tyB(P:Program)(t:TypeId)(i:TyI):Bool:=(!i.eq||ZD P t i.z)&&match i.k with
 |.o=>true
 | k=>YI P t k&&decide (szO P t=some i.sz)&&decide (qE P t=some i.bytes)&&match iG P t with
  |some z=>plain z&&z.cells.size == i.sz&&(z.cells.toList.all fun c=>plain c&&okCell c)&&ZN (z.cells.toList.map jf) i.z
  |none=>false
theorem Pr{i:TyI}(h:tyB P t i=true):F8 P t i:=by
  unfold tyB at h;rw[Z7]at h;obtain⟨h0,h⟩:=h
  have heq:i.eq=true->Kj P t i.z:=fun e=>by
    rw[e]at h0;exact ZC (by simpa using h0)
  by_cases hk:i.k = .o
  · exact⟨by rw[hk];trivial,fun h=>absurd hk h,fun h=>absurd hk h,fun h=>absurd hk h,heq⟩
  · have h2:YI P t i.k=true∧szO P t=some i.sz∧qE P t=some i.bytes∧(match iG P t with
        |some z=>plain z&&z.cells.size == i.sz&&(z.cells.toList.all fun c=>plain c&&okCell c)&&ZN (z.cells.toList.map jf) i.z
        |none=>false)=true:=by
      split at h
      · rename_i e;exact absurd e hk
      · simp only[Z7,decide_eq_true_eq]at h
        exact⟨h.1.1.1,h.1.1.2,h.1.2,h.2⟩
    obtain⟨h1,h2,h3,h4⟩:=h2;refine⟨?_,fun _=>h2,fun _=>h3,fun _=> ?_,heq⟩
    · unfold YI at h1
      cases hq:i.k<;>rw[hq]at h1<;>dsimp only at h1 ⊢
      all_goals first
        |trivial
        | (split at h1
           · rename_i hu
             first
               |(simp only[decide_eq_true_eq]at h1;subst h1;exact hu)
               |exact hu
               |exact⟨_,hu⟩
               |exact⟨_,_,_,hu⟩
               |(simp only[beq_iff_eq]at h1;subst h1;exact hu)
               |(simp only[Z7,beq_iff_eq]at h1;obtain⟨rfl,rfl⟩:=h1;exact hu)
               |(simp only[decide_eq_true_eq]at h1;exact⟨_,hu,h1⟩)
           · cases h1)
    · split at h4
      · rename_i z hz
        simp only[Z7,beq_iff_eq,Z2]at h4;refine⟨z,hz,h4.1.1.1,Rb h4.2,h4.1.1.2,fun c hc=> ?_⟩;have:=h4.1.2 c hc;exact this
      · cases h4
theorem AB:∀(l:List (List TyI))(n:Nat),l.length<=n->KN l n=[]
 |[],_,_=>rfl
 |_::_,0,h=>by simp at h
 |_::l,n+1,h=>AB l n (by simpa using h)
theorem aet:(List.range (16*DW.length)).all (fun t=>tyB Y.X.P t (Y.ty t))=true:=az
section
variable{F:Nat->Prop}{H:AH}
theorem zm:∀{l:LdQ}{xs:LvQ},lits l=some xs->(∀v∈xs,okZ v)∧∀ws,RDs F H l ws->ws=xs
 | [],xs,h=>by
  simp only[lits,Z9]at h;subst h;exact⟨fun v hv=>(by cases hv),fun ws hw=>by simpa only[RDs]using hw⟩
 | x::l,xs,h=>by
  unfold lits at h;split at h
  .rename_i k n r hr;simp only[Z9]at h;subst h;obtain⟨q1,q2⟩:=zm hr;refine⟨fun v hv=>?_,fun ws hw=>?_⟩
   .rcases Zx.1 hv with rfl|hv
    .exact⟨rfl,rfl⟩
    .exact q1 v hv
   .simp only[RDs,RD]at hw;obtain⟨v,us,rfl,rfl,h2⟩:=hw;rw[q2 us h2]
  .rename_i s r hr;simp only[Z9]at h;subst h;obtain⟨q1,q2⟩:=zm hr;refine⟨fun v hv=>?_,fun ws hw=>?_⟩
   .rcases Zx.1 hv with rfl|hv
    .exact⟨rfl,rfl⟩
    .exact q1 v hv
   .simp only[RDs,RD]at hw;obtain⟨v,us,rfl,rfl,h2⟩:=hw;rw[q2 us h2]
  .cases h
theorem UQ{k:Nat}{xs:LvQ}(h:slD p=some (k,l))(hl:lits l=some xs)(hk:xs.length=k)(hw:RD F H p w):mQ H 1 w=some (k,xs):=by
 obtain⟨q1,q2⟩:=zm (F:=F) (H:=H) hl;unfold slD at h;split at h
 .rename_i n l';simp only[Z9,Z5]at h;obtain⟨rfl,rfl⟩:=h;simp only[RD]at hw;rcases hw with⟨rfl,rfl,h3⟩|⟨c,o,cap,vs,m,rfl,h1,h2,h3,h4,h5,h6,h7,h8⟩
  .simp only[lits,Z9]at hl;subst hl;rcases h3 with rfl|⟨c,o,cap,rfl,_⟩
   .rfl
   .simp[mQ]
  .have e:=q2 vs h7;subst e
   have hl:l'.length=n:=by
    rw[<-hk,SB h6]
   simp only[mQ,Ym];rw[if_neg aa,<-hl,h6];simp
 .simp only[Z9,Z5]at h;obtain⟨rfl,rfl⟩:=h;simp only[lits,Z9]at hl;subst hl;simp only[RD]at hw;obtain⟨rfl,_⟩:=hw;rfl
 .cases h
theorem UP{k:Nat}(h:slD p=some (k,l))(hw:RD F H p w):OA w=true:=by
 unfold slD at h;split at h
 .rename_i n l';simp only[RD]at hw;rcases hw with⟨_,_,h3⟩|⟨c,o,cap,vs,m,rfl,_⟩
  .rcases h3 with rfl|⟨c,o,cap,rfl,_⟩<;>rfl
  .rfl
 .simp only[RD]at hw;obtain⟨rfl,_⟩:=hw;rfl
 .cases h
theorem CZ{q:D}{xs:List LvQ}(h:RS p q=some xs):(∀z∈xs,∀v∈z,okZ v)∧∀v w,RD F H p v->RD F H q w->Nz H v w=some xs:=by
 unfold RS at h;split at h
 case h_2=>cases h
 rename_i k l k' m hp hq;split at h
 case h_2=>cases h
 rename_i us vs hl hm;split at h
 case isFalse=>cases h
 rename_i hc;simp only[Z9]at h;subst h;have o1:=(zm (F:=F) (H:=H) hl).1;have o2:=(zm (F:=F) (H:=H) hm).1;refine⟨fun z hz v hv=>?_,fun v w hv hw=>?_⟩
 .obtain⟨⟨a,b⟩,hab,rfl⟩:=Zy.1 hz;have:=List.of_mem_zip hab;simp only[Zx,Yp,or_false]at hv;rcases hv with rfl|rfl
  .exact o1 _ this.1
  .exact o2 _ this.2
 .unfold Nz;rw[UQ hp hl hc.2.1 hv,UQ hq hm (hc.2.2.1.trans hc.1) hw];have c1:(us.all fun v=>plain v&&okCell v)=true:=Z2.2 fun x hx=>by have:=o1 x hx;simp[this.1,this.2]
  have c2:(vs.all fun v=>plain v&&okCell v)=true:=Z2.2 fun x hx=>by have:=o2 x hx;simp[this.1,this.2]
  exact if_pos ⟨hc.1,hc.2.1,hc.2.2.1,hc.2.2.2,by rw[UP hp hv,UP hq hw];rfl,c1,c2⟩
end
theorem yOk:YOk Y where
 seq gf cs xs h0:=by
  have h:aeF gf cs=some xs:=h0;clear h0;unfold aeF at h;split at h
  .rename_i hg;split at h
   .rename_i p q d;refine⟨(CZ (F:=fun _=>True) (H:=⟨0,[]⟩) h).1,fun φ F H hp lb hr=>?_⟩;simp only[RVs,RV]at hr;obtain⟨v,_,rfl,⟨c,o,vs,rfl,hF,hrd,hd⟩,rfl⟩:=hr;simp only[RDs]at hd;obtain⟨v1,_,rfl,d1,v2,_,rfl,d2,v3,_,rfl,d3,rfl⟩:=hd;rw[show([p,q,d]:LdQ).length=3 from rfl]at hrd;refine⟨?_,fun F' H' hl=>?_⟩
    .rw[show Y.X.seq=I6 from rfl];unfold I6;rw[hg];simp only[Nat.add_zero];rw[hrd];exact(CZ h).2 _ _ d1 d2
    .rw[show Y.X.seqK=Lh from rfl];simp only[Lh,Nat.add_zero];rw[mU (hl.keep c hF)]
   .cases h
  .rename_i hg;split at h
   .rename_i hg2;split at h
    .rename_i p q;refine⟨(CZ (F:=fun _=>True) (H:=⟨0,[]⟩) h).1,fun φ F H hp lb hr=>?_⟩;simp only[RVs,RV]at hr;obtain⟨v,_,rfl,⟨c,o,vs,rfl,hF,hrd,hd⟩,v',_,rfl,⟨c',o',vs',rfl,hF',hrd',hd'⟩,rfl⟩:=hr;simp only[RDs]at hd hd';obtain⟨v1,_,rfl,d1,rfl⟩:=hd;obtain⟨v2,_,rfl,d2,rfl⟩:=hd';rw[show([p]:LdQ).length=1 from rfl]at hrd;rw[show([q]:LdQ).length=1 from rfl]at hrd'
     refine⟨?_,fun F' H' hl=>?_⟩
     .rw[show Y.X.seq=I6 from rfl];unfold I6;rw[hg,hg2];simp only[Nat.add_zero];rw[hrd,hrd'];exact(CZ h).2 _ _ d1 d2
     .rw[show Y.X.seqK=Lh from rfl];simp only[Lh,Nat.add_zero];rw[mU (hl.keep c hF),mU (hl.keep c' hF')]
    .cases h
   .cases h
 ty t:=by
  by_cases ht:t<16*DW.length
  .exact Pr (Z2.1 aet t (Yl.2 ht))
  .refine Pr ?_
   have:(Y.ty t).k=.o:=by
    show(R7 (KN DW (t/16)) (t%16)).k=.o
    have h2:∀t n:Nat,¬t<16*n->n<=t/16:=fun t n hn=>by omega
    rw[AB DW (t/16) (h2 t _ ht)];rfl
   have h2:(Y.ty t).eq=false:=by
    show(R7 (KN DW (t/16)) (t%16)).eq=false
    have h2:∀t n:Nat,¬t<16*n->n<=t/16:=fun t n hn=>by omega
    rw[AB DW (t/16) (h2 t _ ht)];rfl
   unfold tyB;rw[this,h2];rfl
theorem aeb{o:Option V}{k k':V->Prop}(h1:x=bnd o k)(h:∀v,k v=k' v):x=bnd o k':=by rw[h1,funext h]
theorem adY{o:V}{i:Nat}{k k':V->Prop}(h1:x=ext o i k)(h:∀v,k v=k' v):x=ext o i k':=by rw[h1,funext h]
theorem WQ{op:BinOp}{k k':V->Prop}(h1:x=yd h0 op a b k)(h:∀v,k v=k' v):x=yd h0 op a b k':=by rw[h1,funext h]
theorem uV(h1:x=T k)(h:∀v h,k v h=k' v h):x=T k':=by rw[h1,show k=k' from funext fun v=>funext fun y=>h v y]
theorem ad6{C:tu}{a:LwQ}(h1:x=cal C h0 f a k)(h:∀v h,k v h=k' v h):x=cal C h0 f a k':=uV h1 h
theorem ad7{C:qG}{a:LwQ}(h1:x=cai C h0 f a s k)(h:∀v h,k v h=k' v h):x=cai C h0 f a s k':=uV h1 h
theorem aeg{cs:LwQ}(h1:x=alV s cs h0 k)(h:∀v h,k v h=k' v h):x=alV s cs h0 k':=uV h1 h
theorem aeh{cs:LdQ}(h1:x=alD s n cs h0 k)(h:∀v h,k v h=k' v h):x=alD s n cs h0 k':=uV h1 h
theorem aaG(h1:x=fO s v0 h0 k)(h:∀v h,k v h=k' v h):x=fO s v0 h0 k':=uV h1 h
theorem XR(h1:x=dR n z ps h0 k)(h:∀v h,k v h=k' v h):x=dR n z ps h0 k':=uV h1 h
theorem XP(h1:x=uA s n z ps h0 k)(h:∀v h,k v h=k' v h):x=uA s n z ps h0 k':=uV h1 h
theorem adR(h1:x=mkS s n z h0 a b k)(h:∀v h,k v h=k' v h):x=mkS s n z h0 a b k':=uV h1 h
theorem adI(h1:x=stD h0 n a b k)(h:∀v h,k v h=k' v h):x=stD h0 n a b k':=uV h1 h
theorem aef(h1:x=apV dr s n m a b h0 k)(h:∀v h,k v h=k' v h):x=apV dr s n m a b h0 k':=uV h1 h
theorem aid(h1:x=apZ dr s n m z a b h0 k)(h:∀v h,k v h=k' v h):x=apZ dr s n m z a b h0 k':=uV h1 h
theorem ahM{w:Bool}(h1:x=gd c w h0 T k)(h:∀v h,k v h=k' v h):x=gd c w h0 T k':=uV h1 h
theorem ad5{A A' B B':Prop}(h1:x=cnd c A B)(ha:A=A')(hb:B=B'):x=cnd c A' B':=by rw[h1,ha,hb]
theorem ahD{k k':LwQ->Hp->Prop}{T T':(LwQ->Hp->Prop)->Prop}(h1:x=jn k T)(hk:∀l h,k l h=k' l h)(hT:∀q,T q=T' q):x=jn k' T':=by rw[h1,show k=k' from funext fun v=>funext fun y=>hk v y,show T=T' from funext hT]
theorem ahn{s s':aS}{clr:LnQ}{h2:Hp}{l:LwQ}{k k':KL}(h1:x=lp s clr h0 l h2 k)(hs:∀l h q,s l h q=s' l h q)(hk:∀ex l h,k ex l h=k' ex l h):x=lp s' clr h0 l h2 k':=by rw[h1,show s=s' from funext fun a=>funext fun b=>funext fun c=>hs a b c,show k=k' from funext fun a=>funext fun b=>funext fun c=>hk a b c]
theorem ad2{e ex:Exit}{q q':LwQ->Hp->Prop}{r r':List (Exit×(LwQ->Hp->Prop))}{l:LwQ}(h1:x=exK ((e,q)::r) ex l h)(hq:∀l h,q l h=q' l h)(hr:exK r ex l h=exK r' ex l h):x=exK ((e,q')::r') ex l h:=by
 rw[h1,show q=q' from funext fun v=>funext fun y=>hq v y];simp only[exK];split
 .rfl
 .exact hr
theorem XW{y:Prop}{k:V->Prop}(h1:x=bnd (some v) k)(h2:k v=y):x=y:=h1.trans h2
noncomputable def gl(g:Nat):V:=match Y.glob g with
 |some cs=>.dptr cs 0
 |none=>.junk
end Go.Vm
