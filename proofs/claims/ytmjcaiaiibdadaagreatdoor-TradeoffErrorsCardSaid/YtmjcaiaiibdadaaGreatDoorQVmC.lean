/- Lemmas. -/
import Derived.Test.YtmjcaiaiibdadaaGreatDoorQVmB
set_option linter.unusedVariables false
set_option linter.unusedSimpArgs false
namespace Go.Vm
open Go Go.Am
variable{p:Prop}{k:IntKind}{n i:Int}{j a b:Nat}{C:vK}{args ds:LwQ}
@[simp]theorem AV(v:V)(k:V->Prop):bnd (some v) k=k v:=rfl
theorem VM[Decidable p](hp:p)(x y:V):nL (.d (.bool (decide p))) x y=some x:=by simp[nL,hp]
theorem abc[Decidable p](hp:¬p)(x y:V):nL (.d (.bool (decide p))) x y=some y:=by simp[nL,hp]
@[simp low]theorem afd(b:Bool)(x y:V):nL (.d (.bool b)) x y=some (if b=true then x else y):=by cases b<;>rfl
@[simp]theorem aha(l:LwQ)(i:Nat)(k:V->Prop):ext (.tup l) i k=bnd l[i]? k:=rfl
theorem ade{k:LwQ->Hp->Prop}{T:(LwQ->Hp->Prop)->Prop}{l:LwQ}{h:Hp}(hT:∀q,T q=q l h):jn k T=k l h:=hT k
@[simp]theorem Q0(x:V)(l:LwQ):ge (x::l) 0=x:=rfl
@[simp]theorem ag6(x:V)(l:LwQ)(n:Nat):ge (x::l) (n+1)=ge l n:=rfl
@[simp]theorem ah9(x y:V)(l:LwQ):ge (x::y::l) 1=y:=rfl
@[simp]theorem ah8(x y z:V)(l:LwQ):ge (x::y::z::l) 2=z:=rfl
@[simp]theorem agp(x y z u:V)(l:LwQ):ge (x::y::z::u::l) 3=u:=rfl
@[simp] theorem lu (i:Nat)(q:LwQ->Hp->Prop)(r:List (Exit×(LwQ->Hp->Prop)))(l:LwQ)(h:Hp):exK ((.exit i,q)::r) (.exit i) l h=q l h:=by simp only[exK,YL,Xq]
@[simp]theorem Eb(q:LwQ->Hp->Prop)(r:List (Exit×(LwQ->Hp->Prop)))(l:LwQ)(h:Hp):exK ((.ret,q)::r) .ret l h=q l h:=rfl
@[simp]theorem AM(i:Nat)(p:LwQ->Hp->Prop)(r:List (Exit×(LwQ->Hp->Prop)))(l:LwQ)(h:Hp):exK ((.exit i,p)::r) .ret l h=exK r .ret l h:=rfl
theorem aj{step:aN}{clr:LnQ}{h0:Hp}{l:LwQ}{h:Hp}{k:KL}(hs:step l h (lpK clr h0 (λl h=>lp step clr h0 l h k) k)):lp step clr h0 l h k:=by
 intro I hI;refine hI l h ⟨_,hs,λex l' h' hq=>?_⟩;cases ex
 case normal=>exact⟨hq.1,hq.2 I hI⟩
 all_goals exact hq
@[simp]theorem aek(clr:LnQ)(h0:Hp)(I:LwQ->Hp->Prop)(k:KL)(l:LwQ)(h:Hp):lpK clr h0 I k .normal l h=(clean clr l h=true∧I l (aS clr 0 h0 h)):=rfl
@[simp]theorem af8(clr:LnQ)(h0:Hp)(I:LwQ->Hp->Prop)(k:KL)(i:Nat)(l:LwQ)(h:Hp):lpK clr h0 I k (.exit i) l h=k (.exit i) l h:=rfl
@[simp]theorem ag0(clr:LnQ)(h0:Hp)(I:LwQ->Hp->Prop)(k:KL)(l:LwQ)(h:Hp):lpK clr h0 I k .ret l h=k .ret l h:=rfl
theorem Ie:∀l:LwQ,jQ [] l=true:=by
 intro l
 have key:∀x:V,rF [] x=true:=by
  intro x
  induction x using V.rec (motive_2:=λl=>jQ [] l=true)with
  |agg l ih=>trivial
  |tup l ih=>trivial
  |fn g a b iha ihb=>grind[rF]
  |ifc t x ih=>trivial
  |nil=>rfl
  |cons x l ih ihl=>grind[jQ]
  |_=>rfl
 induction l with
 |nil=>rfl
 |cons x l ih=>grind[jQ]
theorem L8:∀(h:Hp)(i:Nat),qV [] i h=true
 |[],_=>rfl
 | (_,b)::h,i=>by
  simp only[qV,L8 h,Ye,X6,Y4];right;cases b<;>simp[offB,Ie]
@[simp]theorem clean_nil(l:LwQ)(h:Hp):clean [] l h=true:=by simp[clean,Ie,L8]
theorem H7:∀(i:Nat)(h0 h:Hp),h.length=h0.length->aS [] i h0 h=h
 |_,[],h,_=>by cases h<;>rfl
 |_,_::_,[],_=>rfl
 | i,(e0,b0)::h0,(e,b)::h,hl=>by
  simp only[aS,iP,if_true];rw[H7 (i+1) h0 h (by grind)]
theorem wrap_i64(h : -9223372036854775808<=n∧n<=9223372036854775807):IntKind.wrap .i64 n=n:=by
 have e1:(2:Int)^64=18446744073709551616:=af;have e2:(2:Int)^(64-1)=9223372036854775808:=af
 grind[IntKind.wrap,IntKind.bits,IntKind.signed]
theorem NG(hk:k.signed=false)(h:0<=n∧n<2^k.bits):k.wrap n=n:=by grind[IntKind.wrap,Int.emod_eq_of_lt]
theorem wrap_u64(h:0<=n∧n<18446744073709551616):IntKind.wrap .u64 n=n:=NG rfl h
theorem wrap_u32(h:0<=n∧n<4294967296):IntKind.wrap .u32 n=n:=NG rfl h
theorem Hy(n:Int):IntKind.wrap .u64 n=n%18446744073709551616:=by rfl
@[simp]theorem ahk(k:IntKind)(a b:Int):biI .lss (.d (.int k a)) (.d (.int k b))=some (.d (.bool (decide (a<b)))):=by simp[biI,iY,oB,jN]
@[simp]theorem ahl(k:IntKind)(a b:Int):biI .leq (.d (.int k a)) (.d (.int k b))=some (.d (.bool (decide (a<=b)))):=by simp[biI,iY,oB,jN]
@[simp]theorem ahm(k:IntKind)(a b:Int):biI .gtr (.d (.int k a)) (.d (.int k b))=some (.d (.bool (decide (b<a)))):=by simp[biI,iY,oB,jN]
@[simp]theorem ahn(k:IntKind)(a b:Int):biI .geq (.d (.int k a)) (.d (.int k b))=some (.d (.bool (decide (b<=a)))):=by simp[biI,iY,oB,jN]
@[simp]theorem aho(k:IntKind)(a b:Int):biI .eql (.d (.int k a)) (.d (.int k b))=some (.d (.bool (decide (a=b)))):=by simp[biI,iY,oB,jN];rfl
@[simp]theorem ahj(k:IntKind)(a b:Int):biI .neq (.d (.int k a)) (.d (.int k b))=some (.d (.bool (decide (a≠b)))):=by simp[biI,iY,oB,jN];rfl
theorem AY(k:IntKind)(a b:Int):biI .add (.d (.int k a)) (.d (.int k b))=some (.d (.int k (k.wrap (a+b)))):=by simp[biI,iY,oB,jN]
theorem AW(k:IntKind)(a b:Int):biI .sub (.d (.int k a)) (.d (.int k b))=some (.d (.int k (k.wrap (a-b)))):=by simp[biI,iY,oB,jN]
theorem AX(k:IntKind)(a b:Int):biI .mul (.d (.int k a)) (.d (.int k b))=some (.d (.int k (k.wrap (a*b)))):=by simp[biI,iY,oB,jN]
@[simp]theorem Rm(k l:IntKind)(n:Int):cvI k (.d (.int l n))=some (.d (.int k (k.wrap n))):=rfl
@[simp]theorem ahq(a b:Bool):biB .eql (.d (.bool a)) (.d (.bool b))=some (.d (.bool (a == b))):=rfl
@[simp]theorem ahp(a b:Bool):biB .neq (.d (.bool a)) (.d (.bool b))=some (.d (.bool (a !=b))):=rfl
@[simp]theorem agN(b:Bool):unV .not (.d (.bool b))=some (.d (.bool (!b))):=rfl
def lst{α:Type}(f:α->D)(l:List α):V:=.d (.sl l.length (l.map f))
section
variable{α:Type}(f:α->D)(l:List α)
@[simp]theorem agc:aO (lst f l)=some (I l.length):=rfl
theorem fN(h:Hp)(hj:i=j)(hl:j<l.length):ixV h 1 (lst f l) (.d (.int k i))=some (.dptr (l.map f) j):=by subst hj;simp only[ixV,lst];rw[if_pos ⟨aa,aa,ac⟩];simp
theorem k8(h:Hp)(hl:j<l.length):ld1 h (.dptr (l.map f) j)=some (.d (f l[j])):=by simp[ld1,hl]
end
section
variable{α:Type}(f:α->D)(l:List α)
theorem Nq(d top:Nat):boV d top none=some d:=rfl
theorem AU{d top:Nat}(hi:i=j)(hj:j<=top):boV d top (some (.d (.int k i)))=some j:=by subst hi;simp only[boV];rw[if_pos ⟨aa,aa⟩];simp
theorem adU{h:Hp}{lo hi:Option V}{i:Nat}(h0:0<l.length)(hj:boV l.length l.length hi=some j)(hi2:boV 0 j lo=some i)(hij:i<=j)(hjl:j<=l.length):slV h 1 (lst f l) lo hi=some (lst f ((l.drop i).take (j-i))):=by simp only[slV,lst,hj,hi2];rw[if_pos ⟨ac,h0⟩];simp only[X8,List.map_take,List.map_drop,Zr,Yq];rw[Ys aa]
theorem ac4{h:Hp}(h0:0<l.length)(hi:i=j)(hj:j<=l.length):slV h 1 (lst f l) none (some (I i))=some (lst f (l.take j)):=by rw[adU f l h0 (AU hi hj) (Nq 0 j) (Y9 _) hj];simp
end
@[simp]theorem ahE(h:Hp)(x:D):bV h (.d x)=some (.d (norm x),h):=by rfl
@[simp]theorem af3(k:IntKind)(n:Int):norm (.int k n)=.int k n:=rfl
@[simp]theorem aff(b:Bool):norm (.bool b)=.bool b:=rfl
@[simp]theorem afZ(s:LuQ):norm (.str s)=.str s:=rfl
@[simp]theorem agW(n:Nat)(l:LdQ):norm (.sl n l)=.sl n l:=rfl
@[simp]theorem af2:norm (.pl (.slice none 0 0))=.sl 0 []:=rfl
@[simp]theorem UA{α:Type}(h:Hp)(f:α->D)(l:List α):bV h (lst f l)=some (lst f l,h):=by rfl
@[simp]theorem afa(h:Hp):aK h []=some ([],h):=by rfl
theorem gP{D:ti}{h h':Hp}{f:FuncId}{args:LwQ}{v:V}{s:Nat}{k:kkQ}(hc:D f args h v h')(hk:k v h')(hn:∀n cells ex len cap,v≠.new n cells ex len cap)(hn2:∀n,v≠.cut n:=by simp)(hn3:∀n cells ex len cap y,v≠.tup [.new n cells ex len cap,.d y]:=by intro _ _ _ _ _ _ h;cases h)
  (hn4:∀n cells ex len cap,v≠.tup [.new n cells ex len cap]:=by intro _ _ _ _ _ h;cases h) (hn5:∀n cells ex len cap y,v≠.tup [.tup [.new n cells ex len cap],.d y]:=by intro _ _ _ _ _ _ h;cases h):cai D h (.fn f [] []) args s k:=by grind[cai]
theorem GB{h h':Hp}{f:FuncId}{args:LwQ}{n len cap:Nat}{cells:LdQ}{y:D}{s e:Nat}{b:Bk}{ex:Bool}{k:kkQ}{DD:ti}(hc:DD f args h (.tup [.new n cells ex len cap,.d y]) h')(hs:h'[s]?=some (e,b))
  (hk:k (.tup [.ref s (e+1) 0 len cap cells.length,.d y]) (h'.set s (e+1,.data n cells ex false))):cai DD h (.fn f [] []) args s k:=by grind[cai,new]
theorem gz{h h':Hp}{f:FuncId}{args:LwQ}{n len cap:Nat}{cells:LdQ}{s e:Nat}{b:Bk}{ex:Bool}{k:kkQ}{DD:ti}(hc:DD f args h (.new n cells ex len cap) h')(hs:h'[s]?=some (e,b))
  (hk:k (.ref s (e+1) 0 len cap cells.length) (h'.set s (e+1,.data n cells ex false))):cai DD h (.fn f [] []) args s k:=by grind[cai,new]
theorem tc{h h':Hp}{f:FuncId}{v:V}{k:kkQ}(hs:aK h args=some (ds,h'))(hc:C f ds v)(hk:k v (if cu v then h else h')):cal C h (.fn f [] []) args k:=by grind[cal]
theorem agC{h:Hp}{f:FuncId}{v:V}{k:kkQ}(hc:C f args v)(hs:aK h args=some (args,h))(hk:k v h):cal C h (.fn f [] []) args k:=
 tc hs hc (by grind)
theorem VS{x:D}{h:Hp}(hx:norm x=x):out (.d x) (.d x) h:=⟨h,by simp[hx]⟩
theorem abg{α:Type}(f:α->D)(l:List α)(h:Hp):out (lst f l) (lst f l) h:=⟨h,ac⟩
@[simp]theorem agU(k:IntKind)(n:Int)(h:Hp):out (.d (.int k n)) (.d (.int k n)) h:=VS rfl
@[simp]theorem VT(b:Bool)(h:Hp):out (.d (.bool b)) (.d (.bool b)) h:=VS rfl
theorem Jn{l:IntKind}(hb:b<=k.bits):biI .shr (.d (.int k a)) (.d (.int l b))=some (.d (.int k ((a/2^b:Nat):Int))):=by
 have h1:¬((b:Int)<0):=aa
 grind[biI,iY,oB,jN]
theorem xZ(h:a+b<18446744073709551616):biI .add (.d (.int .u64 a)) (.d (.int .u64 b))=some (.d (.int .u64 ((a+b:Nat):Int))):=by rw[AY,wrap_u64 aa];simp
theorem DX(h:a*b<18446744073709551616):biI .mul (.d (.int .u64 a)) (.d (.int .u64 b))=some (.d (.int .u64 ((a*b:Nat):Int))):=by grind[AX,wrap_u64]
theorem aeP(h:a<18446744073709551616):cvI .u64 (.d (.int k a))=some (.d (.int .u64 a)):=by rw[Rm,wrap_u64 aa]
section
variable{α:Type}{f:α->D}{l:List α}{h:Hp}{s e:Nat}{ex fr:Bool}
end
theorem UB{α:Type}{f:α->D}{l:List α}{h:Hp}{s e:Nat}{ex fr:Bool}(hs:h[s]?=some (e,.data 1 (l.map f) ex fr)){n m tot:Nat}(hn:n=l.length)(hm:n<=m)(ht:tot=l.length):
  bV h (.ref s e 0 n m tot)=some (lst f l,h.set s (e,.data 1 (l.map f) ex true)):=by subst hn;subst ht;simp only[bV,toD,aw,hs,if_true,List.length_map];rw[if_pos ⟨trivial,hm,aa⟩];simp only[Yu,X8,bL,lst];rw[Z2 ac]
end Go.Vm
namespace Go.Big
variable{l a b o:LnQ}{i x n k m:Nat}
def val(B:Nat):LnQ->Nat
 |[]=>0
 |x::l=>x+B*val B l
def iN:LnQ->LnQ
 |[]=>[]
 | x::l=>match iN l with
  |[]=>if x=0 then[]else[x]
  |y::r=>x::y::r
def OV(B:Nat):Nat->Nat->LnQ
 |0,_=>[]
 |f+1,n=>if n=0 then[]else n%B::OV B f (n/B)
def dig(B n:Nat):LnQ:=OV B n n
def aF(B:Nat)(l:LnQ):Prop:=∀x∈l,x<B
section
variable{B:Nat}
theorem val_append(a b:LnQ):val B (a++b)=val B a+B^a.length*val B b:=by
 induction a with
 |nil=>simp[val]
 |cons x a ih=>grind[val]
theorem jR(hB:0<B)(h:aF B l):val B l<B^l.length:=by
 induction l with
 |nil=>simp[val]
 | cons x l ih=>
  have h1:=ih λy hy=>h y (by grind)
  have h2:=h x ac;simp only[val,List.length_cons,Nat.pow_succ];have:B*(val B l+1)<=B*B^l.length:=Z0 B h1
  grind
theorem aF.take{l:LnQ}(h:aF B l)(n:Nat):aF B (l.take n):=λx hx=>h x (W0 hx)
theorem aF.drop{l:LnQ}(h:aF B l)(n:Nat):aF B (l.drop n):=λx hx=>h x (List.mem_of_mem_drop hx)
theorem aF.get(h:aF B l)(hi:i<l.length):l[i]<B:=h _ (Yl hi)
theorem aF.append(ha:aF B a)(hb:aF B b):aF B (a++b):=λx hx=>by
 rcases Xx.1 hx with h|h
 .exact ha x h
 .exact hb x h
theorem RX(l:LnQ):val B (iN l)=val B l:=by
 induction l with
 |nil=>rfl
 | cons x l ih=>
  grind[iN,val]
theorem K3(h:aF B l):aF B (iN l):=by
 induction l with
 |nil=>exact h
 | cons x l ih=>
  have h1:=ih λy hy=>h y (by grind)
  have hx:=h x ac;unfold iN;split
  .split
   .grind
   .intro y hy;grind
  .rename_i y r he;rw[he]at h1;intro z hz;rcases Zx.1 hz with rfl|hz
   .exact hx
   .exact h1 z hz
def Bc(l:LnQ):Prop:=∀h:l≠[],l.getLast h≠0
theorem NN(l:LnQ):Bc (iN l):=by
 induction l with
 |nil=>intro h;trivial
 | cons x l ih=>
  unfold iN;split
  .split
   .grind
   .rename_i hx;intro h;trivial
  .rename_i y r he;rw[he]at ih;intro h;rw[List.getLast_cons ac];exact ih ac
theorem GO(h:Bc l):iN l=l:=by
 induction l with
 |nil=>rfl
 | cons x l ih=>
  unfold iN;cases l with
  | nil=>
   have:=h ac
   grind[iN]
  | cons y r=>
   have:Bc (y::r):=λhh=>by have:=h ac;rwa [List.getLast_cons ac]at this
   grind
theorem rC(l:LnQ):iN (l++[0])=iN l:=by
 induction l with
 |nil=>rfl
 |cons x l ih=>grind[iN]
theorem yD(h:x≠0):iN (l++[x])=l++[x]:=GO λ_=>by grind
theorem Ec(hB:2<=B):∀(f n:Nat),n<=f->val B (OV B f n)=n∧aF B (OV B f n)∧Bc (OV B f n)
 | 0,n,h=>by
  have:n=0:=aa;subst this;exact⟨rfl,λx hx=>by trivial,λhx=>absurd rfl hx⟩
 | f+1,n,h=>by
  unfold OV;split
  .rename_i h0;subst h0;exact⟨rfl,λx hx=>by simp at hx,λhx=>absurd rfl hx⟩
  .rename_i h0;have hlt:n/B<n:=Nat.div_lt_self aa aa;obtain⟨h1,h2,h3⟩:=Ec hB f (n/B) aa;refine⟨?_,?_,?_⟩
   .grind[val,Xo]
   .intro x hx;rcases Zx.1 hx with rfl|hx
    .exact Yy _ aa
    .exact h2 x hx
   .intro hne;by_cases hd:OV B f (n/B)=[]
    .simp only[hd];rw[hd]at h1;simp only[val]at h1
     have:n<B:=by
      rcases Zg n B with h|h
      .exact h
      .have:=Nat.div_pos h (by omega:0<B);omega
     grind[Ya]
    .rw[List.getLast_cons hd];exact h3 hd
theorem jT(hB:2<=B)(n:Nat):val B (dig B n)=n:=(Ec hB n n (Z8 n)).1
theorem df(hB:2<=B)(n:Nat):aF B (dig B n):=(Ec hB n n (Z8 n)).2.1
theorem Gr(hB:2<=B)(n:Nat):Bc (dig B n):=(Ec hB n n (Z8 n)).2.2
theorem xc(h:Bc l)(hl:l≠[])(hB:0<B):val B l≠0:=by
 induction l with
 |nil=>trivial
 | cons x l ih=>
  cases l with
  |nil=>have:=h ac;trivial
  | cons y r=>
   have hn:Bc (y::r):=λhh=>by have:=h ac;rwa [List.getLast_cons ac]at this
   have:=ih hn ac;simp only[val]at this ⊢;have:=X3 hB (Nat.pos_of_ne_zero this);omega
theorem Mb(hB:0<B):∀{a b:LnQ},aF B a->aF B b->Bc a->Bc b->val B a=val B b->a=b
 |[],[],_,_,_,_,_=>rfl
 |[],y::b,_,_,_,hb,h=>absurd h.symm (xc hb ac hB)
 |x::a,[],_,_,ha,_,h=>absurd h (xc ha ac hB)
 | x::a,y::b,sa,sb,na,nb,h=>by
  have hx:=sa x ac;have hy:=sb y ac;simp only[val]at h
  have e1:x=y:=by
   have:=congrArg (· % B) h;simpa[Xg,Ya hx,Ya hy]using this
  subst e1;have e2:val B a=val B b:=Xv hB aa;have tl:∀{l:LnQ}{x:Nat},Bc (x::l)->Bc l:=λ{l x} h hl=>by have:=h ac;grind
  rw[Mb hB (λz hz=>sa z (by grind)) (λz hz=>sb z (by grind)) (tl na) (tl nb) e2]
theorem rW(hB:2<=B)(h:aF B l):dig B (val B l)=iN l:=
 Mb aa (df hB _) (K3 h) (Gr hB _) (NN l) (by rw[jT hB,RX])
theorem p6(hB:2<=B):(dig B n).length<=k↔n<B^k:=by
 have hv:=jT hB n;have hs:=jR aa (df hB n);rw[hv]at hs;constructor
 .intro h;exact Z3 hs (Zz aa h)
 .intro h;rcases Zg k (dig B n).length with hk|hk
  .exfalso;have hne:dig B n≠[]:=by intro e;rw[e]at hk;simp at hk
   have hdrop:val B ((dig B n).drop k)≠0:=by
    refine xc ?_ (by grind[List.drop_eq_nil_iff]) aa;intro hd;rw[List.getLast_drop];exact Gr hB n hne
   have:=val_append (B:=B) ((dig B n).take k) ((dig B n).drop k);rw[Xu,hv,Zr,Ys aa]at this;have:=Z0 (B^k) (Nat.pos_of_ne_zero hdrop);omega
  omega
def Om(a b:LnQ):Nat->Int
 |0=>0
 |i+1=>if a.getD i 0<b.getD i 0 then -1 else if b.getD i 0<a.getD i 0 then 1 else Om a b i
def cmp(a b:Nat):Int:=if a<b then -1 else if b<a then 1 else 0
theorem Qi(hB:0<B){a b:LnQ}(ha:aF B a)(hb:aF B b):∀i,i<=a.length->i<=b.length->Om a b i=cmp (val B (a.take i)) (val B (b.take i))
 |0,_,_=>by rfl
 | i+1,h1,h2=>by
  have e:∀(l:LnQ)(h:i<l.length),val B (l.take (i+1))=val B (l.take i)+B^i*l[i]:=λl h=>by
   rw[List.take_add_one,val_append,Zr,Ys aa]
   grind[val]
  have la:=jR hB (ha.take i);have lb:=jR hB (hb.take i);rw[Zr,Ys aa]at la lb;rw[Om,e a aa,e b aa,Qi hB ha hb i aa aa];have ga:a.getD i 0=a[i]:=by simp[show i<a.length by omega]
  have gb:b.getD i 0=b[i]:=by simp[show i<b.length by omega]
  rw[ga,gb];generalize a[i]=x,b[i]=y at *;unfold cmp;rcases Nat.lt_trichotomy x y with h|h|h
  .rw[if_pos h];have:B^i*(x+1)<=B^i*y:=Z0 _ h;rw[Zn]at this;rw[if_pos aa]
  .grind
  .rw[if_neg aa,if_pos h];have:B^i*(y+1)<=B^i*x:=Z0 _ h;rw[Zn]at this;rw[if_neg aa,if_pos aa]
theorem Kj(hB:2<=B)(h:(dig B m).length<(dig B n).length):m<n:=by
 have h1:m<B^(dig B m).length:=(p6 hB).1 (Z8 _);rcases Zg n (B^(dig B m).length)with h2|h2
 .have:=(p6 hB).2 h2;omega
 .omega
theorem qK(l:LnQ)(i:Nat):val B (l.drop i)=l.getD i 0+B*val B (l.drop (i+1)):=by
 by_cases h:i<l.length
 .grind[Yx,val]
 .rw[Y8 aa,Y8 aa];simp[val,List.getElem?_eq_none (by omega:l.length<=i)]
theorem aF.getD{l:LnQ}(h:aF B l)(hB:0<B)(i:Nat):l.getD i 0<B:=by
 by_cases hi:i<l.length
 .simp_all[get]
 .simp[List.getElem?_eq_none (by omega:l.length<=i),hB]
theorem KX(l:LnQ)(x:Nat):val B (l++[x])=val B l+B^l.length*x:=by simp[val_append,val]
theorem Bi(n:Nat):val B (List.replicate n 0)=0:=by
 induction n with
 |zero=>rfl
 |succ n ih=>grind[val]
theorem aF.snoc(h:aF B l)(hx:x<B):aF B (l++[x]):=h.append λy hy=>by grind
end
theorem xC{B:Nat}:∀(l:LnQ)(j x:Nat),j<l.length->val B (l.set j x)+B^j*l.getD j 0=val B l+B^j*x
 |[],j,x,h=>by simp at h
 |y::l,0,x,h=>by simp[val];omega
 | y::l,j+1,x,h=>by
  have:=xC (B:=B) l j x (by simpa using h);simp only[List.set_cons_succ,val,List.getD_cons_succ,Nat.pow_succ];rw[Zo (B^j) B,Nat.mul_assoc,Nat.mul_assoc];generalize val B (l.set j x)=p at *;generalize B^j*l.getD j 0=q at *;generalize B^j*x=r at *;have h2:B*(p+q)=B*(val B l+r):=by rw[this]
  rw[Zn,Zn]at h2;omega
theorem aF.set{B:Nat}{l:LnQ}(h:aF B l){j x:Nat}(hx:x<B):aF B (l.set j x):=by
 intro y hy;rcases Yn hy with h1|h1
 .exact h y h1
 .subst h1;exact hx
theorem yu{B:Nat}(l:LnQ)(h:i<l.length):val B (l.take (i+1))=val B (l.take i)+B^i*l.getD i 0:=by rw[List.take_add_one,val_append,Zr,Ys aa];simp[List.getElem?_eq_getElem h,val]
theorem V9{B:Nat}{j c a y v:Nat}(hj:j<o.length):
  val B (o.set j ((c+o.getD j 0+a*y)%B))+B^(j+1)*((c+o.getD j 0+a*y)/B+a*v)=val B o+B^j*(c+a*(y+B*v)):=by
 have h:=xC (B:=B) o j ((c+o.getD j 0+a*y)%B) hj;generalize val B (o.set j ((c+o.getD j 0+a*y)%B))=p at *;generalize o.getD j 0=w at *;have hd:=Xo (c+w+a*y) B;generalize(c+w+a*y)%B=r at *;generalize(c+w+a*y)/B=d at *;generalize val B o=q at *;generalize hP:B^j=P at *;rw[Nat.pow_succ,hP,Nat.mul_assoc]
 have e1:P*(B*(d+a*v))+P*r=P*(c+w+a*y)+P*(a*(B*v)):=by
  rw[<-Zn,<-Zn,<-hd,Zn B,Y0 a B v];congr 1;omega
 have e2:P*(c+a*(y+B*v))+P*w=P*(c+w+a*y)+P*(a*(B*v)):=by
  rw[<-Zn,<-Zn,Zn a];congr 1;omega
 omega
end Go.Big
namespace Go.Vm
open Go Go.Am
abbrev ai:TyI:=⟨.f,1,8,[.pl .nilFunc],false⟩
abbrev jf:TyI:=⟨.o,1,0,[],false⟩
abbrev EY:TyI:=⟨.p,1,8,[.pl (.pointer none)],false⟩
abbrev PW:TyI:=⟨.i .i64,1,8,[.int .i64 0],false⟩
abbrev PV:TyI:=⟨.i .u8,1,1,[.int .u8 0],false⟩
abbrev PT:TyI:=⟨.s,1,16,[.str []],false⟩
abbrev U1:TyI:=⟨.i .u64,1,8,[.int .u64 0],false⟩
abbrev U0:TyI:=⟨.it,1,16,[.pl .nilIface],false⟩
abbrev UZ:TyI:=⟨.i .i32,1,4,[.int .i32 0],false⟩
abbrev UY:TyI:=⟨.sl 3,1,24,[.pl (.slice none 0 0)],false⟩
abbrev Vn:TyI:=⟨.st [(0,1),(1,1),(2,1),(3,1)],4,24,[.int .i64 0,.int .i64 0,.bool false,.int .u8 0],false⟩
abbrev Vl:TyI:=⟨.st [(0,1),(1,1)],2,24,[.str [],.int .u64 0],false⟩
abbrev Vk:TyI:=⟨.st [(0,1)],1,8,[.pl (.pointer none)],false⟩
abbrev Vj:TyI:=⟨.st [(0,1),(1,1),(2,1)],3,40,[.int .u8 0,.pl (.slice none 0 0),.bool false],false⟩
abbrev Vi:TyI:=⟨.sl 33,1,24,[.pl (.slice none 0 0)],false⟩
abbrev Vh:TyI:=⟨.sl 28,1,24,[.pl (.slice none 0 0)],false⟩
abbrev Vg:TyI:=⟨.st [(0,1),(1,1),(2,1)],3,72,[.pl (.slice none 0 0),.pl (.slice none 0 0),.pl (.slice none 0 0)],false⟩
abbrev Vf:TyI:=⟨.st [(0,3),(3,1)],4,96,[.pl (.slice none 0 0),.pl (.slice none 0 0),.pl (.slice none 0 0),.pl (.slice none 0 0)],false⟩
abbrev Vd:TyI:=⟨.st [(0,1),(1,1),(2,1),(3,1),(4,1)],5,56,[.pl (.slice none 0 0),.pl (.slice none 0 0),.bool false,.bool false,.bool false],false⟩
abbrev Vb:TyI:=⟨.st [(0,1),(1,1)],2,32,[.int .i64 0,.pl (.slice none 0 0)],false⟩
abbrev Va:TyI:=⟨.st [(0,1),(1,1),(2,1)],3,56,[.int .i64 0,.pl (.slice none 0 0),.pl (.slice none 0 0)],false⟩
abbrev U9:TyI:=⟨.st [(0,2),(2,2),(4,1),(5,1),(6,1)],7,72,[.str [],.str [],.str [],.str [],.bool false,.bool false,.bool false],false⟩
abbrev U8:TyI:=⟨.sl 145,1,24,[.pl (.slice none 0 0)],false⟩
abbrev U7:TyI:=⟨.sl 31,1,24,[.pl (.slice none 0 0)],false⟩
abbrev U6:TyI:=⟨.st [(0,1),(1,1),(2,1)],3,64,[.pl (.slice none 0 0),.pl (.slice none 0 0),.str []],false⟩
abbrev U5:TyI:=⟨.sl 209,1,24,[.pl (.slice none 0 0)],false⟩
abbrev U4:TyI:=⟨.st [(0,1),(1,1),(2,1)],3,48,[.str [],.str [],.pl .nilIface],false⟩
abbrev U3:TyI:=⟨.st [(0,1),(1,1),(2,1),(3,1)],4,40,[.pl (.pointer none),.pl (.pointer none),.pl (.pointer none),.str []],false⟩
abbrev U2:TyI:=⟨.st [(0,1),(1,1),(2,1),(3,1),(4,1),(5,1),(6,1),(7,1),(8,1),(9,1),(10,1)],11,48,[.int .u64 0,.int .u64 0,.int .u32 0,.int .u8 0,.int .u8 0,.int .u8 0,.int .u8 0,.pl .nilFunc,.pl (.pointer none),.int .i32 0,.int .i32 0],false⟩
abbrev slQ(n:Nat):TyI:=⟨.sl n,1,24,[.pl (.slice none 0 0)],false⟩
def ahB:List TyI:=[
 jf,ai,PW,PW,⟨.b,1,1,[.bool false],false⟩,PV,PV,Vn,Vn,PT,PT,PT,U1,Vl,Vl,EY]
def ahA:List TyI:=[
 EY,EY,Vk,Vk,U0,UZ,slQ 66,Vj,Vj,Vi,Vi,UY,UY,ai,ai,PT]
def ahz:List TyI:=[
 ⟨.st [(0,1),(1,1)],2,32,[.str [],.str []],false⟩,⟨.st [(0,1),(1,1)],2,32,[.str [],.str []],true⟩,UY,Vh,Vh,Vg,Vg,ai,PW,ai,slQ 26,Vf,Vf,jf,ai,Vd]
def ahy:List TyI:=[
 Vd,jf,ai,jf,ai,ai,ai,jf,ai,ai,ai,ai,ai,ai,ai,ai]
def ahx:List TyI:=[
 ai,⟨.i .i8,1,1,[.int .i8 0],false⟩,⟨.ar 4 65,4,4,[.int .i8 0,.int .i8 0,.int .i8 0,.int .i8 0],false⟩,jf,ai,ai,Vb,Vb,ai,jf,ai,ai,ai,Va,Va,jf]
def ahw:List TyI:=[
 ai,jf,ai,ai,ai,ai,jf,ai,U9,U9,ai,ai,ai,jf,ai,ai]
def ahv:List TyI:=[
 jf,ai,ai,ai,ai,ai,jf,ai,ai,ai,jf,ai,slQ 34,ai,ai,ai]
def ahu:List TyI:=[
 ai,U8,U8,ai,ai,ai,ai,ai,ai,ai,ai,ai,EY,ai,ai,ai]
def aht:List TyI:=[
 ai,ai,ai,ai,ai,ai,ai,ai,ai,ai,ai,ai,ai,ai,ai,ai]
def ahs:List TyI:=[
 U7,U7,ai,ai,ai,ai,ai,ai,ai,ai,jf,ai,ai,ai,ai,jf]
def afC:List TyI:=[
 ai,ai,ai,U6,U6,ai,ai,ai,ai,ai,ai,ai,ai,ai,jf,ai]
def afB:List TyI:=[
 ai,ai,ai,ai,ai,ai,ai,U0,U0,jf,ai,ai,jf,ai,ai,ai]
def afA:List TyI:=[
 ai,jf,ai,U1,jf,ai,jf,ai,ai,ai,ai,ai,ai,ai,ai,jf]
def afz:List TyI:=[
 ai,U1,jf,ai,ai,U5,U5,ai,ai,ai,ai,ai,ai,ai,ai,⟨.i .u32,1,4,[.int .u32 0],false⟩]
def afy:List TyI:=[
 jf,ai,jf,ai,ai,ai,jf,ai,jf,ai,ai,ai,ai,ai,ai,PW]
def afx:List TyI:=[
 jf,ai,EY,ai,ai,jf,ai,ai,slQ 5,ai,ai,ai,ai,jf,ai,⟨.ar 24 5,24,24,List.replicate 24 (.int .u8 0),false⟩]
def afw:List TyI:=[
 ai,ai,jf,ai,ai,ai,ai,ai,ai,U4,U4,ai,ai,ai,ai,⟨.ar 20 209,20,160,List.replicate 20 (.int .u64 0),false⟩]
def afv:List TyI:=[
 ⟨.ar 65 5,65,65,List.replicate 65 (.int .u8 0),false⟩,EY,EY,⟨.st [(0,1)],1,16,[.str []],false⟩,⟨.st [(0,1)],1,16,[.str []],false⟩,ai,⟨.ar 32 5,32,32,List.replicate 32 (.int .u8 0),false⟩,⟨.ar 64 5,64,64,List.replicate 64 (.int .u8 0),false⟩,ai,U3,U3,⟨.ar 0 16,0,0,[],false⟩,⟨.st [(0,0)],0,0,[],false⟩,⟨.st [(0,0)],0,0,[],false⟩,PV,PV]
def afu:List TyI:=[
 ai,UZ,UZ,U2,U2,ai,⟨.o,1,8,[.pl (.pointer none)],false⟩,ai,ai,ai]
def Et:List (List TyI):=[ahB,ahA,ahz,ahy,ahx,ahw,ahv,ahu,aht,ahs,afC,afB,afA,afz,afy,afx,afw,afv,afu]
def aeZ:LnQ:=[0,1,230,231,232,233,234,235,236,237,238,239,240,241,242,243,244,245,246,247,248,249,250,251,252,253,254,255,256]
def oP:Nat:=2
namespace F
def cF:FuncId:=3
def fB:FuncId:=4
def fU:FuncId:=5
def fT:FuncId:=6
def cT:FuncId:=7
def jp:FuncId:=8
def eB:FuncId:=9
def cJ:FuncId:=10
def ii:FuncId:=11
def mD:FuncId:=12
def cN:FuncId:=13
def dX:FuncId:=14
def lY:FuncId:=15
def nA:FuncId:=16
def ip:FuncId:=17
def bI:FuncId:=18
def fF:FuncId:=19
def bH:FuncId:=20
def dK:FuncId:=21
def eT:FuncId:=22
def dL:FuncId:=23
def gJ:FuncId:=24
def fG:FuncId:=25
def jh:FuncId:=26
def gM:FuncId:=27
def kv:FuncId:=28
def eX:FuncId:=29
def jm:FuncId:=30
def iZ:FuncId:=31
def mC:FuncId:=32
def iU:FuncId:=33
def iF:FuncId:=34
def aA:FuncId:=35
def cr:FuncId:=36
def fw:FuncId:=37
def jk:FuncId:=38
def aa0:FuncId:=39
def Sm:FuncId:=40
def gS:FuncId:=41
def bi:FuncId:=42
def nY:FuncId:=43
def bE:FuncId:=44
def bF:FuncId:=45
def fC:FuncId:=46
def lX:FuncId:=47
def lS:FuncId:=48
def uu:FuncId:=49
def iE:FuncId:=50
def aR:FuncId:=51
def jv:FuncId:=52
def im:FuncId:=53
def d7:FuncId:=54
def qy:FuncId:=55
def jg:FuncId:=56
def ku:FuncId:=57
def lj:FuncId:=58
def cL:FuncId:=59
def c8:FuncId:=60
def dF:FuncId:=61
def au:FuncId:=62
def qq:FuncId:=63
def eQ:FuncId:=64
def bX:FuncId:=65
def ji:FuncId:=66
def iK:FuncId:=67
def fu:FuncId:=68
def kr:FuncId:=69
def jC:FuncId:=70
def fx:FuncId:=71
def kh:FuncId:=72
def fI:FuncId:=73
def pD:FuncId:=74
def py:FuncId:=75
def jX:FuncId:=76
def je:FuncId:=77
def nX:FuncId:=80
def oo:FuncId:=81
def ib:FuncId:=82
def nH:FuncId:=83
def sU:FuncId:=84
def jw:FuncId:=85
def ct:FuncId:=86
def fA:FuncId:=87
def ot:FuncId:=88
def eH:FuncId:=89
def cg:FuncId:=90
def oe:FuncId:=91
def pw:FuncId:=92
def lh:FuncId:=93
def fW:FuncId:=94
def kt:FuncId:=95
def cx:FuncId:=96
def gL:FuncId:=97
def pA:FuncId:=98
def qp:FuncId:=99
def ij:FuncId:=100
def gF:FuncId:=101
def lI:FuncId:=102
def mK:FuncId:=103
def bj:FuncId:=104
def bN:FuncId:=105
def dD:FuncId:=106
def fR:FuncId:=107
def lW:FuncId:=109
def qN:FuncId:=110
def gm:FuncId:=111
def fv:FuncId:=112
def ou:FuncId:=113
def nu:FuncId:=114
def dV:FuncId:=115
def po:FuncId:=116
def gE:FuncId:=117
def aP:FuncId:=118
def kf:FuncId:=119
def strconv_Itoa:FuncId:=120
def bO:FuncId:=121
def fc:FuncId:=122
def eW:FuncId:=123
def pC:FuncId:=124
def bb:FuncId:=125
def pu:FuncId:=126
def mJ:FuncId:=127
def aU:FuncId:=128
def fe:FuncId:=129
def iv:FuncId:=130
def qn:FuncId:=131
def nZ:FuncId:=132
def kS:FuncId:=133
def fE:FuncId:=134
def mA:FuncId:=135
def bD:FuncId:=136
def aQ:FuncId:=137
def cM:FuncId:=138
def km:FuncId:=139
def gv:FuncId:=140
def cn:FuncId:=141
def qi:FuncId:=144
def gI:FuncId:=145
def C7:FuncId:=146
def jj:FuncId:=147
def kG:FuncId:=148
def r9:FuncId:=149
def nP:FuncId:=150
def mH:FuncId:=151
def k9:FuncId:=152
def d9:FuncId:=153
def gy:FuncId:=154
def ic:FuncId:=155
def sd:FuncId:=156
def od:FuncId:=157
def qS:FuncId:=158
def aY:FuncId:=159
def jt:FuncId:=160
def cW:FuncId:=161
def cE:FuncId:=162
def dY:FuncId:=163
def aG:FuncId:=164
def iG:FuncId:=165
def pz:FuncId:=166
def zd:FuncId:=167
def C5:FuncId:=168
def strconv_Atoi:FuncId:=169
def fY:FuncId:=170
def jG:FuncId:=171
def d8:FuncId:=172
def dd:FuncId:=173
def aT:FuncId:=174
def pG:FuncId:=176
def gn:FuncId:=177
def jz:FuncId:=178
def iC:FuncId:=180
def Df:FuncId:=181
def dw:FuncId:=182
def dI:FuncId:=183
def cC:FuncId:=184
def de:FuncId:=185
def dM:FuncId:=186
def cI:FuncId:=187
def az:FuncId:=188
def dJ:FuncId:=189
def aV:FuncId:=190
def aL:FuncId:=191
def jA:FuncId:=192
def ia:FuncId:=198
def kD:FuncId:=199
def gH:FuncId:=200
def bW:FuncId:=201
def sj:FuncId:=203
def dO:FuncId:=204
def iJ:FuncId:=207
def dG:FuncId:=208
def bP:FuncId:=209
def qZ:FuncId:=210
def cj:FuncId:=211
def bz:FuncId:=212
def fS:FuncId:=217
def dZ:FuncId:=218
def mI:FuncId:=219
def gj:FuncId:=221
def iI:FuncId:=222
def gk:FuncId:=223
def Dh:FuncId:=226
def uV:FuncId:=dO
end F
end Go.Vm
namespace Go.Vm
open Go Go.Am
noncomputable section
def R3:List TyI->Nat->TyI
 |[],_=>⟨.o,0,0,[],false⟩
 |x::_,0=>x
 |_::l,n+1=>R3 l n
def K5:List (List TyI)->Nat->List TyI
 |[],_=>[]
 |x::_,0=>x
 |_::l,n+1=>K5 l n
def qg:Nat->LuQ->Nat
 |a,[]=>a
 |a,c::l=>qg (a*10+(c.toNat-48)) l
def pm(c:UInt8):Bool:=Nat.ble 48 c.toNat&&Nat.ble c.toNat 57
def LV:LvQ->Option Value
 |[.string s,.int .i64 a,.int .i64 b]=>if a=10∧b=64∧s.data.toList≠[]∧s.data.toList.all pm=true∧s.data.toList.length<=1000∧qg 0 s.data.toList<10000000000000000000 then some (.tuple #[.int .u64 (qg 0 s.data.toList),.nilIface])else none
 |_=>none
def Qe:LvQ->Option Value
 | [.string s,.int .i64 a,.int .i64 b]=>if a=10∧b=64 then(match s.data.toList with
  |45::l=>if l≠[]∧l.all pm=true∧l.length<=1000∧qg 0 l<9223372036854775808 then some (.tuple #[.int .i64 (-(qg 0 l:Int)),.nilIface])else none
  |l=>if l≠[]∧l.all pm=true∧l.length<=1000∧qg 0 l<9223372036854775808 then some (.tuple #[.int .i64 (qg 0 l),.nilIface])else none)else none
 |_=>none
def OE:Value->Bool
 |.slice ..=>true
 |_=>false
def ND(H:AH)(p q:Value):Option (List LvQ):=match nC H 1 p,nC H 1 q with
 |some (k,xs),some (k',ys)=>if k=k'∧xs.length=k∧ys.length=k∧k<4611686018427387904∧(OE p&&OE q)=true∧(xs.all λv=>plain v&&okCell v)=true∧(ys.all λv=>plain v&&okCell v)=true then some ((xs.zip ys).map λx=>[x.1,x.2])else none
 |_,_=>none
def Jq(f:FuncId)(lb:LvQ)(H:AH):Option (List LvQ):=match Nat.beq f F.dO with
 | true=>match lb with
  | [.pointer (some ⟨b,o,none⟩)]=>match b9 H b o 3 with
   |some [p,q,_]=>ND H p q
   |_=>none
  |_=>none
 | false=>match Nat.beq f F.uV with
  | true=>match lb with
   | [.pointer (some ⟨b,o,none⟩),.pointer (some ⟨b',o',none⟩)]=>match b9 H b o 1,b9 H b' o' 1 with
    |some [p],some [q]=>ND H p q
    |_,_=>none
   |_=>none
  |false=>none
def Lz(f:FuncId)(lb:LvQ)(H:AH):LvQ:=match lb with
 |[.pointer (some ⟨b,o,none⟩)]=>(b9 H b o 3).getD []
 |[.pointer (some ⟨b,o,none⟩),.pointer (some ⟨b',o',none⟩)]=>(b9 H b o 1).getD []++(b9 H b' o' 1).getD []
 |_=>[]
def lits:LdQ->Option LvQ
 |[]=>some []
 | x::l=>match x,lits l with
  |.int k n,some r=>some (.int k n::r)
  |.str s,some r=>some (.string ⟨⟨s⟩⟩::r)
  |_,_=>none
def slD:D->Option (Nat×LdQ)
 |.sl n l=>some (n,l)
 |.pl (.slice none 0 0)=>some (0,[])
 |_=>none
def RN(p q:D):Option (List LvQ):=match slD p,slD q with
 | some (k,l),some (k',m)=>match lits l,lits m with
  |some xs,some ys=>if k=k'∧xs.length=k∧ys.length=k∧k<4611686018427387904 then some ((xs.zip ys).map λx=>[x.1,x.2])else none
  |_,_=>none
 |_,_=>none
def adV(f:FuncId)(cs:LwQ):Option (List LvQ):=match Nat.beq f F.dO with
 | true=>match cs with
  |[.dptr [p,q,_] 0]=>RN p q
  |_=>none
 | false=>match Nat.beq f F.uV with
  | true=>match cs with
   |[.dptr [p] 0,.dptr [q] 0]=>RN p q
   |_=>none
  |false=>none
def X:Cfg:={P:=Go.Proofs.Tryz.prog,allow:=iP aeZ,glob:=λg=>Nat.beq g oP,orc:=λf args=>(match Nat.beq f F.fS with
 |true=>LV args
 | false=>match Nat.beq f F.fE with
  |true=>Qe args
  |false=>none),seq:=Jq,seqK:=Lz}
def LX:LdQ:=[.int .u64 1,.int .u64 10,.int .u64 100,.int .u64 1000,.int .u64 10000,.int .u64 100000,.int .u64 1000000,.int .u64 10000000,.int .u64 100000000,.int .u64 1000000000,.int .u64 10000000000,.int .u64 100000000000,
 .int .u64 1000000000000,.int .u64 10000000000000,.int .u64 100000000000000,.int .u64 1000000000000000,.int .u64 10000000000000000,.int .u64 100000000000000000,.int .u64 1000000000000000000,.int .u64 10000000000000000000]
def Y:kK:={X:=X,ty:=λt=>R3 (K5 Et (t/16)) (t%16),glob:=λg=>(match Nat.beq g oP with
 |true=>some LX
 |false=>none),seq:=adV}
end
end Go.Vm
set_option maxRecDepth 100000
namespace Go.Vm
open Go Go.Am
variable{x:Prop}{y w:Value}{P:Program}{t:TypeId}{d p:D}{z l:LdQ}{k k':kkQ}{a b f v0 c v:V}{h0 h:Hp}{T:kkQ->Prop}{s n m:Nat}{ps:List (Nat×V)}{dr:Bool}
def aeG:Value->Value->Bool
 |.pointer none,.pointer none=>true
 |.slice none a b,.slice none c d=>a == c&&b == d
 |.nilFunc,.nilFunc=>true
 |.nilIface,.nilIface=>true
 |.map none,.map none=>true
 |.chan none,.chan none=>true
 |_,_=>false
theorem ab2{x:Value}(h:aeG x y=true):x=y:=by unfold aeG at h;split at h<;>first|rfl|(simp at h;obtain⟨rfl,rfl⟩:=h;rfl)|cases h
def aeH:D->D->Bool
 |.int k a,.int l b=>decide (k=l)&&decide (a=b)
 |.bool a,.bool b=>a == b
 |.str a,.str b=>a == b
 |.pl a,.pl b=>aeG a b
 |_,_=>false
theorem ab3{x y:D}(h:aeH x y=true):x=y:=by
 unfold aeH at h;split at h
 .simp at h;obtain⟨rfl,rfl⟩:=h;rfl
 .simp at h;subst h;rfl
 .simp at h;subst h;rfl
 .rw[ab2 h]
 .cases h
def YQ:LdQ->LdQ->Bool
 |[],[]=>true
 |x::l,y::m=>aeH x y&&YQ l m
 |_,_=>false
theorem Rc:∀{l m:LdQ},YQ l m=true->l=m
 |[],[],_=>rfl
 | x::l,y::m,h=>by
  simp only[YQ,Z7]at h;rw[ab3 h.1,Rc h.2]
 |[],_::_,h=>by cases h
 |_::_,[],h=>by cases h
def XI(P:Program)(t:TypeId)(k:Ty):Bool:=match k with
 |.i k=>match P.underlying t with|some (.int k')=>decide (k'=k)|_=>false
 |.b=>match P.underlying t with|some .bool=>true|_=>false
 |.s=>match P.underlying t with|some .string=>true|_=>false
 |.p=>match P.underlying t with|some (.pointer _)=>true|_=>false
 |.f=>match P.underlying t with|some (.func ..)=>true|_=>false
 |.it=>match P.underlying t with|some (.interface _)=>true|_=>false
 |.sl e=>match P.underlying t with|some (.slice e')=>e' == e|_=>false
 |.ar n e=>match P.underlying t with|some (.array n' e')=>n' == n&&e' == e|_=>false
 |.st fs=>match P.underlying t with|some (.struct gs)=>decide (gs.toList.map (λf=>(f.offset,szO P f.type))=fs.map λp=>(p.1,some p.2))|_=>false
 |.o=>true
def OD(P:Program)(t:TypeId):D->Bool
 |.int _ _=>match P.underlying t with|some (.int _)=>true|_=>false
 |.bool _=>match P.underlying t with|some .bool=>true|_=>false
 |.str _=>match P.underlying t with|some .string=>true|_=>false
 |_=>false
theorem S5(h:OD P t d=true):QO P t d:=by
 unfold OD at h;split at h
 .split at h
  .rename_i hu;exact⟨_,hu⟩
  .cases h
 .split at h
  .rename_i hu;exact hu
  .cases h
 .split at h
  .rename_i hu;exact hu
  .cases h
 .cases h
def YF(P:Program)(t:TypeId)(z:LdQ):Bool:=match P.underlying t with
 |some (.struct gs)=> !P.stoodInHeld t && !P.eqGuardType P.depth t&&decide (gs.size=z.length)&&(gs.toList.zipIdx.zip z).all λx=>x.1.1.offset == x.1.2&&x.1.1.name != "_" && OD P x.1.1.type x.2
 |_=>false
theorem YE(h:YF P t z=true):KD P t z:=by
 unfold YF at h;split at h
 .rename_i gs hu;simp only[Z7,Y4,decide_eq_true_eq,Z1]at h;obtain⟨⟨⟨h1,h2⟩,h3⟩,h4⟩:=h;refine⟨gs,hu,h1,h2,h3,λi f d hf hd=>?_⟩
  have:=h4 ((f,i),d) (by
   apply X4 (i:=i);rw[List.getElem?_zip_eq_some];exact⟨by rw[List.getElem?_zipIdx,hf];simp,hd⟩)
  simp only[beq_iff_eq,bne_iff_ne]at this;exact⟨this.1.1,this.1.2,S5 this.2⟩
 .cases h
def tyB(P:Program)(t:TypeId)(i:TyI):Bool:=(!i.eq||YF P t i.z)&&match i.k with
 |.o=>true
 | k=>XI P t k&&decide (szO P t=some i.sz)&&decide (rH P t=some i.bytes)&&match iL P t with
  |some z=>plain z&&z.cells.size == i.sz&&(z.cells.toList.all λc=>plain c&&okCell c)&&YQ (z.cells.toList.map jN) i.z
  |none=>false
theorem Ps{i:TyI}(h:tyB P t i=true):GG P t i:=by
  unfold tyB at h;rw[Z7]at h;obtain⟨h0,h⟩:=h
  have heq:i.eq=true->KD P t i.z:=λe=>by
    rw[e]at h0;exact YE (by simpa using h0)
  by_cases hk:i.k = .o
  · exact⟨by rw[hk];trivial,λh=>absurd hk h,λh=>absurd hk h,λh=>absurd hk h,heq⟩
  · have h2:XI P t i.k=true∧szO P t=some i.sz∧rH P t=some i.bytes∧(match iL P t with
        |some z=>plain z&&z.cells.size == i.sz&&(z.cells.toList.all λc=>plain c&&okCell c)&&YQ (z.cells.toList.map jN) i.z
        |none=>false)=true:=by
      split at h
      · rename_i e;exact absurd e hk
      · simp only[Z7,decide_eq_true_eq]at h
        exact⟨h.1.1.1,h.1.1.2,h.1.2,h.2⟩
    obtain⟨h1,h2,h3,h4⟩:=h2;refine⟨?_,λ_=>h2,λ_=>h3,λ_=> ?_,heq⟩
    · unfold XI at h1
      cases hq:i.k<;>rw[hq]at h1<;>dsimp only at h1 ⊢
      all_goals first
        |trivial
        | (split at h1
           · rename_i hu
             first
               |(simp only[decide_eq_true_eq]at h1;subst h1;exact hu)
               |exact hu
               |exact⟨_,hu⟩
               |exact⟨_,_,_,hu⟩
               |(simp only[beq_iff_eq]at h1;subst h1;exact hu)
               |(simp only[Z7,beq_iff_eq]at h1;obtain⟨rfl,rfl⟩:=h1;exact hu)
               |(simp only[decide_eq_true_eq]at h1;exact⟨_,hu,h1⟩)
           · cases h1)
    · split at h4
      · rename_i z hz
        simp only[Z7,beq_iff_eq,Z1]at h4;refine⟨z,hz,h4.1.1.1,Rc h4.2,h4.1.1.2,λc hc=> ?_⟩;have:=h4.1.2 c hc;exact this
      · cases h4
theorem Bp:∀(l:List (List TyI))(n:Nat),l.length<=n->K5 l n=[]
 |[],_,_=>rfl
 |_::_,0,h=>by simp at h
 |_::l,n+1,h=>Bp l n (by simpa using h)
theorem adJ:(List.range (16*Et.length)).all (λt=>tyB Y.X.P t (Y.ty t))=true:=aJ
section
variable{F:Nat->Prop}{H:AH}
theorem Ag:∀{l:LdQ}{xs:LvQ},lits l=some xs->(∀v∈xs,okZ v)∧∀ws,RDs F H l ws->ws=xs
 | [],xs,h=>by
  simp only[lits,Z9]at h;subst h;exact⟨λv hv=>(by cases hv),λws hw=>by simpa only[RDs]using hw⟩
 | x::l,xs,h=>by
  unfold lits at h;split at h
  .rename_i k n r hr;simp only[Z9]at h;subst h;obtain⟨q1,q2⟩:=Ag hr;refine⟨λv hv=>?_,λws hw=>?_⟩
   .rcases Zx.1 hv with rfl|hv
    .exact⟨rfl,rfl⟩
    .exact q1 v hv
   .simp only[RDs,RD]at hw;obtain⟨v,us,rfl,rfl,h2⟩:=hw;rw[q2 us h2]
  .rename_i s r hr;simp only[Z9]at h;subst h;obtain⟨q1,q2⟩:=Ag hr;refine⟨λv hv=>?_,λws hw=>?_⟩
   .rcases Zx.1 hv with rfl|hv
    .exact⟨rfl,rfl⟩
    .exact q1 v hv
   .simp only[RDs,RD]at hw;obtain⟨v,us,rfl,rfl,h2⟩:=hw;rw[q2 us h2]
  .cases h
theorem UH{k:Nat}{xs:LvQ}(h:slD p=some (k,l))(hl:lits l=some xs)(hk:xs.length=k)(hw:RD F H p w):nC H 1 w=some (k,xs):=by
 obtain⟨q1,q2⟩:=Ag (F:=F) (H:=H) hl;unfold slD at h;split at h
 .rename_i n l';simp only[Z9,Z5]at h;obtain⟨rfl,rfl⟩:=h;simp only[RD]at hw;rcases hw with⟨rfl,rfl,h3⟩|⟨c,o,cap,vs,m,rfl,h1,h2,h3,h4,h5,h6,h7,h8⟩
  .simp only[lits,Z9]at hl;subst hl;rcases h3 with rfl|⟨c,o,cap,rfl,_⟩
   .rfl
   .simp[nC]
  .have e:=q2 vs h7;subst e
   have hl:l'.length=n:=by
    rw[<-hk,Sz h6]
   simp only[nC,X8];rw[if_neg aa,<-hl,h6];simp
 .simp only[Z9,Z5]at h;obtain⟨rfl,rfl⟩:=h;simp only[lits,Z9]at hl;subst hl;simp only[RD]at hw;obtain⟨rfl,_⟩:=hw;rfl
 .cases h
theorem UG{k:Nat}(h:slD p=some (k,l))(hw:RD F H p w):OE w=true:=by
 unfold slD at h;split at h
 .rename_i n l';simp only[RD]at hw;rcases hw with⟨_,_,h3⟩|⟨c,o,cap,vs,m,rfl,_⟩
  .rcases h3 with rfl|⟨c,o,cap,rfl,_⟩<;>rfl
  .rfl
 .simp only[RD]at hw;obtain⟨rfl,_⟩:=hw;rfl
 .cases h
theorem Dx{q:D}{xs:List LvQ}(h:RN p q=some xs):(∀z∈xs,∀v∈z,okZ v)∧∀v w,RD F H p v->RD F H q w->ND H v w=some xs:=by
 unfold RN at h;split at h
 case h_2=>cases h
 rename_i k l k' m hp hq;split at h
 case h_2=>cases h
 rename_i us vs hl hm;split at h
 case isFalse=>cases h
 rename_i hc;simp only[Z9]at h;subst h;have o1:=(Ag (F:=F) (H:=H) hl).1;have o2:=(Ag (F:=F) (H:=H) hm).1;refine⟨λz hz v hv=>?_,λv w hv hw=>?_⟩
 .obtain⟨⟨a,b⟩,hab,rfl⟩:=Zw.1 hz;have:=List.of_mem_zip hab;simp only[Zx,Yp,or_false]at hv;rcases hv with rfl|rfl
  .exact o1 _ this.1
  .exact o2 _ this.2
 .unfold ND;rw[UH hp hl hc.2.1 hv,UH hq hm (hc.2.2.1.trans hc.1) hw];have c1:(us.all λv=>plain v&&okCell v)=true:=Z1.2 λx hx=>by have:=o1 x hx;simp[this.1,this.2]
  have c2:(vs.all λv=>plain v&&okCell v)=true:=Z1.2 λx hx=>by have:=o2 x hx;simp[this.1,this.2]
  exact if_pos ⟨hc.1,hc.2.1,hc.2.2.1,hc.2.2.2,by rw[UG hp hv,UG hq hw];rfl,c1,c2⟩
end
theorem yOk:YOk Y where
 seq gf cs xs h0:=by
  have h:adV gf cs=some xs:=h0;clear h0;unfold adV at h;split at h
  .rename_i hg;split at h
   .rename_i p q d;refine⟨(Dx (F:=λ_=>True) (H:=⟨0,[]⟩) h).1,λφ F H hp lb hr=>?_⟩;simp only[RVs,RV]at hr;obtain⟨v,_,rfl,⟨c,o,vs,rfl,hF,hrd,hd⟩,rfl⟩:=hr;simp only[RDs]at hd;obtain⟨v1,_,rfl,d1,v2,_,rfl,d2,v3,_,rfl,d3,rfl⟩:=hd;rw[show([p,q,d]:LdQ).length=3 from rfl]at hrd;refine⟨?_,λF' H' hl=>?_⟩
    .rw[show Y.X.seq=Jq from rfl];unfold Jq;rw[hg];simp only[Nat.add_zero];rw[hrd];exact(Dx h).2 _ _ d1 d2
    .rw[show Y.X.seqK=Lz from rfl];simp only[Lz,Nat.add_zero];rw[nJ (hl.keep c hF)]
   .cases h
  .rename_i hg;split at h
   .rename_i hg2;split at h
    .rename_i p q;refine⟨(Dx (F:=λ_=>True) (H:=⟨0,[]⟩) h).1,λφ F H hp lb hr=>?_⟩;simp only[RVs,RV]at hr;obtain⟨v,_,rfl,⟨c,o,vs,rfl,hF,hrd,hd⟩,v',_,rfl,⟨c',o',vs',rfl,hF',hrd',hd'⟩,rfl⟩:=hr;simp only[RDs]at hd hd';obtain⟨v1,_,rfl,d1,rfl⟩:=hd;obtain⟨v2,_,rfl,d2,rfl⟩:=hd';rw[show([p]:LdQ).length=1 from rfl]at hrd;rw[show([q]:LdQ).length=1 from rfl]at hrd'
     refine⟨?_,λF' H' hl=>?_⟩
     .rw[show Y.X.seq=Jq from rfl];unfold Jq;rw[hg,hg2];simp only[Nat.add_zero];rw[hrd,hrd'];exact(Dx h).2 _ _ d1 d2
     .rw[show Y.X.seqK=Lz from rfl];simp only[Lz,Nat.add_zero];rw[nJ (hl.keep c hF),nJ (hl.keep c' hF')]
    .cases h
   .cases h
 ty t:=by
  by_cases ht:t<16*Et.length
  .exact Ps (Z1.1 adJ t (Wy.2 ht))
  .refine Ps ?_
   have:(Y.ty t).k=.o:=by
    show(R3 (K5 Et (t/16)) (t%16)).k=.o
    have h2:∀t n:Nat,¬t<16*n->n<=t/16:=λt n hn=>by omega
    rw[Bp Et (t/16) (h2 t _ ht)];rfl
   have h2:(Y.ty t).eq=false:=by
    show(R3 (K5 Et (t/16)) (t%16)).eq=false
    have h2:∀t n:Nat,¬t<16*n->n<=t/16:=λt n hn=>by omega
    rw[Bp Et (t/16) (h2 t _ ht)];rfl
   unfold tyB;rw[this,h2];rfl
theorem ads{o:Option V}{k k':V->Prop}(h1:x=bnd o k)(h:∀v,k v=k' v):x=bnd o k':=by rw[h1,funext h]
theorem adh{o:V}{i:Nat}{k k':V->Prop}(h1:x=ext o i k)(h:∀v,k v=k' v):x=ext o i k':=by rw[h1,funext h]
theorem V3{op:BinOp}{k k':V->Prop}(h1:x=vg h0 op a b k)(h:∀v,k v=k' v):x=vg h0 op a b k':=by rw[h1,funext h]
theorem vM(h1:x=T k)(h:∀v h,k v h=k' v h):x=T k':=by rw[h1,show k=k' from funext λv=>funext λy=>h v y]
theorem ado{C:vK}{a:LwQ}(h1:x=cal C h0 f a k)(h:∀v h,k v h=k' v h):x=cal C h0 f a k':=vM h1 h
theorem adq{C:ti}{a:LwQ}(h1:x=cai C h0 f a s k)(h:∀v h,k v h=k' v h):x=cai C h0 f a s k':=vM h1 h
theorem adv{cs:LwQ}(h1:x=alV s cs h0 k)(h:∀v h,k v h=k' v h):x=alV s cs h0 k':=vM h1 h
theorem adw{cs:LdQ}(h1:x=alD s n cs h0 k)(h:∀v h,k v h=k' v h):x=alD s n cs h0 k':=vM h1 h
theorem aad(h1:x=ef s v0 h0 k)(h:∀v h,k v h=k' v h):x=ef s v0 h0 k':=vM h1 h
theorem WR(h1:x=cY n z ps h0 k)(h:∀v h,k v h=k' v h):x=cY n z ps h0 k':=vM h1 h
theorem WP(h1:x=tQ s n z ps h0 k)(h:∀v h,k v h=k' v h):x=tQ s n z ps h0 k':=vM h1 h
theorem ada(h1:x=mkS s n z h0 a b k)(h:∀v h,k v h=k' v h):x=mkS s n z h0 a b k':=vM h1 h
theorem ac2(h1:x=stD h0 n a b k)(h:∀v h,k v h=k' v h):x=stD h0 n a b k':=vM h1 h
theorem adu(h1:x=apV dr s n m a b h0 k)(h:∀v h,k v h=k' v h):x=apV dr s n m a b h0 k':=vM h1 h
theorem agI(h1:x=apZ dr s n m z a b h0 k)(h:∀v h,k v h=k' v h):x=apZ dr s n m z a b h0 k':=vM h1 h
theorem ags{w:Bool}(h1:x=gd c w h0 T k)(h:∀v h,k v h=k' v h):x=gd c w h0 T k':=vM h1 h
theorem adn{A A' B B':Prop}(h1:x=cnd c A B)(ha:A=A')(hb:B=B'):x=cnd c A' B':=by rw[h1,ha,hb]
theorem agl{k k':LwQ->Hp->Prop}{T T':(LwQ->Hp->Prop)->Prop}(h1:x=jn k T)(hk:∀l h,k l h=k' l h)(hT:∀q,T q=T' q):x=jn k' T':=by rw[h1,show k=k' from funext λv=>funext λy=>hk v y,show T=T' from funext hT]
theorem af7{s s':aN}{clr:LnQ}{h2:Hp}{l:LwQ}{k k':KL}(h1:x=lp s clr h0 l h2 k)(hs:∀l h q,s l h q=s' l h q)(hk:∀ex l h,k ex l h=k' ex l h):x=lp s' clr h0 l h2 k':=by rw[h1,show s=s' from funext λa=>funext λb=>funext λc=>hs a b c,show k=k' from funext λa=>funext λb=>funext λc=>hk a b c]
theorem adk{e ex:Exit}{q q':LwQ->Hp->Prop}{r r':List (Exit×(LwQ->Hp->Prop))}{l:LwQ}(h1:x=exK ((e,q)::r) ex l h)(hq:∀l h,q l h=q' l h)(hr:exK r ex l h=exK r' ex l h):x=exK ((e,q')::r') ex l h:=by
 rw[h1,show q=q' from funext λv=>funext λy=>hq v y];simp only[exK];split
 .rfl
 .exact hr
theorem WW{y:Prop}{k:V->Prop}(h1:x=bnd (some v) k)(h2:k v=y):x=y:=h1.trans h2
noncomputable def gl(g:Nat):V:=match Y.glob g with
 |some cs=>.dptr cs 0
 |none=>.junk
end Go.Vm
