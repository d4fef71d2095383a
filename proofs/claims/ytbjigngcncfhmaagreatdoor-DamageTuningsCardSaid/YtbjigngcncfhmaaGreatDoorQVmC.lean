/- Lemmas. -/
import Derived.Test.YtbjigngcncfhmaaGreatDoorQVmB
set_option linter.unusedVariables false
set_option linter.unusedSimpArgs false
namespace Go.Vm
open Go Go.Am
variable{p:Prop}{k:IntKind}{n i:Int}{j a b:Nat}{C:sE}{args ds:LwQ}
@[simp]theorem AC(v:V)(k:V->Prop):bnd (some v) k=k v:=rfl
theorem UL[Decidable p](hp:p)(x y:V):o9 (.d (.bool (decide p))) x y=some x:=by simp[o9,hp]
theorem aac[Decidable p](hp:¬p)(x y:V):o9 (.d (.bool (decide p))) x y=some y:=by simp[o9,hp]
@[simp low]theorem aer(b:Bool)(x y:V):o9 (.d (.bool b)) x y=some (if b=true then x else y):=by cases b<;>rfl
@[simp]theorem agv(l:LwQ)(i:Nat)(k:V->Prop):ext (.tup l) i k=bnd l[i]? k:=rfl
theorem ab6{k:LwQ->Hp->Prop}{T:(LwQ->Hp->Prop)->Prop}{l:LwQ}{h:Hp}(hT:∀q,T q=q l h):jn k T=k l h:=hT k
@[simp]theorem PY(x:V)(l:LwQ):ge (x::l) 0=x:=rfl
@[simp]theorem agr(x:V)(l:LwQ)(n:Nat):ge (x::l) (n+1)=ge l n:=rfl
@[simp]theorem ahv(x y:V)(l:LwQ):ge (x::y::l) 1=y:=rfl
@[simp]theorem ahu(x y z:V)(l:LwQ):ge (x::y::z::l) 2=z:=rfl
@[simp]theorem afI(x y z u:V)(l:LwQ):ge (x::y::z::u::l) 3=u:=rfl
@[simp] theorem kV (i:Nat)(q:LwQ->Hp->Prop)(r:List (Exit×(LwQ->Hp->Prop)))(l:LwQ)(h:Hp):exK ((.exit i,q)::r) (.exit i) l h=q l h:=by simp only[exK,Wb,X2]
@[simp]theorem DI(q:LwQ->Hp->Prop)(r:List (Exit×(LwQ->Hp->Prop)))(l:LwQ)(h:Hp):exK ((.ret,q)::r) .ret l h=q l h:=rfl
@[simp]theorem An(i:Nat)(p:LwQ->Hp->Prop)(r:List (Exit×(LwQ->Hp->Prop)))(l:LwQ)(h:Hp):exK ((.exit i,p)::r) .ret l h=exK r .ret l h:=rfl
theorem aj{step:aM}{clr:LnQ}{h0:Hp}{l:LwQ}{h:Hp}{k:KL}(hs:step l h (lpK clr h0 (λl h=>lp step clr h0 l h k) k)):lp step clr h0 l h k:=by
 intro I hI;refine hI l h ⟨_,hs,λex l' h' hq=>?_⟩;cases ex
 case normal=>exact⟨hq.1,hq.2 I hI⟩
 all_goals exact hq
@[simp]theorem adt(clr:LnQ)(h0:Hp)(I:LwQ->Hp->Prop)(k:KL)(l:LwQ)(h:Hp):lpK clr h0 I k .normal l h=(clean clr l h=true∧I l (aP clr 0 h0 h)):=rfl
@[simp]theorem afn(clr:LnQ)(h0:Hp)(I:LwQ->Hp->Prop)(k:KL)(i:Nat)(l:LwQ)(h:Hp):lpK clr h0 I k (.exit i) l h=k (.exit i) l h:=rfl
@[simp]theorem agl(clr:LnQ)(h0:Hp)(I:LwQ->Hp->Prop)(k:KL)(l:LwQ)(h:Hp):lpK clr h0 I k .ret l h=k .ret l h:=rfl
theorem HF:∀l:LwQ,ij [] l=true:=by
 intro l
 have key:∀x:V,pz [] x=true:=by
  intro x
  induction x using V.rec (motive_2:=λl=>ij [] l=true)with
  |agg l ih=>trivial
  |tup l ih=>trivial
  |fn g a b iha ihb=>grind[pz]
  |ifc t x ih=>trivial
  |nil=>rfl
  |cons x l ih ihl=>grind[ij]
  |_=>rfl
 induction l with
 |nil=>rfl
 |cons x l ih=>grind[ij]
theorem Lq:∀(h:Hp)(i:Nat),p6 [] i h=true
 |[],_=>rfl
 | (_,b)::h,i=>by
  simp only[p6,Lq h,Yf,X9,Y5];right;cases b<;>simp[offB,HF]
@[simp]theorem clean_nil(l:LwQ)(h:Hp):clean [] l h=true:=by simp[clean,HF,Lq]
theorem Hz:∀(i:Nat)(h0 h:Hp),h.length=h0.length->aP [] i h0 h=h
 |_,[],h,_=>by cases h<;>rfl
 |_,_::_,[],_=>rfl
 | i,(e0,b0)::h0,(e,b)::h,hl=>by
  simp only[aP,gQ,if_true];rw[Hz (i+1) h0 h (by grind)]
theorem wrap_i64(h : -9223372036854775808<=n∧n<=9223372036854775807):IntKind.wrap .i64 n=n:=by
 have e1:(2:Int)^64=18446744073709551616:=af;have e2:(2:Int)^(64-1)=9223372036854775808:=af
 grind[IntKind.wrap,IntKind.bits,IntKind.signed]
theorem M3(hk:k.signed=false)(h:0<=n∧n<2^k.bits):k.wrap n=n:=by grind[IntKind.wrap,Int.emod_eq_of_lt]
theorem wrap_u64(h:0<=n∧n<18446744073709551616):IntKind.wrap .u64 n=n:=M3 rfl h
theorem wrap_u32(h:0<=n∧n<4294967296):IntKind.wrap .u32 n=n:=M3 rfl h
theorem G0(n:Int):IntKind.wrap .u64 n=n%18446744073709551616:=by rfl
@[simp]theorem agF(k:IntKind)(a b:Int):biI .lss (.d (.int k a)) (.d (.int k b))=some (.d (.bool (decide (a<b)))):=by simp[biI,iQ,ot,jA]
@[simp]theorem agG(k:IntKind)(a b:Int):biI .leq (.d (.int k a)) (.d (.int k b))=some (.d (.bool (decide (a<=b)))):=by simp[biI,iQ,ot,jA]
@[simp]theorem agH(k:IntKind)(a b:Int):biI .gtr (.d (.int k a)) (.d (.int k b))=some (.d (.bool (decide (b<a)))):=by simp[biI,iQ,ot,jA]
@[simp]theorem agI(k:IntKind)(a b:Int):biI .geq (.d (.int k a)) (.d (.int k b))=some (.d (.bool (decide (b<=a)))):=by simp[biI,iQ,ot,jA]
@[simp]theorem agJ(k:IntKind)(a b:Int):biI .eql (.d (.int k a)) (.d (.int k b))=some (.d (.bool (decide (a=b)))):=by simp[biI,iQ,ot,jA];rfl
@[simp]theorem agE(k:IntKind)(a b:Int):biI .neq (.d (.int k a)) (.d (.int k b))=some (.d (.bool (decide (a≠b)))):=by simp[biI,iQ,ot,jA];rfl
theorem AD(k:IntKind)(a b:Int):biI .add (.d (.int k a)) (.d (.int k b))=some (.d (.int k (k.wrap (a+b)))):=by simp[biI,iQ,ot,jA]
theorem xy(k:IntKind)(a b:Int):biI .sub (.d (.int k a)) (.d (.int k b))=some (.d (.int k (k.wrap (a-b)))):=by simp[biI,iQ,ot,jA]
theorem vm(k:IntKind)(a b:Int):biI .mul (.d (.int k a)) (.d (.int k b))=some (.d (.int k (k.wrap (a*b)))):=by simp[biI,iQ,ot,jA]
@[simp]theorem Ql(k l:IntKind)(n:Int):cvI k (.d (.int l n))=some (.d (.int k (k.wrap n))):=rfl
@[simp]theorem agL(a b:Bool):biB .eql (.d (.bool a)) (.d (.bool b))=some (.d (.bool (a == b))):=rfl
@[simp]theorem agK(a b:Bool):biB .neq (.d (.bool a)) (.d (.bool b))=some (.d (.bool (a !=b))):=rfl
@[simp]theorem af5(b:Bool):unV .not (.d (.bool b))=some (.d (.bool (!b))):=rfl
def lst{α:Type}(f:α->D)(l:List α):V:=.d (.sl l.length (l.map f))
section
variable{α:Type}(f:α->D)(l:List α)
@[simp]theorem afs:aX (lst f l)=some (I l.length):=rfl
theorem uV(h:Hp)(hj:i=j)(hl:j<l.length):ixV h 1 (lst f l) (.d (.int k i))=some (.dptr (l.map f) j):=by subst hj;simp only[ixV,lst];rw[if_pos ⟨aa,aa,ac⟩];simp
theorem pA(h:Hp)(hl:j<l.length):ld1 h (.dptr (l.map f) j)=some (.d (f l[j])):=by simp[ld1,hl]
end
section
variable{α:Type}(f:α->D)(l:List α)
theorem F7(d top:Nat):boV d top none=some d:=rfl
theorem wX{d top:Nat}(hi:i=j)(hj:j<=top):boV d top (some (.d (.int k i)))=some j:=by subst hi;simp only[boV];rw[if_pos ⟨aa,aa⟩];simp
theorem Tz{h:Hp}{lo hi:Option V}{i:Nat}(h0:0<l.length)(hj:boV l.length l.length hi=some j)(hi2:boV 0 j lo=some i)(hij:i<=j)(hjl:j<=l.length):slV h 1 (lst f l) lo hi=some (lst f ((l.drop i).take (j-i))):=by simp only[slV,lst,hj,hi2];rw[if_pos ⟨ac,h0⟩];simp only[Ya,List.map_take,List.map_drop,Zr,Yq];rw[Ys aa]
theorem abW{h:Hp}(h0:0<l.length)(hi:i=j)(hj:j<=l.length):slV h 1 (lst f l) none (some (I i))=some (lst f (l.take j)):=by rw[Tz f l h0 (wX hi hj) (F7 0 j) (Zc _) hj];simp
theorem aeZ{h:Hp}(h0:0<l.length)(hi:i=j)(hj:j<=l.length):slV h 1 (lst f l) (some (I i)) none=some (lst f (l.drop j)):=by rw[Tz f l h0 (F7 _ _) (wX hi hj) hj (Z8 _)];rw[Z3 ac]
end
@[simp]theorem ag0(h:Hp)(x:D):bH h (.d x)=some (.d (norm x),h):=by rfl
@[simp]theorem afj(k:IntKind)(n:Int):norm (.int k n)=.int k n:=rfl
@[simp]theorem aet(b:Bool):norm (.bool b)=.bool b:=rfl
@[simp]theorem aff(s:LuQ):norm (.str s)=.str s:=rfl
@[simp]theorem agh(n:Nat)(l:LdQ):norm (.sl n l)=.sl n l:=rfl
@[simp]theorem afi:norm (.pl (.slice none 0 0))=.sl 0 []:=rfl
@[simp]theorem Tq{α:Type}(h:Hp)(f:α->D)(l:List α):bH h (lst f l)=some (lst f l,h):=by rfl
@[simp]theorem aeo(h:Hp):aH h []=some ([],h):=by rfl
theorem fT{D:sC}{h h':Hp}{f:FuncId}{args:LwQ}{v:V}{s:Nat}{k:kkQ}(hc:D f args h v h')(hk:k v h')(hn:∀n cells ex len cap,v≠.new n cells ex len cap)(hn2:∀n,v≠.cut n:=by simp)(hn3:∀n cells ex len cap y,v≠.tup [.new n cells ex len cap,.d y]:=by intro _ _ _ _ _ _ h;cases h)
  (hn4:∀n cells ex len cap,v≠.tup [.new n cells ex len cap]:=by intro _ _ _ _ _ h;cases h) (hn5:∀n cells ex len cap y,v≠.tup [.tup [.new n cells ex len cap],.d y]:=by intro _ _ _ _ _ _ h;cases h):cai D h (.fn f [] []) args s k:=by grind[cai]
theorem XN{h h':Hp}{f:FuncId}{args:LwQ}{n len cap:Nat}{cells:LdQ}{y:D}{s e:Nat}{b:Bk}{ex:Bool}{k:kkQ}{DD:sC}(hc:DD f args h (.tup [.new n cells ex len cap,.d y]) h')(hs:h'[s]?=some (e,b))
  (hk:k (.tup [.ref s (e+1) 0 len cap cells.length,.d y]) (h'.set s (e+1,.data n cells ex false))):cai DD h (.fn f [] []) args s k:=by grind[cai,new]
theorem iz{h h':Hp}{f:FuncId}{args:LwQ}{n len cap:Nat}{cells:LdQ}{s e:Nat}{b:Bk}{ex:Bool}{k:kkQ}{DD:sC}(hc:DD f args h (.new n cells ex len cap) h')(hs:h'[s]?=some (e,b))
  (hk:k (.ref s (e+1) 0 len cap cells.length) (h'.set s (e+1,.data n cells ex false))):cai DD h (.fn f [] []) args s k:=by grind[cai,new]
theorem yS{h h':Hp}{f:FuncId}{v:V}{k:kkQ}(hs:aH h args=some (ds,h'))(hc:C f ds v)(hk:k v (if cS v then h else h')):cal C h (.fn f [] []) args k:=by grind[cal]
theorem afU{h:Hp}{f:FuncId}{v:V}{k:kkQ}(hc:C f args v)(hs:aH h args=some (args,h))(hk:k v h):cal C h (.fn f [] []) args k:=
 yS hs hc (by grind)
theorem UQ{x:D}{h:Hp}(hx:norm x=x):out (.d x) (.d x) h:=⟨h,by simp[hx]⟩
theorem aag{α:Type}(f:α->D)(l:List α)(h:Hp):out (lst f l) (lst f l) h:=⟨h,ac⟩
@[simp]theorem agd(k:IntKind)(n:Int)(h:Hp):out (.d (.int k n)) (.d (.int k n)) h:=UQ rfl
@[simp]theorem Li(b:Bool)(h:Hp):out (.d (.bool b)) (.d (.bool b)) h:=UQ rfl
theorem IQ{l:IntKind}(hb:b<=k.bits):biI .shr (.d (.int k a)) (.d (.int l b))=some (.d (.int k ((a/2^b:Nat):Int))):=by
 have h1:¬((b:Int)<0):=aa
 grind[biI,iQ,ot,jA]
theorem xB(h:a+b<18446744073709551616):biI .add (.d (.int .u64 a)) (.d (.int .u64 b))=some (.d (.int .u64 ((a+b:Nat):Int))):=by rw[AD,wrap_u64 aa];simp
theorem Dr(h:a*b<18446744073709551616):biI .mul (.d (.int .u64 a)) (.d (.int .u64 b))=some (.d (.int .u64 ((a*b:Nat):Int))):=by grind[vm,wrap_u64]
theorem ad0(h:a<18446744073709551616):cvI .u64 (.d (.int k a))=some (.d (.int .u64 a)):=by rw[Ql,wrap_u64 aa]
section
variable{α:Type}{f:α->D}{l:List α}{h:Hp}{s e:Nat}{ex fr:Bool}
end
theorem Tt{α:Type}{f:α->D}{l:List α}{h:Hp}{s e:Nat}{ex fr:Bool}(hs:h[s]?=some (e,.data 1 (l.map f) ex fr)){n m tot:Nat}(hn:n=l.length)(hm:n<=m)(ht:tot=l.length):
  bH h (.ref s e 0 n m tot)=some (lst f l,h.set s (e,.data 1 (l.map f) ex true)):=by subst hn;subst ht;simp only[bH,toD,ax,hs,if_true,List.length_map];rw[if_pos ⟨trivial,hm,aa⟩];simp only[Yu,Ya,bK,lst];rw[Z3 ac]
end Go.Vm
namespace Go.Big
variable{l a b o:LnQ}{i x n k m:Nat}
def val(B:Nat):LnQ->Nat
 |[]=>0
 |x::l=>x+B*val B l
def iJ:LnQ->LnQ
 |[]=>[]
 | x::l=>match iJ l with
  |[]=>if x=0 then[]else[x]
  |y::r=>x::y::r
def Ob(B:Nat):Nat->Nat->LnQ
 |0,_=>[]
 |f+1,n=>if n=0 then[]else n%B::Ob B f (n/B)
def dig(B n:Nat):LnQ:=Ob B n n
def aI(B:Nat)(l:LnQ):Prop:=∀x∈l,x<B
section
variable{B:Nat}
theorem val_append(a b:LnQ):val B (a++b)=val B a+B^a.length*val B b:=by
 induction a with
 |nil=>simp[val]
 |cons x a ih=>grind[val]
theorem jE(hB:0<B)(h:aI B l):val B l<B^l.length:=by
 induction l with
 |nil=>simp[val]
 | cons x l ih=>
  have h1:=ih λy hy=>h y (by grind)
  have h2:=h x ac;simp only[val,List.length_cons,Nat.pow_succ];have:B*(val B l+1)<=B*B^l.length:=Z2 B h1
  grind
theorem aI.take{l:LnQ}(h:aI B l)(n:Nat):aI B (l.take n):=λx hx=>h x (W8 hx)
theorem aI.drop{l:LnQ}(h:aI B l)(n:Nat):aI B (l.drop n):=λx hx=>h x (List.mem_of_mem_drop hx)
theorem aI.get(h:aI B l)(hi:i<l.length):l[i]<B:=h _ (Xs hi)
theorem aI.append(ha:aI B a)(hb:aI B b):aI B (a++b):=λx hx=>by
 rcases Xx.1 hx with h|h
 .exact ha x h
 .exact hb x h
theorem QK(l:LnQ):val B (iJ l)=val B l:=by
 induction l with
 |nil=>rfl
 | cons x l ih=>
  grind[iJ,val]
theorem Kx(h:aI B l):aI B (iJ l):=by
 induction l with
 |nil=>exact h
 | cons x l ih=>
  have h1:=ih λy hy=>h y (by grind)
  have hx:=h x ac;unfold iJ;split
  .split
   .grind
   .intro y hy;grind
  .rename_i y r he;rw[he]at h1;intro z hz;rcases Zu.1 hz with rfl|hz
   .exact hx
   .exact h1 z hz
def AK(l:LnQ):Prop:=∀h:l≠[],l.getLast h≠0
theorem M8(l:LnQ):AK (iJ l):=by
 induction l with
 |nil=>intro h;trivial
 | cons x l ih=>
  unfold iJ;split
  .split
   .grind
   .rename_i hx;intro h;trivial
  .rename_i y r he;rw[he]at ih;intro h;rw[List.getLast_cons ac];exact ih ac
theorem Gj(h:AK l):iJ l=l:=by
 induction l with
 |nil=>rfl
 | cons x l ih=>
  unfold iJ;cases l with
  | nil=>
   have:=h ac
   grind[iJ]
  | cons y r=>
   have:AK (y::r):=λhh=>by have:=h ac;rwa [List.getLast_cons ac]at this
   grind
theorem qK(l:LnQ):iJ (l++[0])=iJ l:=by
 induction l with
 |nil=>rfl
 |cons x l ih=>grind[iJ]
theorem yf(h:x≠0):iJ (l++[x])=l++[x]:=Gj λ_=>by grind
theorem DJ(hB:2<=B):∀(f n:Nat),n<=f->val B (Ob B f n)=n∧aI B (Ob B f n)∧AK (Ob B f n)
 | 0,n,h=>by
  have:n=0:=aa;subst this;exact⟨rfl,λx hx=>by trivial,λhx=>absurd rfl hx⟩
 | f+1,n,h=>by
  unfold Ob;split
  .rename_i h0;subst h0;exact⟨rfl,λx hx=>by simp at hx,λhx=>absurd rfl hx⟩
  .rename_i h0;have hlt:n/B<n:=Nat.div_lt_self aa aa;obtain⟨h1,h2,h3⟩:=DJ hB f (n/B) aa;refine⟨?_,?_,?_⟩
   .grind[val,Xw]
   .intro x hx;rcases Zu.1 hx with rfl|hx
    .exact Y3 _ aa
    .exact h2 x hx
   .intro hne;by_cases hd:Ob B f (n/B)=[]
    .simp only[hd];rw[hd]at h1;simp only[val]at h1
     have:n<B:=by
      rcases Zi n B with h|h
      .exact h
      .have:=Nat.div_pos h (by omega:0<B);omega
     grind[Yd]
    .rw[List.getLast_cons hd];exact h3 hd
theorem jI(hB:2<=B)(n:Nat):val B (dig B n)=n:=(DJ hB n n (Z8 n)).1
theorem cZ(hB:2<=B)(n:Nat):aI B (dig B n):=(DJ hB n n (Z8 n)).2.1
theorem FP(hB:2<=B)(n:Nat):AK (dig B n):=(DJ hB n n (Z8 n)).2.2
theorem wF(h:AK l)(hl:l≠[])(hB:0<B):val B l≠0:=by
 induction l with
 |nil=>trivial
 | cons x l ih=>
  cases l with
  |nil=>have:=h ac;trivial
  | cons y r=>
   have hn:AK (y::r):=λhh=>by have:=h ac;rwa [List.getLast_cons ac]at this
   have:=ih hn ac;simp only[val]at this ⊢;have:=X0 hB (Nat.pos_of_ne_zero this);omega
theorem Lv(hB:0<B):∀{a b:LnQ},aI B a->aI B b->AK a->AK b->val B a=val B b->a=b
 |[],[],_,_,_,_,_=>rfl
 |[],y::b,_,_,_,hb,h=>absurd h.symm (wF hb ac hB)
 |x::a,[],_,_,ha,_,h=>absurd h (wF ha ac hB)
 | x::a,y::b,sa,sb,na,nb,h=>by
  have hx:=sa x ac;have hy:=sb y ac;simp only[val]at h
  have e1:x=y:=by
   have:=congrArg (· % B) h;simpa[Xo,Yd hx,Yd hy]using this
  subst e1;have e2:val B a=val B b:=X5 hB aa;have tl:∀{l:LnQ}{x:Nat},AK (x::l)->AK l:=λ{l x} h hl=>by have:=h ac;grind
  rw[Lv hB (λz hz=>sa z (by grind)) (λz hz=>sb z (by grind)) (tl na) (tl nb) e2]
theorem rC(hB:2<=B)(h:aI B l):dig B (val B l)=iJ l:=
 Lv aa (cZ hB _) (Kx h) (FP hB _) (M8 l) (by rw[jI hB,QK])
theorem pF(hB:2<=B):(dig B n).length<=k↔n<B^k:=by
 have hv:=jI hB n;have hs:=jE aa (cZ hB n);rw[hv]at hs;constructor
 .intro h;exact Z0 hs (Zz aa h)
 .intro h;rcases Zi k (dig B n).length with hk|hk
  .exfalso;have hne:dig B n≠[]:=by intro e;rw[e]at hk;simp at hk
   have hdrop:val B ((dig B n).drop k)≠0:=by
    refine wF ?_ (by grind[List.drop_eq_nil_iff]) aa;intro hd;rw[List.getLast_drop];exact FP hB n hne
   have:=val_append (B:=B) ((dig B n).take k) ((dig B n).drop k);rw[X4,hv,Zr,Ys aa]at this;have:=Z2 (B^k) (Nat.pos_of_ne_zero hdrop);omega
  omega
def NE(a b:LnQ):Nat->Int
 |0=>0
 |i+1=>if a.getD i 0<b.getD i 0 then -1 else if b.getD i 0<a.getD i 0 then 1 else NE a b i
def cmp(a b:Nat):Int:=if a<b then -1 else if b<a then 1 else 0
theorem Pi(hB:0<B){a b:LnQ}(ha:aI B a)(hb:aI B b):∀i,i<=a.length->i<=b.length->NE a b i=cmp (val B (a.take i)) (val B (b.take i))
 |0,_,_=>by rfl
 | i+1,h1,h2=>by
  have e:∀(l:LnQ)(h:i<l.length),val B (l.take (i+1))=val B (l.take i)+B^i*l[i]:=λl h=>by
   rw[Xb,val_append,Zr,Ys aa]
   grind[val]
  have la:=jE hB (ha.take i);have lb:=jE hB (hb.take i);rw[Zr,Ys aa]at la lb;rw[NE,e a aa,e b aa,Pi hB ha hb i aa aa];have ga:a.getD i 0=a[i]:=by simp[show i<a.length by omega]
  have gb:b.getD i 0=b[i]:=by simp[show i<b.length by omega]
  rw[ga,gb];generalize a[i]=x,b[i]=y at *;unfold cmp;rcases Nat.lt_trichotomy x y with h|h|h
  .rw[if_pos h];have:B^i*(x+1)<=B^i*y:=Z2 _ h;rw[Zn]at this;rw[if_pos aa]
  .grind
  .rw[if_neg aa,if_pos h];have:B^i*(y+1)<=B^i*x:=Z2 _ h;rw[Zn]at this;rw[if_neg aa,if_pos aa]
theorem JQ(hB:2<=B)(h:(dig B m).length<(dig B n).length):m<n:=by
 have h1:m<B^(dig B m).length:=(pF hB).1 (Z8 _);rcases Zi n (B^(dig B m).length)with h2|h2
 .have:=(pF hB).2 h2;omega
 .omega
theorem qu(l:LnQ)(i:Nat):val B (l.drop i)=l.getD i 0+B*val B (l.drop (i+1)):=by
 by_cases h:i<l.length
 .grind[Yz,val]
 .rw[Zb aa,Zb aa];simp[val,List.getElem?_eq_none (by omega:l.length<=i)]
theorem aI.getD{l:LnQ}(h:aI B l)(hB:0<B)(i:Nat):l.getD i 0<B:=by
 by_cases hi:i<l.length
 .simp_all[get]
 .simp[List.getElem?_eq_none (by omega:l.length<=i),hB]
theorem Kq(l:LnQ)(x:Nat):val B (l++[x])=val B l+B^l.length*x:=by simp[val_append,val]
theorem AO(n:Nat):val B (List.replicate n 0)=0:=by
 induction n with
 |zero=>rfl
 |succ n ih=>grind[val]
theorem aI.snoc(h:aI B l)(hx:x<B):aI B (l++[x]):=h.append λy hy=>by grind
end
theorem w8{B:Nat}:∀(l:LnQ)(j x:Nat),j<l.length->val B (l.set j x)+B^j*l.getD j 0=val B l+B^j*x
 |[],j,x,h=>by simp at h
 |y::l,0,x,h=>by simp[val];omega
 | y::l,j+1,x,h=>by
  have:=w8 (B:=B) l j x (by simpa using h);simp only[List.set_cons_succ,val,List.getD_cons_succ,Nat.pow_succ];rw[Zq (B^j) B,Nat.mul_assoc,Nat.mul_assoc];generalize val B (l.set j x)=p at *;generalize B^j*l.getD j 0=q at *;generalize B^j*x=r at *;have h2:B*(p+q)=B*(val B l+r):=by rw[this]
  rw[Zn,Zn]at h2;omega
theorem aI.set{B:Nat}{l:LnQ}(h:aI B l){j x:Nat}(hx:x<B):aI B (l.set j x):=by
 intro y hy;rcases Yo hy with h1|h1
 .exact h y h1
 .subst h1;exact hx
theorem xW{B:Nat}(l:LnQ)(h:i<l.length):val B (l.take (i+1))=val B (l.take i)+B^i*l.getD i 0:=by rw[Xb,val_append,Zr,Ys aa];simp[List.getElem?_eq_getElem h,val]
theorem U8{B:Nat}{j c a y v:Nat}(hj:j<o.length):
  val B (o.set j ((c+o.getD j 0+a*y)%B))+B^(j+1)*((c+o.getD j 0+a*y)/B+a*v)=val B o+B^j*(c+a*(y+B*v)):=by
 have h:=w8 (B:=B) o j ((c+o.getD j 0+a*y)%B) hj;generalize val B (o.set j ((c+o.getD j 0+a*y)%B))=p at *;generalize o.getD j 0=w at *;have hd:=Xw (c+w+a*y) B;generalize(c+w+a*y)%B=r at *;generalize(c+w+a*y)/B=d at *;generalize val B o=q at *;generalize hP:B^j=P at *;rw[Nat.pow_succ,hP,Nat.mul_assoc]
 have e1:P*(B*(d+a*v))+P*r=P*(c+w+a*y)+P*(a*(B*v)):=by
  rw[<-Zn,<-Zn,<-hd,Zn B,Y0 a B v];congr 1;omega
 have e2:P*(c+a*(y+B*v))+P*w=P*(c+w+a*y)+P*(a*(B*v)):=by
  rw[<-Zn,<-Zn,Zn a];congr 1;omega
 omega
end Go.Big
namespace Go.Vm
open Go Go.Am
abbrev ai:TyI:=⟨.f,1,8,[.pl .nilFunc],false⟩
abbrev jD:TyI:=⟨.o,1,0,[],false⟩
abbrev Hu:TyI:=⟨.p,1,8,[.pl (.pointer none)],false⟩
abbrev O3:TyI:=⟨.i .i64,1,8,[.int .i64 0],false⟩
abbrev O2:TyI:=⟨.i .u8,1,1,[.int .u8 0],false⟩
abbrev O1:TyI:=⟨.s,1,16,[.str []],false⟩
abbrev T5:TyI:=⟨.i .u64,1,8,[.int .u64 0],false⟩
abbrev TZ:TyI:=⟨.it,1,16,[.pl .nilIface],false⟩
abbrev TY:TyI:=⟨.i .i32,1,4,[.int .i32 0],false⟩
abbrev TX:TyI:=⟨.sl 3,1,24,[.pl (.slice none 0 0)],false⟩
abbrev Uq:TyI:=⟨.st [(0,1),(1,1),(2,1),(3,1)],4,24,[.int .i64 0,.int .i64 0,.bool false,.int .u8 0],false⟩
abbrev Up:TyI:=⟨.st [(0,1),(1,1)],2,24,[.str [],.int .u64 0],false⟩
abbrev Uo:TyI:=⟨.st [(0,1)],1,8,[.pl (.pointer none)],false⟩
abbrev Un:TyI:=⟨.st [(0,1),(1,1),(2,1)],3,40,[.int .u8 0,.pl (.slice none 0 0),.bool false],false⟩
abbrev Um:TyI:=⟨.ar 4 27,8,8,[.int .i8 0,.int .u8 0,.int .i8 0,.int .u8 0,.int .i8 0,.int .u8 0,.int .i8 0,.int .u8 0],false⟩
abbrev Ul:TyI:=⟨.st [(0,3),(3,32)],35,72,[.int .u8 0,.pl (.slice none 0 0),.bool false,.int .i8 0,.int .u8 0,.int .i8 0,.int .u8 0,.int .i8 0,.int .u8 0,.int .i8 0,.int .u8 0,.int .i8 0,.int .u8 0,.int .i8 0,.int .u8 0,.int .i8 0,.int .u8 0,.int .i8 0,.int .u8 0,.int .i8 0,.int .u8 0,.int .i8 0,.int .u8 0,.int .i8 0,.int .u8 0,.int .i8 0,.int .u8 0,.int .i8 0,.int .u8 0,.int .i8 0,.int .u8 0,.int .i8 0,.int .u8 0,.int .i8 0,.int .u8 0],false⟩
abbrev Uk:TyI:=⟨.st [(0,4),(4,2)],6,6,[.int .i8 0,.int .i8 0,.int .i8 0,.int .i8 0,.int .i8 0,.int .u8 0],false⟩
abbrev Uj:TyI:=⟨.sl 48,1,24,[.pl (.slice none 0 0)],false⟩
abbrev Ui:TyI:=⟨.st [(0,1),(1,1),(2,1)],3,72,[.pl (.slice none 0 0),.pl (.slice none 0 0),.pl (.slice none 0 0)],false⟩
abbrev Uh:TyI:=⟨.st [(0,3),(3,1)],4,96,[.pl (.slice none 0 0),.pl (.slice none 0 0),.pl (.slice none 0 0),.pl (.slice none 0 0)],false⟩
abbrev Ug:TyI:=⟨.st [(0,1),(1,2)],3,56,[.pl (.slice none 0 0),.str [],.str []],false⟩
abbrev Uf:TyI:=⟨.sl 51,1,24,[.pl (.slice none 0 0)],false⟩
abbrev Ue:TyI:=⟨.st [(0,3),(3,1),(4,1)],5,88,[.pl (.slice none 0 0),.str [],.str [],.pl (.slice none 0 0),.int .i64 0],false⟩
abbrev Ud:TyI:=⟨.st [(0,1),(1,1)],2,32,[.int .i64 0,.pl (.slice none 0 0)],false⟩
abbrev Uc:TyI:=⟨.sl 49,1,24,[.pl (.slice none 0 0)],false⟩
abbrev Ub:TyI:=⟨.sl 180,1,24,[.pl (.slice none 0 0)],false⟩
abbrev Ua:TyI:=⟨.st [(0,1),(1,1),(2,1)],3,64,[.pl (.slice none 0 0),.pl (.slice none 0 0),.str []],false⟩
abbrev T9:TyI:=⟨.sl 172,1,24,[.pl (.slice none 0 0)],false⟩
abbrev T8:TyI:=⟨.st [(0,1),(1,1),(2,1)],3,48,[.str [],.str [],.pl .nilIface],false⟩
abbrev T7:TyI:=⟨.st [(0,1),(1,1),(2,1),(3,1)],4,40,[.pl (.pointer none),.pl (.pointer none),.pl (.pointer none),.str []],false⟩
abbrev T6:TyI:=⟨.st [(0,1),(1,1),(2,1),(3,1),(4,1),(5,1),(6,1),(7,1),(8,1),(9,1),(10,1)],11,48,[.int .u64 0,.int .u64 0,.int .u32 0,.int .u8 0,.int .u8 0,.int .u8 0,.int .u8 0,.pl .nilFunc,.pl (.pointer none),.int .i32 0,.int .i32 0],false⟩
abbrev slQ(n:Nat):TyI:=⟨.sl n,1,24,[.pl (.slice none 0 0)],false⟩
def agW:List TyI:=[
 jD,ai,O3,O3,⟨.b,1,1,[.bool false],false⟩,O2,O2,Uq,Uq,O1,O1,O1,T5,Up,Up,Hu]
def agV:List TyI:=[
 Hu,Hu,Uo,Uo,TZ,TY,slQ 33,Un,Un,⟨.i .i8,1,1,[.int .i8 0],false⟩,⟨.st [(0,1),(1,1)],2,2,[.int .i8 0,.int .u8 0],false⟩,⟨.st [(0,1),(1,1)],2,2,[.int .i8 0,.int .u8 0],true⟩,Um,Um,⟨.ar 4 29,32,32,[.int .i8 0,.int .u8 0,.int .i8 0,.int .u8 0,.int .i8 0,.int .u8 0,.int .i8 0,.int .u8 0,.int .i8 0,.int .u8 0,.int .i8 0,.int .u8 0,.int .i8 0,.int .u8 0,.int .i8 0,.int .u8 0,.int .i8 0,.int .u8 0,.int .i8 0,.int .u8 0,.int .i8 0,.int .u8 0,.int .i8 0,.int .u8 0,.int .i8 0,.int .u8 0,.int .i8 0,.int .u8 0,.int .i8 0,.int .u8 0,.int .i8 0,.int .u8 0],false⟩,Ul]
def agU:List TyI:=[
 Ul,⟨.ar 4 25,4,4,[.int .i8 0,.int .i8 0,.int .i8 0,.int .i8 0],false⟩,Uk,Uk,ai,ai,TX,TX,Uj,Uj,Ui,Ui,slQ 59,Uh,Uh,ai]
def agT:List TyI:=[
 TX,O1,⟨.st [(0,1),(1,1)],2,32,[.str [],.str []],false⟩,⟨.st [(0,1),(1,1)],2,32,[.str [],.str []],true⟩,Ug,Ug,ai,O3,ai,slQ 53,Uf,Uf,jD,ai,jD,ai]
def agS:List TyI:=[
 jD,ai,ai,jD,ai,jD,ai,ai,ai,ai,ai,ai,ai,ai,ai,ai]
def agR:List TyI:=[
 ai,ai,ai,ai,ai,ai,ai,ai,slQ 92,jD,ai,Ue,Ue,ai,ai,ai]
def agQ:List TyI:=[
 ai,ai,slQ 46,ai,ai,jD,ai,ai,Ud,Ud,ai,jD,ai,ai,ai,jD]
def agP:List TyI:=[
 ai,ai,jD,ai,ai,ai,ai,ai,ai,ai,ai,ai,ai,ai,ai,ai]
def agO:List TyI:=[
 ai,ai,T5,jD,ai,ai,ai,ai,ai,Uc,ai,ai,ai,ai,ai,Ub]
def agN:List TyI:=[
 Ub,ai,ai,ai,ai,ai,ai,ai,slQ 39,ai,jD,ai,ai,ai,ai,jD]
def aeP:List TyI:=[
 ai,ai,Ua,Ua,ai,ai,ai,ai,ai,⟨.i .u32,1,4,[.int .u32 0],false⟩,jD,ai,T5,jD,ai,ai]
def aeO:List TyI:=[
 ai,ai,ai,ai,Uc,ai,ai,ai,ai,ai,ai,jD,ai,ai,ai,ai]
def aeN:List TyI:=[
 jD,ai,jD,ai,jD,ai,ai,ai,ai,ai,ai,jD,ai,ai,ai,ai]
def aeM:List TyI:=[
 ai,TZ,TZ,jD,ai,jD,ai,ai,ai,ai,ai,ai,ai,jD,ai,ai]
def aeL:List TyI:=[
 T9,T9,ai,ai,ai,ai,ai,ai,ai,ai,ai,slQ 5,ai,ai,jD,ai]
def aeK:List TyI:=[
 jD,ai,ai,ai,ai,jD,ai,jD,ai,ai,ai,⟨.ar 24 5,24,24,List.replicate 24 (.int .u8 0),false⟩,ai,ai,jD,ai]
def aeJ:List TyI:=[
 O3,Hu,ai,ai,ai,jD,ai,ai,ai,ai,⟨.ar 20 172,20,160,List.replicate 20 (.int .u64 0),false⟩,⟨.ar 65 5,65,65,List.replicate 65 (.int .u8 0),false⟩,ai,T8,T8,ai]
def aeI:List TyI:=[
 ai,ai,ai,Hu,Hu,⟨.st [(0,1)],1,16,[.str []],false⟩,⟨.st [(0,1)],1,16,[.str []],false⟩,⟨.ar 32 5,32,32,List.replicate 32 (.int .u8 0),false⟩,⟨.ar 64 5,64,64,List.replicate 64 (.int .u8 0),false⟩,ai,T7,T7,⟨.ar 0 16,0,0,[],false⟩,⟨.st [(0,0)],0,0,[],false⟩,⟨.st [(0,0)],0,0,[],false⟩,O2]
def aeH:List TyI:=[
 O2,ai,TY,TY,T6,T6,ai,⟨.o,1,8,[.pl (.pointer none)],false⟩,ai,ai,ai]
def D6:List (List TyI):=[agW,agV,agU,agT,agS,agR,agQ,agP,agO,agN,aeP,aeO,aeN,aeM,aeL,aeK,aeJ,aeI,aeH]
def aed:LnQ:=[0,1,220,221,222,223,224,225,226,227,228,229,230,231,232,233,234,235,236,237,238,239,240,241,242,243,244,245,246]
def oG:Nat:=0
namespace F
def cQ:FuncId:=3
def dT:FuncId:=4
def ie:FuncId:=5
def ic:FuncId:=6
def ib:FuncId:=7
def fk:FuncId:=8
def mE:FuncId:=9
def iG:FuncId:=10
def d7:FuncId:=11
def ql:FuncId:=12
def oj:FuncId:=13
def jb:FuncId:=14
def kY:FuncId:=15
def jZ:FuncId:=16
def bY:FuncId:=17
def aC:FuncId:=18
def cJ:FuncId:=19
def fJ:FuncId:=20
def dL:FuncId:=21
def ig:FuncId:=22
def og:FuncId:=23
def cL:FuncId:=24
def iZ:FuncId:=25
def cn:FuncId:=26
def iV:FuncId:=27
def lV:FuncId:=28
def lF:FuncId:=29
def rX:FuncId:=30
def oT:FuncId:=31
def fj:FuncId:=32
def pW:FuncId:=33
def lK:FuncId:=34
def m5:FuncId:=35
def aG:FuncId:=36
def jt:FuncId:=37
def rc:FuncId:=38
def bP:FuncId:=39
def d9:FuncId:=40
def fw:FuncId:=41
def iX:FuncId:=42
def gD:FuncId:=43
def j9:FuncId:=44
def eM:FuncId:=45
def jc:FuncId:=46
def ja:FuncId:=47
def eH:FuncId:=48
def gB:FuncId:=49
def eS:FuncId:=50
def fK:FuncId:=51
def dQ:FuncId:=52
def lJ:FuncId:=53
def nF:FuncId:=54
def fO:FuncId:=55
def iB:FuncId:=56
def jg:FuncId:=57
def oc:FuncId:=58
def mn:FuncId:=59
def rK:FuncId:=60
def oC:FuncId:=61
def jM:FuncId:=62
def ak:FuncId:=63
def dy:FuncId:=64
def aV:FuncId:=65
def aJ:FuncId:=66
def iC:FuncId:=67
def o7:FuncId:=68
def mB:FuncId:=69
def bB:FuncId:=70
def nU:FuncId:=71
def fH:FuncId:=72
def bi:FuncId:=73
def fq:FuncId:=74
def cu:FuncId:=75
def iW:FuncId:=76
def j8:FuncId:=77
def kU:FuncId:=78
def cN:FuncId:=79
def cW:FuncId:=80
def dC:FuncId:=81
def aw:FuncId:=82
def pX:FuncId:=83
def eG:FuncId:=84
def bX:FuncId:=85
def od:FuncId:=86
def eD:FuncId:=87
def qc:FuncId:=88
def aU:FuncId:=89
def nr:FuncId:=90
def kR:FuncId:=91
def m9:FuncId:=92
def oY:FuncId:=93
def gv:FuncId:=94
def jh:FuncId:=95
def fp:FuncId:=96
def oe:FuncId:=97
def nu:FuncId:=98
def jL:FuncId:=99
def fl:FuncId:=100
def pV:FuncId:=101
def jX:FuncId:=102
def aQ:FuncId:=103
def ba:FuncId:=104
def jk:FuncId:=105
def CO:FuncId:=106
def dl:FuncId:=107
def o8:FuncId:=108
def dJ:FuncId:=109
def kG:FuncId:=110
def cE:FuncId:=111
def nX:FuncId:=112
def o5:FuncId:=113
def kT:FuncId:=114
def fN:FuncId:=115
def j7:FuncId:=116
def cj:FuncId:=117
def cC:FuncId:=118
def gC:FuncId:=119
def b9:FuncId:=120
def strconv_Itoa:FuncId:=121
def ku:FuncId:=122
def bG:FuncId:=123
def rF:FuncId:=124
def nL:FuncId:=125
def ly:FuncId:=126
def aS:FuncId:=127
def eY:FuncId:=128
def iY:FuncId:=129
def mg:FuncId:=130
def pQ:FuncId:=131
def bO:FuncId:=132
def gA:FuncId:=133
def CJ:FuncId:=134
def ay:FuncId:=135
def gN:FuncId:=136
def bh:FuncId:=137
def nW:FuncId:=138
def qx:FuncId:=139
def cO:FuncId:=140
def gj:FuncId:=141
def cx:FuncId:=142
def gV:FuncId:=143
def jY:FuncId:=144
def oZ:FuncId:=145
def mD:FuncId:=146
def aY:FuncId:=147
def eR:FuncId:=148
def mh:FuncId:=149
def eQ:FuncId:=150
def eJ:FuncId:=151
def im:FuncId:=152
def kS:FuncId:=153
def iy:FuncId:=154
def strconv_Atoi:FuncId:=155
def dZ:FuncId:=156
def fv:FuncId:=157
def f9:FuncId:=158
def pi:FuncId:=159
def fX:FuncId:=160
def jj:FuncId:=161
def bb:FuncId:=164
def fS:FuncId:=165
def js:FuncId:=166
def dY:FuncId:=167
def cM:FuncId:=168
def aB:FuncId:=169
def aW:FuncId:=170
def dF:FuncId:=171
def cX:FuncId:=172
def jf:FuncId:=173
def cU:FuncId:=174
def rG:FuncId:=175
def cF:FuncId:=176
def dV:FuncId:=177
def dE:FuncId:=178
def gU:FuncId:=179
def CG:FuncId:=180
def cD:FuncId:=181
def cY:FuncId:=182
def dG:FuncId:=183
def yH:FuncId:=184
def rJ:FuncId:=185
def dK:FuncId:=186
def kt:FuncId:=190
def gz:FuncId:=191
def bW:FuncId:=192
def iF:FuncId:=193
def dD:FuncId:=194
def bQ:FuncId:=195
def qD:FuncId:=196
def cr:FuncId:=201
def mC:FuncId:=203
def fI:FuncId:=205
def dW:FuncId:=206
def fV:FuncId:=207
def iE:FuncId:=208
def fW:FuncId:=209
def CR:FuncId:=216
def uG:FuncId:=dK
end F
end Go.Vm
namespace Go.Vm
open Go Go.Am
noncomputable section
def QO:List TyI->Nat->TyI
 |[],_=>⟨.o,0,0,[],false⟩
 |x::_,0=>x
 |_::l,n+1=>QO l n
def Kz:List (List TyI)->Nat->List TyI
 |[],_=>[]
 |x::_,0=>x
 |_::l,n+1=>Kz l n
def pO:Nat->LuQ->Nat
 |a,[]=>a
 |a,c::l=>pO (a*10+(c.toNat-48)) l
def oW(c:UInt8):Bool:=Nat.ble 48 c.toNat&&Nat.ble c.toNat 57
def La:LvQ->Option Value
 |[.string s,.int .i64 a,.int .i64 b]=>if a=10∧b=64∧s.data.toList≠[]∧s.data.toList.all oW=true∧s.data.toList.length<=1000∧pO 0 s.data.toList<10000000000000000000 then some (.tuple #[.int .u64 (pO 0 s.data.toList),.nilIface])else none
 |_=>none
def Pf:LvQ->Option Value
 | [.string s,.int .i64 a,.int .i64 b]=>if a=10∧b=64 then(match s.data.toList with
  |45::l=>if l≠[]∧l.all oW=true∧l.length<=1000∧pO 0 l<9223372036854775808 then some (.tuple #[.int .i64 (-(pO 0 l:Int)),.nilIface])else none
  |l=>if l≠[]∧l.all oW=true∧l.length<=1000∧pO 0 l<9223372036854775808 then some (.tuple #[.int .i64 (pO 0 l),.nilIface])else none)else none
 |_=>none
def NT:Value->Bool
 |.slice ..=>true
 |_=>false
def MZ(H:AH)(p q:Value):Option (List LvQ):=match nf H 1 p,nf H 1 q with
 |some (k,xs),some (k',ys)=>if k=k'∧xs.length=k∧ys.length=k∧k<4611686018427387904∧(NT p&&NT q)=true∧(xs.all λv=>plain v&&okCell v)=true∧(ys.all λv=>plain v&&okCell v)=true then some ((xs.zip ys).map λx=>[x.1,x.2])else none
 |_,_=>none
def IT(f:FuncId)(lb:LvQ)(H:AH):Option (List LvQ):=match Nat.beq f F.dK with
 | true=>match lb with
  | [.pointer (some ⟨b,o,none⟩)]=>match cg H b o 3 with
   |some [p,q,_]=>MZ H p q
   |_=>none
  |_=>none
 | false=>match Nat.beq f F.uG with
  | true=>match lb with
   | [.pointer (some ⟨b,o,none⟩),.pointer (some ⟨b',o',none⟩)]=>match cg H b o 1,cg H b' o' 1 with
    |some [p],some [q]=>MZ H p q
    |_,_=>none
   |_=>none
  |false=>none
def KU(f:FuncId)(lb:LvQ)(H:AH):LvQ:=match lb with
 |[.pointer (some ⟨b,o,none⟩)]=>(cg H b o 3).getD []
 |[.pointer (some ⟨b,o,none⟩),.pointer (some ⟨b',o',none⟩)]=>(cg H b o 1).getD []++(cg H b' o' 1).getD []
 |_=>[]
def lits:LdQ->Option LvQ
 |[]=>some []
 | x::l=>match x,lits l with
  |.int k n,some r=>some (.int k n::r)
  |.str s,some r=>some (.string ⟨⟨s⟩⟩::r)
  |_,_=>none
def slD:D->Option (Nat×LdQ)
 |.sl n l=>some (n,l)
 |.pl (.slice none 0 0)=>some (0,[])
 |_=>none
def QE(p q:D):Option (List LvQ):=match slD p,slD q with
 | some (k,l),some (k',m)=>match lits l,lits m with
  |some xs,some ys=>if k=k'∧xs.length=k∧ys.length=k∧k<4611686018427387904 then some ((xs.zip ys).map λx=>[x.1,x.2])else none
  |_,_=>none
 |_,_=>none
def acX(f:FuncId)(cs:LwQ):Option (List LvQ):=match Nat.beq f F.dK with
 | true=>match cs with
  |[.dptr [p,q,_] 0]=>QE p q
  |_=>none
 | false=>match Nat.beq f F.uG with
  | true=>match cs with
   |[.dptr [p] 0,.dptr [q] 0]=>QE p q
   |_=>none
  |false=>none
def X:Cfg:={P:=Go.Proofs.Tryz.prog,allow:=gQ aed,glob:=λg=>Nat.beq g oG,orc:=λf args=>(match Nat.beq f F.fI with
 |true=>La args
 | false=>match Nat.beq f F.fv with
  |true=>Pf args
  |false=>none),seq:=IT,seqK:=KU}
def Ld:LdQ:=[.int .u64 1,.int .u64 10,.int .u64 100,.int .u64 1000,.int .u64 10000,.int .u64 100000,.int .u64 1000000,.int .u64 10000000,.int .u64 100000000,.int .u64 1000000000,.int .u64 10000000000,.int .u64 100000000000,
 .int .u64 1000000000000,.int .u64 10000000000000,.int .u64 100000000000000,.int .u64 1000000000000000,.int .u64 10000000000000000,.int .u64 100000000000000000,.int .u64 1000000000000000000,.int .u64 10000000000000000000]
def Y:kA:={X:=X,ty:=λt=>QO (Kz D6 (t/16)) (t%16),glob:=λg=>(match Nat.beq g oG with
 |true=>some Ld
 |false=>none),seq:=acX}
end
end Go.Vm
set_option maxRecDepth 100000
namespace Go.Vm
open Go Go.Am
variable{x:Prop}{y w:Value}{P:Program}{t:TypeId}{d p:D}{z l:LdQ}{k k':kkQ}{a b f v0 c v:V}{h0 h:Hp}{T:kkQ->Prop}{s n m:Nat}{ps:List (Nat×V)}{dr:Bool}
def adQ:Value->Value->Bool
 |.pointer none,.pointer none=>true
 |.slice none a b,.slice none c d=>a == c&&b == d
 |.nilFunc,.nilFunc=>true
 |.nilIface,.nilIface=>true
 |.map none,.map none=>true
 |.chan none,.chan none=>true
 |_,_=>false
theorem aaW{x:Value}(h:adQ x y=true):x=y:=by unfold adQ at h;split at h<;>first|rfl|(simp at h;obtain⟨rfl,rfl⟩:=h;rfl)|cases h
def adR:D->D->Bool
 |.int k a,.int l b=>decide (k=l)&&decide (a=b)
 |.bool a,.bool b=>a == b
 |.str a,.str b=>a == b
 |.pl a,.pl b=>adQ a b
 |_,_=>false
theorem aaX{x y:D}(h:adR x y=true):x=y:=by
 unfold adR at h;split at h
 .simp at h;obtain⟨rfl,rfl⟩:=h;rfl
 .simp at h;subst h;rfl
 .simp at h;subst h;rfl
 .rw[aaW h]
 .cases h
def Wh:LdQ->LdQ->Bool
 |[],[]=>true
 |x::l,y::m=>adR x y&&Wh l m
 |_,_=>false
theorem Qd:∀{l m:LdQ},Wh l m=true->l=m
 |[],[],_=>rfl
 | x::l,y::m,h=>by
  simp only[Wh,Z7]at h;rw[aaX h.1,Qd h.2]
 |[],_::_,h=>by cases h
 |_::_,[],h=>by cases h
def VK(P:Program)(t:TypeId)(k:Ty):Bool:=match k with
 |.i k=>match P.underlying t with|some (.int k')=>decide (k'=k)|_=>false
 |.b=>match P.underlying t with|some .bool=>true|_=>false
 |.s=>match P.underlying t with|some .string=>true|_=>false
 |.p=>match P.underlying t with|some (.pointer _)=>true|_=>false
 |.f=>match P.underlying t with|some (.func ..)=>true|_=>false
 |.it=>match P.underlying t with|some (.interface _)=>true|_=>false
 |.sl e=>match P.underlying t with|some (.slice e')=>e' == e|_=>false
 |.ar n e=>match P.underlying t with|some (.array n' e')=>n' == n&&e' == e|_=>false
 |.st fs=>match P.underlying t with|some (.struct gs)=>decide (gs.toList.map (λf=>(f.offset,szO P f.type))=fs.map λp=>(p.1,some p.2))|_=>false
 |.o=>true
def NR(P:Program)(t:TypeId):D->Bool
 |.int _ _=>match P.underlying t with|some (.int _)=>true|_=>false
 |.bool _=>match P.underlying t with|some .bool=>true|_=>false
 |.str _=>match P.underlying t with|some .string=>true|_=>false
 |_=>false
theorem RO(h:NR P t d=true):PN P t d:=by
 unfold NR at h;split at h
 .split at h
  .rename_i hu;exact⟨_,hu⟩
  .cases h
 .split at h
  .rename_i hu;exact hu
  .cases h
 .split at h
  .rename_i hu;exact hu
  .cases h
 .cases h
def V5(P:Program)(t:TypeId)(z:LdQ):Bool:=match P.underlying t with
 |some (.struct gs)=> !P.stoodInHeld t && !P.eqGuardType P.depth t&&decide (gs.size=z.length)&&(gs.toList.zipIdx.zip z).all λx=>x.1.1.offset == x.1.2&&x.1.1.name != "_" && NR P x.1.1.type x.2
 |_=>false
theorem V4(h:V5 P t z=true):J7 P t z:=by
 unfold V5 at h;split at h
 .rename_i gs hu;simp only[Z7,Y5,decide_eq_true_eq,Z1]at h;obtain⟨⟨⟨h1,h2⟩,h3⟩,h4⟩:=h;refine⟨gs,hu,h1,h2,h3,λi f d hf hd=>?_⟩
  have:=h4 ((f,i),d) (by
   apply Yh (i:=i);rw[List.getElem?_zip_eq_some];exact⟨by rw[List.getElem?_zipIdx,hf];simp,hd⟩)
  simp only[beq_iff_eq,bne_iff_ne]at this;exact⟨this.1.1,this.1.2,RO this.2⟩
 .cases h
def tyB(P:Program)(t:TypeId)(i:TyI):Bool:=(!i.eq||V5 P t i.z)&&match i.k with
 |.o=>true
 | k=>VK P t k&&decide (szO P t=some i.sz)&&decide (qS P t=some i.bytes)&&match iH P t with
  |some z=>plain z&&z.cells.size == i.sz&&(z.cells.toList.all λc=>plain c&&okCell c)&&Wh (z.cells.toList.map jA) i.z
  |none=>false
theorem OI{i:TyI}(h:tyB P t i=true):Gb P t i:=by
  unfold tyB at h;rw[Z7]at h;obtain⟨h0,h⟩:=h
  have heq:i.eq=true->J7 P t i.z:=λe=>by
    rw[e]at h0;exact V4 (by simpa using h0)
  by_cases hk:i.k = .o
  · exact⟨by rw[hk];trivial,λh=>absurd hk h,λh=>absurd hk h,λh=>absurd hk h,heq⟩
  · have h2:VK P t i.k=true∧szO P t=some i.sz∧qS P t=some i.bytes∧(match iH P t with
        |some z=>plain z&&z.cells.size == i.sz&&(z.cells.toList.all λc=>plain c&&okCell c)&&Wh (z.cells.toList.map jA) i.z
        |none=>false)=true:=by
      split at h
      · rename_i e;exact absurd e hk
      · simp only[Z7,decide_eq_true_eq]at h
        exact⟨h.1.1.1,h.1.1.2,h.1.2,h.2⟩
    obtain⟨h1,h2,h3,h4⟩:=h2;refine⟨?_,λ_=>h2,λ_=>h3,λ_=> ?_,heq⟩
    · unfold VK at h1
      cases hq:i.k<;>rw[hq]at h1<;>dsimp only at h1 ⊢
      all_goals first
        |trivial
        | (split at h1
           · rename_i hu
             first
               |(simp only[decide_eq_true_eq]at h1;subst h1;exact hu)
               |exact hu
               |exact⟨_,hu⟩
               |exact⟨_,_,_,hu⟩
               |(simp only[beq_iff_eq]at h1;subst h1;exact hu)
               |(simp only[Z7,beq_iff_eq]at h1;obtain⟨rfl,rfl⟩:=h1;exact hu)
               |(simp only[decide_eq_true_eq]at h1;exact⟨_,hu,h1⟩)
           · cases h1)
    · split at h4
      · rename_i z hz
        simp only[Z7,beq_iff_eq,Z1]at h4;refine⟨z,hz,h4.1.1.1,Qd h4.2,h4.1.1.2,λc hc=> ?_⟩;have:=h4.1.2 c hc;exact this
      · cases h4
theorem AU:∀(l:List (List TyI))(n:Nat),l.length<=n->Kz l n=[]
 |[],_,_=>rfl
 |_::_,0,h=>by simp at h
 |_::l,n+1,h=>AU l n (by simpa using h)
theorem acF:(List.range (16*D6.length)).all (λt=>tyB Y.X.P t (Y.ty t))=true:=aR
section
variable{F:Nat->Prop}{H:AH}
theorem zL:∀{l:LdQ}{xs:LvQ},lits l=some xs->(∀v∈xs,okZ v)∧∀ws,RDs F H l ws->ws=xs
 | [],xs,h=>by
  simp only[lits,Z9]at h;subst h;exact⟨λv hv=>(by cases hv),λws hw=>by simpa only[RDs]using hw⟩
 | x::l,xs,h=>by
  unfold lits at h;split at h
  .rename_i k n r hr;simp only[Z9]at h;subst h;obtain⟨q1,q2⟩:=zL hr;refine⟨λv hv=>?_,λws hw=>?_⟩
   .rcases Zu.1 hv with rfl|hv
    .exact⟨rfl,rfl⟩
    .exact q1 v hv
   .simp only[RDs,RD]at hw;obtain⟨v,us,rfl,rfl,h2⟩:=hw;rw[q2 us h2]
  .rename_i s r hr;simp only[Z9]at h;subst h;obtain⟨q1,q2⟩:=zL hr;refine⟨λv hv=>?_,λws hw=>?_⟩
   .rcases Zu.1 hv with rfl|hv
    .exact⟨rfl,rfl⟩
    .exact q1 v hv
   .simp only[RDs,RD]at hw;obtain⟨v,us,rfl,rfl,h2⟩:=hw;rw[q2 us h2]
  .cases h
theorem TD{k:Nat}{xs:LvQ}(h:slD p=some (k,l))(hl:lits l=some xs)(hk:xs.length=k)(hw:RD F H p w):nf H 1 w=some (k,xs):=by
 obtain⟨q1,q2⟩:=zL (F:=F) (H:=H) hl;unfold slD at h;split at h
 .rename_i n l';simp only[Z9,Z5]at h;obtain⟨rfl,rfl⟩:=h;simp only[RD]at hw;rcases hw with⟨rfl,rfl,h3⟩|⟨c,o,cap,vs,m,rfl,h1,h2,h3,h4,h5,h6,h7,h8⟩
  .simp only[lits,Z9]at hl;subst hl;rcases h3 with rfl|⟨c,o,cap,rfl,_⟩
   .rfl
   .simp[nf]
  .have e:=q2 vs h7;subst e
   have hl:l'.length=n:=by
    rw[<-hk,Rc h6]
   simp only[nf,Ya];rw[if_neg aa,<-hl,h6];simp
 .simp only[Z9,Z5]at h;obtain⟨rfl,rfl⟩:=h;simp only[lits,Z9]at hl;subst hl;simp only[RD]at hw;obtain⟨rfl,_⟩:=hw;rfl
 .cases h
theorem TC{k:Nat}(h:slD p=some (k,l))(hw:RD F H p w):NT w=true:=by
 unfold slD at h;split at h
 .rename_i n l';simp only[RD]at hw;rcases hw with⟨_,_,h3⟩|⟨c,o,cap,vs,m,rfl,_⟩
  .rcases h3 with rfl|⟨c,o,cap,rfl,_⟩<;>rfl
  .rfl
 .simp only[RD]at hw;obtain⟨rfl,_⟩:=hw;rfl
 .cases h
theorem Db{q:D}{xs:List LvQ}(h:QE p q=some xs):(∀z∈xs,∀v∈z,okZ v)∧∀v w,RD F H p v->RD F H q w->MZ H v w=some xs:=by
 unfold QE at h;split at h
 case h_2=>cases h
 rename_i k l k' m hp hq;split at h
 case h_2=>cases h
 rename_i us vs hl hm;split at h
 case isFalse=>cases h
 rename_i hc;simp only[Z9]at h;subst h;have o1:=(zL (F:=F) (H:=H) hl).1;have o2:=(zL (F:=F) (H:=H) hm).1;refine⟨λz hz v hv=>?_,λv w hv hw=>?_⟩
 .obtain⟨⟨a,b⟩,hab,rfl⟩:=Zw.1 hz;have:=List.of_mem_zip hab;simp only[Zu,Y1,or_false]at hv;rcases hv with rfl|rfl
  .exact o1 _ this.1
  .exact o2 _ this.2
 .unfold MZ;rw[TD hp hl hc.2.1 hv,TD hq hm (hc.2.2.1.trans hc.1) hw];have c1:(us.all λv=>plain v&&okCell v)=true:=Z1.2 λx hx=>by have:=o1 x hx;simp[this.1,this.2]
  have c2:(vs.all λv=>plain v&&okCell v)=true:=Z1.2 λx hx=>by have:=o2 x hx;simp[this.1,this.2]
  exact if_pos ⟨hc.1,hc.2.1,hc.2.2.1,hc.2.2.2,by rw[TC hp hv,TC hq hw];rfl,c1,c2⟩
end
theorem yOk:YOk Y where
 seq gf cs xs h0:=by
  have h:acX gf cs=some xs:=h0;clear h0;unfold acX at h;split at h
  .rename_i hg;split at h
   .rename_i p q d;refine⟨(Db (F:=λ_=>True) (H:=⟨0,[]⟩) h).1,λφ F H hp lb hr=>?_⟩;simp only[RVs,RV]at hr;obtain⟨v,_,rfl,⟨c,o,vs,rfl,hF,hrd,hd⟩,rfl⟩:=hr;simp only[RDs]at hd;obtain⟨v1,_,rfl,d1,v2,_,rfl,d2,v3,_,rfl,d3,rfl⟩:=hd;rw[show([p,q,d]:LdQ).length=3 from rfl]at hrd;refine⟨?_,λF' H' hl=>?_⟩
    .rw[show Y.X.seq=IT from rfl];unfold IT;rw[hg];simp only[Nat.add_zero];rw[hrd];exact(Db h).2 _ _ d1 d2
    .rw[show Y.X.seqK=KU from rfl];simp only[KU,Nat.add_zero];rw[nC (hl.keep c hF)]
   .cases h
  .rename_i hg;split at h
   .rename_i hg2;split at h
    .rename_i p q;refine⟨(Db (F:=λ_=>True) (H:=⟨0,[]⟩) h).1,λφ F H hp lb hr=>?_⟩;simp only[RVs,RV]at hr;obtain⟨v,_,rfl,⟨c,o,vs,rfl,hF,hrd,hd⟩,v',_,rfl,⟨c',o',vs',rfl,hF',hrd',hd'⟩,rfl⟩:=hr;simp only[RDs]at hd hd';obtain⟨v1,_,rfl,d1,rfl⟩:=hd;obtain⟨v2,_,rfl,d2,rfl⟩:=hd';rw[show([p]:LdQ).length=1 from rfl]at hrd;rw[show([q]:LdQ).length=1 from rfl]at hrd'
     refine⟨?_,λF' H' hl=>?_⟩
     .rw[show Y.X.seq=IT from rfl];unfold IT;rw[hg,hg2];simp only[Nat.add_zero];rw[hrd,hrd'];exact(Db h).2 _ _ d1 d2
     .rw[show Y.X.seqK=KU from rfl];simp only[KU,Nat.add_zero];rw[nC (hl.keep c hF),nC (hl.keep c' hF')]
    .cases h
   .cases h
 ty t:=by
  by_cases ht:t<16*D6.length
  .exact OI (Z1.1 acF t (W6.2 ht))
  .refine OI ?_
   have:(Y.ty t).k=.o:=by
    show(QO (Kz D6 (t/16)) (t%16)).k=.o
    have h2:∀t n:Nat,¬t<16*n->n<=t/16:=λt n hn=>by omega
    rw[AU D6 (t/16) (h2 t _ ht)];rfl
   have h2:(Y.ty t).eq=false:=by
    show(QO (Kz D6 (t/16)) (t%16)).eq=false
    have h2:∀t n:Nat,¬t<16*n->n<=t/16:=λt n hn=>by omega
    rw[AU D6 (t/16) (h2 t _ ht)];rfl
   unfold tyB;rw[this,h2];rfl
theorem acl{o:Option V}{k k':V->Prop}(h1:x=bnd o k)(h:∀v,k v=k' v):x=bnd o k':=by rw[h1,funext h]
theorem aca{o:V}{i:Nat}{k k':V->Prop}(h1:x=ext o i k)(h:∀v,k v=k' v):x=ext o i k':=by rw[h1,funext h]
theorem U1{op:BinOp}{k k':V->Prop}(h1:x=Bj h0 op a b k)(h:∀v,k v=k' v):x=Bj h0 op a b k':=by rw[h1,funext h]
theorem vn(h1:x=T k)(h:∀v h,k v h=k' v h):x=T k':=by rw[h1,show k=k' from funext λv=>funext λy=>h v y]
theorem aci{C:sE}{a:LwQ}(h1:x=cal C h0 f a k)(h:∀v h,k v h=k' v h):x=cal C h0 f a k':=vn h1 h
theorem acj{C:sC}{a:LwQ}(h1:x=cai C h0 f a s k)(h:∀v h,k v h=k' v h):x=cai C h0 f a s k':=vn h1 h
theorem aco{cs:LwQ}(h1:x=alV s cs h0 k)(h:∀v h,k v h=k' v h):x=alV s cs h0 k':=vn h1 h
theorem acp{cs:LdQ}(h1:x=alD s n cs h0 k)(h:∀v h,k v h=k' v h):x=alD s n cs h0 k':=vn h1 h
theorem XQ(h1:x=d6 s v0 h0 k)(h:∀v h,k v h=k' v h):x=d6 s v0 h0 k':=vn h1 h
theorem Vv(h1:x=dv n z ps h0 k)(h:∀v h,k v h=k' v h):x=dv n z ps h0 k':=vn h1 h
theorem Vt(h1:x=wI s n z ps h0 k)(h:∀v h,k v h=k' v h):x=wI s n z ps h0 k':=vn h1 h
theorem ab2(h1:x=mkS s n z h0 a b k)(h:∀v h,k v h=k' v h):x=mkS s n z h0 a b k':=vn h1 h
theorem abT(h1:x=stD h0 n a b k)(h:∀v h,k v h=k' v h):x=stD h0 n a b k':=vn h1 h
theorem acn(h1:x=apV dr s n m a b h0 k)(h:∀v h,k v h=k' v h):x=apV dr s n m a b h0 k':=vn h1 h
theorem afZ(h1:x=apZ dr s n m z a b h0 k)(h:∀v h,k v h=k' v h):x=apZ dr s n m z a b h0 k':=vn h1 h
theorem afL{w:Bool}(h1:x=gd c w h0 T k)(h:∀v h,k v h=k' v h):x=gd c w h0 T k':=vn h1 h
theorem ach{A A' B B':Prop}(h1:x=cnd c A B)(ha:A=A')(hb:B=B'):x=cnd c A' B':=by rw[h1,ha,hb]
theorem afE{k k':LwQ->Hp->Prop}{T T':(LwQ->Hp->Prop)->Prop}(h1:x=jn k T)(hk:∀l h,k l h=k' l h)(hT:∀q,T q=T' q):x=jn k' T':=by rw[h1,show k=k' from funext λv=>funext λy=>hk v y,show T=T' from funext hT]
theorem afm{s s':aM}{clr:LnQ}{h2:Hp}{l:LwQ}{k k':KL}(h1:x=lp s clr h0 l h2 k)(hs:∀l h q,s l h q=s' l h q)(hk:∀ex l h,k ex l h=k' ex l h):x=lp s' clr h0 l h2 k':=by rw[h1,show s=s' from funext λa=>funext λb=>funext λc=>hs a b c,show k=k' from funext λa=>funext λb=>funext λc=>hk a b c]
theorem ace{e ex:Exit}{q q':LwQ->Hp->Prop}{r r':List (Exit×(LwQ->Hp->Prop))}{l:LwQ}(h1:x=exK ((e,q)::r) ex l h)(hq:∀l h,q l h=q' l h)(hr:exK r ex l h=exK r' ex l h):x=exK ((e,q')::r') ex l h:=by
 rw[h1,show q=q' from funext λv=>funext λy=>hq v y];simp only[exK];split
 .rfl
 .exact hr
theorem Vz{y:Prop}{k:V->Prop}(h1:x=bnd (some v) k)(h2:k v=y):x=y:=h1.trans h2
noncomputable def gl(g:Nat):V:=match Y.glob g with
 |some cs=>.dptr cs 0
 |none=>.junk
end Go.Vm
