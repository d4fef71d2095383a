/- Lemmas. -/
import Derived.Test.YtnomjjmegfhkhaaGreatDoorQVmB
set_option linter.unusedVariables false
set_option linter.unusedSimpArgs false
namespace Go.Vm
open Go Go.Am
variable{p:Prop}{k:IntKind}{n i:Int}{j a b:Nat}{C:u7}{args ds:LwQ}
@[simp]theorem As(v:V)(k:V->Prop):bnd (some v) k=k v:=rfl
theorem VA[Decidable p](hp:p)(x y:V):mP (.d (.bool (decide p))) x y=some x:=by simp[mP,hp]
theorem abi[Decidable p](hp:¬p)(x y:V):mP (.d (.bool (decide p))) x y=some y:=by simp[mP,hp]
@[simp low]theorem afo(b:Bool)(x y:V):mP (.d (.bool b)) x y=some (if b=true then x else y):=by cases b<;>rfl
@[simp]theorem ahq(l:LwQ)(i:Nat)(k:V->Prop):ext (.tup l) i k=bnd l[i]? k:=rfl
theorem Mn{k:LwQ->Hp->Prop}{T:(LwQ->Hp->Prop)->Prop}{l:LwQ}{h:Hp}(hT:∀q,T q=q l h):jn k T=k l h:=hT k
@[simp]theorem QK(x:V)(l:LwQ):ge (x::l) 0=x:=rfl
@[simp]theorem ahm(x:V)(l:LwQ)(n:Nat):ge (x::l) (n+1)=ge l n:=rfl
@[simp]theorem aip(x y:V)(l:LwQ):ge (x::y::l) 1=y:=rfl
@[simp]theorem aio(x y z:V)(l:LwQ):ge (x::y::z::l) 2=z:=rfl
@[simp]theorem agA(x y z u:V)(l:LwQ):ge (x::y::z::u::l) 3=u:=rfl
@[simp] theorem lh (i:Nat)(q:LwQ->Hp->Prop)(r:List (Exit×(LwQ->Hp->Prop)))(l:LwQ)(h:Hp):exK ((.exit i,q)::r) (.exit i) l h=q l h:=by simp only[exK,YK,Xu]
@[simp]theorem Dy(q:LwQ->Hp->Prop)(r:List (Exit×(LwQ->Hp->Prop)))(l:LwQ)(h:Hp):exK ((.ret,q)::r) .ret l h=q l h:=rfl
@[simp]theorem Ah(i:Nat)(p:LwQ->Hp->Prop)(r:List (Exit×(LwQ->Hp->Prop)))(l:LwQ)(h:Hp):exK ((.exit i,p)::r) .ret l h=exK r .ret l h:=rfl
theorem ai{step:aM}{clr:LnQ}{h0:Hp}{l:LwQ}{h:Hp}{k:KL}(hs:step l h (lpK clr h0 (λl h=>lp step clr h0 l h k) k)):lp step clr h0 l h k:=by
 intro I hI;refine hI l h ⟨_,hs,λex l' h' hq=>?_⟩;cases ex
 case normal=>exact⟨hq.1,hq.2 I hI⟩
 all_goals exact hq
@[simp]theorem aeo(clr:LnQ)(h0:Hp)(I:LwQ->Hp->Prop)(k:KL)(l:LwQ)(h:Hp):lpK clr h0 I k .normal l h=(clean clr l h=true∧I l (aH clr 0 h0 h)):=rfl
@[simp]theorem agj(clr:LnQ)(h0:Hp)(I:LwQ->Hp->Prop)(k:KL)(i:Nat)(l:LwQ)(h:Hp):lpK clr h0 I k (.exit i) l h=k (.exit i) l h:=rfl
@[simp]theorem ahg(clr:LnQ)(h0:Hp)(I:LwQ->Hp->Prop)(k:KL)(l:LwQ)(h:Hp):lpK clr h0 I k .ret l h=k .ret l h:=rfl
theorem HR:∀l:LwQ,je [] l=true:=by
 intro l
 have key:∀x:V,qb [] x=true:=by
  intro x
  induction x using V.rec (motive_2:=λl=>je [] l=true)with
  |agg l ih=>trivial
  |tup l ih=>trivial
  |fn g a b iha ihb=>grind[qb]
  |ifc t x ih=>trivial
  |nil=>rfl
  |cons x l ih ihl=>grind[je]
  |_=>rfl
 induction l with
 |nil=>rfl
 |cons x l ih=>grind[je]
theorem LR:∀(h:Hp)(i:Nat),qc [] i h=true
 |[],_=>rfl
 | (_,b)::h,i=>by
  simp only[qc,LR h,Yc,X6,Y4];right;cases b<;>simp[offB,HR]
@[simp]theorem clean_nil(l:LwQ)(h:Hp):clean [] l h=true:=by simp[clean,HR,LR]
theorem HG:∀(i:Nat)(h0 h:Hp),h.length=h0.length->aH [] i h0 h=h
 |_,[],h,_=>by cases h<;>rfl
 |_,_::_,[],_=>rfl
 | i,(e0,b0)::h0,(e,b)::h,hl=>by
  simp only[aH,gZ,if_true];rw[HG (i+1) h0 h (by grind)]
theorem wrap_i64(h : -9223372036854775808<=n∧n<=9223372036854775807):IntKind.wrap .i64 n=n:=by
 have e1:(2:Int)^64=18446744073709551616:=ae;have e2:(2:Int)^(64-1)=9223372036854775808:=ae
 grind[IntKind.wrap,IntKind.bits,IntKind.signed]
theorem Nw(hk:k.signed=false)(h:0<=n∧n<2^k.bits):k.wrap n=n:=by grind[IntKind.wrap,Int.emod_eq_of_lt]
theorem wrap_u64(h:0<=n∧n<18446744073709551616):IntKind.wrap .u64 n=n:=Nw rfl h
theorem wrap_u32(h:0<=n∧n<4294967296):IntKind.wrap .u32 n=n:=Nw rfl h
theorem G8(n:Int):IntKind.wrap .u64 n=n%18446744073709551616:=by rfl
@[simp]theorem ahA(k:IntKind)(a b:Int):biI .lss (.d (.int k a)) (.d (.int k b))=some (.d (.bool (decide (a<b)))):=by simp[biI,iH,nj,js]
@[simp]theorem ahB(k:IntKind)(a b:Int):biI .leq (.d (.int k a)) (.d (.int k b))=some (.d (.bool (decide (a<=b)))):=by simp[biI,iH,nj,js]
@[simp]theorem ahC(k:IntKind)(a b:Int):biI .gtr (.d (.int k a)) (.d (.int k b))=some (.d (.bool (decide (b<a)))):=by simp[biI,iH,nj,js]
@[simp]theorem ahD(k:IntKind)(a b:Int):biI .geq (.d (.int k a)) (.d (.int k b))=some (.d (.bool (decide (b<=a)))):=by simp[biI,iH,nj,js]
@[simp]theorem ahE(k:IntKind)(a b:Int):biI .eql (.d (.int k a)) (.d (.int k b))=some (.d (.bool (decide (a=b)))):=by simp[biI,iH,nj,js];rfl
@[simp]theorem ahz(k:IntKind)(a b:Int):biI .neq (.d (.int k a)) (.d (.int k b))=some (.d (.bool (decide (a≠b)))):=by simp[biI,iH,nj,js];rfl
theorem Ax(k:IntKind)(a b:Int):biI .add (.d (.int k a)) (.d (.int k b))=some (.d (.int k (k.wrap (a+b)))):=by simp[biI,iH,nj,js]
theorem Av(k:IntKind)(a b:Int):biI .sub (.d (.int k a)) (.d (.int k b))=some (.d (.int k (k.wrap (a-b)))):=by simp[biI,iH,nj,js]
theorem Aw(k:IntKind)(a b:Int):biI .mul (.d (.int k a)) (.d (.int k b))=some (.d (.int k (k.wrap (a*b)))):=by simp[biI,iH,nj,js]
@[simp]theorem Q9(k l:IntKind)(n:Int):cvI k (.d (.int l n))=some (.d (.int k (k.wrap n))):=rfl
@[simp]theorem ahG(a b:Bool):biB .eql (.d (.bool a)) (.d (.bool b))=some (.d (.bool (a == b))):=rfl
@[simp]theorem ahF(a b:Bool):biB .neq (.d (.bool a)) (.d (.bool b))=some (.d (.bool (a !=b))):=rfl
@[simp]theorem ag4(b:Bool):unV .not (.d (.bool b))=some (.d (.bool (!b))):=rfl
def lst{α:Type}(f:α->D)(l:List α):V:=.d (.sl l.length (l.map f))
section
variable{α:Type}(f:α->D)(l:List α)
@[simp]theorem ago:aN (lst f l)=some (I l.length):=rfl
theorem eY(h:Hp)(hj:i=j)(hl:j<l.length):ixV h 1 (lst f l) (.d (.int k i))=some (.dptr (l.map f) j):=by subst hj;simp only[ixV,lst];rw[if_pos ⟨aa,aa,ac⟩];simp
theorem mH(h:Hp)(hl:j<l.length):ld1 h (.dptr (l.map f) j)=some (.d (f l[j])):=by simp[ld1,hl]
end
section
variable{α:Type}(f:α->D)(l:List α)
theorem Na(d top:Nat):boV d top none=some d:=rfl
theorem Aq{d top:Nat}(hi:i=j)(hj:j<=top):boV d top (some (.d (.int k i)))=some j:=by subst hi;simp only[boV];rw[if_pos ⟨aa,aa⟩];simp
theorem adX{h:Hp}{lo hi:Option V}{i:Nat}(h0:0<l.length)(hj:boV l.length l.length hi=some j)(hi2:boV 0 j lo=some i)(hij:i<=j)(hjl:j<=l.length):slV h 1 (lst f l) lo hi=some (lst f ((l.drop i).take (j-i))):=by simp only[slV,lst,hj,hi2];rw[if_pos ⟨ac,h0⟩];simp only[Yp,List.map_take,List.map_drop,Zp,Ym];rw[Yo aa]
theorem ac8{h:Hp}(h0:0<l.length)(hi:i=j)(hj:j<=l.length):slV h 1 (lst f l) none (some (I i))=some (lst f (l.take j)):=by rw[adX f l h0 (Aq hi hj) (Na 0 j) (Y7 _) hj];simp
end
@[simp]theorem ahU(h:Hp)(x:D):cF h (.d x)=some (.d (norm x),h):=by rfl
@[simp]theorem age(k:IntKind)(n:Int):norm (.int k n)=.int k n:=rfl
@[simp]theorem afq(b:Bool):norm (.bool b)=.bool b:=rfl
@[simp]theorem aga(s:LuQ):norm (.str s)=.str s:=rfl
@[simp]theorem ahc(n:Nat)(l:LdQ):norm (.sl n l)=.sl n l:=rfl
@[simp]theorem agd:norm (.pl (.slice none 0 0))=.sl 0 []:=rfl
@[simp]theorem Uo{α:Type}(h:Hp)(f:α->D)(l:List α):cF h (lst f l)=some (lst f l,h):=by rfl
@[simp]theorem afl(h:Hp):aO h []=some ([],h):=by rfl
theorem gP{D:sF}{h h':Hp}{f:FuncId}{args:LwQ}{v:V}{s:Nat}{k:kkQ}(hc:D f args h v h')(hk:k v h')(hn:∀n cells ex len cap,v≠.new n cells ex len cap)(hn2:∀n,v≠.cut n:=by simp)(hn3:∀n cells ex len cap y,v≠.tup [.new n cells ex len cap,.d y]:=by intro _ _ _ _ _ _ h;cases h)
  (hn4:∀n cells ex len cap,v≠.tup [.new n cells ex len cap]:=by intro _ _ _ _ _ h;cases h) (hn5:∀n cells ex len cap y,v≠.tup [.tup [.new n cells ex len cap],.d y]:=by intro _ _ _ _ _ _ h;cases h):cai D h (.fn f [] []) args s k:=by grind[cai]
theorem aaa{h h':Hp}{f:FuncId}{args:LwQ}{n len cap:Nat}{cells:LdQ}{y:D}{s e:Nat}{b:Bk}{ex:Bool}{k:kkQ}{DD:sF}(hc:DD f args h (.tup [.new n cells ex len cap,.d y]) h')(hs:h'[s]?=some (e,b))
  (hk:k (.tup [.ref s (e+1) 0 len cap cells.length,.d y]) (h'.set s (e+1,.data n cells ex false))):cai DD h (.fn f [] []) args s k:=by grind[cai,new]
theorem gA{h h':Hp}{f:FuncId}{args:LwQ}{n len cap:Nat}{cells:LdQ}{s e:Nat}{b:Bk}{ex:Bool}{k:kkQ}{DD:sF}(hc:DD f args h (.new n cells ex len cap) h')(hs:h'[s]?=some (e,b))
  (hk:k (.ref s (e+1) 0 len cap cells.length) (h'.set s (e+1,.data n cells ex false))):cai DD h (.fn f [] []) args s k:=by grind[cai,new]
theorem qP{h h':Hp}{f:FuncId}{v:V}{k:kkQ}(hs:aO h args=some (ds,h'))(hc:C f ds v)(hk:k v (if cI v then h else h')):cal C h (.fn f [] []) args k:=by grind[cal]
theorem agP{h:Hp}{f:FuncId}{v:V}{k:kkQ}(hc:C f args v)(hs:aO h args=some (args,h))(hk:k v h):cal C h (.fn f [] []) args k:=
 qP hs hc (by grind)
theorem VE{x:D}{h:Hp}(hx:norm x=x):out (.d x) (.d x) h:=⟨h,by simp[hx]⟩
theorem abm{α:Type}(f:α->D)(l:List α)(h:Hp):out (lst f l) (lst f l) h:=⟨h,ac⟩
@[simp]theorem aha(k:IntKind)(n:Int)(h:Hp):out (.d (.int k n)) (.d (.int k n)) h:=VE rfl
@[simp]theorem VF(b:Bool)(h:Hp):out (.d (.bool b)) (.d (.bool b)) h:=VE rfl
theorem I5{l:IntKind}(hb:b<=k.bits):biI .shr (.d (.int k a)) (.d (.int l b))=some (.d (.int k ((a/2^b:Nat):Int))):=by
 have h1:¬((b:Int)<0):=aa
 grind[biI,iH,nj,js]
theorem xE(h:a+b<18446744073709551616):biI .add (.d (.int .u64 a)) (.d (.int .u64 b))=some (.d (.int .u64 ((a+b:Nat):Int))):=by rw[Ax,wrap_u64 aa];simp
theorem Dl(h:a*b<18446744073709551616):biI .mul (.d (.int .u64 a)) (.d (.int .u64 b))=some (.d (.int .u64 ((a*b:Nat):Int))):=by grind[Aw,wrap_u64]
theorem aeX(h:a<18446744073709551616):cvI .u64 (.d (.int k a))=some (.d (.int .u64 a)):=by rw[Q9,wrap_u64 aa]
section
variable{α:Type}{f:α->D}{l:List α}{h:Hp}{s e:Nat}{ex fr:Bool}
end
theorem Up{α:Type}{f:α->D}{l:List α}{h:Hp}{s e:Nat}{ex fr:Bool}(hs:h[s]?=some (e,.data 1 (l.map f) ex fr)){n m tot:Nat}(hn:n=l.length)(hm:n<=m)(ht:tot=l.length):
  cF h (.ref s e 0 n m tot)=some (lst f l,h.set s (e,.data 1 (l.map f) ex true)):=by subst hn;subst ht;simp only[cF,toD,ax,hs,if_true,List.length_map];rw[if_pos ⟨trivial,hm,aa⟩];simp only[Yj,Yp,b6,lst];rw[Zx ac]
end Go.Vm
namespace Go.Big
variable{l a b o:LnQ}{i x n k m:Nat}
def val(B:Nat):LnQ->Nat
 |[]=>0
 |x::l=>x+B*val B l
def iM:LnQ->LnQ
 |[]=>[]
 | x::l=>match iM l with
  |[]=>if x=0 then[]else[x]
  |y::r=>x::y::r
def CQ(B:Nat):Nat->Nat->LnQ
 |0,_=>[]
 |f+1,n=>if n=0 then[]else n%B::CQ B f (n/B)
def dig(B n:Nat):LnQ:=CQ B n n
def aE(B:Nat)(l:LnQ):Prop:=∀x∈l,x<B
section
variable{B:Nat}
theorem val_append(a b:LnQ):val B (a++b)=val B a+B^a.length*val B b:=by
 induction a with
 |nil=>simp[val]
 |cons x a ih=>grind[val]
theorem jN(hB:0<B)(h:aE B l):val B l<B^l.length:=by
 induction l with
 |nil=>simp[val]
 | cons x l ih=>
  have h1:=ih λy hy=>h y (by grind)
  have h2:=h x ac;simp only[val,List.length_cons,Nat.pow_succ];have:B*(val B l+1)<=B*B^l.length:=Z1 B h1
  grind
theorem aE.take{l:LnQ}(h:aE B l)(n:Nat):aE B (l.take n):=λx hx=>h x (Wt hx)
theorem aE.drop{l:LnQ}(h:aE B l)(n:Nat):aE B (l.drop n):=λx hx=>h x (List.mem_of_mem_drop hx)
theorem aE.get(h:aE B l)(hi:i<l.length):l[i]<B:=h _ (Yw hi)
theorem aE.append(ha:aE B a)(hb:aE B b):aE B (a++b):=λx hx=>by
 rcases Xp.1 hx with h|h
 .exact ha x h
 .exact hb x h
theorem RH(l:LnQ):val B (iM l)=val B l:=by
 induction l with
 |nil=>rfl
 | cons x l ih=>
  grind[iM,val]
theorem KN(h:aE B l):aE B (iM l):=by
 induction l with
 |nil=>exact h
 | cons x l ih=>
  have h1:=ih λy hy=>h y (by grind)
  have hx:=h x ac;unfold iM;split
  .split
   .grind
   .intro y hy;grind
  .rename_i y r he;rw[he]at h1;intro z hz;rcases Zy.1 hz with rfl|hz
   .exact hx
   .exact h1 z hz
def AC(l:LnQ):Prop:=∀h:l≠[],l.getLast h≠0
theorem NB(l:LnQ):AC (iM l):=by
 induction l with
 |nil=>intro h;trivial
 | cons x l ih=>
  unfold iM;split
  .split
   .grind
   .rename_i hx;intro h;trivial
  .rename_i y r he;rw[he]at ih;intro h;rw[List.getLast_cons ac];exact ih ac
theorem Gp(h:AC l):iM l=l:=by
 induction l with
 |nil=>rfl
 | cons x l ih=>
  unfold iM;cases l with
  | nil=>
   have:=h ac
   grind[iM]
  | cons y r=>
   have:AC (y::r):=λhh=>by have:=h ac;rwa [List.getLast_cons ac]at this
   grind
theorem qJ(l:LnQ):iM (l++[0])=iM l:=by
 induction l with
 |nil=>rfl
 |cons x l ih=>grind[iM]
theorem yc(h:x≠0):iM (l++[x])=l++[x]:=Gp λ_=>by grind
theorem DC(hB:2<=B):∀(f n:Nat),n<=f->val B (CQ B f n)=n∧aE B (CQ B f n)∧AC (CQ B f n)
 | 0,n,h=>by
  have:n=0:=aa;subst this;exact⟨rfl,λx hx=>by trivial,λhx=>absurd rfl hx⟩
 | f+1,n,h=>by
  unfold CQ;split
  .rename_i h0;subst h0;exact⟨rfl,λx hx=>by simp at hx,λhx=>absurd rfl hx⟩
  .rename_i h0;have hlt:n/B<n:=Nat.div_lt_self aa aa;obtain⟨h1,h2,h3⟩:=DC hB f (n/B) aa;refine⟨?_,?_,?_⟩
   .grind[val,Xn]
   .intro x hx;rcases Zy.1 hx with rfl|hx
    .exact Yz _ aa
    .exact h2 x hx
   .intro hne;by_cases hd:CQ B f (n/B)=[]
    .simp only[hd];rw[hd]at h1;simp only[val]at h1
     have:n<B:=by
      rcases Zg n B with h|h
      .exact h
      .have:=Nat.div_pos h (by omega:0<B);omega
     grind[X9]
    .rw[List.getLast_cons hd];exact h3 hd
theorem iO(hB:2<=B)(n:Nat):val B (dig B n)=n:=(DC hB n n (Z8 n)).1
theorem cE(hB:2<=B)(n:Nat):aE B (dig B n):=(DC hB n n (Z8 n)).2.1
theorem FP(hB:2<=B)(n:Nat):AC (dig B n):=(DC hB n n (Z8 n)).2.2
theorem wG(h:AC l)(hl:l≠[])(hB:0<B):val B l≠0:=by
 induction l with
 |nil=>trivial
 | cons x l ih=>
  cases l with
  |nil=>have:=h ac;trivial
  | cons y r=>
   have hn:AC (y::r):=λhh=>by have:=h ac;rwa [List.getLast_cons ac]at this
   have:=ih hn ac;simp only[val]at this ⊢;have:=Yl hB (Nat.pos_of_ne_zero this);omega
theorem LV(hB:0<B):∀{a b:LnQ},aE B a->aE B b->AC a->AC b->val B a=val B b->a=b
 |[],[],_,_,_,_,_=>rfl
 |[],y::b,_,_,_,hb,h=>absurd h.symm (wG hb ac hB)
 |x::a,[],_,_,ha,_,h=>absurd h (wG ha ac hB)
 | x::a,y::b,sa,sb,na,nb,h=>by
  have hx:=sa x ac;have hy:=sb y ac;simp only[val]at h
  have e1:x=y:=by
   have:=congrArg (· % B) h;simpa[Xb,X9 hx,X9 hy]using this
  subst e1;have e2:val B a=val B b:=Xw hB aa;have tl:∀{l:LnQ}{x:Nat},AC (x::l)->AC l:=λ{l x} h hl=>by have:=h ac;grind
  rw[LV hB (λz hz=>sa z (by grind)) (λz hz=>sb z (by grind)) (tl na) (tl nb) e2]
theorem rF(hB:2<=B)(h:aE B l):dig B (val B l)=iM l:=
 LV aa (cE hB _) (KN h) (FP hB _) (NB l) (by rw[iO hB,RH])
theorem pG(hB:2<=B):(dig B n).length<=k↔n<B^k:=by
 have hv:=iO hB n;have hs:=jN aa (cE hB n);rw[hv]at hs;constructor
 .intro h;exact Z2 hs (Z3 aa h)
 .intro h;rcases Zg k (dig B n).length with hk|hk
  .exfalso;have hne:dig B n≠[]:=by intro e;rw[e]at hk;simp at hk
   have hdrop:val B ((dig B n).drop k)≠0:=by
    refine wG ?_ (by grind[List.drop_eq_nil_iff]) aa;intro hd;rw[List.getLast_drop];exact FP hB n hne
   have:=val_append (B:=B) ((dig B n).take k) ((dig B n).drop k);rw[Xv,hv,Zp,Yo aa]at this;have:=Z1 (B^k) (Nat.pos_of_ne_zero hdrop);omega
  omega
def Oc(a b:LnQ):Nat->Int
 |0=>0
 |i+1=>if a.getD i 0<b.getD i 0 then -1 else if b.getD i 0<a.getD i 0 then 1 else Oc a b i
def cmp(a b:Nat):Int:=if a<b then -1 else if b<a then 1 else 0
theorem P8(hB:0<B){a b:LnQ}(ha:aE B a)(hb:aE B b):∀i,i<=a.length->i<=b.length->Oc a b i=cmp (val B (a.take i)) (val B (b.take i))
 |0,_,_=>by rfl
 | i+1,h1,h2=>by
  have e:∀(l:LnQ)(h:i<l.length),val B (l.take (i+1))=val B (l.take i)+B^i*l[i]:=λl h=>by
   rw[List.take_add_one,val_append,Zp,Yo aa]
   grind[val]
  have la:=jN hB (ha.take i);have lb:=jN hB (hb.take i);rw[Zp,Yo aa]at la lb;rw[Oc,e a aa,e b aa,P8 hB ha hb i aa aa];have ga:a.getD i 0=a[i]:=by simp[show i<a.length by omega]
  have gb:b.getD i 0=b[i]:=by simp[show i<b.length by omega]
  rw[ga,gb];generalize a[i]=x,b[i]=y at *;unfold cmp;rcases Nat.lt_trichotomy x y with h|h|h
  .rw[if_pos h];have:B^i*(x+1)<=B^i*y:=Z1 _ h;rw[Zl]at this;rw[if_pos aa]
  .grind
  .rw[if_neg aa,if_pos h];have:B^i*(y+1)<=B^i*x:=Z1 _ h;rw[Zl]at this;rw[if_neg aa,if_pos aa]
theorem J3(hB:2<=B)(h:(dig B m).length<(dig B n).length):m<n:=by
 have h1:m<B^(dig B m).length:=(pG hB).1 (Z8 _);rcases Zg n (B^(dig B m).length)with h2|h2
 .have:=(pG hB).2 h2;omega
 .omega
theorem qt(l:LnQ)(i:Nat):val B (l.drop i)=l.getD i 0+B*val B (l.drop (i+1)):=by
 by_cases h:i<l.length
 .grind[Yx,val]
 .rw[Y6 aa,Y6 aa];simp[val,List.getElem?_eq_none (by omega:l.length<=i)]
theorem aE.getD{l:LnQ}(h:aE B l)(hB:0<B)(i:Nat):l.getD i 0<B:=by
 by_cases hi:i<l.length
 .simp_all[get]
 .simp[List.getElem?_eq_none (by omega:l.length<=i),hB]
theorem KH(l:LnQ)(x:Nat):val B (l++[x])=val B l+B^l.length*x:=by simp[val_append,val]
theorem AI(n:Nat):val B (List.replicate n 0)=0:=by
 induction n with
 |zero=>rfl
 |succ n ih=>grind[val]
theorem aE.snoc(h:aE B l)(hx:x<B):aE B (l++[x]):=h.append λy hy=>by grind
end
theorem xf{B:Nat}:∀(l:LnQ)(j x:Nat),j<l.length->val B (l.set j x)+B^j*l.getD j 0=val B l+B^j*x
 |[],j,x,h=>by simp at h
 |y::l,0,x,h=>by simp[val];omega
 | y::l,j+1,x,h=>by
  have:=xf (B:=B) l j x (by simpa using h);simp only[List.set_cons_succ,val,List.getD_cons_succ,Nat.pow_succ];rw[Zo (B^j) B,Nat.mul_assoc,Nat.mul_assoc];generalize val B (l.set j x)=p at *;generalize B^j*l.getD j 0=q at *;generalize B^j*x=r at *;have h2:B*(p+q)=B*(val B l+r):=by rw[this]
  rw[Zl,Zl]at h2;omega
theorem aE.set{B:Nat}{l:LnQ}(h:aE B l){j x:Nat}(hx:x<B):aE B (l.set j x):=by
 intro y hy;rcases Yk hy with h1|h1
 .exact h y h1
 .subst h1;exact hx
theorem xW{B:Nat}(l:LnQ)(h:i<l.length):val B (l.take (i+1))=val B (l.take i)+B^i*l.getD i 0:=by rw[List.take_add_one,val_append,Zp,Yo aa];simp[List.getElem?_eq_getElem h,val]
theorem VW{B:Nat}{j c a y v:Nat}(hj:j<o.length):
  val B (o.set j ((c+o.getD j 0+a*y)%B))+B^(j+1)*((c+o.getD j 0+a*y)/B+a*v)=val B o+B^j*(c+a*(y+B*v)):=by
 have h:=xf (B:=B) o j ((c+o.getD j 0+a*y)%B) hj;generalize val B (o.set j ((c+o.getD j 0+a*y)%B))=p at *;generalize o.getD j 0=w at *;have hd:=Xn (c+w+a*y) B;generalize(c+w+a*y)%B=r at *;generalize(c+w+a*y)/B=d at *;generalize val B o=q at *;generalize hP:B^j=P at *;rw[Nat.pow_succ,hP,Nat.mul_assoc]
 have e1:P*(B*(d+a*v))+P*r=P*(c+w+a*y)+P*(a*(B*v)):=by
  rw[<-Zl,<-Zl,<-hd,Zl B,Y3 a B v];congr 1;omega
 have e2:P*(c+a*(y+B*v))+P*w=P*(c+w+a*y)+P*(a*(B*v)):=by
  rw[<-Zl,<-Zl,Zl a];congr 1;omega
 omega
end Go.Big
namespace Go.Vm
open Go Go.Am
abbrev aj:TyI:=⟨.f,1,8,[.pl .nilFunc],false⟩
abbrev jM:TyI:=⟨.o,1,0,[],false⟩
abbrev Ex:TyI:=⟨.p,1,8,[.pl (.pointer none)],false⟩
abbrev PM:TyI:=⟨.i .i64,1,8,[.int .i64 0],false⟩
abbrev PK:TyI:=⟨.i .u8,1,1,[.int .u8 0],false⟩
abbrev PI:TyI:=⟨.s,1,16,[.str []],false⟩
abbrev UT:TyI:=⟨.i .u64,1,8,[.int .u64 0],false⟩
abbrev US:TyI:=⟨.it,1,16,[.pl .nilIface],false⟩
abbrev UR:TyI:=⟨.i .i32,1,4,[.int .i32 0],false⟩
abbrev UQ:TyI:=⟨.sl 3,1,24,[.pl (.slice none 0 0)],false⟩
abbrev Vb:TyI:=⟨.st [(0,1),(1,1),(2,1),(3,1)],4,24,[.int .i64 0,.int .i64 0,.bool false,.int .u8 0],false⟩
abbrev Va:TyI:=⟨.st [(0,1),(1,1)],2,24,[.str [],.int .u64 0],false⟩
abbrev U9:TyI:=⟨.st [(0,1)],1,8,[.pl (.pointer none)],false⟩
abbrev U8:TyI:=⟨.st [(0,1),(1,1),(2,1)],3,40,[.int .u8 0,.pl (.slice none 0 0),.bool false],false⟩
abbrev U7:TyI:=⟨.sl 48,1,24,[.pl (.slice none 0 0)],false⟩
abbrev U6:TyI:=⟨.st [(0,1),(1,1),(2,1)],3,72,[.pl (.slice none 0 0),.pl (.slice none 0 0),.pl (.slice none 0 0)],false⟩
abbrev U5:TyI:=⟨.sl 55,1,24,[.pl (.slice none 0 0)],false⟩
abbrev U4:TyI:=⟨.st [(0,1),(1,1),(2,1),(3,1),(4,1)],5,56,[.pl (.slice none 0 0),.pl (.slice none 0 0),.bool false,.bool false,.bool false],false⟩
abbrev U3:TyI:=⟨.st [(0,2),(2,2),(4,1),(5,1),(6,1)],7,72,[.str [],.str [],.str [],.str [],.bool false,.bool false,.bool false],false⟩
abbrev U2:TyI:=⟨.st [(0,1),(1,1)],2,32,[.int .i64 0,.pl (.slice none 0 0)],false⟩
abbrev U1:TyI:=⟨.st [(0,1),(1,1),(2,1)],3,56,[.int .i64 0,.pl (.slice none 0 0),.pl (.slice none 0 0)],false⟩
abbrev U0:TyI:=⟨.sl 53,1,24,[.pl (.slice none 0 0)],false⟩
abbrev UZ:TyI:=⟨.st [(0,1),(1,1),(2,1)],3,64,[.pl (.slice none 0 0),.pl (.slice none 0 0),.str []],false⟩
abbrev UY:TyI:=⟨.sl 156,1,24,[.pl (.slice none 0 0)],false⟩
abbrev UX:TyI:=⟨.sl 173,1,24,[.pl (.slice none 0 0)],false⟩
abbrev UW:TyI:=⟨.st [(0,1),(1,1),(2,1)],3,48,[.str [],.str [],.pl .nilIface],false⟩
abbrev UV:TyI:=⟨.st [(0,1),(1,1),(2,1),(3,1)],4,40,[.pl (.pointer none),.pl (.pointer none),.pl (.pointer none),.str []],false⟩
abbrev UU:TyI:=⟨.st [(0,1),(1,1),(2,1),(3,1),(4,1),(5,1),(6,1),(7,1),(8,1),(9,1),(10,1)],11,48,[.int .u64 0,.int .u64 0,.int .u32 0,.int .u8 0,.int .u8 0,.int .u8 0,.int .u8 0,.pl .nilFunc,.pl (.pointer none),.int .i32 0,.int .i32 0],false⟩
abbrev slQ(n:Nat):TyI:=⟨.sl n,1,24,[.pl (.slice none 0 0)],false⟩
def ahR:List TyI:=[
 jM,aj,PM,PM,⟨.b,1,1,[.bool false],false⟩,PK,PK,Vb,Vb,PI,PI,PI,UT,Va,Va,Ex]
def ahQ:List TyI:=[
 Ex,Ex,U9,U9,US,UR,slQ 62,U8,U8,U7,aj,aj,aj,UQ,UQ,U7]
def ahP:List TyI:=[
 U6,U6,aj,U5,U5,U4,U4,PM,jM,aj,aj,aj,aj,aj,jM,aj]
def ahO:List TyI:=[
 UQ,jM,aj,aj,aj,PI,⟨.st [(0,1),(1,1)],2,32,[.str [],.str []],false⟩,⟨.st [(0,1),(1,1)],2,32,[.str [],.str []],true⟩,aj,aj,aj,aj,aj,⟨.i .i8,1,1,[.int .i8 0],false⟩,⟨.ar 4 61,4,4,[.int .i8 0,.int .i8 0,.int .i8 0,.int .i8 0],false⟩,jM]
def ahN:List TyI:=[
 aj,jM,aj,slQ 36,jM,aj,aj,aj,aj,aj,jM,aj,jM,aj,aj,jM]
def ahM:List TyI:=[
 aj,aj,aj,aj,U3,U3,aj,aj,slQ 30,aj,U2,U2,jM,aj,aj,U1]
def ahL:List TyI:=[
 U1,jM,aj,aj,aj,aj,U0,aj,jM,aj,aj,aj,aj,aj,UZ,UZ]
def ahK:List TyI:=[
 aj,aj,aj,aj,aj,aj,Ex,aj,jM,aj,aj,aj,UY,UY,aj,aj]
def ahJ:List TyI:=[
 aj,aj,aj,aj,US,US,jM,aj,jM,aj,aj,aj,jM,aj,aj,jM]
def ahI:List TyI:=[
 aj,aj,aj,aj,aj,jM,aj,aj,aj,aj,aj,aj,U0,aj,aj,aj]
def afK:List TyI:=[
 jM,aj,aj,aj,aj,aj,aj,jM,aj,aj,aj,jM,aj,UT,jM,aj]
def afJ:List TyI:=[
 aj,UX,UX,aj,aj,aj,aj,aj,aj,aj,aj,aj,aj,aj,aj,aj]
def afI:List TyI:=[
 aj,aj,aj,aj,aj,PM,jM,aj,UT,Ex,aj,aj,aj,jM,aj,jM]
def afH:List TyI:=[
 aj,jM,aj,aj,slQ 5,aj,aj,aj,aj,jM,aj,aj,aj,aj,aj,aj]
def afG:List TyI:=[
 aj,aj,aj,aj,aj,aj,UW,UW,aj,aj,aj,jM,aj,⟨.ar 24 5,24,24,List.replicate 24 (.int .u8 0),false⟩,aj,aj]
def afF:List TyI:=[
 jM,aj,aj,aj,aj,Ex,Ex,⟨.st [(0,1)],1,16,[.str []],false⟩,⟨.st [(0,1)],1,16,[.str []],false⟩,aj,⟨.i .u32,1,4,[.int .u32 0],false⟩,aj,aj,⟨.ar 20 173,20,160,List.replicate 20 (.int .u64 0),false⟩,⟨.ar 65 5,65,65,List.replicate 65 (.int .u8 0),false⟩,aj]
def afE:List TyI:=[
 ⟨.ar 32 5,32,32,List.replicate 32 (.int .u8 0),false⟩,⟨.ar 64 5,64,64,List.replicate 64 (.int .u8 0),false⟩,aj,UV,UV,⟨.ar 0 16,0,0,[],false⟩,⟨.st [(0,0)],0,0,[],false⟩,⟨.st [(0,0)],0,0,[],false⟩,PK,PK,aj,UR,UR,UU,UU,aj]
def afD:List TyI:=[
 ⟨.o,1,8,[.pl (.pointer none)],false⟩,aj,aj,aj]
def D2:List (List TyI):=[ahR,ahQ,ahP,ahO,ahN,ahM,ahL,ahK,ahJ,ahI,afK,afJ,afI,afH,afG,afF,afE,afD]
def afa:LnQ:=[0,1,203,204,205,206,207,208,209,210,211,212,213,214,215,216,217,218,219,220,221,222,223,224,225,226,227,228,229]
def oo:Nat:=2
namespace F
def ci:FuncId:=3
def fk:FuncId:=4
def fP:FuncId:=5
def jp:FuncId:=6
def eO:FuncId:=7
def bf:FuncId:=8
def jm:FuncId:=9
def il:FuncId:=10
def dT:FuncId:=11
def im:FuncId:=12
def d8:FuncId:=13
def gS:FuncId:=14
def dS:FuncId:=15
def aU:FuncId:=16
def gn:FuncId:=17
def dE:FuncId:=18
def cr:FuncId:=19
def eD:FuncId:=20
def dF:FuncId:=21
def gJ:FuncId:=22
def cn:FuncId:=23
def ja:FuncId:=24
def bj:FuncId:=25
def bG:FuncId:=26
def aQ:FuncId:=27
def bH:FuncId:=28
def o7:FuncId:=29
def fj:FuncId:=30
def fY:FuncId:=31
def mb:FuncId:=32
def gX:FuncId:=33
def km:FuncId:=34
def nE:FuncId:=35
def fD:FuncId:=36
def fh:FuncId:=37
def jj:FuncId:=38
def fx:FuncId:=39
def qf:FuncId:=40
def gL:FuncId:=41
def eJ:FuncId:=42
def j8:FuncId:=43
def jA:FuncId:=44
def oJ:FuncId:=45
def ij:FuncId:=46
def gF:FuncId:=47
def lI:FuncId:=48
def fT:FuncId:=49
def nM:FuncId:=50
def mC:FuncId:=51
def bq:FuncId:=52
def aP:FuncId:=53
def lW:FuncId:=54
def lV:FuncId:=55
def qw:FuncId:=56
def jT:FuncId:=57
def cM:FuncId:=58
def nL:FuncId:=59
def dK:FuncId:=60
def fE:FuncId:=61
def gk:FuncId:=62
def jd:FuncId:=63
def kt:FuncId:=64
def cN:FuncId:=65
def bY:FuncId:=66
def dw:FuncId:=67
def jf:FuncId:=68
def cW:FuncId:=69
def kA:FuncId:=70
def iJ:FuncId:=71
def eM:FuncId:=72
def o5:FuncId:=73
def cO:FuncId:=74
def fq:FuncId:=75
def dp:FuncId:=76
def jg:FuncId:=77
def mp:FuncId:=78
def c8:FuncId:=79
def oR:FuncId:=80
def aS:FuncId:=81
def bF:FuncId:=82
def aL:FuncId:=83
def bW:FuncId:=84
def kf:FuncId:=85
def ib:FuncId:=86
def m6:FuncId:=87
def pR:FuncId:=88
def oX:FuncId:=89
def mc:FuncId:=90
def fu:FuncId:=91
def iF:FuncId:=92
def strconv_Itoa:FuncId:=93
def d6:FuncId:=94
def oZ:FuncId:=95
def pW:FuncId:=96
def nJ:FuncId:=97
def fS:FuncId:=98
def gE:FuncId:=99
def eQ:FuncId:=100
def eH:FuncId:=101
def gK:FuncId:=102
def k9:FuncId:=103
def kr:FuncId:=104
def cu:FuncId:=105
def ku:FuncId:=106
def jk:FuncId:=107
def aX:FuncId:=108
def nI:FuncId:=109
def qx:FuncId:=110
def gz:FuncId:=111
def cj:FuncId:=112
def ie:FuncId:=113
def yE:FuncId:=114
def Cr:FuncId:=115
def gy:FuncId:=116
def rI:FuncId:=117
def nA:FuncId:=118
def dZ:FuncId:=119
def strconv_Atoi:FuncId:=120
def fV:FuncId:=121
def jE:FuncId:=122
def cY:FuncId:=123
def bB:FuncId:=124
def aK:FuncId:=125
def mX:FuncId:=126
def pf:FuncId:=127
def gr:FuncId:=128
def fO:FuncId:=129
def r8:FuncId:=130
def kZ:FuncId:=131
def pV:FuncId:=132
def nF:FuncId:=133
def rJ:FuncId:=134
def oV:FuncId:=135
def k8:FuncId:=136
def iv:FuncId:=137
def au:FuncId:=138
def p6:FuncId:=139
def eB:FuncId:=140
def bS:FuncId:=141
def aV:FuncId:=142
def cL:FuncId:=143
def ay:FuncId:=144
def dD:FuncId:=145
def cx:FuncId:=151
def cX:FuncId:=152
def dJ:FuncId:=153
def ia:FuncId:=154
def jh:FuncId:=155
def gH:FuncId:=156
def bQ:FuncId:=157
def kD:FuncId:=158
def rN:FuncId:=159
def cU:FuncId:=160
def lJ:FuncId:=161
def size_digits:FuncId:=162
def dC:FuncId:=163
def aF:FuncId:=164
def iG:FuncId:=165
def oY:FuncId:=166
def oU:FuncId:=167
def mB:FuncId:=168
def aR:FuncId:=169
def eT:FuncId:=170
def cD:FuncId:=171
def dV:FuncId:=172
def b9:FuncId:=177
def fN:FuncId:=178
def dX:FuncId:=179
def iD:FuncId:=180
def ko:FuncId:=181
def gv:FuncId:=182
def ji:FuncId:=183
def iI:FuncId:=184
def dy:FuncId:=185
def bM:FuncId:=186
def qC:FuncId:=187
def aT:FuncId:=188
def aJ:FuncId:=189
def jy:FuncId:=190
def ju:FuncId:=191
def cT:FuncId:=192
def Cx:FuncId:=193
def fe:FuncId:=194
def nQ:FuncId:=195
def f9:FuncId:=196
def gj:FuncId:=197
def bA:FuncId:=200
def uz:FuncId:=cU
end F
end Go.Vm
namespace Go.Vm
open Go Go.Am
noncomputable section
def RN:List TyI->Nat->TyI
 |[],_=>⟨.o,0,0,[],false⟩
 |x::_,0=>x
 |_::l,n+1=>RN l n
def KQ:List (List TyI)->Nat->List TyI
 |[],_=>[]
 |x::_,0=>x
 |_::l,n+1=>KQ l n
def pO:Nat->LuQ->Nat
 |a,[]=>a
 |a,c::l=>pO (a*10+(c.toNat-48)) l
def oP(c:UInt8):Bool:=Nat.ble 48 c.toNat&&Nat.ble c.toNat 57
def LG:LvQ->Option Value
 |[.string s,.int .i64 a,.int .i64 b]=>if a=10∧b=64∧s.data.toList≠[]∧s.data.toList.all oP=true∧s.data.toList.length<=1000∧pO 0 s.data.toList<10000000000000000000 then some (.tuple #[.int .u64 (pO 0 s.data.toList),.nilIface])else none
 |_=>none
def P2:LvQ->Option Value
 | [.string s,.int .i64 a,.int .i64 b]=>if a=10∧b=64 then(match s.data.toList with
  |45::l=>if l≠[]∧l.all oP=true∧l.length<=1000∧pO 0 l<9223372036854775808 then some (.tuple #[.int .i64 (-(pO 0 l:Int)),.nilIface])else none
  |l=>if l≠[]∧l.all oP=true∧l.length<=1000∧pO 0 l<9223372036854775808 then some (.tuple #[.int .i64 (pO 0 l),.nilIface])else none)else none
 |_=>none
def Ow:Value->Bool
 |.slice ..=>true
 |_=>false
def Ns(H:AH)(p q:Value):Option (List LvQ):=match mZ H 1 p,mZ H 1 q with
 |some (k,xs),some (k',ys)=>if k=k'∧xs.length=k∧ys.length=k∧k<4611686018427387904∧(Ow p&&Ow q)=true∧(xs.all λv=>plain v&&okCell v)=true∧(ys.all λv=>plain v&&okCell v)=true then some ((xs.zip ys).map λx=>[x.1,x.2])else none
 |_,_=>none
def I7(f:FuncId)(lb:LvQ)(H:AH):Option (List LvQ):=match Nat.beq f F.cU with
 | true=>match lb with
  | [.pointer (some ⟨b,o,none⟩)]=>match bX H b o 3 with
   |some [p,q,_]=>Ns H p q
   |_=>none
  |_=>none
 | false=>match Nat.beq f F.uz with
  | true=>match lb with
   | [.pointer (some ⟨b,o,none⟩),.pointer (some ⟨b',o',none⟩)]=>match bX H b o 1,bX H b' o' 1 with
    |some [p],some [q]=>Ns H p q
    |_,_=>none
   |_=>none
  |false=>none
def Lj(f:FuncId)(lb:LvQ)(H:AH):LvQ:=match lb with
 |[.pointer (some ⟨b,o,none⟩)]=>(bX H b o 3).getD []
 |[.pointer (some ⟨b,o,none⟩),.pointer (some ⟨b',o',none⟩)]=>(bX H b o 1).getD []++(bX H b' o' 1).getD []
 |_=>[]
def lits:LdQ->Option LvQ
 |[]=>some []
 | x::l=>match x,lits l with
  |.int k n,some r=>some (.int k n::r)
  |.str s,some r=>some (.string ⟨⟨s⟩⟩::r)
  |_,_=>none
def slD:D->Option (Nat×LdQ)
 |.sl n l=>some (n,l)
 |.pl (.slice none 0 0)=>some (0,[])
 |_=>none
def Ry(p q:D):Option (List LvQ):=match slD p,slD q with
 | some (k,l),some (k',m)=>match lits l,lits m with
  |some xs,some ys=>if k=k'∧xs.length=k∧ys.length=k∧k<4611686018427387904 then some ((xs.zip ys).map λx=>[x.1,x.2])else none
  |_,_=>none
 |_,_=>none
def adY(f:FuncId)(cs:LwQ):Option (List LvQ):=match Nat.beq f F.cU with
 | true=>match cs with
  |[.dptr [p,q,_] 0]=>Ry p q
  |_=>none
 | false=>match Nat.beq f F.uz with
  | true=>match cs with
   |[.dptr [p] 0,.dptr [q] 0]=>Ry p q
   |_=>none
  |false=>none
def X:Cfg:={P:=Go.Proofs.Tryz.prog,allow:=gZ afa,glob:=λg=>Nat.beq g oo,orc:=λf args=>(match Nat.beq f F.fN with
 |true=>LG args
 | false=>match Nat.beq f F.fq with
  |true=>P2 args
  |false=>none),seq:=I7,seqK:=Lj}
def LI:LdQ:=[.int .u64 1,.int .u64 10,.int .u64 100,.int .u64 1000,.int .u64 10000,.int .u64 100000,.int .u64 1000000,.int .u64 10000000,.int .u64 100000000,.int .u64 1000000000,.int .u64 10000000000,.int .u64 100000000000,
 .int .u64 1000000000000,.int .u64 10000000000000,.int .u64 100000000000000,.int .u64 1000000000000000,.int .u64 10000000000000000,.int .u64 100000000000000000,.int .u64 1000000000000000000,.int .u64 10000000000000000000]
def Y:kI:={X:=X,ty:=λt=>RN (KQ D2 (t/16)) (t%16),glob:=λg=>(match Nat.beq g oo with
 |true=>some LI
 |false=>none),seq:=adY}
end
end Go.Vm
set_option maxRecDepth 100000
namespace Go.Vm
open Go Go.Am
variable{x:Prop}{y w:Value}{P:Program}{t:TypeId}{d p:D}{z l:LdQ}{k k':kkQ}{a b f v0 c v:V}{h0 h:Hp}{T:kkQ->Prop}{s n m:Nat}{ps:List (Nat×V)}{dr:Bool}
def aeP:Value->Value->Bool
 |.pointer none,.pointer none=>true
 |.slice none a b,.slice none c d=>a == c&&b == d
 |.nilFunc,.nilFunc=>true
 |.nilIface,.nilIface=>true
 |.map none,.map none=>true
 |.chan none,.chan none=>true
 |_,_=>false
theorem ab7{x:Value}(h:aeP x y=true):x=y:=by unfold aeP at h;split at h<;>first|rfl|(simp at h;obtain⟨rfl,rfl⟩:=h;rfl)|cases h
def aeQ:D->D->Bool
 |.int k a,.int l b=>decide (k=l)&&decide (a=b)
 |.bool a,.bool b=>a == b
 |.str a,.str b=>a == b
 |.pl a,.pl b=>aeP a b
 |_,_=>false
theorem ab8{x y:D}(h:aeQ x y=true):x=y:=by
 unfold aeQ at h;split at h
 .simp at h;obtain⟨rfl,rfl⟩:=h;rfl
 .simp at h;subst h;rfl
 .simp at h;subst h;rfl
 .rw[ab7 h]
 .cases h
def YO:LdQ->LdQ->Bool
 |[],[]=>true
 |x::l,y::m=>aeQ x y&&YO l m
 |_,_=>false
theorem QX:∀{l m:LdQ},YO l m=true->l=m
 |[],[],_=>rfl
 | x::l,y::m,h=>by
  simp only[YO,Z7]at h;rw[ab8 h.1,QX h.2]
 |[],_::_,h=>by cases h
 |_::_,[],h=>by cases h
def XC(P:Program)(t:TypeId)(k:Ty):Bool:=match k with
 |.i k=>match P.underlying t with|some (.int k')=>decide (k'=k)|_=>false
 |.b=>match P.underlying t with|some .bool=>true|_=>false
 |.s=>match P.underlying t with|some .string=>true|_=>false
 |.p=>match P.underlying t with|some (.pointer _)=>true|_=>false
 |.f=>match P.underlying t with|some (.func ..)=>true|_=>false
 |.it=>match P.underlying t with|some (.interface _)=>true|_=>false
 |.sl e=>match P.underlying t with|some (.slice e')=>e' == e|_=>false
 |.ar n e=>match P.underlying t with|some (.array n' e')=>n' == n&&e' == e|_=>false
 |.st fs=>match P.underlying t with|some (.struct gs)=>decide (gs.toList.map (λf=>(f.offset,szO P f.type))=fs.map λp=>(p.1,some p.2))|_=>false
 |.o=>true
def Ov(P:Program)(t:TypeId):D->Bool
 |.int _ _=>match P.underlying t with|some (.int _)=>true|_=>false
 |.bool _=>match P.underlying t with|some .bool=>true|_=>false
 |.str _=>match P.underlying t with|some .string=>true|_=>false
 |_=>false
theorem SO(h:Ov P t d=true):Qz P t d:=by
 unfold Ov at h;split at h
 .split at h
  .rename_i hu;exact⟨_,hu⟩
  .cases h
 .split at h
  .rename_i hu;exact hu
  .cases h
 .split at h
  .rename_i hu;exact hu
  .cases h
 .cases h
def YC(P:Program)(t:TypeId)(z:LdQ):Bool:=match P.underlying t with
 |some (.struct gs)=> !P.stoodInHeld t && !P.eqGuardType P.depth t&&decide (gs.size=z.length)&&(gs.toList.zipIdx.zip z).all λx=>x.1.1.offset == x.1.2&&x.1.1.name != "_" && Ov P x.1.1.type x.2
 |_=>false
theorem YB(h:YC P t z=true):Kn P t z:=by
 unfold YC at h;split at h
 .rename_i gs hu;simp only[Z7,Y4,decide_eq_true_eq,Zz]at h;obtain⟨⟨⟨h1,h2⟩,h3⟩,h4⟩:=h;refine⟨gs,hu,h1,h2,h3,λi f d hf hd=>?_⟩
  have:=h4 ((f,i),d) (by
   apply X4 (i:=i);rw[List.getElem?_zip_eq_some];exact⟨by rw[List.getElem?_zipIdx,hf];simp,hd⟩)
  simp only[beq_iff_eq,bne_iff_ne]at this;exact⟨this.1.1,this.1.2,SO this.2⟩
 .cases h
def tyB(P:Program)(t:TypeId)(i:TyI):Bool:=(!i.eq||YC P t i.z)&&match i.k with
 |.o=>true
 | k=>XC P t k&&decide (szO P t=some i.sz)&&decide (qQ P t=some i.bytes)&&match iK P t with
  |some z=>plain z&&z.cells.size == i.sz&&(z.cells.toList.all λc=>plain c&&okCell c)&&YO (z.cells.toList.map js) i.z
  |none=>false
theorem Ph{i:TyI}(h:tyB P t i=true):Ge P t i:=by
  unfold tyB at h;rw[Z7]at h;obtain⟨h0,h⟩:=h
  have heq:i.eq=true->Kn P t i.z:=λe=>by
    rw[e]at h0;exact YB (by simpa using h0)
  by_cases hk:i.k = .o
  · exact⟨by rw[hk];trivial,λh=>absurd hk h,λh=>absurd hk h,λh=>absurd hk h,heq⟩
  · have h2:XC P t i.k=true∧szO P t=some i.sz∧qQ P t=some i.bytes∧(match iK P t with
        |some z=>plain z&&z.cells.size == i.sz&&(z.cells.toList.all λc=>plain c&&okCell c)&&YO (z.cells.toList.map js) i.z
        |none=>false)=true:=by
      split at h
      · rename_i e;exact absurd e hk
      · simp only[Z7,decide_eq_true_eq]at h
        exact⟨h.1.1.1,h.1.1.2,h.1.2,h.2⟩
    obtain⟨h1,h2,h3,h4⟩:=h2;refine⟨?_,λ_=>h2,λ_=>h3,λ_=> ?_,heq⟩
    · unfold XC at h1
      cases hq:i.k<;>rw[hq]at h1<;>dsimp only at h1 ⊢
      all_goals first
        |trivial
        | (split at h1
           · rename_i hu
             first
               |(simp only[decide_eq_true_eq]at h1;subst h1;exact hu)
               |exact hu
               |exact⟨_,hu⟩
               |exact⟨_,_,_,hu⟩
               |(simp only[beq_iff_eq]at h1;subst h1;exact hu)
               |(simp only[Z7,beq_iff_eq]at h1;obtain⟨rfl,rfl⟩:=h1;exact hu)
               |(simp only[decide_eq_true_eq]at h1;exact⟨_,hu,h1⟩)
           · cases h1)
    · split at h4
      · rename_i z hz
        simp only[Z7,beq_iff_eq,Zz]at h4;refine⟨z,hz,h4.1.1.1,QX h4.2,h4.1.1.2,λc hc=> ?_⟩;have:=h4.1.2 c hc;exact this
      · cases h4
theorem AM:∀(l:List (List TyI))(n:Nat),l.length<=n->KQ l n=[]
 |[],_,_=>rfl
 |_::_,0,h=>by simp at h
 |_::l,n+1,h=>AM l n (by simpa using h)
theorem adN:(List.range (16*D2.length)).all (λt=>tyB Y.X.P t (Y.ty t))=true:=aG
section
variable{F:Nat->Prop}{H:AH}
theorem zF:∀{l:LdQ}{xs:LvQ},lits l=some xs->(∀v∈xs,okZ v)∧∀ws,RDs F H l ws->ws=xs
 | [],xs,h=>by
  simp only[lits,Z9]at h;subst h;exact⟨λv hv=>(by cases hv),λws hw=>by simpa only[RDs]using hw⟩
 | x::l,xs,h=>by
  unfold lits at h;split at h
  .rename_i k n r hr;simp only[Z9]at h;subst h;obtain⟨q1,q2⟩:=zF hr;refine⟨λv hv=>?_,λws hw=>?_⟩
   .rcases Zy.1 hv with rfl|hv
    .exact⟨rfl,rfl⟩
    .exact q1 v hv
   .simp only[RDs,RD]at hw;obtain⟨v,us,rfl,rfl,h2⟩:=hw;rw[q2 us h2]
  .rename_i s r hr;simp only[Z9]at h;subst h;obtain⟨q1,q2⟩:=zF hr;refine⟨λv hv=>?_,λws hw=>?_⟩
   .rcases Zy.1 hv with rfl|hv
    .exact⟨rfl,rfl⟩
    .exact q1 v hv
   .simp only[RDs,RD]at hw;obtain⟨v,us,rfl,rfl,h2⟩:=hw;rw[q2 us h2]
  .cases h
theorem Uw{k:Nat}{xs:LvQ}(h:slD p=some (k,l))(hl:lits l=some xs)(hk:xs.length=k)(hw:RD F H p w):mZ H 1 w=some (k,xs):=by
 obtain⟨q1,q2⟩:=zF (F:=F) (H:=H) hl;unfold slD at h;split at h
 .rename_i n l';simp only[Z9,Z5]at h;obtain⟨rfl,rfl⟩:=h;simp only[RD]at hw;rcases hw with⟨rfl,rfl,h3⟩|⟨c,o,cap,vs,m,rfl,h1,h2,h3,h4,h5,h6,h7,h8⟩
  .simp only[lits,Z9]at hl;subst hl;rcases h3 with rfl|⟨c,o,cap,rfl,_⟩
   .rfl
   .simp[mZ]
  .have e:=q2 vs h7;subst e
   have hl:l'.length=n:=by
    rw[<-hk,Sk h6]
   simp only[mZ,Yp];rw[if_neg aa,<-hl,h6];simp
 .simp only[Z9,Z5]at h;obtain⟨rfl,rfl⟩:=h;simp only[lits,Z9]at hl;subst hl;simp only[RD]at hw;obtain⟨rfl,_⟩:=hw;rfl
 .cases h
theorem Uv{k:Nat}(h:slD p=some (k,l))(hw:RD F H p w):Ow w=true:=by
 unfold slD at h;split at h
 .rename_i n l';simp only[RD]at hw;rcases hw with⟨_,_,h3⟩|⟨c,o,cap,vs,m,rfl,_⟩
  .rcases h3 with rfl|⟨c,o,cap,rfl,_⟩<;>rfl
  .rfl
 .simp only[RD]at hw;obtain⟨rfl,_⟩:=hw;rfl
 .cases h
theorem C4{q:D}{xs:List LvQ}(h:Ry p q=some xs):(∀z∈xs,∀v∈z,okZ v)∧∀v w,RD F H p v->RD F H q w->Ns H v w=some xs:=by
 unfold Ry at h;split at h
 case h_2=>cases h
 rename_i k l k' m hp hq;split at h
 case h_2=>cases h
 rename_i us vs hl hm;split at h
 case isFalse=>cases h
 rename_i hc;simp only[Z9]at h;subst h;have o1:=(zF (F:=F) (H:=H) hl).1;have o2:=(zF (F:=F) (H:=H) hm).1;refine⟨λz hz v hv=>?_,λv w hv hw=>?_⟩
 .obtain⟨⟨a,b⟩,hab,rfl⟩:=Zw.1 hz;have:=List.of_mem_zip hab;simp only[Zy,Yv,or_false]at hv;rcases hv with rfl|rfl
  .exact o1 _ this.1
  .exact o2 _ this.2
 .unfold Ns;rw[Uw hp hl hc.2.1 hv,Uw hq hm (hc.2.2.1.trans hc.1) hw];have c1:(us.all λv=>plain v&&okCell v)=true:=Zz.2 λx hx=>by have:=o1 x hx;simp[this.1,this.2]
  have c2:(vs.all λv=>plain v&&okCell v)=true:=Zz.2 λx hx=>by have:=o2 x hx;simp[this.1,this.2]
  exact if_pos ⟨hc.1,hc.2.1,hc.2.2.1,hc.2.2.2,by rw[Uv hp hv,Uv hq hw];rfl,c1,c2⟩
end
theorem yOk:YOk Y where
 seq gf cs xs h0:=by
  have h:adY gf cs=some xs:=h0;clear h0;unfold adY at h;split at h
  .rename_i hg;split at h
   .rename_i p q d;refine⟨(C4 (F:=λ_=>True) (H:=⟨0,[]⟩) h).1,λφ F H hp lb hr=>?_⟩;simp only[RVs,RV]at hr;obtain⟨v,_,rfl,⟨c,o,vs,rfl,hF,hrd,hd⟩,rfl⟩:=hr;simp only[RDs]at hd;obtain⟨v1,_,rfl,d1,v2,_,rfl,d2,v3,_,rfl,d3,rfl⟩:=hd;rw[show([p,q,d]:LdQ).length=3 from rfl]at hrd;refine⟨?_,λF' H' hl=>?_⟩
    .rw[show Y.X.seq=I7 from rfl];unfold I7;rw[hg];simp only[Nat.add_zero];rw[hrd];exact(C4 h).2 _ _ d1 d2
    .rw[show Y.X.seqK=Lj from rfl];simp only[Lj,Nat.add_zero];rw[m9 (hl.keep c hF)]
   .cases h
  .rename_i hg;split at h
   .rename_i hg2;split at h
    .rename_i p q;refine⟨(C4 (F:=λ_=>True) (H:=⟨0,[]⟩) h).1,λφ F H hp lb hr=>?_⟩;simp only[RVs,RV]at hr;obtain⟨v,_,rfl,⟨c,o,vs,rfl,hF,hrd,hd⟩,v',_,rfl,⟨c',o',vs',rfl,hF',hrd',hd'⟩,rfl⟩:=hr;simp only[RDs]at hd hd';obtain⟨v1,_,rfl,d1,rfl⟩:=hd;obtain⟨v2,_,rfl,d2,rfl⟩:=hd';rw[show([p]:LdQ).length=1 from rfl]at hrd;rw[show([q]:LdQ).length=1 from rfl]at hrd'
     refine⟨?_,λF' H' hl=>?_⟩
     .rw[show Y.X.seq=I7 from rfl];unfold I7;rw[hg,hg2];simp only[Nat.add_zero];rw[hrd,hrd'];exact(C4 h).2 _ _ d1 d2
     .rw[show Y.X.seqK=Lj from rfl];simp only[Lj,Nat.add_zero];rw[m9 (hl.keep c hF),m9 (hl.keep c' hF')]
    .cases h
   .cases h
 ty t:=by
  by_cases ht:t<16*D2.length
  .exact Ph (Zz.1 adN t (Xi.2 ht))
  .refine Ph ?_
   have:(Y.ty t).k=.o:=by
    show(RN (KQ D2 (t/16)) (t%16)).k=.o
    have h2:∀t n:Nat,¬t<16*n->n<=t/16:=λt n hn=>by omega
    rw[AM D2 (t/16) (h2 t _ ht)];rfl
   have h2:(Y.ty t).eq=false:=by
    show(RN (KQ D2 (t/16)) (t%16)).eq=false
    have h2:∀t n:Nat,¬t<16*n->n<=t/16:=λt n hn=>by omega
    rw[AM D2 (t/16) (h2 t _ ht)];rfl
   unfold tyB;rw[this,h2];rfl
theorem adw{o:Option V}{k k':V->Prop}(h1:x=bnd o k)(h:∀v,k v=k' v):x=bnd o k':=by rw[h1,funext h]
theorem adk{o:V}{i:Nat}{k k':V->Prop}(h1:x=ext o i k)(h:∀v,k v=k' v):x=ext o i k':=by rw[h1,funext h]
theorem VP{op:BinOp}{k k':V->Prop}(h1:x=yv h0 op a b k)(h:∀v,k v=k' v):x=yv h0 op a b k':=by rw[h1,funext h]
theorem vd(h1:x=T k)(h:∀v h,k v h=k' v h):x=T k':=by rw[h1,show k=k' from funext λv=>funext λy=>h v y]
theorem ads{C:u7}{a:LwQ}(h1:x=cal C h0 f a k)(h:∀v h,k v h=k' v h):x=cal C h0 f a k':=vd h1 h
theorem adt{C:sF}{a:LwQ}(h1:x=cai C h0 f a s k)(h:∀v h,k v h=k' v h):x=cai C h0 f a s k':=vd h1 h
theorem adz{cs:LwQ}(h1:x=alV s cs h0 k)(h:∀v h,k v h=k' v h):x=alV s cs h0 k':=vd h1 h
theorem adA{cs:LdQ}(h1:x=alD s n cs h0 k)(h:∀v h,k v h=k' v h):x=alD s n cs h0 k':=vd h1 h
theorem aad(h1:x=eU s v0 h0 k)(h:∀v h,k v h=k' v h):x=eU s v0 h0 k':=vd h1 h
theorem WL(h1:x=dI n z ps h0 k)(h:∀v h,k v h=k' v h):x=dI n z ps h0 k':=vd h1 h
theorem WJ(h1:x=vv s n z ps h0 k)(h:∀v h,k v h=k' v h):x=vv s n z ps h0 k':=vd h1 h
theorem adf(h1:x=mkS s n z h0 a b k)(h:∀v h,k v h=k' v h):x=mkS s n z h0 a b k':=vd h1 h
theorem ac6(h1:x=stD h0 n a b k)(h:∀v h,k v h=k' v h):x=stD h0 n a b k':=vd h1 h
theorem ady(h1:x=apV dr s n m a b h0 k)(h:∀v h,k v h=k' v h):x=apV dr s n m a b h0 k':=vd h1 h
theorem ag0(h1:x=apZ dr s n m z a b h0 k)(h:∀v h,k v h=k' v h):x=apZ dr s n m z a b h0 k':=vd h1 h
theorem agD{w:Bool}(h1:x=gd c w h0 T k)(h:∀v h,k v h=k' v h):x=gd c w h0 T k':=vd h1 h
theorem adr{A A' B B':Prop}(h1:x=cnd c A B)(ha:A=A')(hb:B=B'):x=cnd c A' B':=by rw[h1,ha,hb]
theorem agw{k k':LwQ->Hp->Prop}{T T':(LwQ->Hp->Prop)->Prop}(h1:x=jn k T)(hk:∀l h,k l h=k' l h)(hT:∀q,T q=T' q):x=jn k' T':=by rw[h1,show k=k' from funext λv=>funext λy=>hk v y,show T=T' from funext hT]
theorem agi{s s':aM}{clr:LnQ}{h2:Hp}{l:LwQ}{k k':KL}(h1:x=lp s clr h0 l h2 k)(hs:∀l h q,s l h q=s' l h q)(hk:∀ex l h,k ex l h=k' ex l h):x=lp s' clr h0 l h2 k':=by rw[h1,show s=s' from funext λa=>funext λb=>funext λc=>hs a b c,show k=k' from funext λa=>funext λb=>funext λc=>hk a b c]
theorem adn{e ex:Exit}{q q':LwQ->Hp->Prop}{r r':List (Exit×(LwQ->Hp->Prop))}{l:LwQ}(h1:x=exK ((e,q)::r) ex l h)(hq:∀l h,q l h=q' l h)(hr:exK r ex l h=exK r' ex l h):x=exK ((e,q')::r') ex l h:=by
 rw[h1,show q=q' from funext λv=>funext λy=>hq v y];simp only[exK];split
 .rfl
 .exact hr
theorem WR{y:Prop}{k:V->Prop}(h1:x=bnd (some v) k)(h2:k v=y):x=y:=h1.trans h2
noncomputable def gl(g:Nat):V:=match Y.glob g with
 |some cs=>.dptr cs 0
 |none=>.junk
end Go.Vm
