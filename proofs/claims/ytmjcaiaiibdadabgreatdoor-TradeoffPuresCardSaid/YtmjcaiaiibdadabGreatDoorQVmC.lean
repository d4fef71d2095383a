/- Lemmas. -/
import Derived.Test.YtmjcaiaiibdadabGreatDoorQVmB
set_option linter.unusedVariables false
set_option linter.unusedSimpArgs false
namespace Go.Vm
open Go Go.Am
variable{p:Prop}{k:IntKind}{n i:Int}{j a b:Nat}{C:vB}{args ds:LwQ}
@[simp]theorem AF(v:V)(k:V->Prop):bnd (some v) k=k v:=rfl
theorem Vf[Decidable p](hp:p)(x y:V):nF (.d (.bool (decide p))) x y=some x:=by simp[nF,hp]
theorem aaD[Decidable p](hp:¬p)(x y:V):nF (.d (.bool (decide p))) x y=some y:=by simp[nF,hp]
@[simp low]theorem aeC(b:Bool)(x y:V):nF (.d (.bool b)) x y=some (if b=true then x else y):=by cases b<;>rfl
@[simp]theorem agx(l:LwQ)(i:Nat)(k:V->Prop):ext (.tup l) i k=bnd l[i]? k:=rfl
theorem acA{k:LwQ->Hp->Prop}{T:(LwQ->Hp->Prop)->Prop}{l:LwQ}{h:Hp}(hT:∀q,T q=q l h):jn k T=k l h:=hT k
@[simp]theorem QE(x:V)(l:LwQ):ge (x::l) 0=x:=rfl
@[simp]theorem agt(x:V)(l:LwQ)(n:Nat):ge (x::l) (n+1)=ge l n:=rfl
@[simp]theorem ahu(x y:V)(l:LwQ):ge (x::y::l) 1=y:=rfl
@[simp]theorem aht(x y z:V)(l:LwQ):ge (x::y::z::l) 2=z:=rfl
@[simp]theorem afK(x y z u:V)(l:LwQ):ge (x::y::z::u::l) 3=u:=rfl
@[simp] theorem ly (i:Nat)(q:LwQ->Hp->Prop)(r:List (Exit×(LwQ->Hp->Prop)))(l:LwQ)(h:Hp):exK ((.exit i,q)::r) (.exit i) l h=q l h:=by simp only[exK,XE,Xu]
@[simp]theorem DV(q:LwQ->Hp->Prop)(r:List (Exit×(LwQ->Hp->Prop)))(l:LwQ)(h:Hp):exK ((.ret,q)::r) .ret l h=q l h:=rfl
@[simp]theorem Aw(i:Nat)(p:LwQ->Hp->Prop)(r:List (Exit×(LwQ->Hp->Prop)))(l:LwQ)(h:Hp):exK ((.exit i,p)::r) .ret l h=exK r .ret l h:=rfl
theorem aj{step:aP}{clr:LnQ}{h0:Hp}{l:LwQ}{h:Hp}{k:KL}(hs:step l h (lpK clr h0 (λl h=>lp step clr h0 l h k) k)):lp step clr h0 l h k:=by
 intro I hI;refine hI l h ⟨_,hs,λex l' h' hq=>?_⟩;cases ex
 case normal=>exact⟨hq.1,hq.2 I hI⟩
 all_goals exact hq
@[simp]theorem adI(clr:LnQ)(h0:Hp)(I:LwQ->Hp->Prop)(k:KL)(l:LwQ)(h:Hp):lpK clr h0 I k .normal l h=(clean clr l h=true∧I l (aL clr 0 h0 h)):=rfl
@[simp]theorem afu(clr:LnQ)(h0:Hp)(I:LwQ->Hp->Prop)(k:KL)(i:Nat)(l:LwQ)(h:Hp):lpK clr h0 I k (.exit i) l h=k (.exit i) l h:=rfl
@[simp]theorem agn(clr:LnQ)(h0:Hp)(I:LwQ->Hp->Prop)(k:KL)(l:LwQ)(h:Hp):lpK clr h0 I k .ret l h=k .ret l h:=rfl
theorem HS:∀l:LwQ,jI [] l=true:=by
 intro l
 have key:∀x:V,rz [] x=true:=by
  intro x
  induction x using V.rec (motive_2:=λl=>jI [] l=true)with
  |agg l ih=>trivial
  |tup l ih=>trivial
  |fn g a b iha ihb=>grind[rz]
  |ifc t x ih=>trivial
  |nil=>rfl
  |cons x l ih ihl=>grind[jI]
  |_=>rfl
 induction l with
 |nil=>rfl
 |cons x l ih=>grind[jI]
theorem LU:∀(h:Hp)(i:Nat),qm [] i h=true
 |[],_=>rfl
 | (_,b)::h,i=>by
  simp only[qm,LU h,Ye,X8,Y4];right;cases b<;>simp[offB,HS]
@[simp]theorem clean_nil(l:LwQ)(h:Hp):clean [] l h=true:=by simp[clean,HS,LU]
theorem HK:∀(i:Nat)(h0 h:Hp),h.length=h0.length->aL [] i h0 h=h
 |_,[],h,_=>by cases h<;>rfl
 |_,_::_,[],_=>rfl
 | i,(e0,b0)::h0,(e,b)::h,hl=>by
  simp only[aL,iJ,if_true];rw[HK (i+1) h0 h (by grind)]
theorem wrap_i64(h : -9223372036854775808<=n∧n<=9223372036854775807):IntKind.wrap .i64 n=n:=by
 have e1:(2:Int)^64=18446744073709551616:=af;have e2:(2:Int)^(64-1)=9223372036854775808:=af
 grind[IntKind.wrap,IntKind.bits,IntKind.signed]
theorem Nx(hk:k.signed=false)(h:0<=n∧n<2^k.bits):k.wrap n=n:=by grind[IntKind.wrap,Int.emod_eq_of_lt]
theorem wrap_u64(h:0<=n∧n<18446744073709551616):IntKind.wrap .u64 n=n:=Nx rfl h
theorem wrap_u32(h:0<=n∧n<4294967296):IntKind.wrap .u32 n=n:=Nx rfl h
theorem Hd(n:Int):IntKind.wrap .u64 n=n%18446744073709551616:=by rfl
@[simp]theorem agH(k:IntKind)(a b:Int):biI .lss (.d (.int k a)) (.d (.int k b))=some (.d (.bool (decide (a<b)))):=by simp[biI,iT,ot,jF]
@[simp]theorem agI(k:IntKind)(a b:Int):biI .leq (.d (.int k a)) (.d (.int k b))=some (.d (.bool (decide (a<=b)))):=by simp[biI,iT,ot,jF]
@[simp]theorem agJ(k:IntKind)(a b:Int):biI .gtr (.d (.int k a)) (.d (.int k b))=some (.d (.bool (decide (b<a)))):=by simp[biI,iT,ot,jF]
@[simp]theorem agK(k:IntKind)(a b:Int):biI .geq (.d (.int k a)) (.d (.int k b))=some (.d (.bool (decide (b<=a)))):=by simp[biI,iT,ot,jF]
@[simp]theorem agL(k:IntKind)(a b:Int):biI .eql (.d (.int k a)) (.d (.int k b))=some (.d (.bool (decide (a=b)))):=by simp[biI,iT,ot,jF];rfl
@[simp]theorem agG(k:IntKind)(a b:Int):biI .neq (.d (.int k a)) (.d (.int k b))=some (.d (.bool (decide (a≠b)))):=by simp[biI,iT,ot,jF];rfl
theorem AJ(k:IntKind)(a b:Int):biI .add (.d (.int k a)) (.d (.int k b))=some (.d (.int k (k.wrap (a+b)))):=by simp[biI,iT,ot,jF]
theorem AG(k:IntKind)(a b:Int):biI .sub (.d (.int k a)) (.d (.int k b))=some (.d (.int k (k.wrap (a-b)))):=by simp[biI,iT,ot,jF]
theorem AI(k:IntKind)(a b:Int):biI .mul (.d (.int k a)) (.d (.int k b))=some (.d (.int k (k.wrap (a*b)))):=by simp[biI,iT,ot,jF]
@[simp]theorem QZ(k l:IntKind)(n:Int):cvI k (.d (.int l n))=some (.d (.int k (k.wrap n))):=rfl
@[simp]theorem agN(a b:Bool):biB .eql (.d (.bool a)) (.d (.bool b))=some (.d (.bool (a == b))):=rfl
@[simp]theorem agM(a b:Bool):biB .neq (.d (.bool a)) (.d (.bool b))=some (.d (.bool (a !=b))):=rfl
@[simp]theorem af9(b:Bool):unV .not (.d (.bool b))=some (.d (.bool (!b))):=rfl
def lst{α:Type}(f:α->D)(l:List α):V:=.d (.sl l.length (l.map f))
section
variable{α:Type}(f:α->D)(l:List α)
@[simp]theorem afy:aQ (lst f l)=some (I l.length):=rfl
theorem d8(h:Hp)(hj:i=j)(hl:j<l.length):ixV h 1 (lst f l) (.d (.int k i))=some (.dptr (l.map f) j):=by subst hj;simp only[ixV,lst];rw[if_pos ⟨aa,aa,ac⟩];simp
theorem k8(h:Hp)(hl:j<l.length):ld1 h (.dptr (l.map f) j)=some (.d (f l[j])):=by simp[ld1,hl]
end
section
variable{α:Type}(f:α->D)(l:List α)
theorem Nh(d top:Nat):boV d top none=some d:=rfl
theorem AE{d top:Nat}(hi:i=j)(hj:j<=top):boV d top (some (.d (.int k i)))=some j:=by subst hi;simp only[boV];rw[if_pos ⟨aa,aa⟩];simp
theorem adk{h:Hp}{lo hi:Option V}{i:Nat}(h0:0<l.length)(hj:boV l.length l.length hi=some j)(hi2:boV 0 j lo=some i)(hij:i<=j)(hjl:j<=l.length):slV h 1 (lst f l) lo hi=some (lst f ((l.drop i).take (j-i))):=by simp only[slV,lst,hj,hi2];rw[if_pos ⟨ac,h0⟩];simp only[Ya,List.map_take,List.map_drop,Zs,Yp];rw[Ys aa]
theorem aco{h:Hp}(h0:0<l.length)(hi:i=j)(hj:j<=l.length):slV h 1 (lst f l) none (some (I i))=some (lst f (l.take j)):=by rw[adk f l h0 (AE hi hj) (Nh 0 j) (Y8 _) hj];simp
end
@[simp]theorem ag1(h:Hp)(x:D):cO h (.d x)=some (.d (norm x),h):=by rfl
@[simp]theorem afp(k:IntKind)(n:Int):norm (.int k n)=.int k n:=rfl
@[simp]theorem aeE(b:Bool):norm (.bool b)=.bool b:=rfl
@[simp]theorem afl(s:LuQ):norm (.str s)=.str s:=rfl
@[simp]theorem agj(n:Nat)(l:LdQ):norm (.sl n l)=.sl n l:=rfl
@[simp]theorem afo:norm (.pl (.slice none 0 0))=.sl 0 []:=rfl
@[simp]theorem Ua{α:Type}(h:Hp)(f:α->D)(l:List α):cO h (lst f l)=some (lst f l,h):=by rfl
@[simp]theorem aez(h:Hp):aT h []=some ([],h):=by rfl
theorem gK{D:ta}{h h':Hp}{f:FuncId}{args:LwQ}{v:V}{s:Nat}{k:kkQ}(hc:D f args h v h')(hk:k v h')(hn:∀n cells ex len cap,v≠.new n cells ex len cap)(hn2:∀n,v≠.cut n:=by simp)(hn3:∀n cells ex len cap y,v≠.tup [.new n cells ex len cap,.d y]:=by intro _ _ _ _ _ _ h;cases h)
  (hn4:∀n cells ex len cap,v≠.tup [.new n cells ex len cap]:=by intro _ _ _ _ _ h;cases h) (hn5:∀n cells ex len cap y,v≠.tup [.tup [.new n cells ex len cap],.d y]:=by intro _ _ _ _ _ _ h;cases h):cai D h (.fn f [] []) args s k:=by grind[cai]
theorem Nb{h h':Hp}{f:FuncId}{args:LwQ}{n len cap:Nat}{cells:LdQ}{y:D}{s e:Nat}{b:Bk}{ex:Bool}{k:kkQ}{DD:ta}(hc:DD f args h (.tup [.new n cells ex len cap,.d y]) h')(hs:h'[s]?=some (e,b))
  (hk:k (.tup [.ref s (e+1) 0 len cap cells.length,.d y]) (h'.set s (e+1,.data n cells ex false))):cai DD h (.fn f [] []) args s k:=by grind[cai,new]
theorem gr{h h':Hp}{f:FuncId}{args:LwQ}{n len cap:Nat}{cells:LdQ}{s e:Nat}{b:Bk}{ex:Bool}{k:kkQ}{DD:ta}(hc:DD f args h (.new n cells ex len cap) h')(hs:h'[s]?=some (e,b))
  (hk:k (.ref s (e+1) 0 len cap cells.length) (h'.set s (e+1,.data n cells ex false))):cai DD h (.fn f [] []) args s k:=by grind[cai,new]
theorem sX{h h':Hp}{f:FuncId}{v:V}{k:kkQ}(hs:aT h args=some (ds,h'))(hc:C f ds v)(hk:k v (if cD v then h else h')):cal C h (.fn f [] []) args k:=by grind[cal]
theorem afX{h:Hp}{f:FuncId}{v:V}{k:kkQ}(hc:C f args v)(hs:aT h args=some (args,h))(hk:k v h):cal C h (.fn f [] []) args k:=
 sX hs hc (by grind)
theorem Vk{x:D}{h:Hp}(hx:norm x=x):out (.d x) (.d x) h:=⟨h,by simp[hx]⟩
theorem aaI{α:Type}(f:α->D)(l:List α)(h:Hp):out (lst f l) (lst f l) h:=⟨h,ac⟩
@[simp]theorem agh(k:IntKind)(n:Int)(h:Hp):out (.d (.int k n)) (.d (.int k n)) h:=Vk rfl
@[simp]theorem Vl(b:Bool)(h:Hp):out (.d (.bool b)) (.d (.bool b)) h:=Vk rfl
theorem I6{l:IntKind}(hb:b<=k.bits):biI .shr (.d (.int k a)) (.d (.int l b))=some (.d (.int k ((a/2^b:Nat):Int))):=by
 have h1:¬((b:Int)<0):=aa
 grind[biI,iT,ot,jF]
theorem xK(h:a+b<18446744073709551616):biI .add (.d (.int .u64 a)) (.d (.int .u64 b))=some (.d (.int .u64 ((a+b:Nat):Int))):=by rw[AJ,wrap_u64 aa];simp
theorem DC(h:a*b<18446744073709551616):biI .mul (.d (.int .u64 a)) (.d (.int .u64 b))=some (.d (.int .u64 ((a*b:Nat):Int))):=by grind[AI,wrap_u64]
theorem aee(h:a<18446744073709551616):cvI .u64 (.d (.int k a))=some (.d (.int .u64 a)):=by rw[QZ,wrap_u64 aa]
section
variable{α:Type}{f:α->D}{l:List α}{h:Hp}{s e:Nat}{ex fr:Bool}
end
theorem Ub{α:Type}{f:α->D}{l:List α}{h:Hp}{s e:Nat}{ex fr:Bool}(hs:h[s]?=some (e,.data 1 (l.map f) ex fr)){n m tot:Nat}(hn:n=l.length)(hm:n<=m)(ht:tot=l.length):
  cO h (.ref s e 0 n m tot)=some (lst f l,h.set s (e,.data 1 (l.map f) ex true)):=by subst hn;subst ht;simp only[cO,toD,aw,hs,if_true,List.length_map];rw[if_pos ⟨trivial,hm,aa⟩];simp only[Yn,Ya,bY,lst];rw[Zz ac]
end Go.Vm
namespace Go.Big
variable{l a b o:LnQ}{i x n k m:Nat}
def val(B:Nat):LnQ->Nat
 |[]=>0
 |x::l=>x+B*val B l
def iG:LnQ->LnQ
 |[]=>[]
 | x::l=>match iG l with
  |[]=>if x=0 then[]else[x]
  |y::r=>x::y::r
def OH(B:Nat):Nat->Nat->LnQ
 |0,_=>[]
 |f+1,n=>if n=0 then[]else n%B::OH B f (n/B)
def dig(B n:Nat):LnQ:=OH B n n
def aF(B:Nat)(l:LnQ):Prop:=∀x∈l,x<B
section
variable{B:Nat}
theorem val_append(a b:LnQ):val B (a++b)=val B a+B^a.length*val B b:=by
 induction a with
 |nil=>simp[val]
 |cons x a ih=>grind[val]
theorem jJ(hB:0<B)(h:aF B l):val B l<B^l.length:=by
 induction l with
 |nil=>simp[val]
 | cons x l ih=>
  have h1:=ih λy hy=>h y (by grind)
  have h2:=h x ac;simp only[val,List.length_cons,Nat.pow_succ];have:B*(val B l+1)<=B*B^l.length:=Z1 B h1
  grind
theorem aF.take{l:LnQ}(h:aF B l)(n:Nat):aF B (l.take n):=λx hx=>h x (Wz hx)
theorem aF.drop{l:LnQ}(h:aF B l)(n:Nat):aF B (l.drop n):=λx hx=>h x (List.mem_of_mem_drop hx)
theorem aF.get(h:aF B l)(hi:i<l.length):l[i]<B:=h _ (Yx hi)
theorem aF.append(ha:aF B a)(hb:aF B b):aF B (a++b):=λx hx=>by
 rcases Xh.1 hx with h|h
 .exact ha x h
 .exact hb x h
theorem Rr(l:LnQ):val B (iG l)=val B l:=by
 induction l with
 |nil=>rfl
 | cons x l ih=>
  grind[iG,val]
theorem KR(h:aF B l):aF B (iG l):=by
 induction l with
 |nil=>exact h
 | cons x l ih=>
  have h1:=ih λy hy=>h y (by grind)
  have hx:=h x ac;unfold iG;split
  .split
   .grind
   .intro y hy;grind
  .rename_i y r he;rw[he]at h1;intro z hz;rcases Zw.1 hz with rfl|hz
   .exact hx
   .exact h1 z hz
def AP(l:LnQ):Prop:=∀h:l≠[],l.getLast h≠0
theorem ND(l:LnQ):AP (iG l):=by
 induction l with
 |nil=>intro h;trivial
 | cons x l ih=>
  unfold iG;split
  .split
   .grind
   .rename_i hx;intro h;trivial
  .rename_i y r he;rw[he]at ih;intro h;rw[List.getLast_cons ac];exact ih ac
theorem Gw(h:AP l):iG l=l:=by
 induction l with
 |nil=>rfl
 | cons x l ih=>
  unfold iG;cases l with
  | nil=>
   have:=h ac
   grind[iG]
  | cons y r=>
   have:AP (y::r):=λhh=>by have:=h ac;rwa [List.getLast_cons ac]at this
   grind
theorem qY(l:LnQ):iG (l++[0])=iG l:=by
 induction l with
 |nil=>rfl
 |cons x l ih=>grind[iG]
theorem yi(h:x≠0):iG (l++[x])=l++[x]:=Gw λ_=>by grind
theorem DW(hB:2<=B):∀(f n:Nat),n<=f->val B (OH B f n)=n∧aF B (OH B f n)∧AP (OH B f n)
 | 0,n,h=>by
  have:n=0:=aa;subst this;exact⟨rfl,λx hx=>by trivial,λhx=>absurd rfl hx⟩
 | f+1,n,h=>by
  unfold OH;split
  .rename_i h0;subst h0;exact⟨rfl,λx hx=>by simp at hx,λhx=>absurd rfl hx⟩
  .rename_i h0;have hlt:n/B<n:=Nat.div_lt_self aa aa;obtain⟨h1,h2,h3⟩:=DW hB f (n/B) aa;refine⟨?_,?_,?_⟩
   .grind[val,Xq]
   .intro x hx;rcases Zw.1 hx with rfl|hx
    .exact Yz _ aa
    .exact h2 x hx
   .intro hne;by_cases hd:OH B f (n/B)=[]
    .simp only[hd];rw[hd]at h1;simp only[val]at h1
     have:n<B:=by
      rcases Zg n B with h|h
      .exact h
      .have:=Nat.div_pos h (by omega:0<B);omega
     grind[Yc]
    .rw[List.getLast_cons hd];exact h3 hd
theorem jM(hB:2<=B)(n:Nat):val B (dig B n)=n:=(DW hB n n (Z8 n)).1
theorem cU(hB:2<=B)(n:Nat):aF B (dig B n):=(DW hB n n (Z8 n)).2.1
theorem Gb(hB:2<=B)(n:Nat):AP (dig B n):=(DW hB n n (Z8 n)).2.2
theorem wS(h:AP l)(hl:l≠[])(hB:0<B):val B l≠0:=by
 induction l with
 |nil=>trivial
 | cons x l ih=>
  cases l with
  |nil=>have:=h ac;trivial
  | cons y r=>
   have hn:AP (y::r):=λhh=>by have:=h ac;rwa [List.getLast_cons ac]at this
   have:=ih hn ac;simp only[val]at this ⊢;have:=Xy hB (Nat.pos_of_ne_zero this);omega
theorem LX(hB:0<B):∀{a b:LnQ},aF B a->aF B b->AP a->AP b->val B a=val B b->a=b
 |[],[],_,_,_,_,_=>rfl
 |[],y::b,_,_,_,hb,h=>absurd h.symm (wS hb ac hB)
 |x::a,[],_,_,ha,_,h=>absurd h (wS ha ac hB)
 | x::a,y::b,sa,sb,na,nb,h=>by
  have hx:=sa x ac;have hy:=sb y ac;simp only[val]at h
  have e1:x=y:=by
   have:=congrArg (· % B) h;simpa[Xi,Yc hx,Yc hy]using this
  subst e1;have e2:val B a=val B b:=Xw hB aa;have tl:∀{l:LnQ}{x:Nat},AP (x::l)->AP l:=λ{l x} h hl=>by have:=h ac;grind
  rw[LX hB (λz hz=>sa z (by grind)) (λz hz=>sb z (by grind)) (tl na) (tl nb) e2]
theorem rT(hB:2<=B)(h:aF B l):dig B (val B l)=iG l:=
 LX aa (cU hB _) (KR h) (Gb hB _) (ND l) (by rw[jM hB,Rr])
theorem pU(hB:2<=B):(dig B n).length<=k↔n<B^k:=by
 have hv:=jM hB n;have hs:=jJ aa (cU hB n);rw[hv]at hs;constructor
 .intro h;exact Z3 hs (Z0 aa h)
 .intro h;rcases Zg k (dig B n).length with hk|hk
  .exfalso;have hne:dig B n≠[]:=by intro e;rw[e]at hk;simp at hk
   have hdrop:val B ((dig B n).drop k)≠0:=by
    refine wS ?_ (by grind[List.drop_eq_nil_iff]) aa;intro hd;rw[List.getLast_drop];exact Gb hB n hne
   have:=val_append (B:=B) ((dig B n).take k) ((dig B n).drop k);rw[Xv,hv,Zs,Ys aa]at this;have:=Z1 (B^k) (Nat.pos_of_ne_zero hdrop);omega
  omega
def N7(a b:LnQ):Nat->Int
 |0=>0
 |i+1=>if a.getD i 0<b.getD i 0 then -1 else if b.getD i 0<a.getD i 0 then 1 else N7 a b i
def cmp(a b:Nat):Int:=if a<b then -1 else if b<a then 1 else 0
theorem PY(hB:0<B){a b:LnQ}(ha:aF B a)(hb:aF B b):∀i,i<=a.length->i<=b.length->N7 a b i=cmp (val B (a.take i)) (val B (b.take i))
 |0,_,_=>by rfl
 | i+1,h1,h2=>by
  have e:∀(l:LnQ)(h:i<l.length),val B (l.take (i+1))=val B (l.take i)+B^i*l[i]:=λl h=>by
   rw[List.take_add_one,val_append,Zs,Ys aa]
   grind[val]
  have la:=jJ hB (ha.take i);have lb:=jJ hB (hb.take i);rw[Zs,Ys aa]at la lb;rw[N7,e a aa,e b aa,PY hB ha hb i aa aa];have ga:a.getD i 0=a[i]:=by simp[show i<a.length by omega]
  have gb:b.getD i 0=b[i]:=by simp[show i<b.length by omega]
  rw[ga,gb];generalize a[i]=x,b[i]=y at *;unfold cmp;rcases Nat.lt_trichotomy x y with h|h|h
  .rw[if_pos h];have:B^i*(x+1)<=B^i*y:=Z1 _ h;rw[Zm]at this;rw[if_pos aa]
  .grind
  .rw[if_neg aa,if_pos h];have:B^i*(y+1)<=B^i*x:=Z1 _ h;rw[Zm]at this;rw[if_neg aa,if_pos aa]
theorem J7(hB:2<=B)(h:(dig B m).length<(dig B n).length):m<n:=by
 have h1:m<B^(dig B m).length:=(pU hB).1 (Z8 _);rcases Zg n (B^(dig B m).length)with h2|h2
 .have:=(pU hB).2 h2;omega
 .omega
theorem qG(l:LnQ)(i:Nat):val B (l.drop i)=l.getD i 0+B*val B (l.drop (i+1)):=by
 by_cases h:i<l.length
 .grind[Yy,val]
 .rw[Y7 aa,Y7 aa];simp[val,List.getElem?_eq_none (by omega:l.length<=i)]
theorem aF.getD{l:LnQ}(h:aF B l)(hB:0<B)(i:Nat):l.getD i 0<B:=by
 by_cases hi:i<l.length
 .simp_all[get]
 .simp[List.getElem?_eq_none (by omega:l.length<=i),hB]
theorem KJ(l:LnQ)(x:Nat):val B (l++[x])=val B l+B^l.length*x:=by simp[val_append,val]
theorem AV(n:Nat):val B (List.replicate n 0)=0:=by
 induction n with
 |zero=>rfl
 |succ n ih=>grind[val]
theorem aF.snoc(h:aF B l)(hx:x<B):aF B (l++[x]):=h.append λy hy=>by grind
end
theorem xm{B:Nat}:∀(l:LnQ)(j x:Nat),j<l.length->val B (l.set j x)+B^j*l.getD j 0=val B l+B^j*x
 |[],j,x,h=>by simp at h
 |y::l,0,x,h=>by simp[val];omega
 | y::l,j+1,x,h=>by
  have:=xm (B:=B) l j x (by simpa using h);simp only[List.set_cons_succ,val,List.getD_cons_succ,Nat.pow_succ];rw[Zo (B^j) B,Nat.mul_assoc,Nat.mul_assoc];generalize val B (l.set j x)=p at *;generalize B^j*l.getD j 0=q at *;generalize B^j*x=r at *;have h2:B*(p+q)=B*(val B l+r):=by rw[this]
  rw[Zm,Zm]at h2;omega
theorem aF.set{B:Nat}{l:LnQ}(h:aF B l){j x:Nat}(hx:x<B):aF B (l.set j x):=by
 intro y hy;rcases Yl hy with h1|h1
 .exact h y h1
 .subst h1;exact hx
theorem ya{B:Nat}(l:LnQ)(h:i<l.length):val B (l.take (i+1))=val B (l.take i)+B^i*l.getD i 0:=by rw[List.take_add_one,val_append,Zs,Ys aa];simp[List.getElem?_eq_getElem h,val]
theorem VE{B:Nat}{j c a y v:Nat}(hj:j<o.length):
  val B (o.set j ((c+o.getD j 0+a*y)%B))+B^(j+1)*((c+o.getD j 0+a*y)/B+a*v)=val B o+B^j*(c+a*(y+B*v)):=by
 have h:=xm (B:=B) o j ((c+o.getD j 0+a*y)%B) hj;generalize val B (o.set j ((c+o.getD j 0+a*y)%B))=p at *;generalize o.getD j 0=w at *;have hd:=Xq (c+w+a*y) B;generalize(c+w+a*y)%B=r at *;generalize(c+w+a*y)/B=d at *;generalize val B o=q at *;generalize hP:B^j=P at *;rw[Nat.pow_succ,hP,Nat.mul_assoc]
 have e1:P*(B*(d+a*v))+P*r=P*(c+w+a*y)+P*(a*(B*v)):=by
  rw[<-Zm,<-Zm,<-hd,Zm B,Y0 a B v];congr 1;omega
 have e2:P*(c+a*(y+B*v))+P*w=P*(c+w+a*y)+P*(a*(B*v)):=by
  rw[<-Zm,<-Zm,Zm a];congr 1;omega
 omega
end Go.Big
namespace Go.Vm
open Go Go.Am
abbrev ai:TyI:=⟨.f,1,8,[.pl .nilFunc],false⟩
abbrev iI:TyI:=⟨.o,1,0,[],false⟩
abbrev EM:TyI:=⟨.p,1,8,[.pl (.pointer none)],false⟩
abbrev PG:TyI:=⟨.i .i64,1,8,[.int .i64 0],false⟩
abbrev PF:TyI:=⟨.i .u8,1,1,[.int .u8 0],false⟩
abbrev PE:TyI:=⟨.s,1,16,[.str []],false⟩
abbrev Ux:TyI:=⟨.i .u64,1,8,[.int .u64 0],false⟩
abbrev Uw:TyI:=⟨.it,1,16,[.pl .nilIface],false⟩
abbrev Uv:TyI:=⟨.i .i32,1,4,[.int .i32 0],false⟩
abbrev Uu:TyI:=⟨.sl 3,1,24,[.pl (.slice none 0 0)],false⟩
abbrev UR:TyI:=⟨.st [(0,1),(1,1),(2,1),(3,1)],4,24,[.int .i64 0,.int .i64 0,.bool false,.int .u8 0],false⟩
abbrev UQ:TyI:=⟨.st [(0,1),(1,1)],2,24,[.str [],.int .u64 0],false⟩
abbrev UP:TyI:=⟨.st [(0,1)],1,8,[.pl (.pointer none)],false⟩
abbrev UO:TyI:=⟨.st [(0,1),(1,1),(2,1)],3,40,[.int .u8 0,.pl (.slice none 0 0),.bool false],false⟩
abbrev UM:TyI:=⟨.sl 26,1,24,[.pl (.slice none 0 0)],false⟩
abbrev UL:TyI:=⟨.st [(0,1),(1,1),(2,1)],3,72,[.pl (.slice none 0 0),.pl (.slice none 0 0),.pl (.slice none 0 0)],false⟩
abbrev UK:TyI:=⟨.sl 58,1,24,[.pl (.slice none 0 0)],false⟩
abbrev UJ:TyI:=⟨.st [(0,3),(3,1)],4,96,[.pl (.slice none 0 0),.pl (.slice none 0 0),.pl (.slice none 0 0),.pl (.slice none 0 0)],false⟩
abbrev UI:TyI:=⟨.st [(0,1),(1,1),(2,1),(3,1),(4,1)],5,56,[.pl (.slice none 0 0),.pl (.slice none 0 0),.bool false,.bool false,.bool false],false⟩
abbrev UH:TyI:=⟨.st [(0,1),(1,1),(2,1)],3,56,[.int .i64 0,.pl (.slice none 0 0),.pl (.slice none 0 0)],false⟩
abbrev UG:TyI:=⟨.sl 56,1,24,[.pl (.slice none 0 0)],false⟩
abbrev UF:TyI:=⟨.st [(0,1),(1,1),(2,1)],3,64,[.pl (.slice none 0 0),.pl (.slice none 0 0),.str []],false⟩
abbrev UE:TyI:=⟨.st [(0,2),(2,2),(4,1),(5,1),(6,1)],7,72,[.str [],.str [],.str [],.str [],.bool false,.bool false,.bool false],false⟩
abbrev UD:TyI:=⟨.st [(0,1),(1,1)],2,32,[.int .i64 0,.pl (.slice none 0 0)],false⟩
abbrev UC:TyI:=⟨.sl 173,1,24,[.pl (.slice none 0 0)],false⟩
abbrev UB:TyI:=⟨.sl 188,1,24,[.pl (.slice none 0 0)],false⟩
abbrev UA:TyI:=⟨.st [(0,1),(1,1),(2,1)],3,48,[.str [],.str [],.pl .nilIface],false⟩
abbrev Uz:TyI:=⟨.st [(0,1),(1,1),(2,1),(3,1)],4,40,[.pl (.pointer none),.pl (.pointer none),.pl (.pointer none),.str []],false⟩
abbrev Uy:TyI:=⟨.st [(0,1),(1,1),(2,1),(3,1),(4,1),(5,1),(6,1),(7,1),(8,1),(9,1),(10,1)],11,48,[.int .u64 0,.int .u64 0,.int .u32 0,.int .u8 0,.int .u8 0,.int .u8 0,.int .u8 0,.pl .nilFunc,.pl (.pointer none),.int .i32 0,.int .i32 0],false⟩
abbrev slQ(n:Nat):TyI:=⟨.sl n,1,24,[.pl (.slice none 0 0)],false⟩
def agY:List TyI:=[
 iI,ai,PG,PG,⟨.b,1,1,[.bool false],false⟩,PF,PF,UR,UR,PE,PE,PE,Ux,UQ,UQ,EM]
def agX:List TyI:=[
 EM,EM,UP,UP,Uw,Uv,slQ 68,UO,UO,Uu,Uu,ai,ai,Uu,UM,UM]
def agW:List TyI:=[
 UL,UL,ai,UK,UK,PG,iI,ai,ai,ai,ai,iI,ai,ai,slQ 36,UJ]
def agV:List TyI:=[
 UJ,iI,ai,iI,ai,iI,ai,ai,PE,⟨.st [(0,1),(1,1)],2,32,[.str [],.str []],false⟩,⟨.st [(0,1),(1,1)],2,32,[.str [],.str []],true⟩,ai,UI,UI,iI,ai]
def agU:List TyI:=[
 ai,ai,ai,⟨.i .i8,1,1,[.int .i8 0],false⟩,⟨.ar 4 67,4,4,[.int .i8 0,.int .i8 0,.int .i8 0,.int .i8 0],false⟩,iI,ai,iI,ai,ai,ai,iI,ai,iI,ai,ai]
def agT:List TyI:=[
 iI,ai,UH,UH,iI,ai,ai,ai,ai,ai,ai,ai,ai,UG,UF,UF]
def agS:List TyI:=[
 ai,ai,ai,UE,UE,ai,ai,ai,ai,ai,slQ 29,ai,UD,UD,iI,ai]
def agR:List TyI:=[
 ai,ai,ai,iI,ai,ai,ai,ai,ai,ai,ai,ai,ai,iI,ai,iI]
def agQ:List TyI:=[
 ai,ai,ai,ai,EM,ai,ai,ai,ai,ai,UC,UC,ai,ai,ai,ai]
def agP:List TyI:=[
 ai,Uw,Uw,iI,ai,iI,ai,ai,ai,iI,ai,ai,ai,ai,ai,ai]
def aeY:List TyI:=[
 ai,iI,ai,ai,ai,ai,ai,ai,ai,ai,ai,ai,ai,UG,ai,ai]
def aeX:List TyI:=[
 ai,iI,ai,ai,ai,ai,ai,ai,ai,ai,iI,ai,Ux,iI,ai,ai]
def aeW:List TyI:=[
 UB,UB,ai,ai,ai,ai,ai,Ux,iI,ai,ai,iI,ai,iI,ai,ai]
def aeV:List TyI:=[
 ai,ai,ai,ai,ai,iI,ai,ai,ai,ai,ai,ai,ai,PG,iI,ai]
def aeU:List TyI:=[
 EM,ai,ai,iI,ai,ai,slQ 5,ai,ai,ai,⟨.i .u32,1,4,[.int .u32 0],false⟩,iI,ai,iI,ai,ai]
def aeT:List TyI:=[
 ai,ai,ai,ai,ai,ai,ai,ai,ai,ai,UA,UA,ai,ai,ai,ai]
def aeS:List TyI:=[
 ai,⟨.ar 24 5,24,24,List.replicate 24 (.int .u8 0),false⟩,ai,iI,ai,ai,EM,EM,⟨.st [(0,1)],1,16,[.str []],false⟩,⟨.st [(0,1)],1,16,[.str []],false⟩,ai,ai,ai,⟨.ar 20 188,20,160,List.replicate 20 (.int .u64 0),false⟩,⟨.ar 65 5,65,65,List.replicate 65 (.int .u8 0),false⟩,⟨.ar 32 5,32,32,List.replicate 32 (.int .u8 0),false⟩]
def aeR:List TyI:=[
 ⟨.ar 64 5,64,64,List.replicate 64 (.int .u8 0),false⟩,ai,Uz,Uz,⟨.ar 0 16,0,0,[],false⟩,⟨.st [(0,0)],0,0,[],false⟩,⟨.st [(0,0)],0,0,[],false⟩,PF,PF,ai,Uv,Uv,Uy,Uy,ai,⟨.o,1,8,[.pl (.pointer none)],false⟩]
def aeQ:List TyI:=[
 ai,ai,ai]
def Eg:List (List TyI):=[agY,agX,agW,agV,agU,agT,agS,agR,agQ,agP,aeY,aeX,aeW,aeV,aeU,aeT,aeS,aeR,aeQ]
def aeo:LnQ:=[0,1,215,216,217,218,219,220,221,222,223,224,225,226,227,228,229,230,231,232,233,234,235,236,237,238,239,240,241]
def oI:Nat:=2
namespace F
def cC:FuncId:=3
def fp:FuncId:=4
def fN:FuncId:=5
def fM:FuncId:=6
def fK:FuncId:=7
def je:FuncId:=8
def nI:FuncId:=9
def ie:FuncId:=10
def d6:FuncId:=11
def cM:FuncId:=12
def jK:FuncId:=13
def nO:FuncId:=14
def sd:FuncId:=15
def aV:FuncId:=16
def f9:FuncId:=17
def dC:FuncId:=18
def fu:FuncId:=19
def eF:FuncId:=20
def dD:FuncId:=21
def gF:FuncId:=22
def bh:FuncId:=23
def gM:FuncId:=24
def jv:FuncId:=25
def dO:FuncId:=26
def fW:FuncId:=27
def j6:FuncId:=28
def gS:FuncId:=29
def fS:FuncId:=30
def kh:FuncId:=31
def mz:FuncId:=32
def iN:FuncId:=33
def iy:FuncId:=34
def aA:FuncId:=35
def iw:FuncId:=36
def jj:FuncId:=37
def mq:FuncId:=38
def jQ:FuncId:=39
def fe:FuncId:=40
def dT:FuncId:=41
def fk:FuncId:=42
def jc:FuncId:=43
def bq:FuncId:=44
def nX:FuncId:=45
def bG:FuncId:=46
def bH:FuncId:=47
def fx:FuncId:=48
def qq:FuncId:=49
def gI:FuncId:=50
def eM:FuncId:=51
def ib:FuncId:=52
def gB:FuncId:=53
def lJ:FuncId:=54
def fh:FuncId:=55
def oi:FuncId:=56
def mH:FuncId:=57
def bv:FuncId:=58
def bL:FuncId:=59
def ky:FuncId:=60
def iD:FuncId:=61
def lV:FuncId:=62
def fc:FuncId:=63
def kf:FuncId:=64
def nP:FuncId:=65
def jk:FuncId:=66
def qc:FuncId:=67
def bM:FuncId:=68
def gE:FuncId:=69
def CM:FuncId:=70
def dN:FuncId:=71
def oh:FuncId:=72
def eu:FuncId:=73
def fB:FuncId:=74
def iY:FuncId:=75
def nW:FuncId:=76
def iZ:FuncId:=77
def ko:FuncId:=78
def cu:FuncId:=79
def bX:FuncId:=80
def dp:FuncId:=81
def ja:FuncId:=82
def cQ:FuncId:=83
def dF:FuncId:=84
def pu:FuncId:=85
def kR:FuncId:=86
def fv:FuncId:=87
def dj:FuncId:=88
def jb:FuncId:=89
def mi:FuncId:=90
def pd:FuncId:=91
def bF:FuncId:=92
def aO:FuncId:=93
def cx:FuncId:=94
def j8:FuncId:=95
def gY:FuncId:=96
def nB:FuncId:=97
def po:FuncId:=98
def qj:FuncId:=99
def aM:FuncId:=100
def j7:FuncId:=101
def pB:FuncId:=102
def gA:FuncId:=103
def dW:FuncId:=104
def gn:FuncId:=105
def gZ:FuncId:=106
def gj:FuncId:=107
def jp:FuncId:=108
def strconv_Itoa:FuncId:=110
def fJ:FuncId:=111
def qI:FuncId:=112
def jR:FuncId:=113
def od:FuncId:=114
def fR:FuncId:=115
def eQ:FuncId:=116
def eJ:FuncId:=117
def gH:FuncId:=118
def lu:FuncId:=119
def km:FuncId:=120
def ci:FuncId:=121
def kr:FuncId:=122
def jd:FuncId:=123
def ba:FuncId:=124
def oc:FuncId:=125
def qK:FuncId:=126
def cg:FuncId:=127
def yP:FuncId:=128
def CK:FuncId:=129
def gm:FuncId:=130
def rX:FuncId:=131
def nL:FuncId:=132
def strconv_Atoi:FuncId:=133
def fU:FuncId:=134
def jz:FuncId:=135
def dV:FuncId:=136
def cS:FuncId:=137
def aR:FuncId:=138
def nj:FuncId:=139
def qi:FuncId:=140
def nY:FuncId:=141
def mE:FuncId:=142
def cj:FuncId:=143
def cT:FuncId:=144
def dE:FuncId:=145
def ct:FuncId:=146
def az:FuncId:=147
def dy:FuncId:=148
def r9:FuncId:=149
def dI:FuncId:=150
def k9:FuncId:=153
def pm:FuncId:=154
def rY:FuncId:=155
def pi:FuncId:=156
def lj:FuncId:=157
def ik:FuncId:=158
def au:FuncId:=159
def qk:FuncId:=160
def eD:FuncId:=161
def bU:FuncId:=162
def aX:FuncId:=163
def gX:FuncId:=169
def kA:FuncId:=170
def gD:FuncId:=171
def bS:FuncId:=172
def kC:FuncId:=173
def aG:FuncId:=174
def iz:FuncId:=175
def pn:FuncId:=176
def CS:FuncId:=177
def dd:FuncId:=178
def b9:FuncId:=179
def mF:FuncId:=180
def dw:FuncId:=182
def pf:FuncId:=183
def mG:FuncId:=184
def aS:FuncId:=185
def eR:FuncId:=186
def cr:FuncId:=187
def dQ:FuncId:=188
def fL:FuncId:=193
def dR:FuncId:=194
def iu:FuncId:=195
def aU:FuncId:=196
def aK:FuncId:=197
def jq:FuncId:=198
def CV:FuncId:=199
def iB:FuncId:=200
def iC:FuncId:=202
def du:FuncId:=203
def bN:FuncId:=204
def qQ:FuncId:=205
def jh:FuncId:=206
def cL:FuncId:=207
def bB:FuncId:=208
def fX:FuncId:=209
def fY:FuncId:=210
def uQ:FuncId:=dI
end F
end Go.Vm
namespace Go.Vm
open Go Go.Am
noncomputable section
def Rx:List TyI->Nat->TyI
 |[],_=>⟨.o,0,0,[],false⟩
 |x::_,0=>x
 |_::l,n+1=>Rx l n
def KU:List (List TyI)->Nat->List TyI
 |[],_=>[]
 |x::_,0=>x
 |_::l,n+1=>KU l n
def qa:Nat->LuQ->Nat
 |a,[]=>a
 |a,c::l=>qa (a*10+(c.toNat-48)) l
def o8(c:UInt8):Bool:=Nat.ble 48 c.toNat&&Nat.ble c.toNat 57
def LI:LvQ->Option Value
 |[.string s,.int .i64 a,.int .i64 b]=>if a=10∧b=64∧s.data.toList≠[]∧s.data.toList.all o8=true∧s.data.toList.length<=1000∧qa 0 s.data.toList<10000000000000000000 then some (.tuple #[.int .u64 (qa 0 s.data.toList),.nilIface])else none
 |_=>none
def PV:LvQ->Option Value
 | [.string s,.int .i64 a,.int .i64 b]=>if a=10∧b=64 then(match s.data.toList with
  |45::l=>if l≠[]∧l.all o8=true∧l.length<=1000∧qa 0 l<9223372036854775808 then some (.tuple #[.int .i64 (-(qa 0 l:Int)),.nilIface])else none
  |l=>if l≠[]∧l.all o8=true∧l.length<=1000∧qa 0 l<9223372036854775808 then some (.tuple #[.int .i64 (qa 0 l),.nilIface])else none)else none
 |_=>none
def Om:Value->Bool
 |.slice ..=>true
 |_=>false
def Nu(H:AH)(p q:Value):Option (List LvQ):=match np H 1 p,np H 1 q with
 |some (k,xs),some (k',ys)=>if k=k'∧xs.length=k∧ys.length=k∧k<4611686018427387904∧(Om p&&Om q)=true∧(xs.all λv=>plain v&&okCell v)=true∧(ys.all λv=>plain v&&okCell v)=true then some ((xs.zip ys).map λx=>[x.1,x.2])else none
 |_,_=>none
def I9(f:FuncId)(lb:LvQ)(H:AH):Option (List LvQ):=match Nat.beq f F.dI with
 | true=>match lb with
  | [.pointer (some ⟨b,o,none⟩)]=>match bW H b o 3 with
   |some [p,q,_]=>Nu H p q
   |_=>none
  |_=>none
 | false=>match Nat.beq f F.uQ with
  | true=>match lb with
   | [.pointer (some ⟨b,o,none⟩),.pointer (some ⟨b',o',none⟩)]=>match bW H b o 1,bW H b' o' 1 with
    |some [p],some [q]=>Nu H p q
    |_,_=>none
   |_=>none
  |false=>none
def Lo(f:FuncId)(lb:LvQ)(H:AH):LvQ:=match lb with
 |[.pointer (some ⟨b,o,none⟩)]=>(bW H b o 3).getD []
 |[.pointer (some ⟨b,o,none⟩),.pointer (some ⟨b',o',none⟩)]=>(bW H b o 1).getD []++(bW H b' o' 1).getD []
 |_=>[]
def lits:LdQ->Option LvQ
 |[]=>some []
 | x::l=>match x,lits l with
  |.int k n,some r=>some (.int k n::r)
  |.str s,some r=>some (.string ⟨⟨s⟩⟩::r)
  |_,_=>none
def slD:D->Option (Nat×LdQ)
 |.sl n l=>some (n,l)
 |.pl (.slice none 0 0)=>some (0,[])
 |_=>none
def Rl(p q:D):Option (List LvQ):=match slD p,slD q with
 | some (k,l),some (k',m)=>match lits l,lits m with
  |some xs,some ys=>if k=k'∧xs.length=k∧ys.length=k∧k<4611686018427387904 then some ((xs.zip ys).map λx=>[x.1,x.2])else none
  |_,_=>none
 |_,_=>none
def adl(f:FuncId)(cs:LwQ):Option (List LvQ):=match Nat.beq f F.dI with
 | true=>match cs with
  |[.dptr [p,q,_] 0]=>Rl p q
  |_=>none
 | false=>match Nat.beq f F.uQ with
  | true=>match cs with
   |[.dptr [p] 0,.dptr [q] 0]=>Rl p q
   |_=>none
  |false=>none
def X:Cfg:={P:=Go.Proofs.Tryz.prog,allow:=iJ aeo,glob:=λg=>Nat.beq g oI,orc:=λf args=>(match Nat.beq f F.fL with
 |true=>LI args
 | false=>match Nat.beq f F.fv with
  |true=>PV args
  |false=>none),seq:=I9,seqK:=Lo}
def LK:LdQ:=[.int .u64 1,.int .u64 10,.int .u64 100,.int .u64 1000,.int .u64 10000,.int .u64 100000,.int .u64 1000000,.int .u64 10000000,.int .u64 100000000,.int .u64 1000000000,.int .u64 10000000000,.int .u64 100000000000,
 .int .u64 1000000000000,.int .u64 10000000000000,.int .u64 100000000000000,.int .u64 1000000000000000,.int .u64 10000000000000000,.int .u64 100000000000000000,.int .u64 1000000000000000000,.int .u64 10000000000000000000]
def Y:kI:={X:=X,ty:=λt=>Rx (KU Eg (t/16)) (t%16),glob:=λg=>(match Nat.beq g oI with
 |true=>some LK
 |false=>none),seq:=adl}
end
end Go.Vm
set_option maxRecDepth 100000
namespace Go.Vm
open Go Go.Am
variable{x:Prop}{y w:Value}{P:Program}{t:TypeId}{d p:D}{z l:LdQ}{k k':kkQ}{a b f v0 c v:V}{h0 h:Hp}{T:kkQ->Prop}{s n m:Nat}{ps:List (Nat×V)}{dr:Bool}
def ad5:Value->Value->Bool
 |.pointer none,.pointer none=>true
 |.slice none a b,.slice none c d=>a == c&&b == d
 |.nilFunc,.nilFunc=>true
 |.nilIface,.nilIface=>true
 |.map none,.map none=>true
 |.chan none,.chan none=>true
 |_,_=>false
theorem abv{x:Value}(h:ad5 x y=true):x=y:=by unfold ad5 at h;split at h<;>first|rfl|(simp at h;obtain⟨rfl,rfl⟩:=h;rfl)|cases h
def ad6:D->D->Bool
 |.int k a,.int l b=>decide (k=l)&&decide (a=b)
 |.bool a,.bool b=>a == b
 |.str a,.str b=>a == b
 |.pl a,.pl b=>ad5 a b
 |_,_=>false
theorem abw{x y:D}(h:ad6 x y=true):x=y:=by
 unfold ad6 at h;split at h
 .simp at h;obtain⟨rfl,rfl⟩:=h;rfl
 .simp at h;subst h;rfl
 .simp at h;subst h;rfl
 .rw[abv h]
 .cases h
def XK:LdQ->LdQ->Bool
 |[],[]=>true
 |x::l,y::m=>ad6 x y&&XK l m
 |_,_=>false
theorem QQ:∀{l m:LdQ},XK l m=true->l=m
 |[],[],_=>rfl
 | x::l,y::m,h=>by
  simp only[XK,Z7]at h;rw[abw h.1,QQ h.2]
 |[],_::_,h=>by cases h
 |_::_,[],h=>by cases h
def WC(P:Program)(t:TypeId)(k:Ty):Bool:=match k with
 |.i k=>match P.underlying t with|some (.int k')=>decide (k'=k)|_=>false
 |.b=>match P.underlying t with|some .bool=>true|_=>false
 |.s=>match P.underlying t with|some .string=>true|_=>false
 |.p=>match P.underlying t with|some (.pointer _)=>true|_=>false
 |.f=>match P.underlying t with|some (.func ..)=>true|_=>false
 |.it=>match P.underlying t with|some (.interface _)=>true|_=>false
 |.sl e=>match P.underlying t with|some (.slice e')=>e' == e|_=>false
 |.ar n e=>match P.underlying t with|some (.array n' e')=>n' == n&&e' == e|_=>false
 |.st fs=>match P.underlying t with|some (.struct gs)=>decide (gs.toList.map (λf=>(f.offset,szO P f.type))=fs.map λp=>(p.1,some p.2))|_=>false
 |.o=>true
def Ol(P:Program)(t:TypeId):D->Bool
 |.int _ _=>match P.underlying t with|some (.int _)=>true|_=>false
 |.bool _=>match P.underlying t with|some .bool=>true|_=>false
 |.str _=>match P.underlying t with|some .string=>true|_=>false
 |_=>false
theorem Sy(h:Ol P t d=true):Qu P t d:=by
 unfold Ol at h;split at h
 .split at h
  .rename_i hu;exact⟨_,hu⟩
  .cases h
 .split at h
  .rename_i hu;exact hu
  .cases h
 .split at h
  .rename_i hu;exact hu
  .cases h
 .cases h
def WY(P:Program)(t:TypeId)(z:LdQ):Bool:=match P.underlying t with
 |some (.struct gs)=> !P.stoodInHeld t && !P.eqGuardType P.depth t&&decide (gs.size=z.length)&&(gs.toList.zipIdx.zip z).all λx=>x.1.1.offset == x.1.2&&x.1.1.name != "_" && Ol P x.1.1.type x.2
 |_=>false
theorem WX(h:WY P t z=true):Kq P t z:=by
 unfold WY at h;split at h
 .rename_i gs hu;simp only[Z7,Y4,decide_eq_true_eq,Z2]at h;obtain⟨⟨⟨h1,h2⟩,h3⟩,h4⟩:=h;refine⟨gs,hu,h1,h2,h3,λi f d hf hd=>?_⟩
  have:=h4 ((f,i),d) (by
   apply X5 (i:=i);rw[List.getElem?_zip_eq_some];exact⟨by rw[List.getElem?_zipIdx,hf];simp,hd⟩)
  simp only[beq_iff_eq,bne_iff_ne]at this;exact⟨this.1.1,this.1.2,Sy this.2⟩
 .cases h
def tyB(P:Program)(t:TypeId)(i:TyI):Bool:=(!i.eq||WY P t i.z)&&match i.k with
 |.o=>true
 | k=>WC P t k&&decide (szO P t=some i.sz)&&decide (rE P t=some i.bytes)&&match iE P t with
  |some z=>plain z&&z.cells.size == i.sz&&(z.cells.toList.all λc=>plain c&&okCell c)&&XK (z.cells.toList.map jF) i.z
  |none=>false
theorem Pd{i:TyI}(h:tyB P t i=true):Gm P t i:=by
  unfold tyB at h;rw[Z7]at h;obtain⟨h0,h⟩:=h
  have heq:i.eq=true->Kq P t i.z:=λe=>by
    rw[e]at h0;exact WX (by simpa using h0)
  by_cases hk:i.k = .o
  · exact⟨by rw[hk];trivial,λh=>absurd hk h,λh=>absurd hk h,λh=>absurd hk h,heq⟩
  · have h2:WC P t i.k=true∧szO P t=some i.sz∧rE P t=some i.bytes∧(match iE P t with
        |some z=>plain z&&z.cells.size == i.sz&&(z.cells.toList.all λc=>plain c&&okCell c)&&XK (z.cells.toList.map jF) i.z
        |none=>false)=true:=by
      split at h
      · rename_i e;exact absurd e hk
      · simp only[Z7,decide_eq_true_eq]at h
        exact⟨h.1.1.1,h.1.1.2,h.1.2,h.2⟩
    obtain⟨h1,h2,h3,h4⟩:=h2;refine⟨?_,λ_=>h2,λ_=>h3,λ_=> ?_,heq⟩
    · unfold WC at h1
      cases hq:i.k<;>rw[hq]at h1<;>dsimp only at h1 ⊢
      all_goals first
        |trivial
        | (split at h1
           · rename_i hu
             first
               |(simp only[decide_eq_true_eq]at h1;subst h1;exact hu)
               |exact hu
               |exact⟨_,hu⟩
               |exact⟨_,_,_,hu⟩
               |(simp only[beq_iff_eq]at h1;subst h1;exact hu)
               |(simp only[Z7,beq_iff_eq]at h1;obtain⟨rfl,rfl⟩:=h1;exact hu)
               |(simp only[decide_eq_true_eq]at h1;exact⟨_,hu,h1⟩)
           · cases h1)
    · split at h4
      · rename_i z hz
        simp only[Z7,beq_iff_eq,Z2]at h4;refine⟨z,hz,h4.1.1.1,QQ h4.2,h4.1.1.2,λc hc=> ?_⟩;have:=h4.1.2 c hc;exact this
      · cases h4
theorem A0:∀(l:List (List TyI))(n:Nat),l.length<=n->KU l n=[]
 |[],_,_=>rfl
 |_::_,0,h=>by simp at h
 |_::l,n+1,h=>A0 l n (by simpa using h)
theorem ac9:(List.range (16*Eg.length)).all (λt=>tyB Y.X.P t (Y.ty t))=true:=aJ
section
variable{F:Nat->Prop}{H:AH}
theorem zP:∀{l:LdQ}{xs:LvQ},lits l=some xs->(∀v∈xs,okZ v)∧∀ws,RDs F H l ws->ws=xs
 | [],xs,h=>by
  simp only[lits,Z9]at h;subst h;exact⟨λv hv=>(by cases hv),λws hw=>by simpa only[RDs]using hw⟩
 | x::l,xs,h=>by
  unfold lits at h;split at h
  .rename_i k n r hr;simp only[Z9]at h;subst h;obtain⟨q1,q2⟩:=zP hr;refine⟨λv hv=>?_,λws hw=>?_⟩
   .rcases Zw.1 hv with rfl|hv
    .exact⟨rfl,rfl⟩
    .exact q1 v hv
   .simp only[RDs,RD]at hw;obtain⟨v,us,rfl,rfl,h2⟩:=hw;rw[q2 us h2]
  .rename_i s r hr;simp only[Z9]at h;subst h;obtain⟨q1,q2⟩:=zP hr;refine⟨λv hv=>?_,λws hw=>?_⟩
   .rcases Zw.1 hv with rfl|hv
    .exact⟨rfl,rfl⟩
    .exact q1 v hv
   .simp only[RDs,RD]at hw;obtain⟨v,us,rfl,rfl,h2⟩:=hw;rw[q2 us h2]
  .cases h
theorem Uh{k:Nat}{xs:LvQ}(h:slD p=some (k,l))(hl:lits l=some xs)(hk:xs.length=k)(hw:RD F H p w):np H 1 w=some (k,xs):=by
 obtain⟨q1,q2⟩:=zP (F:=F) (H:=H) hl;unfold slD at h;split at h
 .rename_i n l';simp only[Z9,Z5]at h;obtain⟨rfl,rfl⟩:=h;simp only[RD]at hw;rcases hw with⟨rfl,rfl,h3⟩|⟨c,o,cap,vs,m,rfl,h1,h2,h3,h4,h5,h6,h7,h8⟩
  .simp only[lits,Z9]at hl;subst hl;rcases h3 with rfl|⟨c,o,cap,rfl,_⟩
   .rfl
   .simp[np]
  .have e:=q2 vs h7;subst e
   have hl:l'.length=n:=by
    rw[<-hk,R6 h6]
   simp only[np,Ya];rw[if_neg aa,<-hl,h6];simp
 .simp only[Z9,Z5]at h;obtain⟨rfl,rfl⟩:=h;simp only[lits,Z9]at hl;subst hl;simp only[RD]at hw;obtain⟨rfl,_⟩:=hw;rfl
 .cases h
theorem Ug{k:Nat}(h:slD p=some (k,l))(hw:RD F H p w):Om w=true:=by
 unfold slD at h;split at h
 .rename_i n l';simp only[RD]at hw;rcases hw with⟨_,_,h3⟩|⟨c,o,cap,vs,m,rfl,_⟩
  .rcases h3 with rfl|⟨c,o,cap,rfl,_⟩<;>rfl
  .rfl
 .simp only[RD]at hw;obtain⟨rfl,_⟩:=hw;rfl
 .cases h
theorem Dj{q:D}{xs:List LvQ}(h:Rl p q=some xs):(∀z∈xs,∀v∈z,okZ v)∧∀v w,RD F H p v->RD F H q w->Nu H v w=some xs:=by
 unfold Rl at h;split at h
 case h_2=>cases h
 rename_i k l k' m hp hq;split at h
 case h_2=>cases h
 rename_i us vs hl hm;split at h
 case isFalse=>cases h
 rename_i hc;simp only[Z9]at h;subst h;have o1:=(zP (F:=F) (H:=H) hl).1;have o2:=(zP (F:=F) (H:=H) hm).1;refine⟨λz hz v hv=>?_,λv w hv hw=>?_⟩
 .obtain⟨⟨a,b⟩,hab,rfl⟩:=Zx.1 hz;have:=List.of_mem_zip hab;simp only[Zw,Yo,or_false]at hv;rcases hv with rfl|rfl
  .exact o1 _ this.1
  .exact o2 _ this.2
 .unfold Nu;rw[Uh hp hl hc.2.1 hv,Uh hq hm (hc.2.2.1.trans hc.1) hw];have c1:(us.all λv=>plain v&&okCell v)=true:=Z2.2 λx hx=>by have:=o1 x hx;simp[this.1,this.2]
  have c2:(vs.all λv=>plain v&&okCell v)=true:=Z2.2 λx hx=>by have:=o2 x hx;simp[this.1,this.2]
  exact if_pos ⟨hc.1,hc.2.1,hc.2.2.1,hc.2.2.2,by rw[Ug hp hv,Ug hq hw];rfl,c1,c2⟩
end
theorem yOk:YOk Y where
 seq gf cs xs h0:=by
  have h:adl gf cs=some xs:=h0;clear h0;unfold adl at h;split at h
  .rename_i hg;split at h
   .rename_i p q d;refine⟨(Dj (F:=λ_=>True) (H:=⟨0,[]⟩) h).1,λφ F H hp lb hr=>?_⟩;simp only[RVs,RV]at hr;obtain⟨v,_,rfl,⟨c,o,vs,rfl,hF,hrd,hd⟩,rfl⟩:=hr;simp only[RDs]at hd;obtain⟨v1,_,rfl,d1,v2,_,rfl,d2,v3,_,rfl,d3,rfl⟩:=hd;rw[show([p,q,d]:LdQ).length=3 from rfl]at hrd;refine⟨?_,λF' H' hl=>?_⟩
    .rw[show Y.X.seq=I9 from rfl];unfold I9;rw[hg];simp only[Nat.add_zero];rw[hrd];exact(Dj h).2 _ _ d1 d2
    .rw[show Y.X.seqK=Lo from rfl];simp only[Lo,Nat.add_zero];rw[nE (hl.keep c hF)]
   .cases h
  .rename_i hg;split at h
   .rename_i hg2;split at h
    .rename_i p q;refine⟨(Dj (F:=λ_=>True) (H:=⟨0,[]⟩) h).1,λφ F H hp lb hr=>?_⟩;simp only[RVs,RV]at hr;obtain⟨v,_,rfl,⟨c,o,vs,rfl,hF,hrd,hd⟩,v',_,rfl,⟨c',o',vs',rfl,hF',hrd',hd'⟩,rfl⟩:=hr;simp only[RDs]at hd hd';obtain⟨v1,_,rfl,d1,rfl⟩:=hd;obtain⟨v2,_,rfl,d2,rfl⟩:=hd';rw[show([p]:LdQ).length=1 from rfl]at hrd;rw[show([q]:LdQ).length=1 from rfl]at hrd'
     refine⟨?_,λF' H' hl=>?_⟩
     .rw[show Y.X.seq=I9 from rfl];unfold I9;rw[hg,hg2];simp only[Nat.add_zero];rw[hrd,hrd'];exact(Dj h).2 _ _ d1 d2
     .rw[show Y.X.seqK=Lo from rfl];simp only[Lo,Nat.add_zero];rw[nE (hl.keep c hF),nE (hl.keep c' hF')]
    .cases h
   .cases h
 ty t:=by
  by_cases ht:t<16*Eg.length
  .exact Pd (Z2.1 ac9 t (Wx.2 ht))
  .refine Pd ?_
   have:(Y.ty t).k=.o:=by
    show(Rx (KU Eg (t/16)) (t%16)).k=.o
    have h2:∀t n:Nat,¬t<16*n->n<=t/16:=λt n hn=>by omega
    rw[A0 Eg (t/16) (h2 t _ ht)];rfl
   have h2:(Y.ty t).eq=false:=by
    show(Rx (KU Eg (t/16)) (t%16)).eq=false
    have h2:∀t n:Nat,¬t<16*n->n<=t/16:=λt n hn=>by omega
    rw[A0 Eg (t/16) (h2 t _ ht)];rfl
   unfold tyB;rw[this,h2];rfl
theorem acQ{o:Option V}{k k':V->Prop}(h1:x=bnd o k)(h:∀v,k v=k' v):x=bnd o k':=by rw[h1,funext h]
theorem acD{o:V}{i:Nat}{k k':V->Prop}(h1:x=ext o i k)(h:∀v,k v=k' v):x=ext o i k':=by rw[h1,funext h]
theorem Vx{op:BinOp}{k k':V->Prop}(h1:x=uX h0 op a b k)(h:∀v,k v=k' v):x=uX h0 op a b k':=by rw[h1,funext h]
theorem vE(h1:x=T k)(h:∀v h,k v h=k' v h):x=T k':=by rw[h1,show k=k' from funext λv=>funext λy=>h v y]
theorem acM{C:vB}{a:LwQ}(h1:x=cal C h0 f a k)(h:∀v h,k v h=k' v h):x=cal C h0 f a k':=vE h1 h
theorem acN{C:ta}{a:LwQ}(h1:x=cai C h0 f a s k)(h:∀v h,k v h=k' v h):x=cai C h0 f a s k':=vE h1 h
theorem acT{cs:LwQ}(h1:x=alV s cs h0 k)(h:∀v h,k v h=k' v h):x=alV s cs h0 k':=vE h1 h
theorem acV{cs:LdQ}(h1:x=alD s n cs h0 k)(h:∀v h,k v h=k' v h):x=alD s n cs h0 k':=vE h1 h
theorem YW(h1:x=fj s v0 h0 k)(h:∀v h,k v h=k' v h):x=fj s v0 h0 k':=vE h1 h
theorem VX(h1:x=cY n z ps h0 k)(h:∀v h,k v h=k' v h):x=cY n z ps h0 k':=vE h1 h
theorem VV(h1:x=uv s n z ps h0 k)(h:∀v h,k v h=k' v h):x=uv s n z ps h0 k':=vE h1 h
theorem acx(h1:x=mkS s n z h0 a b k)(h:∀v h,k v h=k' v h):x=mkS s n z h0 a b k':=vE h1 h
theorem acm(h1:x=stD h0 n a b k)(h:∀v h,k v h=k' v h):x=stD h0 n a b k':=vE h1 h
theorem acS(h1:x=apV dr s n m a b h0 k)(h:∀v h,k v h=k' v h):x=apV dr s n m a b h0 k':=vE h1 h
theorem af3(h1:x=apZ dr s n m z a b h0 k)(h:∀v h,k v h=k' v h):x=apZ dr s n m z a b h0 k':=vE h1 h
theorem afN{w:Bool}(h1:x=gd c w h0 T k)(h:∀v h,k v h=k' v h):x=gd c w h0 T k':=vE h1 h
theorem acJ{A A' B B':Prop}(h1:x=cnd c A B)(ha:A=A')(hb:B=B'):x=cnd c A' B':=by rw[h1,ha,hb]
theorem afG{k k':LwQ->Hp->Prop}{T T':(LwQ->Hp->Prop)->Prop}(h1:x=jn k T)(hk:∀l h,k l h=k' l h)(hT:∀q,T q=T' q):x=jn k' T':=by rw[h1,show k=k' from funext λv=>funext λy=>hk v y,show T=T' from funext hT]
theorem afs{s s':aP}{clr:LnQ}{h2:Hp}{l:LwQ}{k k':KL}(h1:x=lp s clr h0 l h2 k)(hs:∀l h q,s l h q=s' l h q)(hk:∀ex l h,k ex l h=k' ex l h):x=lp s' clr h0 l h2 k':=by rw[h1,show s=s' from funext λa=>funext λb=>funext λc=>hs a b c,show k=k' from funext λa=>funext λb=>funext λc=>hk a b c]
theorem acG{e ex:Exit}{q q':LwQ->Hp->Prop}{r r':List (Exit×(LwQ->Hp->Prop))}{l:LwQ}(h1:x=exK ((e,q)::r) ex l h)(hq:∀l h,q l h=q' l h)(hr:exK r ex l h=exK r' ex l h):x=exK ((e,q')::r') ex l h:=by
 rw[h1,show q=q' from funext λv=>funext λy=>hq v y];simp only[exK];split
 .rfl
 .exact hr
theorem V2{y:Prop}{k:V->Prop}(h1:x=bnd (some v) k)(h2:k v=y):x=y:=h1.trans h2
noncomputable def gl(g:Nat):V:=match Y.glob g with
 |some cs=>.dptr cs 0
 |none=>.junk
end Go.Vm
