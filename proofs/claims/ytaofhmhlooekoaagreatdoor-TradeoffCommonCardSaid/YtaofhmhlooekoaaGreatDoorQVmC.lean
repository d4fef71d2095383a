/- Lemmas. -/
import Derived.Test.YtaofhmhlooekoaaGreatDoorQVmB
set_option linter.unusedVariables false
set_option linter.unusedSimpArgs false
namespace Go.Vm
open Go Go.Am
variable{p:Prop}{k:IntKind}{n i:Int}{j a b:Nat}{C:vJ}{args ds:LwQ}
@[simp]theorem yG(v:V)(k:V->Prop):bnd (some v) k=k v:=rfl
theorem SN[Decidable p](hp:p)(x y:V):jD (.d (.bool (decide p))) x y=some x:=by simp[jD,hp]
theorem V4[Decidable p](hp:¬p)(x y:V):jD (.d (.bool (decide p))) x y=some y:=by simp[jD,hp]
@[simp low]theorem acl(b:Bool)(x y:V):jD (.d (.bool b)) x y=some (if b=true then x else y):=by cases b<;>rfl
@[simp]theorem afc(l:LwQ)(i:Nat)(k:V->Prop):ext (.tup l) i k=bnd l[i]? k:=rfl
theorem Kc{k:LwQ->Hp->Prop}{T:(LwQ->Hp->Prop)->Prop}{l:LwQ}{h:Hp}(hT:∀q,T q=q l h):jn k T=k l h:=hT k
@[simp]theorem Oh(x:V)(l:LwQ):ge (x::l) 0=x:=rfl
@[simp]theorem ae8(x:V)(l:LwQ)(n:Nat):ge (x::l) (n+1)=ge l n:=rfl
@[simp]theorem agn(x y:V)(l:LwQ):ge (x::y::l) 1=y:=rfl
@[simp]theorem agm(x y z:V)(l:LwQ):ge (x::y::z::l) 2=z:=rfl
@[simp]theorem adY(x y z u:V)(l:LwQ):ge (x::y::z::u::l) 3=u:=rfl
@[simp] theorem kz (i:Nat)(q:LwQ->Hp->Prop)(r:List (Exit×(LwQ->Hp->Prop)))(l:LwQ)(h:Hp):exK ((.exit i,q)::r) (.exit i) l h=q l h:=by simp only[exK,Un,Xv]
@[simp]theorem BX(q:LwQ->Hp->Prop)(r:List (Exit×(LwQ->Hp->Prop)))(l:LwQ)(h:Hp):exK ((.ret,q)::r) .ret l h=q l h:=rfl
@[simp]theorem yy(i:Nat)(p:LwQ->Hp->Prop)(r:List (Exit×(LwQ->Hp->Prop)))(l:LwQ)(h:Hp):exK ((.exit i,p)::r) .ret l h=exK r .ret l h:=rfl
theorem ak{step:aS}{clr:LnQ}{h0:Hp}{l:LwQ}{h:Hp}{k:KL}(hs:step l h (lpK clr h0 (fun l h=>lp step clr h0 l h k) k)):lp step clr h0 l h k:=by
 intro I hI;refine hI l h ⟨_,hs,fun ex l' h' hq=>?_⟩;cases ex
 case normal=>exact⟨hq.1,hq.2 I hI⟩
 all_goals exact hq
@[simp]theorem abl(clr:LnQ)(h0:Hp)(I:LwQ->Hp->Prop)(k:KL)(l:LwQ)(h:Hp):lpK clr h0 I k .normal l h=(clean clr l h=true∧I l (aL clr 0 h0 h)):=rfl
@[simp]theorem adD(clr:LnQ)(h0:Hp)(I:LwQ->Hp->Prop)(k:KL)(i:Nat)(l:LwQ)(h:Hp):lpK clr h0 I k (.exit i) l h=k (.exit i) l h:=rfl
@[simp]theorem ae1(clr:LnQ)(h0:Hp)(I:LwQ->Hp->Prop)(k:KL)(l:LwQ)(h:Hp):lpK clr h0 I k .ret l h=k .ret l h:=rfl
theorem FY:∀l:LwQ,gW [] l=true:=by
 intro l
 have key:∀x:V,oA [] x=true:=by
  intro x
  induction x using V.rec (motive_2:=fun l=>gW [] l=true)with
  |agg l ih=>trivial
  |tup l ih=>trivial
  |fn g a b iha ihb=>grind[oA]
  |ifc t x ih=>trivial
  |nil=>rfl
  |cons x l ih ihl=>grind[gW]
  |_=>rfl
 induction l with
 |nil=>rfl
 |cons x l ih=>grind[gW]
theorem JG:∀(h:Hp)(i:Nat),oU [] i h=true
 |[],_=>rfl
 | (_,b)::h,i=>by
  simp only[oU,JG h,Yg,Yb,Zb];right;cases b<;>simp[offB,FY]
@[simp]theorem clean_nil(l:LwQ)(h:Hp):clean [] l h=true:=by simp[clean,FY,JG]
theorem FR:∀(i:Nat)(h0 h:Hp),h.length=h0.length->aL [] i h0 h=h
 |_,[],h,_=>by cases h<;>rfl
 |_,_::_,[],_=>rfl
 | i,(e0,b0)::h0,(e,b)::h,hl=>by
  simp only[aL,gG,if_true];rw[FR (i+1) h0 h (by grind)]
theorem wrap_i64(h : -9223372036854775808<=n∧n<=9223372036854775807):IntKind.wrap .i64 n=n:=by
 have e1:(2:Int)^64=18446744073709551616:=ae;have e2:(2:Int)^(64-1)=9223372036854775808:=ae
 grind[IntKind.wrap,IntKind.bits,IntKind.signed]
theorem Lb(hk:k.signed=false)(h:0<=n∧n<2^k.bits):k.wrap n=n:=by grind[IntKind.wrap,Int.emod_eq_of_lt]
theorem wrap_u64(h:0<=n∧n<18446744073709551616):IntKind.wrap .u64 n=n:=Lb rfl h
theorem wrap_u32(h:0<=n∧n<4294967296):IntKind.wrap .u32 n=n:=Lb rfl h
theorem Fs(n:Int):IntKind.wrap .u64 n=n%18446744073709551616:=by rfl
@[simp]theorem afo(k:IntKind)(a b:Int):biI .lss (.d (.int k a)) (.d (.int k b))=some (.d (.bool (decide (a<b)))):=by simp[biI,ik,mI,iS]
@[simp]theorem afp(k:IntKind)(a b:Int):biI .leq (.d (.int k a)) (.d (.int k b))=some (.d (.bool (decide (a<=b)))):=by simp[biI,ik,mI,iS]
@[simp]theorem afq(k:IntKind)(a b:Int):biI .gtr (.d (.int k a)) (.d (.int k b))=some (.d (.bool (decide (b<a)))):=by simp[biI,ik,mI,iS]
@[simp]theorem afr(k:IntKind)(a b:Int):biI .geq (.d (.int k a)) (.d (.int k b))=some (.d (.bool (decide (b<=a)))):=by simp[biI,ik,mI,iS]
@[simp]theorem afs(k:IntKind)(a b:Int):biI .eql (.d (.int k a)) (.d (.int k b))=some (.d (.bool (decide (a=b)))):=by simp[biI,ik,mI,iS];rfl
@[simp]theorem afn(k:IntKind)(a b:Int):biI .neq (.d (.int k a)) (.d (.int k b))=some (.d (.bool (decide (a≠b)))):=by simp[biI,ik,mI,iS];rfl
theorem yK(k:IntKind)(a b:Int):biI .add (.d (.int k a)) (.d (.int k b))=some (.d (.int k (k.wrap (a+b)))):=by simp[biI,ik,mI,iS]
theorem yH(k:IntKind)(a b:Int):biI .sub (.d (.int k a)) (.d (.int k b))=some (.d (.int k (k.wrap (a-b)))):=by simp[biI,ik,mI,iS]
theorem yJ(k:IntKind)(a b:Int):biI .mul (.d (.int k a)) (.d (.int k b))=some (.d (.int k (k.wrap (a*b)))):=by simp[biI,ik,mI,iS]
@[simp]theorem OH(k l:IntKind)(n:Int):cvI k (.d (.int l n))=some (.d (.int k (k.wrap n))):=rfl
@[simp]theorem afv(a b:Bool):biB .eql (.d (.bool a)) (.d (.bool b))=some (.d (.bool (a == b))):=rfl
@[simp]theorem afu(a b:Bool):biB .neq (.d (.bool a)) (.d (.bool b))=some (.d (.bool (a !=b))):=rfl
@[simp]theorem aeG(b:Bool):unV .not (.d (.bool b))=some (.d (.bool (!b))):=rfl
def lst{α:Type}(f:α->D)(l:List α):V:=.d (.sl l.length (l.map f))
section
variable{α:Type}(f:α->D)(l:List α)
@[simp]theorem adI:bf (lst f l)=some (I l.length):=rfl
theorem iC(h:Hp)(hj:i=j)(hl:j<l.length):ixV h 1 (lst f l) (.d (.int k i))=some (.dptr (l.map f) j):=by subst hj;simp only[ixV,lst];rw[if_pos ⟨aa,aa,af⟩];simp
theorem lY(h:Hp)(hl:j<l.length):ld1 h (.dptr (l.map f) j)=some (.d (f l[j])):=by simp[ld1,hl]
end
section
variable{α:Type}(f:α->D)(l:List α)
theorem El(d top:Nat):boV d top none=some d:=rfl
theorem vH{d top:Nat}(hi:i=j)(hj:j<=top):boV d top (some (.d (.int k i)))=some j:=by subst hi;simp only[boV];rw[if_pos ⟨aa,aa⟩];simp
theorem Rr{h:Hp}{lo hi:Option V}{i:Nat}(h0:0<l.length)(hj:boV l.length l.length hi=some j)(hi2:boV 0 j lo=some i)(hij:i<=j)(hjl:j<=l.length):slV h 1 (lst f l) lo hi=some (lst f ((l.drop i).take (j-i))):=by simp only[slV,lst,hj,hi2];rw[if_pos ⟨af,h0⟩];simp only[Ye,List.map_take,List.map_drop,Zr,Yt];rw[Yz aa]
theorem aaa{h:Hp}(h0:0<l.length)(hi:i=j)(hj:j<=l.length):slV h 1 (lst f l) none (some (I i))=some (lst f (l.take j)):=by rw[Rr f l h0 (vH hi hj) (El 0 j) (Yf _) hj];simp
theorem ac8{h:Hp}(h0:0<l.length)(hi:i=j)(hj:j<=l.length):slV h 1 (lst f l) (some (I i)) none=some (lst f (l.drop j)):=by rw[Rr f l h0 (El _ _) (vH hi hj) hj (Z7 _)];rw[Z1 af]
end
@[simp]theorem afM(h:Hp)(x:D):aJ h (.d x)=some (.d (norm x),h):=by rfl
@[simp]theorem adw(k:IntKind)(n:Int):norm (.int k n)=.int k n:=rfl
@[simp]theorem aco(b:Bool):norm (.bool b)=.bool b:=rfl
@[simp]theorem ads(s:LuQ):norm (.str s)=.str s:=rfl
@[simp]theorem aeX(n:Nat)(l:LdQ):norm (.sl n l)=.sl n l:=rfl
@[simp]theorem adv:norm (.pl (.slice none 0 0))=.sl 0 []:=rfl
@[simp]theorem I4{α:Type}(h:Hp)(f:α->D)(l:List α):aJ h (lst f l)=some (lst f l,h):=by rfl
@[simp]theorem ach(h:Hp):aw h []=some ([],h):=by rfl
theorem io{D:oQ}{h h':Hp}{f:FuncId}{args:LwQ}{v:V}{s:Nat}{k:kkQ}(hc:D f args h v h')(hk:k v h')(hn:∀n cells ex len cap,v≠.new n cells ex len cap)(hn2:∀n,v≠.cut n:=by simp)(hn3:∀n cells ex len cap y,v≠.tup [.new n cells ex len cap,.d y]:=by intro _ _ _ _ _ _ h;cases h)
  (hn4:∀n cells ex len cap,v≠.tup [.new n cells ex len cap]:=by intro _ _ _ _ _ h;cases h) (hn5:∀n cells ex len cap y,v≠.tup [.tup [.new n cells ex len cap],.d y]:=by intro _ _ _ _ _ _ h;cases h):cai D h (.fn f [] []) args s k:=by grind[cai]
theorem UZ{h h':Hp}{f:FuncId}{args:LwQ}{n len cap:Nat}{cells:LdQ}{y:D}{s e:Nat}{b:Bk}{ex:Bool}{k:kkQ}{DD:oQ}(hc:DD f args h (.tup [.new n cells ex len cap,.d y]) h')(hs:h'[s]?=some (e,b))
  (hk:k (.tup [.ref s (e+1) 0 len cap cells.length,.d y]) (h'.set s (e+1,.data n cells ex false))):cai DD h (.fn f [] []) args s k:=by grind[cai,new]
theorem fG{h h':Hp}{f:FuncId}{args:LwQ}{n len cap:Nat}{cells:LdQ}{s e:Nat}{b:Bk}{ex:Bool}{k:kkQ}{DD:oQ}(hc:DD f args h (.new n cells ex len cap) h')(hs:h'[s]?=some (e,b))
  (hk:k (.ref s (e+1) 0 len cap cells.length) (h'.set s (e+1,.data n cells ex false))):cai DD h (.fn f [] []) args s k:=by grind[cai,new]
theorem vG{h h':Hp}{f:FuncId}{v:V}{k:kkQ}(hs:aw h args=some (ds,h'))(hc:C f ds v)(hk:k v (if f9 v then h else h')):cal C h (.fn f [] []) args k:=by grind[cal]
theorem aen{h:Hp}{f:FuncId}{v:V}{k:kkQ}(hc:C f args v)(hs:aw h args=some (args,h))(hk:k v h):cal C h (.fn f [] []) args k:=
 vG hs hc (by grind)
theorem SR{x:D}{h:Hp}(hx:norm x=x):out (.d x) (.d x) h:=⟨h,by simp[hx]⟩
theorem Wb{α:Type}(f:α->D)(l:List α)(h:Hp):out (lst f l) (lst f l) h:=⟨h,af⟩
@[simp]theorem aeU(k:IntKind)(n:Int)(h:Hp):out (.d (.int k n)) (.d (.int k n)) h:=SR rfl
@[simp]theorem JD(b:Bool)(h:Hp):out (.d (.bool b)) (.d (.bool b)) h:=SR rfl
theorem G2{l:IntKind}(hb:b<=k.bits):biI .shr (.d (.int k a)) (.d (.int l b))=some (.d (.int k ((a/2^b:Nat):Int))):=by
 have h1:¬((b:Int)<0):=aa
 grind[biI,ik,mI,iS]
theorem wn(h:a+b<18446744073709551616):biI .add (.d (.int .u64 a)) (.d (.int .u64 b))=some (.d (.int .u64 ((a+b:Nat):Int))):=by rw[yK,wrap_u64 aa];simp
theorem BN(h:a*b<18446744073709551616):biI .mul (.d (.int .u64 a)) (.d (.int .u64 b))=some (.d (.int .u64 ((a*b:Nat):Int))):=by grind[yJ,wrap_u64]
theorem abR(h:a<18446744073709551616):cvI .u64 (.d (.int k a))=some (.d (.int .u64 a)):=by rw[OH,wrap_u64 aa]
section
variable{α:Type}{f:α->D}{l:List α}{h:Hp}{s e:Nat}{ex fr:Bool}
end
theorem Rn{α:Type}{f:α->D}{l:List α}{h:Hp}{s e:Nat}{ex fr:Bool}(hs:h[s]?=some (e,.data 1 (l.map f) ex fr)){n m tot:Nat}(hn:n=l.length)(hm:n<=m)(ht:tot=l.length):
  aJ h (.ref s e 0 n m tot)=some (lst f l,h.set s (e,.data 1 (l.map f) ex true)):=by subst hn;subst ht;simp only[aJ,toD,aC,hs,if_true,List.length_map];rw[if_pos ⟨trivial,hm,aa⟩];simp only[Yx,Ye,b6,lst];rw[Z1 af]
end Go.Vm
namespace Go.Big
variable{l a b o:LnQ}{i x n k m:Nat}
def val(B:Nat):LnQ->Nat
 |[]=>0
 |x::l=>x+B*val B l
def ir:LnQ->LnQ
 |[]=>[]
 | x::l=>match ir l with
  |[]=>if x=0 then[]else[x]
  |y::r=>x::y::r
def Bj(B:Nat):Nat->Nat->LnQ
 |0,_=>[]
 |f+1,n=>if n=0 then[]else n%B::Bj B f (n/B)
def dig(B n:Nat):LnQ:=Bj B n n
def aI(B:Nat)(l:LnQ):Prop:=∀x∈l,x<B
section
variable{B:Nat}
theorem val_append(a b:LnQ):val B (a++b)=val B a+B^a.length*val B b:=by
 induction a with
 |nil=>simp[val]
 |cons x a ih=>grind[val]
theorem jp(hB:0<B)(h:aI B l):val B l<B^l.length:=by
 induction l with
 |nil=>simp[val]
 | cons x l ih=>
  have h1:=ih fun y hy=>h y (by grind)
  have h2:=h x af;simp only[val,List.length_cons,Nat.pow_succ];have:B*(val B l+1)<=B*B^l.length:=Zw B h1
  grind
theorem aI.take{l:LnQ}(h:aI B l)(n:Nat):aI B (l.take n):=fun x hx=>h x (Ws hx)
theorem aI.drop{l:LnQ}(h:aI B l)(n:Nat):aI B (l.drop n):=fun x hx=>h x (List.mem_of_mem_drop hx)
theorem aI.get(h:aI B l)(hi:i<l.length):l[i]<B:=h _ (Yu hi)
theorem aI.append(ha:aI B a)(hb:aI B b):aI B (a++b):=fun x hx=>by
 rcases Yn.1 hx with h|h
 .exact ha x h
 .exact hb x h
theorem O5(l:LnQ):val B (ir l)=val B l:=by
 induction l with
 |nil=>rfl
 | cons x l ih=>
  grind[ir,val]
theorem IK(h:aI B l):aI B (ir l):=by
 induction l with
 |nil=>exact h
 | cons x l ih=>
  have h1:=ih fun y hy=>h y (by grind)
  have hx:=h x af;unfold ir;split
  .split
   .grind
   .intro y hy;grind
  .rename_i y r he;rw[he]at h1;intro z hz;rcases Zt.1 hz with rfl|hz
   .exact hx
   .exact h1 z hz
def yP(l:LnQ):Prop:=∀h:l≠[],l.getLast h≠0
theorem Lg(l:LnQ):yP (ir l):=by
 induction l with
 |nil=>intro h;trivial
 | cons x l ih=>
  unfold ir;split
  .split
   .grind
   .rename_i hx;intro h;trivial
  .rename_i y r he;rw[he]at ih;intro h;rw[List.getLast_cons af];exact ih af
theorem ED(h:yP l):ir l=l:=by
 induction l with
 |nil=>rfl
 | cons x l ih=>
  unfold ir;cases l with
  | nil=>
   have:=h af
   grind[ir]
  | cons y r=>
   have:yP (y::r):=fun hh=>by have:=h af;rwa [List.getLast_cons af]at this
   grind
theorem pN(l:LnQ):ir (l++[0])=ir l:=by
 induction l with
 |nil=>rfl
 |cons x l ih=>grind[ir]
theorem wX(h:x≠0):ir (l++[x])=l++[x]:=ED fun _=>by grind
theorem BY(hB:2<=B):∀(f n:Nat),n<=f->val B (Bj B f n)=n∧aI B (Bj B f n)∧yP (Bj B f n)
 | 0,n,h=>by
  have:n=0:=aa;subst this;exact⟨rfl,fun x hx=>by trivial,fun hx=>absurd rfl hx⟩
 | f+1,n,h=>by
  unfold Bj;split
  .rename_i h0;subst h0;exact⟨rfl,fun x hx=>by simp at hx,fun hx=>absurd rfl hx⟩
  .rename_i h0;have hlt:n/B<n:=Nat.div_lt_self aa aa;obtain⟨h1,h2,h3⟩:=BY hB f (n/B) aa;refine⟨?_,?_,?_⟩
   .grind[val,Xo]
   .intro x hx;rcases Zt.1 hx with rfl|hx
    .exact Y5 _ aa
    .exact h2 x hx
   .intro hne;by_cases hd:Bj B f (n/B)=[]
    .simp only[hd];rw[hd]at h1;simp only[val]at h1
     have:n<B:=by
      rcases Zl n B with h|h
      .exact h
      .have:=Wd h (by omega:0<B);omega
     grind[Ya]
    .rw[List.getLast_cons hd];exact h3 hd
theorem iv(hB:2<=B)(n:Nat):val B (dig B n)=n:=(BY hB n n (Z7 n)).1
theorem cD(hB:2<=B)(n:Nat):aI B (dig B n):=(BY hB n n (Z7 n)).2.1
theorem D9(hB:2<=B)(n:Nat):yP (dig B n):=(BY hB n n (Z7 n)).2.2
theorem vj(h:yP l)(hl:l≠[])(hB:0<B):val B l≠0:=by
 induction l with
 |nil=>trivial
 | cons x l ih=>
  cases l with
  |nil=>have:=h af;trivial
  | cons y r=>
   have hn:yP (y::r):=fun hh=>by have:=h af;rwa [List.getLast_cons af]at this
   have:=ih hn af;simp only[val]at this ⊢;have:=Yj hB (Nat.pos_of_ne_zero this);omega
theorem JJ(hB:0<B):∀{a b:LnQ},aI B a->aI B b->yP a->yP b->val B a=val B b->a=b
 |[],[],_,_,_,_,_=>rfl
 |[],y::b,_,_,_,hb,h=>absurd h.symm (vj hb af hB)
 |x::a,[],_,_,ha,_,h=>absurd h (vj ha af hB)
 | x::a,y::b,sa,sb,na,nb,h=>by
  have hx:=sa x af;have hy:=sb y af;simp only[val]at h
  have e1:x=y:=by
   have:=congrArg (· % B) h;simpa[Xe,Ya hx,Ya hy]using this
  subst e1;have e2:val B a=val B b:=Xy hB aa;have tl:∀{l:LnQ}{x:Nat},yP (x::l)->yP l:=fun{l x} h hl=>by have:=h af;grind
  rw[JJ hB (fun z hz=>sa z (by grind)) (fun z hz=>sb z (by grind)) (tl na) (tl nb) e2]
theorem qi(hB:2<=B)(h:aI B l):dig B (val B l)=ir l:=
 JJ aa (cD hB _) (IK h) (D9 hB _) (Lg l) (by rw[iv hB,O5])
theorem oI(hB:2<=B):(dig B n).length<=k↔n<B^k:=by
 have hv:=iv hB n;have hs:=jp aa (cD hB n);rw[hv]at hs;constructor
 .intro h;exact Z3 hs (Z5 aa h)
 .intro h;rcases Zl k (dig B n).length with hk|hk
  .exfalso;have hne:dig B n≠[]:=by intro e;rw[e]at hk;simp at hk
   have hdrop:val B ((dig B n).drop k)≠0:=by
    refine vj ?_ (by grind[List.drop_eq_nil_iff]) aa;intro hd;rw[List.getLast_drop];exact D9 hB n hne
   have:=val_append (B:=B) ((dig B n).take k) ((dig B n).drop k);rw[X8,hv,Zr,Yz aa]at this;have:=Zw (B^k) (Nat.pos_of_ne_zero hdrop);omega
  omega
def LV(a b:LnQ):Nat->Int
 |0=>0
 |i+1=>if a.getD i 0<b.getD i 0 then -1 else if b.getD i 0<a.getD i 0 then 1 else LV a b i
def cmp(a b:Nat):Int:=if a<b then -1 else if b<a then 1 else 0
theorem NN(hB:0<B){a b:LnQ}(ha:aI B a)(hb:aI B b):∀i,i<=a.length->i<=b.length->LV a b i=cmp (val B (a.take i)) (val B (b.take i))
 |0,_,_=>by rfl
 | i+1,h1,h2=>by
  have e:∀(l:LnQ)(h:i<l.length),val B (l.take (i+1))=val B (l.take i)+B^i*l[i]:=fun l h=>by
   rw[List.take_add_one,val_append,Zr,Yz aa]
   grind[val]
  have la:=jp hB (ha.take i);have lb:=jp hB (hb.take i);rw[Zr,Yz aa]at la lb;rw[LV,e a aa,e b aa,NN hB ha hb i aa aa];have ga:a.getD i 0=a[i]:=by simp[show i<a.length by omega]
  have gb:b.getD i 0=b[i]:=by simp[show i<b.length by omega]
  rw[ga,gb];generalize a[i]=x,b[i]=y at *;unfold cmp;rcases Nat.lt_trichotomy x y with h|h|h
  .rw[if_pos h];have:B^i*(x+1)<=B^i*y:=Zw _ h;rw[Zo]at this;rw[if_pos aa]
  .grind
  .rw[if_neg aa,if_pos h];have:B^i*(y+1)<=B^i*x:=Zw _ h;rw[Zo]at this;rw[if_neg aa,if_pos aa]
theorem H3(hB:2<=B)(h:(dig B m).length<(dig B n).length):m<n:=by
 have h1:m<B^(dig B m).length:=(oI hB).1 (Z7 _);rcases Zl n (B^(dig B m).length)with h2|h2
 .have:=(oI hB).2 h2;omega
 .omega
theorem pC(l:LnQ)(i:Nat):val B (l.drop i)=l.getD i 0+B*val B (l.drop (i+1)):=by
 by_cases h:i<l.length
 .grind[Yw,val]
 .rw[Y6 aa,Y6 aa];simp[val,List.getElem?_eq_none (by omega:l.length<=i)]
theorem aI.getD{l:LnQ}(h:aI B l)(hB:0<B)(i:Nat):l.getD i 0<B:=by
 by_cases hi:i<l.length
 .simp_all[get]
 .simp[List.getElem?_eq_none (by omega:l.length<=i),hB]
theorem IF(l:LnQ)(x:Nat):val B (l++[x])=val B l+B^l.length*x:=by simp[val_append,val]
theorem yV(n:Nat):val B (List.replicate n 0)=0:=by
 induction n with
 |zero=>rfl
 |succ n ih=>grind[val]
theorem aI.snoc(h:aI B l)(hx:x<B):aI B (l++[x]):=h.append fun y hy=>by grind
end
def HA(w:Nat):Nat->Nat->Nat->Nat->Option Nat
 |0,_,_,out=>some out
 | n+1,low,high,out=>
  if 2^(w+1)<=low*low/2^w then HA w n (low*low/2^w/2) (((if high*high/2^w*2^w=high*high then high*high/2^w else high*high/2^w+1)+1)/2) (out*2+1)
  else if 2^(w+1)<=(if high*high/2^w*2^w=high*high then high*high/2^w else high*high/2^w+1)then none
  else HA w n (low*low/2^w) (if high*high/2^w*2^w=high*high then high*high/2^w else high*high/2^w+1) (out*2)
theorem vK{B:Nat}:∀(l:LnQ)(j x:Nat),j<l.length->val B (l.set j x)+B^j*l.getD j 0=val B l+B^j*x
 |[],j,x,h=>by simp at h
 |y::l,0,x,h=>by simp[val];omega
 | y::l,j+1,x,h=>by
  have:=vK (B:=B) l j x (by simpa using h);simp only[List.set_cons_succ,val,List.getD_cons_succ,Nat.pow_succ];rw[Zq (B^j) B,Nat.mul_assoc,Nat.mul_assoc];generalize val B (l.set j x)=p at *;generalize B^j*l.getD j 0=q at *;generalize B^j*x=r at *;have h2:B*(p+q)=B*(val B l+r):=by rw[this]
  rw[Zo,Zo]at h2;omega
theorem aI.set{B:Nat}{l:LnQ}(h:aI B l){j x:Nat}(hx:x<B):aI B (l.set j x):=by
 intro y hy;rcases Yv hy with h1|h1
 .exact h y h1
 .subst h1;exact hx
theorem wO{B:Nat}(l:LnQ)(h:i<l.length):val B (l.take (i+1))=val B (l.take i)+B^i*l.getD i 0:=by rw[List.take_add_one,val_append,Zr,Yz aa];simp[List.getElem?_eq_getElem h,val]
theorem Ti{B:Nat}{j c a y v:Nat}(hj:j<o.length):
  val B (o.set j ((c+o.getD j 0+a*y)%B))+B^(j+1)*((c+o.getD j 0+a*y)/B+a*v)=val B o+B^j*(c+a*(y+B*v)):=by
 have h:=vK (B:=B) o j ((c+o.getD j 0+a*y)%B) hj;generalize val B (o.set j ((c+o.getD j 0+a*y)%B))=p at *;generalize o.getD j 0=w at *;have hd:=Xo (c+w+a*y) B;generalize(c+w+a*y)%B=r at *;generalize(c+w+a*y)/B=d at *;generalize val B o=q at *;generalize hP:B^j=P at *;rw[Nat.pow_succ,hP,Nat.mul_assoc]
 have e1:P*(B*(d+a*v))+P*r=P*(c+w+a*y)+P*(a*(B*v)):=by
  rw[<-Zo,<-Zo,<-hd,Zo B,Yy a B v];congr 1;omega
 have e2:P*(c+a*(y+B*v))+P*w=P*(c+w+a*y)+P*(a*(B*v)):=by
  rw[<-Zo,<-Zo,Zo a];congr 1;omega
 omega
end Go.Big
namespace Go.Vm
open Go Go.Am
abbrev am:TyI:=⟨.f,1,8,[.pl .nilFunc],false⟩
abbrev km:TyI:=⟨.o,1,0,[],false⟩
abbrev CQ:TyI:=⟨.p,1,8,[.pl (.pointer none)],false⟩
abbrev Ns:TyI:=⟨.i .i64,1,8,[.int .i64 0],false⟩
abbrev Nr:TyI:=⟨.i .u8,1,1,[.int .u8 0],false⟩
abbrev Nq:TyI:=⟨.s,1,16,[.str []],false⟩
abbrev RY:TyI:=⟨.i .u64,1,8,[.int .u64 0],false⟩
abbrev RX:TyI:=⟨.it,1,16,[.pl .nilIface],false⟩
abbrev RU:TyI:=⟨.i .i32,1,4,[.int .i32 0],false⟩
abbrev RS:TyI:=⟨.sl 3,1,24,[.pl (.slice none 0 0)],false⟩
abbrev Sm:TyI:=⟨.st [(0,1),(1,1),(2,1),(3,1)],4,24,[.int .i64 0,.int .i64 0,.bool false,.int .u8 0],false⟩
abbrev Sl:TyI:=⟨.st [(0,1),(1,1)],2,24,[.str [],.int .u64 0],false⟩
abbrev Sk:TyI:=⟨.st [(0,1)],1,8,[.pl (.pointer none)],false⟩
abbrev Sj:TyI:=⟨.ar 4 24,8,8,[.int .i8 0,.int .u8 0,.int .i8 0,.int .u8 0,.int .i8 0,.int .u8 0,.int .i8 0,.int .u8 0],false⟩
abbrev Si:TyI:=⟨.st [(0,8),(8,8),(16,1),(17,1),(18,1)],19,19,[.int .i8 0,.int .u8 0,.int .i8 0,.int .u8 0,.int .i8 0,.int .u8 0,.int .i8 0,.int .u8 0,.int .i8 0,.int .u8 0,.int .i8 0,.int .u8 0,.int .i8 0,.int .u8 0,.int .i8 0,.int .u8 0,.bool false,.bool false,.bool false],false⟩
abbrev Sf:TyI:=⟨.sl 52,1,24,[.pl (.slice none 0 0)],false⟩
abbrev Se:TyI:=⟨.st [(0,1),(1,1),(2,1),(3,1),(4,1)],5,56,[.pl (.slice none 0 0),.pl (.slice none 0 0),.bool false,.bool false,.bool false],false⟩
abbrev Sd:TyI:=⟨.sl 60,1,24,[.pl (.slice none 0 0)],false⟩
abbrev Sb:TyI:=⟨.st [(0,1),(1,1),(2,1)],3,72,[.pl (.slice none 0 0),.pl (.slice none 0 0),.pl (.slice none 0 0)],false⟩
abbrev Sa:TyI:=⟨.st [(0,2),(2,2),(4,1),(5,1),(6,1)],7,72,[.str [],.str [],.str [],.str [],.bool false,.bool false,.bool false],false⟩
abbrev R9:TyI:=⟨.st [(0,1),(1,1),(2,1)],3,56,[.int .i64 0,.pl (.slice none 0 0),.pl (.slice none 0 0)],false⟩
abbrev R8:TyI:=⟨.sl 50,1,24,[.pl (.slice none 0 0)],false⟩
abbrev R7:TyI:=⟨.st [(0,1),(1,1),(2,1)],3,64,[.pl (.slice none 0 0),.pl (.slice none 0 0),.str []],false⟩
abbrev R6:TyI:=⟨.st [(0,1),(1,1)],2,32,[.int .i64 0,.pl (.slice none 0 0)],false⟩
abbrev R5:TyI:=⟨.sl 165,1,24,[.pl (.slice none 0 0)],false⟩
abbrev R4:TyI:=⟨.sl 231,1,24,[.pl (.slice none 0 0)],false⟩
abbrev R3:TyI:=⟨.st [(0,1),(1,1),(2,1)],3,48,[.str [],.str [],.pl .nilIface],false⟩
abbrev R2:TyI:=⟨.st [(0,1),(1,1),(2,1),(3,1)],4,40,[.pl (.pointer none),.pl (.pointer none),.pl (.pointer none),.str []],false⟩
abbrev RZ:TyI:=⟨.st [(0,1),(1,1),(2,1),(3,1),(4,1),(5,1),(6,1),(7,1),(8,1),(9,1),(10,1)],11,48,[.int .u64 0,.int .u64 0,.int .u32 0,.int .u8 0,.int .u8 0,.int .u8 0,.int .u8 0,.pl .nilFunc,.pl (.pointer none),.int .i32 0,.int .i32 0],false⟩
abbrev slQ(n:Nat):TyI:=⟨.sl n,1,24,[.pl (.slice none 0 0)],false⟩
def afH:List TyI:=[
 km,am,Ns,Ns,⟨.b,1,1,[.bool false],false⟩,Nr,Nr,Sm,Sm,Nq,Nq,Nq,RY,Sl,Sl,CQ]
def afG:List TyI:=[
 CQ,CQ,Sk,Sk,RX,RU,⟨.i .i8,1,1,[.int .i8 0],false⟩,⟨.st [(0,1),(1,1)],2,2,[.int .i8 0,.int .u8 0],false⟩,⟨.st [(0,1),(1,1)],2,2,[.int .i8 0,.int .u8 0],true⟩,Sj,Sj,Si,Si,⟨.ar 2 28,38,38,[.int .i8 0,.int .u8 0,.int .i8 0,.int .u8 0,.int .i8 0,.int .u8 0,.int .i8 0,.int .u8 0,.int .i8 0,.int .u8 0,.int .i8 0,.int .u8 0,.int .i8 0,.int .u8 0,.int .i8 0,.int .u8 0,.bool false,.bool false,.bool false,.int .i8 0,.int .u8 0,.int .i8 0,.int .u8 0,.int .i8 0,.int .u8 0,.int .i8 0,.int .u8 0,.int .i8 0,.int .u8 0,.int .i8 0,.int .u8 0,.int .i8 0,.int .u8 0,.int .i8 0,.int .u8 0,.bool false,.bool false,.bool false],false⟩,am,RS]
def afF:List TyI:=[
 RS,am,Sf,Sf,Se,Se,am,Ns,km,am,am,am,slQ 35,slQ 37,km,am]
def afE:List TyI:=[
 am,am,Nq,⟨.st [(0,1),(1,1)],2,32,[.str [],.str []],false⟩,⟨.st [(0,1),(1,1)],2,32,[.str [],.str []],true⟩,am,am,Sd,Sd,Sb,Sb,am,RS,am,slQ 32,km]
def afD:List TyI:=[
 am,⟨.ar 2 37,10,112,[.pl (.slice none 0 0),.pl (.slice none 0 0),.bool false,.bool false,.bool false,.pl (.slice none 0 0),.pl (.slice none 0 0),.bool false,.bool false,.bool false],false⟩,am,am,⟨.ar 2 35,2,48,[.pl (.slice none 0 0),.pl (.slice none 0 0)],false⟩,⟨.ar 2 4,2,2,[.bool false,.bool false],false⟩,am,am,km,am,km,am,Sa,Sa,am,am]
def afC:List TyI:=[
 km,am,am,am,am,am,am,am,am,R9,R9,km,am,am,km,am]
def afB:List TyI:=[
 CQ,am,am,km,am,am,R8,R7,R7,am,am,am,am,am,am,am]
def afA:List TyI:=[
 am,am,am,am,am,am,km,am,am,am,km,am,am,am,am,am]
def afz:List TyI:=[
 km,am,am,km,am,am,am,am,RX,RX,km,am,am,km,am,am]
def afy:List TyI:=[
 am,km,am,am,am,am,am,am,am,am,R6,R6,am,km,am,am]
def acV:List TyI:=[
 am,am,am,km,am,RY,km,am,am,R5,R5,am,am,am,am,am]
def acT:List TyI:=[
 am,km,am,km,am,am,am,am,am,am,am,km,am,am,⟨.ar 24 5,24,24,List.replicate 24 (.int .u8 0),false⟩,am]
def acS:List TyI:=[
 am,slQ 5,km,am,am,am,R4,R4,am,am,am,am,am,am,Ns,km]
def acR:List TyI:=[
 am,RY,CQ,am,am,km,am,am,am,am,am,am,am,km,am,am]
def acQ:List TyI:=[
 am,⟨.ar 20 165,20,160,List.replicate 20 (.int .u64 0),false⟩,⟨.i .u32,1,4,[.int .u32 0],false⟩,⟨.ar 65 5,65,65,List.replicate 65 (.int .u8 0),false⟩,am,am,am,R8,am,am,am,am,am,am,am,R3]
def acO:List TyI:=[
 R3,am,am,am,am,am,am,am,CQ,CQ,⟨.st [(0,1)],1,16,[.str []],false⟩,⟨.st [(0,1)],1,16,[.str []],false⟩,⟨.ar 32 5,32,32,List.replicate 32 (.int .u8 0),false⟩,⟨.ar 64 5,64,64,List.replicate 64 (.int .u8 0),false⟩,am,am]
def acN:List TyI:=[
 am,R2,R2,⟨.ar 0 16,0,0,[],false⟩,⟨.st [(0,0)],0,0,[],false⟩,⟨.st [(0,0)],0,0,[],false⟩,Nr,Nr,am,RU,RU,RZ,RZ,am,⟨.o,1,8,[.pl (.pointer none)],false⟩,am]
def acL:List TyI:=[
 am,am]
def Cj:List (List TyI):=[afH,afG,afF,afE,afD,afC,afB,afA,afz,afy,acV,acT,acS,acR,acQ,acO,acN,acL]
def ab5:LnQ:=[0,1,197,198,199,200,201,202,203,204,205,206,207,208,209,210,211,212,213,214,215,216,217,218,219,220,221,222,223]
def nA:Nat:=0
namespace F
def dI:FuncId:=3
def gC:FuncId:=4
def ef:FuncId:=5
def fx:FuncId:=6
def js:FuncId:=7
def eH:FuncId:=8
def eB:FuncId:=9
def ew:FuncId:=10
def iQ:FuncId:=11
def ci:FuncId:=12
def fR:FuncId:=13
def dz:FuncId:=14
def eU:FuncId:=15
def dJ:FuncId:=16
def bY:FuncId:=17
def au:FuncId:=18
def eW:FuncId:=19
def jO:FuncId:=20
def dC:FuncId:=21
def dS:FuncId:=22
def ft:FuncId:=23
def eQ:FuncId:=24
def iP:FuncId:=25
def iH:FuncId:=26
def bj:FuncId:=27
def bE:FuncId:=28
def bF:FuncId:=29
def jN:FuncId:=30
def mR:FuncId:=31
def iK:FuncId:=32
def kX:FuncId:=33
def fA:FuncId:=34
def mZ:FuncId:=35
def dF:FuncId:=36
def mX:FuncId:=37
def kv:FuncId:=38
def gz:FuncId:=39
def jK:FuncId:=40
def fc:FuncId:=41
def fP:FuncId:=42
def mY:FuncId:=43
def kW:FuncId:=44
def pE:FuncId:=45
def jA:FuncId:=46
def fS:FuncId:=47
def gN:FuncId:=48
def mE:FuncId:=49
def cX:FuncId:=50
def bq:FuncId:=51
def strconv_Itoa:FuncId:=52
def lR:FuncId:=53
def im:FuncId:=54
def gU:FuncId:=55
def gr:FuncId:=56
def kK:FuncId:=57
def lS:FuncId:=58
def aR:FuncId:=59
def dp:FuncId:=60
def dU:FuncId:=61
def nZ:FuncId:=62
def o9:FuncId:=63
def fD:FuncId:=64
def m5:FuncId:=65
def oY:FuncId:=66
def aW:FuncId:=67
def nX:FuncId:=68
def k8:FuncId:=69
def gB:FuncId:=70
def ii:FuncId:=71
def mA:FuncId:=72
def nS:FuncId:=73
def gn:FuncId:=74
def lF:FuncId:=75
def kw:FuncId:=76
def fu:FuncId:=77
def oc:FuncId:=78
def cJ:FuncId:=79
def eV:FuncId:=80
def bD:FuncId:=81
def aQ:FuncId:=82
def bU:FuncId:=83
def jL:FuncId:=84
def fW:FuncId:=85
def cg:FuncId:=86
def o8:FuncId:=87
def mS:FuncId:=88
def iM:FuncId:=89
def og:FuncId:=90
def dT:FuncId:=91
def fX:FuncId:=92
def gQ:FuncId:=93
def fT:FuncId:=94
def fw:FuncId:=95
def qE:FuncId:=96
def jZ:FuncId:=97
def qk:FuncId:=98
def mN:FuncId:=99
def dw:FuncId:=100
def iL:FuncId:=101
def iT:FuncId:=102
def jS:FuncId:=103
def fM:FuncId:=104
def gy:FuncId:=105
def aZ:FuncId:=106
def mU:FuncId:=107
def pG:FuncId:=108
def xp:FuncId:=109
def AR:FuncId:=110
def strconv_Atoi:FuncId:=111
def fF:FuncId:=112
def jd:FuncId:=113
def cV:FuncId:=114
def bA:FuncId:=115
def aP:FuncId:=116
def aK:FuncId:=117
def ij:FuncId:=118
def nY:FuncId:=119
def cu:FuncId:=120
def cU:FuncId:=121
def dE:FuncId:=122
def cI:FuncId:=123
def aE:FuncId:=124
def dy:FuncId:=125
def qq:FuncId:=126
def cR:FuncId:=127
def kM:FuncId:=128
def size_digits:FuncId:=129
def ig:FuncId:=130
def il:FuncId:=131
def du:FuncId:=132
def bL:FuncId:=133
def pL:FuncId:=134
def lN:FuncId:=135
def ky:FuncId:=136
def lu:FuncId:=137
def cT:FuncId:=138
def ek:FuncId:=139
def az:FuncId:=140
def pd:FuncId:=141
def d9:FuncId:=142
def bP:FuncId:=143
def aY:FuncId:=144
def gM:FuncId:=150
def iN:FuncId:=151
def gA:FuncId:=152
def bO:FuncId:=153
def aX:FuncId:=154
def aO:FuncId:=155
def iY:FuncId:=156
def bZ:FuncId:=157
def jQ:FuncId:=158
def fU:FuncId:=159
def iO:FuncId:=160
def fN:FuncId:=161
def eO:FuncId:=162
def fO:FuncId:=163
def mV:FuncId:=166
def nV:FuncId:=167
def kx:FuncId:=168
def fC:FuncId:=169
def jR:FuncId:=170
def cw:FuncId:=171
def cj:FuncId:=172
def gE:FuncId:=173
def fv:FuncId:=178
def dQ:FuncId:=179
def bz:FuncId:=180
def t6:FuncId:=181
def m7:FuncId:=182
def nU:FuncId:=185
def lO:FuncId:=186
def aU:FuncId:=187
def eD:FuncId:=188
def eC:FuncId:=189
def eu:FuncId:=190
def gZ:FuncId:=191
def iU:FuncId:=192
def cQ:FuncId:=193
def ql:FuncId:=194
def cC:FuncId:=195
def dO:FuncId:=196
def tf:FuncId:=cR
end F
end Go.Vm
namespace Go.Vm
open Go Go.Am
noncomputable section
def O9:List TyI->Nat->TyI
 |[],_=>⟨.o,0,0,[],false⟩
 |x::_,0=>x
 |_::l,n+1=>O9 l n
def IM:List (List TyI)->Nat->List TyI
 |[],_=>[]
 |x::_,0=>x
 |_::l,n+1=>IM l n
def oV:Nat->LuQ->Nat
 |a,[]=>a
 |a,c::l=>oV (a*10+(c.toNat-48)) l
def nP(c:UInt8):Bool:=Nat.ble 48 c.toNat&&Nat.ble c.toNat 57
def Jy:LvQ->Option Value
 |[.string s,.int .i64 a,.int .i64 b]=>if a=10∧b=64∧s.data.toList≠[]∧s.data.toList.all nP=true∧s.data.toList.length<=1000∧oV 0 s.data.toList<10000000000000000000 then some (.tuple #[.int .u64 (oV 0 s.data.toList),.nilIface])else none
 |_=>none
def NK:LvQ->Option Value
 | [.string s,.int .i64 a,.int .i64 b]=>if a=10∧b=64 then(match s.data.toList with
  |45::l=>if l≠[]∧l.all nP=true∧l.length<=1000∧oV 0 l<9223372036854775808 then some (.tuple #[.int .i64 (-(oV 0 l:Int)),.nilIface])else none
  |l=>if l≠[]∧l.all nP=true∧l.length<=1000∧oV 0 l<9223372036854775808 then some (.tuple #[.int .i64 (oV 0 l),.nilIface])else none)else none
 |_=>none
def Mk:Value->Bool
 |.slice ..=>true
 |_=>false
def K6(H:AH)(p q:Value):Option (List LvQ):=match mC H 1 p,mC H 1 q with
 |some (k,xs),some (k',ys)=>if k=k'∧xs.length=k∧ys.length=k∧k<4611686018427387904∧(Mk p&&Mk q)=true∧(xs.all fun v=>plain v&&okCell v)=true∧(ys.all fun v=>plain v&&okCell v)=true then some ((xs.zip ys).map fun x=>[x.1,x.2])else none
 |_,_=>none
def G6(f:FuncId)(lb:LvQ)(H:AH):Option (List LvQ):=match Nat.beq f F.cR with
 | true=>match lb with
  | [.pointer (some ⟨b,o,none⟩)]=>match b9 H b o 3 with
   |some [p,q,_]=>K6 H p q
   |_=>none
  |_=>none
 | false=>match Nat.beq f F.tf with
  | true=>match lb with
   | [.pointer (some ⟨b,o,none⟩),.pointer (some ⟨b',o',none⟩)]=>match b9 H b o 1,b9 H b' o' 1 with
    |some [p],some [q]=>K6 H p q
    |_,_=>none
   |_=>none
  |false=>none
def Ji(f:FuncId)(lb:LvQ)(H:AH):LvQ:=match lb with
 |[.pointer (some ⟨b,o,none⟩)]=>(b9 H b o 3).getD []
 |[.pointer (some ⟨b,o,none⟩),.pointer (some ⟨b',o',none⟩)]=>(b9 H b o 1).getD []++(b9 H b' o' 1).getD []
 |_=>[]
def lits:LdQ->Option LvQ
 |[]=>some []
 | x::l=>match x,lits l with
  |.int k n,some r=>some (.int k n::r)
  |.str s,some r=>some (.string ⟨⟨s⟩⟩::r)
  |_,_=>none
def slD:D->Option (Nat×LdQ)
 |.sl n l=>some (n,l)
 |.pl (.slice none 0 0)=>some (0,[])
 |_=>none
def OZ(p q:D):Option (List LvQ):=match slD p,slD q with
 | some (k,l),some (k',m)=>match lits l,lits m with
  |some xs,some ys=>if k=k'∧xs.length=k∧ys.length=k∧k<4611686018427387904 then some ((xs.zip ys).map fun x=>[x.1,x.2])else none
  |_,_=>none
 |_,_=>none
def aaX(f:FuncId)(cs:LwQ):Option (List LvQ):=match Nat.beq f F.cR with
 | true=>match cs with
  |[.dptr [p,q,_] 0]=>OZ p q
  |_=>none
 | false=>match Nat.beq f F.tf with
  | true=>match cs with
   |[.dptr [p] 0,.dptr [q] 0]=>OZ p q
   |_=>none
  |false=>none
def X:Cfg:={P:=Go.Proofs.Tryz.prog,allow:=gG ab5,glob:=fun g=>Nat.beq g nA,orc:=fun f args=>(match Nat.beq f F.fv with
 |true=>Jy args
 | false=>match Nat.beq f F.eV with
  |true=>NK args
  |false=>none),seq:=G6,seqK:=Ji}
def JA:LdQ:=[.int .u64 1,.int .u64 10,.int .u64 100,.int .u64 1000,.int .u64 10000,.int .u64 100000,.int .u64 1000000,.int .u64 10000000,.int .u64 100000000,.int .u64 1000000000,.int .u64 10000000000,.int .u64 100000000000,
 .int .u64 1000000000000,.int .u64 10000000000000,.int .u64 100000000000000,.int .u64 1000000000000000,.int .u64 10000000000000000,.int .u64 100000000000000000,.int .u64 1000000000000000000,.int .u64 10000000000000000000]
def Y:kI:={X:=X,ty:=fun t=>O9 (IM Cj (t/16)) (t%16),glob:=fun g=>(match Nat.beq g nA with
 |true=>some JA
 |false=>none),seq:=aaX}
end
end Go.Vm
set_option maxRecDepth 100000
namespace Go.Vm
open Go Go.Am
variable{x:Prop}{y w:Value}{P:Program}{t:TypeId}{d p:D}{z l:LdQ}{k k':kkQ}{a b f v0 c v:V}{h0 h:Hp}{T:kkQ->Prop}{s n m:Nat}{ps:List (Nat×V)}{dr:Bool}
def abK:Value->Value->Bool
 |.pointer none,.pointer none=>true
 |.slice none a b,.slice none c d=>a == c&&b == d
 |.nilFunc,.nilFunc=>true
 |.nilIface,.nilIface=>true
 |.map none,.map none=>true
 |.chan none,.chan none=>true
 |_,_=>false
theorem YA{x:Value}(h:abK x y=true):x=y:=by unfold abK at h;split at h<;>first|rfl|(simp at h;obtain⟨rfl,rfl⟩:=h;rfl)|cases h
def abL:D->D->Bool
 |.int k a,.int l b=>decide (k=l)&&decide (a=b)
 |.bool a,.bool b=>a == b
 |.str a,.str b=>a == b
 |.pl a,.pl b=>abK a b
 |_,_=>false
theorem YB{x y:D}(h:abL x y=true):x=y:=by
 unfold abL at h;split at h
 .simp at h;obtain⟨rfl,rfl⟩:=h;rfl
 .simp at h;subst h;rfl
 .simp at h;subst h;rfl
 .rw[YA h]
 .cases h
def Ur:LdQ->LdQ->Bool
 |[],[]=>true
 |x::l,y::m=>abL x y&&Ur l m
 |_,_=>false
theorem Oy:∀{l m:LdQ},Ur l m=true->l=m
 |[],[],_=>rfl
 | x::l,y::m,h=>by
  simp only[Ur,Z8]at h;rw[YB h.1,Oy h.2]
 |[],_::_,h=>by cases h
 |_::_,[],h=>by cases h
def TU(P:Program)(t:TypeId)(k:Ty):Bool:=match k with
 |.i k=>match P.underlying t with|some (.int k')=>decide (k'=k)|_=>false
 |.b=>match P.underlying t with|some .bool=>true|_=>false
 |.s=>match P.underlying t with|some .string=>true|_=>false
 |.p=>match P.underlying t with|some (.pointer _)=>true|_=>false
 |.f=>match P.underlying t with|some (.func ..)=>true|_=>false
 |.it=>match P.underlying t with|some (.interface _)=>true|_=>false
 |.sl e=>match P.underlying t with|some (.slice e')=>e' == e|_=>false
 |.ar n e=>match P.underlying t with|some (.array n' e')=>n' == n&&e' == e|_=>false
 |.st fs=>match P.underlying t with|some (.struct gs)=>decide (gs.toList.map (fun f=>(f.offset,szO P f.type))=fs.map fun p=>(p.1,some p.2))|_=>false
 |.o=>true
def Mi(P:Program)(t:TypeId):D->Bool
 |.int _ _=>match P.underlying t with|some (.int _)=>true|_=>false
 |.bool _=>match P.underlying t with|some .bool=>true|_=>false
 |.str _=>match P.underlying t with|some .string=>true|_=>false
 |_=>false
theorem P5(h:Mi P t d=true):Od P t d:=by
 unfold Mi at h;split at h
 .split at h
  .rename_i hu;exact⟨_,hu⟩
  .cases h
 .split at h
  .rename_i hu;exact hu
  .cases h
 .split at h
  .rename_i hu;exact hu
  .cases h
 .cases h
def Ui(P:Program)(t:TypeId)(z:LdQ):Bool:=match P.underlying t with
 |some (.struct gs)=> !P.stoodInHeld t && !P.eqGuardType P.depth t&&decide (gs.size=z.length)&&(gs.toList.zipIdx.zip z).all fun x=>x.1.1.offset == x.1.2&&x.1.1.name != "_" && Mi P x.1.1.type x.2
 |_=>false
theorem Uh(h:Ui P t z=true):Io P t z:=by
 unfold Ui at h;split at h
 .rename_i gs hu;simp only[Z8,Zb,decide_eq_true_eq,Z2]at h;obtain⟨⟨⟨h1,h2⟩,h3⟩,h4⟩:=h;refine⟨gs,hu,h1,h2,h3,fun i f d hf hd=>?_⟩
  have:=h4 ((f,i),d) (by
   apply Xq (i:=i);rw[List.getElem?_zip_eq_some];exact⟨by rw[List.getElem?_zipIdx,hf];simp,hd⟩)
  simp only[beq_iff_eq,bne_iff_ne]at this;exact⟨this.1.1,this.1.2,P5 this.2⟩
 .cases h
def tyB(P:Program)(t:TypeId)(i:TyI):Bool:=(!i.eq||Ui P t i.z)&&match i.k with
 |.o=>true
 | k=>TU P t k&&decide (szO P t=some i.sz)&&decide (pT P t=some i.bytes)&&match ip P t with
  |some z=>plain z&&z.cells.size == i.sz&&(z.cells.toList.all fun c=>plain c&&okCell c)&&Ur (z.cells.toList.map iS) i.z
  |none=>false
theorem M0{i:TyI}(h:tyB P t i=true):Es P t i:=by
  unfold tyB at h;rw[Z8]at h;obtain⟨h0,h⟩:=h
  have heq:i.eq=true->Io P t i.z:=fun e=>by
    rw[e]at h0;exact Uh (by simpa using h0)
  by_cases hk:i.k = .o
  · exact⟨by rw[hk];trivial,fun h=>absurd hk h,fun h=>absurd hk h,fun h=>absurd hk h,heq⟩
  · have h2:TU P t i.k=true∧szO P t=some i.sz∧pT P t=some i.bytes∧(match ip P t with
        |some z=>plain z&&z.cells.size == i.sz&&(z.cells.toList.all fun c=>plain c&&okCell c)&&Ur (z.cells.toList.map iS) i.z
        |none=>false)=true:=by
      split at h
      · rename_i e;exact absurd e hk
      · simp only[Z8,decide_eq_true_eq]at h
        exact⟨h.1.1.1,h.1.1.2,h.1.2,h.2⟩
    obtain⟨h1,h2,h3,h4⟩:=h2;refine⟨?_,fun _=>h2,fun _=>h3,fun _=> ?_,heq⟩
    · unfold TU at h1
      cases hq:i.k<;>rw[hq]at h1<;>dsimp only at h1 ⊢
      all_goals first
        |trivial
        | (split at h1
           · rename_i hu
             first
               |(simp only[decide_eq_true_eq]at h1;subst h1;exact hu)
               |exact hu
               |exact⟨_,hu⟩
               |exact⟨_,_,_,hu⟩
               |(simp only[beq_iff_eq]at h1;subst h1;exact hu)
               |(simp only[Z8,beq_iff_eq]at h1;obtain⟨rfl,rfl⟩:=h1;exact hu)
               |(simp only[decide_eq_true_eq]at h1;exact⟨_,hu,h1⟩)
           · cases h1)
    · split at h4
      · rename_i z hz
        simp only[Z8,beq_iff_eq,Z2]at h4;refine⟨z,hz,h4.1.1.1,Oy h4.2,h4.1.1.2,fun c hc=> ?_⟩;have:=h4.1.2 c hc;exact this
      · cases h4
theorem za:∀(l:List (List TyI))(n:Nat),l.length<=n->IM l n=[]
 |[],_,_=>rfl
 |_::_,0,h=>by simp at h
 |_::l,n+1,h=>za l n (by simpa using h)
theorem aaN:(List.range (16*Cj.length)).all (fun t=>tyB Y.X.P t (Y.ty t))=true:=aD
section
variable{F:Nat->Prop}{H:AH}
theorem yb:∀{l:LdQ}{xs:LvQ},lits l=some xs->(∀v∈xs,okZ v)∧∀ws,RDs F H l ws->ws=xs
 | [],xs,h=>by
  simp only[lits,Z9]at h;subst h;exact⟨fun v hv=>(by cases hv),fun ws hw=>by simpa only[RDs]using hw⟩
 | x::l,xs,h=>by
  unfold lits at h;split at h
  .rename_i k n r hr;simp only[Z9]at h;subst h;obtain⟨q1,q2⟩:=yb hr;refine⟨fun v hv=>?_,fun ws hw=>?_⟩
   .rcases Zt.1 hv with rfl|hv
    .exact⟨rfl,rfl⟩
    .exact q1 v hv
   .simp only[RDs,RD]at hw;obtain⟨v,us,rfl,rfl,h2⟩:=hw;rw[q2 us h2]
  .rename_i s r hr;simp only[Z9]at h;subst h;obtain⟨q1,q2⟩:=yb hr;refine⟨fun v hv=>?_,fun ws hw=>?_⟩
   .rcases Zt.1 hv with rfl|hv
    .exact⟨rfl,rfl⟩
    .exact q1 v hv
   .simp only[RDs,RD]at hw;obtain⟨v,us,rfl,rfl,h2⟩:=hw;rw[q2 us h2]
  .cases h
theorem Rv{k:Nat}{xs:LvQ}(h:slD p=some (k,l))(hl:lits l=some xs)(hk:xs.length=k)(hw:RD F H p w):mC H 1 w=some (k,xs):=by
 obtain⟨q1,q2⟩:=yb (F:=F) (H:=H) hl;unfold slD at h;split at h
 .rename_i n l';simp only[Z9,Z6]at h;obtain⟨rfl,rfl⟩:=h;simp only[RD]at hw;rcases hw with⟨rfl,rfl,h3⟩|⟨c,o,cap,vs,m,rfl,h1,h2,h3,h4,h5,h6,h7,h8⟩
  .simp only[lits,Z9]at hl;subst hl;rcases h3 with rfl|⟨c,o,cap,rfl,_⟩
   .rfl
   .simp[mC]
  .have e:=q2 vs h7;subst e
   have hl:l'.length=n:=by
    rw[<-hk,PD h6]
   simp only[mC,Ye];rw[if_neg aa,<-hl,h6];simp
 .simp only[Z9,Z6]at h;obtain⟨rfl,rfl⟩:=h;simp only[lits,Z9]at hl;subst hl;simp only[RD]at hw;obtain⟨rfl,_⟩:=hw;rfl
 .cases h
theorem Ru{k:Nat}(h:slD p=some (k,l))(hw:RD F H p w):Mk w=true:=by
 unfold slD at h;split at h
 .rename_i n l';simp only[RD]at hw;rcases hw with⟨_,_,h3⟩|⟨c,o,cap,vs,m,rfl,_⟩
  .rcases h3 with rfl|⟨c,o,cap,rfl,_⟩<;>rfl
  .rfl
 .simp only[RD]at hw;obtain⟨rfl,_⟩:=hw;rfl
 .cases h
theorem Bw{q:D}{xs:List LvQ}(h:OZ p q=some xs):(∀z∈xs,∀v∈z,okZ v)∧∀v w,RD F H p v->RD F H q w->K6 H v w=some xs:=by
 unfold OZ at h;split at h
 case h_2=>cases h
 rename_i k l k' m hp hq;split at h
 case h_2=>cases h
 rename_i us vs hl hm;split at h
 case isFalse=>cases h
 rename_i hc;simp only[Z9]at h;subst h;have o1:=(yb (F:=F) (H:=H) hl).1;have o2:=(yb (F:=F) (H:=H) hm).1;refine⟨fun z hz v hv=>?_,fun v w hv hw=>?_⟩
 .obtain⟨⟨a,b⟩,hab,rfl⟩:=Zf.1 hz;have:=List.of_mem_zip hab;simp only[Zt,Y0,or_false]at hv;rcases hv with rfl|rfl
  .exact o1 _ this.1
  .exact o2 _ this.2
 .unfold K6;rw[Rv hp hl hc.2.1 hv,Rv hq hm (hc.2.2.1.trans hc.1) hw];have c1:(us.all fun v=>plain v&&okCell v)=true:=Z2.2 fun x hx=>by have:=o1 x hx;simp[this.1,this.2]
  have c2:(vs.all fun v=>plain v&&okCell v)=true:=Z2.2 fun x hx=>by have:=o2 x hx;simp[this.1,this.2]
  exact if_pos ⟨hc.1,hc.2.1,hc.2.2.1,hc.2.2.2,by rw[Ru hp hv,Ru hq hw];rfl,c1,c2⟩
end
theorem yOk:YOk Y where
 seq gf cs xs h0:=by
  have h:aaX gf cs=some xs:=h0;clear h0;unfold aaX at h;split at h
  .rename_i hg;split at h
   .rename_i p q d;refine⟨(Bw (F:=fun _=>True) (H:=⟨0,[]⟩) h).1,fun φ F H hp lb hr=>?_⟩;simp only[RVs,RV]at hr;obtain⟨v,_,rfl,⟨c,o,vs,rfl,hF,hrd,hd⟩,rfl⟩:=hr;simp only[RDs]at hd;obtain⟨v1,_,rfl,d1,v2,_,rfl,d2,v3,_,rfl,d3,rfl⟩:=hd;rw[show([p,q,d]:LdQ).length=3 from rfl]at hrd;refine⟨?_,fun F' H' hl=>?_⟩
    .rw[show Y.X.seq=G6 from rfl];unfold G6;rw[hg];simp only[Nat.add_zero];rw[hrd];exact(Bw h).2 _ _ d1 d2
    .rw[show Y.X.seqK=Ji from rfl];simp only[Ji,Nat.add_zero];rw[od (hl.keep c hF)]
   .cases h
  .rename_i hg;split at h
   .rename_i hg2;split at h
    .rename_i p q;refine⟨(Bw (F:=fun _=>True) (H:=⟨0,[]⟩) h).1,fun φ F H hp lb hr=>?_⟩;simp only[RVs,RV]at hr;obtain⟨v,_,rfl,⟨c,o,vs,rfl,hF,hrd,hd⟩,v',_,rfl,⟨c',o',vs',rfl,hF',hrd',hd'⟩,rfl⟩:=hr;simp only[RDs]at hd hd';obtain⟨v1,_,rfl,d1,rfl⟩:=hd;obtain⟨v2,_,rfl,d2,rfl⟩:=hd';rw[show([p]:LdQ).length=1 from rfl]at hrd;rw[show([q]:LdQ).length=1 from rfl]at hrd'
     refine⟨?_,fun F' H' hl=>?_⟩
     .rw[show Y.X.seq=G6 from rfl];unfold G6;rw[hg,hg2];simp only[Nat.add_zero];rw[hrd,hrd'];exact(Bw h).2 _ _ d1 d2
     .rw[show Y.X.seqK=Ji from rfl];simp only[Ji,Nat.add_zero];rw[od (hl.keep c hF),od (hl.keep c' hF')]
    .cases h
   .cases h
 ty t:=by
  by_cases ht:t<16*Cj.length
  .exact M0 (Z2.1 aaN t (Xk.2 ht))
  .refine M0 ?_
   have:(Y.ty t).k=.o:=by
    show(O9 (IM Cj (t/16)) (t%16)).k=.o
    have h2:∀t n:Nat,¬t<16*n->n<=t/16:=fun t n hn=>by omega
    rw[za Cj (t/16) (h2 t _ ht)];rfl
   have h2:(Y.ty t).eq=false:=by
    show(O9 (IM Cj (t/16)) (t%16)).eq=false
    have h2:∀t n:Nat,¬t<16*n->n<=t/16:=fun t n hn=>by omega
    rw[za Cj (t/16) (h2 t _ ht)];rfl
   unfold tyB;rw[this,h2];rfl
theorem aay{o:Option V}{k k':V->Prop}(h1:x=bnd o k)(h:∀v,k v=k' v):x=bnd o k':=by rw[h1,funext h]
theorem aam{o:V}{i:Nat}{k k':V->Prop}(h1:x=ext o i k)(h:∀v,k v=k' v):x=ext o i k':=by rw[h1,funext h]
theorem S7{op:BinOp}{k k':V->Prop}(h1:x=xi h0 op a b k)(h:∀v,k v=k' v):x=xi h0 op a b k':=by rw[h1,funext h]
theorem tX(h1:x=T k)(h:∀v h,k v h=k' v h):x=T k':=by rw[h1,show k=k' from funext fun v=>funext fun y=>h v y]
theorem aat{C:vJ}{a:LwQ}(h1:x=cal C h0 f a k)(h:∀v h,k v h=k' v h):x=cal C h0 f a k':=tX h1 h
theorem aau{C:oQ}{a:LwQ}(h1:x=cai C h0 f a s k)(h:∀v h,k v h=k' v h):x=cai C h0 f a s k':=tX h1 h
theorem aaD{cs:LwQ}(h1:x=alV s cs h0 k)(h:∀v h,k v h=k' v h):x=alV s cs h0 k':=tX h1 h
theorem aaE{cs:LdQ}(h1:x=alD s n cs h0 k)(h:∀v h,k v h=k' v h):x=alD s n cs h0 k':=tX h1 h
theorem U3(h1:x=eT s v0 h0 k)(h:∀v h,k v h=k' v h):x=eT s v0 h0 k':=tX h1 h
theorem TF(h1:x=dD n z ps h0 k)(h:∀v h,k v h=k' v h):x=dD n z ps h0 k':=tX h1 h
theorem TD(h1:x=tC s n z ps h0 k)(h:∀v h,k v h=k' v h):x=tC s n z ps h0 k':=tX h1 h
theorem aaf(h1:x=mkS s n z h0 a b k)(h:∀v h,k v h=k' v h):x=mkS s n z h0 a b k':=tX h1 h
theorem ZY(h1:x=stD h0 n a b k)(h:∀v h,k v h=k' v h):x=stD h0 n a b k':=tX h1 h
theorem aaC(h1:x=apV dr s n m a b h0 k)(h:∀v h,k v h=k' v h):x=apV dr s n m a b h0 k':=tX h1 h
theorem aez(h1:x=apZ dr s n m z a b h0 k)(h:∀v h,k v h=k' v h):x=apZ dr s n m z a b h0 k':=tX h1 h
theorem ad2{w:Bool}(h1:x=gd c w h0 T k)(h:∀v h,k v h=k' v h):x=gd c w h0 T k':=tX h1 h
theorem aas{A A' B B':Prop}(h1:x=cnd c A B)(ha:A=A')(hb:B=B'):x=cnd c A' B':=by rw[h1,ha,hb]
theorem adS{k k':LwQ->Hp->Prop}{T T':(LwQ->Hp->Prop)->Prop}(h1:x=jn k T)(hk:∀l h,k l h=k' l h)(hT:∀q,T q=T' q):x=jn k' T':=by rw[h1,show k=k' from funext fun v=>funext fun y=>hk v y,show T=T' from funext hT]
theorem adB{s s':aS}{clr:LnQ}{h2:Hp}{l:LwQ}{k k':KL}(h1:x=lp s clr h0 l h2 k)(hs:∀l h q,s l h q=s' l h q)(hk:∀ex l h,k ex l h=k' ex l h):x=lp s' clr h0 l h2 k':=by rw[h1,show s=s' from funext fun a=>funext fun b=>funext fun c=>hs a b c,show k=k' from funext fun a=>funext fun b=>funext fun c=>hk a b c]
theorem aap{e ex:Exit}{q q':LwQ->Hp->Prop}{r r':List (Exit×(LwQ->Hp->Prop))}{l:LwQ}(h1:x=exK ((e,q)::r) ex l h)(hq:∀l h,q l h=q' l h)(hr:exK r ex l h=exK r' ex l h):x=exK ((e,q')::r') ex l h:=by
 rw[h1,show q=q' from funext fun v=>funext fun y=>hq v y];simp only[exK];split
 .rfl
 .exact hr
theorem TM{y:Prop}{k:V->Prop}(h1:x=bnd (some v) k)(h2:k v=y):x=y:=h1.trans h2
noncomputable def gl(g:Nat):V:=match Y.glob g with
 |some cs=>.dptr cs 0
 |none=>.junk
end Go.Vm
