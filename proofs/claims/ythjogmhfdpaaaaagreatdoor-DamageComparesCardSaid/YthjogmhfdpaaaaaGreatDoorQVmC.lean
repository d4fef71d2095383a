/- Lemmas. -/
import Derived.Test.YthjogmhfdpaaaaaGreatDoorQVmB
set_option linter.unusedVariables false
set_option linter.unusedSimpArgs false
open Option renaming some->Wf,none->Vc
open Bool renaming true->Th,false->SM
open Go renaming Value->vl,FuncId->fI,IntKind->iK,Program->pG,TypeId->tI
open List renaming replicate->So,length->RW
namespace Go.Vm
open Go Go.Am
variable{p:Prop}{k:iK}{n i:Int}{j a b:Nat}{C:rF}{args ds:bA}
@[simp]theorem BU(v:V)(k:V->Prop):bnd (Wf v) k=k v:=rfl
theorem ahr[Decidable p](hp:p)(x y:V):kP (.d (.bool (decide p))) x y=Wf x:=by simp[kP,hp]
theorem aht[Decidable p](hp:¬p)(x y:V):kP (.d (.bool (decide p))) x y=Wf y:=by simp[kP,hp]
@[simp low]theorem aqD(b:Bool)(x y:V):kP (.d (.bool b)) x y=Wf (if b=Th then x else y):=by cases b<;>rfl
@[simp]theorem arv(l:bA)(i:Nat)(k:V->Prop):ext (.tup l) i k=bnd l[i]? k:=rfl
theorem DC{k:bA->Hp->Prop}{T:(bA->Hp->Prop)->Prop}{l:bA}{h:Hp}(hT:∀q,T q=q l h):jn k T=k l h:=hT k
@[simp]theorem VZ(x:V)(l:bA):ge (x::l) 0=x:=rfl
@[simp]theorem ari(x:V)(l:bA)(n:Nat):ge (x::l) (n+1)=ge l n:=rfl
@[simp]theorem arj(x y:V)(l:bA):ge (x::y::l) 1=y:=rfl
@[simp]theorem arf(x y z:V)(l:bA):ge (x::y::z::l) 2=z:=rfl
@[simp]theorem arh(x y z u:V)(l:bA):ge (x::y::z::u::l) 3=u:=rfl
@[simp] theorem pi (i:Nat)(q:bA->Hp->Prop)(r:List (Exit×(bA->Hp->Prop)))(l:bA)(h:Hp):aV ((.exit i,q)::r) (.exit i) l h=q l h:=by simp[aV,DZ,Xs]
@[simp]theorem Ib(q:bA->Hp->Prop)(r:List (Exit×(bA->Hp->Prop)))(l:bA)(h:Hp):aV ((.ret,q)::r) .ret l h=q l h:=rfl
@[simp]theorem Ia(i:Nat)(p:bA->Hp->Prop)(r:List (Exit×(bA->Hp->Prop)))(l:bA)(h:Hp):aV ((.exit i,p)::r) .ret l h=aV r .ret l h:=rfl
theorem aL{step:bJ}{Pc:ax}{h0:Hp}{l:bA}{h:Hp}{k:KL}(hs:step l h (Dn Pc h0 (λl h=>lp step Pc h0 l h k) k)):lp step Pc h0 l h k:=by
 intro I hI;refine hI l h ⟨_,hs,λex l' h' hq=>?_⟩;cases ex
 case normal=>exact⟨hq.1,hq.2 I hI⟩
 all_goals exact hq
@[simp]theorem aqW(Pc:ax)(h0:Hp)(I:bA->Hp->Prop)(k:KL)(l:bA)(h:Hp):Dn Pc h0 I k .normal l h=(clean Pc l h=Th∧I l (dl Pc 0 h0 h)):=rfl
@[simp]theorem aqX(Pc:ax)(h0:Hp)(I:bA->Hp->Prop)(k:KL)(i:Nat)(l:bA)(h:Hp):Dn Pc h0 I k (.exit i) l h=k (.exit i) l h:=rfl
@[simp]theorem aqV(Pc:ax)(h0:Hp)(I:bA->Hp->Prop)(k:KL)(l:bA)(h:Hp):Dn Pc h0 I k .ret l h=k .ret l h:=rfl
theorem Tc:∀l:bA,fA [] l=Th:=by
 intro l
 have key:∀x:V,gY [] x=Th:=by
  intro x
  induction x using V.rec (motive_2:=λl=>fA [] l=Th)with
  |agg l ih=>trivial
  |tup l ih=>trivial
  |fn g a b iha ihb=>grind[gY]
  |ifc t x ih=>trivial
  |nil=>rfl
  |cons x l ih ihl=>grind[fA]
  |_=>rfl
 induction l with
 |nil=>rfl
 |cons x l ih=>grind[fA]
theorem Te:∀(h:Hp)(i:Nat),im [] i h=Th
 |[],_=>rfl
 | (_,b)::h,i=>by
  simp[im,Te h,X7,X4,Y4];right;cases b<;>simp[offB,Tc]
@[simp]theorem clean_nil(l:bA)(h:Hp):clean [] l h=Th:=by simp[clean,Tc,Te]
theorem F7:∀(i:Nat)(h0 h:Hp),RW h=RW h0->dl [] i h0 h=h
 |_,[],h,_=>by cases h<;>rfl
 |_,_::_,[],_=>rfl
 | i,(e0,b0)::h0,(e,b)::h,hl=>by
  simp only[dl,fC,iT];rw[F7 (i+1) h0 h ae]
theorem wrap_i64(h : -9223372036854775808<=n∧n<=9223372036854775807):iK.wrap .i64 n=n:=by
 have e1:(2:Int)^64=18446744073709551616:=au;have e2:(2:Int)^(64-1)=9223372036854775808:=au
 grind[iK.wrap,iK.bits,iK.signed]
theorem Ji(hk:k.signed=SM)(h:0<=n∧n<2^k.bits):k.wrap n=n:=by grind[iK.wrap,Int.emod_eq_of_lt]
theorem wrap_u64(h:0<=n∧n<18446744073709551616):iK.wrap .u64 n=n:=Ji rfl h
theorem wrap_u32(h:0<=n∧n<4294967296):iK.wrap .u32 n=n:=Ji rfl h
theorem O0(n:Int):iK.wrap .u64 n=n%18446744073709551616:=by rfl
@[simp]theorem arV(k:iK)(a b:Int):aD .lss (.d (.int k a)) (.d (.int k b))=Wf (.d (.bool (decide (a<b)))):=by simp[aD,iQ,jq,dJ]
@[simp]theorem arW(k:iK)(a b:Int):aD .leq (.d (.int k a)) (.d (.int k b))=Wf (.d (.bool (decide (a<=b)))):=by simp[aD,iQ,jq,dJ]
@[simp]theorem arX(k:iK)(a b:Int):aD .gtr (.d (.int k a)) (.d (.int k b))=Wf (.d (.bool (decide (b<a)))):=by simp[aD,iQ,jq,dJ]
@[simp]theorem arY(k:iK)(a b:Int):aD .geq (.d (.int k a)) (.d (.int k b))=Wf (.d (.bool (decide (b<=a)))):=by simp[aD,iQ,jq,dJ]
@[simp]theorem arZ(k:iK)(a b:Int):aD .eql (.d (.int k a)) (.d (.int k b))=Wf (.d (.bool (decide (a=b)))):=by simp[aD,iQ,jq,dJ];rfl
@[simp]theorem arU(k:iK)(a b:Int):aD .neq (.d (.int k a)) (.d (.int k b))=Wf (.d (.bool (decide (a≠b)))):=by simp[aD,iQ,jq,dJ];rfl
theorem Ep(k:iK)(a b:Int):aD .add (.d (.int k a)) (.d (.int k b))=Wf (.d (.int k (k.wrap (a+b)))):=by simp[aD,iQ,jq,dJ]
theorem BW(k:iK)(a b:Int):aD .sub (.d (.int k a)) (.d (.int k b))=Wf (.d (.int k (k.wrap (a-b)))):=by simp[aD,iQ,jq,dJ]
theorem zd(k:iK)(a b:Int):aD .mul (.d (.int k a)) (.d (.int k b))=Wf (.d (.int k (k.wrap (a*b)))):=by simp[aD,iQ,jq,dJ]
@[simp]theorem ZM(k l:iK)(n:Int):fq k (.d (.int l n))=Wf (.d (.int k (k.wrap n))):=rfl
@[simp]theorem ar1(a b:Bool):jB .eql (.d (.bool a)) (.d (.bool b))=Wf (.d (.bool (a == b))):=rfl
@[simp]theorem ar0(a b:Bool):jB .neq (.d (.bool a)) (.d (.bool b))=Wf (.d (.bool (a !=b))):=rfl
@[simp]theorem ap3(b:Bool):f9 .not (.d (.bool b))=Wf (.d (.bool (!b))):=rfl
def ai{α:Type}(f:α->D)(l:List α):V:=.d (.sl (RW l) (l.map f))
section
variable{α:Type}(f:α->D)(l:List α)
@[simp]theorem ajk:bf (ai f l)=Wf (I (RW l)):=rfl
theorem ui(h:Hp)(hj:i=j)(hl:j<RW l):bq h 1 (ai f l) (.d (.int k i))=Wf (.dptr (l.map f) j):=by subst hj;simp only[bq,ai];rw[ip ⟨aa,aa,ac⟩];simp
theorem nr(h:Hp)(hl:j<RW l):ld1 h (.dptr (l.map f) j)=Wf (.d (f l[j])):=by simp[ld1,hl]
end
section
variable{α:Type}(f:α->D)(l:List α)
theorem aaB(d top:Nat):eD d top Vc=Wf d:=rfl
theorem IU{d top:Nat}(hi:i=j)(hj:j<=top):eD d top (Wf (.d (.int k i)))=Wf j:=by subst hi;simp only[eD];rw[ip ⟨aa,aa⟩];simp
theorem aeS{h:Hp}{lo hi:Option V}{i:Nat}(h0:0<RW l)(hj:eD (RW l) (RW l) hi=Wf j)(hi2:eD 0 j lo=Wf i)(hij:i<=j)(hjl:j<=RW l):gU h 1 (ai f l) lo hi=Wf (ai f ((l.drop i).take (j-i))):=by simp only[gU,ai,hj,hi2];rw[ip ⟨ac,h0⟩];simp only[Y1,List.map_take,List.map_drop,Zq,Yl];rw[Yo aa]
theorem QL{h:Hp}(h0:0<RW l)(hi:i=j)(hj:j<=RW l):gU h 1 (ai f l) Vc (Wf (I i))=Wf (ai f (l.take j)):=by rw[aeS f l h0 (IU hi hj) (aaB 0 j) (Zb _) hj];simp
end
@[simp]theorem aqe(h:Hp)(x:D):bW h (.d x)=Wf (.d (norm x),h):=by rfl
@[simp]theorem aqQ(k:iK)(n:Int):norm (.int k n)=.int k n:=rfl
@[simp]theorem aqS(b:Bool):norm (.bool b)=.bool b:=rfl
@[simp]theorem aqJ(s:bB):norm (.str s)=.str s:=rfl
@[simp]theorem aqL(n:Nat)(l:bF):norm (.sl n l)=.sl n l:=rfl
@[simp]theorem aqO:norm (.pl (.slice Vc 0 0))=.sl 0 []:=rfl
@[simp]theorem aed{α:Type}(h:Hp)(f:α->D)(l:List α):bW h (ai f l)=Wf (ai f l,h):=by rfl
@[simp]theorem aqc(h:Hp):bY h []=Wf ([],h):=by rfl
theorem gJ{D:rE}{h h':Hp}{f:fI}{args:bA}{v:V}{s:Nat}{k:bH}(hc:D f args h v h')(hk:k v h')(hn:∀n cells ex len cap,v≠.new n cells ex len cap)(hn2:∀n,v≠.cut n:=by simp)(hn3:∀n cells ex len cap y,v≠.tup [.new n cells ex len cap,.d y]:=by intro _ _ _ _ _ _ h;cases h)
  (hn4:∀n cells ex len cap,v≠.tup [.new n cells ex len cap]:=by intro _ _ _ _ _ h;cases h) (hn5:∀n cells ex len cap y,v≠.tup [.tup [.new n cells ex len cap],.d y]:=by intro _ _ _ _ _ _ h;cases h):eO D h (.fn f [] []) args s k:=by grind[eO]
theorem aoM{h h':Hp}{f:fI}{args:bA}{n len cap:Nat}{cells:bF}{y:D}{s e:Nat}{b:Bk}{ex:Bool}{k:bH}{DD:rE}(hc:DD f args h (.tup [.new n cells ex len cap,.d y]) h')(hs:h'[s]?=Wf (e,b))
  (hk:k (.tup [.ref s (e+1) 0 len cap (RW cells),.d y]) (h'.set s (e+1,.data n cells ex SM))):eO DD h (.fn f [] []) args s k:=by grind[eO,new]
theorem jQ{h h':Hp}{f:fI}{args:bA}{n len cap:Nat}{cells:bF}{s e:Nat}{b:Bk}{ex:Bool}{k:bH}{DD:rE}(hc:DD f args h (.new n cells ex len cap) h')(hs:h'[s]?=Wf (e,b))
  (hk:k (.ref s (e+1) 0 len cap (RW cells)) (h'.set s (e+1,.data n cells ex SM))):eO DD h (.fn f [] []) args s k:=by grind[eO,new]
theorem za{h h':Hp}{f:fI}{v:V}{k:bH}(hs:bY h args=Wf (ds,h'))(hc:C f ds v)(hk:k v (if fk v then h else h')):bp C h (.fn f [] []) args k:=by grind[bp]
theorem aoK{h:Hp}{f:fI}{v:V}{k:bH}(hc:C f args v)(hs:bY h args=Wf (args,h))(hk:k v h):bp C h (.fn f [] []) args k:=
 za hs hc ae
theorem K8{x:D}{h:Hp}(hx:norm x=x):out (.d x) (.d x) h:=⟨h,by simp[hx]⟩
theorem ahB{α:Type}(f:α->D)(l:List α)(h:Hp):out (ai f l) (ai f l) h:=⟨h,ac⟩
@[simp]theorem aqE(k:iK)(n:Int)(h:Hp):out (.d (.int k n)) (.d (.int k n)) h:=K8 rfl
@[simp]theorem ahE(b:Bool)(h:Hp):out (.d (.bool b)) (.d (.bool b)) h:=K8 rfl
theorem FF{l:iK}(hb:b<=k.bits):aD .shr (.d (.int k a)) (.d (.int l b))=Wf (.d (.int k ((a/2^b:Nat):Int))):=by
 have h1:¬((b:Int)<0):=aa
 grind[aD,iQ,jq,dJ]
theorem B4(h:a+b<18446744073709551616):aD .add (.d (.int .u64 a)) (.d (.int .u64 b))=Wf (.d (.int .u64 ((a+b:Nat):Int))):=by rw[Ep,wrap_u64 aa];simp
theorem GU(h:a*b<18446744073709551616):aD .mul (.d (.int .u64 a)) (.d (.int .u64 b))=Wf (.d (.int .u64 ((a*b:Nat):Int))):=by grind[zd,wrap_u64]
theorem anY(h:a<18446744073709551616):fq .u64 (.d (.int k a))=Wf (.d (.int .u64 a)):=by rw[ZM,wrap_u64 aa]
section
variable{α:Type}{f:α->D}{l:List α}{h:Hp}{s e:Nat}{ex fr:Bool}
end
theorem aee{α:Type}{f:α->D}{l:List α}{h:Hp}{s e:Nat}{ex fr:Bool}(hs:h[s]?=Wf (e,.data 1 (l.map f) ex fr)){n m tot:Nat}(hn:n=RW l)(hm:n<=m)(ht:tot=RW l):
  bW h (.ref s e 0 n m tot)=Wf (ai f l,h.set s (e,.data 1 (l.map f) ex Th)):=by subst hn;subst ht;simp only[bW,dS,aH,hs,iT,List.length_map];rw[ip ⟨trivial,hm,aa⟩];simp only[Yz,Y1,bP,ai];rw[Zy ac]
end Go.Vm
namespace Go.Big
variable{l a b o:ax}{i x n k m:Nat}
def val(B:Nat):ax->Nat
 |[]=>0
 |x::l=>x+B*val B l
def gj:ax->ax
 |[]=>[]
 | x::l=>match gj l with
  |[]=>if x=0 then[]else[x]
  |y::r=>x::y::r
def qg(B:Nat):Nat->Nat->ax
 |0,_=>[]
 |f+1,n=>if n=0 then[]else n%B::qg B f (n/B)
def aI(B n:Nat):ax:=qg B n n
def bK(B:Nat)(l:ax):Prop:=∀x∈l,x<B
section
variable{B:Nat}
theorem val_append(a b:ax):val B (a++b)=val B a+B^(RW a)*val B b:=by
 induction a with
 |nil=>simp[val]
 |cons x a ih=>grind[val]
theorem jE(hB:0<B)(h:bK B l):val B l<B^(RW l):=by
 induction l with
 |nil=>simp[val]
 | cons x l ih=>
  have h1:=ih λy hy=>h y ae
  have h2:=h x ac;simp only[val,List.length_cons,Nat.pow_succ];have:B*(val B l+1)<=B*B^(RW l):=Z4 B h1
  grind
theorem bK.take{l:ax}(h:bK B l)(n:Nat):bK B (l.take n):=λx hx=>h x (Wo hx)
theorem bK.drop{l:ax}(h:bK B l)(n:Nat):bK B (l.drop n):=λx hx=>h x (List.mem_of_mem_drop hx)
theorem bK.get(h:bK B l)(hi:i<RW l):l[i]<B:=h _ (X2 hi)
theorem bK.append(ha:bK B a)(hb:bK B b):bK B (a++b):=λx hx=>by
 rcases Xc.1 hx with h|h
 .exact ha x h
 .exact hb x h
theorem ac7(l:ax):val B (gj l)=val B l:=by
 induction l with
 |nil=>rfl
 | cons x l ih=>
  grind[gj,val]
theorem ac8(h:bK B l):bK B (gj l):=by
 induction l with
 |nil=>exact h
 | cons x l ih=>
  have h1:=ih λy hy=>h y ae
  have hx:=h x ac;unfold gj;split
  .split
   .grind
   .intro y hy;grind
  .rename_i y r he;rw[he]at h1;intro z hz;rcases Zx.1 hz with rfl|hz
   .exact hx
   .exact h1 z hz
def oE(l:ax):Prop:=∀h:l≠[],l.getLast h≠0
theorem ada(l:ax):oE (gj l):=by
 induction l with
 |nil=>intro h;trivial
 | cons x l ih=>
  unfold gj;split
  .split
   .grind
   .rename_i hx;intro h;trivial
  .rename_i y r he;rw[he]at ih;intro h;rw[List.getLast_cons ac];exact ih ac
theorem ac9(h:oE l):gj l=l:=by
 induction l with
 |nil=>rfl
 | cons x l ih=>
  unfold gj;cases l with
  | nil=>
   have:=h ac
   grind[gj]
  | cons y r=>
   have:oE (y::r):=λhh=>by have:=h ac;rwa [List.getLast_cons ac]at this
   grind
theorem Ju(l:ax):gj (l++[0])=gj l:=by
 induction l with
 |nil=>rfl
 |cons x l ih=>grind[gj]
theorem Jv(h:x≠0):gj (l++[x])=l++[x]:=ac9 λ_=>by grind
theorem Il(hB:2<=B):∀(f n:Nat),n<=f->val B (qg B f n)=n∧bK B (qg B f n)∧oE (qg B f n)
 | 0,n,h=>by
  have:n=0:=aa;subst this;exact⟨rfl,λx hx=>by trivial,λhx=>absurd rfl hx⟩
 | f+1,n,h=>by
  unfold qg;split
  .rename_i h0;subst h0;exact⟨rfl,λx hx=>by simp at hx,λhx=>absurd rfl hx⟩
  .rename_i h0;have PJ:n/B<n:=Nat.div_lt_self aa aa;obtain⟨h1,h2,h3⟩:=Il hB f (n/B) aa;refine⟨?_,?_,?_⟩
   .grind[val,Xp]
   .intro x hx;rcases Zx.1 hx with rfl|hx
    .exact Y5 _ aa
    .exact h2 x hx
   .intro MT;by_cases hd:qg B f (n/B)=[]
    .simp only[hd];rw[hd]at h1;simp[val]at h1
     have:n<B:=by
      rcases Zi n B with h|h
      .exact h
      .have:=V6 h (by omega:0<B);omega
     grind[X5]
    .rw[List.getLast_cons hd];exact h3 hd
theorem kM(hB:2<=B)(n:Nat):val B (aI B n)=n:=(Il hB n n (Z8 n)).1
theorem jb(hB:2<=B)(n:Nat):bK B (aI B n):=(Il hB n n (Z8 n)).2.1
theorem Nq(hB:2<=B)(n:Nat):oE (aI B n):=(Il hB n n (Z8 n)).2.2
theorem Lp(h:oE l)(hl:l≠[])(hB:0<B):val B l≠0:=by
 induction l with
 |nil=>trivial
 | cons x l ih=>
  cases l with
  |nil=>have:=h ac;trivial
  | cons y r=>
   have hn:oE (y::r):=λhh=>by have:=h ac;rwa [List.getLast_cons ac]at this
   have:=ih hn ac;simp only[val]at this ⊢;have:=Yk hB (Nat.pos_of_ne_zero this);omega
theorem Tv(hB:0<B):∀{a b:ax},bK B a->bK B b->oE a->oE b->val B a=val B b->a=b
 |[],[],_,_,_,_,_=>rfl
 |[],y::b,_,_,_,hb,h=>absurd h.symm (Lp hb ac hB)
 |x::a,[],_,_,ha,_,h=>absurd h (Lp ha ac hB)
 | x::a,y::b,sa,sb,na,nb,h=>by
  have hx:=sa x ac;have hy:=sb y ac;simp[val]at h
  have e1:x=y:=by
   have:=RT (· % B) h;simpa[Xe,X5 hx,X5 hy]using this
  subst e1;have e2:val B a=val B b:=Xv hB aa;have tl:∀{l:ax}{x:Nat},oE (x::l)->oE l:=λ{l x} h hl=>by have:=h ac;grind
  rw[Tv hB (λz hz=>sa z ae) (λz hz=>sb z ae) (tl na) (tl nb) e2]
theorem uA(hB:2<=B)(h:bK B l):aI B (val B l)=gj l:=
 Tv aa (jb hB _) (ac8 h) (Nq hB _) (ada l) (by rw[kM hB,ac7])
theorem qW(hB:2<=B):RW (aI B n)<=k↔n<B^k:=by
 have hv:=kM hB n;have hs:=jE aa (jb hB n);rw[hv]at hs;constructor
 .intro h;exact Z0 hs (Z2 aa h)
 .intro h;rcases Zi k (RW (aI B n)) with hk|hk
  .exfalso;have MT:aI B n≠[]:=by intro e;rw[e]at hk;simp at hk
   have hdrop:val B ((aI B n).drop k)≠0:=by
    refine Lp ?_ (by grind[List.drop_eq_nil_iff]) aa;intro hd;rw[List.getLast_drop];exact Nq hB n MT
   have:=val_append (B:=B) ((aI B n).take k) ((aI B n).drop k);rw[Xu,hv,Zq,Yo aa]at this;have:=Z4 (B^k) (Nat.pos_of_ne_zero hdrop);omega
  omega
def xT(a b:ax):Nat->Int
 |0=>0
 |i+1=>if a.getD i 0<b.getD i 0 then -1 else if b.getD i 0<a.getD i 0 then 1 else xT a b i
def cmp(a b:Nat):Int:=if a<b then -1 else if b<a then 1 else 0
theorem SY(hB:0<B){a b:ax}(ha:bK B a)(hb:bK B b):∀i,i<=RW a->i<=RW b->xT a b i=cmp (val B (a.take i)) (val B (b.take i))
 |0,_,_=>by rfl
 | i+1,h1,h2=>by
  have e:∀(l:ax)(h:i<RW l),val B (l.take (i+1))=val B (l.take i)+B^i*l[i]:=λl h=>by
   rw[Wq,val_append,Zq,Yo aa]
   grind[val]
  have la:=jE hB (ha.take i);have lb:=jE hB (hb.take i);rw[Zq,Yo aa]at la lb;rw[xT,e a aa,e b aa,SY hB ha hb i aa aa];have ga:a.getD i 0=a[i]:=by simp[show i<RW a by omega]
  have gb:b.getD i 0=b[i]:=by simp[show i<RW b by omega]
  rw[ga,gb];generalize a[i]=x,b[i]=y at *;unfold cmp;rcases Nat.lt_trichotomy x y with h|h|h
  .rw[ip h];have:B^i*(x+1)<=B^i*y:=Z4 _ h;rw[Zm]at this;rw[ip aa]
  .grind
  .rw[iN aa,ip h];have:B^i*(y+1)<=B^i*x:=Z4 _ h;rw[Zm]at this;rw[iN aa,ip aa]
theorem NY(hB:2<=B)(h:RW (aI B m)<RW (aI B n)):m<n:=by
 have h1:m<B^(RW (aI B m)):=(qW hB).1 (Z8 _);rcases Zi n (B^(RW (aI B m)))with h2|h2
 .have:=(qW hB).2 h2;omega
 .omega
theorem uT(l:ax)(i:Nat):val B (l.drop i)=l.getD i 0+B*val B (l.drop (i+1)):=by
 by_cases h:i<RW l
 .grind[Yw,val]
 .rw[Y9 aa,Y9 aa];simp[val,List.getElem?_eq_none (by omega:RW l<=i)]
theorem bK.getD{l:ax}(h:bK B l)(hB:0<B)(i:Nat):l.getD i 0<B:=by
 by_cases hi:i<RW l
 .simp_all[get]
 .simp[List.getElem?_eq_none (by omega:RW l<=i),hB]
theorem Pi(l:ax)(x:Nat):val B (l++[x])=val B l+B^(RW l)*x:=by simp[val_append,val]
theorem Jq(n:Nat):val B (So n 0)=0:=by
 induction n with
 |zero=>rfl
 |succ n ih=>grind[val]
theorem bK.snoc(h:bK B l)(hx:x<B):bK B (l++[x]):=h.append λy hy=>by grind
end
theorem zz{B:Nat}:∀(l:ax)(j x:Nat),j<RW l->val B (l.set j x)+B^j*l.getD j 0=val B l+B^j*x
 |[],j,x,h=>by simp at h
 |y::l,0,x,h=>by simp[val];omega
 | y::l,j+1,x,h=>by
  have:=zz (B:=B) l j x (by simpa using h);simp only[List.set_cons_succ,val,List.getD_cons_succ,Nat.pow_succ];rw[Zp (B^j) B,Nat.mul_assoc,Nat.mul_assoc];generalize val B (l.set j x)=p at *;generalize B^j*l.getD j 0=q at *;generalize B^j*x=r at *;have h2:B*(p+q)=B*(val B l+r):=by rw[this]
  rw[Zm,Zm]at h2;omega
theorem bK.set{B:Nat}{l:ax}(h:bK B l){j x:Nat}(hx:x<B):bK B (l.set j x):=by
 intro y hy;rcases Yj hy with h1|h1
 .exact h y h1
 .subst h1;exact hx
theorem Ph{B:Nat}(l:ax)(h:i<RW l):val B (l.take (i+1))=val B (l.take i)+B^i*l.getD i 0:=by rw[Wq,val_append,Zq,Yo aa];simp[List.getElem?_eq_getElem h,val]
theorem ait{B:Nat}{j c a y v:Nat}(hj:j<RW o):
  val B (o.set j ((c+o.getD j 0+a*y)%B))+B^(j+1)*((c+o.getD j 0+a*y)/B+a*v)=val B o+B^j*(c+a*(y+B*v)):=by
 have h:=zz (B:=B) o j ((c+o.getD j 0+a*y)%B) hj;generalize val B (o.set j ((c+o.getD j 0+a*y)%B))=p at *;generalize o.getD j 0=w at *;have hd:=Xp (c+w+a*y) B;generalize(c+w+a*y)%B=r at *;generalize(c+w+a*y)/B=d at *;generalize val B o=q at *;generalize hP:B^j=P at *;rw[Nat.pow_succ,hP,Nat.mul_assoc]
 have e1:P*(B*(d+a*v))+P*r=P*(c+w+a*y)+P*(a*(B*v)):=by
  rw[<-Zm,<-Zm,<-hd,Zm B,Y2 a B v];congr 1;omega
 have e2:P*(c+a*(y+B*v))+P*w=P*(c+w+a*y)+P*(a*(B*v)):=by
  rw[<-Zm,<-Zm,Zm a];congr 1;omega
 omega
end Go.Big
namespace Go.Vm
open Go Go.Am
abbrev aO:c8:=⟨.f,1,8,[.pl .nilFunc],SM⟩
abbrev gV:c8:=⟨.o,1,0,[],SM⟩
abbrev AA:c8:=⟨.p,1,8,[.pl (.pointer Vc)],SM⟩
abbrev FX:c8:=⟨.i .i64,1,8,[.int .i64 0],SM⟩
abbrev FW:c8:=⟨.i .u8,1,1,[.int .u8 0],SM⟩
abbrev FV:c8:=⟨.s,1,16,[.str []],SM⟩
abbrev KH:c8:=⟨.i .u64,1,8,[.int .u64 0],SM⟩
abbrev KG:c8:=⟨.it,1,16,[.pl .nilIface],SM⟩
abbrev KF:c8:=⟨.i .i32,1,4,[.int .i32 0],SM⟩
abbrev KE:c8:=⟨.sl 3,1,24,[.pl (.slice Vc 0 0)],SM⟩
abbrev RY:c8:=⟨.st [(0,1),(1,1),(2,1),(3,1)],4,24,[.int .i64 0,.int .i64 0,.bool SM,.int .u8 0],SM⟩
abbrev RX:c8:=⟨.st [(0,1),(1,1)],2,24,[.str [],.int .u64 0],SM⟩
abbrev RU:c8:=⟨.st [(0,1)],1,8,[.pl (.pointer Vc)],SM⟩
abbrev RS:c8:=⟨.st [(0,1),(1,1),(2,1)],3,40,[.int .u8 0,.pl (.slice Vc 0 0),.bool SM],SM⟩
abbrev RR:c8:=⟨.ar 4 27,8,8,[.int .i8 0,.int .u8 0,.int .i8 0,.int .u8 0,.int .i8 0,.int .u8 0,.int .i8 0,.int .u8 0],SM⟩
abbrev RQ:c8:=⟨.st [(0,3),(3,32)],35,72,[.int .u8 0,.pl (.slice Vc 0 0),.bool SM,.int .i8 0,.int .u8 0,.int .i8 0,.int .u8 0,.int .i8 0,.int .u8 0,.int .i8 0,.int .u8 0,.int .i8 0,.int .u8 0,.int .i8 0,.int .u8 0,.int .i8 0,.int .u8 0,.int .i8 0,.int .u8 0,.int .i8 0,.int .u8 0,.int .i8 0,.int .u8 0,.int .i8 0,.int .u8 0,.int .i8 0,.int .u8 0,.int .i8 0,.int .u8 0,.int .i8 0,.int .u8 0,.int .i8 0,.int .u8 0,.int .i8 0,.int .u8 0],SM⟩
abbrev RP:c8:=⟨.sl 53,1,24,[.pl (.slice Vc 0 0)],SM⟩
abbrev RO:c8:=⟨.st [(0,1),(1,1),(2,1)],3,72,[.pl (.slice Vc 0 0),.pl (.slice Vc 0 0),.pl (.slice Vc 0 0)],SM⟩
abbrev RN:c8:=⟨.st [(0,3),(3,1)],4,96,[.pl (.slice Vc 0 0),.pl (.slice Vc 0 0),.pl (.slice Vc 0 0),.pl (.slice Vc 0 0)],SM⟩
abbrev RL:c8:=⟨.sl 61,1,24,[.pl (.slice Vc 0 0)],SM⟩
abbrev RJ:c8:=⟨.st [(0,1),(1,2)],3,56,[.pl (.slice Vc 0 0),.str [],.str []],SM⟩
abbrev RI:c8:=⟨.st [(0,4),(4,2)],6,6,[.int .i8 0,.int .i8 0,.int .i8 0,.int .i8 0,.int .i8 0,.int .u8 0],SM⟩
abbrev RH:c8:=⟨.st [(0,3),(3,1),(4,1)],5,88,[.pl (.slice Vc 0 0),.str [],.str [],.pl (.slice Vc 0 0),.int .i64 0],SM⟩
abbrev RG:c8:=⟨.st [(0,1),(1,1)],2,32,[.int .i64 0,.pl (.slice Vc 0 0)],SM⟩
abbrev RF:c8:=⟨.sl 59,1,24,[.pl (.slice Vc 0 0)],SM⟩
abbrev RE:c8:=⟨.st [(0,1),(1,1),(2,1)],3,64,[.pl (.slice Vc 0 0),.pl (.slice Vc 0 0),.str []],SM⟩
abbrev RA:c8:=⟨.sl 180,1,24,[.pl (.slice Vc 0 0)],SM⟩
abbrev Rz:c8:=⟨.sl 214,1,24,[.pl (.slice Vc 0 0)],SM⟩
abbrev Ry:c8:=⟨.st [(0,1),(1,1),(2,1)],3,48,[.str [],.str [],.pl .nilIface],SM⟩
abbrev Rx:c8:=⟨.st [(0,1),(1,1),(2,1),(3,1)],4,40,[.pl (.pointer Vc),.pl (.pointer Vc),.pl (.pointer Vc),.str []],SM⟩
abbrev Rv:c8:=⟨.st [(0,1),(1,1),(2,1),(3,1),(4,1),(5,1),(6,1),(7,1),(8,1),(9,1),(10,1)],11,48,[.int .u64 0,.int .u64 0,.int .u32 0,.int .u8 0,.int .u8 0,.int .u8 0,.int .u8 0,.pl .nilFunc,.pl (.pointer Vc),.int .i32 0,.int .i32 0],SM⟩
abbrev vm(n:Nat):c8:=⟨.sl n,1,24,[.pl (.slice Vc 0 0)],SM⟩
def acE:List c8:=[
 gV,aO,FX,FX,⟨.b,1,1,[.bool SM],SM⟩,FW,FW,RY,RY,FV,FV,FV,KH,RX,RX,AA]
def acD:List c8:=[
 AA,AA,RU,RU,KG,KF,vm 77,RS,RS,⟨.i .i8,1,1,[.int .i8 0],SM⟩,⟨.st [(0,1),(1,1)],2,2,[.int .i8 0,.int .u8 0],SM⟩,⟨.st [(0,1),(1,1)],2,2,[.int .i8 0,.int .u8 0],Th⟩,RR,RR,⟨.ar 4 29,32,32,[.int .i8 0,.int .u8 0,.int .i8 0,.int .u8 0,.int .i8 0,.int .u8 0,.int .i8 0,.int .u8 0,.int .i8 0,.int .u8 0,.int .i8 0,.int .u8 0,.int .i8 0,.int .u8 0,.int .i8 0,.int .u8 0,.int .i8 0,.int .u8 0,.int .i8 0,.int .u8 0,.int .i8 0,.int .u8 0,.int .i8 0,.int .u8 0,.int .i8 0,.int .u8 0,.int .i8 0,.int .u8 0,.int .i8 0,.int .u8 0,.int .i8 0,.int .u8 0],SM⟩,RQ]
def acs:List c8:=[
 RQ,vm 79,aO,aO,aO,KE,KE,RP,RP,RO,RO,vm 57,RN,RN,aO,vm 63]
def acr:List c8:=[
 aO,FX,gV,aO,aO,KE,aO,aO,RL,RL,aO,FV,⟨.st [(0,1),(1,1)],2,32,[.str [],.str []],SM⟩,⟨.st [(0,1),(1,1)],2,32,[.str [],.str []],Th⟩,RJ,RJ]
def acp:List c8:=[
 aO,aO,gV,aO,aO,gV,aO,gV,aO,aO,aO,aO,aO,⟨.ar 4 25,4,4,[.int .i8 0,.int .i8 0,.int .i8 0,.int .i8 0],SM⟩,RI,RI]
def aco:List c8:=[
 vm 45,aO,aO,vm 88,gV,aO,aO,RH,RH,aO,aO,aO,gV,aO,gV,aO]
def acn:List c8:=[
 aO,aO,aO,aO,aO,gV,aO,aO,aO,aO,aO,aO,aO,aO,aO,aO]
def acm:List c8:=[
 aO,aO,aO,aO,aO,aO,aO,aO,aO,vm 38,aO,RG,RG,gV,aO,aO]
def acl:List c8:=[
 aO,aO,aO,aO,aO,aO,aO,RF,RE,RE,aO,aO,aO,gV,aO,aO]
def ack:List c8:=[
 aO,aO,aO,aO,aO,aO,aO,aO,RA,RA,aO,aO,aO,gV,aO,gV]
def acC:List c8:=[
 aO,aO,aO,aO,aO,gV,aO,gV,aO,aO,aO,aO,gV,aO,aO,gV]
def acB:List c8:=[
 aO,aO,aO,aO,RF,aO,aO,aO,aO,aO,aO,aO,aO,KH,aO,gV]
def acA:List c8:=[
 aO,aO,aO,aO,aO,aO,aO,aO,KG,KG,gV,aO,gV,aO,aO,aO]
def acz:List c8:=[
 aO,aO,aO,aO,gV,aO,KH,gV,aO,aO,Rz,Rz,aO,aO,gV,aO]
def acy:List c8:=[
 aO,gV,aO,aO,aO,aO,aO,aO,aO,aO,gV,aO,aO,⟨.i .u32,1,4,[.int .u32 0],SM⟩,gV,aO]
def acx:List c8:=[
 gV,aO,aO,⟨.ar 24 5,24,24,So 24 (.int .u8 0),SM⟩,aO,aO,vm 5,gV,aO,aO,aO,aO,gV,aO,aO,aO]
def acw:List c8:=[
 aO,aO,FX,gV,aO,AA,aO,aO,aO,aO,⟨.ar 20 214,20,160,So 20 (.int .u64 0),SM⟩,⟨.ar 65 5,65,65,So 65 (.int .u8 0),SM⟩,aO,aO,aO,aO]
def acv:List c8:=[
 Ry,Ry,aO,AA,AA,⟨.st [(0,1)],1,16,[.str []],SM⟩,⟨.st [(0,1)],1,16,[.str []],SM⟩,⟨.ar 32 5,32,32,So 32 (.int .u8 0),SM⟩,⟨.ar 64 5,64,64,So 64 (.int .u8 0),SM⟩,aO,Rx,Rx,⟨.ar 0 16,0,0,[],SM⟩,⟨.st [(0,0)],0,0,[],SM⟩,⟨.st [(0,0)],0,0,[],SM⟩,FW]
def acu:List c8:=[
 FW,aO,KF,KF,Rv,Rv,aO,⟨.o,1,8,[.pl (.pointer Vc)],SM⟩,aO,aO,aO]
def xf:List (List c8):=[acE,acD,acs,acr,acp,aco,acn,acm,acl,ack,acC,acB,acA,acz,acy,acx,acw,acv,acu]
def apv:ax:=[0,1,218,219,220,221,222,223,224,225,226,227,228,229,230,231,232,233,234,235,236,237,238,239,240,241,242,243,244]
def gD:Nat:=0
namespace F
def Ap:fI:=3
def vE:fI:=4
def Al:fI:=5
def xH:fI:=6
def vF:fI:=7
def xG:fI:=8
def yZ:fI:=9
def Av:fI:=10
def tM:fI:=11
def xF:fI:=12
def tN:fI:=13
def jK:fI:=14
def yX:fI:=15
def vC:fI:=16
def yY:fI:=17
def yW:fI:=18
def xI:fI:=19
def tO:fI:=20
def As:fI:=21
def An:fI:=22
def pI:fI:=23
def xt:fI:=24
def sO:fI:=25
def iM:fI:=26
def uV:fI:=27
def vy:fI:=28
def vu:fI:=29
def sL:fI:=30
def wV:fI:=31
def Ah:fI:=32
def xv:fI:=33
def yV:fI:=34
def xK:fI:=35
def tP:fI:=36
def Aq:fI:=37
def vG:fI:=38
def BA:fI:=39
def wH:fI:=40
def uX:fI:=41
def vv:fI:=42
def rR:fI:=43
def nI:fI:=44
def Af:fI:=45
def xg:fI:=46
def xh:fI:=47
def Bw:fI:=48
def zE:fI:=49
def Ag:fI:=50
def rT:fI:=51
def tF:fI:=52
def Ai:fI:=53
def By:fI:=54
def iW:fI:=55
def BP:fI:=56
def xr:fI:=57
def Cy:fI:=58
def oT:fI:=59
def Bi:fI:=60
def yv:fI:=61
def yx:fI:=62
def xJ:fI:=63
def lE:fI:=64
def kL:fI:=65
def wq:fI:=66
def yw:fI:=67
def zL:fI:=68
def tG:fI:=69
def tD:fI:=70
def vr:fI:=71
def oN:fI:=72
def yd:fI:=73
def zN:fI:=74
def xi:fI:=75
def qf:fI:=76
def Bz:fI:=77
def vw:fI:=78
def xz:fI:=79
def wI:fI:=80
def z8:fI:=81
def xD:fI:=82
def ut:fI:=83
def Ac:fI:=84
def om:fI:=85
def strconv_Itoa:fI:=86
def vP:fI:=87
def yu:fI:=88
def p6:fI:=89
def qO:fI:=90
def wj:fI:=91
def wm:fI:=92
def ic:fI:=93
def Bu:fI:=94
def xu:fI:=95
def xM:fI:=96
def xk:fI:=97
def vk:fI:=98
def vt:fI:=99
def rQ:fI:=100
def QG:fI:=101
def w9:fI:=102
def jh:fI:=103
def gy:fI:=104
def vn:fI:=105
def xA:fI:=106
def AW:fI:=107
def zM:fI:=108
def zK:fI:=109
def uP:fI:=110
def xq:fI:=111
def ji:fI:=112
def qS:fI:=113
def sJ:fI:=114
def rH:fI:=115
def Cz:fI:=116
def xa:fI:=117
def uR:fI:=118
def xB:fI:=119
def Bp:fI:=120
def Az:fI:=121
def ug:fI:=122
def uS:fI:=123
def wn:fI:=124
def yq:fI:=125
def Bg:fI:=126
def yp:fI:=127
def uf:fI:=128
def zP:fI:=129
def Bt:fI:=130
def BK:fI:=132
def j7:fI:=133
def re:fI:=134
def qi:fI:=135
def rb:fI:=136
def jg:fI:=137
def uG:fI:=138
def vq:fI:=139
def tE:fI:=140
def xC:fI:=141
def vI:fI:=142
def u7:fI:=143
def AZ:fI:=144
def po:fI:=145
def wG:fI:=146
def yU:fI:=147
def zr:fI:=148
def yT:fI:=149
def wA:fI:=150
def zt:fI:=151
def Bh:fI:=152
def xw:fI:=153
def zO:fI:=154
def Bs:fI:=155
def Ab:fI:=156
def wE:fI:=157
def strconv_Atoi:fI:=159
def qZ:fI:=160
def rc:fI:=161
def mC:fI:=162
def wS:fI:=163
def wR:fI:=164
def nH:fI:=165
def yS:fI:=166
def uF:fI:=167
def kz:fI:=168
def wQ:fI:=169
def qY:fI:=170
def Ae:fI:=171
def rS:fI:=172
def uQ:fI:=173
def size_digits:fI:=174
def Ay:fI:=175
def vH:fI:=176
def akI:fI:=177
def adI:fI:=178
def aiI:fI:=179
def qM:fI:=180
def BM:fI:=181
def yH:fI:=182
def wz:fI:=183
def uj:fI:=184
def VB:fI:=185
def Fo:fI:=186
def yr:fI:=187
def vj:fI:=188
def Br:fI:=189
def Ft:fI:=190
def wB:fI:=191
def wT:fI:=192
def zR:fI:=193
def vi:fI:=194
def uD:fI:=195
def yg:fI:=196
def wU:fI:=197
def Bn:fI:=203
def t6:fI:=204
def Bo:fI:=205
def xm:fI:=208
def yI:fI:=209
def aiL:fI:=210
def BN:fI:=211
def KD:fI:=rS
end F
end Go.Vm
namespace Go.Vm
open Go Go.Am
noncomputable section
def zH:List c8->Nat->c8
 |[],_=>⟨.o,0,0,[],SM⟩
 |x::_,0=>x
 |_::l,n+1=>zH l n
def Cp:List (List c8)->Nat->List c8
 |[],_=>[]
 |x::_,0=>x
 |_::l,n+1=>Cp l n
def ir:Nat->bB->Nat
 |a,[]=>a
 |a,c::l=>ir (a*10+(c.toNat-48)) l
def nF(c:UInt8):Bool:=Nat.ble 48 c.toNat&&Nat.ble c.toNat 57
def CU:am->Option vl
 |[.string s,.int .i64 a,.int .i64 b]=>if a=10∧b=64∧s.data.toList≠[]∧s.data.toList.all nF=Th∧RW s.data.toList<=1000∧ir 0 s.data.toList<10000000000000000000 then Wf (.tuple #[.int .u64 (ir 0 s.data.toList),.nilIface])else Vc
 |_=>Vc
def Gv:am->Option vl
 | [.string s,.int .i64 a,.int .i64 b]=>if a=10∧b=64 then(match s.data.toList with
  |45::l=>if l≠[]∧l.all nF=Th∧RW l<=1000∧ir 0 l<9223372036854775808 then Wf (.tuple #[.int .i64 (-(ir 0 l:Int)),.nilIface])else Vc
  |l=>if l≠[]∧l.all nF=Th∧RW l<=1000∧ir 0 l<9223372036854775808 then Wf (.tuple #[.int .i64 (ir 0 l),.nilIface])else Vc)else Vc
 |_=>Vc
def yC:vl->Bool
 |.slice ..=>Th
 |_=>SM
def w8(H:AH)(p q:vl):Option (List am):=match fH H 1 p,fH H 1 q with
 |some (k,xs),Wf (k',ys)=>if k=k'∧RW xs=k∧RW ys=k∧k<4611686018427387904∧(yC p&&yC q)=Th∧(xs.all λv=>plain v&&okCell v)=Th∧(ys.all λv=>plain v&&okCell v)=Th then Wf ((xs.zip ys).map λx=>[x.1,x.2])else Vc
 |_,_=>Vc
def tL(f:fI)(lb:am)(H:AH):Option (List am):=match Nat.beq f F.rS with
 | true=>match lb with
  | [.pointer (Wf ⟨b,o,Vc⟩)]=>match cW H b o 3 with
   |some [p,q,_]=>w8 H p q
   |_=>Vc
  |_=>Vc
 | false=>match Nat.beq f F.KD with
  | true=>match lb with
   | [.pointer (Wf ⟨b,o,Vc⟩),.pointer (Wf ⟨b',o',Vc⟩)]=>match cW H b o 1,cW H b' o' 1 with
    |some [p],Wf [q]=>w8 H p q
    |_,_=>Vc
   |_=>Vc
  |false=>Vc
def CL(f:fI)(lb:am)(H:AH):am:=match lb with
 |[.pointer (Wf ⟨b,o,Vc⟩)]=>(cW H b o 3).getD []
 |[.pointer (Wf ⟨b,o,Vc⟩),.pointer (Wf ⟨b',o',Vc⟩)]=>(cW H b o 1).getD []++(cW H b' o' 1).getD []
 |_=>[]
def lits:bF->Option am
 |[]=>Wf []
 | x::l=>match x,lits l with
  |.int k n,Wf r=>Wf (.int k n::r)
  |.str s,Wf r=>Wf (.string ⟨⟨s⟩⟩::r)
  |_,_=>Vc
def xy:D->Option (Nat×bF)
 |.sl n l=>Wf (n,l)
 |.pl (.slice Vc 0 0)=>Wf (0,[])
 |_=>Vc
def zo(p q:D):Option (List am):=match xy p,xy q with
 | some (k,l),Wf (k',m)=>match lits l,lits m with
  |some xs,Wf ys=>if k=k'∧RW xs=k∧RW ys=k∧k<4611686018427387904 then Wf ((xs.zip ys).map λx=>[x.1,x.2])else Vc
  |_,_=>Vc
 |_,_=>Vc
def Kp(f:fI)(cs:bA):Option (List am):=match Nat.beq f F.rS with
 | true=>match cs with
  |[.dptr [p,q,_] 0]=>zo p q
  |_=>Vc
 | false=>match Nat.beq f F.KD with
  | true=>match cs with
   |[.dptr [p] 0,.dptr [q] 0]=>zo p q
   |_=>Vc
  |false=>Vc
def X:dh:={P:=Go.Proofs.Tryz.prog,allow:=fC apv,glob:=λg=>Nat.beq g gD,orc:=λf args=>(match Nat.beq f F.xm with
 |true=>CU args
 | false=>match Nat.beq f F.u7 with
  |true=>Gv args
  |false=>Vc),seq:=tL,seqK:=CL}
def vQ:bF:=[.int .u64 1,.int .u64 10,.int .u64 100,.int .u64 1000,.int .u64 10000,.int .u64 100000,.int .u64 1000000,.int .u64 10000000,.int .u64 100000000,.int .u64 1000000000,.int .u64 10000000000,.int .u64 100000000000,
 .int .u64 1000000000000,.int .u64 10000000000000,.int .u64 100000000000000,.int .u64 1000000000000000,.int .u64 10000000000000000,.int .u64 100000000000000000,.int .u64 1000000000000000000,.int .u64 10000000000000000000]
def Y:d7:={X:=X,ty:=λt=>zH (Cp xf (t/16)) (t%16),glob:=λg=>(match Nat.beq g gD with
 |true=>Wf vQ
 |false=>Vc),seq:=Kp}
end
end Go.Vm
set_option maxRecDepth 100000
namespace Go.Vm
open Go Go.Am
variable{x:Prop}{y w:vl}{P:pG}{t:tI}{d p:D}{z l:bF}{k k':bH}{a b f v0 c v:V}{h0 h:Hp}{T:bH->Prop}{s n m:Nat}{ps:List (Nat×V)}{dr:Bool}
def Na:vl->vl->Bool
 |.pointer Vc,.pointer Vc=>Th
 |.slice Vc a b,.slice Vc c d=>a == c&&b == d
 |.nilFunc,.nilFunc=>Th
 |.nilIface,.nilIface=>Th
 |.map Vc,.map Vc=>Th
 |.chan Vc,.chan Vc=>Th
 |_,_=>SM
theorem amk{x:vl}(h:Na x y=Th):x=y:=by unfold Na at h;split at h<;>first|rfl|(simp at h;obtain⟨rfl,rfl⟩:=h;rfl)|cases h
def Nb:D->D->Bool
 |.int k a,.int l b=>decide (k=l)&&decide (a=b)
 |.bool a,.bool b=>a == b
 |.str a,.str b=>a == b
 |.pl a,.pl b=>Na a b
 |_,_=>SM
theorem aml{x y:D}(h:Nb x y=Th):x=y:=by
 unfold Nb at h;split at h
 .simp at h;obtain⟨rfl,rfl⟩:=h;rfl
 .simp at h;subst h;rfl
 .simp at h;subst h;rfl
 .rw[amk h]
 .cases h
def D5:bF->bF->Bool
 |[],[]=>Th
 |x::l,y::m=>Nb x y&&D5 l m
 |_,_=>SM
theorem XM:∀{l m:bF},D5 l m=Th->l=m
 |[],[],_=>rfl
 | x::l,y::m,h=>by
  simp[D5,Z7]at h;rw[aml h.1,XM h.2]
 |[],_::_,h=>by cases h
 |_::_,[],h=>by cases h
def Ml(P:pG)(t:tI)(k:Ty):Bool:=match k with
 |.i k=>match P.underlying t with|some (.int k')=>decide (k'=k)|_=>SM
 |.b=>match P.underlying t with|some .bool=>Th|_=>SM
 |.s=>match P.underlying t with|some .string=>Th|_=>SM
 |.p=>match P.underlying t with|some (.pointer _)=>Th|_=>SM
 |.f=>match P.underlying t with|some (.func ..)=>Th|_=>SM
 |.it=>match P.underlying t with|some (.interface _)=>Th|_=>SM
 |.sl e=>match P.underlying t with|some (.slice e')=>e' == e|_=>SM
 |.ar n e=>match P.underlying t with|some (.array n' e')=>n' == n&&e' == e|_=>SM
 |.st fs=>match P.underlying t with|some (.struct gs)=>decide (gs.toList.map (λf=>(f.offset,ci P f.type))=fs.map λp=>(p.1,Wf p.2))|_=>SM
 |.o=>Th
def Mj(P:pG)(t:tI):D->Bool
 |.int _ _=>match P.underlying t with|some (.int _)=>Th|_=>SM
 |.bool _=>match P.underlying t with|some .bool=>Th|_=>SM
 |.str _=>match P.underlying t with|some .string=>Th|_=>SM
 |_=>SM
theorem akd(h:Mj P t d=Th):Hv P t d:=by
 unfold Mj at h;split at h
 .split at h
  .rename_i hu;exact⟨_,hu⟩
  .cases h
 .split at h
  .rename_i hu;exact hu
  .cases h
 .split at h
  .rename_i hu;exact hu
  .cases h
 .cases h
def MY(P:pG)(t:tI)(z:bF):Bool:=match P.underlying t with
 |some (.struct gs)=> !P.stoodInHeld t && !P.eqGuardType P.depth t&&decide (gs.size=RW z)&&(gs.toList.zipIdx.zip z).all λx=>x.1.1.offset == x.1.2&&x.1.1.name != "_" && Mj P x.1.1.type x.2
 |_=>SM
theorem alS(h:MY P t z=Th):Jd P t z:=by
 unfold MY at h;split at h
 .rename_i gs hu;simp only[Z7,Y4,dT,Zz]at h;obtain⟨⟨⟨h1,h2⟩,h3⟩,h4⟩:=h;refine⟨gs,hu,h1,h2,h3,λi f d hf hd=>?_⟩
  have:=h4 ((f,i),d) (by
   apply Yb (i:=i);rw[List.getElem?_zip_eq_some];exact⟨by rw[List.getElem?_zipIdx,hf];simp,hd⟩)
  simp only[beq_iff_eq,bne_iff_ne]at this;exact⟨this.1.1,this.1.2,akd this.2⟩
 .cases h
def EQ(P:pG)(t:tI)(i:c8):Bool:=(!i.eq||MY P t i.z)&&match i.k with
 |.o=>Th
 | k=>Ml P t k&&decide (ci P t=Wf i.sz)&&decide (qj P t=Wf i.bytes)&&match fX P t with
  |some z=>plain z&&z.cells.size == i.sz&&(z.cells.toList.all λc=>plain c&&okCell c)&&D5 (z.cells.toList.map dJ) i.z
  |none=>SM
theorem Pr{i:c8}(h:EQ P t i=Th):zh P t i:=by
  unfold EQ at h;rw[Z7]at h;obtain⟨h0,h⟩:=h
  have heq:i.eq=Th->Jd P t i.z:=λe=>by
    rw[e]at h0;exact alS (by simpa using h0)
  by_cases hk:i.k = .o
  · exact⟨by rw[hk];trivial,λh=>absurd hk h,λh=>absurd hk h,λh=>absurd hk h,heq⟩
  · have h2:Ml P t i.k=Th∧ci P t=Wf i.sz∧qj P t=Wf i.bytes∧(match fX P t with
        |some z=>plain z&&z.cells.size == i.sz&&(z.cells.toList.all λc=>plain c&&okCell c)&&D5 (z.cells.toList.map dJ) i.z
        |none=>SM)=Th:=by
      split at h
      · rename_i e;exact absurd e hk
      · simp only[Z7,dT]at h
        exact⟨h.1.1.1,h.1.1.2,h.1.2,h.2⟩
    obtain⟨h1,h2,h3,h4⟩:=h2;refine⟨?_,λ_=>h2,λ_=>h3,λ_=> ?_,heq⟩
    · unfold Ml at h1
      cases hq:i.k<;>rw[hq]at h1<;>dsimp only at h1 ⊢
      all_goals first
        |trivial
        | (split at h1
           · rename_i hu
             first
               |(simp only[dT]at h1;subst h1;exact hu)
               |exact hu
               |exact⟨_,hu⟩
               |exact⟨_,_,_,hu⟩
               |(simp only[beq_iff_eq]at h1;subst h1;exact hu)
               |(simp only[Z7,beq_iff_eq]at h1;obtain⟨rfl,rfl⟩:=h1;exact hu)
               |(simp[dT]at h1;exact⟨_,hu,h1⟩)
           · cases h1)
    · split at h4
      · rename_i z hz
        simp only[Z7,beq_iff_eq,Zz]at h4;refine⟨z,hz,h4.1.1.1,XM h4.2,h4.1.1.2,λc hc=> ?_⟩;have:=h4.1.2 c hc;exact this
      · cases h4
theorem JB:∀(l:List (List c8))(n:Nat),RW l<=n->Cp l n=[]
 |[],_,_=>rfl
 |_::_,0,h=>by simp at h
 |_::l,n+1,h=>JB l n (by simpa using h)
theorem aci:(List.range (16*RW xf)).all (λt=>EQ Y.X.P t (Y.ty t))=Th:=du
section
variable{F:Nat->Prop}{H:AH}
theorem Dp:∀{l:bF}{xs:am},lits l=Wf xs->(∀v∈xs,iH v)∧∀ws,bj F H l ws->ws=xs
 | [],xs,h=>by
  simp only[lits,Z9]at h;subst h;exact⟨λv hv=>(by cases hv),λws hw=>by simpa only[bj]using hw⟩
 | x::l,xs,h=>by
  unfold lits at h;split at h
  .rename_i k n r hr;simp[Z9]at h;subst h;obtain⟨q1,q2⟩:=Dp hr;refine⟨λv hv=>?_,λws hw=>?_⟩
   .rcases Zx.1 hv with rfl|hv
    .exact⟨rfl,rfl⟩
    .exact q1 v hv
   .simp[bj,RD]at hw;obtain⟨v,us,rfl,rfl,h2⟩:=hw;rw[q2 us h2]
  .rename_i s r hr;simp[Z9]at h;subst h;obtain⟨q1,q2⟩:=Dp hr;refine⟨λv hv=>?_,λws hw=>?_⟩
   .rcases Zx.1 hv with rfl|hv
    .exact⟨rfl,rfl⟩
    .exact q1 v hv
   .simp[bj,RD]at hw;obtain⟨v,us,rfl,rfl,h2⟩:=hw;rw[q2 us h2]
  .cases h
theorem QP{k:Nat}{xs:am}(h:xy p=Wf (k,l))(hl:lits l=Wf xs)(hk:RW xs=k)(hw:RD F H p w):fH H 1 w=Wf (k,xs):=by
 obtain⟨q1,q2⟩:=Dp (F:=F) (H:=H) hl;unfold xy at h;split at h
 .rename_i n l';simp[Z9,Z5]at h;obtain⟨rfl,rfl⟩:=h;simp only[RD]at hw;rcases hw with⟨rfl,rfl,h3⟩|⟨c,o,cap,vs,m,rfl,h1,h2,h3,h4,h5,h6,h7,h8⟩
  .simp only[lits,Z9]at hl;subst hl;rcases h3 with rfl|⟨c,o,cap,rfl,_⟩
   .rfl
   .simp[fH]
  .have e:=q2 vs h7;subst e
   have hl:RW l'=n:=by
    rw[<-hk,agO h6]
   simp[fH,Y1];rw[iN aa,<-hl,h6];simp
 .simp only[Z9,Z5]at h;obtain⟨rfl,rfl⟩:=h;simp only[lits,Z9]at hl;subst hl;simp[RD]at hw;obtain⟨rfl,_⟩:=hw;rfl
 .cases h
theorem QO{k:Nat}(h:xy p=Wf (k,l))(hw:RD F H p w):yC w=Th:=by
 unfold xy at h;split at h
 .rename_i n l';simp only[RD]at hw;rcases hw with⟨_,_,h3⟩|⟨c,o,cap,vs,m,rfl,_⟩
  .rcases h3 with rfl|⟨c,o,cap,rfl,_⟩<;>rfl
  .rfl
 .simp[RD]at hw;obtain⟨rfl,_⟩:=hw;rfl
 .cases h
theorem EH{q:D}{xs:List am}(h:zo p q=Wf xs):(∀z∈xs,∀v∈z,iH v)∧∀v w,RD F H p v->RD F H q w->w8 H v w=Wf xs:=by
 unfold zo at h;split at h
 case h_2=>cases h
 rename_i k l k' m hp hq;split at h
 case h_2=>cases h
 rename_i us vs hl hm;split at h
 case isFalse=>cases h
 rename_i hc;simp[Z9]at h;subst h;have o1:=(Dp (F:=F) (H:=H) hl).1;have o2:=(Dp (F:=F) (H:=H) hm).1;refine⟨λz hz v hv=>?_,λv w hv hw=>?_⟩
 .obtain⟨⟨a,b⟩,hab,rfl⟩:=Zw.1 hz;have:=List.of_mem_zip hab;simp[Zx,Y3,or_false]at hv;rcases hv with rfl|rfl
  .exact o1 _ this.1
  .exact o2 _ this.2
 .unfold w8;rw[QP hp hl hc.2.1 hv,QP hq hm (hc.2.2.1.trans hc.1) hw];have c1:(us.all λv=>plain v&&okCell v)=Th:=Zz.2 λx hx=>by have:=o1 x hx;simp[this.1,this.2]
  have c2:(vs.all λv=>plain v&&okCell v)=Th:=Zz.2 λx hx=>by have:=o2 x hx;simp[this.1,this.2]
  exact ip ⟨hc.1,hc.2.1,hc.2.2.1,hc.2.2.2,by rw[QO hp hv,QO hq hw];rfl,c1,c2⟩
end
theorem yOk:sZ Y where
 seq gf cs xs h0:=by
  have h:Kp gf cs=Wf xs:=h0;clear h0;unfold Kp at h;split at h
  .rename_i hg;split at h
   .rename_i p q d;refine⟨(EH (F:=λ_=>True) (H:=⟨0,[]⟩) h).1,λφ F H hp lb hr=>?_⟩;simp only[aK,RV]at hr;obtain⟨v,_,rfl,⟨c,o,vs,rfl,hF,hrd,hd⟩,rfl⟩:=hr;simp only[bj]at hd;obtain⟨v1,_,rfl,d1,v2,_,rfl,d2,v3,_,rfl,d3,rfl⟩:=hd;rw[show([p,q,d]:bF).length=3 from rfl]at hrd;refine⟨?_,λF' H' hl=>?_⟩
    .rw[show Y.X.seq=tL from rfl];unfold tL;rw[hg];simp[Nat.add_zero];rw[hrd];exact(EH h).2 _ _ d1 d2
    .rw[show Y.X.seqK=CL from rfl];simp[CL,Nat.add_zero];rw[xQ (hl.keep c hF)]
   .cases h
  .rename_i hg;split at h
   .rename_i hg2;split at h
    .rename_i p q;refine⟨(EH (F:=λ_=>True) (H:=⟨0,[]⟩) h).1,λφ F H hp lb hr=>?_⟩;simp only[aK,RV]at hr;obtain⟨v,_,rfl,⟨c,o,vs,rfl,hF,hrd,hd⟩,v',_,rfl,⟨c',o',vs',rfl,hF',hrd',hd'⟩,rfl⟩:=hr;simp only[bj]at hd hd';obtain⟨v1,_,rfl,d1,rfl⟩:=hd;obtain⟨v2,_,rfl,d2,rfl⟩:=hd';rw[show([p]:bF).length=1 from rfl]at hrd;rw[show([q]:bF).length=1 from rfl]at hrd'
     refine⟨?_,λF' H' hl=>?_⟩
     .rw[show Y.X.seq=tL from rfl];unfold tL;rw[hg,hg2];simp[Nat.add_zero];rw[hrd,hrd'];exact(EH h).2 _ _ d1 d2
     .rw[show Y.X.seqK=CL from rfl];simp[CL,Nat.add_zero];rw[xQ (hl.keep c hF),xQ (hl.keep c' hF')]
    .cases h
   .cases h
 ty t:=by
  by_cases ht:t<16*RW xf
  .exact Pr (Zz.1 aci t (Xi.2 ht))
  .apply Pr
   have:(Y.ty t).k=.o:=by
    show(zH (Cp xf (t/16)) (t%16)).k=.o
    have h2:∀t n:Nat,¬t<16*n->n<=t/16:=λt n hn=>by omega
    rw[JB xf (t/16) (h2 t _ ht)];rfl
   have h2:(Y.ty t).eq=SM:=by
    show(zH (Cp xf (t/16)) (t%16)).eq=SM
    have h2:∀t n:Nat,¬t<16*n->n<=t/16:=λt n hn=>by omega
    rw[JB xf (t/16) (h2 t _ ht)];rfl
   unfold EQ;rw[this,h2];rfl
theorem aaC{o:Option V}{k k':V->Prop}(h1:x=bnd o k)(h:∀v,k v=k' v):x=bnd o k':=by rw[h1,funext h]
theorem WZ{o:V}{i:Nat}{k k':V->Prop}(h1:x=ext o i k)(h:∀v,k v=k' v):x=ext o i k':=by rw[h1,funext h]
theorem Tw{op:BinOp}{k k':V->Prop}(h1:x=pW h0 op a b k)(h:∀v,k v=k' v):x=pW h0 op a b k':=by rw[h1,funext h]
theorem pF(h1:x=T k)(h:∀v h,k v h=k' v h):x=T k':=by rw[h1,show k=k' from funext λv=>funext λy=>h v y]
theorem aaq{C:rF}{a:bA}(h1:x=bp C h0 f a k)(h:∀v h,k v h=k' v h):x=bp C h0 f a k':=pF h1 h
theorem aar{C:rE}{a:bA}(h1:x=eO C h0 f a s k)(h:∀v h,k v h=k' v h):x=eO C h0 f a s k':=pF h1 h
theorem abe{cs:bA}(h1:x=cr s cs h0 k)(h:∀v h,k v h=k' v h):x=cr s cs h0 k':=pF h1 h
theorem abf{cs:bF}(h1:x=mF s n cs h0 k)(h:∀v h,k v h=k' v h):x=mF s n cs h0 k':=pF h1 h
theorem aaz(h1:x=cC s v0 h0 k)(h:∀v h,k v h=k' v h):x=cC s v0 h0 k':=pF h1 h
theorem UF(h1:x=cu n z ps h0 k)(h:∀v h,k v h=k' v h):x=cu n z ps h0 k':=pF h1 h
theorem UE(h1:x=kt s n z ps h0 k)(h:∀v h,k v h=k' v h):x=kt s n z ps h0 k':=pF h1 h
theorem TQ(h1:x=fS s n z h0 a b k)(h:∀v h,k v h=k' v h):x=fS s n z h0 a b k':=pF h1 h
theorem Qq(h1:x=aS h0 n a b k)(h:∀v h,k v h=k' v h):x=aS h0 n a b k':=pF h1 h
theorem aa8(h1:x=cX dr s n m a b h0 k)(h:∀v h,k v h=k' v h):x=cX dr s n m a b h0 k':=pF h1 h
theorem apN(h1:x=qk dr s n m z a b h0 k)(h:∀v h,k v h=k' v h):x=qk dr s n m z a b h0 k':=pF h1 h
theorem V1{w:Bool}(h1:x=gd c w h0 T k)(h:∀v h,k v h=k' v h):x=gd c w h0 T k':=pF h1 h
theorem ZY{A A' B B':Prop}(h1:x=aQ c A B)(ha:A=A')(hb:B=B'):x=aQ c A' B':=by rw[h1,ha,hb]
theorem Vi{k k':bA->Hp->Prop}{T T':(bA->Hp->Prop)->Prop}(h1:x=jn k T)(hk:∀l h,k l h=k' l h)(hT:∀q,T q=T' q):x=jn k' T':=by rw[h1,show k=k' from funext λv=>funext λy=>hk v y,show T=T' from funext hT]
theorem T9{s s':bJ}{Pc:ax}{h2:Hp}{l:bA}{k k':KL}(h1:x=lp s Pc h0 l h2 k)(hs:∀l h q,s l h q=s' l h q)(hk:∀ex l h,k ex l h=k' ex l h):x=lp s' Pc h0 l h2 k':=by rw[h1,show s=s' from funext λa=>funext λb=>funext λc=>hs a b c,show k=k' from funext λa=>funext λb=>funext λc=>hk a b c]
theorem XB{e ex:Exit}{q q':bA->Hp->Prop}{r r':List (Exit×(bA->Hp->Prop))}{l:bA}(h1:x=aV ((e,q)::r) ex l h)(hq:∀l h,q l h=q' l h)(hr:aV r ex l h=aV r' ex l h):x=aV ((e,q')::r') ex l h:=by
 rw[h1,show q=q' from funext λv=>funext λy=>hq v y];simp only[aV];split
 .rfl
 .exact hr
theorem UQ{y:Prop}{k:V->Prop}(h1:x=bnd (Wf v) k)(h2:k v=y):x=y:=h1.trans h2
noncomputable def gl(g:Nat):V:=match Y.glob g with
 |some cs=>.dptr cs 0
 |none=>.junk
end Go.Vm
