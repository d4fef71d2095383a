/- Lemmas. -/
import Derived.Test.YthjogmhfdpaaaabGreatDoorQVmB
set_option linter.unusedVariables false
set_option linter.unusedSimpArgs false
open Option renaming some->Wf,none->Vc
open Bool renaming true->Th,false->SM
open Go renaming Value->vl,FuncId->fI,IntKind->iK,Program->pG,TypeId->tI
open List renaming replicate->So,length->RW
namespace Go.Vm
open Go Go.Am
variable{p:Prop}{k:iK}{n i:Int}{j a b:Nat}{C:rM}{args ds:bq}
@[simp]theorem B9(v:V)(k:V->Prop):bnd (Wf v) k=k v:=rfl
theorem ahL[Decidable p](hp:p)(x y:V):kU (.d (.bool (decide p))) x y=Wf x:=by simp[kU,hp]
theorem ahN[Decidable p](hp:¬p)(x y:V):kU (.d (.bool (decide p))) x y=Wf y:=by simp[kU,hp]
@[simp low]theorem aq3(b:Bool)(x y:V):kU (.d (.bool b)) x y=Wf (if b=Th then x else y):=by cases b<;>rfl
@[simp]theorem arW(l:bq)(i:Nat)(k:V->Prop):ext (.tup l) i k=bnd l[i]? k:=rfl
theorem DK{k:bq->Hp->Prop}{T:(bq->Hp->Prop)->Prop}{l:bq}{h:Hp}(hT:∀q,T q=q l h):jn k T=k l h:=hT k
@[simp]theorem WR(x:V)(l:bq):ge (x::l) 0=x:=rfl
@[simp]theorem arK(x:V)(l:bq)(n:Nat):ge (x::l) (n+1)=ge l n:=rfl
@[simp]theorem arL(x y:V)(l:bq):ge (x::y::l) 1=y:=rfl
@[simp]theorem arI(x y z:V)(l:bq):ge (x::y::z::l) 2=z:=rfl
@[simp]theorem arJ(x y z u:V)(l:bq):ge (x::y::z::u::l) 3=u:=rfl
@[simp] theorem pA (i:Nat)(q:bq->Hp->Prop)(r:List (Exit×(bq->Hp->Prop)))(l:bq)(h:Hp):aU ((.exit i,q)::r) (.exit i) l h=q l h:=by simp[aU,D7,Xs]
@[simp]theorem Io(q:bq->Hp->Prop)(r:List (Exit×(bq->Hp->Prop)))(l:bq)(h:Hp):aU ((.ret,q)::r) .ret l h=q l h:=rfl
@[simp]theorem Im(i:Nat)(p:bq->Hp->Prop)(r:List (Exit×(bq->Hp->Prop)))(l:bq)(h:Hp):aU ((.exit i,p)::r) .ret l h=aU r .ret l h:=rfl
theorem aL{step:bK}{Pc:ax}{h0:Hp}{l:bq}{h:Hp}{k:KL}(hs:step l h (Dt Pc h0 (λl h=>lp step Pc h0 l h k) k)):lp step Pc h0 l h k:=by
 intro I hI;refine hI l h ⟨_,hs,λex l' h' hq=>?_⟩;cases ex
 case normal=>exact⟨hq.1,hq.2 I hI⟩
 all_goals exact hq
@[simp]theorem aro(Pc:ax)(h0:Hp)(I:bq->Hp->Prop)(k:KL)(l:bq)(h:Hp):Dt Pc h0 I k .normal l h=(clean Pc l h=Th∧I l (dl Pc 0 h0 h)):=rfl
@[simp]theorem arp(Pc:ax)(h0:Hp)(I:bq->Hp->Prop)(k:KL)(i:Nat)(l:bq)(h:Hp):Dt Pc h0 I k (.exit i) l h=k (.exit i) l h:=rfl
@[simp]theorem arn(Pc:ax)(h0:Hp)(I:bq->Hp->Prop)(k:KL)(l:bq)(h:Hp):Dt Pc h0 I k .ret l h=k .ret l h:=rfl
theorem Tw:∀l:bq,fK [] l=Th:=by
 intro l
 have key:∀x:V,gZ [] x=Th:=by
  intro x
  induction x using V.rec (motive_2:=λl=>fK [] l=Th)with
  |agg l ih=>trivial
  |tup l ih=>trivial
  |fn g a b iha ihb=>grind[gZ]
  |ifc t x ih=>trivial
  |nil=>rfl
  |cons x l ih ihl=>grind[fK]
  |_=>rfl
 induction l with
 |nil=>rfl
 |cons x l ih=>grind[fK]
theorem Tz:∀(h:Hp)(i:Nat),iq [] i h=Th
 |[],_=>rfl
 | (_,b)::h,i=>by
  simp[iq,Tz h,X8,X4,Y6];right;cases b<;>simp[offB,Tw]
@[simp]theorem clean_nil(l:bq)(h:Hp):clean [] l h=Th:=by simp[clean,Tw,Tz]
theorem Ge:∀(i:Nat)(h0 h:Hp),RW h=RW h0->dl [] i h0 h=h
 |_,[],h,_=>by cases h<;>rfl
 |_,_::_,[],_=>rfl
 | i,(e0,b0)::h0,(e,b)::h,hl=>by
  simp only[dl,fC,iT];rw[Ge (i+1) h0 h ae]
theorem wrap_i64(h : -9223372036854775808<=n∧n<=9223372036854775807):iK.wrap .i64 n=n:=by
 have e1:(2:Int)^64=18446744073709551616:=am;have e2:(2:Int)^(64-1)=9223372036854775808:=am
 grind[iK.wrap,iK.bits,iK.signed]
theorem Ju(hk:k.signed=SM)(h:0<=n∧n<2^k.bits):k.wrap n=n:=by grind[iK.wrap,Int.emod_eq_of_lt]
theorem wrap_u64(h:0<=n∧n<18446744073709551616):iK.wrap .u64 n=n:=Ju rfl h
theorem wrap_u32(h:0<=n∧n<4294967296):iK.wrap .u32 n=n:=Ju rfl h
theorem Pf(n:Int):iK.wrap .u64 n=n%18446744073709551616:=by rfl
@[simp]theorem aso(k:iK)(a b:Int):aD .lss (.d (.int k a)) (.d (.int k b))=Wf (.d (.bool (decide (a<b)))):=by simp[aD,iR,jt,dL]
@[simp]theorem asp(k:iK)(a b:Int):aD .leq (.d (.int k a)) (.d (.int k b))=Wf (.d (.bool (decide (a<=b)))):=by simp[aD,iR,jt,dL]
@[simp]theorem asq(k:iK)(a b:Int):aD .gtr (.d (.int k a)) (.d (.int k b))=Wf (.d (.bool (decide (b<a)))):=by simp[aD,iR,jt,dL]
@[simp]theorem asr(k:iK)(a b:Int):aD .geq (.d (.int k a)) (.d (.int k b))=Wf (.d (.bool (decide (b<=a)))):=by simp[aD,iR,jt,dL]
@[simp]theorem ass(k:iK)(a b:Int):aD .eql (.d (.int k a)) (.d (.int k b))=Wf (.d (.bool (decide (a=b)))):=by simp[aD,iR,jt,dL];rfl
@[simp]theorem asn(k:iK)(a b:Int):aD .neq (.d (.int k a)) (.d (.int k b))=Wf (.d (.bool (decide (a≠b)))):=by simp[aD,iR,jt,dL];rfl
theorem Eu(k:iK)(a b:Int):aD .add (.d (.int k a)) (.d (.int k b))=Wf (.d (.int k (k.wrap (a+b)))):=by simp[aD,iR,jt,dL]
theorem Ca(k:iK)(a b:Int):aD .sub (.d (.int k a)) (.d (.int k b))=Wf (.d (.int k (k.wrap (a-b)))):=by simp[aD,iR,jt,dL]
theorem zq(k:iK)(a b:Int):aD .mul (.d (.int k a)) (.d (.int k b))=Wf (.d (.int k (k.wrap (a*b)))):=by simp[aD,iR,jt,dL]
@[simp]theorem aad(k l:iK)(n:Int):ft k (.d (.int l n))=Wf (.d (.int k (k.wrap n))):=rfl
@[simp]theorem asu(a b:Bool):jE .eql (.d (.bool a)) (.d (.bool b))=Wf (.d (.bool (a == b))):=rfl
@[simp]theorem ast(a b:Bool):jE .neq (.d (.bool a)) (.d (.bool b))=Wf (.d (.bool (a !=b))):=rfl
@[simp]theorem aqt(b:Bool):gL .not (.d (.bool b))=Wf (.d (.bool (!b))):=rfl
def aj{α:Type}(f:α->D)(l:List α):V:=.d (.sl (RW l) (l.map f))
section
variable{α:Type}(f:α->D)(l:List α)
@[simp]theorem ajD:bh (aj f l)=Wf (I (RW l)):=rfl
theorem sQ(h:Hp)(hj:i=j)(hl:j<RW l):bC h 1 (aj f l) (.d (.int k i))=Wf (.dptr (l.map f) j):=by subst hj;simp only[bC,aj];rw[ip ⟨aa,aa,ac⟩];simp
theorem pq(h:Hp)(hl:j<RW l):ld1 h (.dptr (l.map f) j)=Wf (.d (f l[j])):=by simp[ld1,hl]
end
section
variable{α:Type}(f:α->D)(l:List α)
theorem aaO(d top:Nat):eG d top Vc=Wf d:=rfl
theorem Jb{d top:Nat}(hi:i=j)(hj:j<=top):eG d top (Wf (.d (.int k i)))=Wf j:=by subst hi;simp only[eG];rw[ip ⟨aa,aa⟩];simp
theorem afc{h:Hp}{lo hi:Option V}{i:Nat}(h0:0<RW l)(hj:eG (RW l) (RW l) hi=Wf j)(hi2:eG 0 j lo=Wf i)(hij:i<=j)(hjl:j<=RW l):gU h 1 (aj f l) lo hi=Wf (aj f ((l.drop i).take (j-i))):=by simp only[gU,aj,hj,hi2];rw[ip ⟨ac,h0⟩];simp only[Y1,List.map_take,List.map_drop,Zp,Yl];rw[Yp aa]
theorem QW{h:Hp}(h0:0<RW l)(hi:i=j)(hj:j<=RW l):gU h 1 (aj f l) Vc (Wf (I i))=Wf (aj f (l.take j)):=by rw[afc f l h0 (Jb hi hj) (aaO 0 j) (Zb _) hj];simp
end
@[simp]theorem aqE(h:Hp)(x:D):bQ h (.d x)=Wf (.d (norm x),h):=by rfl
@[simp]theorem ari(k:iK)(n:Int):norm (.int k n)=.int k n:=rfl
@[simp]theorem ark(b:Bool):norm (.bool b)=.bool b:=rfl
@[simp]theorem aq9(s:bA):norm (.str s)=.str s:=rfl
@[simp]theorem arb(n:Nat)(l:bF):norm (.sl n l)=.sl n l:=rfl
@[simp]theorem arf:norm (.pl (.slice Vc 0 0))=.sl 0 []:=rfl
@[simp]theorem aev{α:Type}(h:Hp)(f:α->D)(l:List α):bQ h (aj f l)=Wf (aj f l,h):=by rfl
@[simp]theorem aqB(h:Hp):bY h []=Wf ([],h):=by rfl
theorem gG{D:rL}{h h':Hp}{f:fI}{args:bq}{v:V}{s:Nat}{k:bG}(hc:D f args h v h')(hk:k v h')(hn:∀n cells ex len cap,v≠.new n cells ex len cap)(hn2:∀n,v≠.cut n:=by simp)(hn3:∀n cells ex len cap y,v≠.tup [.new n cells ex len cap,.d y]:=by intro _ _ _ _ _ _ h;cases h)
  (hn4:∀n cells ex len cap,v≠.tup [.new n cells ex len cap]:=by intro _ _ _ _ _ h;cases h) (hn5:∀n cells ex len cap y,v≠.tup [.tup [.new n cells ex len cap],.d y]:=by intro _ _ _ _ _ _ h;cases h):eQ D h (.fn f [] []) args s k:=by grind[eQ]
theorem apa{h h':Hp}{f:fI}{args:bq}{n len cap:Nat}{cells:bF}{y:D}{s e:Nat}{b:Bk}{ex:Bool}{k:bG}{DD:rL}(hc:DD f args h (.tup [.new n cells ex len cap,.d y]) h')(hs:h'[s]?=Wf (e,b))
  (hk:k (.tup [.ref s (e+1) 0 len cap (RW cells),.d y]) (h'.set s (e+1,.data n cells ex SM))):eQ DD h (.fn f [] []) args s k:=by grind[eQ,new]
theorem jS{h h':Hp}{f:fI}{args:bq}{n len cap:Nat}{cells:bF}{s e:Nat}{b:Bk}{ex:Bool}{k:bG}{DD:rL}(hc:DD f args h (.new n cells ex len cap) h')(hs:h'[s]?=Wf (e,b))
  (hk:k (.ref s (e+1) 0 len cap (RW cells)) (h'.set s (e+1,.data n cells ex SM))):eQ DD h (.fn f [] []) args s k:=by grind[eQ,new]
theorem xa{h h':Hp}{f:fI}{v:V}{k:bG}(hs:bY h args=Wf (ds,h'))(hc:C f ds v)(hk:k v (if fk v then h else h')):bp C h (.fn f [] []) args k:=by grind[bp]
theorem ao8{h:Hp}{f:fI}{v:V}{k:bG}(hc:C f args v)(hs:bY h args=Wf (args,h))(hk:k v h):bp C h (.fn f [] []) args k:=
 xa hs hc ae
theorem Ls{x:D}{h:Hp}(hx:norm x=x):out (.d x) (.d x) h:=⟨h,by simp[hx]⟩
theorem ahV{α:Type}(f:α->D)(l:List α)(h:Hp):out (aj f l) (aj f l) h:=⟨h,ac⟩
@[simp]theorem aq4(k:iK)(n:Int)(h:Hp):out (.d (.int k n)) (.d (.int k n)) h:=Ls rfl
@[simp]theorem Ta(b:Bool)(h:Hp):out (.d (.bool b)) (.d (.bool b)) h:=Ls rfl
theorem FL{l:iK}(hb:b<=k.bits):aD .shr (.d (.int k a)) (.d (.int l b))=Wf (.d (.int k ((a/2^b:Nat):Int))):=by
 have h1:¬((b:Int)<0):=aa
 grind[aD,iR,jt,dL]
theorem Ce(h:a+b<18446744073709551616):aD .add (.d (.int .u64 a)) (.d (.int .u64 b))=Wf (.d (.int .u64 ((a+b:Nat):Int))):=by rw[Eu,wrap_u64 aa];simp
theorem G1(h:a*b<18446744073709551616):aD .mul (.d (.int .u64 a)) (.d (.int .u64 b))=Wf (.d (.int .u64 ((a*b:Nat):Int))):=by grind[zq,wrap_u64]
theorem aol(h:a<18446744073709551616):ft .u64 (.d (.int k a))=Wf (.d (.int .u64 a)):=by rw[aad,wrap_u64 aa]
section
variable{α:Type}{f:α->D}{l:List α}{h:Hp}{s e:Nat}{ex fr:Bool}
end
theorem aew{α:Type}{f:α->D}{l:List α}{h:Hp}{s e:Nat}{ex fr:Bool}(hs:h[s]?=Wf (e,.data 1 (l.map f) ex fr)){n m tot:Nat}(hn:n=RW l)(hm:n<=m)(ht:tot=RW l):
  bQ h (.ref s e 0 n m tot)=Wf (aj f l,h.set s (e,.data 1 (l.map f) ex Th)):=by subst hn;subst ht;simp only[bQ,dX,aH,hs,iT,List.length_map];rw[ip ⟨trivial,hm,aa⟩];simp only[Yz,Y1,bP,aj];rw[Zx ac]
end Go.Vm
namespace Go.Big
variable{l a b o:ax}{i x n k m:Nat}
def val(B:Nat):ax->Nat
 |[]=>0
 |x::l=>x+B*val B l
def f9:ax->ax
 |[]=>[]
 | x::l=>match f9 l with
  |[]=>if x=0 then[]else[x]
  |y::r=>x::y::r
def qp(B:Nat):Nat->Nat->ax
 |0,_=>[]
 |f+1,n=>if n=0 then[]else n%B::qp B f (n/B)
def aI(B n:Nat):ax:=qp B n n
def bL(B:Nat)(l:ax):Prop:=∀x∈l,x<B
section
variable{B:Nat}
theorem val_append(a b:ax):val B (a++b)=val B a+B^(RW a)*val B b:=by
 induction a with
 |nil=>simp[val]
 |cons x a ih=>grind[val]
theorem jH(hB:0<B)(h:bL B l):val B l<B^(RW l):=by
 induction l with
 |nil=>simp[val]
 | cons x l ih=>
  have h1:=ih λy hy=>h y ae
  have h2:=h x ac;simp only[val,List.length_cons,Nat.pow_succ];have:B*(val B l+1)<=B*B^(RW l):=Z4 B h1
  grind
theorem bL.take{l:ax}(h:bL B l)(n:Nat):bL B (l.take n):=λx hx=>h x (Wo hx)
theorem bL.drop{l:ax}(h:bL B l)(n:Nat):bL B (l.drop n):=λx hx=>h x (List.mem_of_mem_drop hx)
theorem bL.get(h:bL B l)(hi:i<RW l):l[i]<B:=h _ (X2 hi)
theorem bL.append(ha:bL B a)(hb:bL B b):bL B (a++b):=λx hx=>by
 rcases Xc.1 hx with h|h
 .exact ha x h
 .exact hb x h
theorem ado(l:ax):val B (f9 l)=val B l:=by
 induction l with
 |nil=>rfl
 | cons x l ih=>
  grind[f9,val]
theorem adq(h:bL B l):bL B (f9 l):=by
 induction l with
 |nil=>exact h
 | cons x l ih=>
  have h1:=ih λy hy=>h y ae
  have hx:=h x ac;unfold f9;split
  .split
   .grind
   .intro y hy;grind
  .rename_i y r he;rw[he]at h1;intro z hz;rcases Zy.1 hz with rfl|hz
   .exact hx
   .exact h1 z hz
def oO(l:ax):Prop:=∀h:l≠[],l.getLast h≠0
theorem ads(l:ax):oO (f9 l):=by
 induction l with
 |nil=>intro h;trivial
 | cons x l ih=>
  unfold f9;split
  .split
   .grind
   .rename_i hx;intro h;trivial
  .rename_i y r he;rw[he]at ih;intro h;rw[List.getLast_cons ac];exact ih ac
theorem adr(h:oO l):f9 l=l:=by
 induction l with
 |nil=>rfl
 | cons x l ih=>
  unfold f9;cases l with
  | nil=>
   have:=h ac
   grind[f9]
  | cons y r=>
   have:oO (y::r):=λhh=>by have:=h ac;rwa [List.getLast_cons ac]at this
   grind
theorem JH(l:ax):f9 (l++[0])=f9 l:=by
 induction l with
 |nil=>rfl
 |cons x l ih=>grind[f9]
theorem JI(h:x≠0):f9 (l++[x])=l++[x]:=adr λ_=>by grind
theorem Ix(hB:2<=B):∀(f n:Nat),n<=f->val B (qp B f n)=n∧bL B (qp B f n)∧oO (qp B f n)
 | 0,n,h=>by
  have:n=0:=aa;subst this;exact⟨rfl,λx hx=>by trivial,λhx=>absurd rfl hx⟩
 | f+1,n,h=>by
  unfold qp;split
  .rename_i h0;subst h0;exact⟨rfl,λx hx=>by simp at hx,λhx=>absurd rfl hx⟩
  .rename_i h0;have PJ:n/B<n:=Nat.div_lt_self aa aa;obtain⟨h1,h2,h3⟩:=Ix hB f (n/B) aa;refine⟨?_,?_,?_⟩
   .grind[val,Xp]
   .intro x hx;rcases Zy.1 hx with rfl|hx
    .exact Y7 _ aa
    .exact h2 x hx
   .intro MT;by_cases hd:qp B f (n/B)=[]
    .simp only[hd];rw[hd]at h1;simp[val]at h1
     have:n<B:=by
      rcases Zi n B with h|h
      .exact h
      .have:=V4 h (by omega:0<B);omega
     grind[X6]
    .rw[List.getLast_cons hd];exact h3 hd
theorem kS(hB:2<=B)(n:Nat):val B (aI B n)=n:=(Ix hB n n (Z8 n)).1
theorem jc(hB:2<=B)(n:Nat):bL B (aI B n):=(Ix hB n n (Z8 n)).2.1
theorem ND(hB:2<=B)(n:Nat):oO (aI B n):=(Ix hB n n (Z8 n)).2.2
theorem LJ(h:oO l)(hl:l≠[])(hB:0<B):val B l≠0:=by
 induction l with
 |nil=>trivial
 | cons x l ih=>
  cases l with
  |nil=>have:=h ac;trivial
  | cons y r=>
   have hn:oO (y::r):=λhh=>by have:=h ac;rwa [List.getLast_cons ac]at this
   have:=ih hn ac;simp only[val]at this ⊢;have:=Yk hB (Nat.pos_of_ne_zero this);omega
theorem TN(hB:0<B):∀{a b:ax},bL B a->bL B b->oO a->oO b->val B a=val B b->a=b
 |[],[],_,_,_,_,_=>rfl
 |[],y::b,_,_,_,hb,h=>absurd h.symm (LJ hb ac hB)
 |x::a,[],_,_,ha,_,h=>absurd h (LJ ha ac hB)
 | x::a,y::b,sa,sb,na,nb,h=>by
  have hx:=sa x ac;have hy:=sb y ac;simp[val]at h
  have e1:x=y:=by
   have:=RT (· % B) h;simpa[Xe,X6 hx,X6 hy]using this
  subst e1;have e2:val B a=val B b:=Xv hB aa;have tl:∀{l:ax}{x:Nat},oO (x::l)->oO l:=λ{l x} h hl=>by have:=h ac;grind
  rw[TN hB (λz hz=>sa z ae) (λz hz=>sb z ae) (tl na) (tl nb) e2]
theorem uI(hB:2<=B)(h:bL B l):aI B (val B l)=f9 l:=
 TN aa (jc hB _) (adq h) (ND hB _) (ads l) (by rw[kS hB,ado])
theorem rj(hB:2<=B):RW (aI B n)<=k↔n<B^k:=by
 have hv:=kS hB n;have hs:=jH aa (jc hB n);rw[hv]at hs;constructor
 .intro h;exact Z0 hs (Z2 aa h)
 .intro h;rcases Zi k (RW (aI B n)) with hk|hk
  .exfalso;have MT:aI B n≠[]:=by intro e;rw[e]at hk;simp at hk
   have hdrop:val B ((aI B n).drop k)≠0:=by
    refine LJ ?_ (by grind[List.drop_eq_nil_iff]) aa;intro hd;rw[List.getLast_drop];exact ND hB n MT
   have:=val_append (B:=B) ((aI B n).take k) ((aI B n).drop k);rw[Xu,hv,Zp,Yp aa]at this;have:=Z4 (B^k) (Nat.pos_of_ne_zero hdrop);omega
  omega
def yc(a b:ax):Nat->Int
 |0=>0
 |i+1=>if a.getD i 0<b.getD i 0 then -1 else if b.getD i 0<a.getD i 0 then 1 else yc a b i
def cmp(a b:Nat):Int:=if a<b then -1 else if b<a then 1 else 0
theorem Ti(hB:0<B){a b:ax}(ha:bL B a)(hb:bL B b):∀i,i<=RW a->i<=RW b->yc a b i=cmp (val B (a.take i)) (val B (b.take i))
 |0,_,_=>by rfl
 | i+1,h1,h2=>by
  have e:∀(l:ax)(h:i<RW l),val B (l.take (i+1))=val B (l.take i)+B^i*l[i]:=λl h=>by
   rw[Wq,val_append,Zp,Yp aa]
   grind[val]
  have la:=jH hB (ha.take i);have lb:=jH hB (hb.take i);rw[Zp,Yp aa]at la lb;rw[yc,e a aa,e b aa,Ti hB ha hb i aa aa];have ga:a.getD i 0=a[i]:=by simp[show i<RW a by omega]
  have gb:b.getD i 0=b[i]:=by simp[show i<RW b by omega]
  rw[ga,gb];generalize a[i]=x,b[i]=y at *;unfold cmp;rcases Nat.lt_trichotomy x y with h|h|h
  .rw[ip h];have:B^i*(x+1)<=B^i*y:=Z4 _ h;rw[Zm]at this;rw[ip aa]
  .grind
  .rw[iN aa,ip h];have:B^i*(y+1)<=B^i*x:=Z4 _ h;rw[Zm]at this;rw[iN aa,ip aa]
theorem Oa(hB:2<=B)(h:RW (aI B m)<RW (aI B n)):m<n:=by
 have h1:m<B^(RW (aI B m)):=(rj hB).1 (Z8 _);rcases Zi n (B^(RW (aI B m)))with h2|h2
 .have:=(rj hB).2 h2;omega
 .omega
theorem u9(l:ax)(i:Nat):val B (l.drop i)=l.getD i 0+B*val B (l.drop (i+1)):=by
 by_cases h:i<RW l
 .grind[Yw,val]
 .rw[Y9 aa,Y9 aa];simp[val,List.getElem?_eq_none (by omega:RW l<=i)]
theorem bL.getD{l:ax}(h:bL B l)(hB:0<B)(i:Nat):l.getD i 0<B:=by
 by_cases hi:i<RW l
 .simp_all[get]
 .simp[List.getElem?_eq_none (by omega:RW l<=i),hB]
theorem Px(l:ax)(x:Nat):val B (l++[x])=val B l+B^(RW l)*x:=by simp[val_append,val]
theorem JD(n:Nat):val B (So n 0)=0:=by
 induction n with
 |zero=>rfl
 |succ n ih=>grind[val]
theorem bL.snoc(h:bL B l)(hx:x<B):bL B (l++[x]):=h.append λy hy=>by grind
end
theorem zK{B:Nat}:∀(l:ax)(j x:Nat),j<RW l->val B (l.set j x)+B^j*l.getD j 0=val B l+B^j*x
 |[],j,x,h=>by simp at h
 |y::l,0,x,h=>by simp[val];omega
 | y::l,j+1,x,h=>by
  have:=zK (B:=B) l j x (by simpa using h);simp only[List.set_cons_succ,val,List.getD_cons_succ,Nat.pow_succ];rw[Zq (B^j) B,Nat.mul_assoc,Nat.mul_assoc];generalize val B (l.set j x)=p at *;generalize B^j*l.getD j 0=q at *;generalize B^j*x=r at *;have h2:B*(p+q)=B*(val B l+r):=by rw[this]
  rw[Zm,Zm]at h2;omega
theorem bL.set{B:Nat}{l:ax}(h:bL B l){j x:Nat}(hx:x<B):bL B (l.set j x):=by
 intro y hy;rcases Yj hy with h1|h1
 .exact h y h1
 .subst h1;exact hx
theorem Pw{B:Nat}(l:ax)(h:i<RW l):val B (l.take (i+1))=val B (l.take i)+B^i*l.getD i 0:=by rw[Wq,val_append,Zp,Yp aa];simp[List.getElem?_eq_getElem h,val]
theorem aiN{B:Nat}{j c a y v:Nat}(hj:j<RW o):
  val B (o.set j ((c+o.getD j 0+a*y)%B))+B^(j+1)*((c+o.getD j 0+a*y)/B+a*v)=val B o+B^j*(c+a*(y+B*v)):=by
 have h:=zK (B:=B) o j ((c+o.getD j 0+a*y)%B) hj;generalize val B (o.set j ((c+o.getD j 0+a*y)%B))=p at *;generalize o.getD j 0=w at *;have hd:=Xp (c+w+a*y) B;generalize(c+w+a*y)%B=r at *;generalize(c+w+a*y)/B=d at *;generalize val B o=q at *;generalize hP:B^j=P at *;rw[Nat.pow_succ,hP,Nat.mul_assoc]
 have e1:P*(B*(d+a*v))+P*r=P*(c+w+a*y)+P*(a*(B*v)):=by
  rw[<-Zm,<-Zm,<-hd,Zm B,Y3 a B v];congr 1;omega
 have e2:P*(c+a*(y+B*v))+P*w=P*(c+w+a*y)+P*(a*(B*v)):=by
  rw[<-Zm,<-Zm,Zm a];congr 1;omega
 omega
end Go.Big
namespace Go.Vm
open Go Go.Am
abbrev aO:c8:=⟨.f,1,8,[.pl .nilFunc],SM⟩
abbrev gV:c8:=⟨.o,1,0,[],SM⟩
abbrev AL:c8:=⟨.p,1,8,[.pl (.pointer Vc)],SM⟩
abbrev F9:c8:=⟨.i .i64,1,8,[.int .i64 0],SM⟩
abbrev F8:c8:=⟨.i .u8,1,1,[.int .u8 0],SM⟩
abbrev F7:c8:=⟨.s,1,16,[.str []],SM⟩
abbrev KY:c8:=⟨.i .u64,1,8,[.int .u64 0],SM⟩
abbrev KX:c8:=⟨.it,1,16,[.pl .nilIface],SM⟩
abbrev KW:c8:=⟨.i .i32,1,4,[.int .i32 0],SM⟩
abbrev KV:c8:=⟨.sl 3,1,24,[.pl (.slice Vc 0 0)],SM⟩
abbrev Se:c8:=⟨.st [(0,1),(1,1),(2,1),(3,1)],4,24,[.int .i64 0,.int .i64 0,.bool SM,.int .u8 0],SM⟩
abbrev Sd:c8:=⟨.st [(0,1),(1,1)],2,24,[.str [],.int .u64 0],SM⟩
abbrev Sb:c8:=⟨.st [(0,1)],1,8,[.pl (.pointer Vc)],SM⟩
abbrev Sa:c8:=⟨.st [(0,1),(1,1),(2,1)],3,40,[.int .u8 0,.pl (.slice Vc 0 0),.bool SM],SM⟩
abbrev R9:c8:=⟨.ar 4 27,8,8,[.int .i8 0,.int .u8 0,.int .i8 0,.int .u8 0,.int .i8 0,.int .u8 0,.int .i8 0,.int .u8 0],SM⟩
abbrev R8:c8:=⟨.st [(0,3),(3,32)],35,72,[.int .u8 0,.pl (.slice Vc 0 0),.bool SM,.int .i8 0,.int .u8 0,.int .i8 0,.int .u8 0,.int .i8 0,.int .u8 0,.int .i8 0,.int .u8 0,.int .i8 0,.int .u8 0,.int .i8 0,.int .u8 0,.int .i8 0,.int .u8 0,.int .i8 0,.int .u8 0,.int .i8 0,.int .u8 0,.int .i8 0,.int .u8 0,.int .i8 0,.int .u8 0,.int .i8 0,.int .u8 0,.int .i8 0,.int .u8 0,.int .i8 0,.int .u8 0,.int .i8 0,.int .u8 0,.int .i8 0,.int .u8 0],SM⟩
abbrev R7:c8:=⟨.sl 57,1,24,[.pl (.slice Vc 0 0)],SM⟩
abbrev R6:c8:=⟨.st [(0,1),(1,1),(2,1)],3,72,[.pl (.slice Vc 0 0),.pl (.slice Vc 0 0),.pl (.slice Vc 0 0)],SM⟩
abbrev R5:c8:=⟨.st [(0,3),(3,1)],4,96,[.pl (.slice Vc 0 0),.pl (.slice Vc 0 0),.pl (.slice Vc 0 0),.pl (.slice Vc 0 0)],SM⟩
abbrev R4:c8:=⟨.sl 60,1,24,[.pl (.slice Vc 0 0)],SM⟩
abbrev R3:c8:=⟨.st [(0,1),(1,2)],3,56,[.pl (.slice Vc 0 0),.str [],.str []],SM⟩
abbrev R2:c8:=⟨.st [(0,4),(4,2)],6,6,[.int .i8 0,.int .i8 0,.int .i8 0,.int .i8 0,.int .i8 0,.int .u8 0],SM⟩
abbrev RZ:c8:=⟨.st [(0,3),(3,1),(4,1)],5,88,[.pl (.slice Vc 0 0),.str [],.str [],.pl (.slice Vc 0 0),.int .i64 0],SM⟩
abbrev RY:c8:=⟨.sl 58,1,24,[.pl (.slice Vc 0 0)],SM⟩
abbrev RX:c8:=⟨.st [(0,1),(1,1),(2,1)],3,64,[.pl (.slice Vc 0 0),.pl (.slice Vc 0 0),.str []],SM⟩
abbrev RU:c8:=⟨.st [(0,1),(1,1)],2,32,[.int .i64 0,.pl (.slice Vc 0 0)],SM⟩
abbrev RS:c8:=⟨.sl 192,1,24,[.pl (.slice Vc 0 0)],SM⟩
abbrev RR:c8:=⟨.sl 202,1,24,[.pl (.slice Vc 0 0)],SM⟩
abbrev RQ:c8:=⟨.st [(0,1),(1,1),(2,1)],3,48,[.str [],.str [],.pl .nilIface],SM⟩
abbrev RP:c8:=⟨.st [(0,1),(1,1),(2,1),(3,1)],4,40,[.pl (.pointer Vc),.pl (.pointer Vc),.pl (.pointer Vc),.str []],SM⟩
abbrev RO:c8:=⟨.st [(0,1),(1,1),(2,1),(3,1),(4,1),(5,1),(6,1),(7,1),(8,1),(9,1),(10,1)],11,48,[.int .u64 0,.int .u64 0,.int .u32 0,.int .u8 0,.int .u8 0,.int .u8 0,.int .u8 0,.pl .nilFunc,.pl (.pointer Vc),.int .i32 0,.int .i32 0],SM⟩
abbrev xI(n:Nat):c8:=⟨.sl n,1,24,[.pl (.slice Vc 0 0)],SM⟩
def acZ:List c8:=[
 gV,aO,F9,F9,⟨.b,1,1,[.bool SM],SM⟩,F8,F8,Se,Se,F7,F7,F7,KY,Sd,Sd,AL]
def acY:List c8:=[
 AL,AL,Sb,Sb,KX,KW,xI 77,Sa,Sa,⟨.i .i8,1,1,[.int .i8 0],SM⟩,⟨.st [(0,1),(1,1)],2,2,[.int .i8 0,.int .u8 0],SM⟩,⟨.st [(0,1),(1,1)],2,2,[.int .i8 0,.int .u8 0],Th⟩,R9,R9,⟨.ar 4 29,32,32,[.int .i8 0,.int .u8 0,.int .i8 0,.int .u8 0,.int .i8 0,.int .u8 0,.int .i8 0,.int .u8 0,.int .i8 0,.int .u8 0,.int .i8 0,.int .u8 0,.int .i8 0,.int .u8 0,.int .i8 0,.int .u8 0,.int .i8 0,.int .u8 0,.int .i8 0,.int .u8 0,.int .i8 0,.int .u8 0,.int .i8 0,.int .u8 0,.int .i8 0,.int .u8 0,.int .i8 0,.int .u8 0,.int .i8 0,.int .u8 0,.int .i8 0,.int .u8 0],SM⟩,R8]
def acJ:List c8:=[
 R8,xI 79,aO,aO,KV,KV,R7,R7,R6,R6,xI 55,R5,R5,aO,xI 62,aO]
def acI:List c8:=[
 F9,gV,aO,aO,gV,aO,R4,R4,aO,KV,F7,⟨.st [(0,1),(1,1)],2,32,[.str [],.str []],SM⟩,⟨.st [(0,1),(1,1)],2,32,[.str [],.str []],Th⟩,R3,R3,gV]
def acH:List c8:=[
 aO,aO,aO,aO,gV,aO,aO,gV,aO,aO,aO,aO,aO,⟨.ar 4 25,4,4,[.int .i8 0,.int .i8 0,.int .i8 0,.int .i8 0],SM⟩,R2,R2]
def acG:List c8:=[
 xI 84,gV,aO,RZ,RZ,gV,aO,aO,aO,aO,aO,aO,RY,RX,RX,aO]
def acF:List c8:=[
 aO,aO,aO,aO,aO,aO,aO,aO,aO,gV,aO,aO,aO,aO,aO,gV]
def acE:List c8:=[
 aO,aO,aO,aO,aO,aO,aO,aO,aO,aO,RU,RU,aO,gV,aO,aO]
def acD:List c8:=[
 aO,aO,aO,aO,aO,gV,aO,gV,aO,aO,aO,aO,aO,aO,aO,aO]
def acC:List c8:=[
 aO,aO,aO,xI 37,aO,aO,aO,aO,aO,aO,aO,RS,RS,aO,aO,aO]
def acX:List c8:=[
 aO,aO,aO,aO,gV,aO,gV,aO,gV,aO,aO,gV,aO,aO,aO,aO]
def acW:List c8:=[
 aO,gV,aO,aO,aO,aO,aO,aO,aO,aO,aO,aO,aO,aO,aO,aO]
def acV:List c8:=[
 RY,aO,aO,aO,aO,aO,KX,KX,gV,aO,KY,gV,aO,aO,RR,RR]
def acT:List c8:=[
 aO,aO,gV,aO,aO,gV,aO,aO,aO,aO,aO,aO,aO,aO,aO,gV]
def acS:List c8:=[
 aO,aO,aO,aO,aO,aO,KY,aO,aO,aO,aO,gV,aO,aO,xI 5,aO]
def acR:List c8:=[
 aO,gV,aO,aO,gV,aO,gV,aO,aO,aO,aO,F9,AL,aO,aO,gV]
def acQ:List c8:=[
 aO,aO,⟨.i .u32,1,4,[.int .u32 0],SM⟩,aO,gV,aO,⟨.ar 24 5,24,24,So 24 (.int .u8 0),SM⟩,aO,gV,aO,aO,RQ,RQ,aO,aO,aO]
def acO:List c8:=[
 ⟨.ar 20 202,20,160,So 20 (.int .u64 0),SM⟩,⟨.ar 65 5,65,65,So 65 (.int .u8 0),SM⟩,aO,aO,AL,AL,⟨.st [(0,1)],1,16,[.str []],SM⟩,⟨.st [(0,1)],1,16,[.str []],SM⟩,⟨.ar 32 5,32,32,So 32 (.int .u8 0),SM⟩,⟨.ar 64 5,64,64,So 64 (.int .u8 0),SM⟩,aO,RP,RP,⟨.ar 0 16,0,0,[],SM⟩,⟨.st [(0,0)],0,0,[],SM⟩,⟨.st [(0,0)],0,0,[],SM⟩]
def acN:List c8:=[
 F8,F8,aO,KW,KW,RO,RO,aO,⟨.o,1,8,[.pl (.pointer Vc)],SM⟩,aO,aO,aO]
def xl:List (List c8):=[acZ,acY,acJ,acI,acH,acG,acF,acE,acD,acC,acX,acW,acV,acT,acS,acR,acQ,acO,acN]
def apX:ax:=[0,1,222,223,224,225,226,227,228,229,230,231,232,233,234,235,236,237,238,239,240,241,242,243,244,245,246,247,248]
def gB:Nat:=2
namespace F
def AC:fI:=3
def vL:fI:=4
def Az:fI:=5
def xS:fI:=6
def xR:fI:=7
def B4:fI:=8
def w6:fI:=9
def B5:fI:=10
def r9:fI:=11
def vJ:fI:=12
def xw:fI:=13
def sf:fI:=14
def Ay:fI:=15
def jM:fI:=16
def zh:fI:=17
def vK:fI:=18
def zj:fI:=19
def AD:fI:=20
def tW:fI:=21
def AF:fI:=22
def AB:fI:=23
def zf:fI:=24
def w7:fI:=25
def xF:fI:=26
def zg:fI:=27
def tG:fI:=28
def zk:fI:=29
def vF:fI:=30
def vA:fI:=31
def oW:fI:=32
def vf:fI:=33
def vG:fI:=34
def vC:fI:=35
def xu:fI:=36
def An:fI:=37
def xr:fI:=38
def xv:fI:=39
def AA:fI:=40
def sY:fI:=41
def Av:fI:=42
def xT:fI:=43
def xV:fI:=44
def tX:fI:=45
def AE:fI:=46
def vM:fI:=47
def BM:fI:=48
def wM:fI:=49
def rY:fI:=50
def nO:fI:=51
def kr:fI:=52
def xp:fI:=53
def CO:fI:=54
def o6:fI:=55
def wB:fI:=56
def yH:fI:=57
def yI:fI:=58
def yJ:fI:=59
def zW:fI:=60
def yp:fI:=61
def uB:fI:=62
def lK:fI:=63
def tS:fI:=64
def xh:fI:=65
def ji:fI:=66
def gv:fI:=67
def vv:fI:=68
def xL:fI:=69
def kR:fI:=70
def xm:fI:=71
def xn:fI:=72
def BJ:fI:=73
def zP:fI:=74
def r8:fI:=75
def tR:fI:=76
def Aw:fI:=77
def vO:fI:=78
def Fz:fI:=79
def jj:fI:=80
def iX:fI:=81
def BK:fI:=82
def xD:fI:=83
def Bt:fI:=84
def xU:fI:=85
def tP:fI:=86
def vE:fI:=87
def As:fI:=88
def vW:fI:=89
def yG:fI:=90
def BI:fI:=91
def qi:fI:=92
def wz:fI:=93
def wy:fI:=94
def xE:fI:=95
def xX:fI:=96
def xt:fI:=97
def vu:fI:=98
def Be:fI:=99
def xi:fI:=100
def u5:fI:=101
def ie:fI:=102
def vB:fI:=103
def BW:fI:=104
def kh:fI:=105
def rE:fI:=106
def qt:fI:=107
def rC:fI:=108
def jh:fI:=109
def uO:fI:=110
def vy:fI:=111
def tQ:fI:=112
def xN:fI:=113
def zX:fI:=114
def xo:fI:=115
def qn:fI:=116
def BL:fI:=117
def xK:fI:=118
def wN:fI:=119
def Ak:fI:=120
def xO:fI:=121
def Ap:fI:=122
def xG:fI:=123
def AJ:fI:=124
def vN:fI:=125
def pD:fI:=126
def strconv_Itoa:fI:=127
def oC:fI:=128
def qW:fI:=129
def rX:fI:=130
def QS:fI:=131
def AK:fI:=132
def zZ:fI:=133
def BH:fI:=134
def uu:fI:=135
def yD:fI:=136
def ut:fI:=137
def Br:fI:=138
def ze:fI:=139
def zE:fI:=140
def zd:fI:=141
def strconv_Atoi:fI:=142
def rz:fI:=143
def rD:fI:=144
def mL:fI:=145
def wX:fI:=146
def wW:fI:=147
def nN:fI:=148
def zc:fI:=149
def uN:fI:=150
def kD:fI:=151
def wV:fI:=152
def rt:fI:=153
def uY:fI:=154
def Aq:fI:=155
def rZ:fI:=156
def uZ:fI:=157
def size_digits:fI:=158
def xC:fI:=159
def rb:fI:=160
def sX:fI:=161
def rO:fI:=162
def CQ:fI:=163
def xM:fI:=164
def vt:fI:=165
def BC:fI:=166
def u7:fI:=167
def wA:fI:=168
def yE:fI:=169
def zY:fI:=171
def BF:fI:=172
def Al:fI:=173
def wK:fI:=174
def Bs:fI:=175
def BY:fI:=176
def wH:fI:=177
def ad0:fI:=178
def wY:fI:=179
def Ab:fI:=180
def vr:fI:=181
def uL:fI:=182
def vj:fI:=183
def yu:fI:=184
def qU:fI:=185
def wZ:fI:=186
def Bh:fI:=187
def wL:fI:=188
def wG:fI:=189
def zF:fI:=190
def BE:fI:=192
def Fy:fI:=193
def Ft:fI:=194
def yF:fI:=195
def ak0:fI:=196
def xy:fI:=201
def yT:fI:=202
def ai4:fI:=203
def ui:fI:=204
def BZ:fI:=205
def ai1:fI:=206
def yS:fI:=207
def wF:fI:=208
def uw:fI:=209
def VT:fI:=210
def BA:fI:=214
def BB:fI:=215
def KU:fI:=rZ
end F
end Go.Vm
namespace Go.Vm
open Go Go.Am
noncomputable section
def zS:List c8->Nat->c8
 |[],_=>⟨.o,0,0,[],SM⟩
 |x::_,0=>x
 |_::l,n+1=>zS l n
def Cz:List (List c8)->Nat->List c8
 |[],_=>[]
 |x::_,0=>x
 |_::l,n+1=>Cz l n
def iu:Nat->bA->Nat
 |a,[]=>a
 |a,c::l=>iu (a*10+(c.toNat-48)) l
def nM(c:UInt8):Bool:=Nat.ble 48 c.toNat&&Nat.ble c.toNat 57
def C7:au->Option vl
 |[.string s,.int .i64 a,.int .i64 b]=>if a=10∧b=64∧s.data.toList≠[]∧s.data.toList.all nM=Th∧RW s.data.toList<=1000∧iu 0 s.data.toList<10000000000000000000 then Wf (.tuple #[.int .u64 (iu 0 s.data.toList),.nilIface])else Vc
 |_=>Vc
def GA:au->Option vl
 | [.string s,.int .i64 a,.int .i64 b]=>if a=10∧b=64 then(match s.data.toList with
  |45::l=>if l≠[]∧l.all nM=Th∧RW l<=1000∧iu 0 l<9223372036854775808 then Wf (.tuple #[.int .i64 (-(iu 0 l:Int)),.nilIface])else Vc
  |l=>if l≠[]∧l.all nM=Th∧RW l<=1000∧iu 0 l<9223372036854775808 then Wf (.tuple #[.int .i64 (iu 0 l),.nilIface])else Vc)else Vc
 |_=>Vc
def yO:vl->Bool
 |.slice ..=>Th
 |_=>SM
def xg(H:AH)(p q:vl):Option (List au):=match fH H 1 p,fH H 1 q with
 |some (k,xs),Wf (k',ys)=>if k=k'∧RW xs=k∧RW ys=k∧k<4611686018427387904∧(yO p&&yO q)=Th∧(xs.all λv=>plain v&&okCell v)=Th∧(ys.all λv=>plain v&&okCell v)=Th then Wf ((xs.zip ys).map λx=>[x.1,x.2])else Vc
 |_,_=>Vc
def tV(f:fI)(lb:au)(H:AH):Option (List au):=match Nat.beq f F.rZ with
 | true=>match lb with
  | [.pointer (Wf ⟨b,o,Vc⟩)]=>match cX H b o 3 with
   |some [p,q,_]=>xg H p q
   |_=>Vc
  |_=>Vc
 | false=>match Nat.beq f F.KU with
  | true=>match lb with
   | [.pointer (Wf ⟨b,o,Vc⟩),.pointer (Wf ⟨b',o',Vc⟩)]=>match cX H b o 1,cX H b' o' 1 with
    |some [p],Wf [q]=>xg H p q
    |_,_=>Vc
   |_=>Vc
  |false=>Vc
def CY(f:fI)(lb:au)(H:AH):au:=match lb with
 |[.pointer (Wf ⟨b,o,Vc⟩)]=>(cX H b o 3).getD []
 |[.pointer (Wf ⟨b,o,Vc⟩),.pointer (Wf ⟨b',o',Vc⟩)]=>(cX H b o 1).getD []++(cX H b' o' 1).getD []
 |_=>[]
def lits:bF->Option au
 |[]=>Wf []
 | x::l=>match x,lits l with
  |.int k n,Wf r=>Wf (.int k n::r)
  |.str s,Wf r=>Wf (.string ⟨⟨s⟩⟩::r)
  |_,_=>Vc
def xJ:D->Option (Nat×bF)
 |.sl n l=>Wf (n,l)
 |.pl (.slice Vc 0 0)=>Wf (0,[])
 |_=>Vc
def zB(p q:D):Option (List au):=match xJ p,xJ q with
 | some (k,l),Wf (k',m)=>match lits l,lits m with
  |some xs,Wf ys=>if k=k'∧RW xs=k∧RW ys=k∧k<4611686018427387904 then Wf ((xs.zip ys).map λx=>[x.1,x.2])else Vc
  |_,_=>Vc
 |_,_=>Vc
def KF(f:fI)(cs:bq):Option (List au):=match Nat.beq f F.rZ with
 | true=>match cs with
  |[.dptr [p,q,_] 0]=>zB p q
  |_=>Vc
 | false=>match Nat.beq f F.KU with
  | true=>match cs with
   |[.dptr [p] 0,.dptr [q] 0]=>zB p q
   |_=>Vc
  |false=>Vc
def X:dh:={P:=Go.Proofs.Tryz.prog,allow:=fC apX,glob:=λg=>Nat.beq g gB,orc:=λf args=>(match Nat.beq f F.xy with
 |true=>C7 args
 | false=>match Nat.beq f F.vj with
  |true=>GA args
  |false=>Vc),seq:=tV,seqK:=CY}
def vX:bF:=[.int .u64 1,.int .u64 10,.int .u64 100,.int .u64 1000,.int .u64 10000,.int .u64 100000,.int .u64 1000000,.int .u64 10000000,.int .u64 100000000,.int .u64 1000000000,.int .u64 10000000000,.int .u64 100000000000,
 .int .u64 1000000000000,.int .u64 10000000000000,.int .u64 100000000000000,.int .u64 1000000000000000,.int .u64 10000000000000000,.int .u64 100000000000000000,.int .u64 1000000000000000000,.int .u64 10000000000000000000]
def Y:eu:={X:=X,ty:=λt=>zS (Cz xl (t/16)) (t%16),glob:=λg=>(match Nat.beq g gB with
 |true=>Wf vX
 |false=>Vc),seq:=KF}
end
end Go.Vm
set_option maxRecDepth 100000
namespace Go.Vm
open Go Go.Am
variable{x:Prop}{y w:vl}{P:pG}{t:tI}{d p:D}{z l:bF}{k k':bG}{a b f v0 c v:V}{h0 h:Hp}{T:bG->Prop}{s n m:Nat}{ps:List (Nat×V)}{dr:Bool}
def Nq:vl->vl->Bool
 |.pointer Vc,.pointer Vc=>Th
 |.slice Vc a b,.slice Vc c d=>a == c&&b == d
 |.nilFunc,.nilFunc=>Th
 |.nilIface,.nilIface=>Th
 |.map Vc,.map Vc=>Th
 |.chan Vc,.chan Vc=>Th
 |_,_=>SM
theorem amF{x:vl}(h:Nq x y=Th):x=y:=by unfold Nq at h;split at h<;>first|rfl|(simp at h;obtain⟨rfl,rfl⟩:=h;rfl)|cases h
def Nr:D->D->Bool
 |.int k a,.int l b=>decide (k=l)&&decide (a=b)
 |.bool a,.bool b=>a == b
 |.str a,.str b=>a == b
 |.pl a,.pl b=>Nq a b
 |_,_=>SM
theorem amG{x y:D}(h:Nr x y=Th):x=y:=by
 unfold Nr at h;split at h
 .simp at h;obtain⟨rfl,rfl⟩:=h;rfl
 .simp at h;subst h;rfl
 .simp at h;subst h;rfl
 .rw[amF h]
 .cases h
def Ea:bF->bF->Bool
 |[],[]=>Th
 |x::l,y::m=>Nr x y&&Ea l m
 |_,_=>SM
theorem YF:∀{l m:bF},Ea l m=Th->l=m
 |[],[],_=>rfl
 | x::l,y::m,h=>by
  simp[Ea,Z7]at h;rw[amG h.1,YF h.2]
 |[],_::_,h=>by cases h
 |_::_,[],h=>by cases h
def MA(P:pG)(t:tI)(k:Ty):Bool:=match k with
 |.i k=>match P.underlying t with|some (.int k')=>decide (k'=k)|_=>SM
 |.b=>match P.underlying t with|some .bool=>Th|_=>SM
 |.s=>match P.underlying t with|some .string=>Th|_=>SM
 |.p=>match P.underlying t with|some (.pointer _)=>Th|_=>SM
 |.f=>match P.underlying t with|some (.func ..)=>Th|_=>SM
 |.it=>match P.underlying t with|some (.interface _)=>Th|_=>SM
 |.sl e=>match P.underlying t with|some (.slice e')=>e' == e|_=>SM
 |.ar n e=>match P.underlying t with|some (.array n' e')=>n' == n&&e' == e|_=>SM
 |.st fs=>match P.underlying t with|some (.struct gs)=>decide (gs.toList.map (λf=>(f.offset,cn P f.type))=fs.map λp=>(p.1,Wf p.2))|_=>SM
 |.o=>Th
def My(P:pG)(t:tI):D->Bool
 |.int _ _=>match P.underlying t with|some (.int _)=>Th|_=>SM
 |.bool _=>match P.underlying t with|some .bool=>Th|_=>SM
 |.str _=>match P.underlying t with|some .string=>Th|_=>SM
 |_=>SM
theorem akv(h:My P t d=Th):HG P t d:=by
 unfold My at h;split at h
 .split at h
  .rename_i hu;exact⟨_,hu⟩
  .cases h
 .split at h
  .rename_i hu;exact hu
  .cases h
 .split at h
  .rename_i hu;exact hu
  .cases h
 .cases h
def Nf(P:pG)(t:tI)(z:bF):Bool:=match P.underlying t with
 |some (.struct gs)=> !P.stoodInHeld t && !P.eqGuardType P.depth t&&decide (gs.size=RW z)&&(gs.toList.zipIdx.zip z).all λx=>x.1.1.offset == x.1.2&&x.1.1.name != "_" && My P x.1.1.type x.2
 |_=>SM
theorem amf(h:Nf P t z=Th):Jp P t z:=by
 unfold Nf at h;split at h
 .rename_i gs hu;simp only[Z7,Y6,dT,Zz]at h;obtain⟨⟨⟨h1,h2⟩,h3⟩,h4⟩:=h;refine⟨gs,hu,h1,h2,h3,λi f d hf hd=>?_⟩
  have:=h4 ((f,i),d) (by
   apply Ya (i:=i);rw[List.getElem?_zip_eq_some];exact⟨by rw[List.getElem?_zipIdx,hf];simp,hd⟩)
  simp only[beq_iff_eq,bne_iff_ne]at this;exact⟨this.1.1,this.1.2,akv this.2⟩
 .cases h
def ET(P:pG)(t:tI)(i:c8):Bool:=(!i.eq||Nf P t i.z)&&match i.k with
 |.o=>Th
 | k=>MA P t k&&decide (cn P t=Wf i.sz)&&decide (qu P t=Wf i.bytes)&&match fX P t with
  |some z=>plain z&&z.cells.size == i.sz&&(z.cells.toList.all λc=>plain c&&okCell c)&&Ea (z.cells.toList.map dL) i.z
  |none=>SM
theorem PG{i:c8}(h:ET P t i=Th):zx P t i:=by
  unfold ET at h;rw[Z7]at h;obtain⟨h0,h⟩:=h
  have heq:i.eq=Th->Jp P t i.z:=λe=>by
    rw[e]at h0;exact amf (by simpa using h0)
  by_cases hk:i.k = .o
  · exact⟨by rw[hk];trivial,λh=>absurd hk h,λh=>absurd hk h,λh=>absurd hk h,heq⟩
  · have h2:MA P t i.k=Th∧cn P t=Wf i.sz∧qu P t=Wf i.bytes∧(match fX P t with
        |some z=>plain z&&z.cells.size == i.sz&&(z.cells.toList.all λc=>plain c&&okCell c)&&Ea (z.cells.toList.map dL) i.z
        |none=>SM)=Th:=by
      split at h
      · rename_i e;exact absurd e hk
      · simp only[Z7,dT]at h
        exact⟨h.1.1.1,h.1.1.2,h.1.2,h.2⟩
    obtain⟨h1,h2,h3,h4⟩:=h2;refine⟨?_,λ_=>h2,λ_=>h3,λ_=> ?_,heq⟩
    · unfold MA at h1
      cases hq:i.k<;>rw[hq]at h1<;>dsimp only at h1 ⊢
      all_goals first
        |trivial
        | (split at h1
           · rename_i hu
             first
               |(simp only[dT]at h1;subst h1;exact hu)
               |exact hu
               |exact⟨_,hu⟩
               |exact⟨_,_,_,hu⟩
               |(simp only[beq_iff_eq]at h1;subst h1;exact hu)
               |(simp only[Z7,beq_iff_eq]at h1;obtain⟨rfl,rfl⟩:=h1;exact hu)
               |(simp[dT]at h1;exact⟨_,hu,h1⟩)
           · cases h1)
    · split at h4
      · rename_i z hz
        simp only[Z7,beq_iff_eq,Zz]at h4;refine⟨z,hz,h4.1.1.1,YF h4.2,h4.1.1.2,λc hc=> ?_⟩;have:=h4.1.2 c hc;exact this
      · cases h4
theorem JN:∀(l:List (List c8))(n:Nat),RW l<=n->Cz l n=[]
 |[],_,_=>rfl
 |_::_,0,h=>by simp at h
 |_::l,n+1,h=>JN l n (by simpa using h)
theorem acz:(List.range (16*RW xl)).all (λt=>ET Y.X.P t (Y.ty t))=Th:=dw
section
variable{F:Nat->Prop}{H:AH}
theorem Dv:∀{l:bF}{xs:au},lits l=Wf xs->(∀v∈xs,iH v)∧∀ws,bj F H l ws->ws=xs
 | [],xs,h=>by
  simp only[lits,Z9]at h;subst h;exact⟨λv hv=>(by cases hv),λws hw=>by simpa only[bj]using hw⟩
 | x::l,xs,h=>by
  unfold lits at h;split at h
  .rename_i k n r hr;simp[Z9]at h;subst h;obtain⟨q1,q2⟩:=Dv hr;refine⟨λv hv=>?_,λws hw=>?_⟩
   .rcases Zy.1 hv with rfl|hv
    .exact⟨rfl,rfl⟩
    .exact q1 v hv
   .simp[bj,RD]at hw;obtain⟨v,us,rfl,rfl,h2⟩:=hw;rw[q2 us h2]
  .rename_i s r hr;simp[Z9]at h;subst h;obtain⟨q1,q2⟩:=Dv hr;refine⟨λv hv=>?_,λws hw=>?_⟩
   .rcases Zy.1 hv with rfl|hv
    .exact⟨rfl,rfl⟩
    .exact q1 v hv
   .simp[bj,RD]at hw;obtain⟨v,us,rfl,rfl,h2⟩:=hw;rw[q2 us h2]
  .cases h
theorem Q0{k:Nat}{xs:au}(h:xJ p=Wf (k,l))(hl:lits l=Wf xs)(hk:RW xs=k)(hw:RD F H p w):fH H 1 w=Wf (k,xs):=by
 obtain⟨q1,q2⟩:=Dv (F:=F) (H:=H) hl;unfold xJ at h;split at h
 .rename_i n l';simp[Z9,Z5]at h;obtain⟨rfl,rfl⟩:=h;simp only[RD]at hw;rcases hw with⟨rfl,rfl,h3⟩|⟨c,o,cap,vs,m,rfl,h1,h2,h3,h4,h5,h6,h7,h8⟩
  .simp only[lits,Z9]at hl;subst hl;rcases h3 with rfl|⟨c,o,cap,rfl,_⟩
   .rfl
   .simp[fH]
  .have e:=q2 vs h7;subst e
   have hl:RW l'=n:=by
    rw[<-hk,ag6 h6]
   simp[fH,Y1];rw[iN aa,<-hl,h6];simp
 .simp only[Z9,Z5]at h;obtain⟨rfl,rfl⟩:=h;simp only[lits,Z9]at hl;subst hl;simp[RD]at hw;obtain⟨rfl,_⟩:=hw;rfl
 .cases h
theorem QZ{k:Nat}(h:xJ p=Wf (k,l))(hw:RD F H p w):yO w=Th:=by
 unfold xJ at h;split at h
 .rename_i n l';simp only[RD]at hw;rcases hw with⟨_,_,h3⟩|⟨c,o,cap,vs,m,rfl,_⟩
  .rcases h3 with rfl|⟨c,o,cap,rfl,_⟩<;>rfl
  .rfl
 .simp[RD]at hw;obtain⟨rfl,_⟩:=hw;rfl
 .cases h
theorem EK{q:D}{xs:List au}(h:zB p q=Wf xs):(∀z∈xs,∀v∈z,iH v)∧∀v w,RD F H p v->RD F H q w->xg H v w=Wf xs:=by
 unfold zB at h;split at h
 case h_2=>cases h
 rename_i k l k' m hp hq;split at h
 case h_2=>cases h
 rename_i us vs hl hm;split at h
 case isFalse=>cases h
 rename_i hc;simp[Z9]at h;subst h;have o1:=(Dv (F:=F) (H:=H) hl).1;have o2:=(Dv (F:=F) (H:=H) hm).1;refine⟨λz hz v hv=>?_,λv w hv hw=>?_⟩
 .obtain⟨⟨a,b⟩,hab,rfl⟩:=Zw.1 hz;have:=List.of_mem_zip hab;simp[Zy,Y4,or_false]at hv;rcases hv with rfl|rfl
  .exact o1 _ this.1
  .exact o2 _ this.2
 .unfold xg;rw[Q0 hp hl hc.2.1 hv,Q0 hq hm (hc.2.2.1.trans hc.1) hw];have c1:(us.all λv=>plain v&&okCell v)=Th:=Zz.2 λx hx=>by have:=o1 x hx;simp[this.1,this.2]
  have c2:(vs.all λv=>plain v&&okCell v)=Th:=Zz.2 λx hx=>by have:=o2 x hx;simp[this.1,this.2]
  exact ip ⟨hc.1,hc.2.1,hc.2.2.1,hc.2.2.2,by rw[QZ hp hv,QZ hq hw];rfl,c1,c2⟩
end
theorem yOk:tB Y where
 seq gf cs xs h0:=by
  have h:KF gf cs=Wf xs:=h0;clear h0;unfold KF at h;split at h
  .rename_i hg;split at h
   .rename_i p q d;refine⟨(EK (F:=λ_=>True) (H:=⟨0,[]⟩) h).1,λφ F H hp lb hr=>?_⟩;simp only[aK,RV]at hr;obtain⟨v,_,rfl,⟨c,o,vs,rfl,hF,hrd,hd⟩,rfl⟩:=hr;simp only[bj]at hd;obtain⟨v1,_,rfl,d1,v2,_,rfl,d2,v3,_,rfl,d3,rfl⟩:=hd;rw[show([p,q,d]:bF).length=3 from rfl]at hrd;refine⟨?_,λF' H' hl=>?_⟩
    .rw[show Y.X.seq=tV from rfl];unfold tV;rw[hg];simp[Nat.add_zero];rw[hrd];exact(EK h).2 _ _ d1 d2
    .rw[show Y.X.seqK=CY from rfl];simp[CY,Nat.add_zero];rw[x9 (hl.keep c hF)]
   .cases h
  .rename_i hg;split at h
   .rename_i hg2;split at h
    .rename_i p q;refine⟨(EK (F:=λ_=>True) (H:=⟨0,[]⟩) h).1,λφ F H hp lb hr=>?_⟩;simp only[aK,RV]at hr;obtain⟨v,_,rfl,⟨c,o,vs,rfl,hF,hrd,hd⟩,v',_,rfl,⟨c',o',vs',rfl,hF',hrd',hd'⟩,rfl⟩:=hr;simp only[bj]at hd hd';obtain⟨v1,_,rfl,d1,rfl⟩:=hd;obtain⟨v2,_,rfl,d2,rfl⟩:=hd';rw[show([p]:bF).length=1 from rfl]at hrd;rw[show([q]:bF).length=1 from rfl]at hrd'
     refine⟨?_,λF' H' hl=>?_⟩
     .rw[show Y.X.seq=tV from rfl];unfold tV;rw[hg,hg2];simp[Nat.add_zero];rw[hrd,hrd'];exact(EK h).2 _ _ d1 d2
     .rw[show Y.X.seqK=CY from rfl];simp[CY,Nat.add_zero];rw[x9 (hl.keep c hF),x9 (hl.keep c' hF')]
    .cases h
   .cases h
 ty t:=by
  by_cases ht:t<16*RW xl
  .exact PG (Zz.1 acz t (Xi.2 ht))
  .apply PG
   have:(Y.ty t).k=.o:=by
    show(zS (Cz xl (t/16)) (t%16)).k=.o
    have h2:∀t n:Nat,¬t<16*n->n<=t/16:=λt n hn=>by omega
    rw[JN xl (t/16) (h2 t _ ht)];rfl
   have h2:(Y.ty t).eq=SM:=by
    show(zS (Cz xl (t/16)) (t%16)).eq=SM
    have h2:∀t n:Nat,¬t<16*n->n<=t/16:=λt n hn=>by omega
    rw[JN xl (t/16) (h2 t _ ht)];rfl
   unfold ET;rw[this,h2];rfl
theorem aaP{o:Option V}{k k':V->Prop}(h1:x=bnd o k)(h:∀v,k v=k' v):x=bnd o k':=by rw[h1,funext h]
theorem XR{o:V}{i:Nat}{k k':V->Prop}(h1:x=ext o i k)(h:∀v,k v=k' v):x=ext o i k':=by rw[h1,funext h]
theorem TO{op:BinOp}{k k':V->Prop}(h1:x=qe h0 op a b k)(h:∀v,k v=k' v):x=qe h0 op a b k':=by rw[h1,funext h]
theorem pQ(h1:x=T k)(h:∀v h,k v h=k' v h):x=T k':=by rw[h1,show k=k' from funext λv=>funext λy=>h v y]
theorem aaF{C:rM}{a:bq}(h1:x=bp C h0 f a k)(h:∀v h,k v h=k' v h):x=bp C h0 f a k':=pQ h1 h
theorem aaG{C:rL}{a:bq}(h1:x=eQ C h0 f a s k)(h:∀v h,k v h=k' v h):x=eQ C h0 f a s k':=pQ h1 h
theorem abr{cs:bq}(h1:x=cu s cs h0 k)(h:∀v h,k v h=k' v h):x=cu s cs h0 k':=pQ h1 h
theorem abt{cs:bF}(h1:x=mN s n cs h0 k)(h:∀v h,k v h=k' v h):x=mN s n cs h0 k':=pQ h1 h
theorem aaM(h1:x=cD s v0 h0 k)(h:∀v h,k v h=k' v h):x=cD s v0 h0 k':=pQ h1 h
theorem UY(h1:x=cx n z ps h0 k)(h:∀v h,k v h=k' v h):x=cx n z ps h0 k':=pQ h1 h
theorem UX(h1:x=kx s n z ps h0 k)(h:∀v h,k v h=k' v h):x=kx s n z ps h0 k':=pQ h1 h
theorem Ud(h1:x=fS s n z h0 a b k)(h:∀v h,k v h=k' v h):x=fS s n z h0 a b k':=pQ h1 h
theorem QC(h1:x=aS h0 n a b k)(h:∀v h,k v h=k' v h):x=aS h0 n a b k':=pQ h1 h
theorem abl(h1:x=cV dr s n m a b h0 k)(h:∀v h,k v h=k' v h):x=cV dr s n m a b h0 k':=pQ h1 h
theorem aqg(h1:x=qw dr s n m z a b h0 k)(h:∀v h,k v h=k' v h):x=qw dr s n m z a b h0 k':=pQ h1 h
theorem WT{w:Bool}(h1:x=gd c w h0 T k)(h:∀v h,k v h=k' v h):x=gd c w h0 T k':=pQ h1 h
theorem aao{A A' B B':Prop}(h1:x=aQ c A B)(ha:A=A')(hb:B=B'):x=aQ c A' B':=by rw[h1,ha,hb]
theorem VB{k k':bq->Hp->Prop}{T T':(bq->Hp->Prop)->Prop}(h1:x=jn k T)(hk:∀l h,k l h=k' l h)(hT:∀q,T q=T' q):x=jn k' T':=by rw[h1,show k=k' from funext λv=>funext λy=>hk v y,show T=T' from funext hT]
theorem Ur{s s':bK}{Pc:ax}{h2:Hp}{l:bq}{k k':KL}(h1:x=lp s Pc h0 l h2 k)(hs:∀l h q,s l h q=s' l h q)(hk:∀ex l h,k ex l h=k' ex l h):x=lp s' Pc h0 l h2 k':=by rw[h1,show s=s' from funext λa=>funext λb=>funext λc=>hs a b c,show k=k' from funext λa=>funext λb=>funext λc=>hk a b c]
theorem XT{e ex:Exit}{q q':bq->Hp->Prop}{r r':List (Exit×(bq->Hp->Prop))}{l:bq}(h1:x=aU ((e,q)::r) ex l h)(hq:∀l h,q l h=q' l h)(hr:aU r ex l h=aU r' ex l h):x=aU ((e,q')::r') ex l h:=by
 rw[h1,show q=q' from funext λv=>funext λy=>hq v y];simp only[aU];split
 .rfl
 .exact hr
theorem U8{y:Prop}{k:V->Prop}(h1:x=bnd (Wf v) k)(h2:k v=y):x=y:=h1.trans h2
noncomputable def gl(g:Nat):V:=match Y.glob g with
 |some cs=>.dptr cs 0
 |none=>.junk
end Go.Vm
