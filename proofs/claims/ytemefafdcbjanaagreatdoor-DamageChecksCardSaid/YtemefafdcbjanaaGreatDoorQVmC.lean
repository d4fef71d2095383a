/- Lemmas. -/
import Derived.Test.YtemefafdcbjanaaGreatDoorQVmB
set_option linter.unusedVariables false
set_option linter.unusedSimpArgs false
namespace Go.Vm
open Go Go.Am
variable{p:Prop}{k:IntKind}{n i:Int}{j a b:Nat}{C:rL}{args ds:LwQ}
@[simp]theorem Vt(v:V)(k:V->Prop):bnd (some v) k=k v:=rfl
theorem Tn[Decidable p](hp:p)(x y:V):oM (.d (.bool (decide p))) x y=some x:=by simp[oM,hp]
theorem WP[Decidable p](hp:¬p)(x y:V):oM (.d (.bool (decide p))) x y=some y:=by simp[oM,hp]
@[simp low]theorem acG(b:Bool)(x y:V):oM (.d (.bool b)) x y=some (if b=true then x else y):=by cases b<;>rfl
@[simp]theorem afm(l:LwQ)(i:Nat)(k:V->Prop):ext (.tup l) i k=bnd l[i]? k:=rfl
theorem Kz{k:LwQ->Hp->Prop}{T:(LwQ->Hp->Prop)->Prop}{l:LwQ}{h:Hp}(hT:∀q,T q=q l h):jn k T=k l h:=hT k
@[simp]theorem OG(x:V)(l:LwQ):ge (x::l) 0=x:=rfl
@[simp]theorem afi(x:V)(l:LwQ)(n:Nat):ge (x::l) (n+1)=ge l n:=rfl
@[simp]theorem agB(x y:V)(l:LwQ):ge (x::y::l) 1=y:=rfl
@[simp]theorem agA(x y z:V)(l:LwQ):ge (x::y::z::l) 2=z:=rfl
@[simp]theorem aei(x y z u:V)(l:LwQ):ge (x::y::z::u::l) 3=u:=rfl
@[simp] theorem kz (i:Nat)(q:LwQ->Hp->Prop)(r:List (Exit×(LwQ->Hp->Prop)))(l:LwQ)(h:Hp):exK ((.exit i,q)::r) (.exit i) l h=q l h:=by simp only[exK,UI,X0]
@[simp]theorem BY(q:LwQ->Hp->Prop)(r:List (Exit×(LwQ->Hp->Prop)))(l:LwQ)(h:Hp):exK ((.ret,q)::r) .ret l h=q l h:=rfl
@[simp]theorem yF(i:Nat)(p:LwQ->Hp->Prop)(r:List (Exit×(LwQ->Hp->Prop)))(l:LwQ)(h:Hp):exK ((.exit i,p)::r) .ret l h=exK r .ret l h:=rfl
theorem ai{step:aP}{clr:LnQ}{h0:Hp}{l:LwQ}{h:Hp}{k:KL}(hs:step l h (lpK clr h0 (fun l h=>lp step clr h0 l h k) k)):lp step clr h0 l h k:=by
 intro I hI;refine hI l h ⟨_,hs,fun ex l' h' hq=>?_⟩;cases ex
 case normal=>exact⟨hq.1,hq.2 I hI⟩
 all_goals exact hq
@[simp]theorem abG(clr:LnQ)(h0:Hp)(I:LwQ->Hp->Prop)(k:KL)(l:LwQ)(h:Hp):lpK clr h0 I k .normal l h=(clean clr l h=true∧I l (aR clr 0 h0 h)):=rfl
@[simp]theorem adS(clr:LnQ)(h0:Hp)(I:LwQ->Hp->Prop)(k:KL)(i:Nat)(l:LwQ)(h:Hp):lpK clr h0 I k (.exit i) l h=k (.exit i) l h:=rfl
@[simp]theorem afb(clr:LnQ)(h0:Hp)(I:LwQ->Hp->Prop)(k:KL)(l:LwQ)(h:Hp):lpK clr h0 I k .ret l h=k .ret l h:=rfl
theorem Gc:∀l:LwQ,iZ [] l=true:=by
 intro l
 have key:∀x:V,qe [] x=true:=by
  intro x
  induction x using V.rec (motive_2:=fun l=>iZ [] l=true)with
  |agg l ih=>trivial
  |tup l ih=>trivial
  |fn g a b iha ihb=>grind[qe]
  |ifc t x ih=>trivial
  |nil=>rfl
  |cons x l ih ihl=>grind[iZ]
  |_=>rfl
 induction l with
 |nil=>rfl
 |cons x l ih=>grind[iZ]
theorem JX:∀(h:Hp)(i:Nat),o6 [] i h=true
 |[],_=>rfl
 | (_,b)::h,i=>by
  simp only[o6,JX h,Yb,Ye,Y7];right;cases b<;>simp[offB,Gc]
@[simp]theorem clean_nil(l:LwQ)(h:Hp):clean [] l h=true:=by simp[clean,Gc,JX]
theorem F7:∀(i:Nat)(h0 h:Hp),h.length=h0.length->aR [] i h0 h=h
 |_,[],h,_=>by cases h<;>rfl
 |_,_::_,[],_=>rfl
 | i,(e0,b0)::h0,(e,b)::h,hl=>by
  simp only[aR,gN,if_true];rw[F7 (i+1) h0 h (by grind)]
theorem wrap_i64(h : -9223372036854775808<=n∧n<=9223372036854775807):IntKind.wrap .i64 n=n:=by
 have e1:(2:Int)^64=18446744073709551616:=af;have e2:(2:Int)^(64-1)=9223372036854775808:=af
 grind[IntKind.wrap,IntKind.bits,IntKind.signed]
theorem LH(hk:k.signed=false)(h:0<=n∧n<2^k.bits):k.wrap n=n:=by grind[IntKind.wrap,Int.emod_eq_of_lt]
theorem wrap_u64(h:0<=n∧n<18446744073709551616):IntKind.wrap .u64 n=n:=LH rfl h
theorem wrap_u32(h:0<=n∧n<4294967296):IntKind.wrap .u32 n=n:=LH rfl h
theorem FB(n:Int):IntKind.wrap .u64 n=n%18446744073709551616:=by rfl
@[simp]theorem afA(k:IntKind)(a b:Int):biI .lss (.d (.int k a)) (.d (.int k b))=some (.d (.bool (decide (a<b)))):=by simp[biI,ig,mY,iR]
@[simp]theorem afB(k:IntKind)(a b:Int):biI .leq (.d (.int k a)) (.d (.int k b))=some (.d (.bool (decide (a<=b)))):=by simp[biI,ig,mY,iR]
@[simp]theorem afC(k:IntKind)(a b:Int):biI .gtr (.d (.int k a)) (.d (.int k b))=some (.d (.bool (decide (b<a)))):=by simp[biI,ig,mY,iR]
@[simp]theorem afD(k:IntKind)(a b:Int):biI .geq (.d (.int k a)) (.d (.int k b))=some (.d (.bool (decide (b<=a)))):=by simp[biI,ig,mY,iR]
@[simp]theorem afE(k:IntKind)(a b:Int):biI .eql (.d (.int k a)) (.d (.int k b))=some (.d (.bool (decide (a=b)))):=by simp[biI,ig,mY,iR];rfl
@[simp]theorem afz(k:IntKind)(a b:Int):biI .neq (.d (.int k a)) (.d (.int k b))=some (.d (.bool (decide (a≠b)))):=by simp[biI,ig,mY,iR];rfl
theorem yQ(k:IntKind)(a b:Int):biI .add (.d (.int k a)) (.d (.int k b))=some (.d (.int k (k.wrap (a+b)))):=by simp[biI,ig,mY,iR]
theorem ww(k:IntKind)(a b:Int):biI .sub (.d (.int k a)) (.d (.int k b))=some (.d (.int k (k.wrap (a-b)))):=by simp[biI,ig,mY,iR]
theorem uq(k:IntKind)(a b:Int):biI .mul (.d (.int k a)) (.d (.int k b))=some (.d (.int k (k.wrap (a*b)))):=by simp[biI,ig,mY,iR]
@[simp]theorem YY(k l:IntKind)(n:Int):cvI k (.d (.int l n))=some (.d (.int k (k.wrap n))):=rfl
@[simp]theorem afG(a b:Bool):biB .eql (.d (.bool a)) (.d (.bool b))=some (.d (.bool (a == b))):=rfl
@[simp]theorem afF(a b:Bool):biB .neq (.d (.bool a)) (.d (.bool b))=some (.d (.bool (a !=b))):=rfl
@[simp]theorem aeQ(b:Bool):unV .not (.d (.bool b))=some (.d (.bool (!b))):=rfl
def lst{α:Type}(f:α->D)(l:List α):V:=.d (.sl l.length (l.map f))
section
variable{α:Type}(f:α->D)(l:List α)
@[simp]theorem adY:aW (lst f l)=some (I l.length):=rfl
theorem t8(h:Hp)(hj:i=j)(hl:j<l.length):ixV h 1 (lst f l) (.d (.int k i))=some (.dptr (l.map f) j):=by subst hj;simp only[ixV,lst];rw[if_pos ⟨aa,aa,ae⟩];simp
theorem oB(h:Hp)(hl:j<l.length):ld1 h (.dptr (l.map f) j)=some (.d (f l[j])):=by simp[ld1,hl]
end
section
variable{α:Type}(f:α->D)(l:List α)
theorem Ex(d top:Nat):boV d top none=some d:=rfl
theorem vJ{d top:Nat}(hi:i=j)(hj:j<=top):boV d top (some (.d (.int k i)))=some j:=by subst hi;simp only[boV];rw[if_pos ⟨aa,aa⟩];simp
theorem R8{h:Hp}{lo hi:Option V}{i:Nat}(h0:0<l.length)(hj:boV l.length l.length hi=some j)(hi2:boV 0 j lo=some i)(hij:i<=j)(hjl:j<=l.length):slV h 1 (lst f l) lo hi=some (lst f ((l.drop i).take (j-i))):=by simp only[slV,lst,hj,hi2];rw[if_pos ⟨ae,h0⟩];simp only[Yj,List.map_take,List.map_drop,Zt,Yy];rw[Y4 aa]
theorem aas{h:Hp}(h0:0<l.length)(hi:i=j)(hj:j<=l.length):slV h 1 (lst f l) none (some (I i))=some (lst f (l.take j)):=by rw[R8 f l h0 (vJ hi hj) (Ex 0 j) (Yr _) hj];simp
theorem ado{h:Hp}(h0:0<l.length)(hi:i=j)(hj:j<=l.length):slV h 1 (lst f l) (some (I i)) none=some (lst f (l.drop j)):=by rw[R8 f l h0 (Ex _ _) (vJ hi hj) hj (Z7 _)];rw[Zz ae]
end
@[simp]theorem afX(h:Hp)(x:D):bg h (.d x)=some (.d (norm x),h):=by rfl
@[simp]theorem adM(k:IntKind)(n:Int):norm (.int k n)=.int k n:=rfl
@[simp]theorem acJ(b:Bool):norm (.bool b)=.bool b:=rfl
@[simp]theorem adI(s:LuQ):norm (.str s)=.str s:=rfl
@[simp]theorem ae7(n:Nat)(l:LdQ):norm (.sl n l)=.sl n l:=rfl
@[simp]theorem adL:norm (.pl (.slice none 0 0))=.sl 0 []:=rfl
@[simp]theorem Ji{α:Type}(h:Hp)(f:α->D)(l:List α):bg h (lst f l)=some (lst f l,h):=by rfl
@[simp]theorem acC(h:Hp):aA h []=some ([],h):=by rfl
theorem ik{D:qu}{h h':Hp}{f:FuncId}{args:LwQ}{v:V}{s:Nat}{k:kkQ}(hc:D f args h v h')(hk:k v h')(hn:∀n cells ex len cap,v≠.new n cells ex len cap)(hn2:∀n,v≠.cut n:=by simp)(hn3:∀n cells ex len cap y,v≠.tup [.new n cells ex len cap,.d y]:=by intro _ _ _ _ _ _ h;cases h)
  (hn4:∀n cells ex len cap,v≠.tup [.new n cells ex len cap]:=by intro _ _ _ _ _ h;cases h) (hn5:∀n cells ex len cap y,v≠.tup [.tup [.new n cells ex len cap],.d y]:=by intro _ _ _ _ _ _ h;cases h):cai D h (.fn f [] []) args s k:=by grind[cai]
theorem Vl{h h':Hp}{f:FuncId}{args:LwQ}{n len cap:Nat}{cells:LdQ}{y:D}{s e:Nat}{b:Bk}{ex:Bool}{k:kkQ}{DD:qu}(hc:DD f args h (.tup [.new n cells ex len cap,.d y]) h')(hs:h'[s]?=some (e,b))
  (hk:k (.tup [.ref s (e+1) 0 len cap cells.length,.d y]) (h'.set s (e+1,.data n cells ex false))):cai DD h (.fn f [] []) args s k:=by grind[cai,new]
theorem gA{h h':Hp}{f:FuncId}{args:LwQ}{n len cap:Nat}{cells:LdQ}{s e:Nat}{b:Bk}{ex:Bool}{k:kkQ}{DD:qu}(hc:DD f args h (.new n cells ex len cap) h')(hs:h'[s]?=some (e,b))
  (hk:k (.ref s (e+1) 0 len cap cells.length) (h'.set s (e+1,.data n cells ex false))):cai DD h (.fn f [] []) args s k:=by grind[cai,new]
theorem Ip{h h':Hp}{f:FuncId}{v:V}{k:kkQ}(hs:aA h args=some (ds,h'))(hc:C f ds v)(hk:k v (if dD v then h else h')):cal C h (.fn f [] []) args k:=by grind[cal]
theorem aeA{h:Hp}{f:FuncId}{v:V}{k:kkQ}(hc:C f args v)(hs:aA h args=some (args,h))(hk:k v h):cal C h (.fn f [] []) args k:=
 Ip hs hc (by grind)
theorem Tt{x:D}{h:Hp}(hx:norm x=x):out (.d x) (.d x) h:=⟨h,by simp[hx]⟩
@[simp]theorem ae4(k:IntKind)(n:Int)(h:Hp):out (.d (.int k n)) (.d (.int k n)) h:=Tt rfl
@[simp]theorem JP(b:Bool)(h:Hp):out (.d (.bool b)) (.d (.bool b)) h:=Tt rfl
theorem Hg{l:IntKind}(hb:b<=k.bits):biI .shr (.d (.int k a)) (.d (.int l b))=some (.d (.int k ((a/2^b:Nat):Int))):=by
 have h1:¬((b:Int)<0):=aa
 grind[biI,ig,mY,iR]
theorem wA(h:a+b<18446744073709551616):biI .add (.d (.int .u64 a)) (.d (.int .u64 b))=some (.d (.int .u64 ((a+b:Nat):Int))):=by rw[yQ,wrap_u64 aa];simp
theorem BQ(h:a*b<18446744073709551616):biI .mul (.d (.int .u64 a)) (.d (.int .u64 b))=some (.d (.int .u64 ((a*b:Nat):Int))):=by grind[uq,wrap_u64]
theorem aca(h:a<18446744073709551616):cvI .u64 (.d (.int k a))=some (.d (.int .u64 a)):=by rw[YY,wrap_u64 aa]
section
variable{α:Type}{f:α->D}{l:List α}{h:Hp}{s e:Nat}{ex fr:Bool}
end
theorem R4{α:Type}{f:α->D}{l:List α}{h:Hp}{s e:Nat}{ex fr:Bool}(hs:h[s]?=some (e,.data 1 (l.map f) ex fr)){n m tot:Nat}(hn:n=l.length)(hm:n<=m)(ht:tot=l.length):
  bg h (.ref s e 0 n m tot)=some (lst f l,h.set s (e,.data 1 (l.map f) ex true)):=by subst hn;subst ht;simp only[bg,toD,aC,hs,if_true,List.length_map];rw[if_pos ⟨trivial,hm,aa⟩];simp only[Yo,Yj,cw,lst];rw[Zz ae]
end Go.Vm
namespace Go.Big
variable{l a b o:LnQ}{i x n k m:Nat}
def val(B:Nat):LnQ->Nat
 |[]=>0
 |x::l=>x+B*val B l
def io:LnQ->LnQ
 |[]=>[]
 | x::l=>match io l with
  |[]=>if x=0 then[]else[x]
  |y::r=>x::y::r
def Bq(B:Nat):Nat->Nat->LnQ
 |0,_=>[]
 |f+1,n=>if n=0 then[]else n%B::Bq B f (n/B)
def dig(B n:Nat):LnQ:=Bq B n n
def aK(B:Nat)(l:LnQ):Prop:=∀x∈l,x<B
section
variable{B:Nat}
theorem val_append(a b:LnQ):val B (a++b)=val B a+B^a.length*val B b:=by
 induction a with
 |nil=>simp[val]
 |cons x a ih=>grind[val]
theorem js(hB:0<B)(h:aK B l):val B l<B^l.length:=by
 induction l with
 |nil=>simp[val]
 | cons x l ih=>
  have h1:=ih fun y hy=>h y (by grind)
  have h2:=h x ae;simp only[val,List.length_cons,Nat.pow_succ];have:B*(val B l+1)<=B*B^l.length:=Zx B h1
  grind
theorem aK.take{l:LnQ}(h:aK B l)(n:Nat):aK B (l.take n):=fun x hx=>h x (Xl hx)
theorem aK.drop{l:LnQ}(h:aK B l)(n:Nat):aK B (l.drop n):=fun x hx=>h x (List.mem_of_mem_drop hx)
theorem aK.get(h:aK B l)(hi:i<l.length):l[i]<B:=h _ (X3 hi)
theorem aK.append(ha:aK B a)(hb:aK B b):aK B (a++b):=fun x hx=>by
 rcases Xm.1 hx with h|h
 .exact ha x h
 .exact hb x h
theorem Pv(l:LnQ):val B (io l)=val B l:=by
 induction l with
 |nil=>rfl
 | cons x l ih=>
  grind[io,val]
theorem IX(h:aK B l):aK B (io l):=by
 induction l with
 |nil=>exact h
 | cons x l ih=>
  have h1:=ih fun y hy=>h y (by grind)
  have hx:=h x ae;unfold io;split
  .split
   .grind
   .intro y hy;grind
  .rename_i y r he;rw[he]at h1;intro z hz;rcases Zs.1 hz with rfl|hz
   .exact hx
   .exact h1 z hz
def yW(l:LnQ):Prop:=∀h:l≠[],l.getLast h≠0
theorem LN(l:LnQ):yW (io l):=by
 induction l with
 |nil=>intro h;trivial
 | cons x l ih=>
  unfold io;split
  .split
   .grind
   .rename_i hx;intro h;trivial
  .rename_i y r he;rw[he]at ih;intro h;rw[List.getLast_cons ae];exact ih ae
theorem EM(h:yW l):io l=l:=by
 induction l with
 |nil=>rfl
 | cons x l ih=>
  unfold io;cases l with
  | nil=>
   have:=h ae
   grind[io]
  | cons y r=>
   have:yW (y::r):=fun hh=>by have:=h ae;rwa [List.getLast_cons ae]at this
   grind
theorem ql(l:LnQ):io (l++[0])=io l:=by
 induction l with
 |nil=>rfl
 |cons x l ih=>grind[io]
theorem w8(h:x≠0):io (l++[x])=l++[x]:=EM fun _=>by grind
theorem BZ(hB:2<=B):∀(f n:Nat),n<=f->val B (Bq B f n)=n∧aK B (Bq B f n)∧yW (Bq B f n)
 | 0,n,h=>by
  have:n=0:=aa;subst this;exact⟨rfl,fun x hx=>by trivial,fun hx=>absurd rfl hx⟩
 | f+1,n,h=>by
  unfold Bq;split
  .rename_i h0;subst h0;exact⟨rfl,fun x hx=>by simp at hx,fun hx=>absurd rfl hx⟩
  .rename_i h0;have hlt:n/B<n:=Nat.div_lt_self aa aa;obtain⟨h1,h2,h3⟩:=BZ hB f (n/B) aa;refine⟨?_,?_,?_⟩
   .grind[val,Xw]
   .intro x hx;rcases Zs.1 hx with rfl|hx
    .exact Y1 _ aa
    .exact h2 x hx
   .intro hne;by_cases hd:Bq B f (n/B)=[]
    .simp only[hd];rw[hd]at h1;simp only[val]at h1
     have:n<B:=by
      rcases Zl n B with h|h
      .exact h
      .have:=Wj h (by omega:0<B);omega
     grind[Yd]
    .rw[List.getLast_cons hd];exact h3 hd
theorem ir(hB:2<=B)(n:Nat):val B (dig B n)=n:=(BZ hB n n (Z7 n)).1
theorem cI(hB:2<=B)(n:Nat):aK B (dig B n):=(BZ hB n n (Z7 n)).2.1
theorem Ef(hB:2<=B)(n:Nat):yW (dig B n):=(BZ hB n n (Z7 n)).2.2
theorem vp(h:yW l)(hl:l≠[])(hB:0<B):val B l≠0:=by
 induction l with
 |nil=>trivial
 | cons x l ih=>
  cases l with
  |nil=>have:=h ae;trivial
  | cons y r=>
   have hn:yW (y::r):=fun hh=>by have:=h ae;rwa [List.getLast_cons ae]at this
   have:=ih hn ae;simp only[val]at this ⊢;have:=Yk hB (Nat.pos_of_ne_zero this);omega
theorem J2(hB:0<B):∀{a b:LnQ},aK B a->aK B b->yW a->yW b->val B a=val B b->a=b
 |[],[],_,_,_,_,_=>rfl
 |[],y::b,_,_,_,hb,h=>absurd h.symm (vp hb ae hB)
 |x::a,[],_,_,ha,_,h=>absurd h (vp ha ae hB)
 | x::a,y::b,sa,sb,na,nb,h=>by
  have hx:=sa x ae;have hy:=sb y ae;simp only[val]at h
  have e1:x=y:=by
   have:=congrArg (· % B) h;simpa[Xo,Yd hx,Yd hy]using this
  subst e1;have e2:val B a=val B b:=X4 hB aa;have tl:∀{l:LnQ}{x:Nat},yW (x::l)->yW l:=fun{l x} h hl=>by have:=h ae;grind
  rw[J2 hB (fun z hz=>sa z (by grind)) (fun z hz=>sb z (by grind)) (tl na) (tl nb) e2]
theorem qK(hB:2<=B)(h:aK B l):dig B (val B l)=io l:=
 J2 aa (cI hB _) (IX h) (Ef hB _) (LN l) (by rw[ir hB,Pv])
theorem pj(hB:2<=B):(dig B n).length<=k↔n<B^k:=by
 have hv:=ir hB n;have hs:=js aa (cI hB n);rw[hv]at hs;constructor
 .intro h;exact Z3 hs (Z4 aa h)
 .intro h;rcases Zl k (dig B n).length with hk|hk
  .exfalso;have hne:dig B n≠[]:=by intro e;rw[e]at hk;simp at hk
   have hdrop:val B ((dig B n).drop k)≠0:=by
    refine vp ?_ (by grind[List.drop_eq_nil_iff]) aa;intro hd;rw[List.getLast_drop];exact Ef hB n hne
   have:=val_append (B:=B) ((dig B n).take k) ((dig B n).drop k);rw[Yc,hv,Zt,Y4 aa]at this;have:=Zx (B^k) (Nat.pos_of_ne_zero hdrop);omega
  omega
def Mu(a b:LnQ):Nat->Int
 |0=>0
 |i+1=>if a.getD i 0<b.getD i 0 then -1 else if b.getD i 0<a.getD i 0 then 1 else Mu a b i
def cmp(a b:Nat):Int:=if a<b then -1 else if b<a then 1 else 0
theorem N9(hB:0<B){a b:LnQ}(ha:aK B a)(hb:aK B b):∀i,i<=a.length->i<=b.length->Mu a b i=cmp (val B (a.take i)) (val B (b.take i))
 |0,_,_=>by rfl
 | i+1,h1,h2=>by
  have e:∀(l:LnQ)(h:i<l.length),val B (l.take (i+1))=val B (l.take i)+B^i*l[i]:=fun l h=>by
   rw[List.take_add_one,val_append,Zt,Y4 aa]
   grind[val]
  have la:=js hB (ha.take i);have lb:=js hB (hb.take i);rw[Zt,Y4 aa]at la lb;rw[Mu,e a aa,e b aa,N9 hB ha hb i aa aa];have ga:a.getD i 0=a[i]:=by simp[show i<a.length by omega]
  have gb:b.getD i 0=b[i]:=by simp[show i<b.length by omega]
  rw[ga,gb];generalize a[i]=x,b[i]=y at *;unfold cmp;rcases Nat.lt_trichotomy x y with h|h|h
  .rw[if_pos h];have:B^i*(x+1)<=B^i*y:=Zx _ h;rw[Zp]at this;rw[if_pos aa]
  .grind
  .rw[if_neg aa,if_pos h];have:B^i*(y+1)<=B^i*x:=Zx _ h;rw[Zp]at this;rw[if_neg aa,if_pos aa]
theorem Ij(hB:2<=B)(h:(dig B m).length<(dig B n).length):m<n:=by
 have h1:m<B^(dig B m).length:=(pj hB).1 (Z7 _);rcases Zl n (B^(dig B m).length)with h2|h2
 .have:=(pj hB).2 h2;omega
 .omega
theorem qa(l:LnQ)(i:Nat):val B (l.drop i)=l.getD i 0+B*val B (l.drop (i+1)):=by
 by_cases h:i<l.length
 .grind[Y0,val]
 .rw[Zd aa,Zd aa];simp[val,List.getElem?_eq_none (by omega:l.length<=i)]
theorem aK.getD{l:LnQ}(h:aK B l)(hB:0<B)(i:Nat):l.getD i 0<B:=by
 by_cases hi:i<l.length
 .simp_all[get]
 .simp[List.getElem?_eq_none (by omega:l.length<=i),hB]
theorem IR(l:LnQ)(x:Nat):val B (l++[x])=val B l+B^l.length*x:=by simp[val_append,val]
theorem y9(n:Nat):val B (List.replicate n 0)=0:=by
 induction n with
 |zero=>rfl
 |succ n ih=>grind[val]
theorem aK.snoc(h:aK B l)(hx:x<B):aK B (l++[x]):=h.append fun y hy=>by grind
end
def HP(w:Nat):Nat->Nat->Nat->Nat->Option Nat
 |0,_,_,out=>some out
 | n+1,low,high,out=>
  if 2^(w+1)<=low*low/2^w then HP w n (low*low/2^w/2) (((if high*high/2^w*2^w=high*high then high*high/2^w else high*high/2^w+1)+1)/2) (out*2+1)
  else if 2^(w+1)<=(if high*high/2^w*2^w=high*high then high*high/2^w else high*high/2^w+1)then none
  else HP w n (low*low/2^w) (if high*high/2^w*2^w=high*high then high*high/2^w else high*high/2^w+1) (out*2)
theorem vN{B:Nat}:∀(l:LnQ)(j x:Nat),j<l.length->val B (l.set j x)+B^j*l.getD j 0=val B l+B^j*x
 |[],j,x,h=>by simp at h
 |y::l,0,x,h=>by simp[val];omega
 | y::l,j+1,x,h=>by
  have:=vN (B:=B) l j x (by simpa using h);simp only[List.set_cons_succ,val,List.getD_cons_succ,Nat.pow_succ];rw[Zr (B^j) B,Nat.mul_assoc,Nat.mul_assoc];generalize val B (l.set j x)=p at *;generalize B^j*l.getD j 0=q at *;generalize B^j*x=r at *;have h2:B*(p+q)=B*(val B l+r):=by rw[this]
  rw[Zp,Zp]at h2;omega
theorem aK.set{B:Nat}{l:LnQ}(h:aK B l){j x:Nat}(hx:x<B):aK B (l.set j x):=by
 intro y hy;rcases Yz hy with h1|h1
 .exact h y h1
 .subst h1;exact hx
theorem wS{B:Nat}(l:LnQ)(h:i<l.length):val B (l.take (i+1))=val B (l.take i)+B^i*l.getD i 0:=by rw[List.take_add_one,val_append,Zt,Y4 aa];simp[List.getElem?_eq_getElem h,val]
theorem TN{B:Nat}{j c a y v:Nat}(hj:j<o.length):
  val B (o.set j ((c+o.getD j 0+a*y)%B))+B^(j+1)*((c+o.getD j 0+a*y)/B+a*v)=val B o+B^j*(c+a*(y+B*v)):=by
 have h:=vN (B:=B) o j ((c+o.getD j 0+a*y)%B) hj;generalize val B (o.set j ((c+o.getD j 0+a*y)%B))=p at *;generalize o.getD j 0=w at *;have hd:=Xw (c+w+a*y) B;generalize(c+w+a*y)%B=r at *;generalize(c+w+a*y)/B=d at *;generalize val B o=q at *;generalize hP:B^j=P at *;rw[Nat.pow_succ,hP,Nat.mul_assoc]
 have e1:P*(B*(d+a*v))+P*r=P*(c+w+a*y)+P*(a*(B*v)):=by
  rw[<-Zp,<-Zp,<-hd,Zp B,Y3 a B v];congr 1;omega
 have e2:P*(c+a*(y+B*v))+P*w=P*(c+w+a*y)+P*(a*(B*v)):=by
  rw[<-Zp,<-Zp,Zp a];congr 1;omega
 omega
end Go.Big
namespace Go.Vm
open Go Go.Am
abbrev aj:TyI:=⟨.f,1,8,[.pl .nilFunc],false⟩
abbrev jD:TyI:=⟨.o,1,0,[],false⟩
abbrev FZ:TyI:=⟨.p,1,8,[.pl (.pointer none)],false⟩
abbrev NT:TyI:=⟨.i .i64,1,8,[.int .i64 0],false⟩
abbrev NS:TyI:=⟨.i .u8,1,1,[.int .u8 0],false⟩
abbrev NR:TyI:=⟨.s,1,16,[.str []],false⟩
abbrev SB:TyI:=⟨.i .u64,1,8,[.int .u64 0],false⟩
abbrev SA:TyI:=⟨.it,1,16,[.pl .nilIface],false⟩
abbrev Sz:TyI:=⟨.i .i32,1,4,[.int .i32 0],false⟩
abbrev Sy:TyI:=⟨.sl 3,1,24,[.pl (.slice none 0 0)],false⟩
abbrev SU:TyI:=⟨.st [(0,1),(1,1),(2,1),(3,1)],4,24,[.int .i64 0,.int .i64 0,.bool false,.int .u8 0],false⟩
abbrev SS:TyI:=⟨.st [(0,1),(1,1)],2,24,[.str [],.int .u64 0],false⟩
abbrev SR:TyI:=⟨.st [(0,1)],1,8,[.pl (.pointer none)],false⟩
abbrev SQ:TyI:=⟨.st [(0,1),(1,2)],3,56,[.pl (.slice none 0 0),.str [],.str []],false⟩
abbrev SP:TyI:=⟨.sl 34,1,24,[.pl (.slice none 0 0)],false⟩
abbrev SO:TyI:=⟨.sl 31,1,24,[.pl (.slice none 0 0)],false⟩
abbrev SN:TyI:=⟨.st [(0,1),(1,1),(2,1)],3,72,[.pl (.slice none 0 0),.pl (.slice none 0 0),.pl (.slice none 0 0)],false⟩
abbrev SL:TyI:=⟨.st [(0,3),(3,1)],4,96,[.pl (.slice none 0 0),.pl (.slice none 0 0),.pl (.slice none 0 0),.pl (.slice none 0 0)],false⟩
abbrev SK:TyI:=⟨.st [(0,3),(3,1),(4,1)],5,88,[.pl (.slice none 0 0),.str [],.str [],.pl (.slice none 0 0),.int .i64 0],false⟩
abbrev SJ:TyI:=⟨.st [(0,1),(1,1)],2,32,[.int .i64 0,.pl (.slice none 0 0)],false⟩
abbrev SI:TyI:=⟨.sl 32,1,24,[.pl (.slice none 0 0)],false⟩
abbrev SH:TyI:=⟨.st [(0,1),(1,1),(2,1)],3,64,[.pl (.slice none 0 0),.pl (.slice none 0 0),.str []],false⟩
abbrev SG:TyI:=⟨.sl 138,1,24,[.pl (.slice none 0 0)],false⟩
abbrev SF:TyI:=⟨.sl 197,1,24,[.pl (.slice none 0 0)],false⟩
abbrev SE:TyI:=⟨.st [(0,1),(1,1),(2,1)],3,48,[.str [],.str [],.pl .nilIface],false⟩
abbrev SD:TyI:=⟨.st [(0,1),(1,1),(2,1),(3,1)],4,40,[.pl (.pointer none),.pl (.pointer none),.pl (.pointer none),.str []],false⟩
abbrev SC:TyI:=⟨.st [(0,1),(1,1),(2,1),(3,1),(4,1),(5,1),(6,1),(7,1),(8,1),(9,1),(10,1)],11,48,[.int .u64 0,.int .u64 0,.int .u32 0,.int .u8 0,.int .u8 0,.int .u8 0,.int .u8 0,.pl .nilFunc,.pl (.pointer none),.int .i32 0,.int .i32 0],false⟩
abbrev slQ(n:Nat):TyI:=⟨.sl n,1,24,[.pl (.slice none 0 0)],false⟩
def afR:List TyI:=[
 jD,aj,NT,NT,⟨.b,1,1,[.bool false],false⟩,NS,NS,SU,SU,NR,NR,NR,SB,SS,SS,FZ]
def afQ:List TyI:=[
 FZ,FZ,SR,SR,SA,Sz,Sy,Sy,slQ 37,aj,aj,NT,aj,aj,aj,Sy]
def afP:List TyI:=[
 NR,⟨.st [(0,1),(1,1)],2,32,[.str [],.str []],false⟩,⟨.st [(0,1),(1,1)],2,32,[.str [],.str []],true⟩,aj,SQ,SQ,SP,SP,jD,aj,SO,SO,SN,SN,slQ 39,SL]
def afO:List TyI:=[
 SL,aj,jD,aj,jD,aj,aj,aj,aj,aj,aj,aj,aj,aj,jD,aj]
def afN:List TyI:=[
 jD,aj,slQ 70,jD,aj,SK,SK,aj,aj,aj,aj,aj,aj,aj,aj,jD]
def afM:List TyI:=[
 aj,aj,aj,aj,aj,aj,aj,aj,jD,aj,aj,aj,jD,aj,aj,aj]
def afL:List TyI:=[
 aj,aj,aj,aj,aj,aj,aj,aj,aj,aj,aj,aj,SA,SA,jD,aj]
def afK:List TyI:=[
 jD,aj,SJ,SJ,aj,jD,aj,aj,aj,aj,jD,aj,aj,aj,SI,SH]
def afJ:List TyI:=[
 SH,aj,aj,aj,aj,aj,aj,aj,slQ 5,aj,SB,jD,aj,aj,SG,SG]
def afI:List TyI:=[
 aj,aj,jD,aj,aj,jD,aj,aj,jD,aj,aj,aj,jD,aj,SF,SF]
def adb:List TyI:=[
 aj,aj,aj,aj,aj,aj,aj,aj,jD,aj,jD,aj,aj,SB,NT,jD]
def ada:List TyI:=[
 aj,FZ,aj,aj,jD,aj,aj,aj,aj,aj,aj,aj,aj,⟨.ar 24 5,24,24,List.replicate 24 (.int .u8 0),false⟩,aj,aj]
def ac9:List TyI:=[
 jD,aj,aj,aj,aj,SI,aj,aj,aj,aj,aj,jD,aj,aj,aj,aj]
def ac8:List TyI:=[
 aj,aj,jD,aj,aj,SE,SE,aj,aj,aj,aj,⟨.ar 20 138,20,160,List.replicate 20 (.int .u64 0),false⟩,⟨.i .u32,1,4,[.int .u32 0],false⟩,⟨.ar 65 5,65,65,List.replicate 65 (.int .u8 0),false⟩,aj,aj]
def ac7:List TyI:=[
 aj,aj,aj,aj,jD,aj,jD,aj,aj,aj,aj,jD,aj,aj,aj,FZ]
def ac6:List TyI:=[
 FZ,⟨.st [(0,1)],1,16,[.str []],false⟩,⟨.st [(0,1)],1,16,[.str []],false⟩,aj,aj,aj,aj,⟨.ar 32 5,32,32,List.replicate 32 (.int .u8 0),false⟩,⟨.ar 64 5,64,64,List.replicate 64 (.int .u8 0),false⟩,aj,SD,SD,⟨.ar 0 16,0,0,[],false⟩,⟨.st [(0,0)],0,0,[],false⟩,⟨.st [(0,0)],0,0,[],false⟩,NS]
def ac5:List TyI:=[
 NS,aj,Sz,Sz,SC,SC,aj,⟨.o,1,8,[.pl (.pointer none)],false⟩,aj,aj,aj]
def Ck:List (List TyI):=[afR,afQ,afP,afO,afN,afM,afL,afK,afJ,afI,adb,ada,ac9,ac8,ac7,ac6,ac5]
def acp:LnQ:=[0,1,204,205,206,207,208,209,210,211,212,213,214,215,216,217,218,219,220,221,222,223,224,225,226,227,228,229,230]
def nX:Nat:=2
namespace F
def cY:FuncId:=3
def dP:FuncId:=4
def fY:FuncId:=5
def lj:FuncId:=6
def gj:FuncId:=7
def lh:FuncId:=8
def f9:FuncId:=9
def aH:FuncId:=10
def pX:FuncId:=11
def cM:FuncId:=12
def ij:FuncId:=13
def m8:FuncId:=14
def eT:FuncId:=15
def kK:FuncId:=16
def eE:FuncId:=17
def iN:FuncId:=18
def eQ:FuncId:=19
def ax:FuncId:=20
def fN:FuncId:=21
def bz:FuncId:=22
def gL:FuncId:=23
def kM:FuncId:=24
def m9:FuncId:=25
def lY:FuncId:=26
def pL:FuncId:=27
def aJ:FuncId:=28
def jd:FuncId:=29
def iJ:FuncId:=30
def ku:FuncId:=31
def mL:FuncId:=32
def c8:FuncId:=33
def oE:FuncId:=34
def aU:FuncId:=35
def nI:FuncId:=36
def dF:FuncId:=37
def kR:FuncId:=38
def kP:FuncId:=39
def rz:FuncId:=40
def ou:FuncId:=41
def ak:FuncId:=42
def dw:FuncId:=43
def cj:FuncId:=44
def aY:FuncId:=45
def bE:FuncId:=46
def jX:FuncId:=47
def bL:FuncId:=48
def qO:FuncId:=49
def m7:FuncId:=50
def bZ:FuncId:=51
def strconv_Itoa:FuncId:=52
def fj:FuncId:=53
def iI:FuncId:=54
def ib:FuncId:=55
def iV:FuncId:=56
def nH:FuncId:=57
def lR:FuncId:=58
def qV:FuncId:=59
def nV:FuncId:=60
def jB:FuncId:=61
def nC:FuncId:=62
def aS:FuncId:=63
def nB:FuncId:=64
def hO:FuncId:=65
def strconv_Atoi:FuncId:=66
def dV:FuncId:=67
def lN:FuncId:=68
def bc:FuncId:=69
def kw:FuncId:=70
def iK:FuncId:=71
def iS:FuncId:=72
def jQ:FuncId:=73
def fF:FuncId:=74
def fU:FuncId:=75
def kW:FuncId:=76
def fV:FuncId:=77
def iW:FuncId:=78
def eM:FuncId:=79
def nJ:FuncId:=80
def mS:FuncId:=81
def jA:FuncId:=82
def eH:FuncId:=83
def pK:FuncId:=84
def jL:FuncId:=85
def aM:FuncId:=86
def ie:FuncId:=87
def oJ:FuncId:=88
def aB:FuncId:=89
def gB:FuncId:=90
def gE:FuncId:=91
def AZ:FuncId:=92
def fA:FuncId:=93
def jc:FuncId:=94
def cX:FuncId:=95
def cE:FuncId:=96
def cW:FuncId:=97
def aT:FuncId:=98
def dE:FuncId:=99
def b9:FuncId:=100
def fM:FuncId:=101
def gF:FuncId:=102
def dz:FuncId:=103
def lW:FuncId:=104
def ky:FuncId:=105
def lI:FuncId:=106
def cV:FuncId:=107
def ef:FuncId:=108
def aw:FuncId:=109
def pM:FuncId:=110
def d8:FuncId:=111
def mR:FuncId:=112
def gK:FuncId:=113
def fT:FuncId:=114
def kI:FuncId:=115
def aX:FuncId:=116
def cO:FuncId:=117
def eD:FuncId:=118
def iM:FuncId:=119
def bj:FuncId:=120
def pE:FuncId:=121
def fX:FuncId:=122
def ic:FuncId:=123
def bf:FuncId:=124
def iY:FuncId:=125
def xv:FuncId:=127
def iO:FuncId:=132
def fW:FuncId:=133
def aD:FuncId:=134
def bX:FuncId:=135
def cu:FuncId:=136
def dC:FuncId:=137
def cN:FuncId:=138
def cC:FuncId:=139
def ii:FuncId:=140
def dy:FuncId:=141
def bU:FuncId:=142
def qi:FuncId:=143
def nF:FuncId:=144
def oH:FuncId:=145
def kx:FuncId:=146
def fu:FuncId:=147
def jP:FuncId:=148
def cF:FuncId:=149
def cD:FuncId:=150
def gk:FuncId:=151
def oL:FuncId:=152
def eS:FuncId:=153
def lU:FuncId:=154
def fL:FuncId:=155
def jM:FuncId:=156
def oO:FuncId:=157
def fK:FuncId:=158
def fq:FuncId:=159
def rt:FuncId:=160
def fk:FuncId:=165
def dT:FuncId:=166
def bF:FuncId:=167
def fG:FuncId:=168
def eJ:FuncId:=169
def fH:FuncId:=170
def bi:FuncId:=173
def oG:FuncId:=174
def lX:FuncId:=175
def aZ:FuncId:=176
def ew:FuncId:=177
def iF:FuncId:=178
def eu:FuncId:=179
def ek:FuncId:=180
def gS:FuncId:=181
def nE:FuncId:=182
def qc:FuncId:=183
def Ba:FuncId:=184
def dl:FuncId:=185
def qU:FuncId:=186
def cT:FuncId:=187
def kJ:FuncId:=188
def size_digits:FuncId:=189
def bh:FuncId:=194
def iU:FuncId:=195
def cS:FuncId:=196
def qP:FuncId:=197
def cG:FuncId:=198
def dR:FuncId:=199
def jO:FuncId:=200
def iP:FuncId:=201
def uv:FuncId:=202
def nL:FuncId:=203
def tR:FuncId:=cT
end F
end Go.Vm
namespace Go.Vm
open Go Go.Am
noncomputable section
def Pz:List TyI->Nat->TyI
 |[],_=>⟨.o,0,0,[],false⟩
 |x::_,0=>x
 |_::l,n+1=>Pz l n
def IZ:List (List TyI)->Nat->List TyI
 |[],_=>[]
 |x::_,0=>x
 |_::l,n+1=>IZ l n
def pB:Nat->LuQ->Nat
 |a,[]=>a
 |a,c::l=>pB (a*10+(c.toNat-48)) l
def oC(c:UInt8):Bool:=Nat.ble 48 c.toNat&&Nat.ble c.toNat 57
def JK:LvQ->Option Value
 |[.string s,.int .i64 a,.int .i64 b]=>if a=10∧b=64∧s.data.toList≠[]∧s.data.toList.all oC=true∧s.data.toList.length<=1000∧pB 0 s.data.toList<10000000000000000000 then some (.tuple #[.int .u64 (pB 0 s.data.toList),.nilIface])else none
 |_=>none
def N6:LvQ->Option Value
 | [.string s,.int .i64 a,.int .i64 b]=>if a=10∧b=64 then(match s.data.toList with
  |45::l=>if l≠[]∧l.all oC=true∧l.length<=1000∧pB 0 l<9223372036854775808 then some (.tuple #[.int .i64 (-(pB 0 l:Int)),.nilIface])else none
  |l=>if l≠[]∧l.all oC=true∧l.length<=1000∧pB 0 l<9223372036854775808 then some (.tuple #[.int .i64 (pB 0 l),.nilIface])else none)else none
 |_=>none
def MP:Value->Bool
 |.slice ..=>true
 |_=>false
def LD(H:AH)(p q:Value):Option (List LvQ):=match mM H 1 p,mM H 1 q with
 |some (k,xs),some (k',ys)=>if k=k'∧xs.length=k∧ys.length=k∧k<4611686018427387904∧(MP p&&MP q)=true∧(xs.all fun v=>plain v&&okCell v)=true∧(ys.all fun v=>plain v&&okCell v)=true then some ((xs.zip ys).map fun x=>[x.1,x.2])else none
 |_,_=>none
def Hm(f:FuncId)(lb:LvQ)(H:AH):Option (List LvQ):=match Nat.beq f F.cT with
 | true=>match lb with
  | [.pointer (some ⟨b,o,none⟩)]=>match cg H b o 3 with
   |some [p,q,_]=>LD H p q
   |_=>none
  |_=>none
 | false=>match Nat.beq f F.tR with
  | true=>match lb with
   | [.pointer (some ⟨b,o,none⟩),.pointer (some ⟨b',o',none⟩)]=>match cg H b o 1,cg H b' o' 1 with
    |some [p],some [q]=>LD H p q
    |_,_=>none
   |_=>none
  |false=>none
def Ju(f:FuncId)(lb:LvQ)(H:AH):LvQ:=match lb with
 |[.pointer (some ⟨b,o,none⟩)]=>(cg H b o 3).getD []
 |[.pointer (some ⟨b,o,none⟩),.pointer (some ⟨b',o',none⟩)]=>(cg H b o 1).getD []++(cg H b' o' 1).getD []
 |_=>[]
def lits:LdQ->Option LvQ
 |[]=>some []
 | x::l=>match x,lits l with
  |.int k n,some r=>some (.int k n::r)
  |.str s,some r=>some (.string ⟨⟨s⟩⟩::r)
  |_,_=>none
def slD:D->Option (Nat×LdQ)
 |.sl n l=>some (n,l)
 |.pl (.slice none 0 0)=>some (0,[])
 |_=>none
def Po(p q:D):Option (List LvQ):=match slD p,slD q with
 | some (k,l),some (k',m)=>match lits l,lits m with
  |some xs,some ys=>if k=k'∧xs.length=k∧ys.length=k∧k<4611686018427387904 then some ((xs.zip ys).map fun x=>[x.1,x.2])else none
  |_,_=>none
 |_,_=>none
def abj(f:FuncId)(cs:LwQ):Option (List LvQ):=match Nat.beq f F.cT with
 | true=>match cs with
  |[.dptr [p,q,_] 0]=>Po p q
  |_=>none
 | false=>match Nat.beq f F.tR with
  | true=>match cs with
   |[.dptr [p] 0,.dptr [q] 0]=>Po p q
   |_=>none
  |false=>none
def X:Cfg:={P:=Go.Proofs.Tryz.prog,allow:=gN acp,glob:=fun g=>Nat.beq g nX,orc:=fun f args=>(match Nat.beq f F.fk with
 |true=>JK args
 | false=>match Nat.beq f F.eS with
  |true=>N6 args
  |false=>none),seq:=Hm,seqK:=Ju}
def JL:LdQ:=[.int .u64 1,.int .u64 10,.int .u64 100,.int .u64 1000,.int .u64 10000,.int .u64 100000,.int .u64 1000000,.int .u64 10000000,.int .u64 100000000,.int .u64 1000000000,.int .u64 10000000000,.int .u64 100000000000,
 .int .u64 1000000000000,.int .u64 10000000000000,.int .u64 100000000000000,.int .u64 1000000000000000,.int .u64 10000000000000000,.int .u64 100000000000000000,.int .u64 1000000000000000000,.int .u64 10000000000000000000]
def Y:j7:={X:=X,ty:=fun t=>Pz (IZ Ck (t/16)) (t%16),glob:=fun g=>(match Nat.beq g nX with
 |true=>some JL
 |false=>none),seq:=abj}
end
end Go.Vm
set_option maxRecDepth 100000
namespace Go.Vm
open Go Go.Am
variable{x:Prop}{y w:Value}{P:Program}{t:TypeId}{d p:D}{z l:LdQ}{k k':kkQ}{a b f v0 c v:V}{h0 h:Hp}{T:kkQ->Prop}{s n m:Nat}{ps:List (Nat×V)}{dr:Bool}
def ab3:Value->Value->Bool
 |.pointer none,.pointer none=>true
 |.slice none a b,.slice none c d=>a == c&&b == d
 |.nilFunc,.nilFunc=>true
 |.nilIface,.nilIface=>true
 |.map none,.map none=>true
 |.chan none,.chan none=>true
 |_,_=>false
theorem YN{x:Value}(h:ab3 x y=true):x=y:=by unfold ab3 at h;split at h<;>first|rfl|(simp at h;obtain⟨rfl,rfl⟩:=h;rfl)|cases h
def ab4:D->D->Bool
 |.int k a,.int l b=>decide (k=l)&&decide (a=b)
 |.bool a,.bool b=>a == b
 |.str a,.str b=>a == b
 |.pl a,.pl b=>ab3 a b
 |_,_=>false
theorem YO{x y:D}(h:ab4 x y=true):x=y:=by
 unfold ab4 at h;split at h
 .simp at h;obtain⟨rfl,rfl⟩:=h;rfl
 .simp at h;subst h;rfl
 .simp at h;subst h;rfl
 .rw[YN h]
 .cases h
def UO:LdQ->LdQ->Bool
 |[],[]=>true
 |x::l,y::m=>ab4 x y&&UO l m
 |_,_=>false
theorem OS:∀{l m:LdQ},UO l m=true->l=m
 |[],[],_=>rfl
 | x::l,y::m,h=>by
  simp only[UO,Z8]at h;rw[YO h.1,OS h.2]
 |[],_::_,h=>by cases h
 |_::_,[],h=>by cases h
def Un(P:Program)(t:TypeId)(k:Ty):Bool:=match k with
 |.i k=>match P.underlying t with|some (.int k')=>decide (k'=k)|_=>false
 |.b=>match P.underlying t with|some .bool=>true|_=>false
 |.s=>match P.underlying t with|some .string=>true|_=>false
 |.p=>match P.underlying t with|some (.pointer _)=>true|_=>false
 |.f=>match P.underlying t with|some (.func ..)=>true|_=>false
 |.it=>match P.underlying t with|some (.interface _)=>true|_=>false
 |.sl e=>match P.underlying t with|some (.slice e')=>e' == e|_=>false
 |.ar n e=>match P.underlying t with|some (.array n' e')=>n' == n&&e' == e|_=>false
 |.st fs=>match P.underlying t with|some (.struct gs)=>decide (gs.toList.map (fun f=>(f.offset,szO P f.type))=fs.map fun p=>(p.1,some p.2))|_=>false
 |.o=>true
def MN(P:Program)(t:TypeId):D->Bool
 |.int _ _=>match P.underlying t with|some (.int _)=>true|_=>false
 |.bool _=>match P.underlying t with|some .bool=>true|_=>false
 |.str _=>match P.underlying t with|some .string=>true|_=>false
 |_=>false
theorem Qx(h:MN P t d=true):OC P t d:=by
 unfold MN at h;split at h
 .split at h
  .rename_i hu;exact⟨_,hu⟩
  .cases h
 .split at h
  .rename_i hu;exact hu
  .cases h
 .split at h
  .rename_i hu;exact hu
  .cases h
 .cases h
def UD(P:Program)(t:TypeId)(z:LdQ):Bool:=match P.underlying t with
 |some (.struct gs)=> !P.stoodInHeld t && !P.eqGuardType P.depth t&&decide (gs.size=z.length)&&(gs.toList.zipIdx.zip z).all fun x=>x.1.1.offset == x.1.2&&x.1.1.name != "_" && MN P x.1.1.type x.2
 |_=>false
theorem UC(h:UD P t z=true):ID P t z:=by
 unfold UD at h;split at h
 .rename_i gs hu;simp only[Z8,Y7,decide_eq_true_eq,Z2]at h;obtain⟨⟨⟨h1,h2⟩,h3⟩,h4⟩:=h;refine⟨gs,hu,h1,h2,h3,fun i f d hf hd=>?_⟩
  have:=h4 ((f,i),d) (by
   apply Xy (i:=i);rw[List.getElem?_zip_eq_some];exact⟨by rw[List.getElem?_zipIdx,hf];simp,hd⟩)
  simp only[beq_iff_eq,bne_iff_ne]at this;exact⟨this.1.1,this.1.2,Qx this.2⟩
 .cases h
def tyB(P:Program)(t:TypeId)(i:TyI):Bool:=(!i.eq||UD P t i.z)&&match i.k with
 |.o=>true
 | k=>Un P t k&&decide (szO P t=some i.sz)&&decide (qt P t=some i.bytes)&&match il P t with
  |some z=>plain z&&z.cells.size == i.sz&&(z.cells.toList.all fun c=>plain c&&okCell c)&&UO (z.cells.toList.map iR) i.z
  |none=>false
theorem Ny{i:TyI}(h:tyB P t i=true):ED P t i:=by
  unfold tyB at h;rw[Z8]at h;obtain⟨h0,h⟩:=h
  have heq:i.eq=true->ID P t i.z:=fun e=>by
    rw[e]at h0;exact UC (by simpa using h0)
  by_cases hk:i.k = .o
  · exact⟨by rw[hk];trivial,fun h=>absurd hk h,fun h=>absurd hk h,fun h=>absurd hk h,heq⟩
  · have h2:Un P t i.k=true∧szO P t=some i.sz∧qt P t=some i.bytes∧(match il P t with
        |some z=>plain z&&z.cells.size == i.sz&&(z.cells.toList.all fun c=>plain c&&okCell c)&&UO (z.cells.toList.map iR) i.z
        |none=>false)=true:=by
      split at h
      · rename_i e;exact absurd e hk
      · simp only[Z8,decide_eq_true_eq]at h
        exact⟨h.1.1.1,h.1.1.2,h.1.2,h.2⟩
    obtain⟨h1,h2,h3,h4⟩:=h2;refine⟨?_,fun _=>h2,fun _=>h3,fun _=> ?_,heq⟩
    · unfold Un at h1
      cases hq:i.k<;>rw[hq]at h1<;>dsimp only at h1 ⊢
      all_goals first
        |trivial
        | (split at h1
           · rename_i hu
             first
               |(simp only[decide_eq_true_eq]at h1;subst h1;exact hu)
               |exact hu
               |exact⟨_,hu⟩
               |exact⟨_,_,_,hu⟩
               |(simp only[beq_iff_eq]at h1;subst h1;exact hu)
               |(simp only[Z8,beq_iff_eq]at h1;obtain⟨rfl,rfl⟩:=h1;exact hu)
               |(simp only[decide_eq_true_eq]at h1;exact⟨_,hu,h1⟩)
           · cases h1)
    · split at h4
      · rename_i z hz
        simp only[Z8,beq_iff_eq,Z2]at h4;refine⟨z,hz,h4.1.1.1,OS h4.2,h4.1.1.2,fun c hc=> ?_⟩;have:=h4.1.2 c hc;exact this
      · cases h4
theorem zh:∀(l:List (List TyI))(n:Nat),l.length<=n->IZ l n=[]
 |[],_,_=>rfl
 |_::_,0,h=>by simp at h
 |_::l,n+1,h=>zh l n (by simpa using h)
theorem aa6:(List.range (16*Ck.length)).all (fun t=>tyB Y.X.P t (Y.ty t))=true:=aF
section
variable{F:Nat->Prop}{H:AH}
theorem yj:∀{l:LdQ}{xs:LvQ},lits l=some xs->(∀v∈xs,okZ v)∧∀ws,RDs F H l ws->ws=xs
 | [],xs,h=>by
  simp only[lits,Z9]at h;subst h;exact⟨fun v hv=>(by cases hv),fun ws hw=>by simpa only[RDs]using hw⟩
 | x::l,xs,h=>by
  unfold lits at h;split at h
  .rename_i k n r hr;simp only[Z9]at h;subst h;obtain⟨q1,q2⟩:=yj hr;refine⟨fun v hv=>?_,fun ws hw=>?_⟩
   .rcases Zs.1 hv with rfl|hv
    .exact⟨rfl,rfl⟩
    .exact q1 v hv
   .simp only[RDs,RD]at hw;obtain⟨v,us,rfl,rfl,h2⟩:=hw;rw[q2 us h2]
  .rename_i s r hr;simp only[Z9]at h;subst h;obtain⟨q1,q2⟩:=yj hr;refine⟨fun v hv=>?_,fun ws hw=>?_⟩
   .rcases Zs.1 hv with rfl|hv
    .exact⟨rfl,rfl⟩
    .exact q1 v hv
   .simp only[RDs,RD]at hw;obtain⟨v,us,rfl,rfl,h2⟩:=hw;rw[q2 us h2]
  .cases h
theorem Sb{k:Nat}{xs:LvQ}(h:slD p=some (k,l))(hl:lits l=some xs)(hk:xs.length=k)(hw:RD F H p w):mM H 1 w=some (k,xs):=by
 obtain⟨q1,q2⟩:=yj (F:=F) (H:=H) hl;unfold slD at h;split at h
 .rename_i n l';simp only[Z9,Z6]at h;obtain⟨rfl,rfl⟩:=h;simp only[RD]at hw;rcases hw with⟨rfl,rfl,h3⟩|⟨c,o,cap,vs,m,rfl,h1,h2,h3,h4,h5,h6,h7,h8⟩
  .simp only[lits,Z9]at hl;subst hl;rcases h3 with rfl|⟨c,o,cap,rfl,_⟩
   .rfl
   .simp[mM]
  .have e:=q2 vs h7;subst e
   have hl:l'.length=n:=by
    rw[<-hk,P7 h6]
   simp only[mM,Yj];rw[if_neg aa,<-hl,h6];simp
 .simp only[Z9,Z6]at h;obtain⟨rfl,rfl⟩:=h;simp only[lits,Z9]at hl;subst hl;simp only[RD]at hw;obtain⟨rfl,_⟩:=hw;rfl
 .cases h
theorem Sa{k:Nat}(h:slD p=some (k,l))(hw:RD F H p w):MP w=true:=by
 unfold slD at h;split at h
 .rename_i n l';simp only[RD]at hw;rcases hw with⟨_,_,h3⟩|⟨c,o,cap,vs,m,rfl,_⟩
  .rcases h3 with rfl|⟨c,o,cap,rfl,_⟩<;>rfl
  .rfl
 .simp only[RD]at hw;obtain⟨rfl,_⟩:=hw;rfl
 .cases h
theorem BC{q:D}{xs:List LvQ}(h:Po p q=some xs):(∀z∈xs,∀v∈z,okZ v)∧∀v w,RD F H p v->RD F H q w->LD H v w=some xs:=by
 unfold Po at h;split at h
 case h_2=>cases h
 rename_i k l k' m hp hq;split at h
 case h_2=>cases h
 rename_i us vs hl hm;split at h
 case isFalse=>cases h
 rename_i hc;simp only[Z9]at h;subst h;have o1:=(yj (F:=F) (H:=H) hl).1;have o2:=(yj (F:=F) (H:=H) hm).1;refine⟨fun z hz v hv=>?_,fun v w hv hw=>?_⟩
 .obtain⟨⟨a,b⟩,hab,rfl⟩:=Zh.1 hz;have:=List.of_mem_zip hab;simp only[Zs,Ym,or_false]at hv;rcases hv with rfl|rfl
  .exact o1 _ this.1
  .exact o2 _ this.2
 .unfold LD;rw[Sb hp hl hc.2.1 hv,Sb hq hm (hc.2.2.1.trans hc.1) hw];have c1:(us.all fun v=>plain v&&okCell v)=true:=Z2.2 fun x hx=>by have:=o1 x hx;simp[this.1,this.2]
  have c2:(vs.all fun v=>plain v&&okCell v)=true:=Z2.2 fun x hx=>by have:=o2 x hx;simp[this.1,this.2]
  exact if_pos ⟨hc.1,hc.2.1,hc.2.2.1,hc.2.2.2,by rw[Sa hp hv,Sa hq hw];rfl,c1,c2⟩
end
theorem yOk:YOk Y where
 seq gf cs xs h0:=by
  have h:abj gf cs=some xs:=h0;clear h0;unfold abj at h;split at h
  .rename_i hg;split at h
   .rename_i p q d;refine⟨(BC (F:=fun _=>True) (H:=⟨0,[]⟩) h).1,fun φ F H hp lb hr=>?_⟩;simp only[RVs,RV]at hr;obtain⟨v,_,rfl,⟨c,o,vs,rfl,hF,hrd,hd⟩,rfl⟩:=hr;simp only[RDs]at hd;obtain⟨v1,_,rfl,d1,v2,_,rfl,d2,v3,_,rfl,d3,rfl⟩:=hd;rw[show([p,q,d]:LdQ).length=3 from rfl]at hrd;refine⟨?_,fun F' H' hl=>?_⟩
    .rw[show Y.X.seq=Hm from rfl];unfold Hm;rw[hg];simp only[Nat.add_zero];rw[hrd];exact(BC h).2 _ _ d1 d2
    .rw[show Y.X.seqK=Ju from rfl];simp only[Ju,Nat.add_zero];rw[mV (hl.keep c hF)]
   .cases h
  .rename_i hg;split at h
   .rename_i hg2;split at h
    .rename_i p q;refine⟨(BC (F:=fun _=>True) (H:=⟨0,[]⟩) h).1,fun φ F H hp lb hr=>?_⟩;simp only[RVs,RV]at hr;obtain⟨v,_,rfl,⟨c,o,vs,rfl,hF,hrd,hd⟩,v',_,rfl,⟨c',o',vs',rfl,hF',hrd',hd'⟩,rfl⟩:=hr;simp only[RDs]at hd hd';obtain⟨v1,_,rfl,d1,rfl⟩:=hd;obtain⟨v2,_,rfl,d2,rfl⟩:=hd';rw[show([p]:LdQ).length=1 from rfl]at hrd;rw[show([q]:LdQ).length=1 from rfl]at hrd'
     refine⟨?_,fun F' H' hl=>?_⟩
     .rw[show Y.X.seq=Hm from rfl];unfold Hm;rw[hg,hg2];simp only[Nat.add_zero];rw[hrd,hrd'];exact(BC h).2 _ _ d1 d2
     .rw[show Y.X.seqK=Ju from rfl];simp only[Ju,Nat.add_zero];rw[mV (hl.keep c hF),mV (hl.keep c' hF')]
    .cases h
   .cases h
 ty t:=by
  by_cases ht:t<16*Ck.length
  .exact Ny (Z2.1 aa6 t (Xs.2 ht))
  .refine Ny ?_
   have:(Y.ty t).k=.o:=by
    show(Pz (IZ Ck (t/16)) (t%16)).k=.o
    have h2:∀t n:Nat,¬t<16*n->n<=t/16:=fun t n hn=>by omega
    rw[zh Ck (t/16) (h2 t _ ht)];rfl
   have h2:(Y.ty t).eq=false:=by
    show(Pz (IZ Ck (t/16)) (t%16)).eq=false
    have h2:∀t n:Nat,¬t<16*n->n<=t/16:=fun t n hn=>by omega
    rw[zh Ck (t/16) (h2 t _ ht)];rfl
   unfold tyB;rw[this,h2];rfl
theorem aaS{o:Option V}{k k':V->Prop}(h1:x=bnd o k)(h:∀v,k v=k' v):x=bnd o k':=by rw[h1,funext h]
theorem aaH{o:V}{i:Nat}{k k':V->Prop}(h1:x=ext o i k)(h:∀v,k v=k' v):x=ext o i k':=by rw[h1,funext h]
theorem TD{op:BinOp}{k k':V->Prop}(h1:x=yf h0 op a b k)(h:∀v,k v=k' v):x=yf h0 op a b k':=by rw[h1,funext h]
theorem uu(h1:x=T k)(h:∀v h,k v h=k' v h):x=T k':=by rw[h1,show k=k' from funext fun v=>funext fun y=>h v y]
theorem aaN{C:rL}{a:LwQ}(h1:x=cal C h0 f a k)(h:∀v h,k v h=k' v h):x=cal C h0 f a k':=uu h1 h
theorem aaO{C:qu}{a:LwQ}(h1:x=cai C h0 f a s k)(h:∀v h,k v h=k' v h):x=cai C h0 f a s k':=uu h1 h
theorem aaX{cs:LwQ}(h1:x=alV s cs h0 k)(h:∀v h,k v h=k' v h):x=alV s cs h0 k':=uu h1 h
theorem aaY{cs:LdQ}(h1:x=alD s n cs h0 k)(h:∀v h,k v h=k' v h):x=alD s n cs h0 k':=uu h1 h
theorem Vr(h1:x=fJ s v0 h0 k)(h:∀v h,k v h=k' v h):x=fJ s v0 h0 k':=uu h1 h
theorem Ub(h1:x=fI n z ps h0 k)(h:∀v h,k v h=k' v h):x=fI n z ps h0 k':=uu h1 h
theorem T9(h1:x=xp s n z ps h0 k)(h:∀v h,k v h=k' v h):x=xp s n z ps h0 k':=uu h1 h
theorem aax(h1:x=mkS s n z h0 a b k)(h:∀v h,k v h=k' v h):x=mkS s n z h0 a b k':=uu h1 h
theorem aap(h1:x=stD h0 n a b k)(h:∀v h,k v h=k' v h):x=stD h0 n a b k':=uu h1 h
theorem aaW(h1:x=apV dr s n m a b h0 k)(h:∀v h,k v h=k' v h):x=apV dr s n m a b h0 k':=uu h1 h
theorem aeK(h1:x=apZ dr s n m z a b h0 k)(h:∀v h,k v h=k' v h):x=apZ dr s n m z a b h0 k':=uu h1 h
theorem ael{w:Bool}(h1:x=gd c w h0 T k)(h:∀v h,k v h=k' v h):x=gd c w h0 T k':=uu h1 h
theorem aaM{A A' B B':Prop}(h1:x=cnd c A B)(ha:A=A')(hb:B=B'):x=cnd c A' B':=by rw[h1,ha,hb]
theorem aec{k k':LwQ->Hp->Prop}{T T':(LwQ->Hp->Prop)->Prop}(h1:x=jn k T)(hk:∀l h,k l h=k' l h)(hT:∀q,T q=T' q):x=jn k' T':=by rw[h1,show k=k' from funext fun v=>funext fun y=>hk v y,show T=T' from funext hT]
theorem adR{s s':aP}{clr:LnQ}{h2:Hp}{l:LwQ}{k k':KL}(h1:x=lp s clr h0 l h2 k)(hs:∀l h q,s l h q=s' l h q)(hk:∀ex l h,k ex l h=k' ex l h):x=lp s' clr h0 l h2 k':=by rw[h1,show s=s' from funext fun a=>funext fun b=>funext fun c=>hs a b c,show k=k' from funext fun a=>funext fun b=>funext fun c=>hk a b c]
theorem aaK{e ex:Exit}{q q':LwQ->Hp->Prop}{r r':List (Exit×(LwQ->Hp->Prop))}{l:LwQ}(h1:x=exK ((e,q)::r) ex l h)(hq:∀l h,q l h=q' l h)(hr:exK r ex l h=exK r' ex l h):x=exK ((e,q')::r') ex l h:=by
 rw[h1,show q=q' from funext fun v=>funext fun y=>hq v y];simp only[exK];split
 .rfl
 .exact hr
theorem Uf{y:Prop}{k:V->Prop}(h1:x=bnd (some v) k)(h2:k v=y):x=y:=h1.trans h2
noncomputable def gl(g:Nat):V:=match Y.glob g with
 |some cs=>.dptr cs 0
 |none=>.junk
end Go.Vm
