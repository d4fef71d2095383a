/- Lemmas. -/
import Derived.Test.YtgcaaigeilmbaabGreatDoorQVmB
set_option linter.unusedVariables false
set_option linter.unusedSimpArgs false
namespace Go.Vm
open Go Go.Am
variable{p:Prop}{k:IntKind}{n i:Int}{a b j tot:Nat}{v:V}{xs args ds:LwQ}{C:xg}
@[simp]theorem aD(v:V)(k:V->Prop):bnd (some v) k=k v:=rfl
theorem kE(p:Prop)[Decidable p](A B:Prop):cnd (.d (.bool (decide p))) A B=if p then A else B:=by simp[cnd]
theorem aa1[Decidable p](hp:p)(h:Hp)(T:kkQ->Prop)(k:kkQ):gd (.d (.bool (decide p))) true h T k=T k:=by simp[gd,hp]
theorem J8[Decidable p](hp:p)(x y:V):aA (.d (.bool (decide p))) x y=some x:=by simp[aA,hp]
theorem Vn[Decidable p](hp:¬p)(x y:V):aA (.d (.bool (decide p))) x y=some y:=by simp[aA,hp]
@[simp low]theorem abC(b:Bool)(x y:V):aA (.d (.bool b)) x y=some (if b=true then x else y):=by cases b<;>rfl
@[simp]theorem aeb(l:LwQ)(i:Nat)(k:V->Prop):ext (.tup l) i k=bnd l[i]? k:=rfl
theorem ac8(k:LwQ->Hp->Prop)(T:(LwQ->Hp->Prop)->Prop):jn k T=T k:=rfl
theorem OC{k:LwQ->Hp->Prop}{T:(LwQ->Hp->Prop)->Prop}{l:LwQ}{h:Hp}(hT:∀q,T q=q l h):jn k T=k l h:=hT k
@[simp]theorem iu(x:V)(l:LwQ):ge (x::l) 0=x:=rfl
@[simp]theorem ad7(x:V)(l:LwQ)(n:Nat):ge (x::l) (n+1)=ge l n:=rfl
@[simp]theorem vi(x y:V)(l:LwQ):ge (x::y::l) 1=y:=rfl
@[simp]theorem afg(x y z:V)(l:LwQ):ge (x::y::z::l) 2=z:=rfl
@[simp]theorem adf(x y z u:V)(l:LwQ):ge (x::y::z::u::l) 3=u:=rfl
@[simp] theorem fc (i:Nat)(q:LwQ->Hp->Prop)(r:List (Exit×(LwQ->Hp->Prop)))(l:LwQ)(h:Hp):exK ((.exit i,q)::r) (.exit i) l h=q l h:=by simp only[exK,TE,Xe]
@[simp]theorem vj(q:LwQ->Hp->Prop)(r:List (Exit×(LwQ->Hp->Prop)))(l:LwQ)(h:Hp):exK ((.ret,q)::r) .ret l h=q l h:=rfl
@[simp]theorem sJ(i:Nat)(p:LwQ->Hp->Prop)(r:List (Exit×(LwQ->Hp->Prop)))(l:LwQ)(h:Hp):exK ((.exit i,p)::r) .ret l h=exK r .ret l h:=rfl
theorem ai{step:aR}{clr:LnQ}{h0:Hp}{l:LwQ}{h:Hp}{k:KL}(hs:step l h (lpK clr h0 (fun l h=>lp step clr h0 l h k) k)):lp step clr h0 l h k:=by
 intro I hI;refine hI l h ⟨_,hs,fun ex l' h' hq=>?_⟩;cases ex
 case normal=>exact⟨hq.1,hq.2 I hI⟩
 all_goals exact hq
@[simp]theorem nF(clr:LnQ)(h0:Hp)(I:LwQ->Hp->Prop)(k:KL)(l:LwQ)(h:Hp):lpK clr h0 I k .normal l h=(clean clr l h=true∧I l (bm clr 0 h0 h)):=rfl
@[simp]theorem wW(clr:LnQ)(h0:Hp)(I:LwQ->Hp->Prop)(k:KL)(i:Nat)(l:LwQ)(h:Hp):lpK clr h0 I k (.exit i) l h=k (.exit i) l h:=rfl
@[simp]theorem ad0(clr:LnQ)(h0:Hp)(I:LwQ->Hp->Prop)(k:KL)(l:LwQ)(h:Hp):lpK clr h0 I k .ret l h=k .ret l h:=rfl
theorem GR:∀l:LwQ,iN [] l=true:=by
 intro l
 have key:∀x:V,pL [] x=true:=by
  intro x
  induction x using V.rec (motive_2:=fun l=>iN [] l=true)with
  |agg l ih=>trivial
  |tup l ih=>trivial
  |fn g a b iha ihb=>grind[pL]
  |ifc t x ih=>trivial
  |nil=>rfl
  |cons x l ih ihl=>grind[iN]
  |_=>rfl
 induction l with
 |nil=>rfl
 |cons x l ih=>grind[iN]
theorem Km:∀(h:Hp)(i:Nat),oJ [] i h=true
 |[],_=>rfl
 | (_,b)::h,i=>by
  simp only[oJ,Km h,We,Yd,Yu];right;cases b<;>simp[offB,GR]
@[simp]theorem clean_nil(l:LwQ)(h:Hp):clean [] l h=true:=by simp[clean,GR,Km]
theorem pz:∀(i:Nat)(h0 h:Hp),h.length=h0.length->bm [] i h0 h=h
 |_,[],h,_=>by cases h<;>rfl
 |_,_::_,[],_=>rfl
 | i,(e0,b0)::h0,(e,b)::h,hl=>by
  simp only[bm,mY,if_true];rw[pz (i+1) h0 h (by grind)]
theorem wrap_i64(h : -9223372036854775808<=n∧n<=9223372036854775807):IntKind.wrap .i64 n=n:=by
 have e1:(2:Int)^64=18446744073709551616:=ae;have e2:(2:Int)^(64-1)=9223372036854775808:=ae
 grind[IntKind.wrap,IntKind.bits,IntKind.signed]
theorem L6(hk:k.signed=false)(h:0<=n∧n<2^k.bits):k.wrap n=n:=by grind[IntKind.wrap,Int.emod_eq_of_lt]
theorem wrap_u64(h:0<=n∧n<18446744073709551616):IntKind.wrap .u64 n=n:=L6 rfl h
theorem wrap_u32(h:0<=n∧n<4294967296):IntKind.wrap .u32 n=n:=L6 rfl h
theorem wrap_u32'(n:Int):IntKind.wrap .u32 n=n%4294967296:=by rfl
theorem xh(n:Int):IntKind.wrap .u64 n=n%18446744073709551616:=by rfl
@[simp]theorem np(k:IntKind)(a b:Int):biI .lss (.d (.int k a)) (.d (.int k b))=some (.d (.bool (decide (a<b)))):=by simp[biI,iX,mB,kA]
@[simp]theorem aen(k:IntKind)(a b:Int):biI .leq (.d (.int k a)) (.d (.int k b))=some (.d (.bool (decide (a<=b)))):=by simp[biI,iX,mB,kA]
@[simp]theorem I9(k:IntKind)(a b:Int):biI .gtr (.d (.int k a)) (.d (.int k b))=some (.d (.bool (decide (b<a)))):=by simp[biI,iX,mB,kA]
@[simp]theorem OX(k:IntKind)(a b:Int):biI .geq (.d (.int k a)) (.d (.int k b))=some (.d (.bool (decide (b<=a)))):=by simp[biI,iX,mB,kA]
@[simp]theorem XZ(k:IntKind)(a b:Int):biI .eql (.d (.int k a)) (.d (.int k b))=some (.d (.bool (decide (a=b)))):=by simp[biI,iX,mB,kA];rfl
@[simp]theorem OW(k:IntKind)(a b:Int):biI .neq (.d (.int k a)) (.d (.int k b))=some (.d (.bool (decide (a≠b)))):=by simp[biI,iX,mB,kA];rfl
theorem Ja(k:IntKind)(a b:Int):biI .add (.d (.int k a)) (.d (.int k b))=some (.d (.int k (k.wrap (a+b)))):=by simp[biI,iX,mB,kA]
theorem xK(k:IntKind)(a b:Int):biI .sub (.d (.int k a)) (.d (.int k b))=some (.d (.int k (k.wrap (a-b)))):=by simp[biI,iX,mB,kA]
theorem I8(k:IntKind)(a b:Int):biI .mul (.d (.int k a)) (.d (.int k b))=some (.d (.int k (k.wrap (a*b)))):=by simp[biI,iX,mB,kA]
theorem ZX{a b:Int}(h : -9223372036854775808<=a+b∧a+b<=9223372036854775807):biI .add (I a) (I b)=some (I (a+b)):=by rw[Ja,wrap_i64 h]
theorem Dz{a b:Int}(h : -9223372036854775808<=a-b∧a-b<=9223372036854775807):biI .sub (I a) (I b)=some (I (a-b)):=by rw[xK,wrap_i64 h]
@[simp]theorem IQ(k l:IntKind)(n:Int):cvI k (.d (.int l n))=some (.d (.int k (k.wrap n))):=rfl
@[simp]theorem aep(a b:Bool):biB .eql (.d (.bool a)) (.d (.bool b))=some (.d (.bool (a == b))):=rfl
@[simp]theorem aeo(a b:Bool):biB .neq (.d (.bool a)) (.d (.bool b))=some (.d (.bool (a !=b))):=rfl
@[simp]theorem adJ(b:Bool):unV .not (.d (.bool b))=some (.d (.bool (!b))):=rfl
def lst{α:Type}(f:α->D)(l:List α):V:=.d (.sl l.length (l.map f))
section
variable{α:Type}(f:α->D)(l:List α)
@[simp]theorem nI:aj (lst f l)=some (I l.length):=rfl
theorem jL(h:Hp)(hj:i=j)(hl:j<l.length):ixV h 1 (lst f l) (.d (.int k i))=some (.dptr (l.map f) j):=by subst hj;simp only[ixV,lst];rw[if_pos ⟨aa,aa,af⟩];simp
theorem sk(h:Hp)(hl:j<l.length):ld1 h (.dptr (l.map f) j)=some (.d (f l[j])):=by simp[ld1,hl]
end
section
variable{α:Type}(f:α->D)(l:List α)
theorem Ft(d top:Nat):boV d top none=some d:=rfl
theorem xf{d top:Nat}(hi:i=j)(hj:j<=top):boV d top (some (.d (.int k i)))=some j:=by subst hi;simp only[boV];rw[if_pos ⟨aa,aa⟩];simp
theorem Q8{h:Hp}{lo hi:Option V}{i:Nat}(h0:0<l.length)(hj:boV l.length l.length hi=some j)(hi2:boV 0 j lo=some i)(hij:i<=j)(hjl:j<=l.length):slV h 1 (lst f l) lo hi=some (lst f ((l.drop i).take (j-i))):=by simp only[slV,lst,hj,hi2];rw[if_pos ⟨af,h0⟩];simp only[Y0,List.map_take,List.map_drop,Zm,Yz];rw[Yy aa]
theorem NL{h:Hp}(h0:0<l.length)(hi:i=j)(hj:j<=l.length):slV h 1 (lst f l) none (some (I i))=some (lst f (l.take j)):=by rw[Q8 f l h0 (xf hi hj) (Ft 0 j) (Yk _) hj];simp
theorem YS{h:Hp}(h0:0<l.length)(hi:i=j)(hj:j<=l.length):slV h 1 (lst f l) (some (I i)) none=some (lst f (l.drop j)):=by rw[Q8 f l h0 (Ft _ _) (xf hi hj) hj (Z7 _)];rw[Z0 af]
end
@[simp]theorem aeE(h:Hp)(x:D):aP h (.d x)=some (.d (norm x),h):=by rfl
@[simp]theorem acO(k:IntKind)(n:Int):norm (.int k n)=.int k n:=rfl
@[simp]theorem PZ(b:Bool):norm (.bool b)=.bool b:=rfl
@[simp]theorem acK(s:LuQ):norm (.str s)=.str s:=rfl
@[simp]theorem adX(n:Nat)(l:LdQ):norm (.sl n l)=.sl n l:=rfl
@[simp]theorem acN:norm (.pl (.slice none 0 0))=.sl 0 []:=rfl
@[simp]theorem yX{α:Type}(h:Hp)(f:α->D)(l:List α):aP h (lst f l)=some (lst f l,h):=by rfl
@[simp]theorem AE(h:Hp):av h []=some ([],h):=by rfl
theorem yl{h h1 h2:Hp}{x:V}{l:LwQ}(e1:aP h v=some (x,h1))(e2:av h1 l=some (xs,h2)):av h (v::l)=some (x::xs,h2):=by grind[av]
theorem iG{D:qZ}{h h':Hp}{f:FuncId}{args:LwQ}{v:V}{s:Nat}{k:kkQ}(hc:D f args h v h')(hk:k v h')(hn:∀n cells ex len cap,v≠.new n cells ex len cap)(hn2:∀n,v≠.cut n:=by simp)(hn3:∀n cells ex len cap y,v≠.tup [.new n cells ex len cap,.d y]:=by intro _ _ _ _ _ _ h;cases h)
  (hn4:∀n cells ex len cap,v≠.tup [.new n cells ex len cap]:=by intro _ _ _ _ _ h;cases h) (hn5:∀n cells ex len cap y,v≠.tup [.tup [.new n cells ex len cap],.d y]:=by intro _ _ _ _ _ _ h;cases h):cai D h (.fn f [] []) args s k:=by grind[cai]
theorem IW{h h':Hp}{f:FuncId}{args:LwQ}{cells:LdQ}{s e:Nat}{b:Bk}{k:kkQ}{DD:qZ}(hc:DD f args h (.tup [.new 1 cells true 0 0]) h')(hs:h'[s]?=some (e,b))
  (hk:k (.ptr s (e+1) 0 cells.length) (h'.set s (e+1,.vars (cells.map .d)))):cai DD h (.fn f [] []) args s k:=by grind[cai,new]
theorem eU{h h':Hp}{f:FuncId}{args:LwQ}{n len cap:Nat}{cells:LdQ}{s e:Nat}{b:Bk}{ex:Bool}{k:kkQ}{DD:qZ}(hc:DD f args h (.new n cells ex len cap) h')(hs:h'[s]?=some (e,b))
  (hk:k (.ref s (e+1) 0 len cap cells.length) (h'.set s (e+1,.data n cells ex false))):cai DD h (.fn f [] []) args s k:=by grind[cai,new]
theorem vu{h h':Hp}{f:FuncId}{k:kkQ}(hs:av h args=some (ds,h'))(hc:C f ds v)(hk:k v (if gh v then h else h')):cal C h (.fn f [] []) args k:=by grind[cal]
theorem ZN{h:Hp}{f:FuncId}{k:kkQ}(hc:C f args v)(hs:av h args=some (args,h))(hk:k v h):cal C h (.fn f [] []) args k:=
 vu hs hc (by grind)
theorem Sm{x:D}{h:Hp}(hx:norm x=x):out (.d x) (.d x) h:=⟨h,by simp[hx]⟩
theorem rD{α:Type}(f:α->D)(l:List α)(h:Hp):out (lst f l) (lst f l) h:=⟨h,af⟩
@[simp]theorem tj(k:IntKind)(n:Int)(h:Hp):out (.d (.int k n)) (.d (.int k n)) h:=Sm rfl
@[simp]theorem wP(b:Bool)(h:Hp):out (.d (.bool b)) (.d (.bool b)) h:=Sm rfl
theorem AG{l:IntKind}(hb:b<=k.bits):biI .shr (.d (.int k a)) (.d (.int l b))=some (.d (.int k ((a/2^b:Nat):Int))):=by
 have h1:¬((b:Int)<0):=aa
 grind[biI,iX,mB,kA]
theorem qF(h:a+b<18446744073709551616):biI .add (.d (.int .u64 a)) (.d (.int .u64 b))=some (.d (.int .u64 ((a+b:Nat):Int))):=by rw[Ja,wrap_u64 aa];simp
theorem zx(h:a*b<18446744073709551616):biI .mul (.d (.int .u64 a)) (.d (.int .u64 b))=some (.d (.int .u64 ((a*b:Nat):Int))):=by grind[I8,wrap_u64]
theorem IP(h:a<18446744073709551616):cvI .u64 (.d (.int k a))=some (.d (.int .u64 a)):=by rw[IQ,wrap_u64 aa]
theorem Bu(a:Nat):cvI .u32 (.d (.int k a))=some (.d (.int .u32 ((a%4294967296:Nat):Int))):=by rfl
theorem addN(h:a+b<=9223372036854775807):biI .add (I a) (I b)=some (I ((a+b:Nat):Int)):=by rw[ZX aa];simp
theorem JH(h:a+1<=9223372036854775807):biI .add (I a) (I 1)=some (I ((a+1:Nat):Int)):=addN h
theorem ML{s by_:Nat}{z:D}{h:Hp}{n:Nat}{e:Nat}{b:Bk}{k:kkQ}(hs:h[s]?=some (e,b))(hn:by_*n<=281474976710656)(hn2:n<=9223372036854775807)
  (hk:k (.ref s (e+1) 0 n n n) (h.set s (e+1,.data 1 (List.replicate n z) true false))):mkS s by_ [z] h (I n) (I n) k:=by
 have hr:∀n,fS n [z]=List.replicate n z:=fun n=>by
  induction n with
  |zero=>rfl
  |succ n ih=>grind[fS]
 simp only[mkS];rw[if_pos ⟨aa,aa,af,aa,aa⟩]
 grind[new]
section
variable{α:Type}{f:α->D}{l:List α}{h:Hp}{s e:Nat}{ex fr:Bool}
theorem IA(hs:h[s]?=some (e,.data 1 (l.map f) ex fr)){len cap:Nat}(hij:i=j)(hj:j<len)(ht:tot=l.length):ixV h 1 (.ref s e 0 len cap tot) (.d (.int k i))=some (.ptr s e j tot):=by subst hij;simp only[ixV,aH,hs,if_true];rw[if_pos ⟨by grind,aa,aa⟩];simp
theorem aaR(hs:h[s]?=some (e,.data 1 (l.map f) ex fr))(hj:j<l.length)(ht:tot=l.length):ld1 h (.ptr s e j tot)=some (.d (f l[j])):=by grind[ld1,aH]
theorem HM(hs:h[s]?=some (e,.data 1 (l.map f) ex false))(hj:j<l.length)(ht:tot=l.length){x:α}(hn:norm (f x)=f x){k:kkQ}:
  stD h 1 (.ptr s e j tot) (.d (f x)) k=k .junk (h.set s (e,.data 1 ((l.set j x).map f) ex false)):=by
 have e1:(l.map f).take j++[f x]++(l.map f).drop (j+1)=(l.set j x).map f:=by
  rw[List.map_set,Yh,if_pos (by grind)];simp
 have hle:j+1<=l.length:=hj;simp only[stD,st,sto,aH,hs,if_true,hO,toD,hn]
 grind[cK]
end
theorem DJ{α:Type}{f:α->D}{l:List α}{h:Hp}{s e:Nat}{ex fr:Bool}(hs:h[s]?=some (e,.data 1 (l.map f) ex fr)){n m:Nat}(hn:n=l.length)(hm:n<=m)(ht:tot=l.length):
  aP h (.ref s e 0 n m tot)=some (lst f l,h.set s (e,.data 1 (l.map f) ex true)):=by subst hn;subst ht;simp only[aP,toD,aH,hs,if_true,Zd];rw[if_pos ⟨trivial,hm,aa⟩];simp only[Yp,Y0,cK,lst];rw[Z0 af]
end Go.Vm
namespace Go.Big
variable{l b d p o:LnQ}{i a x n k m r y w high low:Nat}
def val(B:Nat):LnQ->Nat
 |[]=>0
 |x::l=>x+B*val B l
def gS:LnQ->LnQ
 |[]=>[]
 | x::l=>match gS l with
  |[]=>if x=0 then[]else[x]
  |y::r=>x::y::r
def ET(B:Nat):Nat->Nat->LnQ
 |0,_=>[]
 |f+1,n=>if n=0 then[]else n%B::ET B f (n/B)
def dig(B n:Nat):LnQ:=ET B n n
def aw(B:Nat)(l:LnQ):Prop:=∀x∈l,x<B
section
variable{B:Nat}
theorem val_append(a b:LnQ):val B (a++b)=val B a+B^a.length*val B b:=by
 induction a with
 |nil=>simp[val]
 |cons x a ih=>grind[val]
theorem gr(hB:0<B)(h:aw B l):val B l<B^l.length:=by
 induction l with
 |nil=>simp[val]
 | cons x l ih=>
  have h1:=ih fun y hy=>h y (by grind)
  have h2:=h x af;simp only[val,List.length_cons,Nat.pow_succ];have:B*(val B l+1)<=B*B^l.length:=Zy B h1
  grind
theorem aw.take{l:LnQ}(h:aw B l)(n:Nat):aw B (l.take n):=fun x hx=>h x (List.mem_of_mem_take hx)
theorem aw.drop{l:LnQ}(h:aw B l)(n:Nat):aw B (l.drop n):=fun x hx=>h x (List.mem_of_mem_drop hx)
theorem aw.get(h:aw B l)(hi:i<l.length):l[i]<B:=h _ (List.getElem_mem hi)
theorem aw.append{a:LnQ}(ha:aw B a)(hb:aw B b):aw B (a++b):=fun x hx=>by
 rcases Wx.1 hx with h|h
 .exact ha x h
 .exact hb x h
theorem Pn(l:LnQ):val B (gS l)=val B l:=by
 induction l with
 |nil=>rfl
 | cons x l ih=>
  grind[gS,val]
theorem JB(h:aw B l):aw B (gS l):=by
 induction l with
 |nil=>exact h
 | cons x l ih=>
  have h1:=ih fun y hy=>h y (by grind)
  have hx:=h x af;unfold gS;split
  .split
   .grind
   .intro y hy;grind
  .rename_i y r he;rw[he]at h1;intro z hz;rcases Zc.1 hz with rfl|hz
   .exact hx
   .exact h1 z hz
def uL(l:LnQ):Prop:=∀h:l≠[],l.getLast h≠0
theorem Mb(l:LnQ):uL (gS l):=by
 induction l with
 |nil=>intro h;trivial
 | cons x l ih=>
  unfold gS;split
  .split
   .grind
   .rename_i hx;intro h;trivial
  .rename_i y r he;rw[he]at ih;intro h;rw[Wr af];exact ih af
theorem FM(h:uL l):gS l=l:=by
 induction l with
 |nil=>rfl
 | cons x l ih=>
  unfold gS;cases l with
  | nil=>
   have:=h af
   grind[gS]
  | cons y r=>
   have:uL (y::r):=fun hh=>by have:=h af;rwa [Wr af]at this
   grind
theorem mz(l:LnQ):gS (l++[0])=gS l:=by
 induction l with
 |nil=>rfl
 |cons x l ih=>grind[gS]
theorem rV(h:x≠0):gS (l++[x])=l++[x]:=FM fun _=>by grind
theorem C7(hB:2<=B):∀(f n:Nat),n<=f->val B (ET B f n)=n∧aw B (ET B f n)∧uL (ET B f n)
 | 0,n,h=>by
  have:n=0:=aa;subst this;exact⟨rfl,fun x hx=>by trivial,fun hx=>absurd rfl hx⟩
 | f+1,n,h=>by
  unfold ET;split
  .rename_i h0;subst h0;exact⟨rfl,fun x hx=>by simp at hx,fun hx=>absurd rfl hx⟩
  .rename_i h0;have hlt:n/B<n:=Nat.div_lt_self aa aa;obtain⟨h1,h2,h3⟩:=C7 hB f (n/B) aa;refine⟨?_,?_,?_⟩
   .grind[val,Yi]
   .intro x hx;rcases Zc.1 hx with rfl|hx
    .exact Zk _ aa
    .exact h2 x hx
   .intro hne;by_cases hd:ET B f (n/B)=[]
    .simp only[hd];rw[hd]at h1;simp only[val]at h1
     have:n<B:=by
      rcases Zf n B with h|h
      .exact h
      .have:=Nat.div_pos h (by omega:0<B);omega
     grind[Zj]
    .rw[Wr hd];exact h3 hd
theorem bG(hB:2<=B)(n:Nat):val B (dig B n)=n:=(C7 hB n n (Z7 n)).1
theorem aJ(hB:2<=B)(n:Nat):aw B (dig B n):=(C7 hB n n (Z7 n)).2.1
theorem pT(hB:2<=B)(n:Nat):uL (dig B n):=(C7 hB n n (Z7 n)).2.2
theorem tn(h:uL l)(hl:l≠[])(hB:0<B):val B l≠0:=by
 induction l with
 |nil=>trivial
 | cons x l ih=>
  cases l with
  |nil=>have:=h af;trivial
  | cons y r=>
   have hn:uL (y::r):=fun hh=>by have:=h af;rwa [Wr af]at this
   have:=ih hn af;simp only[val]at this ⊢;have:=Y4 hB (Xu this);omega
theorem Ed(hB:0<B):∀{a b:LnQ},aw B a->aw B b->uL a->uL b->val B a=val B b->a=b
 |[],[],_,_,_,_,_=>rfl
 |[],y::b,_,_,_,hb,h=>absurd h.symm (tn hb af hB)
 |x::a,[],_,_,ha,_,h=>absurd h (tn ha af hB)
 | x::a,y::b,sa,sb,na,nb,h=>by
  have hx:=sa x af;have hy:=sb y af;simp only[val]at h
  have e1:x=y:=by
   have:=congrArg (· % B) h;simpa[Ya,Zj hx,Zj hy]using this
  subst e1;have e2:val B a=val B b:=Xw hB aa;have tl:∀{l:LnQ}{x:Nat},uL (x::l)->uL l:=fun{l x} h hl=>by have:=h af;grind
  rw[Ed hB (fun z hz=>sa z (by grind)) (fun z hz=>sb z (by grind)) (tl na) (tl nb) e2]
theorem oS(hB:2<=B)(h:aw B l):dig B (val B l)=gS l:=
 Ed aa (aJ hB _) (JB h) (pT hB _) (Mb l) (by rw[bG hB,Pn])
theorem pS:dig B 0=[]:=rfl
theorem sQ(hB:2<=B):dig B n=[]↔n=0:=by
 constructor
 .intro h;have:=bG hB n;rw[h]at this;exact this.symm
 .rintro rfl;rfl
theorem gZ(hB:2<=B):(dig B n).length<=k↔n<B^k:=by
 have hv:=bG hB n;have hs:=gr aa (aJ hB n);rw[hv]at hs;constructor
 .intro h;exact Z3 hs (Z6 aa h)
 .intro h;rcases Zf k (dig B n).length with hk|hk
  .exfalso;have hne:dig B n≠[]:=by intro e;rw[e]at hk;simp at hk
   have hdrop:val B ((dig B n).drop k)≠0:=by
    refine tn ?_ (by grind[List.drop_eq_nil_iff]) aa;intro hd;rw[List.getLast_drop];exact pT hB n hne
   have:=val_append (B:=B) ((dig B n).take k) ((dig B n).drop k);rw[Ys,hv,Zm,Yy aa]at this;have:=Zy (B^k) (Xu hdrop);omega
  omega
def yv(a b:LnQ):Nat->Int
 |0=>0
 |i+1=>if a.getD i 0<b.getD i 0 then -1 else if b.getD i 0<a.getD i 0 then 1 else yv a b i
def cmp(a b:Nat):Int:=if a<b then -1 else if b<a then 1 else 0
theorem CN(hB:0<B){a b:LnQ}(ha:aw B a)(hb:aw B b):∀i,i<=a.length->i<=b.length->yv a b i=cmp (val B (a.take i)) (val B (b.take i))
 |0,_,_=>by rfl
 | i+1,h1,h2=>by
  have e:∀(l:LnQ)(h:i<l.length),val B (l.take (i+1))=val B (l.take i)+B^i*l[i]:=fun l h=>by
   rw[List.take_add_one,val_append,Zm,Yy aa]
   grind[val]
  have la:=gr hB (ha.take i);have lb:=gr hB (hb.take i);rw[Zm,Yy aa]at la lb;rw[yv,e a aa,e b aa,CN hB ha hb i aa aa];have ga:a.getD i 0=a[i]:=by simp[show i<a.length by omega]
  have gb:b.getD i 0=b[i]:=by simp[show i<b.length by omega]
  rw[ga,gb];generalize a[i]=x,b[i]=y at *;unfold cmp;rcases Nat.lt_trichotomy x y with h|h|h
  .rw[if_pos h];have:B^i*(x+1)<=B^i*y:=Zy _ h;rw[Nat.mul_add]at this;rw[if_pos aa]
  .grind
  .rw[if_neg aa,if_pos h];have:B^i*(y+1)<=B^i*x:=Zy _ h;rw[Nat.mul_add]at this;rw[if_neg aa,if_pos aa]
theorem vp(hB:2<=B)(h:(dig B m).length<(dig B n).length):m<n:=by
 have h1:m<B^(dig B m).length:=(gZ hB).1 (Z7 _);rcases Zf n (B^(dig B m).length)with h2|h2
 .have:=(gZ hB).2 h2;omega
 .omega
theorem eV(l:LnQ)(i:Nat):val B (l.drop i)=l.getD i 0+B*val B (l.drop (i+1)):=by
 by_cases h:i<l.length
 .grind[Yr,val]
 .rw[Zv aa,Zv aa];simp[val,List.getElem?_eq_none (by omega:l.length<=i)]
theorem aw.getD{l:LnQ}(h:aw B l)(hB:0<B)(i:Nat):l.getD i 0<B:=by
 by_cases hi:i<l.length
 .simp_all[get]
 .simp[List.getElem?_eq_none (by omega:l.length<=i),hB]
theorem kq(l:LnQ)(x:Nat):val B (l++[x])=val B l+B^l.length*x:=by simp[val_append,val]
theorem rL(n:Nat):val B (List.replicate n 0)=0:=by
 induction n with
 |zero=>rfl
 |succ n ih=>grind[val]
theorem aw.snoc(h:aw B l)(hx:x<B):aw B (l++[x]):=h.append fun y hy=>by grind
theorem AK:(d++List.replicate (r+1) 0).set d.length x=(d++[x])++List.replicate r 0:=by grind
end
def bln(n:Nat):Nat:=if n=0 then 0 else n.log2+1
theorem Fu:bln 0=0:=rfl
theorem yQ(n:Nat):n<2^bln n:=by
 unfold bln;split
 .omega
 .exact Nat.lt_log2_self
theorem I4(h:n≠0):2^(bln n-1)<=n:=by unfold bln;rw[if_neg h];exact Nat.log2_self_le h
theorem Dc(h:n≠0):0<bln n:=by unfold bln;rw[if_neg h];omega
theorem Up(h1:2^k<=n)(h2:n<2^(k+1)):bln n=k+1:=by
 have h0:n≠0:=by have:=Zp k;omega
 unfold bln;rw[if_neg h0];have:=(Nat.log2_eq_iff h0).2 ⟨h1,h2⟩;omega
theorem Uo(h:0<n):bln n=bln (n/2)+1:=by
 by_cases h2:n/2=0
 .have:n=1:=aa;subst this;decide
 .have l1:=yQ (n/2);have l2:=I4 h2;have l3:=Dc h2;obtain⟨k,hk⟩:∃k,bln (n/2)=k+1:=⟨bln (n/2)-1,aa⟩;rw[hk]at l1 l2 ⊢;simp only[W5]at l2;refine Up ?_ ?_
  .rw[Nat.pow_succ];omega
  .rw[Nat.pow_succ];omega
theorem rS(h:n<2^k):bln n<=k:=by
 by_cases h0:n=0
 .subst h0;simp[Fu]
 .have:=I4 h0;rcases Zf k (bln n)with h1|h1
  .have h3:2^k<=2^(bln n-1):=Z6 ae aa;omega
  .exact h1
theorem Un(hp:aw 4294967296 p)(hx:x≠0):bln (val 4294967296 (p++[x]))=32*p.length+bln x:=by
 have hv:=gr (B:=4294967296) ae hp;have hW:(4294967296:Nat)^p.length=2^(32*p.length):=by rw[Xc]
 have l1:=yQ x;have l2:=I4 hx;have l3:=Dc hx;obtain⟨k,hk⟩:∃k,bln x=k+1:=⟨bln x-1,aa⟩;rw[hk]at l1 l2 ⊢;simp only[W5]at l2;rw[val_append];simp only[val,Nat.mul_zero,Nat.add_zero];rw[hW]at hv ⊢;rw[<-Nat.add_assoc];refine Up ?_ ?_
 .rw[Zr];have:=Zy (2^(32*p.length)) l2;omega
 .rw[Nat.add_assoc,Zr];have:=Zy (2^(32*p.length)) l1;rw[Nat.mul_succ]at this;omega
def xM(r:Nat):LnQ->LnQ
 |[]=>[]
 |x::l=>(x/2^r+(2^(32-r)*l.headD 0)%4294967296)::xM r l
theorem JQ(r:Nat):∀l,(xM r l).length=l.length
 |[]=>rfl
 |x::l=>by simp[xM,JQ r l]
theorem CJ(hr:r<=32):2^r*2^(32-r)=4294967296:=by rw[<-Zr,show r+(32-r)=32 by omega]
theorem U3(hr:r<=32)(hx:x<4294967296):x/2^r+(2^(32-r)*y)%4294967296<4294967296:=by have hs:=CJ hr;have hp:=Zp r;have hq:=Zp (32-r);generalize 2^r=a at *;generalize 2^(32-r)=b at *;have h1:x/a<b:=Y8 (by rw[hs];exact hx);rw[<-hs,Zw a b,Xb];have h2:y%a<a:=Zk _ hp;have h3:b*(y%a+1)<=b*a:=Zy b h2;rw[Nat.mul_add]at h3;omega
theorem DR{r:Nat}(hr:r<=32):∀{l:LnQ},aw 4294967296 l->aw 4294967296 (xM r l)
 |[],_=>fun x hx=>by simp[xM]at hx
 | x::l,h=>by
  intro y hy;simp only[xM,Zc]at hy;rcases hy with rfl|hy
  .exact U3 hr (h x af)
  .exact DR hr (fun z hz=>h z (by simp[hz])) y hy
theorem JP{r:Nat}(hr:r<=32):∀(l:LnQ),val 4294967296 (xM r l)=val 4294967296 l/2^r
 |[]=>by simp[xM,val]
 | x::l=>by
  have hs:=CJ hr;have hp:=Zp r;have hq:=Zp (32-r);have ih:=JP hr l;simp only[xM,val,ih]
  have hh:(2^(32-r)*l.headD 0)%4294967296=(2^(32-r)*val 4294967296 l)%4294967296:=by
   cases l with
   |nil=>simp[val]
   | cons y l=>
    simp only[List.headD_cons,val];rw[Nat.mul_add,<-Nat.mul_assoc (2^(32-r)) 4294967296,Zw (2^(32-r)) 4294967296,Nat.mul_assoc 4294967296,Ya]
  rw[hh];generalize val 4294967296 l=v at *;generalize 2^r=a at *;generalize 2^(32-r)=b at *;rw[<-hs,Nat.mul_assoc a b v,Yx _ _ hp];have e1:v/a=b*v/(a*b):=by rw[Zw a b,Nat.mul_div_mul_left _ _ hq]
  rw[e1];have:=Yi (b*v) (a*b);omega
theorem TS{b:Nat}(hb:0<b)(h:b*2^n<=a):a/b=2^n+(a-b*2^n)/b∧a%b=(a-b*2^n)%b:=by obtain⟨c,rfl⟩:∃c,a=c+b*2^n:=⟨a-b*2^n,aa⟩;rw[W5,Yx _ _ hb,Ya];exact⟨aa,rfl⟩
def wY(w:Nat):Nat->Nat->Nat->Nat->Option Nat
 |0,_,_,out=>some out
 | n+1,low,high,out=>
  if 2^(w+1)<=low*low/2^w then wY w n (low*low/2^w/2) (((if high*high/2^w*2^w=high*high then high*high/2^w else high*high/2^w+1)+1)/2) (out*2+1)
  else if 2^(w+1)<=(if high*high/2^w*2^w=high*high then high*high/2^w else high*high/2^w+1)then none
  else wY w n (low*low/2^w) (if high*high/2^w*2^w=high*high then high*high/2^w else high*high/2^w+1) (out*2)
def wX(p n w:Nat):Option Nat:=wY w n (p*2^(w-(bln p-1))) (p*2^(w-(bln p-1))) (bln p-1)
theorem acg(h:high<=2^(w+1)):(if high*high/2^w*2^w=high*high then high*high/2^w else high*high/2^w+1)<=2^(w+2):=by
 have hp:=Zp w;have h2:high*high<=2^(w+1)*2^(w+1):=Zg h h;have e:2^(w+1)*2^(w+1)=2^(w+2)*2^w:=by rw[<-Zr,<-Zr];congr 1;omega
 rw[e]at h2;generalize high*high=s at *;have hd:=Zb s (2^w);have hm:=Zk s hp;split
 .exact Nat.div_le_of_le_mul (by rw[Zw];exact h2)
 .rename_i hne
  have:s/2^w<2^(w+2):=by
   rcases Zf (s/2^w) (2^(w+2))with h3|h3
   .exact h3
   .have h4:=Zx (2^w) h3;rw[Zw]at hd;omega
  omega
theorem YO(h:low<=2^(w+1)):low*low/2^w<=2^(w+2):=by
 have h2:low*low<=2^(w+1)*2^(w+1):=Zg h h;have e:2^(w+1)*2^(w+1)=2^w*2^(w+2):=by rw[<-Zr,<-Zr];congr 1;omega
 rw[e]at h2;exact Nat.div_le_of_le_mul h2
theorem xj{B:Nat}:∀(l:LnQ)(j x:Nat),j<l.length->val B (l.set j x)+B^j*l.getD j 0=val B l+B^j*x
 |[],j,x,h=>by simp at h
 |y::l,0,x,h=>by simp[val];omega
 | y::l,j+1,x,h=>by
  have:=xj (B:=B) l j x (by simpa using h);simp only[List.set_cons_succ,val,List.getD_cons_succ,Nat.pow_succ];rw[Zw (B^j) B,Nat.mul_assoc,Nat.mul_assoc];generalize val B (l.set j x)=p at *;generalize B^j*l.getD j 0=q at *;generalize B^j*x=r at *;have h2:B*(p+q)=B*(val B l+r):=by rw[this]
  rw[Nat.mul_add,Nat.mul_add]at h2;omega
theorem aw.set{B:Nat}{l:LnQ}(h:aw B l){j x:Nat}(hx:x<B):aw B (l.set j x):=by
 intro y hy;rcases Y2 hy with h1|h1
 .exact h y h1
 .subst h1;exact hx
theorem tw{B:Nat}(l:LnQ)(h:i<l.length):val B (l.take (i+1))=val B (l.take i)+B^i*l.getD i 0:=by rw[List.take_add_one,val_append,Zm,Yy aa];simp[List.getElem?_eq_getElem h,val]
theorem Kx{B:Nat}{j c v:Nat}(hj:j<o.length):
  val B (o.set j ((c+o.getD j 0+a*y)%B))+B^(j+1)*((c+o.getD j 0+a*y)/B+a*v)=val B o+B^j*(c+a*(y+B*v)):=by
 have h:=xj (B:=B) o j ((c+o.getD j 0+a*y)%B) hj;generalize val B (o.set j ((c+o.getD j 0+a*y)%B))=p at *;generalize o.getD j 0=w at *;have hd:=Yi (c+w+a*y) B;generalize(c+w+a*y)%B=r at *;generalize(c+w+a*y)/B=d at *;generalize val B o=q at *;generalize hP:B^j=P at *;rw[Nat.pow_succ,hP,Nat.mul_assoc]
 have e1:P*(B*(d+a*v))+P*r=P*(c+w+a*y)+P*(a*(B*v)):=by
  rw[<-Nat.mul_add,<-Nat.mul_add,<-hd,Nat.mul_add B,Yt a B v];congr 1;omega
 have e2:P*(c+a*(y+B*v))+P*w=P*(c+w+a*y)+P*(a*(B*v)):=by
  rw[<-Nat.mul_add,<-Nat.mul_add,Nat.mul_add a];congr 1;omega
 omega
end Go.Big
namespace Go.Vm
open Go Go.Am
abbrev ay:TyI:=⟨.f,1,8,[.pl .nilFunc],false⟩
abbrev kw:TyI:=⟨.o,1,0,[],false⟩
abbrev zg:TyI:=⟨.p,1,8,[.pl (.pointer none)],false⟩
abbrev N0:TyI:=⟨.i .i64,1,8,[.int .i64 0],false⟩
abbrev NZ:TyI:=⟨.i .u8,1,1,[.int .u8 0],false⟩
abbrev NY:TyI:=⟨.s,1,16,[.str []],false⟩
abbrev NX:TyI:=⟨.st [(0,1),(1,1)],2,32,[.bool false,.pl (.slice none 0 0)],false⟩
abbrev Rq:TyI:=⟨.i .u64,1,8,[.int .u64 0],false⟩
abbrev Rp:TyI:=⟨.it,1,16,[.pl .nilIface],false⟩
abbrev Ro:TyI:=⟨.i .i32,1,4,[.int .i32 0],false⟩
abbrev Mq:TyI:=⟨.sl 3,1,24,[.pl (.slice none 0 0)],false⟩
abbrev Mp:TyI:=⟨.sl 113,1,24,[.pl (.slice none 0 0)],false⟩
abbrev RL:TyI:=⟨.st [(0,1),(1,1),(2,1),(3,1)],4,24,[.int .i64 0,.int .i64 0,.bool false,.int .u8 0],false⟩
abbrev RJ:TyI:=⟨.st [(0,1),(1,1)],2,24,[.str [],.int .u64 0],false⟩
abbrev RI:TyI:=⟨.st [(0,1)],1,8,[.pl (.pointer none)],false⟩
abbrev RH:TyI:=⟨.sl 50,1,24,[.pl (.slice none 0 0)],false⟩
abbrev RG:TyI:=⟨.st [(0,1),(1,1),(2,1)],3,40,[.int .i64 0,.int .i64 0,.pl (.slice none 0 0)],false⟩
abbrev RF:TyI:=⟨.sl 43,1,24,[.pl (.slice none 0 0)],false⟩
abbrev RE:TyI:=⟨.st [(0,1),(1,1),(2,1)],3,72,[.pl (.slice none 0 0),.pl (.slice none 0 0),.pl (.slice none 0 0)],false⟩
abbrev RA:TyI:=⟨.sl 73,1,24,[.pl (.slice none 0 0)],false⟩
abbrev Rz:TyI:=⟨.st [(0,2),(2,1)],3,56,[.bool false,.pl (.slice none 0 0),.pl (.slice none 0 0)],false⟩
abbrev Ry:TyI:=⟨.st [(0,1),(1,1),(2,1),(3,1)],4,80,[.pl (.slice none 0 0),.pl (.slice none 0 0),.int .i64 0,.pl (.slice none 0 0)],false⟩
abbrev Rx:TyI:=⟨.st [(0,1),(1,1)],2,32,[.pl (.pointer none),.pl (.slice none 0 0)],false⟩
abbrev Rv:TyI:=⟨.st [(0,1),(1,1),(2,1)],3,48,[.str [],.str [],.pl .nilIface],false⟩
abbrev Ru:TyI:=⟨.st [(0,1),(1,1),(2,1)],3,56,[.pl (.slice none 0 0),.pl (.slice none 0 0),.int .i64 0],false⟩
abbrev Rt:TyI:=⟨.st [(0,1),(1,1),(2,1),(3,1)],4,40,[.pl (.pointer none),.pl (.pointer none),.pl (.pointer none),.str []],false⟩
abbrev Rr:TyI:=⟨.st [(0,1),(1,1),(2,1),(3,1),(4,1),(5,1),(6,1),(7,1),(8,1),(9,1),(10,1)],11,48,[.int .u64 0,.int .u64 0,.int .u32 0,.int .u8 0,.int .u8 0,.int .u8 0,.int .u8 0,.pl .nilFunc,.pl (.pointer none),.int .i32 0,.int .i32 0],false⟩
abbrev slQ(n:Nat):TyI:=⟨.sl n,1,24,[.pl (.slice none 0 0)],false⟩
def aez:List TyI:=[
 kw,ay,N0,N0,⟨.b,1,1,[.bool false],false⟩,NZ,NZ,RL,RL,NY,NY,NY,Rq,RJ,RJ,zg]
def aey:List TyI:=[
 zg,zg,RI,RI,Rp,Ro,Mq,Mq,RH,RH,⟨.st [(0,1),(1,1),(2,1)],3,3,[.int .u8 0,.int .u8 0,.int .u8 0],false⟩,⟨.st [(0,1),(1,1),(2,1)],3,3,[.int .u8 0,.int .u8 0,.int .u8 0],true⟩,ay,ay,ay,ay]
def aex:List TyI:=[
 slQ 42,RG,RG,N0,kw,ay,ay,ay,NY,⟨.st [(0,1),(1,1),(2,1)],3,32,[.int .i64 0,.int .i64 0,.str []],false⟩,⟨.st [(0,1),(1,1),(2,1)],3,32,[.int .i64 0,.int .i64 0,.str []],true⟩,Mq,RF,RF,RE,RE]
def aew:List TyI:=[
 ay,⟨.st [(0,1),(1,1)],2,32,[.str [],.str []],false⟩,⟨.st [(0,1),(1,1)],2,32,[.str [],.str []],true⟩,ay,ay,ay,ay,ay,ay,ay,slQ 66,kw,ay,RA,RA,NX]
def aev:List TyI:=[
 NX,Rz,Rz,ay,kw,ay,ay,ay,ay,⟨.i .u32,1,4,[.int .u32 0],false⟩,ay,zg,kw,ay,ay,ay]
def aeu:List TyI:=[
 kw,ay,ay,ay,ay,ay,NX,NX,ay,ay,ay,ay,ay,ay,ay,ay]
def aet:List TyI:=[
 kw,ay,ay,ay,ay,ay,ay,ay,ay,slQ 45,ay,ay,ay,kw,ay,ay]
def aes:List TyI:=[
 ay,Rq,ay,ay,ay,slQ 40,Ry,Ry,kw,ay,ay,ay,kw,ay,ay,ay]
def aer:List TyI:=[
 ay,ay,ay,ay,Rp,Rp,kw,ay,ay,ay,ay,ay,ay,ay,ay,ay]
def aeq:List TyI:=[
 ay,ay,Rq,ay,ay,kw,ay,ay,kw,ay,kw,ay,ay,ay,ay,kw]
def ab7:List TyI:=[
 ay,kw,ay,zg,slQ 5,Rx,Rx,ay,ay,ay,ay,ay,ay,ay,kw,ay]
def ab6:List TyI:=[
 ay,kw,ay,ay,ay,ay,ay,ay,slQ 4,kw,ay,kw,ay,ay,Mp,Mp]
def ab5:List TyI:=[
 ay,ay,ay,ay,ay,ay,ay,kw,ay,kw,ay,ay,kw,ay,kw,ay]
def ab4:List TyI:=[
 zg,N0,kw,ay,zg,ay,ay,ay,ay,ay,ay,zg,ay,kw,ay,ay]
def ab3:List TyI:=[
 kw,ay,ay,ay,ay,⟨.ar 24 5,24,24,List.replicate 24 (.int .u8 0),false⟩,ay,kw,ay,⟨.o,1,8,[.pl (.pointer none)],false⟩,ay,ay,kw,ay,ay,Rv]
def ab1:List TyI:=[
 Rv,ay,Mp,ay,Ru,Ru,ay,ay,ay,ay,⟨.ar 20 113,20,160,List.replicate 20 (.int .u64 0),false⟩,⟨.ar 65 5,65,65,List.replicate 65 (.int .u8 0),false⟩,ay,ay,zg,⟨.st [(0,1)],1,16,[.str []],false⟩]
def ab0:List TyI:=[
 ⟨.st [(0,1)],1,16,[.str []],false⟩,ay,⟨.ar 32 5,32,32,List.replicate 32 (.int .u8 0),false⟩,⟨.ar 64 5,64,64,List.replicate 64 (.int .u8 0),false⟩,Rt,Rt,⟨.ar 0 16,0,0,[],false⟩,⟨.st [(0,0)],0,0,[],false⟩,⟨.st [(0,0)],0,0,[],false⟩,NZ,NZ,ay,Ro,Ro,Rr,Rr]
def Dt:List (List TyI):=[aez,aey,aex,aew,aev,aeu,aet,aes,aer,aeq,ab7,ab6,ab5,ab4,ab3,ab1,ab0]
def abo:LnQ:=[0,1,194,195,213,216,217,218,219,220,221,222,223,224,225,226,227,228,229,230,231,232,233,234,235,236,237,238,239,240,241,242]
def oH:Nat:=2
namespace F
def eW:FuncId:=3
def fN:FuncId:=4
def ie:FuncId:=5
def cM:FuncId:=6
def iy:FuncId:=7
def dG:FuncId:=8
def aG:FuncId:=9
def bK:FuncId:=10
def cX:FuncId:=11
def b5:FuncId:=12
def lR:FuncId:=13
def gQ:FuncId:=14
def a6:FuncId:=15
def cx:FuncId:=16
def kx:FuncId:=17
def mc:FuncId:=18
def ow:FuncId:=19
def oo:FuncId:=20
def cR:FuncId:=21
def kh:FuncId:=22
def fK:FuncId:=23
def bM:FuncId:=24
def dD:FuncId:=25
def df:FuncId:=26
def dp:FuncId:=27
def lG:FuncId:=28
def j9:FuncId:=29
def cS:FuncId:=30
def jP:FuncId:=31
def dM:FuncId:=32
def fA:FuncId:=33
def gF:FuncId:=34
def aO:FuncId:=35
def cZ:FuncId:=36
def bZ:FuncId:=37
def az:FuncId:=38
def gT:FuncId:=39
def aX:FuncId:=40
def aL:FuncId:=41
def cY:FuncId:=42
def ig:FuncId:=43
def bV:FuncId:=44
def ic:FuncId:=45
def fR:FuncId:=46
def fO:FuncId:=47
def fP:FuncId:=48
def fL:FuncId:=49
def gK:FuncId:=50
def cE:FuncId:=51
def iL:FuncId:=52
def jS:FuncId:=53
def kG:FuncId:=54
def nM:FuncId:=55
def lN:FuncId:=56
def dR:FuncId:=57
def jV:FuncId:=58
def oz:FuncId:=59
def ot:FuncId:=60
def bf:FuncId:=61
def ir:FuncId:=62
def o8:FuncId:=63
def iw:FuncId:=64
def lO:FuncId:=65
def fD:FuncId:=66
def gJ:FuncId:=67
def dC:FuncId:=68
def kW:FuncId:=69
def kJ:FuncId:=70
def bI:FuncId:=71
def aV:FuncId:=72
def fp:FuncId:=73
def iE:FuncId:=74
def ja:FuncId:=75
def mh:FuncId:=76
def j6:FuncId:=77
def mj:FuncId:=78
def iv:FuncId:=79
def od:FuncId:=80
def oe:FuncId:=81
def ia:FuncId:=82
def fE:FuncId:=83
def strconv_Itoa:FuncId:=84
def strings_Repeat:FuncId:=85
def aK:FuncId:=86
def iI:FuncId:=87
def et:FuncId:=88
def ef:FuncId:=89
def strings_HasPrefix:FuncId:=90
def strconv_Atoi:FuncId:=91
def bW:FuncId:=92
def bJ:FuncId:=93
def fI:FuncId:=94
def bY:FuncId:=95
def bh:FuncId:=96
def ft:FuncId:=97
def js:FuncId:=98
def bH:FuncId:=99
def bN:FuncId:=100
def ko:FuncId:=101
def mN:FuncId:=102
def jU:FuncId:=103
def cU:FuncId:=104
def lF:FuncId:=105
def qm:FuncId:=106
def fJ:FuncId:=107
def bB:FuncId:=108
def fC:FuncId:=109
def px:FuncId:=110
def b6:FuncId:=111
def bF:FuncId:=112
def gn:FuncId:=113
def ba:FuncId:=114
def cO:FuncId:=115
def iF:FuncId:=116
def cL:FuncId:=117
def jC:FuncId:=118
def dF:FuncId:=119
def jB:FuncId:=120
def cW:FuncId:=121
def im:FuncId:=122
def gI:FuncId:=123
def lE:FuncId:=124
def mL:FuncId:=125
def wu:FuncId:=126
def mW:FuncId:=127
def oC:FuncId:=128
def pG:FuncId:=129
def fV:FuncId:=130
def iD:FuncId:=131
def Cg:FuncId:=132
def fu:FuncId:=133
def lW:FuncId:=134
def dT:FuncId:=135
def fh:FuncId:=136
def iK:FuncId:=137
def dJ:FuncId:=138
def iJ:FuncId:=139
def aY:FuncId:=140
def bp:FuncId:=141
def jJ:FuncId:=142
def lK:FuncId:=143
def dO:FuncId:=144
def d7:FuncId:=145
def eM:FuncId:=146
def py:FuncId:=147
def mJ:FuncId:=148
def kM:FuncId:=149
def jH:FuncId:=150
def jE:FuncId:=151
def qg:FuncId:=152
def gH:FuncId:=153
def jR:FuncId:=154
def de:FuncId:=155
def cT:FuncId:=156
def aI:FuncId:=157
def aW:FuncId:=158
def dN:FuncId:=159
def gV:FuncId:=160
def lY:FuncId:=161
def kL:FuncId:=162
def cN:FuncId:=163
def dd:FuncId:=164
def dQ:FuncId:=165
def dL:FuncId:=166
def Cm:FuncId:=167
def fF:FuncId:=168
def yD:FuncId:=171
def kV:FuncId:=176
def fM:FuncId:=177
def rK:FuncId:=178
def pC:FuncId:=179
def vB:FuncId:=180
def fG:FuncId:=181
def jb:FuncId:=182
def dk:FuncId:=183
def oh:FuncId:=184
def bC:FuncId:=185
def jD:FuncId:=186
def ib:FuncId:=187
def bU:FuncId:=188
def cC:FuncId:=189
def iY:FuncId:=190
def dK:FuncId:=191
def bQ:FuncId:=192
def qQ:FuncId:=193
def iU:FuncId:=199
def aF:FuncId:=200
def cQ:FuncId:=201
def bq:FuncId:=202
def dj:FuncId:=203
def cI:FuncId:=204
def gy:FuncId:=205
def eB:FuncId:=206
def gO:FuncId:=207
def gP:FuncId:=208
def iW:FuncId:=213
end F
end Go.Vm
namespace Go.Vm
open Go Go.Am
noncomputable section
def UR:List TyI->Nat->TyI
 |[],_=>⟨.o,0,0,[],false⟩
 |x::_,0=>x
 |_::l,n+1=>UR l n
def JE:List (List TyI)->Nat->List TyI
 |[],_=>[]
 |x::_,0=>x
 |_::l,n+1=>JE l n
def yH:Nat->LuQ->Nat
 |a,[]=>a
 |a,c::l=>yH (a*10+(c.toNat-48)) l
def Bo(c:UInt8):Bool:=Nat.ble 48 c.toNat&&Nat.ble c.toNat 57
def J6:LvQ->Option Value
 |[.string s,.int .i64 a,.int .i64 b]=>if a=10∧b=64∧s.data.toList≠[]∧s.data.toList.all Bo=true∧s.data.toList.length<=1000∧yH 0 s.data.toList<10000000000000000000 then some (.tuple #[.int .u64 (yH 0 s.data.toList),.nilIface])else none
 |_=>none
def O6:LvQ->Option Value
 |[.int .u64 x,.int .u64 y,.int .u64 c]=>if 0<=x∧0<=y∧0<=c∧c<=1 then some (.tuple #[.int .u64 (((x.toNat+y.toNat+c.toNat)%18446744073709551616:Nat):Int),.int .u64 (((x.toNat+y.toNat+c.toNat)/18446744073709551616:Nat):Int)])else none
 |_=>none
def aeL(f:FuncId)(lb:LvQ)(H:AH):Option (List LvQ):=none
def acr(f:FuncId)(lb:LvQ)(H:AH):LvQ:=[]
def aeK(f:FuncId)(cs:LwQ):Option (List LvQ):=none
def X:Cfg:={P:=Go.Proofs.Tryz.prog,allow:=mY abo,glob:=fun g=>Nat.beq g oH,orc:=fun f args=>(match Nat.beq f F.gy with
 |true=>J6 args
 | false=>match Nat.beq f F.iW with
  |true=>O6 args
  |false=>none),seq:=aeL,seqK:=acr}
def J7:LdQ:=[.int .u64 1,.int .u64 10,.int .u64 100,.int .u64 1000,.int .u64 10000,.int .u64 100000,.int .u64 1000000,.int .u64 10000000,.int .u64 100000000,.int .u64 1000000000,.int .u64 10000000000,.int .u64 100000000000,
 .int .u64 1000000000000,.int .u64 10000000000000,.int .u64 100000000000000,.int .u64 1000000000000000,.int .u64 10000000000000000,.int .u64 100000000000000000,.int .u64 1000000000000000000,.int .u64 10000000000000000000]
def Y:lT:={X:=X,ty:=fun t=>UR (JE Dt (t/16)) (t%16),glob:=fun g=>(match Nat.beq g oH with
 |true=>some J7
 |false=>none),seq:=aeK}
end
end Go.Vm
set_option maxRecDepth 100000
namespace Go.Vm
open Go Go.Am
variable{x:Prop}{P:Program}{t:TypeId}{z:LdQ}{k k':kkQ}{a b f v0 c v:V}{h0 h:Hp}{T:kkQ->Prop}{s n m:Nat}{cs l:LwQ}{ps:List (Nat×V)}{dr w:Bool}
def aa9:Value->Value->Bool
 |.pointer none,.pointer none=>true
 |.slice none a b,.slice none c d=>a == c&&b == d
 |.nilFunc,.nilFunc=>true
 |.nilIface,.nilIface=>true
 |.map none,.map none=>true
 |.chan none,.chan none=>true
 |_,_=>false
theorem WO{x y:Value}(h:aa9 x y=true):x=y:=by unfold aa9 at h;split at h<;>first|rfl|(simp at h;obtain⟨rfl,rfl⟩:=h;rfl)|cases h
def aba:D->D->Bool
 |.int k a,.int l b=>decide (k=l)&&decide (a=b)
 |.bool a,.bool b=>a == b
 |.str a,.str b=>a == b
 |.pl a,.pl b=>aa9 a b
 |_,_=>false
theorem WP{x y:D}(h:aba x y=true):x=y:=by
 unfold aba at h;split at h
 .simp at h;obtain⟨rfl,rfl⟩:=h;rfl
 .simp at h;subst h;rfl
 .simp at h;subst h;rfl
 .rw[WO h]
 .cases h
def TH:LdQ->LdQ->Bool
 |[],[]=>true
 |x::l,y::m=>aba x y&&TH l m
 |_,_=>false
theorem OL:∀{l m:LdQ},TH l m=true->l=m
 |[],[],_=>rfl
 | x::l,y::m,h=>by
  simp only[TH,Z8]at h;rw[WP h.1,OL h.2]
 |[],_::_,h=>by cases h
 |_::_,[],h=>by cases h
def Tb(P:Program)(t:TypeId)(k:Ty):Bool:=match k with
 |.i k=>match P.underlying t with|some (.int k')=>decide (k'=k)|_=>false
 |.b=>match P.underlying t with|some .bool=>true|_=>false
 |.s=>match P.underlying t with|some .string=>true|_=>false
 |.p=>match P.underlying t with|some (.pointer _)=>true|_=>false
 |.f=>match P.underlying t with|some (.func ..)=>true|_=>false
 |.it=>match P.underlying t with|some (.interface _)=>true|_=>false
 |.sl e=>match P.underlying t with|some (.slice e')=>e' == e|_=>false
 |.ar n e=>match P.underlying t with|some (.array n' e')=>n' == n&&e' == e|_=>false
 |.st fs=>match P.underlying t with|some (.struct gs)=>decide (gs.toList.map (fun f=>(f.offset,szO P f.type))=fs.map fun p=>(p.1,some p.2))|_=>false
 |.o=>true
def MS(P:Program)(t:TypeId):D->Bool
 |.int _ _=>match P.underlying t with|some (.int _)=>true|_=>false
 |.bool _=>match P.underlying t with|some .bool=>true|_=>false
 |.str _=>match P.underlying t with|some .string=>true|_=>false
 |_=>false
theorem Qa{d:D}(h:MS P t d=true):OB P t d:=by
 unfold MS at h;split at h
 .split at h
  .rename_i hu;exact⟨_,hu⟩
  .cases h
 .split at h
  .rename_i hu;exact hu
  .cases h
 .split at h
  .rename_i hu;exact hu
  .cases h
 .cases h
def Tv(P:Program)(t:TypeId)(z:LdQ):Bool:=match P.underlying t with
 |some (.struct gs)=> !P.stoodInHeld t && !P.eqGuardType P.depth t&&decide (gs.size=z.length)&&(gs.toList.zipIdx.zip z).all fun x=>x.1.1.offset == x.1.2&&x.1.1.name != "_" && MS P x.1.1.type x.2
 |_=>false
theorem Tu(h:Tv P t z=true):Ji P t z:=by
 unfold Tv at h;split at h
 .rename_i gs hu;simp only[Z8,Yu,decide_eq_true_eq,Zq]at h;obtain⟨⟨⟨h1,h2⟩,h3⟩,h4⟩:=h;refine⟨gs,hu,h1,h2,h3,fun i f d hf hd=>?_⟩
  have:=h4 ((f,i),d) (by
   apply Xd (i:=i);rw[List.getElem?_zip_eq_some];exact⟨by rw[List.getElem?_zipIdx,hf];simp,hd⟩)
  simp only[beq_iff_eq,bne_iff_ne]at this;exact⟨this.1.1,this.1.2,Qa this.2⟩
 .cases h
def tyB(P:Program)(t:TypeId)(i:TyI):Bool:=(!i.eq||Tv P t i.z)&&match i.k with
 |.o=>true
 | k=>Tb P t k&&decide (szO P t=some i.sz)&&decide (qY P t=some i.bytes)&&match jy P t with
  |some z=>plain z&&z.cells.size == i.sz&&(z.cells.toList.all fun c=>plain c&&okCell c)&&TH (z.cells.toList.map kA) i.z
  |none=>false
theorem NA{i:TyI}(h:tyB P t i=true):FE P t i:=by
  unfold tyB at h;rw[Z8]at h;obtain⟨h0,h⟩:=h
  have heq:i.eq=true->Ji P t i.z:=fun e=>by
    rw[e]at h0;exact Tu (by simpa using h0)
  by_cases hk:i.k = .o
  · exact⟨by rw[hk];trivial,fun h=>absurd hk h,fun h=>absurd hk h,fun h=>absurd hk h,heq⟩
  · have h2:Tb P t i.k=true∧szO P t=some i.sz∧qY P t=some i.bytes∧(match jy P t with
        |some z=>plain z&&z.cells.size == i.sz&&(z.cells.toList.all fun c=>plain c&&okCell c)&&TH (z.cells.toList.map kA) i.z
        |none=>false)=true:=by
      split at h
      · rename_i e;exact absurd e hk
      · simp only[Z8,decide_eq_true_eq]at h
        exact⟨h.1.1.1,h.1.1.2,h.1.2,h.2⟩
    obtain⟨h1,h2,h3,h4⟩:=h2;refine⟨?_,fun _=>h2,fun _=>h3,fun _=> ?_,heq⟩
    · unfold Tb at h1
      cases hq:i.k<;>rw[hq]at h1<;>dsimp only at h1 ⊢
      all_goals first
        |trivial
        | (split at h1
           · rename_i hu
             first
               |(simp only[decide_eq_true_eq]at h1;subst h1;exact hu)
               |exact hu
               |exact⟨_,hu⟩
               |exact⟨_,_,_,hu⟩
               |(simp only[beq_iff_eq]at h1;subst h1;exact hu)
               |(simp only[Z8,beq_iff_eq]at h1;obtain⟨rfl,rfl⟩:=h1;exact hu)
               |(simp only[decide_eq_true_eq]at h1;exact⟨_,hu,h1⟩)
           · cases h1)
    · split at h4
      · rename_i z hz
        simp only[Z8,beq_iff_eq,Zq]at h4;refine⟨z,hz,h4.1.1.1,OL h4.2,h4.1.1.2,fun c hc=> ?_⟩;have:=h4.1.2 c hc;exact this
      · cases h4
theorem Az:∀(l:List (List TyI))(n:Nat),l.length<=n->JE l n=[]
 |[],_,_=>rfl
 |_::_,0,h=>by simp at h
 |_::l,n+1,h=>Az l n (by simpa using h)
theorem aaf:(List.range (16*Dt.length)).all (fun t=>tyB Y.X.P t (Y.ty t))=true:=b9
section
variable{F:Nat->Prop}{H:AH}
end
theorem yOk:YOk Y where
 seq gf cs xs h0:=by
  have h:(none:Option (List LvQ))=some xs:=h0;cases h
 ty t:=by
  by_cases ht:t<16*Dt.length
  .exact NA (Zq.1 aaf t (Xm.2 ht))
  .refine NA ?_
   have:(Y.ty t).k=.o:=by
    show(UR (JE Dt (t/16)) (t%16)).k=.o
    have h2:∀t n:Nat,¬t<16*n->n<=t/16:=fun t n hn=>by omega
    rw[Az Dt (t/16) (h2 t _ ht)];rfl
   have h2:(Y.ty t).eq=false:=by
    show(UR (JE Dt (t/16)) (t%16)).eq=false
    have h2:∀t n:Nat,¬t<16*n->n<=t/16:=fun t n hn=>by omega
    rw[Az Dt (t/16) (h2 t _ ht)];rfl
   unfold tyB;rw[this,h2];rfl
theorem ZQ{o:Option V}{k k':V->Prop}(h1:x=bnd o k)(h:∀v,k v=k' v):x=bnd o k':=by rw[h1,funext h]
theorem ZC{o:V}{i:Nat}{k k':V->Prop}(h1:x=ext o i k)(h:∀v,k v=k' v):x=ext o i k':=by rw[h1,funext h]
theorem Sw{op:BinOp}{k k':V->Prop}(h1:x=qK h0 op a b k)(h:∀v,k v=k' v):x=qK h0 op a b k':=by rw[h1,funext h]
theorem vz(h1:x=T k)(h:∀v h,k v h=k' v h):x=T k':=by rw[h1,show k=k' from funext fun v=>funext fun y=>h v y]
theorem ZM{C:xg}{a:LwQ}(h1:x=cal C h0 f a k)(h:∀v h,k v h=k' v h):x=cal C h0 f a k':=vz h1 h
theorem ZO{C:qZ}{a:LwQ}(h1:x=cai C h0 f a s k)(h:∀v h,k v h=k' v h):x=cai C h0 f a s k':=vz h1 h
theorem ZV(h1:x=alV s cs h0 k)(h:∀v h,k v h=k' v h):x=alV s cs h0 k':=vz h1 h
theorem ZW{cs:LdQ}(h1:x=alD s n cs h0 k)(h:∀v h,k v h=k' v h):x=alD s n cs h0 k':=vz h1 h
theorem Uk(h1:x=cJ s v0 h0 k)(h:∀v h,k v h=k' v h):x=cJ s v0 h0 k':=vz h1 h
theorem SR(h1:x=eD n z ps h0 k)(h:∀v h,k v h=k' v h):x=eD n z ps h0 k':=vz h1 h
theorem SP(h1:x=sj s n z ps h0 k)(h:∀v h,k v h=k' v h):x=sj s n z ps h0 k':=vz h1 h
theorem YU(h1:x=mkS s n z h0 a b k)(h:∀v h,k v h=k' v h):x=mkS s n z h0 a b k':=vz h1 h
theorem YN(h1:x=stD h0 n a b k)(h:∀v h,k v h=k' v h):x=stD h0 n a b k':=vz h1 h
theorem ZU(h1:x=apV dr s n m a b h0 k)(h:∀v h,k v h=k' v h):x=apV dr s n m a b h0 k':=vz h1 h
theorem adE(h1:x=apZ dr s n m z a b h0 k)(h:∀v h,k v h=k' v h):x=apZ dr s n m z a b h0 k':=vz h1 h
theorem adi(h1:x=gd c w h0 T k)(h:∀v h,k v h=k' v h):x=gd c w h0 T k':=vz h1 h
theorem ZL{A A' B B':Prop}(h1:x=cnd c A B)(ha:A=A')(hb:B=B'):x=cnd c A' B':=by rw[h1,ha,hb]
theorem ac9{k k':LwQ->Hp->Prop}{T T':(LwQ->Hp->Prop)->Prop}(h1:x=jn k T)(hk:∀l h,k l h=k' l h)(hT:∀q,T q=T' q):x=jn k' T':=by rw[h1,show k=k' from funext fun v=>funext fun y=>hk v y,show T=T' from funext hT]
theorem acT{s s':aR}{clr:LnQ}{h2:Hp}{k k':KL}(h1:x=lp s clr h0 l h2 k)(hs:∀l h q,s l h q=s' l h q)(hk:∀ex l h,k ex l h=k' ex l h):x=lp s' clr h0 l h2 k':=by rw[h1,show s=s' from funext fun a=>funext fun b=>funext fun c=>hs a b c,show k=k' from funext fun a=>funext fun b=>funext fun c=>hk a b c]
theorem ZF{e ex:Exit}{q q':LwQ->Hp->Prop}{r r':List (Exit×(LwQ->Hp->Prop))}(h1:x=exK ((e,q)::r) ex l h)(hq:∀l h,q l h=q' l h)(hr:exK r ex l h=exK r' ex l h):x=exK ((e,q')::r') ex l h:=by
 rw[h1,show q=q' from funext fun v=>funext fun y=>hq v y];simp only[exK];split
 .rfl
 .exact hr
theorem SZ{y:Prop}{k:V->Prop}(h1:x=bnd (some v) k)(h2:k v=y):x=y:=h1.trans h2
noncomputable def gl(g:Nat):V:=match Y.glob g with
 |some cs=>.dptr cs 0
 |none=>.junk
end Go.Vm
