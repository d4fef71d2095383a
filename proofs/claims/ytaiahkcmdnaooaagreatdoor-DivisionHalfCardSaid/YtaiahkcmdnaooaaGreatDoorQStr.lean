/- Texts of integers: what strconv and strings find. -/
import Derived.Test.YtaiahkcmdnaooaaGreatDoorQT
import Derived.Test.YtaiahkcmdnaooaaGreatDoorQVmSx
set_option linter.unusedVariables false
set_option linter.unusedSimpArgs false
namespace Go.Vm
open Go Go.Am
abbrev S (s:List UInt8):V:=.d (.str s)
@[simp] theorem FF (s:List UInt8):lI (S s)=some (I s.length):=id rfl
@[simp] theorem aa1 (s:List UInt8) {j:Int} (h0:0<=j) (h1:j<=s.length):slS (S s) none (some (I j))=some (S (s.take j.toNat)):=by
 simp only [slS,boV];rw [if_pos ⟨h0,aa⟩];simp
@[simp] theorem aa0 (s:List UInt8) {i:Int} (h0:0<=i) (h1:i<=s.length):slS (S s) (some (I i)) none=some (S (s.drop i.toNat)):=by
 simp only [slS,boV];rw [if_pos ⟨h0,aa⟩];simp only;rw [Zx af]
@[simp] theorem aaE (a b:List UInt8):biS .eql (S a) (S b)=some (.d (.bool (a == b))):=id rfl
@[simp] theorem aaD (a b:List UInt8):biS .neq (S a) (S b)=some (.d (.bool (!(a == b)))):=id rfl
@[simp] theorem TE (a b:List UInt8) (h:a.length+b.length<=9223372036854775807):biS .add (S a) (S b)=some (S (a++b)):=by simp [biS,AN,h]
theorem Qe (s:List UInt8) {k:IntKind} {i:Int} {x:UInt8} (h0:0<=i) (h:s[i.toNat]? = some x):ixS (S s) (.d (.int k i))=some (.d (.int .u8 x.toNat)):=by
 simp only [ixS];rw [if_pos h0,h]
theorem dP {a b:List UInt8} {h:Hp} (e:b=a):out (S a) (S b) h:=by subst e;exact Pw rfl
theorem Rl (b:Bool):CP Y F.fc [B b] (I (if b=true then 1 else 0)):=by
 refine sY ?_;cases b <;> simp (disch:=try exact ac)[fc]
theorem PP {x:Nat} (h:x<=64):CP Y F.eZ [I x] (I ((x*78913 / 262144:Nat):Int)):=by
 refine sX ?_;simp (disch:=try exact ac)[eZ]
def bp (n:Nat):Nat:=if n=0 then 0 else n.log2+1
theorem vH {n k:Nat} (h:2 ^ k<=n):bp n=bp (n / 2 ^ k)+k:=by
 have hp:0<2 ^ k:=Ya ae;have h0:n≠0:=aa;have h1:n / 2 ^ k≠0:=by have:=V9 h hp;omega
 simp only [bp,h0,h1,if_false]
 have e:n.log2=(n / 2 ^ k).log2+k:=by
  rw [Nat.log2_eq_iff h0];have h2:=(Nat.log2_eq_iff h1).1 rfl;constructor
  ·rw [Yx];exact Z1 (Z4 _ h2.1) (Nat.div_mul_le_self n _)
  ·have:n / 2 ^ k+1<=2 ^ ((n / 2 ^ k).log2+1):=h2.2
   have h3:n<(n / 2 ^ k+1)*2 ^ k:=by
    have:=Nat.lt_mul_div_succ n hp;rw [Zy];exact this
   have h4:=Z4 (2 ^ k) this;rw [<- Yx] at h4;rw [show (n / 2 ^ k).log2+k+1=(n / 2 ^ k).log2+1+k by omega];omega
 omega
def Uc:List UInt8:=[0,1,2,2,3,3,3,3,4,4,4,4,4,4,4,4,5,5,5,5,5,5,5,5,5,5,5,5,5,5,5,5,6,6,6,6,6,6,6,6,6,6,6,6,6,6,6,6,6,6,6,6,6,6,6,6,6,6,6,6,6,6,6,6]++(List.replicate 64 7++List.replicate 128 8)
theorem len8:∀ x:Fin 256,Uc[x.val]? = some (UInt8.ofNat (bp x.val)):=aJ
theorem Nb {x:Nat} {a:Nat} {n:Nat} (hx:x<256) (hn:bp n=bp x+a) (ha:a<=56) {h:Hp} :
  (bnd (cvI .u8 (.d (.int .u64 x))) fun v10=>bnd (ixS (S Uc) v10) fun v11=>
   bnd (cvI .i64 v11) fun v12=>bnd (biI .add (I a) v12) fun v13=>out (I (bp n)) v13 h):=by
 have hb:bp x<=8:=by
  unfold bp;split
  ·omega
  ·rename_i h0;have:=(Nat.log2_lt h0 (k:=8)).2 aa;omega
 have h8:=len8 ⟨x,hx⟩;simp (disch:=try exact ac)[];rw [Qe _ aa (x:=UInt8.ofNat (bp x)) (by simpa using h8)];have e:(UInt8.ofNat (bp x)).toNat=bp x:=by simp;omega
 simp (disch:=try exact ac)[e];exact bU aa
set_option maxRecDepth 20000 in
theorem BA {n:Nat} (h:n<18446744073709551616):CP Y F.d8 [.d (.int .u64 n)] (I (bp n)):=by
 refine wG ?_
 obtain ⟨x1,a1,hx1,he1,ha1,h1⟩:∃ x1 a1:Nat,x1<4294967296∧bp n=bp x1+a1∧a1<=32∧((4294967296<=n∧x1=n / 4294967296∧a1=32)∨(n<4294967296∧x1=n∧a1=0)):=by
  by_cases hh:4294967296<=n
  ·exact ⟨n / 4294967296,32,aa,vH (k:=32) hh,aa,.inl ⟨hh,rfl,rfl⟩⟩
  ·exact ⟨n,0,aa,rfl,aa,.inr ⟨aa,rfl,rfl⟩⟩
 obtain ⟨x2,a2,hx2,he2,ha2,h2⟩:∃ x2 a2:Nat,x2<65536∧bp n=bp x2+a2∧a2<=48∧((65536<=x1∧x2=x1 / 65536∧a2=a1+16)∨(x1<65536∧x2=x1∧a2=a1)):=by
  by_cases hh:65536<=x1
  ·exact ⟨x1 / 65536,a1+16,aa,by (have:=vH (n:=x1) (k:=16) hh;simp only [Nat.reducePow] at this;omega),aa,.inl ⟨hh,rfl,rfl⟩⟩
  ·exact ⟨x1,a1,aa,he1,aa,.inr ⟨aa,rfl,rfl⟩⟩
 obtain ⟨x3,a3,hx3,he3,ha3,h3⟩:∃ x3 a3:Nat,x3<256∧bp n=bp x3+a3∧a3<=56∧((256<=x2∧x3=x2 / 256∧a3=a2+8)∨(x2<256∧x3=x2∧a3=a2)):=by
  by_cases hh:256<=x2
  ·exact ⟨x2 / 256,a2+8,aa,by (have:=vH (n:=x2) (k:=8) hh;simp only [Nat.reducePow] at this;omega),aa,.inl ⟨hh,rfl,rfl⟩⟩
  ·exact ⟨x2,a2,aa,he2,aa,.inr ⟨aa,rfl,rfl⟩⟩
 simp (disch:=try exact ac)[d8];have key:=Nb (h:=[]) hx3 he3 ha3;refine fU (l:=[.d (.int .u64 x1),I a1]) (h:=[]) (fun q=>?_) ?_
 ·rcases h1 with ⟨g,rfl,rfl⟩ | ⟨g,rfl,rfl⟩ <;> simp (disch:=try exact ac)[g]
 simp (disch:=try exact ac)[];refine fU (l:=[.d (.int .u64 x2),I a2]) (h:=[]) (fun q=>?_) ?_
 ·rcases h2 with ⟨g,rfl,rfl⟩ | ⟨g,rfl,rfl⟩ <;> simp (disch:=try exact ac)[g]
 simp (disch:=try exact ac)[];refine fU (l:=[.d (.int .u64 x3),I a3]) (h:=[]) (fun q=>?_) ?_
 ·rcases h3 with ⟨g,rfl,rfl⟩ | ⟨g,rfl,rfl⟩ <;> simp (disch:=try exact ac)[g]
 exact key
theorem Sm:HA=(List.range 20).map fun i=>D.int .u64 ((10 ^ i:Nat):Int):=by
 simp only [HA,List.range,List.range.loop,List.map];rfl
theorem UT {i:Nat} (h:i<20):HA[i]? = some (.int .u64 ((10 ^ i:Nat):Int)):=by
 rw [Sm,List.getElem?_map,List.getElem?_range h];rfl
theorem Vi:gl k8=.dptr HA 0:=by unfold gl;rfl
theorem U1:∀ b:Fin 65,1<=b.val->(10 ^ (b.val*78913 / 262144)<=2 ^ b.val∧2 ^ b.val<=10 ^ (b.val*78913 / 262144+1)∧(b.val*78913 / 262144=0∨10 ^ (b.val*78913 / 262144-1)<2 ^ (b.val-1))∧b.val*78913 / 262144<20):=aJ
theorem mQ {n:Nat} (h:0<n):2 ^ (bp n-1)<=n∧n<2 ^ bp n∧1<=bp n:=by
 have h0:n≠0:=aa;have:=(Nat.log2_eq_iff h0).1 rfl;simp only [bp,h0,if_false];exact ⟨this.1,this.2,aa⟩
theorem wB {n d:Nat} (h1:10 ^ (d-1)<=n) (h2:n<10 ^ d) (hd:1<=d) (h:n<18446744073709551616):CP Y F.cS [.d (.int .u64 n)] (I d):=by
 have h0:0<n:=Z0 (Ya ae) h1;obtain ⟨b1,b2,b3⟩:=mQ h0
 have hb:bp n<=64:=by
  unfold bp;split
  ·omega
  ·rename_i hz;have:=(Nat.log2_lt hz (k:=64)).2 (by simpa using h);omega
 obtain ⟨t1,t2,t3,t4⟩:=U1 ⟨bp n,aa⟩ b3;simp only at t1 t2 t3 t4;refine sW ?_;simp (disch:=try exact ac)[cS];refine cd (BA h) ?_;simp (disch:=try exact ac)[];refine cd (PP hb) ?_;generalize hk:bp n*78913 / 262144=k at *;have hg:gl k8=.dptr HA 0:=Vi
 simp (disch:=try exact ac)[hg];rw [YJ _ _ _ (UT t4)];have hpk:10 ^ (k+1)=10*10 ^ k:=by rw [Nat.pow_succ,Zy]
 have hpd:10 ^ d=10*10 ^ (d-1):=by
  obtain ⟨e,rfl⟩:∃ e,d=e+1:=⟨d-1,aa⟩;rw [Nat.pow_succ,Zy];rfl
 have a1:10 ^ k<=n->d=k+1:=fun hc=>by
  have a1:k<d:=(Yz (a:=10) ae).1 aa;have a2:d-1<k+1:=(Yz (a:=10) ae).1 aa;omega
 have a2:¬ 10 ^ k<=n->d=k:=fun hc=>by
  have hk1:1<=k:=by
   rcases Zf k with e | e
   ·subst e;simp at hc;omega
   ·exact e
  have a1:d-1<k:=(Yz (a:=10) ae).1 aa
  have a2:k-1<d:=by
   rcases t3 with e | e
   ·omega
   ·exact (Yz (a:=10) ae).1 aa
  omega
 generalize 10 ^ k=P at *;simp (disch:=try exact ac)[];refine cd (Rl (decide (P<=n))) ?_;by_cases hc:P<=n
 ·have:=a1 hc;simp (disch:=try exact ac)[hc];exact bU aa
 ·have:=a2 hc;simp (disch:=try exact ac)[hc];exact bU aa
def dg (n:Nat):UInt8:=UInt8.ofNat (48+n)
def c8:Nat->Nat->List UInt8
 | _,0=>[]
 | n,w+1=>c8 (n / 10) w++[dg (n % 10)]
theorem aV:∀ (w n:Nat),(c8 n w).length=w
 | 0,_=>rfl
 | w+1,n=>by simp [c8,aV w]
def u8 (b:UInt8):D:=.int .u8 b.toNat
def oG:List UInt8:=[48,48,48,49,48,50,48,51,48,52,48,53,48,54,48,55,48,56,48,57,49,48,49,49,49,50,49,51,49,52,49,53,49,54,49,55,49,56,49,57,50,48,50,49,50,50,50,51,50,52,50,53,50,54,50,55,50,56,50,57,51,48,51,49,51,50,51,51,51,52,51,53,51,54,51,55,51,56,51,57,52,48,52,49,52,50,52,51,52,52,52,53,52,54,52,55,52,56,52,57,53,48,53,49,53,50,53,51,53,52,53,53,53,54,53,55,53,56,53,57,54,48,54,49,54,50,54,51,54,52,54,53,54,54,54,55,54,56,54,57,55,48,55,49,55,50,55,51,55,52,55,53,55,54,55,55,55,56,55,57,56,48,56,49,56,50,56,51,56,52,56,53,56,54,56,55,56,56,56,57,57,48,57,49,57,50,57,51,57,52,57,53,57,54,57,55,57,56,57,57]
theorem EM:([48,48,48,49,48,50,48,51,48,52,48,53,48,54,48,55,48,56,48,57,49,48,49,49,49,50,49,51,49,52,49,53,49,54,49,55,49,56,49,57,50,48,50,49,50,50,50,51,50,52,50,53,50,54,50,55,50,56,50,57,51,48,51,49,51,50,51,51,51,52,51,53,51,54,51,55,51,56,51,57,52,48,52,49,52,50,52,51,52,52,52,53,52,54,52,55,52,56,52,57,53,48,53,49,53,50,53,51,53,52,53,53,53,54,53,55,53,56,53,57,54,48,54,49,54,50,54,51,54,52,54,53,54,54,54,55,54,56,54,57,55,48,55,49,55,50,55,51,55,52,55,53,55,54,55,55,55,56,55,57,56,48,56,49,56,50,56,51,56,52,56,53,56,54,56,55,56,56,56,57,57,48,57,49,57,50,57,51,57,52,57,53,57,54,57,55,57,56,57,57]:List UInt8)=oG:=rfl
theorem MH:∀ x:Fin 200,oG[x.val]? = some (dg (if x.val % 2=0 then x.val / 2 / 10 else x.val / 2 % 10)):=aJ
def smV (i:Int):D:=u8 (dg (if i % 2=0 then i.toNat / 2 / 10 else i.toNat / 2 % 10))
@[simp] theorem VX (k:IntKind) (i:Int) (K:V->Prop) (u:PU K) (h0:0<=i) (h1:i<200):rn (bnd (ixS (.d (.str oG)) (.d (.int k i)))) K u=K (.d (smV i)):=by
 have h:=Qe oG (k:=k) h0 (MH ⟨i.toNat,aa⟩);unfold rn;rw [show V.d (.str oG)=S oG from rfl,h]
 have e:(if i.toNat % 2=0 then i.toNat / 2 / 10 else i.toNat / 2 % 10)=(if i % 2=0 then i.toNat / 2 / 10 else i.toNat / 2 % 10):=by
  by_cases hc:i % 2=0
  ·rw [if_pos hc,if_pos aa]
  ·rw [if_neg hc,if_neg aa]
 simp only [smV,u8,<- e];rfl
theorem UM {x:Nat}:smV (2*(x:Int))=u8 (dg (x / 10)):=by
 unfold smV;rw [if_pos aa];congr 3;omega
theorem UL {x:Nat}:smV (2*(x:Int)+1)=u8 (dg (x % 10)):=by
 unfold smV;rw [if_neg aa];congr 3;omega
theorem pN (n w:Nat):c8 n (w+2)=c8 (n / 100) w++[dg (n % 100 / 10),dg (n % 100 % 10)]:=by
 simp only [c8,List.append_assoc,List.singleton_append];rw [Xf];have e1:n / 10 % 10=n % 100 / 10:=aa;have e2:n % 10=n % 100 % 10:=aa;rw [e1,e2]
theorem YF {α:Type}:∀ (l:List α),l.length=8->∃ c0 c1 c2 c3 c4 c5 c6 c7,l=[c0,c1,c2,c3,c4,c5,c6,c7]
 | [c0,c1,c2,c3,c4,c5,c6,c7],_=>⟨c0,c1,c2,c3,c4,c5,c6,c7,rfl⟩
 | [],h | [_],h | [_,_],h | [_,_,_],h | [_,_,_,_],h | [_,_,_,_,_],h | [_,_,_,_,_,_],h | [_,_,_,_,_,_,_],h=>by simp at h
 | _::_::_::_::_::_::_::_::_::_,h=>by simp at h
@[simp] theorem YD (s e off len cap tot:Nat):bC (.ref s e off len cap tot)=some (I len):=rfl
theorem aa3 (B:List D) (c0 c1 c2 c3 c4 c5 c6 c7 x0 x1 x2 x3 x4 x5 x6 x7:D) {i1 i2 i3 i4 i5 i6 i7:Nat}
  (h1:i1=1) (h2:i2=2) (h3:i3=3) (h4:i4=4) (h5:i5=5) (h6:i6=6) (h7:i7=7) :
  ((((((((c0::c1::c2::c3::c4::c5::c6::c7::B).set i7 x7).set i6 x6).set i5 x5).set i4 x4).set i3 x3).set i2 x2).set i1 x1).set 0 x0=x0::x1::x2::x3::x4::x5::x6::x7::B:=by
 subst h1 h2 h3 h4 h5 h6 h7;rfl
theorem aa4 (B:List D) (c0 c1 c2 c3 x0 x1 x2 x3:D) {i1 i2 i3:Nat} (h1:i1=1) (h2:i2=2) (h3:i3=3) :
  ((((c0::c1::c2::c3::B).set i3 x3).set i2 x2).set i1 x1).set 0 x0=x0::x1::x2::x3::B:=by
 subst h1 h2 h3;rfl
theorem set2 (B:List D) (c0 c1 x0 x1:D) {i1:Nat} (h1:i1=1):((c0::c1::B).set i1 x1).set 0 x0=x0::x1::B:=by
 subst h1;rfl
@[simp] theorem XT (i:Int):norm (smV i)=smV i:=rfl
theorem rG {x:Nat} {i:Int} (h:i=2*(x:Int)+1):smV i=u8 (dg (x % 10)):=by rw [h,UL]
theorem rH {x:Nat} {i:Int} (h:i=2*(x:Int)):smV i=u8 (dg (x / 10)):=by rw [h,UM]
theorem YZ (n w:Nat):c8 n (w+8)=c8 (n / 100000000) w++[dg (n / 1000000 % 100 / 10),dg (n / 1000000 % 100 % 10),dg (n / 10000 % 100 / 10),dg (n / 10000 % 100 % 10),dg (n / 100 % 100 / 10),dg (n / 100 % 100 % 10),dg (n % 100 / 10),dg (n % 100 % 10)]:=by
 rw [pN n (w+6),pN _ (w+4),pN _ (w+2),pN _ w];simp only [Xf,List.append_assoc,List.cons_append,List.nil_append,Nat.reduceMul]
theorem SX (h0:Hp) (hh:h0.length=2) (k:KL) (off len cap tot:Nat) (pre post:List D) (hpre:pre.length=off):∀ (r nd n:Nat) (mid done:List D),nd<=r->mid.length=nd->nd+done.length=len->len<=24->tot=off+len+post.length ->
  n<10 ^ nd->n<18446744073709551616 ->
  (∀ (n' nd':Nat) (mid' done':List D),nd'<8->mid'.length=nd'->nd'+done'.length=len->n'<10 ^ nd'->(c8 n' nd').map u8++done'=(c8 n nd).map u8++done->k (.exit 0) [.d (.int .u64 n'),I nd'] [(1,.data 1 (pre++(mid'++(done'++post))) true false),(0,.none)]) ->
  lp (dL (CX Y) 2 (.ref 0 1 off len cap tot)) [] h0 [.d (.int .u64 n),I nd] [(1,.data 1 (pre++(mid++(done++post))) true false),(0,.none)] k:=by
 intro r
 induction r with
 | zero => 
  intro nd n mid done hr hm hd hl ht hn h64 hk;refine av ?_;simp (disch:=try exact ac)[dL];exact hk n nd mid done aa hm hd hn rfl
 | succ r ih=>
  intro nd n mid done hr hm hd hl ht hn h64 hk;refine av ?_;by_cases h8:8<=nd
  ·obtain ⟨m',c0,c1,c2,c3,c4,c5,c6,c7,rfl⟩:∃ (m':List D) (c0 c1 c2 c3 c4 c5 c6 c7:D),mid=m'++[c0,c1,c2,c3,c4,c5,c6,c7]:=by
    obtain ⟨c0,c1,c2,c3,c4,c5,c6,c7,e⟩:=YF (mid.drop (nd-8)) au;exact ⟨mid.take (nd-8),c0,c1,c2,c3,c4,c5,c6,c7,by rw [<- e,Xs]⟩
   have e0:pre++(m'++[c0,c1,c2,c3,c4,c5,c6,c7]++(done++post))=(pre++m')++c0::c1::c2::c3::c4::c5::c6::c7::(done++post):=af;rw [e0];simp only [Zm,List.length_cons,List.length_nil] at hm;have hA:(pre++m').length=off+nd-8:=by simp;omega
   have e9:∀ x0 x1 x2 x3 x4 x5 x6 x7:D,(pre++m')++x0::x1::x2::x3::x4::x5::x6::x7::(done++post)=pre++(m'++((x0::x1::x2::x3::x4::x5::x6::x7::done)++post)):=by intros;simp
   generalize pre++m'=A at *;unfold dL;simp only [EM];simp (disch:=try exact ac)[Zt,Zs];rw [aa3 _ _ _ _ _ _ _ _ _ _ _ _ _ _ _ _ _ aa aa aa aa aa aa aa,e9]
   rw [rG (x:=n % 100) (i:=(n:Int) % 100*2+1) aa,rH (x:=n % 100) (i:=(n:Int) % 100*2) aa,rG (x:=n / 100 % 100) (i:=(n:Int) % 10000 / 100*2+1) aa,rH (x:=n / 100 % 100) (i:=(n:Int) % 10000 / 100*2) aa,rG (x:=n / 10000 % 100) (i:=(n:Int) % 100000000 / 10000 % 100*2+1) aa,rH (x:=n / 10000 % 100) (i:=(n:Int) % 100000000 / 10000 % 100*2) aa,rG (x:=n / 1000000 % 100) (i:=(n:Int) % 100000000 / 10000 / 100*2+1) aa,rH (x:=n / 1000000 % 100) (i:=(n:Int) % 100000000 / 10000 / 100*2) aa]
   obtain ⟨w,rfl⟩:∃ w,nd=w+8:=⟨nd-8,aa⟩;have hd8:=YZ n w;rw [show ((w+8:Nat):Int)-8=(w:Nat) by omega,show (n:Int) / 100000000=((n / 100000000:Nat):Int) by omega]
   refine ih w (n / 100000000) m' (u8 (dg (n / 1000000 % 100 / 10))::u8 (dg (n / 1000000 % 100 % 10))::u8 (dg (n / 10000 % 100 / 10))::u8 (dg (n / 10000 % 100 % 10))::u8 (dg (n / 100 % 100 / 10))::u8 (dg (n / 100 % 100 % 10))::u8 (dg (n % 100 / 10))::u8 (dg (n % 100 % 10))::done) aa aa au hl ht ?_ aa ?_
   ·rw [Yx] at hn;exact Yf (by rw [Zy];simpa using hn)
   ·intro n' nd' mid' done' g1 g2 g3 g4 g5;refine hk n' nd' mid' done' g1 g2 g3 g4 ?_;rw [g5,hd8];simp
  ·simp (disch:=try exact ac)[dL];exact hk n nd mid done aa hm hd hn rfl
theorem KJ {x:Nat} (h:x<10):u8 (dg x)=.int .u8 (48+x):=by
 unfold u8 dg;congr 1;simp;omega
theorem YG {α:Type}:∀ (l:List α),l.length=4->∃ c0 c1 c2 c3,l=[c0,c1,c2,c3]
 | [c0,c1,c2,c3],_=>⟨c0,c1,c2,c3,rfl⟩
 | [],h | [_],h | [_,_],h | [_,_,_],h=>by simp at h
 | _::_::_::_::_::_,h=>by simp at h
theorem YH {α:Type}:∀ (l:List α),l.length=2->∃ c0 c1,l=[c0,c1]
 | [c0,c1],_=>⟨c0,c1,rfl⟩
 | [],h | [_],h=>by simp at h
 | _::_::_::_,h=>by simp at h
theorem SY (n nd:Nat) (mid B:List D) (h8:nd<8) (hm:mid.length=nd) (hn:n<10 ^ nd):∃ (n1 nd1:Nat) (mid1 B1:List D),nd1<4∧mid1.length=nd1∧n1<10 ^ nd1∧nd1+B1.length=nd+B.length∧(c8 n1 nd1).map u8++B1=(c8 n nd).map u8++B ∧
  ((4<=nd∧n1=n / 10000∧nd1=nd-4∧(∃ c0 c1 c2 c3,mid=mid1++[c0,c1,c2,c3])∧B1=u8 (dg (n / 100 % 100 / 10))::u8 (dg (n / 100 % 100 % 10))::u8 (dg (n % 100 / 10))::u8 (dg (n % 100 % 10))::B)∨(¬ 4<=nd∧n1=n∧nd1=nd∧mid1=mid∧B1=B)):=by
 by_cases h4:4<=nd
 ·obtain ⟨w,rfl⟩:∃ w,nd=w+4:=⟨nd-4,aa⟩;obtain ⟨c0,c1,c2,c3,e⟩:=YG (mid.drop w) au;refine ⟨n / 10000,w,mid.take w,_,aa,au,?_,?_,?_,.inl ⟨h4,rfl,aa,⟨c0,c1,c2,c3,by rw [<- e,Xs]⟩,rfl⟩⟩
  ·rw [Yx] at hn;exact Yf (by rw [Zy];simpa using hn)
  ·simp;omega
  ·rw [pN n (w+2),pN _ w];simp [Xf]
 ·exact ⟨n,nd,mid,B,aa,hm,hn,rfl,rfl,.inr ⟨h4,rfl,rfl,rfl,rfl⟩⟩
theorem Vr (n nd:Nat) (mid B:List D) (h8:nd<4) (hm:mid.length=nd) (hn:n<10 ^ nd):∃ (n1 nd1:Nat) (mid1 B1:List D),nd1<2∧mid1.length=nd1∧n1<10 ^ nd1∧nd1+B1.length=nd+B.length∧(c8 n1 nd1).map u8++B1=(c8 n nd).map u8++B ∧
  ((2<=nd∧n1=n / 100∧nd1=nd-2∧(∃ c0 c1,mid=mid1++[c0,c1])∧B1=u8 (dg (n % 100 / 10))::u8 (dg (n % 100 % 10))::B)∨(¬ 2<=nd∧n1=n∧nd1=nd∧mid1=mid∧B1=B)):=by
 by_cases h4:2<=nd
 ·obtain ⟨w,rfl⟩:∃ w,nd=w+2:=⟨nd-2,aa⟩;obtain ⟨c0,c1,e⟩:=YH (mid.drop w) au;refine ⟨n / 100,w,mid.take w,_,aa,au,?_,?_,?_,.inl ⟨h4,rfl,aa,⟨c0,c1,by rw [<- e,Xs]⟩,rfl⟩⟩
  ·rw [Yx] at hn;exact Yf (by rw [Zy];simpa using hn)
  ·simp;omega
  ·rw [pN n w];simp
 ·exact ⟨n,nd,mid,B,aa,hm,hn,rfl,rfl,.inr ⟨h4,rfl,rfl,rfl,rfl⟩⟩
def fbH (pre mid B:List D):Hp:=[(1,.data 1 (pre++(mid++B)) true false),(0,.none)]
theorem Uk {off cap tot n d:Nat} {pre mid post:List D} (hpre:pre.length=off) (hm:mid.length=d) (hd:d<=24) (ht:tot=off+d+post.length) (hn:n<10 ^ d) (h64:n<18446744073709551616) :
  CI Y F.bE [.ref 0 1 off d cap tot,.d (.int .u64 n)] [(1,.data 1 (pre++(mid++post)) true false),(0,.none)] (.tup []) [(1,.data 1 (pre++((c8 n d).map u8++post)) true false),(0,.none)]:=by
 refine qt ?_;unfold bE;simp only [EM];simp (disch:=try exact ac)[];refine lo (SX _ rfl _ off d cap tot pre post hpre d d n mid [] aa hm af hd ht hn h64 (fun n' nd mid' done g1 g2 g3 g4 g5=>?_));have hp8:10 ^ nd<=10 ^ 7:=Z2 ae aa;simp only [Nat.reducePow] at hp8
 simp (disch:=try exact ac)[];obtain ⟨n1,d1,mid1,B1,f1,f2,f3,f4,f5,f6⟩:=SY n' nd mid' (done++post) g1 g2 g4;refine fU (l:=[.d (.int .u32 n1),I d1]) (h:=fbH pre mid1 B1) (fun q=>?_) ?_
 ·rcases f6 with ⟨c,rfl,rfl,⟨c0,c1,c2,c3,rfl⟩,rfl⟩ | ⟨c,rfl,rfl,rfl,rfl⟩
  ·have e0:pre++(mid1++[c0,c1,c2,c3]++(done++post))=(pre++mid1)++c0::c1::c2::c3::(done++post):=af;rw [e0];simp only [Zm,List.length_cons,List.length_nil] at g2;have hA:(pre++mid1).length=off+nd-4:=by simp;omega
   have e9:∀ x0 x1 x2 x3:D,(pre++mid1)++x0::x1::x2::x3::(done++post)=pre++(mid1++(x0::x1::x2::x3::(done++post))):=by intros;simp
   generalize pre++mid1=A at *;simp (disch:=try exact ac)[c,Zt,Zs];rw [aa4 _ _ _ _ _ _ _ _ _ aa aa aa,e9]
   rw [rG (x:=n' % 100) (i:=(n':Int) % 100*2+1) aa,rH (x:=n' % 100) (i:=(n':Int) % 100*2) aa,rG (x:=n' / 100 % 100) (i:=(n':Int) % 10000 / 100*2+1) aa,rH (x:=n' / 100 % 100) (i:=(n':Int) % 10000 / 100*2) aa];simp [fbH,I,show ((nd-4:Nat):Int)=(nd:Int)-4 by omega]
  ·simp (disch:=try exact ac)[c,fbH]
 have hp4:10 ^ d1<=10 ^ 3:=Z2 ae aa;simp only [Nat.reducePow] at hp4;simp (disch:=try exact ac)[];obtain ⟨n2,d2,mid2,B2,e1,e2,e3,e4,e5,e6⟩:=Vr n1 d1 mid1 B1 f1 f2 f3;refine fU (l:=[.d (.int .u32 n2),I d2]) (h:=fbH pre mid2 B2) (fun q=>?_) ?_
 ·rcases e6 with ⟨c,rfl,rfl,⟨c0,c1,rfl⟩,rfl⟩ | ⟨c,rfl,rfl,rfl,rfl⟩
  ·have e0:pre++(mid2++[c0,c1]++B1)=(pre++mid2)++c0::c1::B1:=af;rw [fbH,e0];simp only [Zm,List.length_cons,List.length_nil] at f2;have hA:(pre++mid2).length=off+d1-2:=by simp;omega
   have hB:tot=off+d1+B1.length:=by simp at f4;omega
   have e9:∀ x0 x1:D,(pre++mid2)++x0::x1::B1=pre++(mid2++(x0::x1::B1)):=by intros;simp
   generalize pre++mid2=A at *;simp (disch:=try exact ac)[c,Zt,Zs];rw [set2 _ _ _ _ _ aa,e9];rw [rG (x:=n1 % 100) (i:=(n1:Int) % 100*2+1) aa,rH (x:=n1 % 100) (i:=(n1:Int) % 100*2) aa];simp [fbH,I,show ((d1-2:Nat):Int)=(d1:Int)-2 by omega]
  ·simp (disch:=try exact ac)[c,fbH]
 simp (disch:=try exact ac)[]
 have hend:fbH pre ((c8 n2 d2).map u8) B2=[(1,.data 1 (pre++((c8 n d).map u8++post)) true false),(0,.none)]:=by
  simp only [fbH];rw [e5,f5,<- List.append_assoc ((c8 n' nd).map u8),g5];simp
 refine fU (l:=[]) (h:=fbH pre ((c8 n2 d2).map u8) B2) (fun q=>?_) ?_
 ·match d2,e1,mid2,e2 with
  | 0,_,[],_=>simp (disch:=try exact ac)[fbH,c8]
  | 1,_,[c0],_=>
   have hn2:n2<10:=by simpa using e3
   have hB:tot=off+1+B2.length:=by simp at f4;omega
   simp (disch:=try exact ac)[fbH,c8];rw [Yb hn2,KJ hn2]
 rw [hend];simp (disch:=try exact ac)[sV];exact ⟨⟨rfl,rfl⟩,rfl⟩
@[simp] theorem abj (s n:Nat) (cs:List D) (h:Hp) (k:V->Hp->Prop) (u:PU k):rh (alD s n cs h) k u=rn (bnh h[s]?) (fun x=>k (.ptr s (x.1+1) 0 cs.length) (h.set s (x.1+1,.data n cs true false))) .mk:=by unfold rh rn alD;exact zX ..
def ndg (n:Nat):Nat:=if n<10 then 1 else ndg (n / 10)+1
theorem jC (n:Nat):1<=ndg n:=by unfold ndg;split <;> omega
theorem cx:∀ n:Nat,n<10 ^ ndg n:=by
 intro n
 induction n using Nat.strongRecOn with
 | _ n ih=>
  unfold ndg;split
  ·simpa using ‹n<10›
  ·have:=ih (n / 10) aa;rw [Nat.pow_succ];omega
theorem xR:∀ n:Nat,0<n->10 ^ (ndg n-1)<=n:=by
 intro n
 induction n using Nat.strongRecOn with
 | _ n ih=>
  intro h0;unfold ndg;split
  ·simp;omega
  ·have h1:=ih (n / 10) aa aa;have h2:=jC (n / 10);rw [show ndg (n / 10)+1-1=(ndg (n / 10)-1)+1 by omega,Nat.pow_succ];omega
theorem bb {n d:Nat} (h:n<10 ^ d) (hd:1<=d):ndg n<=d:=by
 rcases Zf n with e | e
 ·subst e;unfold ndg;rw [if_pos aa];exact hd
 ·have h1:=xR n e;have:ndg n-1<d:=(Yz (a:=10) ae).1 aa;omega
def ah (n:Nat):List UInt8:=c8 n (ndg n)
def itoa (z:Int):List UInt8:=if z<0 then 45::ah z.natAbs else ah z.natAbs
def QP:List UInt8:=[48,49,50,51,52,53,54,55,56,57,97,98,99,100,101,102,103,104,105,106,107,108,109,110,111,112,113,114,115,116,117,118,119,120,121,122]
theorem YW:([48,49,50,51,52,53,54,55,56,57,97,98,99,100,101,102,103,104,105,106,107,108,109,110,111,112,113,114,115,116,117,118,119,120,121,122]:List UInt8)=QP:=rfl
theorem Oh:∀ x:Fin 10,(QP.drop x.val).take 1=ah x.val:=aJ
theorem Oi:∀ x:Fin 100,10<=x.val->(oG.drop (2*x.val)).take 2=ah x.val:=by
 intro x hx;have h1:=(show ∀ x:Fin 100,(oG.drop (2*x.val)).take 2=c8 x.val 2 by decide +kernel) x;rw [h1,ah];congr 1;unfold ndg;rw [if_neg aa];unfold ndg;rw [if_pos aa]
theorem Jn {s:List UInt8} {k l:IntKind} {i j:Int} (a b:Nat) (hi:i=a) (hj:j=b) (h1:a<=b) (h2:b<=s.length):slS (.d (.str s)) (some (.d (.int k i))) (some (.d (.int l j)))=some (.d (.str ((s.drop a).take (b-a)))):=by
 subst hi hj;simp only [slS,boV];rw [if_pos aa];simp only [];rw [if_pos aa];simp
theorem GV {n:Nat} (h:n<100):CP Y F.gv [I n] (S (ah n)):=by
 refine wQ ?_;unfold gv;simp only [EM,YW];by_cases c:n<10
 ·simp (disch:=try exact ac)[c];rw [Jn n (n+1) aa aa aa (by rw [show QP.length=36 from rfl];omega)];have:=Oh ⟨n,c⟩;simp only [] at this;simp (disch:=try exact ac)[this];exact dP rfl
 ·simp (disch:=try exact ac)[c];rw [Jn (2*n) (2*n+2) aa aa aa (by rw [show oG.length=200 from rfl];omega)];have:=Oi ⟨n,h⟩ (by simpa using c);simp only [] at this;simp (disch:=try exact ac)[this];exact dP rfl
theorem yo:∀ l:List UInt8,bytesD (l.map u8)=some l
 | []=>rfl
 | b::l=>by
  have hb:=b.toNat_lt;simp only [Zz,u8,bytesD];rw [if_pos aa];have:=yo l;rw [this];simp
abbrev cH (cells:List D):Hp:=[(1,.data 1 cells true false),(0,.none)]
theorem On {cells:List D} (hc:cells.length=24) {k l:IntKind} {i j:Int} (a b:Nat) (hi:i=a) (hj:j=b) (h1:a<=b) (h2:b<=24) :
  slP 24 1 (cH cells) (.ptr 0 1 0 24) (some (.d (.int k i))) (some (.d (.int l j)))=some (.ref 0 1 a (b-a) (24-a) 24):=by
 simp only [slP,cH,aP];simp [ug hj h2,ug hi h1,hc]
theorem ER {cells:List D} (hc:cells.length=24) {l:IntKind} {j:Int} (b:Nat) (hj:j=b) (h2:b<=24) :
  slP 24 1 (cH cells) (.ptr 0 1 0 24) none (some (.d (.int l j)))=some (.ref 0 1 0 b 24 24):=by
 simp only [slP,cH,aP];simp [ug hj h2,Ci,hc]
theorem Kn {cells:List D} (hc:cells.length=24) {i len cap:Nat} {bs:List UInt8} (hl:i+len<=24) (he:(cells.drop i).take len=bs.map u8) (hb:bs.length=len):cvT (cH cells) (.ref 0 1 i len cap 24)=some (S bs):=by
 simp only [cvT,cellsOf,cH,aP];simp [hc,hl,he,hb,yo]
theorem Nn {z:Int} (h1 : -9223372036854775808<z) (h2:z<9223372036854775808):CP Y F.cT [I z,I 10] (S (itoa z)):=by
 refine sZ ?_;have hd1:=jC z.natAbs;have hd2:ndg z.natAbs<=19:=bb aa aa;have hn:=cx z.natAbs;by_cases hs:0<=z∧z<100
 ·obtain ⟨hs1,hs2⟩:=hs;obtain ⟨n,rfl⟩:∃ n:Nat,z=n:=⟨z.toNat,aa⟩;simp (disch:=try exact ac)[cT,hs1,hs2];refine cd (GV (n:=n) aa) ?_;rw [show itoa (n:Int)=ah n by unfold itoa;rw [if_neg aa];rfl];exact dP rfl
 ·have hcs:(0<=z∧¬ z<100)∨¬ 0<=z:=aa;have hw:z<0->IntKind.wrap .u64 z=z+18446744073709551616:=fun h=>by rw [Dk];omega
  have hw2:z<0->IntKind.wrap .u64 (-(z+18446744073709551616)) = -z:=fun h=>by rw [Dk];omega
  have hn64:z.natAbs<18446744073709551616:=aa;have hn0:0<z.natAbs:=aa;have hab:(z.natAbs:Int)=if z<0 then -z else z:=by split <;> omega
  have hit:itoa z=if z<0 then 45::c8 z.natAbs (ndg z.natAbs) else c8 z.natAbs (ndg z.natAbs):=rfl
  have hlo:=xR z.natAbs hn0;generalize ndg z.natAbs=d at *;generalize z.natAbs=n at *
  obtain ⟨mid,post,hm,hp,hcell⟩:∃ mid post:List D,mid.length=d∧post.length=23-d∧List.replicate 24 (D.int .u8 0)=[D.int .u8 0]++(mid++post):=by
   refine ⟨List.replicate d (.int .u8 0),List.replicate (23-d) (.int .u8 0),af,af,?_⟩;rw [List.replicate_append_replicate,show d+(23-d)=23 by omega];rfl
  have hmain:cal (CX Y).p (cH ([D.int .u8 0]++(mid++post))) (.fn F.cS [] []) [.d (.int .u64 n)] fun v12 h=>
    bnd (biI .add (.d (.int .i64 1)) v12) fun v13=>
    bnd (slP 24 1 h (.ptr 0 1 0 24) (some (.d (.int .i64 1))) (some v13)) fun v14=>
    cai (CX Y).i h (.fn F.bE [] []) [v14,.d (.int .u64 n)] 1 fun v15 h=>
    bnd (biI .lss (I z) (.d (.int .i64 0))) fun v16=>
    cnd v16 (
     bnd (ixP 24 1 (.ptr 0 1 0 24) (.d (.int .i64 0))) fun v17=>
     stD h 1 v17 (.d (.int .u8 45)) fun _ h=>
     bnd (biI .add (.d (.int .i64 1)) v12) fun v19=>
     bnd (slP 24 1 h (.ptr 0 1 0 24) none (some v19)) fun v20=>
     bnd (cvT h v20) fun v21=>
     out (S (itoa z)) v21 h) (
     bnd (biI .add (.d (.int .i64 1)) v12) fun v22=>
     bnd (slP 24 1 h (.ptr 0 1 0 24) (some (.d (.int .i64 1))) (some v22)) fun v23=>
     bnd (cvT h v23) fun v24=>
     out (S (itoa z)) v24 h):=by
   refine cd (u:=.mk) (wB hlo hn hd1 hn64) ?_;simp (disch:=try exact ac)[];rw [On au 1 (d+1) aa aa aa aa];simp (disch:=try exact ac)[];refine mZ (h':=cH ([D.int .u8 0]++((c8 n d).map u8++post))) (Uk (pre:=[D.int .u8 0]) rfl hm aa aa hn hn64) ?_ af;by_cases g:z<0
   ·rw [if_pos g] at hit;simp (disch:=try exact ac)[g,aV,hp];rw [MG _ _ _ _ _ _ _ _ _ (by simp [aV];omega) af];simp (disch:=try exact ac)[cG];rw [ER (by simp [aV];omega) (d+1) aa aa];simp (disch:=try exact ac)[]
    rw [Kn (bs:=45::c8 n d) (by simp [aV];omega) aa (by simp [u8,aV,List.take_append,Zx]) (by simp [aV])];rw [hit];simp (disch:=try exact ac)[];exact dP rfl
   ·rw [if_neg g] at hit;simp (disch:=try exact ac)[g];rw [On (by simp [aV];omega) 1 (d+1) aa aa aa aa];simp (disch:=try exact ac)[];rw [Kn (bs:=c8 n d) (by simp [aV];omega) aa (by simp [aV,List.take_append,Zx]) (by simp [aV])];rw [hit]
    simp (disch:=try exact ac)[];exact dP rfl
  rcases hcs with ⟨g1,g2⟩ | g1
  ·have g3:¬ z<0:=aa;rw [if_neg g3] at hab;simp (disch:=try exact ac)[cT,g1,g2];refine fU (l:=[.d (.int .u64 n)]) (h:=cH ([D.int .u8 0]++(mid++post))) (fun q=>?_) hmain;rw [<- hcell];simp (disch:=try exact ac)[g3,hab]
  ·have g3:z<0:=aa;rw [if_pos g3] at hab;simp (disch:=try exact ac)[cT,g1];refine fU (l:=[.d (.int .u64 n)]) (h:=cH ([D.int .u8 0]++(mid++post))) (fun q=>?_) hmain;rw [<- hcell];simp (disch:=try exact ac)[g3,hab,hw g3,hw2 g3]
theorem Vb {z:Int} (h1 : -9223372036854775808<z) (h2:z<9223372036854775808):CP Y F.ji [I z] (S (itoa z)):=by
 refine xV ?_;simp (disch:=try exact ac)[ji];refine cd (Nn h1 h2) ?_;exact dP rfl
theorem Ac {z:Int} (h1 : -9223372036854775808<z) (h2:z<9223372036854775808):CP Y F.strconv_Itoa [I z] (S (itoa z)):=by
 refine AM ?_;simp (disch:=try exact ac)[strconv_Itoa];refine cd (Vb h1 h2) ?_;exact dP rfl
def m6 (b:UInt8):Bool:=decide (48<=b.toNat) && decide (b.toNat<=57)
theorem jP {b:UInt8}:m6 b=true↔48<=b.toNat∧b.toNat<=57:=by simp [m6]
def eE (a:Nat) (s:List UInt8):Nat:=s.foldl (fun a b=>a*10+(b.toNat-48)) a
@[simp] theorem D6 (a:Nat):eE a []=a:=by unfold eE;rw [List.foldl_nil]
@[simp] theorem iU (a:Nat) (b:UInt8) (s:List UInt8):eE a (b::s)=eE (a*10+(b.toNat-48)) s:=by unfold eE;rw [List.foldl_cons]
theorem FU (x:Nat):(dg x).toNat=(48+x) % 256:=by simp [dg]
theorem YX {b:UInt8} (h:m6 b=true):dg (b.toNat-48)=b:=by
 rw [jP] at h;apply UInt8.toNat.inj;rw [FU];omega
theorem Ei:∀ (s:List UInt8) (a w:Nat),s.all m6=true->c8 (eE a s) (w+s.length)=c8 a w++s
 | [],a,w,_=>by simp
 | b::s,a,w,h=>by
  simp only [List.all_cons,Z8] at h;have:=Ei s (a*10+(b.toNat-48)) (w+1) h.2;have hb:=jP.1 h.1;rw [iU,List.length_cons,show w+(s.length+1)=w+1+s.length by omega,this];simp only [c8];rw [show (a*10+(b.toNat-48)) / 10=a by omega,show (a*10+(b.toNat-48)) % 10=b.toNat-48 by omega,YX h.1];simp
theorem BK:∀ (s:List UInt8) (a:Nat),a*10 ^ s.length<=eE a s
 | [],a=>by simp
 | b::s,a=>by
  have:=BK s (a*10+(b.toNat-48));rw [iU,List.length_cons,Nat.pow_succ];refine Z1 ?_ this;rw [Zy (10 ^ s.length),<- Nat.mul_assoc];exact Z4 _ aa
theorem qV:∀ (s:List UInt8) (a:Nat),s.all m6=true->eE a s<(a+1)*10 ^ s.length
 | [],a,_=>by simp
 | b::s,a,h=>by
  simp only [List.all_cons,Z8] at h;have:=qV s (a*10+(b.toNat-48)) h.2;have hb:=jP.1 h.1;rw [iU,List.length_cons,Nat.pow_succ];refine Z0 this ?_;rw [Zy (10 ^ s.length),<- Nat.mul_assoc];exact Z4 _ aa
theorem PH {n d:Nat} (h1:10 ^ d<=n) (h2:n<10 ^ (d+1)):ndg n=d+1:=by
 have:=bb h2 aa;have h3:=cx n;have:d<ndg n:=(Yz (a:=10) ae).1 aa;omega
def oc (s:List UInt8):Bool:=!s.isEmpty && s.all m6 && !(decide (1<s.length) && decide (s.headD 0=48))
theorem BE {s:List UInt8} (h:oc s=true):ah (eE 0 s)=s:=by
 simp only [oc,Z8,Y5,W8,decide_eq_false_iff_not] at h;obtain ⟨⟨h0,h1⟩,h2⟩:=h;cases s with
 | nil=>simp at h0
 | cons b s=>
  have hd:=Ei (b::s) 0 0 h1;simp only [List.all_cons,Z8] at h1;have hb:=jP.1 h1.1;simp only [Zh,c8,List.nil_append] at hd
  have hn:ndg (eE 0 (b::s))=(b::s).length:=by
   have lo:=BK s (b.toNat-48);have hi:=qV s (b.toNat-48) h1.2;simp only [iU,Wg,Zh,List.length_cons] at *;by_cases hs:s=[]
   ·subst hs;simp only [D6,List.length_nil,Zh];unfold ndg;rw [if_pos aa]
   ·have hl:0<s.length:=List.length_pos_iff.2 hs
    have hb0:b.toNat≠48:=by
     rcases h2 with h2 | h2
     ·omega
     ·intro e;apply h2;simp only [List.headD_cons];apply UInt8.toNat.inj;rw [e];rfl
    refine PH ?_ ?_
    ·refine Z1 ?_ lo;have:=Z4 (10 ^ s.length) (show 1<=b.toNat-48 by omega);omega
    ·refine Z0 hi ?_;rw [Nat.pow_succ,Zy];exact Z3 _ aa
  unfold ah;rw [hn];exact hd
theorem SL {x:Nat} (h:x<10):m6 (dg x)=true:=by
 rw [jP,FU];omega
theorem VA {x:Nat} (h:x<10):(dg x).toNat=48+x:=by
 rw [FU];omega
theorem ua:∀ (w n:Nat),(c8 n w).all m6=true
 | 0,_=>rfl
 | w+1,n=>by
  simp only [c8,Xi,ua w,List.all_cons,List.all_nil,V3,Wd];exact SL aa
theorem rW:∀ (s t:List UInt8) (a:Nat),eE a (s++t)=eE (eE a s) t
 | [],t,a=>rfl
 | b::s,t,a=>by rw [List.cons_append,iU,iU,rW s t]
theorem uF:∀ (w n:Nat),n<10 ^ w->eE 0 (c8 n w)=n
 | 0,n,h=>by simp at h;subst h;rfl
 | w+1,n,h=>by
  have:=uF w (n / 10) (by rw [Nat.pow_succ] at h;omega);simp only [c8,rW,this,iU,D6];rw [VA aa];omega
theorem pO (n:Nat):oc (ah n)=true:=by
 have hl:(ah n).length=ndg n:=aV ..;have hp:=jC n;have ha:(ah n).all m6=true:=ua ..;have hh:eE 0 (ah n)=n:=uF _ _ (cx n);cases he:ah n with
 | nil=>rw [he] at hl;simp at hl;omega
 | cons b s=>
  rw [he] at hl ha hh;simp only [oc,List.isEmpty_cons,Bool.not_false,Wd,ha,List.headD_cons,Y5,W8,decide_eq_false_iff_not];by_cases h1:1<(b::s).length
  ·right;refine decide_eq_false fun e=>?_
   subst e;simp only [List.all_cons,Z8] at ha;have hi:=qV s 0 ha.2;simp only [iU,List.length_cons] at *;have e48:(48:UInt8).toNat=48:=rfl;rw [e48] at hh;simp only [Nat.sub_self,Wg,Zh,Xz] at *;rw [hh] at hi
   have lo:=xR n (by
    rcases Zf n with e | e
    ·have e1:ndg 0=1:=by unfold ndg;rfl
     rw [e,e1] at hl;omega
    ·exact e)
   rw [<- hl] at lo;simp at lo;omega
  ·left;simpa using h1
theorem dC (n:Nat):eE 0 (ah n)=n:=uF _ _ (cx n)
def rdS (s:List UInt8):Option Int:=if s.headD 0=45 then (if oc s.tail=true∧s.tail≠[48] then some (-(eE 0 s.tail:Int)) else none) else if oc s=true then some (eE 0 s:Int) else none
theorem tX (n:Nat):ah n≠[]:=by
 intro e;have:(ah n).length=ndg n:=aV ..;have:=jC n;rw [e] at *;simp at *;omega
theorem pK (n:Nat):(ah n).headD 0≠45:=by
 have ha:(ah n).all m6=true:=ua ..;cases he:ah n with
 | nil=>exact absurd he (tX n)
 | cons b s=>
  rw [he] at ha;simp only [List.all_cons,Z8,jP] at ha;simp only [List.headD_cons];intro e;subst e;have:(45:UInt8).toNat=45:=rfl;omega
theorem Hq (z:Int):rdS (itoa z)=some z:=by
 unfold rdS itoa;by_cases hz:z<0
 ·rw [if_pos hz,List.headD_cons,if_pos rfl,List.tail_cons,pO,dC,if_pos]
  ·congr 1;omega
  ·refine ⟨rfl,fun e=>?_⟩;have:=dC z.natAbs;rw [e] at this;have e2:eE 0 [48]=0:=rfl;omega
 ·rw [if_neg hz,if_neg (pK _),if_pos (pO _),dC];congr 1;omega
theorem O5 {s:List UInt8} {z:Int} (h:rdS s=some z):s=itoa z:=by
 unfold rdS at h;split at h
 ·rename_i hd;split at h
  ·rename_i hc;simp only [Z9] at h;subst h;cases s with
   | nil=>simp at hd
   | cons b s=>
    simp only [List.headD_cons] at hd;subst hd;simp only [List.tail_cons] at *;have he:=BE hc.1
    have h0:eE 0 s≠0:=by
     intro e;rw [e] at he;apply hc.2;rw [<- he];unfold ah ndg;rfl
    unfold itoa;rw [if_pos aa,X4,Int.natAbs_natCast,he]
  ·cases h
 ·split at h
  ·rename_i hc;simp only [Z9] at h;subst h;unfold itoa;rw [if_neg aa,Int.natAbs_natCast,BE hc]
  ·cases h
theorem xg:∀ (v w n:Nat),c8 n (w+v)=c8 (n / 10 ^ v) w++c8 n v
 | 0,w,n=>by simp [c8]
 | v+1,w,n=>by
  rw [show w+(v+1)=(w+v)+1 by omega];simp only [c8];rw [xg v w (n / 10),Xf,Nat.pow_succ,Zy 10,List.append_assoc]
theorem xf:∀ (w n m:Nat),c8 (n+10 ^ w*m) w=c8 n w
 | 0,_,_=>rfl
 | w+1,n,m=>by
  simp only [c8];have e:n+10 ^ (w+1)*m=n+10*(10 ^ w*m):=by rw [Nat.pow_succ,Zy (10 ^ w) 10,Nat.mul_assoc]
  rw [e,Yl _ _ ae,Xt,xf w]
theorem Ng {t k r:Nat} (ht:0<t) (hr:r<10 ^ k):ah (r+10 ^ k*t)=ah t++c8 r k:=by
 have h1:=xR t ht;have h2:=cx t;have h3:=jC t;obtain ⟨d,hd⟩:∃ d,ndg t=d+1:=⟨ndg t-1,aa⟩
 have hn:ndg (r+10 ^ k*t)=ndg t+k:=by
  rw [hd] at h1 h2 ⊢;simp only [Xq] at h1;rw [show d+1+k=(d+k)+1 by omega];refine PH ?_ ?_
  ·rw [Yx,Zy];have:=Z3 (10 ^ k) h1;omega
  ·rw [show d+k+1=k+(d+1) by omega,Yx];have:=Z3 (10 ^ k) h2;rw [Nat.mul_succ] at this;omega
 have e:=xg k (ndg t) (r+10 ^ k*t);rw [<- hn,Yl _ _ (Wv (by have:=Ya (a:=10) (n:=k) ae;omega)),Ww hr,Zh,xf] at e;exact e
theorem yu:∀ a:Fin 10,biI .and (.d (.int .u64 a.val)) (.d (.int .u64 4294967295))=some (.d (.int .u64 a.val)):=by
 intro a
 match a with
 | 0 | 1 | 2 | 3 | 4 | 5 | 6 | 7 | 8 | 9=>rfl
@[simp] theorem ab5 {n:Nat} (h:n<10):biI .and (.d (.int .u64 (n:Int))) (.d (.int .u64 4294967295))=some (.d (.int .u64 n)):=yu ⟨n,h⟩
@[simp] theorem abS:biI .and (.d (.int .u64 1)) (.d (.int .u64 4294967295))=some (.d (.int .u64 1)):=yu 1
@[simp] theorem abT:biI .and (.d (.int .u64 0)) (.d (.int .u64 4294967295))=some (.d (.int .u64 0)):=yu 0
def ym:Nat->Nat->List Nat
 | _,0=>[]
 | n,w+1=>ym (n / 10) w++[n % 10]
theorem B8:∀ (w n:Nat),(ym n w).length=w
 | 0,_=>rfl
 | w+1,n=>by simp [ym,B8 w]
theorem Ag:∀ (w n:Nat),∀ x∈ym n w,x<10
 | 0,_=>by simp [ym]
 | w+1,n=>by
  intro x hx;simp only [ym,W4,List.mem_singleton] at hx;rcases hx with hx | hx
  ·exact Ag w _ x hx
  ·omega
theorem FX:∀ (w n:Nat),c8 n w=(ym n w).map dg
 | 0,_=>rfl
 | w+1,n=>by simp [c8,ym,FX w]
def SO (a:Nat) (l:List Nat):Nat:=l.foldl (fun a d=>a*10+d) a
theorem BJ:∀ (w n:Nat),n<10 ^ w->SO 0 (ym n w)=n
 | 0,n,h=>by simp at h;subst h;rfl
 | w+1,n,h=>by
  have:=BJ w (n / 10) (by rw [Nat.pow_succ] at h;omega);unfold SO at this;simp only [SO,ym,List.foldl_append,this,List.foldl_cons,List.foldl_nil];omega
def f8 (x:Nat):D:=.int .u8 (48+x)
theorem QT (n w:Nat):(c8 n w).map u8=(ym n w).map f8:=by
 rw [FX,List.map_map];apply List.map_congr_left;intro x hx;exact KJ (Ag w n x hx)
theorem Ge (k:KL) (h0:Hp) (hh:h0.length=0):∀ (r a:List Nat) (s:Nat),(a++r).length<=18->(∀ x∈r,x<10)->s<10 ^ a.length ->
  (k (.exit 0) [I (SO s r)] []) ->
  lp (kt (CX Y) (lst f8 (a++r)) (I (a++r).length)) [] h0 [I s,I a.length] [] k
 | []=>by
  intro a s hN hx hs hk;refine av ?_;simp (disch:=try exact ac)[kt];exact hk
 | x::r=>by
  intro a s hN hx hs hk;simp at hN hx;have hs18:s<10 ^ 17:=Z0 hs (Z2 ae aa);simp only [Nat.reducePow] at hs18;have hx1:=hx.1;refine av ?_;simp (disch:=try exact ac)[kt,f8];have:=Ge k h0 hh r (a++[x]) (s*10+x) au hx.2 (by simp [Nat.pow_succ];omega) hk;simp at this
  rw [show (48+(x:Int)-48)=x by omega];exact this
theorem TL {n w:Nat} (h1:1<=w) (h2:w<=18) (hn:n<10 ^ w):CP Y F.fN [S (c8 n w)] (.tup [I n,.d (.pl .nilIface)]):=by
 refine qS ?_;have hl:=B8 w n;have hlt:=Ag w n;have hh:=BJ w n hn;have he:=QT n w;have hD:=FX w n;generalize c8 n w=L at *;generalize ym n w=l at *;cases l with
 | nil=>simp at hl;omega
 | cons x l=>
  have hx:=hlt x af
  have hi:ixS (S L) (.d (.int .i64 0))=some (.d (.int .u8 (48+x))):=by
   rw [hD];simp [ixS];have e:=KJ hx;unfold u8 at e;injection e
  have hlen:L.length=w:=by rw [hD];simpa using hl
  have hlw:lI (S L)=some (I w):=by rw [FF,hlen]
  simp (disch:=try exact ac)[fN,hlw,hi]
  have hcv:∀ (k:V->Hp->Prop),cvB (S L) [] k=k (lst f8 (x::l)) []:=by
   intro k
   have:V.d (.sl L.length (L.map fun b=>.int .u8 b.toNat))=lst f8 (x::l):=by
    unfold lst;rw [hlen,hl,<- he];rfl
   simp only [cvB,this]
  refine fU (l:=[S L]) (h:=[]) (fun q=>?_) ?_
  ·simp (disch:=try exact ac)[show ¬ (48+(x:Int)=43) by omega]
  show cvB (S L) [] _
  rw [hcv];simp (disch:=try exact ac)[];refine lo (Ge _ _ rfl (x::l) [] 0 (by simp at hl;simp;omega) hlt af ?_);simp (disch:=try exact ac)[hi,hh];refine fU (l:=[I n]) (h:=[]) (fun q=>?_) ?_
  ·simp (disch:=try exact ac)[hh,show ¬ (48+(x:Int)=45) by omega]
  exact ⟨[],by simp [aI,ai,norm]⟩
theorem Fq:biF .neq (.d (.pl .nilIface)) (.d (.pl .nilIface))=some (.d (.bool false)):=rfl
theorem Gd {n w:Nat} (h1:1<=w) (h2:w<=18) (hn:n<10 ^ w):CP Y F.strconv_Atoi [S (c8 n w)] (.tup [I n,.d (.pl .nilIface)]):=by
 refine tE ?_;simp (disch:=try exact ac)[strconv_Atoi];refine cd (TL h1 h2 hn) ?_;simp (disch:=try exact ac)[Fq];exact ⟨[],by simp [aI,ai,norm]⟩
end Go.Vm
