/- Texts of integers: what strconv and strings find. -/
import Derived.Test.YtaiahkcmdnaooaaGreatDoorQT
import Derived.Test.YtaiahkcmdnaooaaGreatDoorQVmSx
set_option linter.unusedVariables false
set_option linter.unusedSimpArgs false
namespace Go.Vm
open Go Go.Am
abbrev S (s:List UInt8):V:=.d (.str s)
@[simp] theorem Ej (s:List UInt8):ko (S s)=some (I s.length):=id rfl
@[simp] theorem WS (s:List UInt8) {j:Int} (h0:0<=j) (h1:j<=s.length):slS (S s) none (some (I j))=some (S (s.take j.toNat)):=by
 simp only [slS,boV];rw [if_pos ⟨h0,aa⟩];simp
@[simp] theorem WR (s:List UInt8) {i:Int} (h0:0<=i) (h1:i<=s.length):slS (S s) (some (I i)) none=some (S (s.drop i.toNat)):=by
 simp only [slS,boV];rw [if_pos ⟨h0,aa⟩];simp only;rw [Zw af]
@[simp] theorem Wa (a b:List UInt8):biS .eql (S a) (S b)=some (.d (.bool (a == b))):=id rfl
@[simp] theorem V9 (a b:List UInt8):biS .neq (S a) (S b)=some (.d (.bool (!(a == b)))):=id rfl
@[simp] theorem Rl (a b:List UInt8) (h:a.length+b.length<=9223372036854775807):biS .add (S a) (S b)=some (S (a++b)):=by simp [biS,Dm,h]
theorem Og (s:List UInt8) {k:IntKind} {i:Int} {x:UInt8} (h0:0<=i) (h:s[i.toNat]? = some x):ixS (S s) (.d (.int k i))=some (.d (.int .u8 x.toNat)):=by
 simp only [ixS];rw [if_pos h0,h]
theorem dh {a b:List UInt8} {h:Hp} (e:b=a):out (S a) (S b) h:=by subst e;exact NB rfl
theorem Pv (b:Bool):CP Y F.ef [B b] (I (if b=true then 1 else 0)):=by
 refine qN ?_;cases b <;> simp (disch:=try exact ac)[ef]
theorem NS {x:Nat} (h:x<=64):CP Y F.d9 [I x] (I ((x*78913 / 262144:Nat):Int)):=by
 refine qM ?_;simp (disch:=try exact ac)[d9]
def bn (n:Nat):Nat:=if n=0 then 0 else n.log2+1
theorem tS {n k:Nat} (h:2 ^ k<=n):bn n=bn (n / 2 ^ k)+k:=by
 have hp:0<2 ^ k:=Yk ae;have h0:n≠0:=aa;have h1:n / 2 ^ k≠0:=by have:=Wm h hp;omega
 simp only [bn,h0,h1,if_false]
 have e:n.log2=(n / 2 ^ k).log2+k:=by
  rw [Nat.log2_eq_iff h0];have h2:=(Nat.log2_eq_iff h1).1 rfl;constructor
  ·rw [Yy];exact Z2 (Z0 _ h2.1) (Nat.div_mul_le_self n _)
  ·have:n / 2 ^ k+1<=2 ^ ((n / 2 ^ k).log2+1):=h2.2
   have h3:n<(n / 2 ^ k+1)*2 ^ k:=by
    have:=Nat.lt_mul_div_succ n hp;rw [Zx];exact this
   have h4:=Z0 (2 ^ k) this;rw [<- Yy] at h4;rw [show (n / 2 ^ k).log2+k+1=(n / 2 ^ k).log2+1+k by omega];omega
 omega
def RY:List UInt8:=[0,1,2,2,3,3,3,3,4,4,4,4,4,4,4,4,5,5,5,5,5,5,5,5,5,5,5,5,5,5,5,5,6,6,6,6,6,6,6,6,6,6,6,6,6,6,6,6,6,6,6,6,6,6,6,6,6,6,6,6,6,6,6,6]++(List.replicate 64 7++List.replicate 128 8)
theorem len8:∀ x:Fin 256,RY[x.val]? = some (UInt8.ofNat (bn x.val)):=aG
theorem Lq {x:Nat} {a:Nat} {n:Nat} (hx:x<256) (hn:bn n=bn x+a) (ha:a<=56) {h:Hp} :
  (bnd (cvI .u8 (.d (.int .u64 x))) fun v10=>bnd (ixS (S RY) v10) fun v11=>
   bnd (cvI .i64 v11) fun v12=>bnd (biI .add (I a) v12) fun v13=>out (I (bn n)) v13 h):=by
 have hb:bn x<=8:=by
  unfold bn;split
  ·omega
  ·rename_i h0;have:=(Nat.log2_lt h0 (k:=8)).2 aa;omega
 have h8:=len8 ⟨x,hx⟩;simp (disch:=try exact ac)[];rw [Og _ aa (x:=UInt8.ofNat (bn x)) (by simpa using h8)];have e:(UInt8.ofNat (bn x)).toNat=bn x:=by simp;omega
 simp (disch:=try exact ac)[e];exact ci aa
set_option maxRecDepth 20000 in
theorem zR {n:Nat} (h:n<18446744073709551616):CP Y F.dD [.d (.int .u64 n)] (I (bn n)):=by
 refine uS ?_
 obtain ⟨x1,a1,hx1,he1,ha1,h1⟩:∃ x1 a1:Nat,x1<4294967296∧bn n=bn x1+a1∧a1<=32∧((4294967296<=n∧x1=n / 4294967296∧a1=32)∨(n<4294967296∧x1=n∧a1=0)):=by
  by_cases hh:4294967296<=n
  ·exact ⟨n / 4294967296,32,aa,tS (k:=32) hh,aa,.inl ⟨hh,rfl,rfl⟩⟩
  ·exact ⟨n,0,aa,rfl,aa,.inr ⟨aa,rfl,rfl⟩⟩
 obtain ⟨x2,a2,hx2,he2,ha2,h2⟩:∃ x2 a2:Nat,x2<65536∧bn n=bn x2+a2∧a2<=48∧((65536<=x1∧x2=x1 / 65536∧a2=a1+16)∨(x1<65536∧x2=x1∧a2=a1)):=by
  by_cases hh:65536<=x1
  ·exact ⟨x1 / 65536,a1+16,aa,by (have:=tS (n:=x1) (k:=16) hh;simp only [Nat.reducePow] at this;omega),aa,.inl ⟨hh,rfl,rfl⟩⟩
  ·exact ⟨x1,a1,aa,he1,aa,.inr ⟨aa,rfl,rfl⟩⟩
 obtain ⟨x3,a3,hx3,he3,ha3,h3⟩:∃ x3 a3:Nat,x3<256∧bn n=bn x3+a3∧a3<=56∧((256<=x2∧x3=x2 / 256∧a3=a2+8)∨(x2<256∧x3=x2∧a3=a2)):=by
  by_cases hh:256<=x2
  ·exact ⟨x2 / 256,a2+8,aa,by (have:=tS (n:=x2) (k:=8) hh;simp only [Nat.reducePow] at this;omega),aa,.inl ⟨hh,rfl,rfl⟩⟩
  ·exact ⟨x2,a2,aa,he2,aa,.inr ⟨aa,rfl,rfl⟩⟩
 simp (disch:=try exact ac)[dD];have key:=Lq (h:=[]) hx3 he3 ha3;refine fk (l:=[.d (.int .u64 x1),I a1]) (h:=[]) (fun q=>?_) ?_
 ·rcases h1 with ⟨g,rfl,rfl⟩ | ⟨g,rfl,rfl⟩ <;> simp (disch:=try exact ac)[g]
 simp (disch:=try exact ac)[];refine fk (l:=[.d (.int .u64 x2),I a2]) (h:=[]) (fun q=>?_) ?_
 ·rcases h2 with ⟨g,rfl,rfl⟩ | ⟨g,rfl,rfl⟩ <;> simp (disch:=try exact ac)[g]
 simp (disch:=try exact ac)[];refine fk (l:=[.d (.int .u64 x3),I a3]) (h:=[]) (fun q=>?_) ?_
 ·rcases h3 with ⟨g,rfl,rfl⟩ | ⟨g,rfl,rfl⟩ <;> simp (disch:=try exact ac)[g]
 exact key
theorem Qh:FZ=(List.range 20).map fun i=>D.int .u64 ((10 ^ i:Nat):Int):=by
 simp only [FZ,List.range,List.range.loop,List.map];rfl
theorem SI {i:Nat} (h:i<20):FZ[i]? = some (.int .u64 ((10 ^ i:Nat):Int)):=by
 rw [Qh,List.getElem?_map,List.getElem?_range h];rfl
theorem Tg:gl kz=.dptr FZ 0:=by unfold gl;rfl
theorem SR:∀ b:Fin 65,1<=b.val->(10 ^ (b.val*78913 / 262144)<=2 ^ b.val∧2 ^ b.val<=10 ^ (b.val*78913 / 262144+1)∧(b.val*78913 / 262144=0∨10 ^ (b.val*78913 / 262144-1)<2 ^ (b.val-1))∧b.val*78913 / 262144<20):=aG
theorem lH {n:Nat} (h:0<n):2 ^ (bn n-1)<=n∧n<2 ^ bn n∧1<=bn n:=by
 have h0:n≠0:=aa;have:=(Nat.log2_eq_iff h0).1 rfl;simp only [bn,h0,if_false];exact ⟨this.1,this.2,aa⟩
theorem uO {n d:Nat} (h1:10 ^ (d-1)<=n) (h2:n<10 ^ d) (hd:1<=d) (h:n<18446744073709551616):CP Y F.cD [.d (.int .u64 n)] (I d):=by
 have h0:0<n:=Z1 (Yk ae) h1;obtain ⟨b1,b2,b3⟩:=lH h0
 have hb:bn n<=64:=by
  unfold bn;split
  ·omega
  ·rename_i hz;have:=(Nat.log2_lt hz (k:=64)).2 (by simpa using h);omega
 obtain ⟨t1,t2,t3,t4⟩:=SR ⟨bn n,aa⟩ b3;simp only at t1 t2 t3 t4;refine qK ?_;simp (disch:=try exact ac)[cD];refine cd (zR h) ?_;simp (disch:=try exact ac)[];refine cd (NS hb) ?_;generalize hk:bn n*78913 / 262144=k at *;have hg:gl kz=.dptr FZ 0:=Tg
 simp (disch:=try exact ac)[hg];rw [U2 _ _ _ (SI t4)];have hpk:10 ^ (k+1)=10*10 ^ k:=by rw [Nat.pow_succ,Zx]
 have hpd:10 ^ d=10*10 ^ (d-1):=by
  obtain ⟨e,rfl⟩:∃ e,d=e+1:=⟨d-1,aa⟩;rw [Nat.pow_succ,Zx];rfl
 have a1:10 ^ k<=n->d=k+1:=fun hc=>by
  have a1:k<d:=(Zc (a:=10) ae).1 aa;have a2:d-1<k+1:=(Zc (a:=10) ae).1 aa;omega
 have a2:¬ 10 ^ k<=n->d=k:=fun hc=>by
  have hk1:1<=k:=by
   rcases Zk k with e | e
   ·subst e;simp at hc;omega
   ·exact e
  have a1:d-1<k:=(Zc (a:=10) ae).1 aa
  have a2:k-1<d:=by
   rcases t3 with e | e
   ·omega
   ·exact (Zc (a:=10) ae).1 aa
  omega
 generalize 10 ^ k=P at *;simp (disch:=try exact ac)[];refine cd (Pv (decide (P<=n))) ?_;by_cases hc:P<=n
 ·have:=a1 hc;simp (disch:=try exact ac)[hc];exact ci aa
 ·have:=a2 hc;simp (disch:=try exact ac)[hc];exact ci aa
def dg (n:Nat):UInt8:=UInt8.ofNat (48+n)
def cL:Nat->Nat->List UInt8
 | _,0=>[]
 | n,w+1=>cL (n / 10) w++[dg (n % 10)]
theorem aV:∀ (w n:Nat),(cL n w).length=w
 | 0,_=>rfl
 | w+1,n=>by simp [cL,aV w]
def u8 (b:UInt8):D:=.int .u8 b.toNat
def nB:List UInt8:=[48,48,48,49,48,50,48,51,48,52,48,53,48,54,48,55,48,56,48,57,49,48,49,49,49,50,49,51,49,52,49,53,49,54,49,55,49,56,49,57,50,48,50,49,50,50,50,51,50,52,50,53,50,54,50,55,50,56,50,57,51,48,51,49,51,50,51,51,51,52,51,53,51,54,51,55,51,56,51,57,52,48,52,49,52,50,52,51,52,52,52,53,52,54,52,55,52,56,52,57,53,48,53,49,53,50,53,51,53,52,53,53,53,54,53,55,53,56,53,57,54,48,54,49,54,50,54,51,54,52,54,53,54,54,54,55,54,56,54,57,55,48,55,49,55,50,55,51,55,52,55,53,55,54,55,55,55,56,55,57,56,48,56,49,56,50,56,51,56,52,56,53,56,54,56,55,56,56,56,57,57,48,57,49,57,50,57,51,57,52,57,53,57,54,57,55,57,56,57,57]
theorem Dn:([48,48,48,49,48,50,48,51,48,52,48,53,48,54,48,55,48,56,48,57,49,48,49,49,49,50,49,51,49,52,49,53,49,54,49,55,49,56,49,57,50,48,50,49,50,50,50,51,50,52,50,53,50,54,50,55,50,56,50,57,51,48,51,49,51,50,51,51,51,52,51,53,51,54,51,55,51,56,51,57,52,48,52,49,52,50,52,51,52,52,52,53,52,54,52,55,52,56,52,57,53,48,53,49,53,50,53,51,53,52,53,53,53,54,53,55,53,56,53,57,54,48,54,49,54,50,54,51,54,52,54,53,54,54,54,55,54,56,54,57,55,48,55,49,55,50,55,51,55,52,55,53,55,54,55,55,55,56,55,57,56,48,56,49,56,50,56,51,56,52,56,53,56,54,56,55,56,56,56,57,57,48,57,49,57,50,57,51,57,52,57,53,57,54,57,55,57,56,57,57]:List UInt8)=nB:=rfl
theorem KT:∀ x:Fin 200,nB[x.val]? = some (dg (if x.val % 2=0 then x.val / 2 / 10 else x.val / 2 % 10)):=aG
def smV (i:Int):D:=u8 (dg (if i % 2=0 then i.toNat / 2 / 10 else i.toNat / 2 % 10))
@[simp] theorem TX (k:IntKind) (i:Int) (K:V->Prop) (u:PU K) (h0:0<=i) (h1:i<200):rn (bnd (ixS (.d (.str nB)) (.d (.int k i)))) K u=K (.d (smV i)):=by
 have h:=Og nB (k:=k) h0 (KT ⟨i.toNat,aa⟩);unfold rn;rw [show V.d (.str nB)=S nB from rfl,h]
 have e:(if i.toNat % 2=0 then i.toNat / 2 / 10 else i.toNat / 2 % 10)=(if i % 2=0 then i.toNat / 2 / 10 else i.toNat / 2 % 10):=by
  by_cases hc:i % 2=0
  ·rw [if_pos hc,if_pos aa]
  ·rw [if_neg hc,if_neg aa]
 simp_all [smV,u8]
theorem Sz {x:Nat}:smV (2*(x:Int))=u8 (dg (x / 10)):=by
 grind [smV]
theorem Sw {x:Nat}:smV (2*(x:Int)+1)=u8 (dg (x % 10)):=by
 grind [smV]
theorem AD (n w:Nat):cL n (w+2)=cL (n / 100) w++[dg (n % 100 / 10),dg (n % 100 % 10)]:=by
 simp only [cL,List.append_assoc,List.singleton_append];rw [X0];have e1:n / 10 % 10=n % 100 / 10:=aa;have e2:n % 10=n % 100 % 10:=aa
 grind
theorem UY {α:Type}:∀ (l:List α),l.length=8->∃ c0 c1 c2 c3 c4 c5 c6 c7,l=[c0,c1,c2,c3,c4,c5,c6,c7]
 | [c0,c1,c2,c3,c4,c5,c6,c7],_=>⟨c0,c1,c2,c3,c4,c5,c6,c7,rfl⟩
 | [],h | [_],h | [_,_],h | [_,_,_],h | [_,_,_,_],h | [_,_,_,_,_],h | [_,_,_,_,_,_],h | [_,_,_,_,_,_,_],h=>by simp at h
 | _::_::_::_::_::_::_::_::_::_,h=>by simp at h
@[simp] theorem UW (s e off len cap tot:Nat):bq (.ref s e off len cap tot)=some (I len):=rfl
theorem WU (B:List D) (c0 c1 c2 c3 c4 c5 c6 c7 x0 x1 x2 x3 x4 x5 x6 x7:D) {i1 i2 i3 i4 i5 i6 i7:Nat}
  (h1:i1=1) (h2:i2=2) (h3:i3=3) (h4:i4=4) (h5:i5=5) (h6:i6=6) (h7:i7=7) :
  ((((((((c0::c1::c2::c3::c4::c5::c6::c7::B).set i7 x7).set i6 x6).set i5 x5).set i4 x4).set i3 x3).set i2 x2).set i1 x1).set 0 x0=x0::x1::x2::x3::x4::x5::x6::x7::B:=by
 simp_all
theorem WV (B:List D) (c0 c1 c2 c3 x0 x1 x2 x3:D) {i1 i2 i3:Nat} (h1:i1=1) (h2:i2=2) (h3:i3=3) :
  ((((c0::c1::c2::c3::B).set i3 x3).set i2 x2).set i1 x1).set 0 x0=x0::x1::x2::x3::B:=by
 grind
theorem set2 (B:List D) (c0 c1 x0 x1:D) {i1:Nat} (h1:i1=1):((c0::c1::B).set i1 x1).set 0 x0=x0::x1::B:=by
 grind
@[simp] theorem UO (i:Int):norm (smV i)=smV i:=rfl
theorem pX {x:Nat} {i:Int} (h:i=2*(x:Int)+1):smV i=u8 (dg (x % 10)):=by rw [h,Sw]
theorem pY {x:Nat} {i:Int} (h:i=2*(x:Int)):smV i=u8 (dg (x / 10)):=by rw [h,Sz]
theorem Vg (n w:Nat):cL n (w+8)=cL (n / 100000000) w++[dg (n / 1000000 % 100 / 10),dg (n / 1000000 % 100 % 10),dg (n / 10000 % 100 / 10),dg (n / 10000 % 100 % 10),dg (n / 100 % 100 / 10),dg (n / 100 % 100 % 10),dg (n % 100 / 10),dg (n % 100 % 10)]:=by
 simp [AD,X0]
theorem QL (h0:Hp) (hh:h0.length=2) (k:KL) (off len cap tot:Nat) (pre post:List D) (hpre:pre.length=off):∀ (r nd n:Nat) (mid done:List D),nd<=r->mid.length=nd->nd+done.length=len->len<=24->tot=off+len+post.length ->
  n<10 ^ nd->n<18446744073709551616 ->
  (∀ (n' nd':Nat) (mid' done':List D),nd'<8->mid'.length=nd'->nd'+done'.length=len->n'<10 ^ nd'->(cL n' nd').map u8++done'=(cL n nd).map u8++done->k (.exit 0) [.d (.int .u64 n'),I nd'] [(1,.data 1 (pre++(mid'++(done'++post))) true false),(0,.none)]) ->
  lp (cZ (CX Y) 2 (.ref 0 1 off len cap tot)) [] h0 [.d (.int .u64 n),I nd] [(1,.data 1 (pre++(mid++(done++post))) true false),(0,.none)] k:=by
 intro r
 induction r with
 | zero => 
  intro nd n mid done hr hm hd hl ht hn h64 hk;refine ax ?_;simp (disch:=try exact ac)[cZ];exact hk n nd mid done aa hm hd hn rfl
 | succ r ih=>
  intro nd n mid done hr hm hd hl ht hn h64 hk;refine ax ?_;by_cases h8:8<=nd
  ·obtain ⟨m',c0,c1,c2,c3,c4,c5,c6,c7,rfl⟩:∃ (m':List D) (c0 c1 c2 c3 c4 c5 c6 c7:D),mid=m'++[c0,c1,c2,c3,c4,c5,c6,c7]:=by
    obtain ⟨c0,c1,c2,c3,c4,c5,c6,c7,e⟩:=UY (mid.drop (nd-8)) (by grind);exact ⟨mid.take (nd-8),c0,c1,c2,c3,c4,c5,c6,c7,by rw [<- e,Ye]⟩
   have e0:pre++(m'++[c0,c1,c2,c3,c4,c5,c6,c7]++(done++post))=(pre++m')++c0::c1::c2::c3::c4::c5::c6::c7::(done++post):=af;rw [e0];simp only [Zg,List.length_cons,List.length_nil] at hm;have hA:(pre++m').length=off+nd-8:=by simp;omega
   have e9:∀ x0 x1 x2 x3 x4 x5 x6 x7:D,(pre++m')++x0::x1::x2::x3::x4::x5::x6::x7::(done++post)=pre++(m'++((x0::x1::x2::x3::x4::x5::x6::x7::done)++post)):=by intros;simp
   generalize pre++m'=A at *;unfold cZ;simp only [Dn];simp (disch:=try exact ac)[Zt,Zy];rw [WU _ _ _ _ _ _ _ _ _ _ _ _ _ _ _ _ _ aa aa aa aa aa aa aa,e9]
   rw [pX (x:=n % 100) (i:=(n:Int) % 100*2+1) aa,pY (x:=n % 100) (i:=(n:Int) % 100*2) aa,pX (x:=n / 100 % 100) (i:=(n:Int) % 10000 / 100*2+1) aa,pY (x:=n / 100 % 100) (i:=(n:Int) % 10000 / 100*2) aa,pX (x:=n / 10000 % 100) (i:=(n:Int) % 100000000 / 10000 % 100*2+1) aa,pY (x:=n / 10000 % 100) (i:=(n:Int) % 100000000 / 10000 % 100*2) aa,pX (x:=n / 1000000 % 100) (i:=(n:Int) % 100000000 / 10000 / 100*2+1) aa,pY (x:=n / 1000000 % 100) (i:=(n:Int) % 100000000 / 10000 / 100*2) aa]
   obtain ⟨w,rfl⟩:∃ w,nd=w+8:=⟨nd-8,aa⟩;have hd8:=Vg n w;rw [show ((w+8:Nat):Int)-8=(w:Nat) by omega,show (n:Int) / 100000000=((n / 100000000:Nat):Int) by omega]
   refine ih w (n / 100000000) m' (u8 (dg (n / 1000000 % 100 / 10))::u8 (dg (n / 1000000 % 100 % 10))::u8 (dg (n / 10000 % 100 / 10))::u8 (dg (n / 10000 % 100 % 10))::u8 (dg (n / 100 % 100 / 10))::u8 (dg (n / 100 % 100 % 10))::u8 (dg (n % 100 / 10))::u8 (dg (n % 100 % 10))::done) aa aa aR hl ht ?_ aa ?_
   ·grind
   ·intro n' nd' mid' done' g1 g2 g3 g4 g5;refine hk n' nd' mid' done' g1 g2 g3 g4 ?_;rw [g5,hd8];simp
  ·simp (disch:=try exact ac)[cZ];exact hk n nd mid done aa hm hd hn rfl
theorem I4 {x:Nat} (h:x<10):u8 (dg x)=.int .u8 (48+x):=by
 unfold u8 dg;congr 1;simp;omega
theorem UZ {α:Type}:∀ (l:List α),l.length=4->∃ c0 c1 c2 c3,l=[c0,c1,c2,c3]
 | [c0,c1,c2,c3],_=>⟨c0,c1,c2,c3,rfl⟩
 | [],h | [_],h | [_,_],h | [_,_,_],h=>by simp at h
 | _::_::_::_::_::_,h=>by grind
theorem U0 {α:Type}:∀ (l:List α),l.length=2->∃ c0 c1,l=[c0,c1]
 | [c0,c1],_=>⟨c0,c1,rfl⟩
 | [],h | [_],h=>by simp at h
 | _::_::_::_,h=>by grind
theorem QM (n nd:Nat) (mid B:List D) (h8:nd<8) (hm:mid.length=nd) (hn:n<10 ^ nd):∃ (n1 nd1:Nat) (mid1 B1:List D),nd1<4∧mid1.length=nd1∧n1<10 ^ nd1∧nd1+B1.length=nd+B.length∧(cL n1 nd1).map u8++B1=(cL n nd).map u8++B ∧
  ((4<=nd∧n1=n / 10000∧nd1=nd-4∧(∃ c0 c1 c2 c3,mid=mid1++[c0,c1,c2,c3])∧B1=u8 (dg (n / 100 % 100 / 10))::u8 (dg (n / 100 % 100 % 10))::u8 (dg (n % 100 / 10))::u8 (dg (n % 100 % 10))::B)∨(¬ 4<=nd∧n1=n∧nd1=nd∧mid1=mid∧B1=B)):=by
 by_cases h4:4<=nd
 ·obtain ⟨w,rfl⟩:∃ w,nd=w+4:=⟨nd-4,aa⟩;obtain ⟨c0,c1,c2,c3,e⟩:=UZ (mid.drop w) (by grind);refine ⟨n / 10000,w,mid.take w,_,aa,by grind,?_,?_,?_,.inl ⟨h4,rfl,aa,⟨c0,c1,c2,c3,by rw [<- e,Ye]⟩,rfl⟩⟩
  ·grind
  ·grind
  simp [AD,X0]
 ·exact ⟨n,nd,mid,B,aa,hm,hn,rfl,rfl,.inr ⟨h4,rfl,rfl,rfl,rfl⟩⟩
theorem Tn (n nd:Nat) (mid B:List D) (h8:nd<4) (hm:mid.length=nd) (hn:n<10 ^ nd):∃ (n1 nd1:Nat) (mid1 B1:List D),nd1<2∧mid1.length=nd1∧n1<10 ^ nd1∧nd1+B1.length=nd+B.length∧(cL n1 nd1).map u8++B1=(cL n nd).map u8++B ∧
  ((2<=nd∧n1=n / 100∧nd1=nd-2∧(∃ c0 c1,mid=mid1++[c0,c1])∧B1=u8 (dg (n % 100 / 10))::u8 (dg (n % 100 % 10))::B)∨(¬ 2<=nd∧n1=n∧nd1=nd∧mid1=mid∧B1=B)):=by
 by_cases h4:2<=nd
 ·obtain ⟨w,rfl⟩:∃ w,nd=w+2:=⟨nd-2,aa⟩;obtain ⟨c0,c1,e⟩:=U0 (mid.drop w) (by grind);refine ⟨n / 100,w,mid.take w,_,aa,by grind,?_,?_,?_,.inl ⟨h4,rfl,aa,⟨c0,c1,by rw [<- e,Ye]⟩,rfl⟩⟩
  ·grind
  ·grind
  simp [AD]
 ·exact ⟨n,nd,mid,B,aa,hm,hn,rfl,rfl,.inr ⟨h4,rfl,rfl,rfl,rfl⟩⟩
def fbH (pre mid B:List D):Hp:=[(1,.data 1 (pre++(mid++B)) true false),(0,.none)]
theorem R6 {off cap tot n d:Nat} {pre mid post:List D} (hpre:pre.length=off) (hm:mid.length=d) (hd:d<=24) (ht:tot=off+d+post.length) (hn:n<10 ^ d) (h64:n<18446744073709551616) :
  CI Y F.bv [.ref 0 1 off d cap tot,.d (.int .u64 n)] [(1,.data 1 (pre++(mid++post)) true false),(0,.none)] (.tup []) [(1,.data 1 (pre++((cL n d).map u8++post)) true false),(0,.none)]:=by
 refine oY ?_;unfold bv;simp only [Dn];simp (disch:=try exact ac)[];refine lo (QL _ rfl _ off d cap tot pre post hpre d d n mid [] aa hm af hd ht hn h64 (fun n' nd mid' done g1 g2 g3 g4 g5=>?_));have hp8:10 ^ nd<=10 ^ 7:=Z4 ae aa;simp only [Nat.reducePow] at hp8
 simp (disch:=try exact ac)[];obtain ⟨n1,d1,mid1,B1,f1,f2,f3,f4,f5,f6⟩:=QM n' nd mid' (done++post) g1 g2 g4;refine fk (l:=[.d (.int .u32 n1),I d1]) (h:=fbH pre mid1 B1) (fun q=>?_) ?_
 ·rcases f6 with ⟨c,rfl,rfl,⟨c0,c1,c2,c3,rfl⟩,rfl⟩ | ⟨c,rfl,rfl,rfl,rfl⟩
  ·have e0:pre++(mid1++[c0,c1,c2,c3]++(done++post))=(pre++mid1)++c0::c1::c2::c3::(done++post):=af;rw [e0];simp only [Zg,List.length_cons,List.length_nil] at g2;have hA:(pre++mid1).length=off+nd-4:=by simp;omega
   have e9:∀ x0 x1 x2 x3:D,(pre++mid1)++x0::x1::x2::x3::(done++post)=pre++(mid1++(x0::x1::x2::x3::(done++post))):=by intros;simp
   generalize pre++mid1=A at *;simp (disch:=try exact ac)[c,Zt,Zy];rw [WV _ _ _ _ _ _ _ _ _ aa aa aa,e9]
   rw [pX (x:=n' % 100) (i:=(n':Int) % 100*2+1) aa,pY (x:=n' % 100) (i:=(n':Int) % 100*2) aa,pX (x:=n' / 100 % 100) (i:=(n':Int) % 10000 / 100*2+1) aa,pY (x:=n' / 100 % 100) (i:=(n':Int) % 10000 / 100*2) aa];simp [fbH,I,show ((nd-4:Nat):Int)=(nd:Int)-4 by omega]
  ·simp (disch:=try exact ac)[c,fbH]
 have hp4:10 ^ d1<=10 ^ 3:=Z4 ae aa;simp only [Nat.reducePow] at hp4;simp (disch:=try exact ac)[];obtain ⟨n2,d2,mid2,B2,e1,e2,e3,e4,e5,e6⟩:=Tn n1 d1 mid1 B1 f1 f2 f3;refine fk (l:=[.d (.int .u32 n2),I d2]) (h:=fbH pre mid2 B2) (fun q=>?_) ?_
 ·rcases e6 with ⟨c,rfl,rfl,⟨c0,c1,rfl⟩,rfl⟩ | ⟨c,rfl,rfl,rfl,rfl⟩
  ·have e0:pre++(mid2++[c0,c1]++B1)=(pre++mid2)++c0::c1::B1:=af;rw [fbH,e0];simp only [Zg,List.length_cons,List.length_nil] at f2;have hA:(pre++mid2).length=off+d1-2:=by simp;omega
   have hB:tot=off+d1+B1.length:=by simp at f4;omega
   have e9:∀ x0 x1:D,(pre++mid2)++x0::x1::B1=pre++(mid2++(x0::x1::B1)):=by intros;simp
   generalize pre++mid2=A at *;simp (disch:=try exact ac)[c,Zt,Zy];rw [set2 _ _ _ _ _ aa,e9];rw [pX (x:=n1 % 100) (i:=(n1:Int) % 100*2+1) aa,pY (x:=n1 % 100) (i:=(n1:Int) % 100*2) aa];simp [fbH,I,show ((d1-2:Nat):Int)=(d1:Int)-2 by omega]
  ·simp (disch:=try exact ac)[c,fbH]
 simp (disch:=try exact ac)[]
 have hend:fbH pre ((cL n2 d2).map u8) B2=[(1,.data 1 (pre++((cL n d).map u8++post)) true false),(0,.none)]:=by
  simp only [fbH];rw [e5,f5,<- List.append_assoc ((cL n' nd).map u8),g5];simp
 refine fk (l:=[]) (h:=fbH pre ((cL n2 d2).map u8) B2) (fun q=>?_) ?_
 ·match d2,e1,mid2,e2 with
  | 0,_,[],_=>simp (disch:=try exact ac)[fbH,cL]
  | 1,_,[c0],_=>
   have hn2:n2<10:=by simpa using e3
   have hB:tot=off+1+B2.length:=by simp at f4;omega
   simp (disch:=try exact ac)[fbH,cL];rw [Yp hn2,I4 hn2]
 rw [hend];simp (disch:=try exact ac)[rL];exact ⟨by trivial,.inl (by trivial)⟩
@[simp] theorem XM (s n:Nat) (cs:List D) (h:Hp) (k:V->Hp->Prop) (u:PU k):rh (alD s n cs h) k u=rn (bnh h[s]?) (fun x=>k (.ptr s (x.1+1) 0 cs.length) (h.set s (x.1+1,.data n cs true false))) .mk:=by unfold rh rn alD;exact yv ..
def ndg (n:Nat):Nat:=if n<10 then 1 else ndg (n / 10)+1
theorem iT (n:Nat):1<=ndg n:=by unfold ndg;split <;> omega
theorem b6:∀ n:Nat,n<10 ^ ndg n:=by
 intro n
 induction n using Nat.strongRecOn with
 | _ n ih=>
  unfold ndg;split
  ·simpa using ‹n<10›
  ·have:=ih (n / 10) aa;rw [Nat.pow_succ];omega
theorem ww:∀ n:Nat,0<n->10 ^ (ndg n-1)<=n:=by
 intro n
 induction n using Nat.strongRecOn with
 | _ n ih=>
  intro h0;unfold ndg;split
  ·simp;omega
  ·have h1:=ih (n / 10) aa aa;have h2:=iT (n / 10);rw [show ndg (n / 10)+1-1=(ndg (n / 10)-1)+1 by omega,Nat.pow_succ];omega
theorem bi {n d:Nat} (h:n<10 ^ d) (hd:1<=d):ndg n<=d:=by
 rcases Zk n with e | e
 ·subst e;unfold ndg;rw [if_pos aa];exact hd
 ·have h1:=ww n e;have:ndg n-1<d:=(Zc (a:=10) ae).1 aa;omega
def ah (n:Nat):List UInt8:=cL n (ndg n)
def itoa (z:Int):List UInt8:=if z<0 then 45::ah z.natAbs else ah z.natAbs
def OU:List UInt8:=[48,49,50,51,52,53,54,55,56,57,97,98,99,100,101,102,103,104,105,106,107,108,109,110,111,112,113,114,115,116,117,118,119,120,121,122]
theorem Ve:([48,49,50,51,52,53,54,55,56,57,97,98,99,100,101,102,103,104,105,106,107,108,109,110,111,112,113,114,115,116,117,118,119,120,121,122]:List UInt8)=OU:=rfl
theorem Mv:∀ x:Fin 10,(OU.drop x.val).take 1=ah x.val:=aG
theorem Mw:∀ x:Fin 100,10<=x.val->(nB.drop (2*x.val)).take 2=ah x.val:=by
 intro x hx;have h1:=(show ∀ x:Fin 100,(nB.drop (2*x.val)).take 2=cL x.val 2 by decide +kernel) x;rw [h1,ah];congr 1;unfold ndg;rw [if_neg aa];unfold ndg;rw [if_pos aa]
theorem HA {s:List UInt8} {k l:IntKind} {i j:Int} (a b:Nat) (hi:i=a) (hj:j=b) (h1:a<=b) (h2:b<=s.length):slS (.d (.str s)) (some (.d (.int k i))) (some (.d (.int l j)))=some (.d (.str ((s.drop a).take (b-a)))):=by
 subst hi hj;simp only [slS,boV];rw [if_pos aa];simp only [];rw [if_pos aa];simp
theorem Fq {n:Nat} (h:n<100):CP Y F.fB [I n] (S (ah n)):=by
 refine u9 ?_;unfold fB;simp only [Dn,Ve];by_cases c:n<10
 ·simp (disch:=try exact ac)[c];rw [HA n (n+1) aa aa aa (by rw [show OU.length=36 from rfl];omega)];have:=Mv ⟨n,c⟩;simp only [] at this;simp (disch:=try exact ac)[this];exact dh rfl
 ·simp (disch:=try exact ac)[c];rw [HA (2*n) (2*n+2) aa aa aa (by rw [show nB.length=200 from rfl];omega)];have:=Mw ⟨n,h⟩ (by simpa using c);simp only [] at this;simp (disch:=try exact ac)[this];exact dh rfl
theorem wS:∀ l:List UInt8,bytesD (l.map u8)=some l
 | []=>rfl
 | b::l=>by
  have hb:=b.toNat_lt;simp only [Zu,u8,bytesD];rw [if_pos aa];have:=wS l;rw [this];simp
abbrev cH (cells:List D):Hp:=[(1,.data 1 cells true false),(0,.none)]
theorem MA {cells:List D} (hc:cells.length=24) {k l:IntKind} {i j:Int} (a b:Nat) (hi:i=a) (hj:j=b) (h1:a<=b) (h2:b<=24) :
  slP 24 1 (cH cells) (.ptr 0 1 0 24) (some (.d (.int k i))) (some (.d (.int l j)))=some (.ref 0 1 a (b-a) (24-a) 24):=by
 simp only [slP,cH,aO];simp [r9 hj h2,r9 hi h1,hc]
theorem Dr {cells:List D} (hc:cells.length=24) {l:IntKind} {j:Int} (b:Nat) (hj:j=b) (h2:b<=24) :
  slP 24 1 (cH cells) (.ptr 0 1 0 24) none (some (.d (.int l j)))=some (.ref 0 1 0 b 24 24):=by
 simp only [slP,cH,aO];simp [r9 hj h2,AP,hc]
theorem IF {cells:List D} (hc:cells.length=24) {i len cap:Nat} {bs:List UInt8} (hl:i+len<=24) (he:(cells.drop i).take len=bs.map u8) (hb:bs.length=len):cvT (cH cells) (.ref 0 1 i len cap 24)=some (S bs):=by
 simp only [cvT,cellsOf,cH,aO];simp [hc,hl,he,hb,wS]
theorem LD {z:Int} (h1 : -9223372036854775808<z) (h2:z<9223372036854775808):CP Y F.cE [I z,I 10] (S (itoa z)):=by
 refine qO ?_;have hd1:=iT z.natAbs;have hd2:ndg z.natAbs<=19:=bi aa aa;have hn:=b6 z.natAbs;by_cases hs:0<=z∧z<100
 ·obtain ⟨hs1,hs2⟩:=hs;obtain ⟨n,rfl⟩:∃ n:Nat,z=n:=⟨z.toNat,aa⟩;simp (disch:=try exact ac)[cE,hs1,hs2];refine cd (Fq (n:=n) aa) ?_;rw [show itoa (n:Int)=ah n by unfold itoa;rw [if_neg aa];rfl];exact dh rfl
 ·have hcs:(0<=z∧¬ z<100)∨¬ 0<=z:=aa;have hw:z<0->IntKind.wrap .u64 z=z+18446744073709551616:=fun h=>by rw [B3];omega
  have hw2:z<0->IntKind.wrap .u64 (-(z+18446744073709551616)) = -z:=fun h=>by rw [B3];omega
  have hn64:z.natAbs<18446744073709551616:=aa;have hn0:0<z.natAbs:=aa;have hab:(z.natAbs:Int)=if z<0 then -z else z:=by split <;> omega
  have hit:itoa z=if z<0 then 45::cL z.natAbs (ndg z.natAbs) else cL z.natAbs (ndg z.natAbs):=rfl
  have hlo:=ww z.natAbs hn0;generalize ndg z.natAbs=d at *;generalize z.natAbs=n at *
  obtain ⟨mid,post,hm,hp,hcell⟩:∃ mid post:List D,mid.length=d∧post.length=23-d∧List.replicate 24 (D.int .u8 0)=[D.int .u8 0]++(mid++post):=by
   refine ⟨List.replicate d (.int .u8 0),List.replicate (23-d) (.int .u8 0),af,af,?_⟩;rw [List.replicate_append_replicate,show d+(23-d)=23 by omega];rfl
  have hmain:cal (CX Y).p (cH ([D.int .u8 0]++(mid++post))) (.fn F.cD [] []) [.d (.int .u64 n)] fun v12 h=>
    bnd (biI .add (.d (.int .i64 1)) v12) fun v13=>
    bnd (slP 24 1 h (.ptr 0 1 0 24) (some (.d (.int .i64 1))) (some v13)) fun v14=>
    cai (CX Y).i h (.fn F.bv [] []) [v14,.d (.int .u64 n)] 1 fun v15 h=>
    bnd (biI .lss (I z) (.d (.int .i64 0))) fun v16=>
    cnd v16 (
     bnd (ixP 24 1 (.ptr 0 1 0 24) (.d (.int .i64 0))) fun v17=>
     stD h 1 v17 (.d (.int .u8 45)) fun _ h=>
     bnd (biI .add (.d (.int .i64 1)) v12) fun v19=>
     bnd (slP 24 1 h (.ptr 0 1 0 24) none (some v19)) fun v20=>
     bnd (cvT h v20) fun v21=>
     out (S (itoa z)) v21 h) (
     bnd (biI .add (.d (.int .i64 1)) v12) fun v22=>
     bnd (slP 24 1 h (.ptr 0 1 0 24) (some (.d (.int .i64 1))) (some v22)) fun v23=>
     bnd (cvT h v23) fun v24=>
     out (S (itoa z)) v24 h):=by
   refine cd (u:=.mk) (uO hlo hn hd1 hn64) ?_;simp (disch:=try exact ac)[];rw [MA aR 1 (d+1) aa aa aa aa];simp (disch:=try exact ac)[];refine lV (h':=cH ([D.int .u8 0]++((cL n d).map u8++post))) (R6 (pre:=[D.int .u8 0]) rfl hm aa aa hn hn64) ?_ af;by_cases g:z<0
   ·rw [if_pos g] at hit;simp (disch:=try exact ac)[g,aV,hp];rw [KS _ _ _ _ _ _ _ _ _ (by simp [aV];omega) af];simp (disch:=try exact ac)[du];rw [Dr (by simp [aV];omega) (d+1) aa aa];simp (disch:=try exact ac)[]
    rw [IF (bs:=45::cL n d) (by simp [aV];omega) aa (by simp [u8,aV,List.take_append,Zw]) (by simp [aV])];rw [hit];simp (disch:=try exact ac)[];exact dh rfl
   ·rw [if_neg g] at hit;simp (disch:=try exact ac)[g];rw [MA (by simp [aV];omega) 1 (d+1) aa aa aa aa];simp (disch:=try exact ac)[];rw [IF (bs:=cL n d) (by simp [aV];omega) aa (by simp [aV,List.take_append,Zw]) (by simp [aV])];rw [hit]
    simp (disch:=try exact ac)[];exact dh rfl
  rcases hcs with ⟨g1,g2⟩ | g1
  ·have g3:¬ z<0:=aa;rw [if_neg g3] at hab;simp (disch:=try exact ac)[cE,g1,g2];refine fk (l:=[.d (.int .u64 n)]) (h:=cH ([D.int .u8 0]++(mid++post))) (fun q=>?_) hmain;rw [<- hcell];simp (disch:=try exact ac)[g3,hab]
  ·have g3:z<0:=aa;rw [if_pos g3] at hab;simp (disch:=try exact ac)[cE,g1];refine fk (l:=[.d (.int .u64 n)]) (h:=cH ([D.int .u8 0]++(mid++post))) (fun q=>?_) hmain;rw [<- hcell];simp (disch:=try exact ac)[g3,hab,hw g3,hw2 g3]
theorem S8 {z:Int} (h1 : -9223372036854775808<z) (h2:z<9223372036854775808):CP Y F.iA [I z] (S (itoa z)):=by
 refine wC ?_;simp (disch:=try exact ac)[iA];refine cd (LD h1 h2) ?_;exact dh rfl
theorem yz {z:Int} (h1 : -9223372036854775808<z) (h2:z<9223372036854775808):CP Y F.strconv_Itoa [I z] (S (itoa z)):=by
 refine y9 ?_;simp (disch:=try exact ac)[strconv_Itoa];refine cd (S8 h1 h2) ?_;exact dh rfl
def mC (b:UInt8):Bool:=decide (48<=b.toNat) && decide (b.toNat<=57)
theorem jh {b:UInt8}:mC b=true↔48<=b.toNat∧b.toNat<=57:=by simp [mC]
def dR (a:Nat) (s:List UInt8):Nat:=s.foldl (fun a b=>a*10+(b.toNat-48)) a
@[simp] theorem CH (a:Nat):dR a []=a:=by unfold dR;rw [List.foldl_nil]
@[simp] theorem ik (a:Nat) (b:UInt8) (s:List UInt8):dR a (b::s)=dR (a*10+(b.toNat-48)) s:=by unfold dR;rw [List.foldl_cons]
theorem Ev (x:Nat):(dg x).toNat=(48+x) % 256:=by simp [dg]
theorem Vf {b:UInt8} (h:mC b=true):dg (b.toNat-48)=b:=by
 rw [jh] at h;apply UInt8.toNat.inj;rw [Ev];omega
theorem CS:∀ (s:List UInt8) (a w:Nat),s.all mC=true->cL (dR a s) (w+s.length)=cL a w++s
 | [],a,w,_=>by simp
 | b::s,a,w,h=>by
  simp only [List.all_cons,Z8] at h;have:=CS s (a*10+(b.toNat-48)) (w+1) h.2;have hb:=jh.1 h.1;rw [ik,List.length_cons,show w+(s.length+1)=w+1+s.length by omega,this];simp only [cL];rw [show (a*10+(b.toNat-48)) / 10=a by omega,show (a*10+(b.toNat-48)) % 10=b.toNat-48 by omega,Vf h.1];simp
theorem Ab:∀ (s:List UInt8) (a:Nat),a*10 ^ s.length<=dR a s
 | [],a=>by simp
 | b::s,a=>by
  have:=Ab s (a*10+(b.toNat-48));rw [ik,List.length_cons,Nat.pow_succ];refine Z2 ?_ this;rw [Zx (10 ^ s.length),<- Nat.mul_assoc];exact Z0 _ aa
theorem pK:∀ (s:List UInt8) (a:Nat),s.all mC=true->dR a s<(a+1)*10 ^ s.length
 | [],a,_=>by simp
 | b::s,a,h=>by
  simp only [List.all_cons,Z8] at h;have:=pK s (a*10+(b.toNat-48)) h.2;have hb:=jh.1 h.1;rw [ik,List.length_cons,Nat.pow_succ];refine Z1 this ?_;rw [Zx (10 ^ s.length),<- Nat.mul_assoc];exact Z0 _ aa
theorem NJ {n d:Nat} (h1:10 ^ d<=n) (h2:n<10 ^ (d+1)):ndg n=d+1:=by
 have:=bi h2 aa;have h3:=b6 n;have:d<ndg n:=(Zc (a:=10) ae).1 aa;omega
def mX (s:List UInt8):Bool:=!s.isEmpty && s.all mC && !(decide (1<s.length) && decide (s.headD 0=48))
theorem zV {s:List UInt8} (h:mX s=true):ah (dR 0 s)=s:=by
 simp only [mX,Z8,Zb,Xx,decide_eq_false_iff_not] at h;obtain ⟨⟨h0,h1⟩,h2⟩:=h;cases s with
 | nil=>simp at h0
 | cons b s=>
  have hd:=CS (b::s) 0 0 h1;simp only [List.all_cons,Z8] at h1;have hb:=jh.1 h1.1;simp only [Zj,cL,List.nil_append] at hd
  have hn:ndg (dR 0 (b::s))=(b::s).length:=by
   have lo:=Ab s (b.toNat-48);have hi:=pK s (b.toNat-48) h1.2;simp only [ik,W5,Zj,List.length_cons] at *;by_cases hs:s=[]
   ·subst hs;simp only [CH,List.length_nil,Zj];unfold ndg;rw [if_pos aa]
   ·have hl:0<s.length:=List.length_pos_iff.2 hs
    have hb0:b.toNat≠48:=by
     rcases h2 with h2 | h2
     ·omega
     ·intro e;apply h2;simp only [List.headD_cons];apply UInt8.toNat.inj;rw [e];rfl
    refine NJ ?_ ?_
    ·refine Z2 ?_ lo;have:=Z0 (10 ^ s.length) (show 1<=b.toNat-48 by omega);omega
    ·refine Z1 hi ?_;rw [Nat.pow_succ,Zx];exact Z3 _ aa
  unfold ah;rw [hn];exact hd
theorem QD {x:Nat} (h:x<10):mC (dg x)=true:=by
 rw [jh,Ev];omega
theorem TA {x:Nat} (h:x<10):(dg x).toNat=48+x:=by
 rw [Ev];omega
theorem rY:∀ (w n:Nat),(cL n w).all mC=true
 | 0,_=>rfl
 | w+1,n=>by
  simp only [cL,Xr,rY w,List.all_cons,List.all_nil,Wn,W0];exact QD aa
theorem qm:∀ (s t:List UInt8) (a:Nat),dR a (s++t)=dR (dR a s) t
 | [],t,a=>rfl
 | b::s,t,a=>by rw [List.cons_append,ik,ik,qm s t]
theorem sS:∀ (w n:Nat),n<10 ^ w->dR 0 (cL n w)=n
 | 0,n,h=>by simp at h;subst h;rfl
 | w+1,n,h=>by
  have:=sS w (n / 10) (by rw [Nat.pow_succ] at h;omega);simp only [cL,qm,this,ik,CH];rw [TA aa];omega
theorem oE (n:Nat):mX (ah n)=true:=by
 have hl:(ah n).length=ndg n:=aV ..;have hp:=iT n;have ha:(ah n).all mC=true:=rY ..;have hh:dR 0 (ah n)=n:=sS _ _ (b6 n);cases he:ah n with
 | nil=>rw [he] at hl;simp at hl;omega
 | cons b s=>
  rw [he] at hl ha hh;simp only [mX,List.isEmpty_cons,Bool.not_false,W0,ha,List.headD_cons,Zb,Xx,decide_eq_false_iff_not];by_cases h1:1<(b::s).length
  ·right;refine decide_eq_false fun e=>?_
   subst e;simp only [List.all_cons,Z8] at ha;have hi:=pK s 0 ha.2;simp only [ik,List.length_cons] at *;have e48:(48:UInt8).toNat=48:=rfl;rw [e48] at hh;simp only [Nat.sub_self,W5,Zj,Xp] at *;rw [hh] at hi
   have lo:=ww n (by
    rcases Zk n with e | e
    ·have e1:ndg 0=1:=by unfold ndg;rfl
     rw [e,e1] at hl;omega
    ·exact e)
   rw [<- hl] at lo;simp at lo;omega
  ·left;simpa using h1
theorem cV (n:Nat):dR 0 (ah n)=n:=sS _ _ (b6 n)
def rdS (s:List UInt8):Option Int:=if s.headD 0=45 then (if mX s.tail=true∧s.tail≠[48] then some (-(dR 0 s.tail:Int)) else none) else if mX s=true then some (dR 0 s:Int) else none
theorem rR (n:Nat):ah n≠[]:=by
 intro e;have:(ah n).length=ndg n:=aV ..;have:=iT n;rw [e] at *;simp at *;omega
theorem oo (n:Nat):(ah n).headD 0≠45:=by
 have ha:(ah n).all mC=true:=rY ..;cases he:ah n with
 | nil=>exact absurd he (rR n)
 | cons b s=>
  rw [he] at ha;simp only [List.all_cons,Z8,jh] at ha;simp only [List.headD_cons];intro e;subst e;have:(45:UInt8).toNat=45:=rfl;omega
theorem FR (z:Int):rdS (itoa z)=some z:=by
 unfold rdS itoa;by_cases hz:z<0
 ·rw [if_pos hz,List.headD_cons,if_pos rfl,List.tail_cons,oE,cV,if_pos]
  ·congr 1;omega
  ·refine ⟨rfl,fun e=>?_⟩;have:=cV z.natAbs;rw [e] at this;have e2:dR 0 [48]=0:=rfl;omega
 ·rw [if_neg hz,if_neg (oo _),if_pos (oE _),cV];congr 1;omega
theorem Nh {s:List UInt8} {z:Int} (h:rdS s=some z):s=itoa z:=by
 unfold rdS at h;split at h
 ·rename_i hd;split at h
  ·rename_i hc;simp only [Z9] at h;subst h;cases s with
   | nil=>simp at hd
   | cons b s=>
    simp only [List.headD_cons] at hd;subst hd;simp only [List.tail_cons] at *;have he:=zV hc.1
    have h0:dR 0 s≠0:=by
     intro e;rw [e] at he;apply hc.2;rw [<- he];unfold ah ndg;rfl
    unfold itoa;rw [if_pos aa,Wr,Int.natAbs_natCast,he]
  ·cases h
 ·split at h
  ·rename_i hc;simp only [Z9] at h;subst h;unfold itoa;rw [if_neg aa,Int.natAbs_natCast,zV hc]
  ·cases h
theorem vC:∀ (v w n:Nat),cL n (w+v)=cL (n / 10 ^ v) w++cL n v
 | 0,w,n=>by simp [cL]
 | v+1,w,n=>by
  rw [show w+(v+1)=(w+v)+1 by omega];simp only [cL];rw [vC v w (n / 10),X0,Nat.pow_succ,Zx 10,List.append_assoc]
theorem vB:∀ (w n m:Nat),cL (n+10 ^ w*m) w=cL n w
 | 0,_,_=>rfl
 | w+1,n,m=>by
  simp only [cL];have e:n+10 ^ (w+1)*m=n+10*(10 ^ w*m):=by rw [Nat.pow_succ,Zx (10 ^ w) 10,Nat.mul_assoc]
  rw [e,Yx _ _ ae,Yf,vB w]
theorem Lt {t k r:Nat} (ht:0<t) (hr:r<10 ^ k):ah (r+10 ^ k*t)=ah t++cL r k:=by
 have h1:=ww t ht;have h2:=b6 t;have h3:=iT t;obtain ⟨d,hd⟩:∃ d,ndg t=d+1:=⟨ndg t-1,aa⟩
 have hn:ndg (r+10 ^ k*t)=ndg t+k:=by
  rw [hd] at h1 h2 ⊢;simp only [Xj] at h1;rw [show d+1+k=(d+k)+1 by omega];refine NJ ?_ ?_
  ·rw [Yy,Zx];have:=Z3 (10 ^ k) h1;omega
  ·rw [show d+k+1=k+(d+1) by omega,Yy];have:=Z3 (10 ^ k) h2;rw [Nat.mul_succ] at this;omega
 have e:=vC k (ndg t) (r+10 ^ k*t);rw [<- hn,Yx _ _ (Nat.pos_of_ne_zero (by have:=Yk (a:=10) (n:=k) ae;omega)),Xm hr,Zj,vB] at e;exact e
theorem wU:∀ a:Fin 10,biI .and (.d (.int .u64 a.val)) (.d (.int .u64 4294967295))=some (.d (.int .u64 a.val)):=by
 intro a
 match a with
 | 0 | 1 | 2 | 3 | 4 | 5 | 6 | 7 | 8 | 9=>rfl
@[simp] theorem ZD {n:Nat} (h:n<10):biI .and (.d (.int .u64 (n:Int))) (.d (.int .u64 4294967295))=some (.d (.int .u64 n)):=wU ⟨n,h⟩
@[simp] theorem YQ:biI .and (.d (.int .u64 1)) (.d (.int .u64 4294967295))=some (.d (.int .u64 1)):=wU 1
@[simp] theorem YR:biI .and (.d (.int .u64 0)) (.d (.int .u64 4294967295))=some (.d (.int .u64 0)):=wU 0
def wQ:Nat->Nat->List Nat
 | _,0=>[]
 | n,w+1=>wQ (n / 10) w++[n % 10]
theorem AC:∀ (w n:Nat),(wQ n w).length=w
 | 0,_=>rfl
 | w+1,n=>by simp [wQ,AC w]
theorem yE:∀ (w n:Nat),∀ x∈wQ n w,x<10
 | 0,_=>by simp [wQ]
 | w+1,n=>by
  intro x hx;simp only [wQ,Xt,List.mem_singleton] at hx;rcases hx with hx | hx
  ·exact yE w _ x hx
  ·omega
theorem Ex:∀ (w n:Nat),cL n w=(wQ n w).map dg
 | 0,_=>rfl
 | w+1,n=>by simp [cL,wQ,Ex w]
def QE (a:Nat) (l:List Nat):Nat:=l.foldl (fun a d=>a*10+d) a
theorem z8:∀ (w n:Nat),n<10 ^ w->QE 0 (wQ n w)=n
 | 0,n,h=>by simp at h;subst h;rfl
 | w+1,n,h=>by
  have:=z8 w (n / 10) (by rw [Nat.pow_succ] at h;omega);unfold QE at this;simp only [QE,wQ,List.foldl_append,this,List.foldl_cons,List.foldl_nil];omega
def f8 (x:Nat):D:=.int .u8 (48+x)
theorem OY (n w:Nat):(cL n w).map u8=(wQ n w).map f8:=by
 rw [Ex,List.map_map];apply List.map_congr_left;intro x hx;exact I4 (yE w n x hx)
theorem EI (k:KL) (h0:Hp) (hh:h0.length=0):∀ (r a:List Nat) (s:Nat),(a++r).length<=18->(∀ x∈r,x<10)->s<10 ^ a.length ->
  (k (.exit 0) [I (QE s r)] []) ->
  lp (jC (CX Y) (lst f8 (a++r)) (I (a++r).length)) [] h0 [I s,I a.length] [] k
 | []=>by
  intro a s hN hx hs hk;refine ax ?_;simp (disch:=try exact ac)[jC];exact hk
 | x::r=>by
  intro a s hN hx hs hk;simp at hN hx;have hs18:s<10 ^ 17:=Z1 hs (Z4 ae aa);simp only [Nat.reducePow] at hs18;have hx1:=hx.1;refine ax ?_;simp (disch:=try exact ac)[jC,f8];have:=EI k h0 hh r (a++[x]) (s*10+x) aR hx.2 (by simp [Nat.pow_succ];omega) hk;simp at this
  rw [show (48+(x:Int)-48)=x by omega];exact this
theorem Rr {n w:Nat} (h1:1<=w) (h2:w<=18) (hn:n<10 ^ w):CP Y F.fc [S (cL n w)] (.tup [I n,.d (.pl .nilIface)]):=by
 refine pI ?_;have hl:=AC w n;have hlt:=yE w n;have hh:=z8 w n hn;have he:=OY n w;have hD:=Ex w n;generalize cL n w=L at *;generalize wQ n w=l at *;cases l with
 | nil=>simp at hl;omega
 | cons x l=>
  have hx:=hlt x af
  have hi:ixS (S L) (.d (.int .i64 0))=some (.d (.int .u8 (48+x))):=by
   rw [hD];simp [ixS];have e:=I4 hx;unfold u8 at e;injection e
  have hlen:L.length=w:=by rw [hD];simpa using hl
  have hlw:ko (S L)=some (I w):=by rw [Ej,hlen]
  simp (disch:=try exact ac)[fc,hlw,hi]
  have hcv:∀ (k:V->Hp->Prop),cvB (S L) [] k=k (lst f8 (x::l)) []:=by
   intro k
   have:V.d (.sl L.length (L.map fun b=>.int .u8 b.toNat))=lst f8 (x::l):=by
    unfold lst;rw [hlen,hl,<- he];rfl
   simp only [cvB,this]
  refine fk (l:=[S L]) (h:=[]) (fun q=>?_) ?_
  ·simp (disch:=try exact ac)[show ¬ (48+(x:Int)=43) by omega]
  show cvB (S L) [] _
  rw [hcv];simp (disch:=try exact ac)[];refine lo (EI _ _ rfl (x::l) [] 0 (by simp at hl;simp;omega) hlt af ?_);simp (disch:=try exact ac)[hi,hh];refine fk (l:=[I n]) (h:=[]) (fun q=>?_) ?_
  ·simp (disch:=try exact ac)[hh,show ¬ (48+(x:Int)=45) by omega]
  exact ⟨[],by simp [bY,aH,norm]⟩
theorem D4:biF .neq (.d (.pl .nilIface)) (.d (.pl .nilIface))=some (.d (.bool false)):=rfl
theorem EH {n w:Nat} (h1:1<=w) (h2:w<=18) (hn:n<10 ^ w):CP Y F.strconv_Atoi [S (cL n w)] (.tup [I n,.d (.pl .nilIface)]):=by
 refine rr ?_;simp (disch:=try exact ac)[strconv_Atoi];refine cd (Rr h1 h2 hn) ?_;simp (disch:=try exact ac)[D4];exact ⟨[],by simp [bY,aH,norm]⟩
end Go.Vm
