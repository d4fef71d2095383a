/- Texts of integers: what strconv and strings find. -/
import Derived.Test.YtaiahkcmdnaooaaGreatDoorQT
import Derived.Test.YtaiahkcmdnaooaaGreatDoorQVmSx
set_option linter.unusedVariables false
set_option linter.unusedSimpArgs false
namespace Go.Vm
open Go Go.Am
abbrev S (s:List UInt8):V:=.d (.str s)
@[simp] theorem Cl (s:List UInt8):j6 (S s)=some (I s.length):=id rfl
@[simp] theorem UB (s:List UInt8) {j:Int} (h0:0<=j) (h1:j<=s.length):slS (S s) none (some (I j))=some (S (s.take j.toNat)):=by
 simp only [slS,boV];rw [if_pos ⟨h0,by omega⟩];simp
@[simp] theorem UA (s:List UInt8) {i:Int} (h0:0<=i) (h1:i<=s.length):slS (S s) (some (I i)) none=some (S (s.drop i.toNat)):=by
 simp only [slS,boV];rw [if_pos ⟨h0,by omega⟩];simp only;rw [Zu (by simp)]
@[simp] theorem Ue (a b:List UInt8):biS .eql (S a) (S b)=some (.d (.bool (a == b))):=id rfl
@[simp] theorem Ud (a b:List UInt8):biS .neq (S a) (S b)=some (.d (.bool (!(a == b)))):=id rfl
@[simp] theorem O8 (a b:List UInt8) (h:a.length+b.length<=9223372036854775807):biS .add (S a) (S b)=some (S (a++b)):=by simp [biS,xM,h]
theorem Ma (s:List UInt8) {k:IntKind} {i:Int} {x:UInt8} (h0:0<=i) (h:s[i.toNat]? = some x):ixS (S s) (.d (.int k i))=some (.d (.int .u8 x.toNat)):=by
 simp only [ixS];rw [if_pos h0,h]
theorem cT {a b:List UInt8} {h:Hp} (e:b=a):out (S a) (S b) h:=by subst e;exact Lr rfl
theorem Nc (b:Bool):CP Y F.dV [B b] (I (if b=true then 1 else 0)):=by
 refine pW ?_;cases b <;> simp (disch:=first|omega|simp<;>omega|fail)[dV]
theorem LL {x:Nat} (h:x<=64):CP Y F.dU [I x] (I ((x*78913 / 262144:Nat):Int)):=by
 refine pV ?_;simp (disch:=first|omega|simp<;>omega|fail)[dU]
def aY (n:Nat):Nat:=if n=0 then 0 else n.log2+1
theorem sY {n k:Nat} (h:2 ^ k<=n):aY n=aY (n / 2 ^ k)+k:=by
 have hp:0<2 ^ k:=Yf (by decide);have h0:n≠0:=by omega
 have h1:n / 2 ^ k≠0:=by have:=Wb h hp;omega
 simp only [aY,h0,h1,if_false]
 have e:n.log2=(n / 2 ^ k).log2+k:=by
  rw [Nat.log2_eq_iff h0];have h2:=(Nat.log2_eq_iff h1).1 rfl;constructor
  ·rw [Yz];exact Z3 (Z1 _ h2.1) (Nat.div_mul_le_self n _)
  ·have:n / 2 ^ k+1<=2 ^ ((n / 2 ^ k).log2+1):=h2.2
   have h3:n<(n / 2 ^ k+1)*2 ^ k:=by
    have:=Nat.lt_mul_div_succ n hp;rw [Zy];exact this
   have h4:=Z1 (2 ^ k) this;rw [<- Yz] at h4;rw [show (n / 2 ^ k).log2+k+1=(n / 2 ^ k).log2+1+k by omega];omega
 omega
def PI:List UInt8:=[0,1,2,2,3,3,3,3,4,4,4,4,4,4,4,4,5,5,5,5,5,5,5,5,5,5,5,5,5,5,5,5,6,6,6,6,6,6,6,6,6,6,6,6,6,6,6,6,6,6,6,6,6,6,6,6,6,6,6,6,6,6,6,6]++(List.replicate 64 7++List.replicate 128 8)
theorem len8:∀ x:Fin 256,PI[x.val]? = some (UInt8.ofNat (aY x.val)):=by decide +kernel
theorem JK {x:Nat} {a:Nat} {n:Nat} (hx:x<256) (hn:aY n=aY x+a) (ha:a<=56) {h:Hp} :
  (bnd (cvI .u8 (.d (.int .u64 x))) fun v10=>bnd (ixS (S PI) v10) fun v11=>
   bnd (cvI .i64 v11) fun v12=>bnd (biI .add (I a) v12) fun v13=>out (I (aY n)) v13 h):=by
 have hb:aY x<=8:=by
  unfold aY;split
  ·omega
  ·rename_i h0;have:=(Nat.log2_lt h0 (k:=8)).2 (by omega);omega
 have h8:=len8 ⟨x,hx⟩;simp (disch:=first|omega|simp<;>omega|fail)[];rw [Ma _ (by omega) (x:=UInt8.ofNat (aY x)) (by simpa using h8)];have e:(UInt8.ofNat (aY x)).toNat=aY x:=by simp;omega
 simp (disch:=first|omega|simp<;>omega|fail)[e];exact bH (by omega)
set_option maxRecDepth 20000 in
theorem yD {n:Nat} (h:n<18446744073709551616):CP Y F.dj [.d (.int .u64 n)] (I (aY n)):=by
 refine tX ?_
 obtain ⟨x1,a1,hx1,he1,ha1,h1⟩:∃ x1 a1:Nat,x1<4294967296∧aY n=aY x1+a1∧a1<=32∧((4294967296<=n∧x1=n / 4294967296∧a1=32)∨(n<4294967296∧x1=n∧a1=0)):=by
  by_cases hh:4294967296<=n
  ·exact ⟨n / 4294967296,32,by omega,sY (k:=32) hh,by omega,.inl ⟨hh,rfl,rfl⟩⟩
  ·exact ⟨n,0,by omega,rfl,by omega,.inr ⟨by omega,rfl,rfl⟩⟩
 obtain ⟨x2,a2,hx2,he2,ha2,h2⟩:∃ x2 a2:Nat,x2<65536∧aY n=aY x2+a2∧a2<=48∧((65536<=x1∧x2=x1 / 65536∧a2=a1+16)∨(x1<65536∧x2=x1∧a2=a1)):=by
  by_cases hh:65536<=x1
  ·exact ⟨x1 / 65536,a1+16,by omega,by (have:=sY (n:=x1) (k:=16) hh;simp only [Nat.reducePow] at this;omega),by omega,.inl ⟨hh,rfl,rfl⟩⟩
  ·exact ⟨x1,a1,by omega,he1,by omega,.inr ⟨by omega,rfl,rfl⟩⟩
 obtain ⟨x3,a3,hx3,he3,ha3,h3⟩:∃ x3 a3:Nat,x3<256∧aY n=aY x3+a3∧a3<=56∧((256<=x2∧x3=x2 / 256∧a3=a2+8)∨(x2<256∧x3=x2∧a3=a2)):=by
  by_cases hh:256<=x2
  ·exact ⟨x2 / 256,a2+8,by omega,by (have:=sY (n:=x2) (k:=8) hh;simp only [Nat.reducePow] at this;omega),by omega,.inl ⟨hh,rfl,rfl⟩⟩
  ·exact ⟨x2,a2,by omega,he2,by omega,.inr ⟨by omega,rfl,rfl⟩⟩
 simp (disch:=first|omega|simp<;>omega|fail)[dj];have key:=JK (h:=[]) hx3 he3 ha3;refine eU (l:=[.d (.int .u64 x1),I a1]) (h:=[]) (fun q=>?_) ?_
 ·rcases h1 with ⟨g,rfl,rfl⟩ | ⟨g,rfl,rfl⟩ <;> simp (disch:=first|omega|simp<;>omega|fail)[g]
 simp (disch:=first|omega|simp<;>omega|fail)[];refine eU (l:=[.d (.int .u64 x2),I a2]) (h:=[]) (fun q=>?_) ?_
 ·rcases h2 with ⟨g,rfl,rfl⟩ | ⟨g,rfl,rfl⟩ <;> simp (disch:=first|omega|simp<;>omega|fail)[g]
 simp (disch:=first|omega|simp<;>omega|fail)[];refine eU (l:=[.d (.int .u64 x3),I a3]) (h:=[]) (fun q=>?_) ?_
 ·rcases h3 with ⟨g,rfl,rfl⟩ | ⟨g,rfl,rfl⟩ <;> simp (disch:=first|omega|simp<;>omega|fail)[g]
 exact key
theorem N0:El=(List.range 20).map fun i=>D.int .u64 ((10 ^ i:Nat):Int):=by
 simp only [El,List.range,List.range.loop,List.map];rfl
theorem Qo {i:Nat} (h:i<20):El[i]? = some (.int .u64 ((10 ^ i:Nat):Int)):=by
 rw [N0,List.getElem?_map,List.getElem?_range h];rfl
theorem QS:gl jQ=.dptr El 0:=by unfold gl;rfl
theorem Qy:∀ b:Fin 65,1<=b.val->(10 ^ (b.val*78913 / 262144)<=2 ^ b.val∧2 ^ b.val<=10 ^ (b.val*78913 / 262144+1)∧(b.val*78913 / 262144=0∨10 ^ (b.val*78913 / 262144-1)<2 ^ (b.val-1))∧b.val*78913 / 262144<20):=by decide +kernel
theorem kR {n:Nat} (h:0<n):2 ^ (aY n-1)<=n∧n<2 ^ aY n∧1<=aY n:=by
 have h0:n≠0:=by omega
 have:=(Nat.log2_eq_iff h0).1 rfl;simp only [aY,h0,if_false];exact ⟨this.1,this.2,by omega⟩
theorem tT {n d:Nat} (h1:10 ^ (d-1)<=n) (h2:n<10 ^ d) (hd:1<=d) (h:n<18446744073709551616):CP Y F.b6 [.d (.int .u64 n)] (I d):=by
 have h0:0<n:=Z2 (Yf (by decide)) h1;obtain ⟨b1,b2,b3⟩:=kR h0
 have hb:aY n<=64:=by
  unfold aY;split
  ·omega
  ·rename_i hz;have:=(Nat.log2_lt hz (k:=64)).2 (by simpa using h);omega
 obtain ⟨t1,t2,t3,t4⟩:=Qy ⟨aY n,by omega⟩ b3;simp only at t1 t2 t3 t4;refine pU ?_;simp (disch:=first|omega|simp<;>omega|fail)[b6];refine cd (yD h) ?_;simp (disch:=first|omega|simp<;>omega|fail)[];refine cd (LL hb) ?_;generalize hk:aY n*78913 / 262144=k at *;have hg:gl jQ=.dptr El 0:=QS
 simp (disch:=first|omega|simp<;>omega|fail)[hg];rw [SS _ _ _ (Qo t4)];have hpk:10 ^ (k+1)=10*10 ^ k:=by rw [Nat.pow_succ,Zy]
 have hpd:10 ^ d=10*10 ^ (d-1):=by
  obtain ⟨e,rfl⟩:∃ e,d=e+1:=⟨d-1,by omega⟩;rw [Nat.pow_succ,Zy];rfl
 have a1:10 ^ k<=n->d=k+1:=fun hc=>by
  have a1:k<d:=(Y5 (a:=10) (by decide)).1 (by omega);have a2:d-1<k+1:=(Y5 (a:=10) (by decide)).1 (by omega);omega
 have a2:¬ 10 ^ k<=n->d=k:=fun hc=>by
  have hk1:1<=k:=by
   rcases Zg k with e | e
   ·subst e;simp at hc;omega
   ·exact e
  have a1:d-1<k:=(Y5 (a:=10) (by decide)).1 (by omega)
  have a2:k-1<d:=by
   rcases t3 with e | e
   ·omega
   ·exact (Y5 (a:=10) (by decide)).1 (by omega)
  omega
 generalize 10 ^ k=P at *;simp (disch:=first|omega|simp<;>omega|fail)[];refine cd (Nc (decide (P<=n))) ?_;by_cases hc:P<=n
 ·have:=a1 hc;simp (disch:=first|omega|simp<;>omega|fail)[hc];exact bH (by omega)
 ·have:=a2 hc;simp (disch:=first|omega|simp<;>omega|fail)[hc];exact bH (by omega)
def dg (n:Nat):UInt8:=UInt8.ofNat (48+n)
def cn:Nat->Nat->List UInt8
 | _,0=>[]
 | n,w+1=>cn (n / 10) w++[dg (n % 10)]
theorem aK:∀ (w n:Nat),(cn n w).length=w
 | 0,_=>rfl
 | w+1,n=>by simp [cn,aK w]
def u8 (b:UInt8):D:=.int .u8 b.toNat
def mC:List UInt8:=[48,48,48,49,48,50,48,51,48,52,48,53,48,54,48,55,48,56,48,57,49,48,49,49,49,50,49,51,49,52,49,53,49,54,49,55,49,56,49,57,50,48,50,49,50,50,50,51,50,52,50,53,50,54,50,55,50,56,50,57,51,48,51,49,51,50,51,51,51,52,51,53,51,54,51,55,51,56,51,57,52,48,52,49,52,50,52,51,52,52,52,53,52,54,52,55,52,56,52,57,53,48,53,49,53,50,53,51,53,52,53,53,53,54,53,55,53,56,53,57,54,48,54,49,54,50,54,51,54,52,54,53,54,54,54,55,54,56,54,57,55,48,55,49,55,50,55,51,55,52,55,53,55,54,55,55,55,56,55,57,56,48,56,49,56,50,56,51,56,52,56,53,56,54,56,55,56,56,56,57,57,48,57,49,57,50,57,51,57,52,57,53,57,54,57,55,57,56,57,57]
theorem BC:([48,48,48,49,48,50,48,51,48,52,48,53,48,54,48,55,48,56,48,57,49,48,49,49,49,50,49,51,49,52,49,53,49,54,49,55,49,56,49,57,50,48,50,49,50,50,50,51,50,52,50,53,50,54,50,55,50,56,50,57,51,48,51,49,51,50,51,51,51,52,51,53,51,54,51,55,51,56,51,57,52,48,52,49,52,50,52,51,52,52,52,53,52,54,52,55,52,56,52,57,53,48,53,49,53,50,53,51,53,52,53,53,53,54,53,55,53,56,53,57,54,48,54,49,54,50,54,51,54,52,54,53,54,54,54,55,54,56,54,57,55,48,55,49,55,50,55,51,55,52,55,53,55,54,55,55,55,56,55,57,56,48,56,49,56,50,56,51,56,52,56,53,56,54,56,55,56,56,56,57,57,48,57,49,57,50,57,51,57,52,57,53,57,54,57,55,57,56,57,57]:List UInt8)=mC:=rfl
theorem Je:∀ x:Fin 200,mC[x.val]? = some (dg (if x.val % 2=0 then x.val / 2 / 10 else x.val / 2 % 10)):=by decide +kernel
def smV (i:Int):D:=u8 (dg (if i % 2=0 then i.toNat / 2 / 10 else i.toNat / 2 % 10))
@[simp] theorem Rz (k:IntKind) (i:Int) (K:V->Prop) (u:PU K) (h0:0<=i) (h1:i<200):rn (bnd (ixS (.d (.str mC)) (.d (.int k i)))) K u=K (.d (smV i)):=by
 have h:=Ma mC (k:=k) h0 (Je ⟨i.toNat,by omega⟩);unfold rn;rw [show V.d (.str mC)=S mC from rfl,h]
 have e:(if i.toNat % 2=0 then i.toNat / 2 / 10 else i.toNat / 2 % 10)=(if i % 2=0 then i.toNat / 2 / 10 else i.toNat / 2 % 10):=by
  by_cases hc:i % 2=0
  ·rw [if_pos hc,if_pos (by omega)]
  ·rw [if_neg hc,if_neg (by omega)]
 simp only [smV,u8,<- e];rfl
theorem Qe {x:Nat}:smV (2*(x:Int))=u8 (dg (x / 10)):=by
 unfold smV;rw [if_pos (by omega)];congr 3;omega
theorem Qd {x:Nat}:smV (2*(x:Int)+1)=u8 (dg (x % 10)):=by
 unfold smV;rw [if_neg (by omega)];congr 3;omega
theorem nr (n w:Nat):cn n (w+2)=cn (n / 100) w++[dg (n % 100 / 10),dg (n % 100 % 10)]:=by
 simp only [cn,List.append_assoc,List.singleton_append];rw [Xo];have e1:n / 10 % 10=n % 100 / 10:=by omega
 have e2:n % 10=n % 100 % 10:=by omega
 rw [e1,e2]
theorem SO {α:Type}:∀ (l:List α),l.length=8->∃ c0 c1 c2 c3 c4 c5 c6 c7,l=[c0,c1,c2,c3,c4,c5,c6,c7]
 | [c0,c1,c2,c3,c4,c5,c6,c7],_=>⟨c0,c1,c2,c3,c4,c5,c6,c7,rfl⟩
 | [],h | [_],h | [_,_],h | [_,_,_],h | [_,_,_,_],h | [_,_,_,_,_],h | [_,_,_,_,_,_],h | [_,_,_,_,_,_,_],h=>by simp at h
 | _::_::_::_::_::_::_::_::_::_,h=>by simp at h
@[simp] theorem SL (s e off len cap tot:Nat):am (.ref s e off len cap tot)=some (I len):=rfl
theorem UD (B:List D) (c0 c1 c2 c3 c4 c5 c6 c7 x0 x1 x2 x3 x4 x5 x6 x7:D) {i1 i2 i3 i4 i5 i6 i7:Nat}
  (h1:i1=1) (h2:i2=2) (h3:i3=3) (h4:i4=4) (h5:i5=5) (h6:i6=6) (h7:i7=7) :
  ((((((((c0::c1::c2::c3::c4::c5::c6::c7::B).set i7 x7).set i6 x6).set i5 x5).set i4 x4).set i3 x3).set i2 x2).set i1 x1).set 0 x0=x0::x1::x2::x3::x4::x5::x6::x7::B:=by
 subst h1 h2 h3 h4 h5 h6 h7;rfl
theorem UE (B:List D) (c0 c1 c2 c3 x0 x1 x2 x3:D) {i1 i2 i3:Nat} (h1:i1=1) (h2:i2=2) (h3:i3=3) :
  ((((c0::c1::c2::c3::B).set i3 x3).set i2 x2).set i1 x1).set 0 x0=x0::x1::x2::x3::B:=by
 subst h1 h2 h3;rfl
theorem set2 (B:List D) (c0 c1 x0 x1:D) {i1:Nat} (h1:i1=1):((c0::c1::B).set i1 x1).set 0 x0=x0::x1::B:=by
 subst h1;rfl
@[simp] theorem SC (i:Int):norm (smV i)=smV i:=rfl
theorem oW {x:Nat} {i:Int} (h:i=2*(x:Int)+1):smV i=u8 (dg (x % 10)):=by rw [h,Qd]
theorem oX {x:Nat} {i:Int} (h:i=2*(x:Int)):smV i=u8 (dg (x / 10)):=by rw [h,Qe]
theorem Ta (n w:Nat):cn n (w+8)=cn (n / 100000000) w++[dg (n / 1000000 % 100 / 10),dg (n / 1000000 % 100 % 10),dg (n / 10000 % 100 / 10),dg (n / 10000 % 100 % 10),dg (n / 100 % 100 / 10),dg (n / 100 % 100 % 10),dg (n % 100 / 10),dg (n % 100 % 10)]:=by
 rw [nr n (w+6),nr _ (w+4),nr _ (w+2),nr _ w];simp only [Xo,List.append_assoc,List.cons_append,List.nil_append,Nat.reduceMul]
theorem OC (h0:Hp) (hh:h0.length=2) (k:KL) (off len cap tot:Nat) (pre post:List D) (hpre:pre.length=off):∀ (r nd n:Nat) (mid done:List D),nd<=r->mid.length=nd->nd+done.length=len->len<=24->tot=off+len+post.length ->
  n<10 ^ nd->n<18446744073709551616 ->
  (∀ (n' nd':Nat) (mid' done':List D),nd'<8->mid'.length=nd'->nd'+done'.length=len->n'<10 ^ nd'->(cn n' nd').map u8++done'=(cn n nd).map u8++done->k (.exit 0) [.d (.int .u64 n'),I nd'] [(1,.data 1 (pre++(mid'++(done'++post))) true false),(0,.none)]) ->
  lp (cM (CX Y) 2 (.ref 0 1 off len cap tot)) [] h0 [.d (.int .u64 n),I nd] [(1,.data 1 (pre++(mid++(done++post))) true false),(0,.none)] k:=by
 intro r
 induction r with
 | zero => 
  intro nd n mid done hr hm hd hl ht hn h64 hk;refine aj ?_;simp (disch:=first|omega|simp<;>omega|fail)[cM];exact hk n nd mid done (by omega) hm hd hn rfl
 | succ r ih=>
  intro nd n mid done hr hm hd hl ht hn h64 hk;refine aj ?_;by_cases h8:8<=nd
  ·obtain ⟨m',c0,c1,c2,c3,c4,c5,c6,c7,rfl⟩:∃ (m':List D) (c0 c1 c2 c3 c4 c5 c6 c7:D),mid=m'++[c0,c1,c2,c3,c4,c5,c6,c7]:=by
    obtain ⟨c0,c1,c2,c3,c4,c5,c6,c7,e⟩:=SO (mid.drop (nd-8)) (by simp;omega);exact ⟨mid.take (nd-8),c0,c1,c2,c3,c4,c5,c6,c7,by rw [<- e,Xz]⟩
   have e0:pre++(m'++[c0,c1,c2,c3,c4,c5,c6,c7]++(done++post))=(pre++m')++c0::c1::c2::c3::c4::c5::c6::c7::(done++post):=by simp
   rw [e0];simp only [Zm,List.length_cons,List.length_nil] at hm;have hA:(pre++m').length=off+nd-8:=by simp;omega
   have e9:∀ x0 x1 x2 x3 x4 x5 x6 x7:D,(pre++m')++x0::x1::x2::x3::x4::x5::x6::x7::(done++post)=pre++(m'++((x0::x1::x2::x3::x4::x5::x6::x7::done)++post)):=by intros;simp
   generalize pre++m'=A at *;unfold cM;simp only [BC];simp (disch:=first|omega|simp<;>omega|fail)[Zx,Zv];rw [UD _ _ _ _ _ _ _ _ _ _ _ _ _ _ _ _ _ (by omega) (by omega) (by omega) (by omega) (by omega) (by omega) (by omega),e9]
   rw [oW (x:=n % 100) (i:=(n:Int) % 100*2+1) (by omega),oX (x:=n % 100) (i:=(n:Int) % 100*2) (by omega),oW (x:=n / 100 % 100) (i:=(n:Int) % 10000 / 100*2+1) (by omega),oX (x:=n / 100 % 100) (i:=(n:Int) % 10000 / 100*2) (by omega),oW (x:=n / 10000 % 100) (i:=(n:Int) % 100000000 / 10000 % 100*2+1) (by omega),oX (x:=n / 10000 % 100) (i:=(n:Int) % 100000000 / 10000 % 100*2) (by omega),oW (x:=n / 1000000 % 100) (i:=(n:Int) % 100000000 / 10000 / 100*2+1) (by omega),oX (x:=n / 1000000 % 100) (i:=(n:Int) % 100000000 / 10000 / 100*2) (by omega)]
   obtain ⟨w,rfl⟩:∃ w,nd=w+8:=⟨nd-8,by omega⟩;have hd8:=Ta n w;rw [show ((w+8:Nat):Int)-8=(w:Nat) by omega,show (n:Int) / 100000000=((n / 100000000:Nat):Int) by omega]
   refine ih w (n / 100000000) m' (u8 (dg (n / 1000000 % 100 / 10))::u8 (dg (n / 1000000 % 100 % 10))::u8 (dg (n / 10000 % 100 / 10))::u8 (dg (n / 10000 % 100 % 10))::u8 (dg (n / 100 % 100 / 10))::u8 (dg (n / 100 % 100 % 10))::u8 (dg (n % 100 / 10))::u8 (dg (n % 100 % 10))::done) (by omega) (by omega) (by simp;omega) hl ht ?_ (by omega) ?_
   ·rw [Yz] at hn;exact Yk (by rw [Zy];simpa using hn)
   ·intro n' nd' mid' done' g1 g2 g3 g4 g5;refine hk n' nd' mid' done' g1 g2 g3 g4 ?_;rw [g5,hd8];simp
  ·simp (disch:=first|omega|simp<;>omega|fail)[cM];exact hk n nd mid done (by omega) hm hd hn rfl
theorem Hn {x:Nat} (h:x<10):u8 (dg x)=.int .u8 (48+x):=by
 unfold u8 dg;congr 1;simp;omega
theorem SP {α:Type}:∀ (l:List α),l.length=4->∃ c0 c1 c2 c3,l=[c0,c1,c2,c3]
 | [c0,c1,c2,c3],_=>⟨c0,c1,c2,c3,rfl⟩
 | [],h | [_],h | [_,_],h | [_,_,_],h=>by simp at h
 | _::_::_::_::_::_,h=>by simp at h
theorem SQ {α:Type}:∀ (l:List α),l.length=2->∃ c0 c1,l=[c0,c1]
 | [c0,c1],_=>⟨c0,c1,rfl⟩
 | [],h | [_],h=>by simp at h
 | _::_::_::_,h=>by simp at h
theorem OD (n nd:Nat) (mid B:List D) (h8:nd<8) (hm:mid.length=nd) (hn:n<10 ^ nd):∃ (n1 nd1:Nat) (mid1 B1:List D),nd1<4∧mid1.length=nd1∧n1<10 ^ nd1∧nd1+B1.length=nd+B.length∧(cn n1 nd1).map u8++B1=(cn n nd).map u8++B ∧
  ((4<=nd∧n1=n / 10000∧nd1=nd-4∧(∃ c0 c1 c2 c3,mid=mid1++[c0,c1,c2,c3])∧B1=u8 (dg (n / 100 % 100 / 10))::u8 (dg (n / 100 % 100 % 10))::u8 (dg (n % 100 / 10))::u8 (dg (n % 100 % 10))::B)∨(¬ 4<=nd∧n1=n∧nd1=nd∧mid1=mid∧B1=B)):=by
 by_cases h4:4<=nd
 ·obtain ⟨w,rfl⟩:∃ w,nd=w+4:=⟨nd-4,by omega⟩;obtain ⟨c0,c1,c2,c3,e⟩:=SP (mid.drop w) (by simp;omega);refine ⟨n / 10000,w,mid.take w,_,by omega,by simp;omega,?_,?_,?_,.inl ⟨h4,rfl,by omega,⟨c0,c1,c2,c3,by rw [<- e,Xz]⟩,rfl⟩⟩
  ·rw [Yz] at hn;exact Yk (by rw [Zy];simpa using hn)
  ·simp;omega
  ·rw [nr n (w+2),nr _ w];simp [Xo]
 ·exact ⟨n,nd,mid,B,by omega,hm,hn,rfl,rfl,.inr ⟨h4,rfl,rfl,rfl,rfl⟩⟩
theorem QZ (n nd:Nat) (mid B:List D) (h8:nd<4) (hm:mid.length=nd) (hn:n<10 ^ nd):∃ (n1 nd1:Nat) (mid1 B1:List D),nd1<2∧mid1.length=nd1∧n1<10 ^ nd1∧nd1+B1.length=nd+B.length∧(cn n1 nd1).map u8++B1=(cn n nd).map u8++B ∧
  ((2<=nd∧n1=n / 100∧nd1=nd-2∧(∃ c0 c1,mid=mid1++[c0,c1])∧B1=u8 (dg (n % 100 / 10))::u8 (dg (n % 100 % 10))::B)∨(¬ 2<=nd∧n1=n∧nd1=nd∧mid1=mid∧B1=B)):=by
 by_cases h4:2<=nd
 ·obtain ⟨w,rfl⟩:∃ w,nd=w+2:=⟨nd-2,by omega⟩;obtain ⟨c0,c1,e⟩:=SQ (mid.drop w) (by simp;omega);refine ⟨n / 100,w,mid.take w,_,by omega,by simp;omega,?_,?_,?_,.inl ⟨h4,rfl,by omega,⟨c0,c1,by rw [<- e,Xz]⟩,rfl⟩⟩
  ·rw [Yz] at hn;exact Yk (by rw [Zy];simpa using hn)
  ·simp;omega
  ·rw [nr n w];simp
 ·exact ⟨n,nd,mid,B,by omega,hm,hn,rfl,rfl,.inr ⟨h4,rfl,rfl,rfl,rfl⟩⟩
def fbH (pre mid B:List D):Hp:=[(1,.data 1 (pre++(mid++B)) true false),(0,.none)]
theorem PP {off cap tot n d:Nat} {pre mid post:List D} (hpre:pre.length=off) (hm:mid.length=d) (hd:d<=24) (ht:tot=off+d+post.length) (hn:n<10 ^ d) (h64:n<18446744073709551616) :
  CI Y F.bc [.ref 0 1 off d cap tot,.d (.int .u64 n)] [(1,.data 1 (pre++(mid++post)) true false),(0,.none)] (.tup []) [(1,.data 1 (pre++((cn n d).map u8++post)) true false),(0,.none)]:=by
 refine nU ?_;unfold bc;simp only [BC];simp (disch:=first|omega|simp<;>omega|fail)[];refine lo (OC _ rfl _ off d cap tot pre post hpre d d n mid [] (by omega) hm (by simp) hd ht hn h64 (fun n' nd mid' done g1 g2 g3 g4 g5=>?_));have hp8:10 ^ nd<=10 ^ 7:=Z5 (by decide) (by omega);simp only [Nat.reducePow] at hp8
 simp (disch:=first|omega|simp<;>omega|fail)[];obtain ⟨n1,d1,mid1,B1,f1,f2,f3,f4,f5,f6⟩:=OD n' nd mid' (done++post) g1 g2 g4;refine eU (l:=[.d (.int .u32 n1),I d1]) (h:=fbH pre mid1 B1) (fun q=>?_) ?_
 ·rcases f6 with ⟨c,rfl,rfl,⟨c0,c1,c2,c3,rfl⟩,rfl⟩ | ⟨c,rfl,rfl,rfl,rfl⟩
  ·have e0:pre++(mid1++[c0,c1,c2,c3]++(done++post))=(pre++mid1)++c0::c1::c2::c3::(done++post):=by simp
   rw [e0];simp only [Zm,List.length_cons,List.length_nil] at g2;have hA:(pre++mid1).length=off+nd-4:=by simp;omega
   have e9:∀ x0 x1 x2 x3:D,(pre++mid1)++x0::x1::x2::x3::(done++post)=pre++(mid1++(x0::x1::x2::x3::(done++post))):=by intros;simp
   generalize pre++mid1=A at *;simp (disch:=first|omega|simp<;>omega|fail)[c,Zx,Zv];rw [UE _ _ _ _ _ _ _ _ _ (by omega) (by omega) (by omega),e9]
   rw [oW (x:=n' % 100) (i:=(n':Int) % 100*2+1) (by omega),oX (x:=n' % 100) (i:=(n':Int) % 100*2) (by omega),oW (x:=n' / 100 % 100) (i:=(n':Int) % 10000 / 100*2+1) (by omega),oX (x:=n' / 100 % 100) (i:=(n':Int) % 10000 / 100*2) (by omega)];simp [fbH,I,show ((nd-4:Nat):Int)=(nd:Int)-4 by omega]
  ·simp (disch:=first|omega|simp<;>omega|fail)[c,fbH]
 have hp4:10 ^ d1<=10 ^ 3:=Z5 (by decide) (by omega);simp only [Nat.reducePow] at hp4;simp (disch:=first|omega|simp<;>omega|fail)[];obtain ⟨n2,d2,mid2,B2,e1,e2,e3,e4,e5,e6⟩:=QZ n1 d1 mid1 B1 f1 f2 f3;refine eU (l:=[.d (.int .u32 n2),I d2]) (h:=fbH pre mid2 B2) (fun q=>?_) ?_
 ·rcases e6 with ⟨c,rfl,rfl,⟨c0,c1,rfl⟩,rfl⟩ | ⟨c,rfl,rfl,rfl,rfl⟩
  ·have e0:pre++(mid2++[c0,c1]++B1)=(pre++mid2)++c0::c1::B1:=by simp
   rw [fbH,e0];simp only [Zm,List.length_cons,List.length_nil] at f2;have hA:(pre++mid2).length=off+d1-2:=by simp;omega
   have hB:tot=off+d1+B1.length:=by simp at f4;omega
   have e9:∀ x0 x1:D,(pre++mid2)++x0::x1::B1=pre++(mid2++(x0::x1::B1)):=by intros;simp
   generalize pre++mid2=A at *;simp (disch:=first|omega|simp<;>omega|fail)[c,Zx,Zv];rw [set2 _ _ _ _ _ (by omega),e9];rw [oW (x:=n1 % 100) (i:=(n1:Int) % 100*2+1) (by omega),oX (x:=n1 % 100) (i:=(n1:Int) % 100*2) (by omega)];simp [fbH,I,show ((d1-2:Nat):Int)=(d1:Int)-2 by omega]
  ·simp (disch:=first|omega|simp<;>omega|fail)[c,fbH]
 simp (disch:=first|omega|simp<;>omega|fail)[]
 have hend:fbH pre ((cn n2 d2).map u8) B2=[(1,.data 1 (pre++((cn n d).map u8++post)) true false),(0,.none)]:=by
  simp only [fbH];rw [e5,f5,<- List.append_assoc ((cn n' nd).map u8),g5];simp
 refine eU (l:=[]) (h:=fbH pre ((cn n2 d2).map u8) B2) (fun q=>?_) ?_
 ·match d2,e1,mid2,e2 with
  | 0,_,[],_=>simp (disch:=first|omega|simp<;>omega|fail)[fbH,cn]
  | 1,_,[c0],_=>
   have hn2:n2<10:=by simpa using e3
   have hB:tot=off+1+B2.length:=by simp at f4;omega
   simp (disch:=first|omega|simp<;>omega|fail)[fbH,cn];rw [Yh hn2,Hn hn2]
 rw [hend];simp (disch:=first|omega|simp<;>omega|fail)[qH];exact ⟨⟨rfl,rfl⟩,rfl⟩
@[simp] theorem UU (s n:Nat) (cs:List D) (h:Hp) (k:V->Hp->Prop) (u:PU k):rh (alD s n cs h) k u=rn (bnh h[s]?) (fun x=>k (.ptr s (x.1+1) 0 cs.length) (h.set s (x.1+1,.data n cs true false))) .mk:=by unfold rh rn alD;exact xe ..
def ndg (n:Nat):Nat:=if n<10 then 1 else ndg (n / 10)+1
theorem iE (n:Nat):1<=ndg n:=by unfold ndg;split <;> omega
theorem bP:∀ n:Nat,n<10 ^ ndg n:=by
 intro n
 induction n using Nat.strongRecOn with
 | _ n ih=>
  unfold ndg;split
  ·simpa using ‹n<10›
  ·have:=ih (n / 10) (by omega);rw [Nat.pow_succ];omega
theorem vk:∀ n:Nat,0<n->10 ^ (ndg n-1)<=n:=by
 intro n
 induction n using Nat.strongRecOn with
 | _ n ih=>
  intro h0;unfold ndg;split
  ·simp;omega
  ·have h1:=ih (n / 10) (by omega) (by omega);have h2:=iE (n / 10);rw [show ndg (n / 10)+1-1=(ndg (n / 10)-1)+1 by omega,Nat.pow_succ];omega
theorem a6 {n d:Nat} (h:n<10 ^ d) (hd:1<=d):ndg n<=d:=by
 rcases Zg n with e | e
 ·subst e;unfold ndg;rw [if_pos (by omega)];exact hd
 ·have h1:=vk n e;have:ndg n-1<d:=(Y5 (a:=10) (by decide)).1 (by omega);omega
def aa (n:Nat):List UInt8:=cn n (ndg n)
def itoa (z:Int):List UInt8:=if z<0 then 45::aa z.natAbs else aa z.natAbs
def MH:List UInt8:=[48,49,50,51,52,53,54,55,56,57,97,98,99,100,101,102,103,104,105,106,107,108,109,110,111,112,113,114,115,116,117,118,119,120,121,122]
theorem S8:([48,49,50,51,52,53,54,55,56,57,97,98,99,100,101,102,103,104,105,106,107,108,109,110,111,112,113,114,115,116,117,118,119,120,121,122]:List UInt8)=MH:=rfl
theorem KH:∀ x:Fin 10,(MH.drop x.val).take 1=aa x.val:=by decide +kernel
theorem KI:∀ x:Fin 100,10<=x.val->(mC.drop (2*x.val)).take 2=aa x.val:=by
 intro x hx;have h1:=(show ∀ x:Fin 100,(mC.drop (2*x.val)).take 2=cn x.val 2 by decide +kernel) x;rw [h1,aa];congr 1;unfold ndg;rw [if_neg (by omega)];unfold ndg;rw [if_pos (by omega)]
theorem F6 {s:List UInt8} {k l:IntKind} {i j:Int} (a b:Nat) (hi:i=a) (hj:j=b) (h1:a<=b) (h2:b<=s.length):slS (.d (.str s)) (some (.d (.int k i))) (some (.d (.int l j)))=some (.d (.str ((s.drop a).take (b-a)))):=by
 subst hi hj;simp only [slS,boV];rw [if_pos (by omega)];simp only [];rw [if_pos (by omega)];simp
theorem Dy {n:Nat} (h:n<100):CP Y F.fk [I n] (S (aa n)):=by
 refine ue ?_;unfold fk;simp only [BC,S8];by_cases c:n<10
 ·simp (disch:=first|omega|simp<;>omega|fail)[c];rw [F6 n (n+1) (by omega) (by omega) (by omega) (by rw [show MH.length=36 from rfl];omega)];have:=KH ⟨n,c⟩;simp only [] at this;simp (disch:=first|omega|simp<;>omega|fail)[this];exact cT rfl
 ·simp (disch:=first|omega|simp<;>omega|fail)[c];rw [F6 (2*n) (2*n+2) (by omega) (by omega) (by omega) (by rw [show mC.length=200 from rfl];omega)];have:=KI ⟨n,h⟩ (by simpa using c);simp only [] at this;simp (disch:=first|omega|simp<;>omega|fail)[this];exact cT rfl
theorem vI:∀ l:List UInt8,bytesD (l.map u8)=some l
 | []=>rfl
 | b::l=>by
  have hb:=b.toNat_lt;simp only [Zw,u8,bytesD];rw [if_pos (by omega)];have:=vI l;rw [this];simp
abbrev cH (cells:List D):Hp:=[(1,.data 1 cells true false),(0,.none)]
theorem KO {cells:List D} (hc:cells.length=24) {k l:IntKind} {i j:Int} (a b:Nat) (hi:i=a) (hj:j=b) (h1:a<=b) (h2:b<=24) :
  slP 24 1 (cH cells) (.ptr 0 1 0 24) (some (.d (.int k i))) (some (.d (.int l j)))=some (.ref 0 1 a (b-a) (24-a) 24):=by
 simp only [slP,cH,hget];simp [qZ hj h2,qZ hi h1,hc]
theorem BH {cells:List D} (hc:cells.length=24) {l:IntKind} {j:Int} (b:Nat) (hj:j=b) (h2:b<=24) :
  slP 24 1 (cH cells) (.ptr 0 1 0 24) none (some (.d (.int l j)))=some (.ref 0 1 0 b 24 24):=by
 simp only [slP,cH,hget];simp [qZ hj h2,zo,hc]
theorem G0 {cells:List D} (hc:cells.length=24) {i len cap:Nat} {bs:List UInt8} (hl:i+len<=24) (he:(cells.drop i).take len=bs.map u8) (hb:bs.length=len):cvT (cH cells) (.ref 0 1 i len cap 24)=some (S bs):=by
 simp only [cvT,cellsOf,cH,hget];simp [hc,hl,he,hb,vI]
theorem JV {z:Int} (h1 : -9223372036854775808<z) (h2:z<9223372036854775808):CP Y F.b9 [I z,I 10] (S (itoa z)):=by
 refine pX ?_;have hd1:=iE z.natAbs;have hd2:ndg z.natAbs<=19:=a6 (by omega) (by omega);have hn:=bP z.natAbs;by_cases hs:0<=z∧z<100
 ·obtain ⟨hs1,hs2⟩:=hs;obtain ⟨n,rfl⟩:∃ n:Nat,z=n:=⟨z.toNat,by omega⟩;simp (disch:=first|omega|simp<;>omega|fail)[b9,hs1,hs2];refine cd (Dy (n:=n) (by omega)) ?_;rw [show itoa (n:Int)=aa n by unfold itoa;rw [if_neg (by omega)];rfl];exact cT rfl
 ·have hcs:(0<=z∧¬ z<100)∨¬ 0<=z:=by omega
  have hw:z<0->IntKind.wrap .u64 z=z+18446744073709551616:=fun h=>by rw [Aq];omega
  have hw2:z<0->IntKind.wrap .u64 (-(z+18446744073709551616)) = -z:=fun h=>by rw [Aq];omega
  have hn64:z.natAbs<18446744073709551616:=by omega
  have hn0:0<z.natAbs:=by omega
  have hab:(z.natAbs:Int)=if z<0 then -z else z:=by split <;> omega
  have hit:itoa z=if z<0 then 45::cn z.natAbs (ndg z.natAbs) else cn z.natAbs (ndg z.natAbs):=rfl
  have hlo:=vk z.natAbs hn0;generalize ndg z.natAbs=d at *;generalize z.natAbs=n at *
  obtain ⟨mid,post,hm,hp,hcell⟩:∃ mid post:List D,mid.length=d∧post.length=23-d∧List.replicate 24 (D.int .u8 0)=[D.int .u8 0]++(mid++post):=by
   refine ⟨List.replicate d (.int .u8 0),List.replicate (23-d) (.int .u8 0),by simp,by simp,?_⟩;rw [List.replicate_append_replicate,show d+(23-d)=23 by omega];rfl
  have hmain:cal (CX Y).p (cH ([D.int .u8 0]++(mid++post))) (.fn F.b6 [] []) [.d (.int .u64 n)] fun v12 h=>
    bnd (biI .add (.d (.int .i64 1)) v12) fun v13=>
    bnd (slP 24 1 h (.ptr 0 1 0 24) (some (.d (.int .i64 1))) (some v13)) fun v14=>
    cai (CX Y).i h (.fn F.bc [] []) [v14,.d (.int .u64 n)] 1 fun v15 h=>
    bnd (biI .lss (I z) (.d (.int .i64 0))) fun v16=>
    cnd v16 (
     bnd (ixP 24 1 (.ptr 0 1 0 24) (.d (.int .i64 0))) fun v17=>
     stD h 1 v17 (.d (.int .u8 45)) fun _ h=>
     bnd (biI .add (.d (.int .i64 1)) v12) fun v19=>
     bnd (slP 24 1 h (.ptr 0 1 0 24) none (some v19)) fun v20=>
     bnd (cvT h v20) fun v21=>
     out (S (itoa z)) v21 h) (
     bnd (biI .add (.d (.int .i64 1)) v12) fun v22=>
     bnd (slP 24 1 h (.ptr 0 1 0 24) (some (.d (.int .i64 1))) (some v22)) fun v23=>
     bnd (cvT h v23) fun v24=>
     out (S (itoa z)) v24 h):=by
   refine cd (u:=.mk) (tT hlo hn hd1 hn64) ?_;simp (disch:=first|omega|simp<;>omega|fail)[];rw [KO (by simp;omega) 1 (d+1) (by omega) (by omega) (by omega) (by omega)];simp (disch:=first|omega|simp<;>omega|fail)[];refine kY (h':=cH ([D.int .u8 0]++((cn n d).map u8++post))) (PP (pre:=[D.int .u8 0]) rfl hm (by omega) (by omega) hn hn64) ?_ (by simp);by_cases g:z<0
   ·rw [if_pos g] at hit;simp (disch:=first|omega|simp<;>omega|fail)[g,aK,hp];rw [Jd _ _ _ _ _ _ _ _ _ (by simp [aK];omega) (by simp)];simp (disch:=first|omega|simp<;>omega|fail)[cU];rw [BH (by simp [aK];omega) (d+1) (by omega) (by omega)];simp (disch:=first|omega|simp<;>omega|fail)[]
    rw [G0 (bs:=45::cn n d) (by simp [aK];omega) (by omega) (by simp [u8,aK,List.take_append,Zu]) (by simp [aK])];rw [hit];simp (disch:=first|omega|simp<;>omega|fail)[];exact cT rfl
   ·rw [if_neg g] at hit;simp (disch:=first|omega|simp<;>omega|fail)[g];rw [KO (by simp [aK];omega) 1 (d+1) (by omega) (by omega) (by omega) (by omega)];simp (disch:=first|omega|simp<;>omega|fail)[];rw [G0 (bs:=cn n d) (by simp [aK];omega) (by omega) (by simp [aK,List.take_append,Zu]) (by simp [aK])];rw [hit]
    simp (disch:=first|omega|simp<;>omega|fail)[];exact cT rfl
  rcases hcs with ⟨g1,g2⟩ | g1
  ·have g3:¬ z<0:=by omega
   rw [if_neg g3] at hab;simp (disch:=first|omega|simp<;>omega|fail)[b9,g1,g2];refine eU (l:=[.d (.int .u64 n)]) (h:=cH ([D.int .u8 0]++(mid++post))) (fun q=>?_) hmain;rw [<- hcell];simp (disch:=first|omega|simp<;>omega|fail)[g3,hab]
  ·have g3:z<0:=by omega
   rw [if_pos g3] at hab;simp (disch:=first|omega|simp<;>omega|fail)[b9,g1];refine eU (l:=[.d (.int .u64 n)]) (h:=cH ([D.int .u8 0]++(mid++post))) (fun q=>?_) hmain;rw [<- hcell];simp (disch:=first|omega|simp<;>omega|fail)[g3,hab,hw g3,hw2 g3]
theorem QM {z:Int} (h1 : -9223372036854775808<z) (h2:z<9223372036854775808):CP Y F.io [I z] (S (itoa z)):=by
 refine vq ?_;simp (disch:=first|omega|simp<;>omega|fail)[io];refine cd (JV h1 h2) ?_;exact cT rfl
theorem xm {z:Int} (h1 : -9223372036854775808<z) (h2:z<9223372036854775808):CP Y F.eD [I z] (S (itoa z)):=by
 refine xL ?_;simp (disch:=first|omega|simp<;>omega|fail)[eD];refine cd (QM h1 h2) ?_;exact cT rfl
def kZ (b:UInt8):Bool:=decide (48<=b.toNat) && decide (b.toNat<=57)
theorem iR {b:UInt8}:kZ b=true↔48<=b.toNat∧b.toNat<=57:=by simp [kZ]
def dG (a:Nat) (s:List UInt8):Nat:=s.foldl (fun a b=>a*10+(b.toNat-48)) a
@[simp] theorem AZ (a:Nat):dG a []=a:=by unfold dG;rw [List.foldl_nil]
@[simp] theorem hO (a:Nat) (b:UInt8) (s:List UInt8):dG a (b::s)=dG (a*10+(b.toNat-48)) s:=by unfold dG;rw [List.foldl_cons]
theorem Cw (x:Nat):(dg x).toNat=(48+x) % 256:=by simp [dg]
theorem S9 {b:UInt8} (h:kZ b=true):dg (b.toNat-48)=b:=by
 rw [iR] at h;apply UInt8.toNat.inj;rw [Cw];omega
theorem Be:∀ (s:List UInt8) (a w:Nat),s.all kZ=true->cn (dG a s) (w+s.length)=cn a w++s
 | [],a,w,_=>by simp
 | b::s,a,w,h=>by
  simp only [List.all_cons,Z8] at h;have:=Be s (a*10+(b.toNat-48)) (w+1) h.2;have hb:=iR.1 h.1;rw [hO,List.length_cons,show w+(s.length+1)=w+1+s.length by omega,this];simp only [cn];rw [show (a*10+(b.toNat-48)) / 10=a by omega,show (a*10+(b.toNat-48)) % 10=b.toNat-48 by omega,S9 h.1];simp
theorem yM:∀ (s:List UInt8) (a:Nat),a*10 ^ s.length<=dG a s
 | [],a=>by simp
 | b::s,a=>by
  have:=yM s (a*10+(b.toNat-48));rw [hO,List.length_cons,Nat.pow_succ];refine Z3 ?_ this;rw [Zy (10 ^ s.length),<- Nat.mul_assoc];exact Z1 _ (by omega)
theorem oH:∀ (s:List UInt8) (a:Nat),s.all kZ=true->dG a s<(a+1)*10 ^ s.length
 | [],a,_=>by simp
 | b::s,a,h=>by
  simp only [List.all_cons,Z8] at h;have:=oH s (a*10+(b.toNat-48)) h.2;have hb:=iR.1 h.1;rw [hO,List.length_cons,Nat.pow_succ];refine Z2 this ?_;rw [Zy (10 ^ s.length),<- Nat.mul_assoc];exact Z1 _ (by omega)
theorem LD {n d:Nat} (h1:10 ^ d<=n) (h2:n<10 ^ (d+1)):ndg n=d+1:=by
 have:=a6 h2 (by omega);have h3:=bP n;have:d<ndg n:=(Y5 (a:=10) (by decide)).1 (by omega);omega
def ma (s:List UInt8):Bool:=!s.isEmpty && s.all kZ && !(decide (1<s.length) && decide (s.headD 0=48))
theorem yG {s:List UInt8} (h:ma s=true):aa (dG 0 s)=s:=by
 simp only [ma,Z8,Zc,Xk,decide_eq_false_iff_not] at h;obtain ⟨⟨h0,h1⟩,h2⟩:=h;cases s with
 | nil=>simp at h0
 | cons b s=>
  have hd:=Be (b::s) 0 0 h1;simp only [List.all_cons,Z8] at h1;have hb:=iR.1 h1.1;simp only [Zk,cn,List.nil_append] at hd
  have hn:ndg (dG 0 (b::s))=(b::s).length:=by
   have lo:=yM s (b.toNat-48);have hi:=oH s (b.toNat-48) h1.2;simp only [hO,Wo,Zk,List.length_cons] at *;by_cases hs:s=[]
   ·subst hs;simp only [AZ,List.length_nil,Zk];unfold ndg;rw [if_pos (by omega)]
   ·have hl:0<s.length:=List.length_pos_iff.2 hs
    have hb0:b.toNat≠48:=by
     rcases h2 with h2 | h2
     ·omega
     ·intro e;apply h2;simp only [List.headD_cons];apply UInt8.toNat.inj;rw [e];rfl
    refine LD ?_ ?_
    ·refine Z3 ?_ lo;have:=Z1 (10 ^ s.length) (show 1<=b.toNat-48 by omega);omega
    ·refine Z2 hi ?_;rw [Nat.pow_succ,Zy];exact Z4 _ (by omega)
  unfold aa;rw [hn];exact hd
theorem Ou {x:Nat} (h:x<10):kZ (dg x)=true:=by
 rw [iR,Cw];omega
theorem Q7 {x:Nat} (h:x<10):(dg x).toNat=48+x:=by
 rw [Cw];omega
theorem qW:∀ (w n:Nat),(cn n w).all kZ=true
 | 0,_=>rfl
 | w+1,n=>by
  simp only [cn,Xg,qW w,List.all_cons,List.all_nil,Wj,W0];exact Ou (by omega)
theorem pq:∀ (s t:List UInt8) (a:Nat),dG a (s++t)=dG (dG a s) t
 | [],t,a=>rfl
 | b::s,t,a=>by rw [List.cons_append,hO,hO,pq s t]
theorem rL:∀ (w n:Nat),n<10 ^ w->dG 0 (cn n w)=n
 | 0,n,h=>by simp at h;subst h;rfl
 | w+1,n,h=>by
  have:=rL w (n / 10) (by rw [Nat.pow_succ] at h;omega);simp only [cn,pq,this,hO,AZ];rw [Q7 (by omega)];omega
theorem nz (n:Nat):ma (aa n)=true:=by
 have hl:(aa n).length=ndg n:=aK ..;have hp:=iE n;have ha:(aa n).all kZ=true:=qW ..;have hh:dG 0 (aa n)=n:=rL _ _ (bP n);cases he:aa n with
 | nil=>rw [he] at hl;simp at hl;omega
 | cons b s=>
  rw [he] at hl ha hh;simp only [ma,List.isEmpty_cons,Bool.not_false,W0,ha,List.headD_cons,Zc,Xk,decide_eq_false_iff_not];by_cases h1:1<(b::s).length
  ·right;refine decide_eq_false fun e=>?_
   subst e;simp only [List.all_cons,Z8] at ha;have hi:=oH s 0 ha.2;simp only [hO,List.length_cons] at *;have e48:(48:UInt8).toNat=48:=rfl;rw [e48] at hh;simp only [Nat.sub_self,Wo,Zk,Xs] at *;rw [hh] at hi
   have lo:=vk n (by
    rcases Zg n with e | e
    ·have e1:ndg 0=1:=by unfold ndg;rfl
     rw [e,e1] at hl;omega
    ·exact e)
   rw [<- hl] at lo;simp at lo;omega
  ·left;simpa using h1
theorem cF (n:Nat):dG 0 (aa n)=n:=rL _ _ (bP n)
def rdS (s:List UInt8):Option Int:=if s.headD 0=45 then (if ma s.tail=true∧s.tail≠[48] then some (-(dG 0 s.tail:Int)) else none) else if ma s=true then some (dG 0 s:Int) else none
theorem qN (n:Nat):aa n≠[]:=by
 intro e;have:(aa n).length=ndg n:=aK ..;have:=iE n;rw [e] at *;simp at *;omega
theorem ni (n:Nat):(aa n).headD 0≠45:=by
 have ha:(aa n).all kZ=true:=qW ..;cases he:aa n with
 | nil=>exact absurd he (qN n)
 | cons b s=>
  rw [he] at ha;simp only [List.all_cons,Z8,iR] at ha;simp only [List.headD_cons];intro e;subst e;have:(45:UInt8).toNat=45:=rfl;omega
theorem Ec (z:Int):rdS (itoa z)=some z:=by
 unfold rdS itoa;by_cases hz:z<0
 ·rw [if_pos hz,List.headD_cons,if_pos rfl,List.tail_cons,nz,cF,if_pos]
  ·congr 1;omega
  ·refine ⟨rfl,fun e=>?_⟩;have:=cF z.natAbs;rw [e] at this;have e2:dG 0 [48]=0:=rfl;omega
 ·rw [if_neg hz,if_neg (ni _),if_pos (nz _),cF];congr 1;omega
theorem K9 {s:List UInt8} {z:Int} (h:rdS s=some z):s=itoa z:=by
 unfold rdS at h;split at h
 ·rename_i hd;split at h
  ·rename_i hc;simp only [Z9] at h;subst h;cases s with
   | nil=>simp at hd
   | cons b s=>
    simp only [List.headD_cons] at hd;subst hd;simp only [List.tail_cons] at *;have he:=yG hc.1
    have h0:dG 0 s≠0:=by
     intro e;rw [e] at he;apply hc.2;rw [<- he];unfold aa ndg;rfl
    unfold itoa;rw [if_pos (by omega),X8,Int.natAbs_natCast,he]
  ·cases h
 ·split at h
  ·rename_i hc;simp only [Z9] at h;subst h;unfold itoa;rw [if_neg (by omega),Int.natAbs_natCast,yG hc]
  ·cases h
theorem uC:∀ (v w n:Nat),cn n (w+v)=cn (n / 10 ^ v) w++cn n v
 | 0,w,n=>by simp [cn]
 | v+1,w,n=>by
  rw [show w+(v+1)=(w+v)+1 by omega];simp only [cn];rw [uC v w (n / 10),Xo,Nat.pow_succ,Zy 10,List.append_assoc]
theorem uB:∀ (w n m:Nat),cn (n+10 ^ w*m) w=cn n w
 | 0,_,_=>rfl
 | w+1,n,m=>by
  simp only [cn];have e:n+10 ^ (w+1)*m=n+10*(10 ^ w*m):=by rw [Nat.pow_succ,Zy (10 ^ w) 10,Nat.mul_assoc]
  rw [e,Yt _ _ (by decide),X0,uB w]
theorem JN {t k r:Nat} (ht:0<t) (hr:r<10 ^ k):aa (r+10 ^ k*t)=aa t++cn r k:=by
 have h1:=vk t ht;have h2:=bP t;have h3:=iE t;obtain ⟨d,hd⟩:∃ d,ndg t=d+1:=⟨ndg t-1,by omega⟩
 have hn:ndg (r+10 ^ k*t)=ndg t+k:=by
  rw [hd] at h1 h2 ⊢;simp only [Xa] at h1;rw [show d+1+k=(d+k)+1 by omega];refine LD ?_ ?_
  ·rw [Yz,Zy];have:=Z4 (10 ^ k) h1;omega
  ·rw [show d+k+1=k+(d+1) by omega,Yz];have:=Z4 (10 ^ k) h2;rw [Nat.mul_succ] at this;omega
 have e:=uC k (ndg t) (r+10 ^ k*t);rw [<- hn,Yt _ _ (Nat.pos_of_ne_zero (by have:=Yf (a:=10) (n:=k) (by decide);omega)),Xc hr,Zk,uB] at e;exact e
theorem vK:∀ a:Fin 10,biI .and (.d (.int .u64 a.val)) (.d (.int .u64 4294967295))=some (.d (.int .u64 a.val)):=by
 intro a
 match a with
 | 0 | 1 | 2 | 3 | 4 | 5 | 6 | 7 | 8 | 9=>rfl
@[simp] theorem VJ {n:Nat} (h:n<10):biI .and (.d (.int .u64 (n:Int))) (.d (.int .u64 4294967295))=some (.d (.int .u64 n)):=vK ⟨n,h⟩
@[simp] theorem Vw:biI .and (.d (.int .u64 1)) (.d (.int .u64 4294967295))=some (.d (.int .u64 1)):=vK 1
@[simp] theorem Vx:biI .and (.d (.int .u64 0)) (.d (.int .u64 4294967295))=some (.d (.int .u64 0)):=vK 0
def vH:Nat->Nat->List Nat
 | _,0=>[]
 | n,w+1=>vH (n / 10) w++[n % 10]
theorem ze:∀ (w n:Nat),(vH n w).length=w
 | 0,_=>rfl
 | w+1,n=>by simp [vH,ze w]
theorem xq:∀ (w n:Nat),∀ x∈vH n w,x<10
 | 0,_=>by simp [vH]
 | w+1,n=>by
  intro x hx;simp only [vH,Yc,List.mem_singleton] at hx;rcases hx with hx | hx
  ·exact xq w _ x hx
  ·omega
theorem Cy:∀ (w n:Nat),cn n w=(vH n w).map dg
 | 0,_=>rfl
 | w+1,n=>by simp [cn,vH,Cy w]
def Ov (a:Nat) (l:List Nat):Nat:=l.foldl (fun a d=>a*10+d) a
theorem yL:∀ (w n:Nat),n<10 ^ w->Ov 0 (vH n w)=n
 | 0,n,h=>by simp at h;subst h;rfl
 | w+1,n,h=>by
  have:=yL w (n / 10) (by rw [Nat.pow_succ] at h;omega);unfold Ov at this;simp only [Ov,vH,List.foldl_append,this,List.foldl_cons,List.foldl_nil];omega
def f8 (x:Nat):D:=.int .u8 (48+x)
theorem ML (n w:Nat):(cn n w).map u8=(vH n w).map f8:=by
 rw [Cy,List.map_map];apply List.map_congr_left;intro x hx;exact Hn (xq w n x hx)
theorem CR (k:KL) (h0:Hp) (hh:h0.length=0):∀ (r a:List Nat) (s:Nat),(a++r).length<=18->(∀ x∈r,x<10)->s<10 ^ a.length ->
  (k (.exit 0) [I (Ov s r)] []) ->
  lp (jt (CX Y) (lst f8 (a++r)) (I (a++r).length)) [] h0 [I s,I a.length] [] k
 | []=>by
  intro a s hN hx hs hk;refine aj ?_;simp (disch:=first|omega|simp<;>omega|fail)[jt];exact hk
 | x::r=>by
  intro a s hN hx hs hk;simp at hN hx;have hs18:s<10 ^ 17:=Z2 hs (Z5 (by decide) (by omega));simp only [Nat.reducePow] at hs18;have hx1:=hx.1;refine aj ?_;simp (disch:=first|omega|simp<;>omega|fail)[jt,f8];have:=CR k h0 hh r (a++[x]) (s*10+x) (by simp;omega) hx.2 (by simp [Nat.pow_succ];omega) hk;simp at this
  rw [show (48+(x:Int)-48)=x by omega];exact this
theorem Pg {n w:Nat} (h1:1<=w) (h2:w<=18) (hn:n<10 ^ w):CP Y F.eM [S (cn n w)] (.tup [I n,.d (.pl .nilIface)]):=by
 refine oF ?_;have hl:=ze w n;have hlt:=xq w n;have hh:=yL w n hn;have he:=ML n w;have hD:=Cy w n;generalize cn n w=L at *;generalize vH n w=l at *;cases l with
 | nil=>simp at hl;omega
 | cons x l=>
  have hx:=hlt x (by simp)
  have hi:ixS (S L) (.d (.int .i64 0))=some (.d (.int .u8 (48+x))):=by
   rw [hD];simp [ixS];have e:=Hn hx;unfold u8 at e;injection e
  have hlen:L.length=w:=by rw [hD];simpa using hl
  have hlw:j6 (S L)=some (I w):=by rw [Cl,hlen]
  simp (disch:=first|omega|simp<;>omega|fail)[eM,hlw,hi]
  have hcv:∀ (k:V->Hp->Prop),cvB (S L) [] k=k (lst f8 (x::l)) []:=by
   intro k
   have:V.d (.sl L.length (L.map fun b=>.int .u8 b.toNat))=lst f8 (x::l):=by
    unfold lst;rw [hlen,hl,<- he];rfl
   simp only [cvB,this]
  refine eU (l:=[S L]) (h:=[]) (fun q=>?_) ?_
  ·simp (disch:=first|omega|simp<;>omega|fail)[show ¬ (48+(x:Int)=43) by omega]
  show cvB (S L) [] _
  rw [hcv];simp (disch:=first|omega|simp<;>omega|fail)[];refine lo (CR _ _ rfl (x::l) [] 0 (by simp at hl;simp;omega) hlt (by simp) ?_);simp (disch:=first|omega|simp<;>omega|fail)[hi,hh];refine eU (l:=[I n]) (h:=[]) (fun q=>?_) ?_
  ·simp (disch:=first|omega|simp<;>omega|fail)[hh,show ¬ (48+(x:Int)=45) by omega]
  exact ⟨[],by simp [aA,ae,norm]⟩
theorem Ca:biF .neq (.d (.pl .nilIface)) (.d (.pl .nilIface))=some (.d (.bool false)):=rfl
theorem CQ {n w:Nat} (h1:1<=w) (h2:w<=18) (hn:n<10 ^ w):CP Y F.eE [S (cn n w)] (.tup [I n,.d (.pl .nilIface)]):=by
 refine qw ?_;simp (disch:=first|omega|simp<;>omega|fail)[eE];refine cd (Pg h1 h2 hn) ?_;simp (disch:=first|omega|simp<;>omega|fail)[Ca];exact ⟨[],by simp [aA,ae,norm]⟩
end Go.Vm
