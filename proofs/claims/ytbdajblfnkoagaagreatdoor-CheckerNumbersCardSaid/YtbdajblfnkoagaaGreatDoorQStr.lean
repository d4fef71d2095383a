/- Texts of integers: what strconv and strings find. -/
import Derived.Test.YtbdajblfnkoagaaGreatDoorQT
import Derived.Test.YtbdajblfnkoagaaGreatDoorQVmSx
set_option linter.unusedVariables false
set_option linter.unusedSimpArgs false
namespace Go.Vm
open Go Go.Am
abbrev S (s:List UInt8):V:=.d (.str s)
@[simp] theorem lenS_S (s:List UInt8):lenS (S s)=some (I s.length):=id rfl
@[simp] theorem slS_hi (s:List UInt8) {j:Int} (h0:0≤j) (h1:j≤s.length):slS (S s) none (some (I j))=some (S (s.take j.toNat)):=by
 simp only [slS,boV]; rw [if_pos ⟨h0,by omega⟩]; simp
@[simp] theorem slS_lo (s:List UInt8) {i:Int} (h0:0≤i) (h1:i≤s.length):slS (S s) (some (I i)) none=some (S (s.drop i.toNat)):=by
 simp only [slS,boV]; rw [if_pos ⟨h0,by omega⟩]; simp only; rw [List.take_of_length_le (by simp)]
@[simp] theorem biS_eql (a b:List UInt8):biS .eql (S a) (S b)=some (.d (.bool (a == b))):=id rfl
@[simp] theorem biS_neq (a b:List UInt8):biS .neq (S a) (S b)=some (.d (.bool (!(a == b)))):=id rfl
@[simp] theorem biS_add (a b:List UInt8) (h:a.length+b.length≤9223372036854775807):biS .add (S a) (S b)=some (S (a++b)):=by simp [biS,strBin,h]
theorem ixS_at (s:List UInt8) {k:IntKind} {i:Int} {x:UInt8} (h0:0≤i) (h:s[i.toNat]? = some x):ixS (S s) (.d (.int k i))=some (.d (.int .u8 x.toNat)):=by
 simp only [ixS]; rw [if_pos h0,h]
theorem out_s {a b:List UInt8} {h:Hp} (e:b=a):out (S a) (S b) h:=by subst e; exact out_d rfl
theorem hasPrefix_ok (s p:List UInt8):CP Y F.strings_HasPrefix [S s,S p] (B (p.isPrefixOf s)):=by
 refine strings_HasPrefix_i ?_
 simp (disch:=first|omega|simp<;>omega|fail)[strings_HasPrefix]
 refine cd (v:=B (p.isPrefixOf s)) (i_stringslite_HasPrefix_i ?_) ?_
 ·simp (disch:=first|omega|simp<;>omega|fail)[i_stringslite_HasPrefix]
  by_cases h:p.length≤s.length
  ·simp (disch:=first|omega|simp<;>omega|fail)[h]
   refine out_b ?_
   rw [Bool.eq_iff_iff,beq_iff_eq,List.isPrefixOf_iff_prefix,List.prefix_iff_eq_take]
   exact eq_comm
  ·simp (disch:=first|omega|simp<;>omega|fail)[h]
   refine out_b ?_
   symm
   rw [Bool.eq_false_iff]
   intro hp
   rw [List.isPrefixOf_iff_prefix] at hp
   exact h hp.length_le
 ·simp (disch:=first|omega|simp<;>omega|fail)[]
theorem bool2_ok (b:Bool):CP Y F.i_strconv_bool2_int [B b] (I (if b=true then 1 else 0)):=by
 refine i_strconv_bool2_int_i ?_
 cases b <;> simp (disch:=first|omega|simp<;>omega|fail)[i_strconv_bool2_int]
theorem log10_ok {x:Nat} (h:x≤64):CP Y F.i_strconv_log10Pow2 [I x] (I ((x * 78913 / 262144:Nat):Int)):=by
 refine i_strconv_log10Pow2_i ?_
 simp (disch:=first|omega|simp<;>omega|fail)[i_strconv_log10Pow2]
def nbits (n:Nat):Nat:=if n=0 then 0 else n.log2+1
theorem nbits_step {n k:Nat} (h:2 ^ k≤n):nbits n=nbits (n / 2 ^ k)+k:=by
 have hp:0 < 2 ^ k:=Nat.pow_pos (by decide)
 have h0:n≠0:=by omega
 have h1:n / 2 ^ k≠0:=by have:=Nat.div_pos h hp; omega
 simp only [nbits,h0,h1,if_false]
 have e:n.log2=(n / 2 ^ k).log2+k:=by
  rw [Nat.log2_eq_iff h0]
  have h2:=(Nat.log2_eq_iff h1).1 rfl
  constructor
  ·rw [Nat.pow_add]
   exact Nat.le_trans (Nat.mul_le_mul_right _ h2.1) (Nat.div_mul_le_self n _)
  ·have:n / 2 ^ k+1≤2 ^ ((n / 2 ^ k).log2+1):=h2.2
   have h3:n < (n / 2 ^ k+1) * 2 ^ k:=by
    have:=Nat.lt_mul_div_succ n hp
    rw [Nat.mul_comm]; exact this
   have h4:=Nat.mul_le_mul_right (2 ^ k) this
   rw [← Nat.pow_add] at h4
   rw [show (n / 2 ^ k).log2+k+1=(n / 2 ^ k).log2+1+k by omega]
   omega
 omega
def len8T:List UInt8:=[0,1,2,2,3,3,3,3,4,4,4,4,4,4,4,4,5,5,5,5,5,5,5,5,5,5,5,5,5,5,5,5,6,6,6,6,6,6,6,6,6,6,6,6,6,6,6,6,6,6,6,6,6,6,6,6,6,6,6,6,6,6,6,6]++(List.replicate 64 7++List.replicate 128 8)
theorem len8:∀ x:Fin 256,len8T[x.val]? = some (UInt8.ofNat (nbits x.val)):=by decide +kernel
theorem len64_fin {x:Nat} {a:Nat} {n:Nat} (hx:x < 256) (hn:nbits n=nbits x+a) (ha:a≤56) {h:Hp} :
  (bnd (cvI .u8 (.d (.int .u64 x))) fun v10=>bnd (ixS (S len8T) v10) fun v11 =>
   bnd (cvI .i64 v11) fun v12=>bnd (biI .add (I a) v12) fun v13=>out (I (nbits n)) v13 h):=by
 have hb:nbits x≤8:=by
  unfold nbits
  split
  ·omega
  ·rename_i h0
   have:=(Nat.log2_lt h0 (k:=8)).2 (by omega)
   omega
 have h8:=len8 ⟨x,hx⟩
 simp (disch:=first|omega|simp<;>omega|fail)[]
 rw [ixS_at _ (by omega) (x:=UInt8.ofNat (nbits x)) (by simpa using h8)]
 have e:(UInt8.ofNat (nbits x)).toNat=nbits x:=by simp; omega
 simp (disch:=first|omega|simp<;>omega|fail)[e]
 exact out_i (by omega)
set_option maxRecDepth 20000 in
theorem len64_ok {n:Nat} (h:n < 18446744073709551616):CP Y F.math_bits_Len64 [.d (.int .u64 n)] (I (nbits n)):=by
 refine math_bits_Len64_i ?_
 obtain ⟨x1,a1,hx1,he1,ha1,h1⟩:∃ x1 a1:Nat,x1 < 4294967296∧nbits n=nbits x1+a1∧a1≤32∧((4294967296≤n∧x1=n / 4294967296∧a1=32)∨(n < 4294967296∧x1=n∧a1=0)):=by
  by_cases hh:4294967296≤n
  ·exact ⟨n / 4294967296,32,by omega,nbits_step (k:=32) hh,by omega,.inl ⟨hh,rfl,rfl⟩⟩
  ·exact ⟨n,0,by omega,rfl,by omega,.inr ⟨by omega,rfl,rfl⟩⟩
 obtain ⟨x2,a2,hx2,he2,ha2,h2⟩:∃ x2 a2:Nat,x2 < 65536∧nbits n=nbits x2+a2∧a2≤48∧((65536≤x1∧x2=x1 / 65536∧a2=a1+16)∨(x1 < 65536∧x2=x1∧a2=a1)):=by
  by_cases hh:65536≤x1
  ·exact ⟨x1 / 65536,a1+16,by omega,by (have:=nbits_step (n:=x1) (k:=16) hh; simp only [Nat.reducePow] at this; omega),by omega,.inl ⟨hh,rfl,rfl⟩⟩
  ·exact ⟨x1,a1,by omega,he1,by omega,.inr ⟨by omega,rfl,rfl⟩⟩
 obtain ⟨x3,a3,hx3,he3,ha3,h3⟩:∃ x3 a3:Nat,x3 < 256∧nbits n=nbits x3+a3∧a3≤56∧((256≤x2∧x3=x2 / 256∧a3=a2+8)∨(x2 < 256∧x3=x2∧a3=a2)):=by
  by_cases hh:256≤x2
  ·exact ⟨x2 / 256,a2+8,by omega,by (have:=nbits_step (n:=x2) (k:=8) hh; simp only [Nat.reducePow] at this; omega),by omega,.inl ⟨hh,rfl,rfl⟩⟩
  ·exact ⟨x2,a2,by omega,he2,by omega,.inr ⟨by omega,rfl,rfl⟩⟩
 simp (disch:=first|omega|simp<;>omega|fail)[math_bits_Len64]
 have key:=len64_fin (h:=[]) hx3 he3 ha3
 refine jo_to (l:=[.d (.int .u64 x1),I a1]) (h:=[]) (fun q=>?_) ?_
 ·rcases h1 with ⟨g,rfl,rfl⟩ | ⟨g,rfl,rfl⟩ <;> simp (disch:=first|omega|simp<;>omega|fail)[g]
 simp (disch:=first|omega|simp<;>omega|fail)[]
 refine jo_to (l:=[.d (.int .u64 x2),I a2]) (h:=[]) (fun q=>?_) ?_
 ·rcases h2 with ⟨g,rfl,rfl⟩ | ⟨g,rfl,rfl⟩ <;> simp (disch:=first|omega|simp<;>omega|fail)[g]
 simp (disch:=first|omega|simp<;>omega|fail)[]
 refine jo_to (l:=[.d (.int .u64 x3),I a3]) (h:=[]) (fun q=>?_) ?_
 ·rcases h3 with ⟨g,rfl,rfl⟩ | ⟨g,rfl,rfl⟩ <;> simp (disch:=first|omega|simp<;>omega|fail)[g]
 exact key
theorem powC_eq:powC=(List.range 20).map fun i=>D.int .u64 ((10 ^ i:Nat):Int):=by
 simp only [powC,List.range,List.range.loop,List.map]
 rfl
theorem pow_at {i:Nat} (h:i < 20):powC[i]? = some (.int .u64 ((10 ^ i:Nat):Int)):=by
 rw [powC_eq,List.getElem?_map,List.getElem?_range h]; rfl
theorem gl_pow:gl powG=.dptr powC 0:=by unfold gl; rfl
theorem nd_tab:∀ b:Fin 65,1≤b.val→(10 ^ (b.val * 78913 / 262144)≤2 ^ b.val∧2 ^ b.val≤10 ^ (b.val * 78913 / 262144+1)∧(b.val * 78913 / 262144=0∨10 ^ (b.val * 78913 / 262144 - 1) < 2 ^ (b.val - 1))∧b.val * 78913 / 262144 < 20):=by decide +kernel
theorem nbits_bounds {n:Nat} (h:0 < n):2 ^ (nbits n - 1)≤n∧n < 2 ^ nbits n∧1≤nbits n:=by
 have h0:n≠0:=by omega
 have:=(Nat.log2_eq_iff h0).1 rfl
 simp only [nbits,h0,if_false]
 exact ⟨this.1,this.2,by omega⟩
theorem numDigits_ok {n d:Nat} (h1:10 ^ (d - 1)≤n) (h2:n < 10 ^ d) (hd:1≤d) (h:n < 18446744073709551616):CP Y F.i_strconv_numDigits [.d (.int .u64 n)] (I d):=by
 have h0:0 < n:=Nat.lt_of_lt_of_le (Nat.pow_pos (by decide)) h1
 obtain ⟨b1,b2,b3⟩:=nbits_bounds h0
 have hb:nbits n≤64:=by
  unfold nbits
  split
  ·omega
  ·rename_i hz
   have:=(Nat.log2_lt hz (k:=64)).2 (by simpa using h)
   omega
 obtain ⟨t1,t2,t3,t4⟩:=nd_tab ⟨nbits n,by omega⟩ b3
 simp only at t1 t2 t3 t4
 refine i_strconv_numDigits_i ?_
 simp (disch:=first|omega|simp<;>omega|fail)[i_strconv_numDigits]
 refine cd (len64_ok h) ?_
 simp (disch:=first|omega|simp<;>omega|fail)[]
 refine cd (log10_ok hb) ?_
 generalize hk:nbits n * 78913 / 262144=k at *
 have hg:gl 2=.dptr powC 0:=gl_pow
 simp (disch:=first|omega|simp<;>omega|fail)[hg]
 rw [ld1_d _ _ _ (pow_at t4)]
 have hpk:10 ^ (k+1)=10 * 10 ^ k:=by rw [Nat.pow_succ,Nat.mul_comm]
 have hpd:10 ^ d=10 * 10 ^ (d - 1):=by
  obtain ⟨e,rfl⟩:∃ e,d=e+1:=⟨d - 1,by omega⟩
  rw [Nat.pow_succ,Nat.mul_comm]; rfl
 have a1:10 ^ k≤n→d=k+1:=fun hc=>by
  have a1:k < d:=(Nat.pow_lt_pow_iff_right (a:=10) (by decide)).1 (by omega)
  have a2:d - 1 < k+1:=(Nat.pow_lt_pow_iff_right (a:=10) (by decide)).1 (by omega)
  omega
 have a2:¬ 10 ^ k≤n→d=k:=fun hc=>by
  have hk1:1≤k:=by
   rcases Nat.eq_zero_or_pos k with e | e
   ·subst e; simp at hc; omega
   ·exact e
  have a1:d - 1 < k:=(Nat.pow_lt_pow_iff_right (a:=10) (by decide)).1 (by omega)
  have a2:k - 1 < d:=by
   rcases t3 with e | e
   ·omega
   ·exact (Nat.pow_lt_pow_iff_right (a:=10) (by decide)).1 (by omega)
  omega
 generalize 10 ^ k=P at *
 simp (disch:=first|omega|simp<;>omega|fail)[]
 refine cd (bool2_ok (decide (P≤n))) ?_
 by_cases hc:P≤n
 ·have:=a1 hc
  simp (disch:=first|omega|simp<;>omega|fail)[hc]
  exact out_i (by omega)
 ·have:=a2 hc
  simp (disch:=first|omega|simp<;>omega|fail)[hc]
  exact out_i (by omega)
end Go.Vm
namespace Go.Vm
open Go Go.Am
def dg (n:Nat):UInt8:=UInt8.ofNat (48+n)
def decD:Nat→Nat→List UInt8
 | _,0=>[]
 | n,w+1=>decD (n / 10) w++[dg (n % 10)]
theorem decD_len:∀ (w n:Nat),(decD n w).length=w
 | 0,_=>rfl
 | w+1,n=>by simp [decD,decD_len w]
def u8 (b:UInt8):D:=.int .u8 b.toNat
def smallsT:List UInt8:=[48,48,48,49,48,50,48,51,48,52,48,53,48,54,48,55,48,56,48,57,49,48,49,49,49,50,49,51,49,52,49,53,49,54,49,55,49,56,49,57,50,48,50,49,50,50,50,51,50,52,50,53,50,54,50,55,50,56,50,57,51,48,51,49,51,50,51,51,51,52,51,53,51,54,51,55,51,56,51,57,52,48,52,49,52,50,52,51,52,52,52,53,52,54,52,55,52,56,52,57,53,48,53,49,53,50,53,51,53,52,53,53,53,54,53,55,53,56,53,57,54,48,54,49,54,50,54,51,54,52,54,53,54,54,54,55,54,56,54,57,55,48,55,49,55,50,55,51,55,52,55,53,55,54,55,55,55,56,55,57,56,48,56,49,56,50,56,51,56,52,56,53,56,54,56,55,56,56,56,57,57,48,57,49,57,50,57,51,57,52,57,53,57,54,57,55,57,56,57,57]
theorem smallsE:([48,48,48,49,48,50,48,51,48,52,48,53,48,54,48,55,48,56,48,57,49,48,49,49,49,50,49,51,49,52,49,53,49,54,49,55,49,56,49,57,50,48,50,49,50,50,50,51,50,52,50,53,50,54,50,55,50,56,50,57,51,48,51,49,51,50,51,51,51,52,51,53,51,54,51,55,51,56,51,57,52,48,52,49,52,50,52,51,52,52,52,53,52,54,52,55,52,56,52,57,53,48,53,49,53,50,53,51,53,52,53,53,53,54,53,55,53,56,53,57,54,48,54,49,54,50,54,51,54,52,54,53,54,54,54,55,54,56,54,57,55,48,55,49,55,50,55,51,55,52,55,53,55,54,55,55,55,56,55,57,56,48,56,49,56,50,56,51,56,52,56,53,56,54,56,55,56,56,56,57,57,48,57,49,57,50,57,51,57,52,57,53,57,54,57,55,57,56,57,57]:List UInt8)=smallsT:=rfl
theorem smalls_at:∀ x:Fin 200,smallsT[x.val]? = some (dg (if x.val % 2=0 then x.val / 2 / 10 else x.val / 2 % 10)):=by decide +kernel
def smV (i:Int):D:=u8 (dg (if i % 2=0 then i.toNat / 2 / 10 else i.toNat / 2 % 10))
@[simp] theorem rn_smalls (k:IntKind) (i:Int) (K:V→Prop) (u:PU K) (h0:0≤i) (h1:i < 200):rn (bnd (ixS (.d (.str smallsT)) (.d (.int k i)))) K u=K (.d (smV i)):=by
 have h:=ixS_at smallsT (k:=k) h0 (smalls_at ⟨i.toNat,by omega⟩)
 unfold rn
 rw [show V.d (.str smallsT)=S smallsT from rfl,h]
 have e:(if i.toNat % 2=0 then i.toNat / 2 / 10 else i.toNat / 2 % 10)=(if i % 2=0 then i.toNat / 2 / 10 else i.toNat / 2 % 10):=by
  by_cases hc:i % 2=0
  ·rw [if_pos hc,if_pos (by omega)]
  ·rw [if_neg hc,if_neg (by omega)]
 simp only [smV,u8,← e]
 rfl
theorem smV_hi {x:Nat}:smV (2 * (x:Int))=u8 (dg (x / 10)):=by
 unfold smV; rw [if_pos (by omega)]; congr 3; omega
theorem smV_lo {x:Nat}:smV (2 * (x:Int)+1)=u8 (dg (x % 10)):=by
 unfold smV; rw [if_neg (by omega)]; congr 3; omega
theorem decD_two (n w:Nat):decD n (w+2)=decD (n / 100) w++[dg (n % 100 / 10),dg (n % 100 % 10)]:=by
 simp only [decD,List.append_assoc,List.singleton_append]
 rw [Nat.div_div_eq_div_mul]
 have e1:n / 10 % 10=n % 100 / 10:=by omega
 have e2:n % 10=n % 100 % 10:=by omega
 rw [e1,e2]
theorem len8L {α:Type}:∀ (l:List α),l.length=8→∃ c0 c1 c2 c3 c4 c5 c6 c7,l=[c0,c1,c2,c3,c4,c5,c6,c7]
 | [c0,c1,c2,c3,c4,c5,c6,c7],_=>⟨c0,c1,c2,c3,c4,c5,c6,c7,rfl⟩
 | [],h | [_],h | [_,_],h | [_,_,_],h | [_,_,_,_],h | [_,_,_,_,_],h | [_,_,_,_,_,_],h | [_,_,_,_,_,_,_],h=>by simp at h
 | _ :: _ :: _ :: _ :: _ :: _ :: _ :: _ :: _ :: _,h=>by simp at h
@[simp] theorem lenV_ref (s e off len cap tot:Nat):lenV (.ref s e off len cap tot)=some (I len):=rfl
theorem set8 (B:List D) (c0 c1 c2 c3 c4 c5 c6 c7 x0 x1 x2 x3 x4 x5 x6 x7:D) {i1 i2 i3 i4 i5 i6 i7:Nat}
  (h1:i1=1) (h2:i2=2) (h3:i3=3) (h4:i4=4) (h5:i5=5) (h6:i6=6) (h7:i7=7) :
  ((((((((c0 :: c1 :: c2 :: c3 :: c4 :: c5 :: c6 :: c7 :: B).set i7 x7).set i6 x6).set i5 x5).set i4 x4).set i3 x3).set i2 x2).set i1 x1).set 0 x0=x0 :: x1 :: x2 :: x3 :: x4 :: x5 :: x6 :: x7 :: B:=by
 subst h1 h2 h3 h4 h5 h6 h7; rfl
theorem set4 (B:List D) (c0 c1 c2 c3 x0 x1 x2 x3:D) {i1 i2 i3:Nat} (h1:i1=1) (h2:i2=2) (h3:i3=3) :
  ((((c0 :: c1 :: c2 :: c3 :: B).set i3 x3).set i2 x2).set i1 x1).set 0 x0=x0 :: x1 :: x2 :: x3 :: B:=by
 subst h1 h2 h3; rfl
theorem set2 (B:List D) (c0 c1 x0 x1:D) {i1:Nat} (h1:i1=1):((c0 :: c1 :: B).set i1 x1).set 0 x0=x0 :: x1 :: B:=by
 subst h1; rfl
@[simp] theorem norm_smV (i:Int):norm (smV i)=smV i:=rfl
theorem smV_lo' {x:Nat} {i:Int} (h:i=2 * (x:Int)+1):smV i=u8 (dg (x % 10)):=by rw [h,smV_lo]
theorem smV_hi' {x:Nat} {i:Int} (h:i=2 * (x:Int)):smV i=u8 (dg (x / 10)):=by rw [h,smV_hi]
theorem decD8 (n w:Nat):decD n (w+8)=decD (n / 100000000) w++[dg (n / 1000000 % 100 / 10),dg (n / 1000000 % 100 % 10),dg (n / 10000 % 100 / 10),dg (n / 10000 % 100 % 10),dg (n / 100 % 100 / 10),dg (n / 100 % 100 % 10),dg (n % 100 / 10),dg (n % 100 % 10)]:=by
 rw [decD_two n (w+6),decD_two _ (w+4),decD_two _ (w+2),decD_two _ w]
 simp only [Nat.div_div_eq_div_mul,List.append_assoc,List.cons_append,List.nil_append,Nat.reduceMul]
theorem fb_loop (h0:Hp) (hh:h0.length=2) (k:KL) (off len cap tot:Nat) (pre post:List D) (hpre:pre.length=off):∀ (r nd n:Nat) (mid done:List D),nd≤r→mid.length=nd→nd+done.length=len→len≤24→tot=off+len+post.length →
  n < 10 ^ nd→n < 18446744073709551616 →
  (∀ (n' nd':Nat) (mid' done':List D),nd' < 8→mid'.length=nd'→nd'+done'.length=len→n' < 10 ^ nd'→(decD n' nd').map u8++done'=(decD n nd).map u8++done→k (.exit 0) [.d (.int .u64 n'),I nd'] [(1,.data 1 (pre++(mid'++(done'++post))) true false),(0,.none)]) →
  lp (i_strconv_formatBase10_l0 (CX Y) 2 (.ref 0 1 off len cap tot)) [] h0 [.d (.int .u64 n),I nd] [(1,.data 1 (pre++(mid++(done++post))) true false),(0,.none)] k:=by
 intro r
 induction r with
 | zero => 
  intro nd n mid done hr hm hd hl ht hn h64 hk
  refine lp_in ?_
  simp (disch:=first|omega|simp<;>omega|fail)[i_strconv_formatBase10_l0]
  exact hk n nd mid done (by omega) hm hd hn rfl
 | succ r ih =>
  intro nd n mid done hr hm hd hl ht hn h64 hk
  refine lp_in ?_
  by_cases h8:8≤nd
  ·obtain ⟨m',c0,c1,c2,c3,c4,c5,c6,c7,rfl⟩:∃ (m':List D) (c0 c1 c2 c3 c4 c5 c6 c7:D),mid=m'++[c0,c1,c2,c3,c4,c5,c6,c7]:=by
    obtain ⟨c0,c1,c2,c3,c4,c5,c6,c7,e⟩:=len8L (mid.drop (nd - 8)) (by simp; omega)
    exact ⟨mid.take (nd - 8),c0,c1,c2,c3,c4,c5,c6,c7,by rw [← e,List.take_append_drop]⟩
   have e0:pre++(m'++[c0,c1,c2,c3,c4,c5,c6,c7]++(done++post))=(pre++m')++c0 :: c1 :: c2 :: c3 :: c4 :: c5 :: c6 :: c7 :: (done++post):=by simp
   rw [e0]
   simp only [List.length_append,List.length_cons,List.length_nil] at hm
   have hA:(pre++m').length=off+nd - 8:=by simp; omega
   have e9:∀ x0 x1 x2 x3 x4 x5 x6 x7:D,(pre++m')++x0 :: x1 :: x2 :: x3 :: x4 :: x5 :: x6 :: x7 :: (done++post)=pre++(m'++((x0 :: x1 :: x2 :: x3 :: x4 :: x5 :: x6 :: x7 :: done)++post)):=by intros; simp
   generalize pre++m'=A at *
   unfold i_strconv_formatBase10_l0
   simp only [smallsE]
   simp (disch:=first|omega|simp<;>omega|fail)[Int.tmod_eq_emod_of_nonneg,Int.tdiv_eq_ediv_of_nonneg]
   rw [set8 _ _ _ _ _ _ _ _ _ _ _ _ _ _ _ _ _ (by omega) (by omega) (by omega) (by omega) (by omega) (by omega) (by omega),e9]
   rw [smV_lo' (x:=n % 100) (i:=(n:Int) % 100 * 2+1) (by omega),smV_hi' (x:=n % 100) (i:=(n:Int) % 100 * 2) (by omega),smV_lo' (x:=n / 100 % 100) (i:=(n:Int) % 10000 / 100 * 2+1) (by omega),smV_hi' (x:=n / 100 % 100) (i:=(n:Int) % 10000 / 100 * 2) (by omega),smV_lo' (x:=n / 10000 % 100) (i:=(n:Int) % 100000000 / 10000 % 100 * 2+1) (by omega),smV_hi' (x:=n / 10000 % 100) (i:=(n:Int) % 100000000 / 10000 % 100 * 2) (by omega),smV_lo' (x:=n / 1000000 % 100) (i:=(n:Int) % 100000000 / 10000 / 100 * 2+1) (by omega),smV_hi' (x:=n / 1000000 % 100) (i:=(n:Int) % 100000000 / 10000 / 100 * 2) (by omega)]
   obtain ⟨w,rfl⟩:∃ w,nd=w+8:=⟨nd - 8,by omega⟩
   have hd8:=decD8 n w
   rw [show ((w+8:Nat):Int) - 8=(w:Nat) by omega,show (n:Int) / 100000000=((n / 100000000:Nat):Int) by omega]
   refine ih w (n / 100000000) m' (u8 (dg (n / 1000000 % 100 / 10)) :: u8 (dg (n / 1000000 % 100 % 10)) :: u8 (dg (n / 10000 % 100 / 10)) :: u8 (dg (n / 10000 % 100 % 10)) :: u8 (dg (n / 100 % 100 / 10)) :: u8 (dg (n / 100 % 100 % 10)) :: u8 (dg (n % 100 / 10)) :: u8 (dg (n % 100 % 10)) :: done) (by omega) (by omega) (by simp; omega) hl ht ?_ (by omega) ?_
   ·rw [Nat.pow_add] at hn
    exact Nat.div_lt_of_lt_mul (by rw [Nat.mul_comm]; simpa using hn)
   ·intro n' nd' mid' done' g1 g2 g3 g4 g5
    refine hk n' nd' mid' done' g1 g2 g3 g4 ?_
    rw [g5,hd8]
    simp
  ·simp (disch:=first|omega|simp<;>omega|fail)[i_strconv_formatBase10_l0]
   exact hk n nd mid done (by omega) hm hd hn rfl
theorem u8_dg {x:Nat} (h:x < 10):u8 (dg x)=.int .u8 (48+x):=by
 unfold u8 dg
 congr 1
 simp
 omega
theorem len4L {α:Type}:∀ (l:List α),l.length=4→∃ c0 c1 c2 c3,l=[c0,c1,c2,c3]
 | [c0,c1,c2,c3],_=>⟨c0,c1,c2,c3,rfl⟩
 | [],h | [_],h | [_,_],h | [_,_,_],h=>by simp at h
 | _ :: _ :: _ :: _ :: _ :: _,h=>by simp at h
theorem len2L {α:Type}:∀ (l:List α),l.length=2→∃ c0 c1,l=[c0,c1]
 | [c0,c1],_=>⟨c0,c1,rfl⟩
 | [],h | [_],h=>by simp at h
 | _ :: _ :: _ :: _,h=>by simp at h
theorem fb_four (n nd:Nat) (mid B:List D) (h8:nd < 8) (hm:mid.length=nd) (hn:n < 10 ^ nd):∃ (n1 nd1:Nat) (mid1 B1:List D),nd1 < 4∧mid1.length=nd1∧n1 < 10 ^ nd1∧nd1+B1.length=nd+B.length∧(decD n1 nd1).map u8++B1=(decD n nd).map u8++B ∧
  ((4≤nd∧n1=n / 10000∧nd1=nd - 4∧(∃ c0 c1 c2 c3,mid=mid1++[c0,c1,c2,c3])∧B1=u8 (dg (n / 100 % 100 / 10)) :: u8 (dg (n / 100 % 100 % 10)) :: u8 (dg (n % 100 / 10)) :: u8 (dg (n % 100 % 10)) :: B)∨(¬ 4≤nd∧n1=n∧nd1=nd∧mid1=mid∧B1=B)):=by
 by_cases h4:4≤nd
 ·obtain ⟨w,rfl⟩:∃ w,nd=w+4:=⟨nd - 4,by omega⟩
  obtain ⟨c0,c1,c2,c3,e⟩:=len4L (mid.drop w) (by simp; omega)
  refine ⟨n / 10000,w,mid.take w,_,by omega,by simp; omega,?_,?_,?_,.inl ⟨h4,rfl,by omega,⟨c0,c1,c2,c3,by rw [← e,List.take_append_drop]⟩,rfl⟩⟩
  ·rw [Nat.pow_add] at hn
   exact Nat.div_lt_of_lt_mul (by rw [Nat.mul_comm]; simpa using hn)
  ·simp; omega
  ·rw [decD_two n (w+2),decD_two _ w]
   simp [Nat.div_div_eq_div_mul]
 ·exact ⟨n,nd,mid,B,by omega,hm,hn,rfl,rfl,.inr ⟨h4,rfl,rfl,rfl,rfl⟩⟩
theorem fb_two (n nd:Nat) (mid B:List D) (h8:nd < 4) (hm:mid.length=nd) (hn:n < 10 ^ nd):∃ (n1 nd1:Nat) (mid1 B1:List D),nd1 < 2∧mid1.length=nd1∧n1 < 10 ^ nd1∧nd1+B1.length=nd+B.length∧(decD n1 nd1).map u8++B1=(decD n nd).map u8++B ∧
  ((2≤nd∧n1=n / 100∧nd1=nd - 2∧(∃ c0 c1,mid=mid1++[c0,c1])∧B1=u8 (dg (n % 100 / 10)) :: u8 (dg (n % 100 % 10)) :: B)∨(¬ 2≤nd∧n1=n∧nd1=nd∧mid1=mid∧B1=B)):=by
 by_cases h4:2≤nd
 ·obtain ⟨w,rfl⟩:∃ w,nd=w+2:=⟨nd - 2,by omega⟩
  obtain ⟨c0,c1,e⟩:=len2L (mid.drop w) (by simp; omega)
  refine ⟨n / 100,w,mid.take w,_,by omega,by simp; omega,?_,?_,?_,.inl ⟨h4,rfl,by omega,⟨c0,c1,by rw [← e,List.take_append_drop]⟩,rfl⟩⟩
  ·rw [Nat.pow_add] at hn
   exact Nat.div_lt_of_lt_mul (by rw [Nat.mul_comm]; simpa using hn)
  ·simp; omega
  ·rw [decD_two n w]
   simp
 ·exact ⟨n,nd,mid,B,by omega,hm,hn,rfl,rfl,.inr ⟨h4,rfl,rfl,rfl,rfl⟩⟩
def fbH (pre mid B:List D):Hp:=[(1,.data 1 (pre++(mid++B)) true false),(0,.none)]
theorem fb_ok {off cap tot n d:Nat} {pre mid post:List D} (hpre:pre.length=off) (hm:mid.length=d) (hd:d≤24) (ht:tot=off+d+post.length) (hn:n < 10 ^ d) (h64:n < 18446744073709551616) :
  CI Y F.i_strconv_formatBase10 [.ref 0 1 off d cap tot,.d (.int .u64 n)] [(1,.data 1 (pre++(mid++post)) true false),(0,.none)] (.tup []) [(1,.data 1 (pre++((decD n d).map u8++post)) true false),(0,.none)]:=by
 refine i_strconv_formatBase10_i ?_
 unfold i_strconv_formatBase10
 simp only [smallsE]
 simp (disch:=first|omega|simp<;>omega|fail)[]
 refine lo (fb_loop _ rfl _ off d cap tot pre post hpre d d n mid [] (by omega) hm (by simp) hd ht hn h64 (fun n' nd mid' done g1 g2 g3 g4 g5=>?_))
 have hp8:10 ^ nd≤10 ^ 7:=Nat.pow_le_pow_right (by decide) (by omega)
 simp only [Nat.reducePow] at hp8
 simp (disch:=first|omega|simp<;>omega|fail)[]
 obtain ⟨n1,d1,mid1,B1,f1,f2,f3,f4,f5,f6⟩:=fb_four n' nd mid' (done++post) g1 g2 g4
 refine jo_to (l:=[.d (.int .u32 n1),I d1]) (h:=fbH pre mid1 B1) (fun q=>?_) ?_
 ·rcases f6 with ⟨c,rfl,rfl,⟨c0,c1,c2,c3,rfl⟩,rfl⟩ | ⟨c,rfl,rfl,rfl,rfl⟩
  ·have e0:pre++(mid1++[c0,c1,c2,c3]++(done++post))=(pre++mid1)++c0 :: c1 :: c2 :: c3 :: (done++post):=by simp
   rw [e0]
   simp only [List.length_append,List.length_cons,List.length_nil] at g2
   have hA:(pre++mid1).length=off+nd - 4:=by simp; omega
   have e9:∀ x0 x1 x2 x3:D,(pre++mid1)++x0 :: x1 :: x2 :: x3 :: (done++post)=pre++(mid1++(x0 :: x1 :: x2 :: x3 :: (done++post))):=by intros; simp
   generalize pre++mid1=A at *
   simp (disch:=first|omega|simp<;>omega|fail)[c,Int.tmod_eq_emod_of_nonneg,Int.tdiv_eq_ediv_of_nonneg]
   rw [set4 _ _ _ _ _ _ _ _ _ (by omega) (by omega) (by omega),e9]
   rw [smV_lo' (x:=n' % 100) (i:=(n':Int) % 100 * 2+1) (by omega),smV_hi' (x:=n' % 100) (i:=(n':Int) % 100 * 2) (by omega),smV_lo' (x:=n' / 100 % 100) (i:=(n':Int) % 10000 / 100 * 2+1) (by omega),smV_hi' (x:=n' / 100 % 100) (i:=(n':Int) % 10000 / 100 * 2) (by omega)]
   simp [fbH,I,show ((nd - 4:Nat):Int)=(nd:Int) - 4 by omega]
  ·simp (disch:=first|omega|simp<;>omega|fail)[c,fbH]
 have hp4:10 ^ d1≤10 ^ 3:=Nat.pow_le_pow_right (by decide) (by omega)
 simp only [Nat.reducePow] at hp4
 simp (disch:=first|omega|simp<;>omega|fail)[]
 obtain ⟨n2,d2,mid2,B2,e1,e2,e3,e4,e5,e6⟩:=fb_two n1 d1 mid1 B1 f1 f2 f3
 refine jo_to (l:=[.d (.int .u32 n2),I d2]) (h:=fbH pre mid2 B2) (fun q=>?_) ?_
 ·rcases e6 with ⟨c,rfl,rfl,⟨c0,c1,rfl⟩,rfl⟩ | ⟨c,rfl,rfl,rfl,rfl⟩
  ·have e0:pre++(mid2++[c0,c1]++B1)=(pre++mid2)++c0 :: c1 :: B1:=by simp
   rw [fbH,e0]
   simp only [List.length_append,List.length_cons,List.length_nil] at f2
   have hA:(pre++mid2).length=off+d1 - 2:=by simp; omega
   have hB:tot=off+d1+B1.length:=by simp at f4; omega
   have e9:∀ x0 x1:D,(pre++mid2)++x0 :: x1 :: B1=pre++(mid2++(x0 :: x1 :: B1)):=by intros; simp
   generalize pre++mid2=A at *
   simp (disch:=first|omega|simp<;>omega|fail)[c,Int.tmod_eq_emod_of_nonneg,Int.tdiv_eq_ediv_of_nonneg]
   rw [set2 _ _ _ _ _ (by omega),e9]
   rw [smV_lo' (x:=n1 % 100) (i:=(n1:Int) % 100 * 2+1) (by omega),smV_hi' (x:=n1 % 100) (i:=(n1:Int) % 100 * 2) (by omega)]
   simp [fbH,I,show ((d1 - 2:Nat):Int)=(d1:Int) - 2 by omega]
  ·simp (disch:=first|omega|simp<;>omega|fail)[c,fbH]
 simp (disch:=first|omega|simp<;>omega|fail)[]
 have hend:fbH pre ((decD n2 d2).map u8) B2=[(1,.data 1 (pre++((decD n d).map u8++post)) true false),(0,.none)]:=by
  simp only [fbH]
  rw [e5,f5,← List.append_assoc ((decD n' nd).map u8),g5]
  simp
 refine jo_to (l:=[]) (h:=fbH pre ((decD n2 d2).map u8) B2) (fun q=>?_) ?_
 ·match d2,e1,mid2,e2 with
  | 0,_,[],_=>simp (disch:=first|omega|simp<;>omega|fail)[fbH,decD]
  | 1,_,[c0],_ =>
   have hn2:n2 < 10:=by simpa using e3
   have hB:tot=off+1+B2.length:=by simp at f4; omega
   simp (disch:=first|omega|simp<;>omega|fail)[fbH,decD]
   rw [Nat.mod_eq_of_lt hn2,u8_dg hn2]
 rw [hend]
 simp (disch:=first|omega|simp<;>omega|fail)[outI]
 exact ⟨⟨rfl,rfl⟩,rfl⟩
end Go.Vm
namespace Go.Vm
open Go Go.Am
@[simp] theorem rh_alD (s n:Nat) (cs:List D) (h:Hp) (k:V→Hp→Prop) (u:PU k):rh (alD s n cs h) k u=rn (bnh h[s]?) (fun x=>k (.ptr s (x.1+1) 0 cs.length) (h.set s (x.1+1,.data n cs true false))) .mk:=by unfold rh rn alD; exact new_bnh ..
def ndg (n:Nat):Nat:=if n < 10 then 1 else ndg (n / 10)+1
theorem ndg_pos (n:Nat):1≤ndg n:=by unfold ndg; split <;> omega
theorem ndg_hi:∀ n:Nat,n < 10 ^ ndg n:=by
 intro n
 induction n using Nat.strongRecOn with
 | _ n ih =>
  unfold ndg
  split
  ·simpa using ‹n < 10›
  ·have:=ih (n / 10) (by omega)
   rw [Nat.pow_succ]
   omega
theorem ndg_lo:∀ n:Nat,0 < n→10 ^ (ndg n - 1)≤n:=by
 intro n
 induction n using Nat.strongRecOn with
 | _ n ih =>
  intro h0
  unfold ndg
  split
  ·simp; omega
  ·have h1:=ih (n / 10) (by omega) (by omega)
   have h2:=ndg_pos (n / 10)
   rw [show ndg (n / 10)+1 - 1=(ndg (n / 10) - 1)+1 by omega,Nat.pow_succ]
   omega
theorem ndg_le {n d:Nat} (h:n < 10 ^ d) (hd:1≤d):ndg n≤d:=by
 rcases Nat.eq_zero_or_pos n with e | e
 ·subst e; unfold ndg; rw [if_pos (by omega)]; exact hd
 ·have h1:=ndg_lo n e
  have:ndg n - 1 < d:=(Nat.pow_lt_pow_iff_right (a:=10) (by decide)).1 (by omega)
  omega
def itoaN (n:Nat):List UInt8:=decD n (ndg n)
def itoa (z:Int):List UInt8:=if z < 0 then 45 :: itoaN z.natAbs else itoaN z.natAbs
def digsT:List UInt8:=[48,49,50,51,52,53,54,55,56,57,97,98,99,100,101,102,103,104,105,106,107,108,109,110,111,112,113,114,115,116,117,118,119,120,121,122]
theorem digsE:([48,49,50,51,52,53,54,55,56,57,97,98,99,100,101,102,103,104,105,106,107,108,109,110,111,112,113,114,115,116,117,118,119,120,121,122]:List UInt8)=digsT:=rfl
theorem small_lo:∀ x:Fin 10,(digsT.drop x.val).take 1=itoaN x.val:=by decide +kernel
theorem small_hi:∀ x:Fin 100,10≤x.val→(smallsT.drop (2 * x.val)).take 2=itoaN x.val:=by
 intro x hx
 have h1:=(show ∀ x:Fin 100,(smallsT.drop (2 * x.val)).take 2=decD x.val 2 by decide +kernel) x
 rw [h1,itoaN]
 congr 1
 unfold ndg
 rw [if_neg (by omega)]
 unfold ndg
 rw [if_pos (by omega)]
theorem slS_at {s:List UInt8} {k l:IntKind} {i j:Int} (a b:Nat) (hi:i=a) (hj:j=b) (h1:a≤b) (h2:b≤s.length):slS (.d (.str s)) (some (.d (.int k i))) (some (.d (.int l j)))=some (.d (.str ((s.drop a).take (b - a)))):=by
 subst hi hj
 simp only [slS,boV]
 rw [if_pos (by omega)]
 simp only []
 rw [if_pos (by omega)]
 simp
theorem small_ok {n:Nat} (h:n < 100):CP Y F.i_strconv_small [I n] (S (itoaN n)):=by
 refine i_strconv_small_i ?_
 unfold i_strconv_small
 simp only [smallsE,digsE]
 by_cases c:n < 10
 ·simp (disch:=first|omega|simp<;>omega|fail)[c]
  rw [slS_at n (n+1) (by omega) (by omega) (by omega) (by rw [show digsT.length=36 from rfl]; omega)]
  have:=small_lo ⟨n,c⟩
  simp only [] at this
  simp (disch:=first|omega|simp<;>omega|fail)[this]
  exact out_s rfl
 ·simp (disch:=first|omega|simp<;>omega|fail)[c]
  rw [slS_at (2 * n) (2 * n+2) (by omega) (by omega) (by omega) (by rw [show smallsT.length=200 from rfl]; omega)]
  have:=small_hi ⟨n,h⟩ (by simpa using c)
  simp only [] at this
  simp (disch:=first|omega|simp<;>omega|fail)[this]
  exact out_s rfl
theorem bytesD_u8:∀ l:List UInt8,bytesD (l.map u8)=some l
 | []=>rfl
 | b :: l=>by
  have hb:=b.toNat_lt
  simp only [List.map_cons,u8,bytesD]
  rw [if_pos (by omega)]
  have:=bytesD_u8 l
  rw [this]
  simp
abbrev cH (cells:List D):Hp:=[(1,.data 1 cells true false),(0,.none)]
theorem slP_at {cells:List D} (hc:cells.length=24) {k l:IntKind} {i j:Int} (a b:Nat) (hi:i=a) (hj:j=b) (h1:a≤b) (h2:b≤24) :
  slP 24 1 (cH cells) (.ptr 0 1 0 24) (some (.d (.int k i))) (some (.d (.int l j)))=some (.ref 0 1 a (b - a) (24 - a) 24):=by
 simp only [slP,cH,hget]
 simp [boV_some hj h2,boV_some hi h1,hc]
theorem slP_at0 {cells:List D} (hc:cells.length=24) {l:IntKind} {j:Int} (b:Nat) (hj:j=b) (h2:b≤24) :
  slP 24 1 (cH cells) (.ptr 0 1 0 24) none (some (.d (.int l j)))=some (.ref 0 1 0 b 24 24):=by
 simp only [slP,cH,hget]
 simp [boV_some hj h2,boV_none,hc]
theorem cvT_at {cells:List D} (hc:cells.length=24) {i len cap:Nat} {bs:List UInt8} (hl:i+len≤24) (he:(cells.drop i).take len=bs.map u8) (hb:bs.length=len):cvT (cH cells) (.ref 0 1 i len cap 24)=some (S bs):=by
 simp only [cvT,cellsOf,cH,hget]
 simp [hc,hl,he,hb,bytesD_u8]
theorem format_ok {z:Int} (h1 : -9223372036854775808 < z) (h2:z < 9223372036854775808):CP Y F.i_strconv_FormatInt [I z,I 10] (S (itoa z)):=by
 refine i_strconv_FormatInt_i ?_
 have hd1:=ndg_pos z.natAbs
 have hd2:ndg z.natAbs≤19:=ndg_le (by omega) (by omega)
 have hn:=ndg_hi z.natAbs
 by_cases hs:0≤z∧z < 100
 ·obtain ⟨hs1,hs2⟩:=hs
  obtain ⟨n,rfl⟩:∃ n:Nat,z=n:=⟨z.toNat,by omega⟩
  simp (disch:=first|omega|simp<;>omega|fail)[i_strconv_FormatInt,hs1,hs2]
  refine cd (small_ok (n:=n) (by omega)) ?_
  rw [show itoa (n:Int)=itoaN n by unfold itoa; rw [if_neg (by omega)]; rfl]
  exact out_s rfl
 ·have hcs:(0≤z∧¬ z < 100)∨¬ 0≤z:=by omega
  have hw:z < 0→IntKind.wrap .u64 z=z+18446744073709551616:=fun h=>by rw [wrap_u64']; omega
  have hw2:z < 0→IntKind.wrap .u64 (-(z+18446744073709551616)) = -z:=fun h=>by rw [wrap_u64']; omega
  have hn64:z.natAbs < 18446744073709551616:=by omega
  have hn0:0 < z.natAbs:=by omega
  have hab:(z.natAbs:Int)=if z < 0 then -z else z:=by split <;> omega
  have hit:itoa z=if z < 0 then 45 :: decD z.natAbs (ndg z.natAbs) else decD z.natAbs (ndg z.natAbs):=rfl
  have hlo:=ndg_lo z.natAbs hn0
  generalize ndg z.natAbs=d at *
  generalize z.natAbs=n at *
  obtain ⟨mid,post,hm,hp,hcell⟩:∃ mid post:List D,mid.length=d∧post.length=23 - d∧List.replicate 24 (D.int .u8 0)=[D.int .u8 0]++(mid++post):=by
   refine ⟨List.replicate d (.int .u8 0),List.replicate (23 - d) (.int .u8 0),by simp,by simp,?_⟩
   rw [List.replicate_append_replicate,show d+(23 - d)=23 by omega]
   rfl
  have hmain:cal (CX Y).p (cH ([D.int .u8 0]++(mid++post))) (.fn F.i_strconv_numDigits [] []) [.d (.int .u64 n)] fun v12 h =>
    bnd (biI .add (.d (.int .i64 1)) v12) fun v13 =>
    bnd (slP 24 1 h (.ptr 0 1 0 24) (some (.d (.int .i64 1))) (some v13)) fun v14 =>
    cai (CX Y).i h (.fn F.i_strconv_formatBase10 [] []) [v14,.d (.int .u64 n)] 1 fun v15 h =>
    bnd (biI .lss (I z) (.d (.int .i64 0))) fun v16 =>
    cnd v16 (
     bnd (ixP 24 1 (.ptr 0 1 0 24) (.d (.int .i64 0))) fun v17 =>
     stD h 1 v17 (.d (.int .u8 45)) fun _ h =>
     bnd (biI .add (.d (.int .i64 1)) v12) fun v19 =>
     bnd (slP 24 1 h (.ptr 0 1 0 24) none (some v19)) fun v20 =>
     bnd (cvT h v20) fun v21 =>
     out (S (itoa z)) v21 h) (
     bnd (biI .add (.d (.int .i64 1)) v12) fun v22 =>
     bnd (slP 24 1 h (.ptr 0 1 0 24) (some (.d (.int .i64 1))) (some v22)) fun v23 =>
     bnd (cvT h v23) fun v24 =>
     out (S (itoa z)) v24 h):=by
   refine cd (u:=.mk) (numDigits_ok hlo hn hd1 hn64) ?_
   simp (disch:=first|omega|simp<;>omega|fail)[]
   rw [slP_at (by simp; omega) 1 (d+1) (by omega) (by omega) (by omega) (by omega)]
   simp (disch:=first|omega|simp<;>omega|fail)[]
   refine cai_of (h':=cH ([D.int .u8 0]++((decD n d).map u8++post))) (fb_ok (pre:=[D.int .u8 0]) rfl hm (by omega) (by omega) hn hn64) ?_ (by simp)
   by_cases g:z < 0
   ·rw [if_pos g] at hit
    simp (disch:=first|omega|simp<;>omega|fail)[g,decD_len,hp]
    rw [st1X_data _ _ _ _ _ _ _ _ _ (by simp [decD_len]; omega) (by simp)]
    simp (disch:=first|omega|simp<;>omega|fail)[hset]
    rw [slP_at0 (by simp [decD_len]; omega) (d+1) (by omega) (by omega)]
    simp (disch:=first|omega|simp<;>omega|fail)[]
    rw [cvT_at (bs:=45 :: decD n d) (by simp [decD_len]; omega) (by omega) (by simp [u8,decD_len,List.take_append,List.take_of_length_le]) (by simp [decD_len])]
    rw [hit]
    simp (disch:=first|omega|simp<;>omega|fail)[]
    exact out_s rfl
   ·rw [if_neg g] at hit
    simp (disch:=first|omega|simp<;>omega|fail)[g]
    rw [slP_at (by simp [decD_len]; omega) 1 (d+1) (by omega) (by omega) (by omega) (by omega)]
    simp (disch:=first|omega|simp<;>omega|fail)[]
    rw [cvT_at (bs:=decD n d) (by simp [decD_len]; omega) (by omega) (by simp [decD_len,List.take_append,List.take_of_length_le]) (by simp [decD_len])]
    rw [hit]
    simp (disch:=first|omega|simp<;>omega|fail)[]
    exact out_s rfl
  rcases hcs with ⟨g1,g2⟩ | g1
  ·have g3:¬ z < 0:=by omega
   rw [if_neg g3] at hab
   simp (disch:=first|omega|simp<;>omega|fail)[i_strconv_FormatInt,g1,g2]
   refine jo_to (l:=[.d (.int .u64 n)]) (h:=cH ([D.int .u8 0]++(mid++post))) (fun q=>?_) hmain
   rw [← hcell]
   simp (disch:=first|omega|simp<;>omega|fail)[g3,hab]
  ·have g3:z < 0:=by omega
   rw [if_pos g3] at hab
   simp (disch:=first|omega|simp<;>omega|fail)[i_strconv_FormatInt,g1]
   refine jo_to (l:=[.d (.int .u64 n)]) (h:=cH ([D.int .u8 0]++(mid++post))) (fun q=>?_) hmain
   rw [← hcell]
   simp (disch:=first|omega|simp<;>omega|fail)[g3,hab,hw g3,hw2 g3]
theorem itoa_i {z:Int} (h1 : -9223372036854775808 < z) (h2:z < 9223372036854775808):CP Y F.i_strconv_Itoa [I z] (S (itoa z)):=by
 refine i_strconv_Itoa_i ?_
 simp (disch:=first|omega|simp<;>omega|fail)[i_strconv_Itoa]
 refine cd (format_ok h1 h2) ?_
 exact out_s rfl
theorem itoa_ok {z:Int} (h1 : -9223372036854775808 < z) (h2:z < 9223372036854775808):CP Y F.strconv_Itoa [I z] (S (itoa z)):=by
 refine strconv_Itoa_i ?_
 simp (disch:=first|omega|simp<;>omega|fail)[strconv_Itoa]
 refine cd (itoa_i h1 h2) ?_
 exact out_s rfl
end Go.Vm
namespace Go.Vm
open Go Go.Am
def isDg (b:UInt8):Bool:=decide (48≤b.toNat) && decide (b.toNat≤57)
theorem isDg_iff {b:UInt8}:isDg b=true↔48≤b.toNat∧b.toNat≤57:=by simp [isDg]
def hornB (a:Nat) (s:List UInt8):Nat:=s.foldl (fun a b=>a * 10+(b.toNat - 48)) a
@[simp] theorem hornB_nil (a:Nat):hornB a []=a:=by unfold hornB; rw [List.foldl_nil]
@[simp] theorem hornB_cons (a:Nat) (b:UInt8) (s:List UInt8):hornB a (b :: s)=hornB (a * 10+(b.toNat - 48)) s:=by unfold hornB; rw [List.foldl_cons]
theorem dg_nat0 (x:Nat):(dg x).toNat=(48+x) % 256:=by simp [dg]
theorem dg_of {b:UInt8} (h:isDg b=true):dg (b.toNat - 48)=b:=by
 rw [isDg_iff] at h
 apply UInt8.toNat.inj
 rw [dg_nat0]
 omega
theorem decD_horn:∀ (s:List UInt8) (a w:Nat),s.all isDg=true→decD (hornB a s) (w+s.length)=decD a w++s
 | [],a,w,_=>by simp
 | b :: s,a,w,h=>by
  simp only [List.all_cons,Bool.and_eq_true] at h
  have:=decD_horn s (a * 10+(b.toNat - 48)) (w+1) h.2
  have hb:=isDg_iff.1 h.1
  rw [hornB_cons,List.length_cons,show w+(s.length+1)=w+1+s.length by omega,this]
  simp only [decD]
  rw [show (a * 10+(b.toNat - 48)) / 10=a by omega,show (a * 10+(b.toNat - 48)) % 10=b.toNat - 48 by omega,dg_of h.1]
  simp
theorem hornB_lo:∀ (s:List UInt8) (a:Nat),a * 10 ^ s.length≤hornB a s
 | [],a=>by simp
 | b :: s,a=>by
  have:=hornB_lo s (a * 10+(b.toNat - 48))
  rw [hornB_cons,List.length_cons,Nat.pow_succ]
  refine Nat.le_trans ?_ this
  rw [Nat.mul_comm (10 ^ s.length),← Nat.mul_assoc]
  exact Nat.mul_le_mul_right _ (by omega)
theorem hornB_hi:∀ (s:List UInt8) (a:Nat),s.all isDg=true→hornB a s < (a+1) * 10 ^ s.length
 | [],a,_=>by simp
 | b :: s,a,h=>by
  simp only [List.all_cons,Bool.and_eq_true] at h
  have:=hornB_hi s (a * 10+(b.toNat - 48)) h.2
  have hb:=isDg_iff.1 h.1
  rw [hornB_cons,List.length_cons,Nat.pow_succ]
  refine Nat.lt_of_lt_of_le this ?_
  rw [Nat.mul_comm (10 ^ s.length),← Nat.mul_assoc]
  exact Nat.mul_le_mul_right _ (by omega)
theorem ndg_eq {n d:Nat} (h1:10 ^ d≤n) (h2:n < 10 ^ (d+1)):ndg n=d+1:=by
 have:=ndg_le h2 (by omega)
 have h3:=ndg_hi n
 have:d < ndg n:=(Nat.pow_lt_pow_iff_right (a:=10) (by decide)).1 (by omega)
 omega
def canT (s:List UInt8):Bool:=!s.isEmpty && s.all isDg && !(decide (1 < s.length) && decide (s.headD 0=48))
theorem itoaN_horn {s:List UInt8} (h:canT s=true):itoaN (hornB 0 s)=s:=by
 simp only [canT,Bool.and_eq_true,Bool.not_eq_true',Bool.and_eq_false_iff,decide_eq_false_iff_not] at h
 obtain ⟨⟨h0,h1⟩,h2⟩:=h
 cases s with
 | nil=>simp at h0
 | cons b s =>
  have hd:=decD_horn (b :: s) 0 0 h1
  simp only [List.all_cons,Bool.and_eq_true] at h1
  have hb:=isDg_iff.1 h1.1
  simp only [Nat.zero_add,decD,List.nil_append] at hd
  have hn:ndg (hornB 0 (b :: s))=(b :: s).length:=by
   have lo:=hornB_lo s (b.toNat - 48)
   have hi:=hornB_hi s (b.toNat - 48) h1.2
   simp only [hornB_cons,Nat.zero_mul,Nat.zero_add,List.length_cons] at *
   by_cases hs:s=[]
   ·subst hs
    simp only [hornB_nil,List.length_nil,Nat.zero_add]
    unfold ndg
    rw [if_pos (by omega)]
   ·have hl:0 < s.length:=List.length_pos_iff.2 hs
    have hb0:b.toNat≠48:=by
     rcases h2 with h2 | h2
     ·omega
     ·intro e
      apply h2
      simp only [List.headD_cons]
      apply UInt8.toNat.inj
      rw [e]; rfl
    refine ndg_eq ?_ ?_
    ·refine Nat.le_trans ?_ lo
     have:=Nat.mul_le_mul_right (10 ^ s.length) (show 1≤b.toNat - 48 by omega)
     omega
    ·refine Nat.lt_of_lt_of_le hi ?_
     rw [Nat.pow_succ,Nat.mul_comm]
     exact Nat.mul_le_mul_left _ (by omega)
  unfold itoaN
  rw [hn]
  exact hd
theorem isDg_dg {x:Nat} (h:x < 10):isDg (dg x)=true:=by
 rw [isDg_iff,dg_nat0]
 omega
theorem dg_nat {x:Nat} (h:x < 10):(dg x).toNat=48+x:=by
 rw [dg_nat0]
 omega
theorem decD_all:∀ (w n:Nat),(decD n w).all isDg=true
 | 0,_=>rfl
 | w+1,n=>by
  simp only [decD,List.all_append,decD_all w,List.all_cons,List.all_nil,Bool.and_true,Bool.true_and]
  exact isDg_dg (by omega)
theorem hornB_append:∀ (s t:List UInt8) (a:Nat),hornB a (s++t)=hornB (hornB a s) t
 | [],t,a=>rfl
 | b :: s,t,a=>by rw [List.cons_append,hornB_cons,hornB_cons,hornB_append s t]
theorem hornB_dec:∀ (w n:Nat),n < 10 ^ w→hornB 0 (decD n w)=n
 | 0,n,h=>by simp at h; subst h; rfl
 | w+1,n,h=>by
  have:=hornB_dec w (n / 10) (by rw [Nat.pow_succ] at h; omega)
  simp only [decD,hornB_append,this,hornB_cons,hornB_nil]
  rw [dg_nat (by omega)]
  omega
theorem canT_itoaN (n:Nat):canT (itoaN n)=true:=by
 have hl:(itoaN n).length=ndg n:=decD_len ..
 have hp:=ndg_pos n
 have ha:(itoaN n).all isDg=true:=decD_all ..
 have hh:hornB 0 (itoaN n)=n:=hornB_dec _ _ (ndg_hi n)
 cases he:itoaN n with
 | nil=>rw [he] at hl; simp at hl; omega
 | cons b s =>
  rw [he] at hl ha hh
  simp only [canT,List.isEmpty_cons,Bool.not_false,Bool.true_and,ha,List.headD_cons,Bool.not_eq_true',Bool.and_eq_false_iff,decide_eq_false_iff_not]
  by_cases h1:1 < (b :: s).length
  ·right
   refine decide_eq_false fun e=>?_
   subst e
   simp only [List.all_cons,Bool.and_eq_true] at ha
   have hi:=hornB_hi s 0 ha.2
   simp only [hornB_cons,List.length_cons] at *
   have e48:(48:UInt8).toNat=48:=rfl
   rw [e48] at hh
   simp only [Nat.sub_self,Nat.zero_mul,Nat.zero_add,Nat.one_mul] at *
   rw [hh] at hi
   have lo:=ndg_lo n (by
    rcases Nat.eq_zero_or_pos n with e | e
    ·have e1:ndg 0=1:=by unfold ndg; rfl
     rw [e,e1] at hl
     omega
    ·exact e)
   rw [← hl] at lo
   simp at lo
   omega
  ·left; simpa using h1
theorem hornB_itoaN (n:Nat):hornB 0 (itoaN n)=n:=hornB_dec _ _ (ndg_hi n)
def rdS (s:List UInt8):Option Int:=if s.headD 0=45 then (if canT s.tail=true∧s.tail≠[48] then some (-(hornB 0 s.tail:Int)) else none) else if canT s=true then some (hornB 0 s:Int) else none
theorem itoaN_ne (n:Nat):itoaN n≠[]:=by
 intro e
 have:(itoaN n).length=ndg n:=decD_len ..
 have:=ndg_pos n
 rw [e] at *
 simp at *
 omega
theorem itoaN_hd (n:Nat):(itoaN n).headD 0≠45:=by
 have ha:(itoaN n).all isDg=true:=decD_all ..
 cases he:itoaN n with
 | nil=>exact absurd he (itoaN_ne n)
 | cons b s =>
  rw [he] at ha
  simp only [List.all_cons,Bool.and_eq_true,isDg_iff] at ha
  simp only [List.headD_cons]
  intro e
  subst e
  have:(45:UInt8).toNat=45:=rfl
  omega
theorem rdS_itoa (z:Int):rdS (itoa z)=some z:=by
 unfold rdS itoa
 by_cases hz:z < 0
 ·rw [if_pos hz,List.headD_cons,if_pos rfl,List.tail_cons,canT_itoaN,hornB_itoaN,if_pos]
  ·congr 1; omega
  ·refine ⟨rfl,fun e=>?_⟩
   have:=hornB_itoaN z.natAbs
   rw [e] at this
   have e2:hornB 0 [48]=0:=rfl
   omega
 ·rw [if_neg hz,if_neg (itoaN_hd _),if_pos (canT_itoaN _),hornB_itoaN]
  congr 1; omega
theorem rdS_some {s:List UInt8} {z:Int} (h:rdS s=some z):s=itoa z:=by
 unfold rdS at h
 split at h
 ·rename_i hd
  split at h
  ·rename_i hc
   simp only [Option.some.injEq] at h
   subst h
   cases s with
   | nil=>simp at hd
   | cons b s =>
    simp only [List.headD_cons] at hd
    subst hd
    simp only [List.tail_cons] at *
    have he:=itoaN_horn hc.1
    have h0:hornB 0 s≠0:=by
     intro e
     rw [e] at he
     apply hc.2
     rw [← he]
     unfold itoaN ndg
     rfl
    unfold itoa
    rw [if_pos (by omega),Int.natAbs_neg,Int.natAbs_natCast,he]
  ·cases h
 ·split at h
  ·rename_i hc
   simp only [Option.some.injEq] at h
   subst h
   unfold itoa
   rw [if_neg (by omega),Int.natAbs_natCast,itoaN_horn hc]
  ·cases h
theorem decD_add:∀ (v w n:Nat),decD n (w+v)=decD (n / 10 ^ v) w++decD n v
 | 0,w,n=>by simp [decD]
 | v+1,w,n=>by
  rw [show w+(v+1)=(w+v)+1 by omega]
  simp only [decD]
  rw [decD_add v w (n / 10),Nat.div_div_eq_div_mul,Nat.pow_succ,Nat.mul_comm 10,List.append_assoc]
theorem decD_mod:∀ (w n m:Nat),decD (n+10 ^ w * m) w=decD n w
 | 0,_,_=>rfl
 | w+1,n,m=>by
  simp only [decD]
  have e:n+10 ^ (w+1) * m=n+10 * (10 ^ w * m):=by rw [Nat.pow_succ,Nat.mul_comm (10 ^ w) 10,Nat.mul_assoc]
  rw [e,Nat.add_mul_div_left _ _ (by decide),Nat.add_mul_mod_self_left,decD_mod w]
theorem decD_zero:∀ w,decD 0 w=List.replicate w 48
 | 0=>rfl
 | w+1=>by
  simp only [decD,Nat.zero_div,Nat.zero_mod,decD_zero w]
  rw [List.replicate_succ']
  rfl
theorem pad_dec {n w:Nat} (h:ndg n≤w):List.replicate (w - ndg n) 48++itoaN n=decD n w:=by
 have:=decD_add (ndg n) (w - ndg n) n
 rw [show w - ndg n+ndg n=w by omega,Nat.div_eq_of_lt (ndg_hi n),decD_zero] at this
 exact this.symm
theorem itoaN_app {t k r:Nat} (ht:0 < t) (hr:r < 10 ^ k):itoaN (r+10 ^ k * t)=itoaN t++decD r k:=by
 have h1:=ndg_lo t ht
 have h2:=ndg_hi t
 have h3:=ndg_pos t
 obtain ⟨d,hd⟩:∃ d,ndg t=d+1:=⟨ndg t - 1,by omega⟩
 have hn:ndg (r+10 ^ k * t)=ndg t+k:=by
  rw [hd] at h1 h2 ⊢
  simp only [Nat.add_sub_cancel] at h1
  rw [show d+1+k=(d+k)+1 by omega]
  refine ndg_eq ?_ ?_
  ·rw [Nat.pow_add,Nat.mul_comm]
   have:=Nat.mul_le_mul_left (10 ^ k) h1
   omega
  ·rw [show d+k+1=k+(d+1) by omega,Nat.pow_add]
   have:=Nat.mul_le_mul_left (10 ^ k) h2
   rw [Nat.mul_succ] at this
   omega
 have e:=decD_add k (ndg t) (r+10 ^ k * t)
 rw [← hn,Nat.add_mul_div_left _ _ (Nat.pos_of_ne_zero (by have:=Nat.pow_pos (a:=10) (n:=k) (by decide); omega)),Nat.div_eq_of_lt hr,Nat.zero_add,decD_mod] at e
 exact e
end Go.Vm
namespace Go.Vm
open Go Go.Am
theorem and_small:∀ a:Fin 10,biI .and (.d (.int .u64 a.val)) (.d (.int .u64 4294967295))=some (.d (.int .u64 a.val)):=by
 intro a
 match a with
 | 0 | 1 | 2 | 3 | 4 | 5 | 6 | 7 | 8 | 9=>rfl
@[simp] theorem and_s {n:Nat} (h:n < 10):biI .and (.d (.int .u64 (n:Int))) (.d (.int .u64 4294967295))=some (.d (.int .u64 n)):=and_small ⟨n,h⟩
@[simp] theorem and_s1:biI .and (.d (.int .u64 1)) (.d (.int .u64 4294967295))=some (.d (.int .u64 1)):=and_small 1
@[simp] theorem and_s0:biI .and (.d (.int .u64 0)) (.d (.int .u64 4294967295))=some (.d (.int .u64 0)):=and_small 0
theorem mul64_small {n:Nat} (h:n < 10):CP Y F.math_bits_Mul64 [.d (.int .u64 1),.d (.int .u64 n)] (.tup [.d (.int .u64 0),.d (.int .u64 n)]):=by
 refine math_bits_Mul64_i ?_
 have e:(n:Int) / 4294967296=0:=by omega
 simp (disch:=first|omega|simp<;>omega|fail)[math_bits_Mul64,e]
 exact ⟨[],by simp [snap,snaps]⟩
theorem mul_small {n:Nat} (h:n < 10):CP Y F.math_bits_Mul [.d (.int .u64 1),.d (.int .u64 n)] (.tup [.d (.int .u64 0),.d (.int .u64 n)]):=by
 refine math_bits_Mul_i ?_
 simp (disch:=first|omega|simp<;>omega|fail)[math_bits_Mul]
 refine cd (mul64_small h) ?_
 simp (disch:=first|omega|simp<;>omega|fail)[]
 exact ⟨[],by simp [snap,snaps]⟩
theorem ix0:ixS (.d (.str [48])) (.d (.int .i64 0))=some (.d (.int .u8 48)):=rfl
theorem len0:lenS (.d (.str [48]))=some (I 1):=rfl
theorem hp_is {s p:List UInt8} (b:Bool) (h:p.isPrefixOf s=b):CP Y F.strings_HasPrefix [S s,S p] (B b):=by subst h; exact hasPrefix_ok s p
theorem repeat_ok {n:Nat} (h:n < 10):CP Y F.strings_Repeat [S [48],I n] (S (List.replicate n 48)):=by
 refine strings_Repeat_i ?_
 by_cases h0:n=0
 ·subst h0
  simp (disch:=first|omega|simp<;>omega|fail)[strings_Repeat]
  exact out_s rfl
 by_cases h1:n=1
 ·subst h1
  simp (disch:=first|omega|simp<;>omega|fail)[strings_Repeat]
  exact out_s rfl
 have h0':¬ (n:Int)=0:=by omega
 have h1':¬ (n:Int)=1:=by omega
 simp (disch:=first|omega|simp<;>omega|fail)[strings_Repeat,h0',h1']
 refine jo_to (l:=[]) (h:=[(0,.none)]) (fun q=>?_) ?_
 ·simp (disch:=first|omega|simp<;>omega|fail)[]
 simp (disch:=first|omega|simp<;>omega|fail)[len0]
 refine cd (mul_small h) ?_
 simp (disch:=first|omega|simp<;>omega|fail)[]
 refine jo_to (l:=[]) (h:=[(0,.none)]) (fun q=>?_) ?_
 ·simp (disch:=first|omega|simp<;>omega|fail)[]
 simp (disch:=first|omega|simp<;>omega|fail)[len0,ix0]
 have hwr:IntKind.wrap .i64 (n:Int)=n:=wrap_i64' (by omega) (by omega)
 refine jo_in ?_
 simp (disch:=first|omega|simp<;>omega|fail)[]
 refine jo_to (l:=[.d (.bool true)]) (h:=[(0,.none)]) (fun q=>?_) ?_
 ·simp (disch:=first|omega|simp<;>omega|fail)[jo]
 simp (disch:=first|omega|simp<;>omega|fail)[]
 refine jo_in ?_
 simp (disch:=first|omega|simp<;>omega|fail)[]
 refine cd (hp_is false rfl) ?_
 simp (disch:=first|omega|simp<;>omega|fail)[]
 refine cd (hp_is false rfl) ?_
 simp (disch:=first|omega|simp<;>omega|fail)[]
 refine cd (hp_is true rfl) ?_
 simp (disch:=first|omega|simp<;>omega|fail)[]
 have ht:∀ x:Fin 10,List.take x.val (List.replicate 64 (48:UInt8))=List.replicate x.val 48:=by decide +kernel
 exact out_s (ht ⟨n,h⟩)
end Go.Vm
namespace Go.Vm
open Go Go.Am
def decN:Nat→Nat→List Nat
 | _,0=>[]
 | n,w+1=>decN (n / 10) w++[n % 10]
theorem decN_len:∀ (w n:Nat),(decN n w).length=w
 | 0,_=>rfl
 | w+1,n=>by simp [decN,decN_len w]
theorem decN_lt:∀ (w n:Nat),∀ x ∈ decN n w,x < 10
 | 0,_=>by simp [decN]
 | w+1,n=>by
  intro x hx
  simp only [decN,List.mem_append,List.mem_singleton] at hx
  rcases hx with hx | hx
  ·exact decN_lt w _ x hx
  ·omega
theorem decD_N:∀ (w n:Nat),decD n w=(decN n w).map dg
 | 0,_=>rfl
 | w+1,n=>by simp [decD,decN,decD_N w]
def horn (a:Nat) (l:List Nat):Nat:=l.foldl (fun a d=>a * 10+d) a
theorem horn_dec:∀ (w n:Nat),n < 10 ^ w→horn 0 (decN n w)=n
 | 0,n,h=>by simp at h; subst h; rfl
 | w+1,n,h=>by
  have:=horn_dec w (n / 10) (by rw [Nat.pow_succ] at h; omega)
  unfold horn at this
  simp only [horn,decN,List.foldl_append,this,List.foldl_cons,List.foldl_nil]
  omega
def f8 (x:Nat):D:=.int .u8 (48+x)
theorem dec_f8 (n w:Nat):(decD n w).map u8=(decN n w).map f8:=by
 rw [decD_N,List.map_map]
 apply List.map_congr_left
 intro x hx
 exact u8_dg (decN_lt w n x hx)
theorem at_loop (k:KL) (h0:Hp) (hh:h0.length=0):∀ (r a:List Nat) (s:Nat),(a++r).length≤18→(∀ x ∈ r,x < 10)→s < 10 ^ a.length →
  (k (.exit 0) [I (horn s r)] []) →
  lp (i_strconv_Atoi_l0 (CX Y) (lst f8 (a++r)) (I (a++r).length)) [] h0 [I s,I a.length] [] k
 | []=>by
  intro a s hN hx hs hk
  refine lp_in ?_
  simp (disch:=first|omega|simp<;>omega|fail)[i_strconv_Atoi_l0]
  exact hk
 | x :: r=>by
  intro a s hN hx hs hk
  simp at hN hx
  have hs18:s < 10 ^ 17:=Nat.lt_of_lt_of_le hs (Nat.pow_le_pow_right (by decide) (by omega))
  simp only [Nat.reducePow] at hs18
  have hx1:=hx.1
  refine lp_in ?_
  simp (disch:=first|omega|simp<;>omega|fail)[i_strconv_Atoi_l0,f8]
  have:=at_loop k h0 hh r (a++[x]) (s * 10+x) (by simp; omega) hx.2 (by simp [Nat.pow_succ]; omega) hk
  simp at this
  rw [show (48+(x:Int) - 48)=x by omega]
  exact this
theorem atoi_in {n w:Nat} (h1:1≤w) (h2:w≤18) (hn:n < 10 ^ w):CP Y F.i_strconv_Atoi [S (decD n w)] (.tup [I n,.d (.pl .nilIface)]):=by
 refine i_strconv_Atoi_i ?_
 have hl:=decN_len w n
 have hlt:=decN_lt w n
 have hh:=horn_dec w n hn
 have he:=dec_f8 n w
 have hD:=decD_N w n
 generalize decD n w=L at *
 generalize decN n w=l at *
 cases l with
 | nil=>simp at hl; omega
 | cons x l =>
  have hx:=hlt x (by simp)
  have hi:ixS (S L) (.d (.int .i64 0))=some (.d (.int .u8 (48+x))):=by
   rw [hD]
   simp [ixS]
   have e:=u8_dg hx
   unfold u8 at e
   injection e
  have hlen:L.length=w:=by rw [hD]; simpa using hl
  have hlw:lenS (S L)=some (I w):=by rw [lenS_S,hlen]
  simp (disch:=first|omega|simp<;>omega|fail)[i_strconv_Atoi,hlw,hi]
  have hcv:∀ (k:V→Hp→Prop),cvB (S L) [] k=k (lst f8 (x :: l)) []:=by
   intro k
   have:V.d (.sl L.length (L.map fun b=>.int .u8 b.toNat))=lst f8 (x :: l):=by
    unfold lst
    rw [hlen,hl,← he]
    rfl
   simp only [cvB,this]
  refine jo_to (l:=[S L]) (h:=[]) (fun q=>?_) ?_
  ·simp (disch:=first|omega|simp<;>omega|fail)[show ¬ (48+(x:Int)=43) by omega]
  show cvB (S L) [] _
  rw [hcv]
  simp (disch:=first|omega|simp<;>omega|fail)[]
  refine lo (at_loop _ _ rfl (x :: l) [] 0 (by simp at hl; simp; omega) hlt (by simp) ?_)
  simp (disch:=first|omega|simp<;>omega|fail)[hi,hh]
  refine jo_to (l:=[I n]) (h:=[]) (fun q=>?_) ?_
  ·simp (disch:=first|omega|simp<;>omega|fail)[hh,show ¬ (48+(x:Int)=45) by omega]
  exact ⟨[],by simp [snap,snaps,norm]⟩
theorem nil_ne:biF .neq (.d (.pl .nilIface)) (.d (.pl .nilIface))=some (.d (.bool false)):=rfl
theorem atoi_ok {n w:Nat} (h1:1≤w) (h2:w≤18) (hn:n < 10 ^ w):CP Y F.strconv_Atoi [S (decD n w)] (.tup [I n,.d (.pl .nilIface)]):=by
 refine strconv_Atoi_i ?_
 simp (disch:=first|omega|simp<;>omega|fail)[strconv_Atoi]
 refine cd (atoi_in h1 h2 hn) ?_
 simp (disch:=first|omega|simp<;>omega|fail)[nil_ne]
 exact ⟨[],by simp [snap,snaps,norm]⟩
end Go.Vm
