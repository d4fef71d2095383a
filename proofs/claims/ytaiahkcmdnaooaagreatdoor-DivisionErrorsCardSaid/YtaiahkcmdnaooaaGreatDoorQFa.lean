/- Products of 64 bits; quick logarithms. -/
import Derived.Test.YtaiahkcmdnaooaaGreatDoorQRefRow
import Derived.Test.YtaiahkcmdnaooaaGreatDoorQT
import Derived.Test.YtaiahkcmdnaooaaGreatDoorQWalk
import Derived.Test.YtaiahkcmdnaooaaGreatDoorQWsX
set_option linter.unusedVariables false
set_option linter.unusedSimpArgs false
namespace Go.Vm
open Go Go.Am Go.Big
abbrev UN (n:Nat):V:=.d (.int .u64 (n:Int))
theorem PG {a:Nat} (h:a<18446744073709551616):biI .and (UN a) (UN 4294967295)=some (UN (a % 4294967296)):=by
 have ea:(BitVec.ofInt 64 (a:Int)).toNat=a:=by simp [BitVec.toNat_ofInt];omega
 have eb:(BitVec.ofInt 64 ((4294967295:Nat):Int)).toNat=4294967295:=by rfl
 have hm:a &&& 4294967295=a % 4294967296:=Nat.and_two_pow_sub_one_eq_mod a 32;have e:(BitVec.ofInt 64 (a:Int) &&& BitVec.ofInt 64 ((4294967295:Nat):Int)).toNat=a % 4294967296:=by rw [BitVec.toNat_and,ea,eb,hm]
 show jK (some (Value.int .u64 (IntKind.wrap .u64 ((BitVec.ofInt 64 (a:Int) &&& BitVec.ofInt 64 ((4294967295:Nat):Int)).toNat:Int))))=_
 rw [e,wrap_u64 aa];rfl
theorem XP {a b:Nat} (ha:a<18446744073709551616) (hb:b<18446744073709551616):biI .or (UN a) (UN b)=some (UN (a ||| b)):=by
 have h:a ||| b<2 ^ 64:=Nat.or_lt_two_pow (n:=64) ha hb;have ea:(BitVec.ofInt 64 (a:Int)).toNat=a:=by simp [BitVec.toNat_ofInt];omega
 have eb:(BitVec.ofInt 64 (b:Int)).toNat=b:=by simp [BitVec.toNat_ofInt];omega
 have e:(BitVec.ofInt 64 (a:Int) ||| BitVec.ofInt 64 (b:Int)).toNat=a ||| b:=by rw [BitVec.toNat_or,ea,eb]
 show jK (some (Value.int .u64 (IntKind.wrap .u64 ((BitVec.ofInt 64 (a:Int) ||| BitVec.ofInt 64 (b:Int)).toNat:Int))))=_
 rw [e,wrap_u64 aa];rfl
theorem FE (a:Nat):biI .shr (UN a) (UN 32)=some (UN (a / 4294967296)):=by
 have:=DJ (k:=.u64) (l:=.u64) (a:=a) (b:=32) ae
 rwa [show (2:Nat) ^ 32=4294967296 from rfl] at this
theorem NN (a b:Nat):biI .mul (UN a) (UN b)=some (UN (a*b % 18446744073709551616)):=by
 have:IntKind.wrap .u64 ((a:Int)*b)=((a*b % 18446744073709551616:Nat):Int):=by
  rw [<- Int.natCast_mul];unfold IntKind.wrap;simp [IntKind.bits,IntKind.signed]
 rw [kG,this]
theorem Ie (x0 x1 y0 y1 B:Nat) (hB:0<B):(x1*B+x0)*(y1*B+y0) / (B*B)=x1*y1+(x1*y0+x0*y0 / B) / B+((x1*y0+x0*y0 / B) % B+x0*y1) / B:=by
 have e:(x1*B+x0)*(y1*B+y0)=x0*y0+B*(x1*y0+x0*y1+B*(x1*y1)):=by
  simp only [Nat.add_mul,Zp];have e1:x1*B*(y1*B)=B*(B*(x1*y1)):=by simp only [Zx,Za]
  have e2:x1*B*y0=B*(x1*y0):=by simp only [Zx,Za]
  have e3:x0*(y1*B)=B*(x0*y1):=by simp only [Zx,Za]
  rw [e1,e2,e3];omega
 rw [e,<- X0,Yx _ _ hB];generalize x0*y0 / B=c;have e2:c+(x1*y0+x0*y1+B*(x1*y1))=(x1*y0+c+x0*y1)+B*(x1*y1):=aa;rw [e2,Yx _ _ hB];generalize x1*y0+c=t;have e3:t+x0*y1=(t % B+x0*y1)+B*(t / B):=by have:=X3 t B;omega
 rw [e3,Yx _ _ hB];omega
theorem NP {a b:Nat} (ha:a<18446744073709551616) (hb:b<18446744073709551616):CP Y F.et [UN a,UN b] (.tup [UN (a*b / 18446744073709551616),UN (a*b % 18446744073709551616)]):=by
 refine uR ?_;obtain ⟨x0,hx0⟩:∃ x0,x0=a % 4294967296:=⟨_,rfl⟩;obtain ⟨x1,hx1⟩:∃ x1,x1=a / 4294967296:=⟨_,rfl⟩;obtain ⟨y0,hy0⟩:∃ y0,y0=b % 4294967296:=⟨_,rfl⟩;obtain ⟨y1,hy1⟩:∃ y1,y1=b / 4294967296:=⟨_,rfl⟩;have bx0:x0<=4294967295:=aa;have bx1:x1<=4294967295:=aa;have by0:y0<=4294967295:=aa;have by1:y1<=4294967295:=aa
 have m00:x0*y0<=4294967295*4294967295:=Zs bx0 by0;have m10:x1*y0<=4294967295*4294967295:=Zs bx1 by0;have m01:x0*y1<=4294967295*4294967295:=Zs bx0 by1;have m11:x1*y1<=4294967295*4294967295:=Zs bx1 by1;have e:=Ie x0 x1 y0 y1 4294967296 ae;rw [show x1*4294967296+x0=a by omega,show y1*4294967296+y0=b by omega] at e
 have hab:a*b / (4294967296*4294967296)<=18446744073709551615:=by
  have:a*b<=18446744073709551615*18446744073709551615:=Zs aa aa;omega
 have q1:=yx (a:=x0) (b:=y0) aa;have q2:=yx (a:=x1) (b:=y0) aa;have q3:=s6 (a:=x1*y0) (b:=x0*y0 / 4294967296) aa;have q4:=PG (a:=x1*y0+x0*y0 / 4294967296) aa;have q5:=yx (a:=x0) (b:=y1) aa;have q6:=s6 (a:=(x1*y0+x0*y0 / 4294967296) % 4294967296) (b:=x0*y1) aa;have q7:=yx (a:=x1) (b:=y1) aa
 have q8:=s6 (a:=x1*y1) (b:=(x1*y0+x0*y0 / 4294967296) / 4294967296) aa;have q9:=s6 (a:=x1*y1+(x1*y0+x0*y0 / 4294967296) / 4294967296) (b:=((x1*y0+x0*y0 / 4294967296) % 4294967296+x0*y1) / 4294967296) aa;have r1:=PG ha;have r2:=PG hb;have r3:=FE a;have r4:=FE b;rw [<- hx0] at r1;rw [<- hy0] at r2;rw [<- hx1] at r3;rw [<- hy1] at r4
 have r1':biI .and (UN a) (.d (.int .u64 4294967295))=some (UN x0):=r1;have r2':biI .and (UN b) (.d (.int .u64 4294967295))=some (UN y0):=r2;have r3':biI .shr (UN a) (.d (.int .u64 32))=some (UN x1):=r3;have r4':biI .shr (UN b) (.d (.int .u64 32))=some (UN y1):=r4;have s1:biI .shr (UN (x0*y0)) (.d (.int .u64 32))=some (UN (x0*y0 / 4294967296)):=FE _
 have q4':biI .and (UN (x1*y0+x0*y0 / 4294967296)) (.d (.int .u64 4294967295))=some (UN ((x1*y0+x0*y0 / 4294967296) % 4294967296)):=q4;have s2:biI .shr (UN (x1*y0+x0*y0 / 4294967296)) (.d (.int .u64 32))=some (UN ((x1*y0+x0*y0 / 4294967296) / 4294967296)):=FE _
 have s3:biI .shr (UN ((x1*y0+x0*y0 / 4294967296) % 4294967296+x0*y1)) (.d (.int .u64 32))=some (UN (((x1*y0+x0*y0 / 4294967296) % 4294967296+x0*y1) / 4294967296)):=FE _;have mw:=NN a b;simp only [et,r1',r2',r3',r4',vG,q1,q2,s1,q3,q4',s2,q5,q6,q7,q8,s3,q9,mw];rw [<- e];exact av rfl rfl
theorem YH (A B:Prop):cnd (.d (.bool true)) A B=A:=rfl
theorem Vk (A B:Prop):cnd (.d (.bool false)) A B=B:=rfl
def E62:Nat:=4611686018427387904
def E63:Nat:=9223372036854775808
def qp:Nat->Nat->Nat->Nat->Option Nat
 | 0,_,_,out=>some out
 | r+1,low,high,out=>
  cond (Nat.ble E63 (low*low / E62)) (qp r (low*low / E62 / 2) ((high*high / E62+1) / 2+1) (out*2+1))
   (cond (Nat.ble E63 (high*high / E62+1)) none (qp r (low*low / E62) (high*high / E62+1) (out*2)))
def tw (p:Nat):Option Nat:=qp 26 (p*2 ^ (62-(bn p-1))) (p*2 ^ (62-(bn p-1))) (bn p-1)
def OF:Option Nat->V
 | some a=>.tup [I a,B true]
 | none=>.tup [I 0,B false]
theorem Mt {x:Nat} (h:x<E63):x*x / E62<=18446744073709551612:=by
 have:x*x<=(E63-1)*(E63-1):=Zs aa aa;exact Z2 (Nat.div_le_div_right this) ae
theorem Ms {x:Nat} (h:x<E63):x*x / 18446744073709551616*4 ||| x*x % 18446744073709551616 / E62=x*x / E62:=by
 have h1:x*x % 18446744073709551616 / E62<2 ^ 2:=by unfold E62;omega
 have:=Nat.two_pow_add_eq_or_of_lt h1 (x*x / 18446744073709551616);rw [show (2:Nat) ^ 2=4 from rfl,Zx] at this;rw [<- this];unfold E62;omega
theorem J2 {x:Nat} (h:x<E63):∃ a b:Nat,CP Y F.et [UN x,UN x] (.tup [UN a,UN b])∧biI .shl (UN a) (.d (.int .u64 2))=some (UN (a*4))∧biI .shr (UN b) (.d (.int .u64 62))=some (UN (b / E62))∧biI .or (UN (a*4)) (UN (b / E62))=some (UN (x*x / E62)):=by
 have hx:x<18446744073709551616:=by unfold E63 at h;omega
 have hle:=Mt h;have ha:x*x / 18446744073709551616*4<18446744073709551616:=by unfold E62 at hle;omega
 refine ⟨x*x / 18446744073709551616,x*x % 18446744073709551616,NP hx hx,?_,?_,?_⟩
 ·rw [vH aa ae]
  have:IntKind.wrap .u64 (((x*x / 18446744073709551616:Nat):Int)*2 ^ (2:Int).toNat)=((x*x / 18446744073709551616*4:Nat):Int):=by
   rw [show (2:Int) ^ (2:Int).toNat=4 from rfl,show ((x*x / 18446744073709551616:Nat):Int)*4=((x*x / 18446744073709551616*4:Nat):Int) by rw [Int.natCast_mul];rfl];exact wrap_u64 ⟨aa,aa⟩
  rw [this]
 ·exact DJ (k:=.u64) (l:=.u64) (a:=x*x % 18446744073709551616) (b:=62) ae
 ·rw [XP ha (by unfold E62;omega),Ms h]
theorem wG (k:KL):∀ (r low high out:Nat),r<=26->low<E63->high<E63->out<2 ^ (31-r) ->
  (∀ a,qp r low high out=some a->k (.exit 0) [I a] [])->(qp r low high out=none->k .ret [I 0,B false] []) ->
  lp (nD (CX Y)) [] [] [UN low,UN high,I out,I ((26-r:Nat):Int)] [] k
 | 0,low,high,out,hr,hl,hh,ho,h0,h1=>by
  refine ax ?_;simp (disch:=try exact ac)[nD];exact h0 out rfl
 | r+1,low,high,out,hr,hl,hh,ho,h0,h1=>by
  have g1:((26-(r+1):Nat):Int)<26:=aa;obtain ⟨a,b,m1,m2,m3,m4⟩:=J2 hl;obtain ⟨a',b',n1,n2,n3,n4⟩:=J2 hh;have l1:=Mt hl;have l2:=Mt hh;have ho2:out<2147483648:=Z1 ho (Z4 ae (by omega:31-(r+1)<=31));have hpow:2 ^ (31-r)=2 ^ (31-(r+1))*2:=by rw [<- Nat.pow_succ];congr 1;omega
  have hc:((26-(r+1):Nat):Int)+1=((26-r:Nat):Int):=aa;simp only [qp] at h0 h1;obtain ⟨L,hL⟩:∃ L,L=low*low / E62:=⟨_,rfl⟩;obtain ⟨M,hM⟩:∃ M,M=high*high / E62:=⟨_,rfl⟩;rw [<- hL] at h0 h1 l1 m4;rw [<- hM] at h0 h1 l2 n4;have p1:=s6 (a:=M) (b:=1) aa;have p1':biI .add (UN M) (.d (.int .u64 1))=some (UN (M+1)):=p1;refine ax ?_
  have b1:Nat.ble E63 L=decide ((9223372036854775808:Int)<=(L:Int)):=by
   rw [Yr,decide_eq_true_eq];refine ⟨fun h=>?_,fun h=>Nat.ble_eq_true_of_le (by unfold E63;omega)⟩;have:=Nat.le_of_ble_eq_true h;unfold E63 at this;omega
  have b2:Nat.ble E63 (M+1)=decide ((9223372036854775808:Int)<=((M+1:Nat):Int)):=by
   rw [Yr,decide_eq_true_eq];refine ⟨fun h=>?_,fun h=>Nat.ble_eq_true_of_le (by unfold E63;omega)⟩;have:=Nat.le_of_ble_eq_true h;unfold E63 at this;omega
  have s1:biI .shr (UN L) (.d (.int .u64 1))=some (UN (L / 2)):=DJ (k:=.u64) (l:=.u64) (a:=L) (b:=1) ae;have s2:biI .shr (UN (M+1)) (.d (.int .u64 1))=some (UN ((M+1) / 2)):=DJ (k:=.u64) (l:=.u64) (a:=M+1) (b:=1) ae;have p2:=s6 (a:=(M+1) / 2) (b:=1) aa;have p2':biI .add (UN ((M+1) / 2)) (.d (.int .u64 1))=some (UN ((M+1) / 2+1)):=p2;rw [b1,b2] at h0 h1
  obtain ⟨N1,hN1⟩:∃ N1,N1=M+1:=⟨_,rfl⟩;rw [<- hN1] at h0 h1 p1' s2 p2';obtain ⟨HL,hHL⟩:∃ HL,HL=L / 2:=⟨_,rfl⟩;obtain ⟨HM,hHM⟩:∃ HM,HM=N1 / 2+1:=⟨_,rfl⟩;rw [<- hHL] at h0 h1 s1;rw [<- hHM] at h0 h1 p2';simp (disch:=try exact ac)[nD,g1];refine aC ?_;simp (disch:=try exact ac)[];refine cd m1 ?_;simp (disch:=try exact ac)[m2,m3,m4]
  refine cd n1 ?_;simp (disch:=try exact ac)[n2,n3,n4,p1'];by_cases c1:(9223372036854775808:Int)<=(L:Int)
  ·have ih:=wG k r HL HM (out*2+1) aa (by unfold E63;omega) (by unfold E63;omega) aa;rw [decide_eq_true c1] at h0 h1;have:=ih h0 h1;rw [decide_eq_true c1];refine aC ?_;refine Eq.mpr (YH _ _) ?_;simp (disch:=try exact ac)[s1,s2,p2',hc];have e25:((25-r:Nat):Int)+1=((26-r:Nat):Int):=aa;rw [e25]
   rw [show ((out*2+1:Nat):Int)=(out:Int)*2+1 by omega] at this;exact this
  ·rw [decide_eq_false c1] at h0 h1;by_cases c2:(9223372036854775808:Int)<=(N1:Int)
   ·rw [decide_eq_true c2] at h0 h1;rw [decide_eq_false c1];refine aC ?_;refine Eq.mpr (Vk _ _) ?_;simp (disch:=try exact ac)[c2];exact h1 rfl
   ·have ih:=wG k r L N1 (out*2) aa (by unfold E63;omega) (by unfold E63;omega) aa;rw [decide_eq_false c2] at h0 h1;have:=ih h0 h1;rw [decide_eq_false c1];refine aC ?_;refine Eq.mpr (Vk _ _) ?_;simp (disch:=try exact ac)[c2,hc];have e25:((25-r:Nat):Int)+1=((26-r:Nat):Int):=aa;rw [e25]
    rw [show ((out*2:Nat):Int)=(out:Int)*2 by omega] at this;exact this
theorem fast_ok {p:Nat} (hp:2<=p) (hp2:p<1000000):CP Y F.nP [I p] (OF (tw p)):=by
 refine Fx ?_;obtain ⟨hk0,hpk,hk1⟩:=lH (n:=p) aa
 have hk20:bn p<=20:=by
  have:2 ^ (bn p-1)<2 ^ 20:=aa;have:=(Zc (by decide:1<2)).1 this;omega
 have c1:cvI .u64 (I p)=some (UN p):=TE aa;have lb:=JU (n:=p) aa
 have hb:p*2 ^ (62-(bn p-1))<E63:=by
  have h1:p<2 ^ bn p:=aa;have h2:p*2 ^ (62-(bn p-1))<2 ^ bn p*2 ^ (62-(bn p-1)):=Nat.mul_lt_mul_of_pos_right h1 (Yk ae);rw [<- Yy,show bn p+(62-(bn p-1))=63 by omega] at h2;exact h2
 have sl:biI .shl (UN p) (I ((62:Int)-((bn p:Int)-1)))=some (UN (p*2 ^ (62-(bn p-1)))):=by
  rw [vH aa (by show _<=64;omega)];have e1:((62:Int)-((bn p:Int)-1)).toNat=62-(bn p-1):=aa;rw [e1];have e2:(p:Int)*2 ^ (62-(bn p-1))=((p*2 ^ (62-(bn p-1)):Nat):Int):=by rw [Int.natCast_mul,Int.natCast_pow];rfl
  rw [e2,wrap_u64 ⟨aa,by unfold E63 at hb;omega⟩]
 have g:=wG (exK [((.exit 0),fun l7 h=>out (OF (tw p)) (.tup [(ge l7 0),(.d (.bool true))]) h),(.ret,fun l7 h=>out (OF (tw p)) (.tup [(ge l7 0),(ge l7 1)]) h)]) 26 (p*2 ^ (62-(bn p-1))) (p*2 ^ (62-(bn p-1))) (bn p-1) ae hb hb (by show _<2 ^ 5;omega) (fun a ha=>by
   have:tw p=some a:=ha;rw [this];simp (disch:=try exact ac)[];exact av rfl rfl) (fun ha=>by
   have:tw p=none:=ha;rw [this];simp (disch:=try exact ac)[];exact av rfl rfl)
 have hk:((bn p-1:Nat):Int)=(bn p:Int)-1:=aa;rw [hk] at g;simp (disch:=try exact ac)[nP,c1];refine cd lb ?_;generalize p*2 ^ (62-(bn p-1))=P at *;simp (disch:=try exact ac)[sl];exact g
theorem sT:∀ (r low high out a:Nat),qp r low high out=some a->a<(out+1)*2 ^ r
 | 0,low,high,out,a,h=>by simp only [qp,Z9] at h;subst h;simp
 | r+1,low,high,out,a,h=>by
  have e:∀ x:Nat,(x+1)*2 ^ (r+1)=(2*x+2)*2 ^ r:=fun x=>by rw [Nat.pow_succ,Zx (2 ^ r) 2,<- Nat.mul_assoc];congr 1;omega
  rw [e];simp only [qp] at h;cases c1:Nat.ble E63 (low*low / E62) with
  | true=>
   rw [c1] at h;have:=sT r _ _ _ a h
   rwa [show out*2+1+1=2*out+2 by omega] at this
  | false=>
   rw [c1] at h;cases c2:Nat.ble E63 (high*high / E62+1) with
   | true=>rw [c2] at h;cases h
   | false=>
    rw [c2] at h;have:=sT r _ _ _ a h;exact Z1 this (Z0 _ aa)
theorem OE {p a:Nat} (hp:2<=p) (hp2:p<1000000) (h:tw p=some a):a<1342177280:=by
 obtain ⟨hk0,hpk,hk1⟩:=lH (n:=p) aa
 have hk20:bn p<=20:=by
  have:2 ^ (bn p-1)<2 ^ 20:=aa;have:=(Zc (by decide:1<2)).1 this;omega
 have:=sT _ _ _ _ _ h;have h2:(bn p-1+1)*2 ^ 26<=20*2 ^ 26:=Z0 _ aa;omega
theorem SU (x y:Int):mx2 false x y=min x y:=by unfold mx2;simp;omega
theorem Ia (x y:Int):mx2 true x y=max x y:=by unfold mx2;simp;omega
def gE (most:Int):List (Int × Int)->Int × Int->Option (Int × Int)
 | [],a=>some a
 | t::ts,a=>if most<t.2∨t.2 < -most then none else match tw t.1.toNat with
  | none=>none
  | some f=>
   let b:Int:=if t.1=2 then f else f+1
   gE most ts (a.1+min (t.2*f) (t.2*b),a.2+max (t.2*f) (t.2*b))
def neV:Option (Int × Int)->V
 | some a=>.tup [I a.1,I a.2,B true]
 | none=>.tup [I 0,I 0,B false]
def nA (ts:List (Int × Int)) (d:Nat) (n lo hi:Int) (b:Bool):Hp:=[(1,.vars ((tmD ts d).map .d)),(1,.vars [I n]),(1,.vars [I lo]),(1,.vars [I hi]),(1,.vars [B b])]
theorem yV {d:Nat} {most:Int} (hm0:0<=most) (hm:most<=10000000) {tt:List (Int × Int)} (k:Exit->Hp->Prop) (h0:Hp) (hh:h0.length=5):∀ (ts:List (Int × Int)) (lo hi B:Int),(∀ t∈ts,2<=t.1∧t.1<1000000∧t.2.natAbs<9223372036854775808)->B+ts.length*13421772810000000<=9000000000000000000->-B<=lo->lo<=B->-B<=hi->hi<=B ->
  (∀ a,gE most ts (lo,hi)=some a->k .normal (nA tt d most a.1 a.2 false))->(gE most ts (lo,hi)=none->k .ret (nA tt d most 0 0 false)) ->
  rg 2 (cN (CX Y) (.ptr 1 1 0 1) (.ptr 2 1 0 1) (.ptr 3 1 0 1) (.ptr 4 1 0 1)) [] h0 k (tmX ts) (nA tt d most lo hi false)
 | [],lo,hi,Bd,hl,hb,h1,h2,h3,h4,hk,hn=>by
  simpa [tmX,rg] using hk (lo,hi) rfl
 | t::ts,lo,hi,Bd,hl,hb,h1,h2,h3,h4,hk,hn=>by
  obtain ⟨l1,l2,l3⟩:=hl t af;have sm:=sF (z:=t.2) l3;obtain ⟨p,hp⟩:∃ p:Nat,t.1=p:=⟨t.1.toNat,aa⟩;have hpn:t.1.toNat=p:=aa;have fa:=fast_ok (p:=p) aa aa;rw [<- hp] at fa;have eL:([.int .i64 t.1,.string ⟨⟨itoa t.2⟩⟩]:List Value).map (fun v=>V.d (gF v))=[I t.1,S (itoa t.2)]:=rfl;simp only [gE,hpn] at hk hn
  have hlen:∀ x:Hp,x.length=5->aK [] 0 h0 x=x:=fun x hx=>eE 0 h0 x aa
  simp only [tmX,Zu];refine Jq rfl ?_;rw [eL];by_cases c1:most<t.2
  ·rw [if_pos (.inl c1)] at hn;simp (disch:=try exact ac)[cN,nA,tmD];refine cd sm ?_ (by simp [aH,bY]);simp (disch:=try exact ac)[c1];simpa [nA,tmD] using hn rfl
  ·by_cases c2:t.2 < -most
   ·rw [if_pos (.inr c2)] at hn;simp (disch:=try exact ac)[cN,nA,tmD];refine cd sm ?_ (by simp [aH,bY]);simp (disch:=try exact ac)[c1,c2];simpa [nA,tmD] using hn rfl
   ·rw [if_neg aa] at hn;simp only [show ¬ (most<t.2∨t.2 < -most) by omega,if_false] at hk;cases hf:tw p with
    | none=>
     rw [hf] at fa hn;simp (disch:=try exact ac)[cN,nA,tmD];refine cd sm ?_ (by simp [aH,bY]);simp (disch:=try exact ac)[c1,c2];refine cd fa ?_;simp (disch:=try exact ac)[OF];simpa [nA,tmD] using hn rfl
    | some f=>
     have hflt:=OE aa aa hf;rw [hf] at fa hk hn;simp only at hk hn;obtain ⟨b,hb'⟩:∃ b:Int,b=(if t.1=2 then (f:Int) else f+1):=⟨_,rfl⟩;rw [<- hb'] at hk hn;have hbb:(f:Int)<=b∧b<=f+1:=by subst hb';split <;> omega
     obtain ⟨x,hx⟩:∃ x:Int,x=t.2*f:=⟨_,rfl⟩;obtain ⟨y,hy⟩:∃ y:Int,y=t.2*b:=⟨_,rfl⟩
     have bd:∀ z:Int,0<=z->z<=1342177281->-13421772810000000<=t.2*z∧t.2*z<=13421772810000000:=by
      intro z hz0 hz;have a1:t.2*z<=10000000*z:=Zq aa hz0;have a2:(-10000000)*z<=t.2*z:=Zq aa hz0;omega
     have bx:=bd f aa aa;have by_:=bd b aa aa;rw [<- hx] at bx hk hn;rw [<- hy] at by_ hk hn;have ih:=yV (tt:=tt) (d:=d) hm0 hm k h0 hh ts (lo+min x y) (hi+max x y) (Bd+13421772810000000) (fun t ht=>hl t (by simp [ht])) (by simp at hb;omega) aa aa aa aa hk hn;simp at hb
     have m1:biI .mul (I t.2) (I (f:Int))=some (I x):=by rw [kG,<- hx,wrap_i64 ⟨aa,aa⟩]
     have m2:biI .mul (I t.2) (I b)=some (I y):=by rw [kG,<- hy,wrap_i64 ⟨aa,aa⟩]
     have tail:∀ q:Exit->Hp->Prop,q .normal (nA tt d most (lo+min x y) (hi+max x y) false)->jn (fun l26 h=>
       bnd (ld1 h (.ptr 2 1 0 1)) fun v28=>
       bnd (biI .mul (I t.2) (I (f:Int))) fun v29=>
       bnd (biI .mul (I t.2) (ge l26 0)) fun v30=>
       bnd (mxI false [v29,v30]) fun v31=>
       bnd (biI .add v28 v31) fun v32=>
       bnd (ld1 h (.ptr 3 1 0 1)) fun v33=>
       bnd (biI .mul (I t.2) (I (f:Int))) fun v34=>
       bnd (biI .mul (I t.2) (ge l26 0)) fun v35=>
       bnd (mxI true [v34,v35]) fun v36=>
       bnd (biI .add v33 v36) fun v37=>
       sp h (.ptr 2 1 0 1) [.ptr 3 1 0 1] <| stD h 1 (.ptr 2 1 0 1) v32 fun _ h=>
       stD h 1 (.ptr 3 1 0 1) v37 fun _ h=>
       q .normal h) fun q27=>q27 [I b] (nA tt d most lo hi false):=by
      intro q hq;rw [Gw (l:=[I b]) (h:=nA tt d most lo hi false) (fun q=>rfl)];have x1:mxI false [I x,I y]=some (I (min x y)):=by simp only [mxI,SU]
      have x2:mxI true [I x,I y]=some (I (max x y)):=by simp only [mxI,Ia]
      have a1:biI .add (I lo) (I (min x y))=some (I (lo+min x y)):=by rw [sX,wrap_i64 ⟨aa,aa⟩]
      have a2:biI .add (I hi) (I (max x y))=some (I (hi+max x y)):=by rw [sX,wrap_i64 ⟨aa,aa⟩]
      generalize lo+min x y=lo2 at *;generalize hi+max x y=hi2 at *;simp (disch:=try exact ac)[nA,tmD,m1,m2,x1,x2,a1,a2];refine Fl (by rfl) ?_;simpa [nA,tmD] using hq
     have hne1:biI .add (I (f:Int)) (.d (.int .i64 1))=some (I ((f:Int)+1)):=by rw [sX,wrap_i64 ⟨aa,aa⟩]
     have fin:oh [] 0 (nA tt d most (lo+min x y) (hi+max x y) false)=true∧rg 2 (cN (CX Y) (.ptr 1 1 0 1) (.ptr 2 1 0 1) (.ptr 3 1 0 1) (.ptr 4 1 0 1)) [] h0 k (tmX ts) (aK [] 0 h0 (nA tt d most (lo+min x y) (hi+max x y) false)):=by
      rw [hlen _ (by rfl)];exact ⟨by simp [nA,tmD,pE,pD,ek,xd,fY,lm],ih⟩
     simp (disch:=try exact ac)[cN,nA,tmD];refine cd sm ?_ (by simp [aH,bY]);simp (disch:=try exact ac)[c1,c2];refine cd fa ?_
     have tl:=tail (fun ex h'=>match ex with
      | .normal=>oh [] 0 h'=true∧rg 2 (cN (CX Y) (.ptr 1 1 0 1) (.ptr 2 1 0 1) (.ptr 3 1 0 1) (.ptr 4 1 0 1)) [] h0 k (tmX ts) (aK [] 0 h0 h')
      | ex=>k ex h') fin
     rw [Gw (l:=[I b]) (h:=nA tt d most lo hi false) (fun q=>rfl)] at tl;simp (disch:=try exact ac)[OF,hne1];refine fk (l:=[I b]) (h:=nA tt d most lo hi false) (fun q=>?_) ?_
     ·by_cases h2':t.1=2
      ·rw [if_pos h2'] at hb';rw [decide_eq_true h2',hb'];rfl
      ·rw [if_neg h2'] at hb';rw [decide_eq_false h2',hb'];rfl
     ·exact tl
theorem yU {ts:List (Int × Int)} {d:Nat} {most:Int} (hm0:0<=most) (hm:most<=10000000) (hl:∀ t∈ts,2<=t.1∧t.1<1000000∧t.2.natAbs<9223372036854775808) (hb:ts.length<=600):CP Y F.bP [tmV ts d,I most] (neV (gE most ts (0,0))):=by
 refine uz ?_;have al:=PH ts d;have al':CP Y F.dX [.agg [.d (.sl ts.length (ts.map tmP)),.d (.sl ts.length (ts.map tmK)),S (ah d)]] (.fn F.cJ [] [.dptr (tmD ts d) 0]):=al
 have nl:=yV (d:=d) (most:=most) hm0 hm (tt:=ts) (fun ex h=>exK [(.ret,fun _ h=>
  bnd (ld1 h (.ptr 2 1 0 1)) fun v8=>
  bnd (ld1 h (.ptr 3 1 0 1)) fun v9=>
  bnd (ld1 h (.ptr 4 1 0 1)) fun v10=>
  out (neV (gE most ts (0,0))) (.tup [v8,v9,v10]) h),
  (.normal,fun _ h=>
   bnd (ld1 h (.ptr 2 1 0 1)) fun v11=>
   bnd (ld1 h (.ptr 3 1 0 1)) fun v12=>
   sp h (.ptr 2 1 0 1) [.ptr 3 1 0 1] <| stD h 1 (.ptr 2 1 0 1) v11 fun _ h=>
   stD h 1 (.ptr 3 1 0 1) v12 fun _ h=>
   stD h 1 (.ptr 4 1 0 1) (.d (.bool true)) fun _ h=>
   bnd (ld1 h (.ptr 2 1 0 1)) fun v16=>
   bnd (ld1 h (.ptr 3 1 0 1)) fun v17=>
   bnd (ld1 h (.ptr 4 1 0 1)) fun v18=>
   out (neV (gE most ts (0,0))) (.tup [v16,v17,v18]) h)] ex [] h) (nA ts d most 0 0 false) rfl ts 0 0 0 hl aa aa aa aa aa (fun a ha=>by
   rw [ha];simp (disch:=try exact ac)[nA,tmD];refine Fl (by rfl) ?_;exact gY rfl rfl rfl) (fun ha=>by
   rw [ha];simp (disch:=try exact ac)[nA,tmD];exact gY rfl rfl rfl)
 simp (disch:=try exact ac)[bP,tmV];refine cd al' ?_ (by simp [aH,bY]);simp (disch:=try exact ac)[];refine ro (RI aa d) ?_;simp only [nA,tmD,Zu,Yn] at nl;exact nl
def okT (ts:List (Int × Int)):Prop:=ts.length<=600∧∀ t∈ts,2<=t.1∧t.1<1000000∧t.2.natAbs<9223372036854775808
theorem uM {ts:List (Int × Int)} (h:okT ts):∀ t∈ts,ndg t.2.natAbs<=100000:=fun t ht=>
 Z2 (bi (d:=19) (by have:=(h.2 t ht).2.2;omega) ae) ae
def m7 (ts:List (Int × Int)):Int:=match gE 10000000 ts (0,0) with
 | none=>0
 | some a=>if 0<=a.1 then 1 else if a.2<=0 then -1 else 0
theorem Np {ts:List (Int × Int)} {d:Nat} (h:okT ts):CP Y F.eD [tmV ts d] (I (m7 ts)):=by
 refine tC ?_;have ne:=yU (d:=d) (most:=10000000) ae ae h.2 h.1;have ne':CP Y F.bP [.agg [.d (.sl ts.length (ts.map tmP)),.d (.sl ts.length (ts.map tmK)),S (ah d)],I 10000000] (neV (gE 10000000 ts (0,0))):=ne;simp (disch:=try exact ac)[eD,tmV];refine cd ne' ?_ (by rfl);unfold m7
 cases gE 10000000 ts (0,0) with
 | none=>
  simp (disch:=try exact ac)[neV]
 | some a=>
  simp only;by_cases c1:0<=a.1
  ·rw [if_pos c1];simp (disch:=try exact ac)[neV,c1]
  ·rw [if_neg c1];by_cases c2:a.2<=0
   ·rw [if_pos c2];simp (disch:=try exact ac)[neV,c1,c2]
   ·rw [if_neg c2];simp (disch:=try exact ac)[neV,c1,c2]
def xf (ts:List (Int × Int)):Prop:=∀ i,i<6->Qz (64*2 ^ i) ts
def FG (ts:List (Int × Int)):Nat->Nat->Option Int
 | 0,_=>none
 | r+1,n=>if 0<=(aU n ts (0,0)).1 then some 1 else if (aU n ts (0,0)).2<=0 then some (-1) else FG ts r (n*2)
def zp (ts:List (Int × Int)):Option Int:=match ts with
 | []=>some 0
 | _=>if m7 ts≠0 then some (m7 ts) else FG ts 6 64
theorem HI (z:Int):0<=sgn z↔0<=z:=by unfold sgn;split <;> (try split) <;> omega
theorem tE (z:Int):sgn z<=0↔z<=0:=by unfold sgn;split <;> (try split) <;> omega
theorem yT {ts:List (Int × Int)} {d:Nat} (h:okT ts) (hl:xf ts) (k:KL) (h0:Hp) (hh:h0.length=1):∀ (r i:Nat) (s:Int),i+r=6->FG ts r (64*2 ^ i)=some s->(∀ h,k .ret [I s] h) ->
  lp (kJ (CX Y) (.ptr 0 1 0 3)) [] h0 [I ((64*2 ^ i:Nat):Int)] [(1,.vars ((tmD ts d).map .d))] k
 | 0,i,s,hi,hs,hk=>by trivial
 | r+1,i,s,hi,hs,hk=>by
  have hn:64*2 ^ i<=3900:=by
   have:2 ^ i<=2 ^ 5:=Z4 ae aa;omega
  have en:=Ep (n:=64*2 ^ i) (d:=d) hn (hl i aa) (uM h) (by have:=h.1;omega);have en':CP Y F.cn [.agg [.d (.sl ts.length (ts.map tmP)),.d (.sl ts.length (ts.map tmK)),S (ah d)],I ((64*2 ^ i:Nat):Int)] (.tup [S (itoa (aU (64*2 ^ i) ts (0,0)).1),S (itoa (aU (64*2 ^ i) ts (0,0)).2)]):=en
  have hd:64*2 ^ i*2=64*2 ^ (i+1):=by rw [Nat.pow_succ,<- Nat.mul_assoc]
  simp only [FG,hd] at hs;generalize aU (64*2 ^ i) ts (0,0)=e at *;have ih:=yT (d:=d) h hl k h0 hh r (i+1) s aa;have hm:((64*2 ^ i:Nat):Int)*2=((64*2 ^ (i+1):Nat):Int):=by rw [<- hd];omega
  generalize 64*2 ^ (i+1)=m2 at *;generalize 64*2 ^ i=m at *;have s1:=jf e.1;have s2:=jf e.2;have n1:=HI e.1;have n2:=tE e.2;refine ax ?_;simp (disch:=try exact ac)[kJ,tmD];refine cd en' ?_ (by rfl);simp (disch:=try exact ac)[];refine cd s1 ?_ (by rfl);by_cases c1:0<=e.1
  ·rw [if_pos c1] at hs;simp only [Z9] at hs;subst hs;have c1':0<=sgn e.1:=n1.2 c1;simp (disch:=try exact ac)[c1']
   grind
  ·rw [if_neg c1] at hs;have c1':¬ 0<=sgn e.1:=fun x=>c1 (n1.1 x)
   simp (disch:=try exact ac)[c1'];refine cd s2 ?_ (by rfl);by_cases c2:e.2<=0
   ·rw [if_pos c2] at hs;simp only [Z9] at hs;subst hs;have c2':sgn e.2<=0:=n2.2 c2;simp (disch:=try exact ac)[c2']
    grind
   ·rw [if_neg c2] at hs;have c2':¬ sgn e.2<=0:=fun x=>c2 (n2.1 x)
    have ih:=ih hs hk;simp (disch:=try exact ac)[c2',hm];exact ih
theorem FC {ts:List (Int × Int)} {d:Nat} (h:okT ts) (hl:xf ts) {z:Int} (hs:zp ts=some z):CP Y F.dC [tmV ts d] (I z):=by
 refine uw ?_;have qo:=Np (d:=d) h;have qo':CP Y F.eD [.agg [.d (.sl ts.length (ts.map tmP)),.d (.sl ts.length (ts.map tmK)),S (ah d)]] (I (m7 ts)):=qo;cases hts:ts with
 | nil=>
  subst hts;simp only [zp,Z9] at hs;subst hs;simp (disch:=try exact ac)[dC,tmV,bq]
 | cons t r=>
  have hne:¬ ts=[]:=by rw [hts];simp
  have hs':(if m7 ts≠0 then some (m7 ts) else FG ts 6 64)=some z:=by rw [hts] at hs ⊢;exact hs
  rw [<- hts];have ll:bq (.d (.sl ts.length (ts.map tmP)))=some (I ts.length):=rfl;by_cases hq:m7 ts=0
  ·rw [if_neg aa] at hs'
   have sl:=yT (d:=d) h hl (exK [(.ret,fun l9 h=>out (I z) (ge l9 0) h)]) [(1,.vars ((tmD ts d).map .d))] rfl 6 0 z rfl hs' (fun h=>by
    simp (disch:=try exact ac)[])
   simp only [tmD,Zu,Yn] at sl;rw [hq] at qo';simp (disch:=try exact ac)[dC,tmV,ll,hne];refine cd qo' ?_ (by rfl);simp (disch:=try exact ac)[];exact sl
  ·rw [if_pos aa] at hs';simp only [Z9] at hs';subst hs';simp (disch:=try exact ac)[dC,tmV,ll,hne];refine cd qo' ?_ (by rfl);simp (disch:=try exact ac)[hq]
def tq (p:List Int) (s:List Q):List (Int × Int):=dl (fi 1 s) p s
def xG (p:List Int) (s:List Q) (z:Int):Prop:=okT (tq p s)∧xf (tq p s)∧zp (tq p s)=some z
theorem LY {p:List Int} {s:List Q} (hp:pcB p=0) (hN:p.length<1000000) (hl:s.length=p.length) (hs:okS s):CP Y F.jH [lst di p,szV s] (I 0):=by
 have:=MD (p:=p) (s:=s.map tx) aa (fun x hx=>by
  obtain ⟨y,hy,rfl⟩:=Y5.1 hx;obtain ⟨l1,l2⟩:=Di (hs y hy).2;omega) (by grind)
 unfold siB scB at this;rw [if_pos hp,List.length_map,if_pos hl,Dl hs] at this;exact this
theorem RF {p:List Int} {s:List Q} {z:Int} (hp:pcB p=0) (hN:p.length<3000) (hl:s.length=p.length) (hs:okS s) (hz:xG p s z):CP Y F.nQ [lst di p,szV s] (.tup [I z,I 0]):=by
 refine FB ?_;obtain ⟨h1,h2,h3⟩:=hz;have ck:=LY hp aa hl hs;have to_:=nW (p:=p) (s:=s) (K:=30) aa hl.symm hs aa ae;have si:=FC (d:=fi 1 s) h1 h2 h3;simp (disch:=try exact ac)[nQ];refine cd ck ?_ (by rfl);simp (disch:=try exact ac)[];refine cd to_ ?_ (by rfl)
 simp (disch:=try exact ac)[];refine cd si ?_ (by rfl);simp [av]
def dfS (p:List Int) (a b:List Q):List Q:=kr p.length [a,b] [(1,1),(-1,1)]
theorem JG:okK 1 [(1,1),(-1,1)]:=fun x hx=>by
 simp at hx;rcases hx with rfl | rfl
 ·exact ⟨⟨ae,ae⟩,bi ae ae,bi ae ae⟩
 ·exact ⟨⟨ae,ae⟩,bi ae ae,bi ae ae⟩
theorem IG {p:List Int} {a b:List Q} {z:Int} (hN:p.length<1000) (ha:a.length=p.length) (hb:b.length=p.length) (oa:okS a) (ob:okS b) (hz:xG p (dfS p a b) z):CP Y F.jW [lst di p,szV a,szV b] (I z):=by
 refine zm ?_;obtain ⟨h1,h2,h3⟩:=hz
 have hab:∀ s ∈ [a,b],s.length=p.length∧okK 30 s:=fun s hs=>by
  simp at hs;rcases hs with rfl | rfl
  ·trivial
  trivial
 have su:=yZ (n:=p.length) (l:=[a,b]) (fs:=[(1,1),(-1,1)]) (Ks:=30) (Kk:=1) aa af rfl ae af hab JG;have oK:okK 65 (dfS p a b):=yf (Ks:=30) (Kk:=1) (Ko:=1) (uj _) (fun s hs=>(hab s hs).2) JG
 have hl:(dfS p a b).length=p.length:=by
  unfold dfS kr;rw [nX (fun s hs=>by grind)];simp
 have to_:=nW (p:=p) (s:=dfS p a b) (K:=65) aa hl.symm oK aa ae;have si:=FC (d:=fi 1 (dfS p a b)) h1 h2 h3;have l1:∀ H,eY 2 [D.pl (Value.slice none 0 0)] [(0,szV a),(1,szV b)] H=some ([szD a,szD b],H):=fun H=>Lo ..
 have l2:∀ H,eY 2 [D.str [],D.str []] [(0,.agg (qT (1,1))),(1,.agg (qT (-1,1)))] H=some (aS (tx (1,1))++aS (tx (-1,1)),H):=fun H=>NY (1,1) (-1,1) H
 have l3:bq (lst di p)=some (I p.length):=rfl;simp (disch:=try exact ac)[jW,l1,l3];refine cd (fx (z:=1) aa aa) ?_;simp (disch:=try exact ac)[];refine cd (fx (z:=-1) aa aa) ?_;simp (disch:=try exact ac)[l2];refine cd (v:=szV (dfS p a b)) su ?_ (by rfl)
 simp (disch:=try exact ac)[];refine cd to_ ?_ (by rfl);simp (disch:=try exact ac)[];refine cd si ?_ (by rfl);simp (disch:=try exact ac)[]
theorem IW {p:List Int} {a b:List Q} {z:Int} (hp:pcB p=0) (hN:p.length<1000) (ha:a.length=p.length) (hb:b.length=p.length) (oa:okS a) (ob:okS b) (hz:xG p (dfS p a b) z):CP Y F.jX [lst di p,szV a,szV b] (.tup [I z,I 0]):=by
 refine zn ?_
 have ca:=rZ (p:=p) (l:=[a,b]) aa af (fun s hs=>by
  simp at hs;rcases hs with rfl | rfl
  ·exact ⟨oa,aa⟩
  ·exact ⟨ob,aa⟩)
 rw [if_pos hp,yG (n:=p.length) (l:=[a,b]) fun s hs=>by
  grind] at ca
 have co:=IG hN ha hb oa ob hz;have l1:∀ H,eY 2 [D.pl (Value.slice none 0 0)] [(0,szV a),(1,szV b)] H=some ([szD a,szD b],H):=fun H=>Lo ..
 simp (disch:=try exact ac)[jX,l1];refine cd (v:=I 0) ca ?_ (by rfl);simp (disch:=try exact ac)[];refine cd co ?_ (by rfl);simp [av]
def wV (z:Int):Int:=max z (-z)*(2*max z 0-1)
def PK (p:List Int) (s:List Q) (z:Int):List Q:=kr p.length [s] [(wV z,1)]
theorem TO {p:List Int} {s:List Q} {z:Int} (hp:pcB p=0) (hN:p.length<1000) (hl:s.length=p.length) (hs:okS s) (hz:xG p s z) (h1 : -1<=z) (h2:z<=1):CP Y F.pA [lst di p,szV s] (.tup [szV (PK p s z),I 0]):=by
 refine HG ?_;have si:=RF hp aa hl hs hz
 have hk:wV z=z:=by
  rcases (show z = -1∨z=0∨z=1 by omega) with rfl | rfl | rfl <;> rfl
 have hkk:okK 1 [(wV z,1)]:=fun x hx=>by
  simp at hx;subst hx;exact ⟨⟨af,af⟩,bi aa ae,bi af ae⟩
 have su:=yZ (n:=p.length) (l:=[s]) (fs:=[(wV z,1)]) (Ks:=30) (Kk:=1) aa af rfl ae af (fun t ht=>by
  simp at ht;subst ht;trivial) hkk
 have su':CP Y F.je [I p.length,lst szD [s],szV [(wV z,1)]] (szV (PK p s z)):=su;have l1:∀ H,eY 1 [D.pl (Value.slice none 0 0)] [(0,szV s)] H=some ([szD s],H):=fun H=>Lp ..
 have l2:∀ H,eY 1 [D.str [],D.str []] [(0,.agg (qT (wV z,1)))] H=some (aS (tx (wV z,1)),H):=fun H=>NZ (wV z,1) H
 have l3:bq (lst di p)=some (I p.length):=rfl;have m1:mxI true [I z,I (-z)]=some (I (max z (-z))):=by simp only [mxI,Ia]
 have m2:mxI true [I z,I 0]=some (I (max z 0)):=by simp only [mxI,Ia]
 have n1:biI .mul (.d (.int .i64 2)) (I (max z 0))=some (I (2*max z 0)):=by rw [kG,wrap_i64 ⟨aa,aa⟩]
 have n2:biI .sub (I (2*max z 0)) (.d (.int .i64 1))=some (I (2*max z 0-1)):=by rw [qy,wrap_i64 ⟨aa,aa⟩]
 have n3:biI .mul (I (max z (-z))) (I (2*max z 0-1))=some (I (wV z)):=by
  rw [kG,wrap_i64 (by grind)];rfl
 have nb:=fx (z:=wV z) aa aa
 have neg:unV .neg (I z)=some (I (-z)):=by
  rcases (show z = -1∨z=0∨z=1 by omega) with rfl | rfl | rfl <;> rfl
 simp (disch:=try exact ac)[pA];refine cd si ?_ (by rfl);clear su;generalize wV z=az at *;generalize max z (-z)=a1 at *;generalize max z 0=a2 at *;generalize 2*a2-1=a4 at *;simp (disch:=try exact ac)[l1,l3,neg,m1,m2,n1,n2,n3];refine cd nb ?_;simp (disch:=try exact ac)[l2];refine cd (v:=szV (PK p s z)) su' ?_ (by rfl)
 simp [av,rj]
theorem xo {a b:Int} (hb:0<b) (ha1 : -4000000000000000000<=a) (ha2:a<=4000000000000000000) (hb2:b<=4000000000000000000):CP Y F.dS [I a,I b] (I (a / b)):=by
 refine xE ?_;by_cases h:a<0
 ·have n1:unV .neg (I a)=some (I (-a)):=by rw [sk,wrap_i64 ⟨aa,aa⟩]
  have n2:biI .add (I (-a)) (I b)=some (I (-a+b)):=by rw [sX,wrap_i64 ⟨aa,aa⟩]
  have n3:biI .sub (I (-a+b)) (.d (.int .i64 1))=some (I (-a+b-1)):=by rw [qy,wrap_i64 ⟨aa,aa⟩]
  have hq0:0<=(-a+b-1) / b:=Int.ediv_nonneg aa aa;have hq1:(-a+b-1) / b<=-a+b-1:=Int.ediv_le_self _ aa
  have e : -((-a+b-1) / b)=a / b:=by
   have h1:=Int.emod_add_mul_ediv (-a+b-1) b;have h2:=Int.emod_nonneg (-a+b-1) (by omega:b≠0);have h3:=Int.emod_lt_of_pos (-a+b-1) hb;symm;rw [Int.ediv_eq_iff_of_pos hb];generalize (-a+b-1) / b=q at *;generalize (-a+b-1) % b=r at *;have : -q*b = -(b*q):=by rw [Wv,Yl]
   rw [this];omega
  obtain ⟨w,hw⟩:∃ w,w = -a+b-1:=⟨_,rfl⟩;rw [<- hw] at n3 hq0 hq1 e;have td:w.tdiv b=w / b:=Zy aa;obtain ⟨q,hq⟩:∃ q,q=w / b:=⟨_,rfl⟩;rw [<- hq] at hq0 hq1 e td;have n5:unV .neg (I q)=some (I (-q)):=by rw [sk,wrap_i64 ⟨aa,aa⟩]
  have n4:biI .quo (I w) (I b)=some (I q):=by rw [Km aa,td,wrap_i64 ⟨aa,aa⟩]
  simp (disch:=try exact ac)[dS,h,n1,n2,n3,n4,n5];exact ci e
 ·have td:a.tdiv b=a / b:=Zy aa;have hq0:0<=a / b:=Int.ediv_nonneg aa aa;have hq1:a / b<=a:=Int.ediv_le_self _ aa;have n4:biI .quo (I a) (I b)=some (I (a / b)):=by rw [Km aa,td,wrap_i64 ⟨aa,aa⟩]
  simp (disch:=try exact ac)[dS,h,n4] <;> exact ci rfl
def wh (x y:Int × Int) (d g:Int):Option Int:=
 let z:(Int × Int) × (Int × Int):=if y.2<=0 then ((-x.2,-x.1),(-y.2,-y.1)) else (x,y)
 if z.2.1<=0 then none else
  let low:=if z.1.1<0 then z.2.1 else z.2.2
  let high:=if z.1.2<0 then z.2.2 else z.2.1
  if z.1.1*g / (low*d)=z.1.2*g / (high*d) then some (z.1.1*g / (low*d)) else none
def Bs (tx ty:List (Int × Int)) (d g:Nat):Option Int:=match gE 100000 tx (0,0),gE 100000 ty (0,0) with
 | some x,some y=>if 10000<d∨10000<g then none else wh x y d g
 | _,_=>none
theorem CK {p a:Nat} (hp:2<=p) (hp2:p<128) (h:tw p=some a):a<469762048:=by
 obtain ⟨hk0,hpk,hk1⟩:=lH (n:=p) aa
 have hk20:bn p<=7:=by
  have:2 ^ (bn p-1)<2 ^ 7:=aa;have:=(Zc (by decide:1<2)).1 this;omega
 have:=sT _ _ _ _ _ h;have h2:(bn p-1+1)*2 ^ 26<=7*2 ^ 26:=Z0 _ aa;omega
theorem wu {most:Int} (hm0:0<=most):∀ (ts:List (Int × Int)) (lo hi C:Int) (a:Int × Int),(∀ t∈ts,2<=t.1∧t.1<128)->lo<=hi->-C<=lo->hi<=C->gE most ts (lo,hi)=some a ->
  a.1<=a.2∧-(C+ts.length*(most*469762049))<=a.1∧a.2<=C+ts.length*(most*469762049)
 | [],lo,hi,C,a,hl,h1,h2,h3,ha=>by
  simp only [gE,Z9] at ha;subst ha;simp;omega
 | t::ts,lo,hi,C,a,hl,h1,h2,h3,ha=>by
  obtain ⟨l1,l2⟩:=hl t af;simp only [gE] at ha;split at ha
  ·cases ha
  ·rename_i hc;split at ha
   ·cases ha
   ·rename_i f hf;have hflt:=CK (p:=t.1.toNat) aa aa hf;obtain ⟨b,hb'⟩:∃ b:Int,b=(if t.1=2 then (f:Int) else f+1):=⟨_,rfl⟩;rw [<- hb'] at ha;have hbb:(f:Int)<=b∧b<=f+1:=by subst hb';split <;> omega
    have bd:∀ z:Int,0<=z->z<=469762049->-(most*469762049)<=t.2*z∧t.2*z<=most*469762049:=by
     intro z hz0 hz;have a1:t.2*z<=most*z:=Zq aa hz0;have a2:(-most)*z<=t.2*z:=Zq aa hz0;have a3:most*z<=most*469762049:=Yw hz hm0;rw [Wv] at a2;omega
    have bx:=bd f aa aa;have by_:=bd b aa aa;have:=wu hm0 ts _ _ (C+most*469762049) a (fun t ht=>hl t (by simp [ht])) aa aa aa ha
    have e:((t::ts).length:Int)*(most*469762049)=most*469762049+ts.length*(most*469762049):=by
     rw [List.length_cons,Int.natCast_add,Wu];omega
    rw [e];omega
def H3 (ts:List (Int × Int)):Prop:=ts.length<=8∧∀ t∈ts,2<=t.1∧t.1<128∧t.2.natAbs<9223372036854775808
theorem SP (r:Option (Int × Int)):neV r=.tup [I (r.getD (0,0)).1,I (r.getD (0,0)).2,B r.isSome]:=by cases r <;> rfl
def K6 (x y:Int × Int) (d g:Int):Int × Bool:=
 let z:(Int × Int) × (Int × Int):=if y.2<=0 then ((-x.2,-x.1),(-y.2,-y.1)) else (x,y)
 if z.2.1<=0 then (0,false) else
  let low:=if z.1.1<0 then z.2.1 else z.2.2
  let high:=if z.1.2<0 then z.2.2 else z.2.1
  (z.1.1*g / (low*d),decide (z.1.1*g / (low*d)=z.1.2*g / (high*d)))
theorem HT (x y:Int × Int) (d g:Int):wh x y d g=if (K6 x y d g).2=true then some (K6 x y d g).1 else none:=by
 grind [wh,K6]
def tI (X1 X2 Y1 Y2 d g:Int):Int × Bool:=if Y1<=0 then (0,false) else
 (X1*g / ((if X1<0 then Y1 else Y2)*d),decide (X1*g / ((if X1<0 then Y1 else Y2)*d)=X2*g / ((if X2<0 then Y2 else Y1)*d)))
theorem Nn (x y:Int × Int) (d g:Int):K6 x y d g=if y.2<=0 then tI (-x.2) (-x.1) (-y.2) (-y.1) d g else tI x.1 x.2 y.1 y.2 d g:=by
 unfold K6;by_cases h:y.2<=0
 ·simp only [if_pos h];rfl
 ·simp only [if_neg h];rfl
theorem Qt {X g:Int} (h1 : -400000000000000<=X) (h2:X<=400000000000000) (g0:0<g) (g1:g<=10000) : -4000000000000000000<=X*g∧X*g<=4000000000000000000:=by
 have a1:X*g<=400000000000000*g:=Zq h2 aa;have a2:(-400000000000000)*g<=X*g:=Zq h1 aa;omega
theorem FU {X1 X2 Y1 Y2 d g:Int} (h:Hp) (x1 : -400000000000000<=X1) (x2:X1<=400000000000000) (x3 : -400000000000000<=X2) (x4:X2<=400000000000000) (y0:Y1<=Y2) (y1 : -400000000000000<=Y1) (y2:Y2<=400000000000000)
  (d0:0<d) (d1:d<=10000) (g0:0<g) (g1:g<=10000) (q:V->Hp->Prop) (hq:q (.tup [I (tI X1 X2 Y1 Y2 d g).1,B (tI X1 X2 Y1 Y2 d g).2]) h) :
  bnd (biI .leq (I Y1) (.d (.int .i64 0))) fun v42=>
   cnd v42 (
    q (.tup [(.d (.int .i64 0)),(.d (.bool false))]) h) (
    bnd (biI .lss (I X1) (.d (.int .i64 0))) fun v43=>
    jn (fun l44 h=>
     bnd (biI .lss (I X2) (.d (.int .i64 0))) fun v46=>
     jn (fun l47 h=>
      bnd (biI .mul (I X1) (I g)) fun v49=>
      bnd (biI .mul (ge l44 0) (I d)) fun v50=>
      cal (CX Y).p h (.fn F.dS [] []) [v49,v50] fun v51 h=>
      bnd (biI .mul (I X2) (I g)) fun v52=>
      bnd (biI .mul (ge l47 0) (I d)) fun v53=>
      cal (CX Y).p h (.fn F.dS [] []) [v52,v53] fun v54 h=>
      bnd (biI .eql v51 v54) fun v55=>
      q (.tup [v51,v55]) h) fun q48=>
      cnd v46 (
       q48 [I Y2] h) (
       q48 [I Y1] h)) fun q45=>
     cnd v43 (
      q45 [I Y1] h) (
      q45 [I Y2] h)):=by
 unfold tI at hq;by_cases c:Y1<=0
 ·rw [if_pos c] at hq;simp (disch:=try exact ac)[c];exact hq
 ·rw [if_neg c] at hq;obtain ⟨lo,hlo⟩:∃ z,z=(if X1<0 then Y1 else Y2):=⟨_,rfl⟩;obtain ⟨hi,hhi⟩:∃ z,z=(if X2<0 then Y2 else Y1):=⟨_,rfl⟩;rw [<- hlo,<- hhi] at hq;have l1:0<lo∧lo<=400000000000000:=by subst hlo;split <;> omega
  have l2:0<hi∧hi<=400000000000000:=by subst hhi;split <;> omega
  have p1:=Qt x1 x2 g0 g1;have p2:=Qt (X:=lo) aa aa d0 d1;have p3:=Qt x3 x4 g0 g1;have p4:=Qt (X:=hi) aa aa d0 d1;have z1:0<lo*d:=Xk l1.1 d0;have z2:0<hi*d:=Xk l2.1 d0;have w1:=xo (a:=X1*g) (b:=lo*d) z1 p1.1 p1.2 p2.2;have w2:=xo (a:=X2*g) (b:=hi*d) z2 p3.1 p3.2 p4.2
  have m1:biI .mul (I X1) (I g)=some (I (X1*g)):=by rw [kG,wrap_i64 ⟨aa,aa⟩]
  have m2:biI .mul (I lo) (I d)=some (I (lo*d)):=by rw [kG,wrap_i64 ⟨aa,aa⟩]
  have m3:biI .mul (I X2) (I g)=some (I (X2*g)):=by rw [kG,wrap_i64 ⟨aa,aa⟩]
  have m4:biI .mul (I hi) (I d)=some (I (hi*d)):=by rw [kG,wrap_i64 ⟨aa,aa⟩]
  generalize X1*g / (lo*d)=r1 at *;generalize X2*g / (hi*d)=r2 at *;generalize X1*g=u1 at *;generalize X2*g=u2 at *;generalize lo*d=v1 at *;generalize hi*d=v2 at *;simp (disch:=try exact ac)[c];refine fk (l:=[I lo]) (h:=h) (fun q=>?_) ?_
  ·by_cases c1:X1<0
   ·simp_all
   simp_all
  ·simp (disch:=try exact ac)[];refine fk (l:=[I hi]) (h:=h) (fun q=>?_) ?_
   ·by_cases c1:X2<0
    ·simp_all
    simp_all
   ·simp (disch:=try exact ac)[m1,m2];refine cd w1 ?_;simp (disch:=try exact ac)[m3,m4];refine cd w2 ?_;simp (disch:=try exact ac)[];exact hq
theorem FT {tx ty:List (Int × Int)} {d g:Nat} (hx:H3 tx) (hy:H3 ty) (hd:d<9223372036854775808) (hg:g<9223372036854775808) (hd0:0<d) (hg0:0<g) :
  ∃ (q:Int) (b:Bool),CP Y F.dt [tmV tx d,tmV ty g] (.tup [I q,B b])∧(b=true->Bs tx ty d g=some q)∧(b=false->Bs tx ty d g=none):=by
 have nx:=yU (d:=d) (most:=100000) ae ae (fun t ht=>⟨(hx.2 t ht).1,by have:=(hx.2 t ht).2.1;omega,(hx.2 t ht).2.2⟩) (by have:=hx.1;omega);have ny:=yU (d:=g) (most:=100000) ae ae (fun t ht=>⟨(hy.2 t ht).1,by have:=(hy.2 t ht).2.1;omega,(hy.2 t ht).2.2⟩) (by have:=hy.1;omega);have sd:=sF (z:=(d:Int)) aa
 have sg:=sF (z:=(g:Int)) aa;rw [fE] at sd sg;rw [SP] at nx ny;have bx:=fun a=>wu (most:=100000) ae tx 0 0 0 a (fun t ht=>⟨(hx.2 t ht).1,(hx.2 t ht).2.1⟩) aa aa aa
 have by_:=fun a=>wu (most:=100000) ae ty 0 0 0 a (fun t ht=>⟨(hy.2 t ht).1,(hy.2 t ht).2.1⟩) aa aa aa
 have lx:=hx.1;have ly:=hy.1;unfold Bs;generalize gE 100000 tx (0,0)=rx at *;generalize gE 100000 ty (0,0)=ry at *;obtain ⟨xl,hxl⟩:∃ z,z=(rx.getD (0,0)).1:=⟨_,rfl⟩;obtain ⟨xh,hxh⟩:∃ z,z=(rx.getD (0,0)).2:=⟨_,rfl⟩;obtain ⟨yl,hyl⟩:∃ z,z=(ry.getD (0,0)).1:=⟨_,rfl⟩;obtain ⟨yh,hyh⟩:∃ z,z=(ry.getD (0,0)).2:=⟨_,rfl⟩;obtain ⟨one,h1⟩:∃ z,z=rx.isSome:=⟨_,rfl⟩
 obtain ⟨two,h2⟩:∃ z,z=ry.isSome:=⟨_,rfl⟩;rw [<- hxl,<- hxh,<- h1] at nx;rw [<- hyl,<- hyh,<- h2] at ny;have nx':CP Y F.bP [.agg [.d (.sl tx.length (tx.map tmP)),.d (.sl tx.length (tx.map tmK)),S (ah d)],I 100000] (.tup [I xl,I xh,B one]):=nx
 have ny':CP Y F.bP [.agg [.d (.sl ty.length (ty.map tmP)),.d (.sl ty.length (ty.map tmK)),S (ah g)],I 100000] (.tup [I yl,I yh,B two]):=ny;have walk:∀ v:V,(dt (CX Y) (tmV tx d) (tmV ty g) (out v))->CP Y F.dt [tmV tx d,tmV ty g] v:=fun v h=>xC h
 have e10:(10000:Int)<(d:Int)↔10000<d:=aa;have e11:(10000:Int)<(g:Int)↔10000<g:=aa;by_cases hc:one=true∧two=true∧¬ (10000:Int)<d∧¬ (10000:Int)<g
 ·obtain ⟨c1,c2,c3,c4⟩:=hc;subst c1;subst c2;obtain ⟨x,rfl⟩:=Yc.1 h1.symm;obtain ⟨y,rfl⟩:=Yc.1 h2.symm;have bx:=bx x rfl;have by_:=by_ y rfl;simp only [Option.getD_some] at hxl hxh hyl hyh;simp only [if_neg (show ¬ (10000<d∨10000<g) by omega)];obtain ⟨r,hr⟩:∃ r,r=K6 x y d g:=⟨_,rfl⟩;refine ⟨r.1,r.2,walk _ ?_,fun h=>?_,fun h=>?_⟩
  ·simp (disch:=try exact ac)[dt,tmV];refine cd nx' ?_ (by rfl);simp (disch:=try exact ac)[];refine cd ny' ?_ (by rfl);simp (disch:=try exact ac)[];refine cd sd ?_ (by rfl);simp (disch:=try exact ac)[];refine cd sg ?_ (by rfl);simp (disch:=try exact ac)[c3,c4];rw [Nn] at hr;by_cases c5:yh<=0
   ·rw [if_pos aa] at hr;have n1:unV .neg (I xh)=some (I (-xh)):=by rw [sk,wrap_i64 ⟨aa,aa⟩]
    have n2:unV .neg (I xl)=some (I (-xl)):=by rw [sk,wrap_i64 ⟨aa,aa⟩]
    have n3:unV .neg (I yh)=some (I (-yh)):=by rw [sk,wrap_i64 ⟨aa,aa⟩]
    have n4:unV .neg (I yl)=some (I (-yl)):=by rw [sk,wrap_i64 ⟨aa,aa⟩]
    have rs:=fun h=>FU (X1:=-xh) (X2:=-xl) (Y1:=-yh) (Y2:=-yl) (d:=d) (g:=g) h aa aa aa aa aa aa aa aa aa aa aa (out (.tup [I r.1,B r.2])) (by
     rw [hr,hxl,hxh,hyl,hyh];simp [av])
    rw [decide_eq_true c5];refine aC ?_;refine Eq.mpr (Kh _ _) ?_;rw [n1,n2,n3,n4];exact rs _
   ·rw [if_neg aa] at hr
    have rs:=fun h=>FU (X1:=xl) (X2:=xh) (Y1:=yl) (Y2:=yh) (d:=d) (g:=g) h aa aa aa aa aa aa aa aa aa aa aa (out (.tup [I r.1,B r.2])) (by
     rw [hr,hxl,hxh,hyl,hyh];simp [av])
    rw [decide_eq_false c5];refine aC ?_;refine Eq.mpr (Pd _ _) ?_;exact rs _
  ·grind [HT]
  grind [HT]
 ·refine ⟨0,false,walk _ ?_,fun h=>(by cases h),fun _=>?_⟩
  ·simp (disch:=try exact ac)[dt,tmV];refine cd nx' ?_ (by rfl);simp (disch:=try exact ac)[];refine cd ny' ?_ (by rfl);simp (disch:=try exact ac)[];refine cd sd ?_ (by rfl);simp (disch:=try exact ac)[];refine cd sg ?_ (by rfl);cases one with
   | false=>
    simp (disch:=try exact ac)[];simp [av]
   | true=>
    cases two with
    | false=>
     simp (disch:=try exact ac)[];simp [av]
    | true=>
     by_cases c3:(10000:Int)<d
     ·simp (disch:=try exact ac)[c3];simp [av]
     ·by_cases c4:(10000:Int)<g
      ·simp (disch:=try exact ac)[c3,c4];simp [av]
      grind
  ·cases rx with
   | none=>rfl
   | some x=>
    cases ry with
    | none=>rfl
    | some y=>
     have:10000<d∨10000<g:=by
      by_cases c3:(10000:Int)<d
      ·exact .inl aa
      ·by_cases c4:(10000:Int)<g
       ·exact .inr aa
       grind
     grind
def gX:Q->List Q->List Q->Q
 | k,x::a,y::b=>gX (if y.1=0 then k else xH x y) a b
 | k,_,_=>k
def ky (k:Q):List Q->List Q->Bool
 | x::a,y::b=>decide (lF k y=x) && ky k a b
 | _,_=>true
def raH (x0:Bk) (e0:Nat) (k:Tx):Hp:=[(e0,x0),(1,.vars [S k.1,S k.2]),(0,.none),(0,.none)]
theorem JL {n d:Int} (h:d≠0):okQ (te n d):=by
 unfold te;split <;> exact uT _ aa
theorem SX {n d:Int} {K:Nat} (h1:ndg n.natAbs<=K) (h2:ndg d.natAbs<=K):qL K (te n d):=by
 unfold te;split
 ·exact Ef (by rwa [Wr]) h2
 ·exact Ef h1 h2
theorem SF {a b:Q} {K L:Nat} (ha:qL K a) (hb:qL L b):qL (K+L) (xH a b):=by
 refine SX ?_ ?_
 ·have:=cT (z:=a.1) (w:=(b.2:Int));rw [Int.natAbs_natCast] at this;have:=ha.1;have:=hb.2;omega
 ·have:=cT (z:=(a.2:Int)) (w:=b.1);rw [Int.natAbs_natCast] at this;have:=ha.2;have:=hb.1;omega
theorem Qc {a b:Q} (ha:okQ a) (hb:b.1≠0):okQ (xH a b):=JL (Xf (by have:=ha.1;omega) hb)
theorem Nl {a b:List Q} {K:Nat} (hK:K<=40000) (hN:b.length<1000000) (hab:a.length=b.length) (ha:okK K a) (hb:okK K b) (k:KL) (k0:Tx) (e0:Nat) (x0:Bk) (hx0:offB [2] x0=true):∀ (qb pb qa pa:List Q) (c:Q),pb++qb=b->pa++qa=a->pa.length=pb.length->qa.length=qb.length ->
  k (.exit 0) [] (raH x0 e0 (tx (gX c qa qb))) ->
  lp (ku (CX Y) (szV a) (.ptr 1 1 0 2) (szV b) (I b.length)) [2] (raH x0 e0 k0) [I pb.length] (raH x0 e0 (tx c)) k
 | [],pb,qa,pa,c,h1,h2,h3,h4,hk=>by
  simp at h1;subst h1;have:qa=[]:=Zi h4;subst this;refine ax ?_;simp (disch:=try exact ac)[ku];exact hk
 | y::qb,pb,[],pa,c,h1,h2,h3,h4,hk=>by simp at h4
 | y::qb,pb,x::qa,pa,c,h1,h2,h3,h4,hk=>by
  have hal:pb.length<b.length:=by subst h1;simp
  have hal2:pb.length<a.length:=aa;obtain ⟨y1,y2⟩:=hb y (by subst h1;simp);obtain ⟨x1,x2⟩:=ha x (by subst h2;simp);have hy:nth ([],[]) (b.map tx) pb.length=tx y:=by subst h1;exact jL ..
  have hx:nth ([],[]) (a.map tx) pb.length=tx x:=by subst h2;rw [<- h3];exact jL ..
  have i1:=fun h:Hp=>j3 aS aT (b.map tx) h (k:=.i64) (i:=(pb.length:Int)) aa aR
  have i2:=fun h:Hp=>jZ aS aT ([],[]) (b.map tx) h (j:=pb.length) (by simpa using hal)
  have j1:=fun h:Hp=>j3 aS aT (a.map tx) h (k:=.i64) (i:=(pb.length:Int)) aa aR
  have j2:=fun h:Hp=>jZ aS aT ([],[]) (a.map tx) h (j:=pb.length) (by simpa using hal2)
  simp only [hx,hy,Int.toNat_natCast,aS,Zu,Yn] at i1 i2 j1 j2;have g1:(pb.length:Int)<(b.length:Int):=aa;refine ax ?_;by_cases hz:y.1=0
  ·have hz2:(!(tx y).1 == [48])=false:=by simp [mL.2 hz,tx]
   have ih:=Nl hK hN hab ha hb k k0 e0 x0 hx0 qb (pb++[y]) qa (pa++[x]) c (by simpa using h1) (by simpa using h2) (by simp [h3]) (by simpa using h4) (by simpa [gX,hz] using hk);simp only [raH] at ih;simp (disch:=try exact ac)[ku,szV,i1,i2,g1,raH];refine aC ?_;simp (disch:=try exact ac)[i1,i2,hz2];refine aC ?_;refine Eq.mpr (Pd _ _) ?_
   simp (disch:=try exact ac)[clean,fY,lm,pE,pD,xd,Gb,ek,uF,uE,nbq,hx0];simpa [szV] using ih
  ·have hz2:(!(tx y).1 == [48])=true:=by
    have:(tx y).1≠[48]:=fun e=>hz (mL.1 e)
    simp [this]
   have dv:=Ow x1 y1 hz (x2.mono aa) (y2.mono aa);have dv':CP Y F.iW [.agg [S (tx x).1,S (tx x).2],.agg [S (tx y).1,S (tx y).2]] (.tup [.agg [S (tx (xH x y)).1,S (tx (xH x y)).2],I 0]):=dv
   have ih:=Nl hK hN hab ha hb k k0 e0 x0 hx0 qb (pb++[y]) qa (pa++[x]) (xH x y) (by simpa using h1) (by simpa using h2) (by simp [h3]) (by simpa using h4) (by simpa [gX,hz] using hk);simp only [raH] at ih;simp (disch:=try exact ac)[ku,szV,i1,i2,g1,raH];refine aC ?_;simp (disch:=try exact ac)[i1,i2,hz2];refine aC ?_
   refine Eq.mpr (Kh _ _) ?_;simp (disch:=try exact ac)[j1,j2];refine cd dv' ?_ (by simp [aH,bY]);simp (disch:=try exact ac)[clean,fY,lm,pE,pD,xd,Gb,ek,uF,uE,nbq,hx0];simpa [szV] using ih
theorem yi {K L:Nat}:∀ {a b:List Q} {k:Q},okK K a->okK K b->okQ k->qL L k->K+K<=L->okQ (gX k a b)∧qL L (gX k a b)
 | [],b,k,_,_,h1,h2,_=>⟨h1,h2⟩
 | x::a,[],k,_,_,h1,h2,_=>⟨h1,h2⟩
 | x::a,y::b,k,ha,hb,h1,h2,hL=>by
  simp only [gX];have ha':okK K a:=fun z hz=>ha z (by simp [hz])
  have hb':okK K b:=fun z hz=>hb z (by simp [hz])
  obtain ⟨x1,x2⟩:=ha x af;obtain ⟨y1,y2⟩:=hb y af;split
  ·exact yi ha' hb' h1 h2 hL
  ·rename_i hz;exact yi ha' hb' (Qc x1 hz) ((SF x2 y2).mono hL) hL
theorem RQ {a b:List Q} {K L:Nat} (hK:K<=40000) (hL:L<=90000) (hN:b.length<1000000) (hab:a.length=b.length) (ha:okK K a) (hb:okK K b) {c:Q} (hc:okQ c) (lc:qL L c) (k:KL):∀ (qb pb qa pa:List Q),pb++qb=b->pa++qa=a->pa.length=pb.length->qa.length=qb.length ->
  (ky c qa qb=true->k (.exit 2) [] (raH (.vars [S [],S []]) 1 (tx c)))->(ky c qa qb=false->∀ w,k .ret [B false] [(1,.vars [S (tx c).1,S (tx c).2]),(1,.vars [S (tx c).1,S (tx c).2]),(0,.none),w]) ->
  lp (jp (CX Y) (szV a) (.ptr 0 1 0 2) (.ptr 1 1 0 2) (szV b) (I b.length)) [3] (raH (.vars [S [],S []]) 1 (tx c)) [I pb.length] (raH (.vars [S [],S []]) 1 (tx c)) k
 | [],pb,qa,pa,h1,h2,h3,h4,hk,hr=>by
  simp at h1;subst h1;have:qa=[]:=Zi h4;subst this;refine ax ?_;simp (disch:=try exact ac)[jp];exact hk rfl
 | y::qb,pb,[],pa,h1,h2,h3,h4,hk,hr=>by simp at h4
 | y::qb,pb,x::qa,pa,h1,h2,h3,h4,hk,hr=>by
  have hal:pb.length<b.length:=by subst h1;simp
  have hal2:pb.length<a.length:=aa;obtain ⟨y1,y2⟩:=hb y (by subst h1;simp);have hy:nth ([],[]) (b.map tx) pb.length=tx y:=by subst h1;exact jL ..
  have hx:nth ([],[]) (a.map tx) pb.length=tx x:=by subst h2;rw [<- h3];exact jL ..
  have i1:=fun h:Hp=>j3 aS aT (b.map tx) h (k:=.i64) (i:=(pb.length:Int)) aa aR
  have i2:=fun h:Hp=>jZ aS aT ([],[]) (b.map tx) h (j:=pb.length) (by simpa using hal)
  have j1:=fun h:Hp=>j3 aS aT (a.map tx) h (k:=.i64) (i:=(pb.length:Int)) aa aR
  have j2:=fun h:Hp=>jZ aS aT ([],[]) (a.map tx) h (j:=pb.length) (by simpa using hal2)
  simp only [hx,hy,Int.toNat_natCast,aS,Zu,Yn] at i1 i2 j1 j2;have g1:(pb.length:Int)<(b.length:Int):=aa;have mu:=GD hc y1 (lc.mono aa) (y2.mono aa);have mu':CP Y F.fJ [.agg [S (tx c).1,S (tx c).2],.agg [S (tx y).1,S (tx y).2]] (.agg [S (tx (lF c y)).1,S (tx (lF c y)).2]):=mu;have ne:=UT (lF c y) x;refine ax ?_
  by_cases hq:lF c y=x
  ·have ih:=RQ hK hL hN hab ha hb hc lc k qb (pb++[y]) qa (pa++[x]) (by simpa using h1) (by simpa using h2) (by simp [h3]) (by simpa using h4) (fun g=>hk (by simp [ky,hq,g])) (fun g=>hr (by simp [ky,hq,g]));rw [decide_eq_true hq] at ne;simp only [raH] at ih;simp (disch:=try exact ac)[jp,szV,i1,i2,g1,raH];refine cd mu' ?_ (by simp [aH,bY])
   simp (disch:=try exact ac)[j1,j2,ne,clean,fY,lm,pE,pD,xd,Gb,ek,uF,uE,nbq];simpa [szV] using ih
  ·rw [decide_eq_false hq] at ne;simp (disch:=try exact ac)[jp,szV,i1,i2,g1,raH];refine cd mu' ?_ (by simp [aH,bY]);simp (disch:=try exact ac)[j1,j2,ne];exact hr (by simp [ky,hq]) _
theorem Nj {a b:List Q} {K:Nat} (hK:K<=40000) (hN:b.length<1000000) (hab:a.length=b.length) (ha:okK K a) (hb:okK K b):CP Y F.kK [szV a,szV b] (.tup [.agg (qT (gX (0,1) a b)),B (ky (gX (0,1) a b) a b)]):=by
 refine Du ?_;have n0:=fx (z:=0) aa aa;have n0':CP Y F.bN [I 0] (.agg [S (tx (0,1)).1,S (tx (0,1)).2]):=n0;have z0:okQ ((0,1):Q):=⟨ae,ae⟩;have zl:qL 90000 ((0,1):Q):=⟨Z2 (bi (d:=1) ae ae) ae,Z2 (bi (d:=1) ae ae) ae⟩
 obtain ⟨c1,c2⟩:=yi (k:=(0,1)) ha hb z0 zl aa;have lb:=sQ b;simp (disch:=try exact ac)[kK];refine cd n0' ?_;simp (disch:=try exact ac)[lb]
 have l0:=Nl hK hN hab ha hb (exK [((.exit 0),fun l6 h=>
  bnd (bq (szV b)) fun v7=>
  lp (jp (CX Y) (szV a) (.ptr 0 1 0 2) (.ptr 1 1 0 2) (szV b) v7) [3] h [(.d (.int .i64 0))] h (exK [((.exit 2),fun l8 h=>
   bnd (ldA h 2 (.ptr 1 1 0 2)) fun v9=>
   stD h 2 (.ptr 0 1 0 2) v9 fun _ h=>
   bnd (ldA h 2 (.ptr 0 1 0 2)) fun v11=>
   out (.tup [.agg (qT (gX (0,1) a b)),B (ky (gX (0,1) a b) a b)]) (.tup [v11,(.d (.bool true))]) h),
   (.ret,fun l8 h=>
   bnd (ldA h 2 (.ptr 0 1 0 2)) fun v12=>
   out (.tup [.agg (qT (gX (0,1) a b)),B (ky (gX (0,1) a b) a b)]) (.tup [v12,(ge l8 0)]) h)]))]) (tx (0,1)) 1 (.vars [S [],S []]) rfl b [] a [] (0,1) rfl rfl rfl hab (by
   generalize gX (0,1) a b=c at *;simp (disch:=try exact ac)[lb];refine lo (RQ hK (Z7 _) hN hab ha hb c1 c2 _ b [] a [] rfl rfl rfl hab (fun g=>?_) (fun g w=>?_))
   ·simp (disch:=try exact ac)[raH];rw [g];exact av (RO _ c) rfl
   ·simp (disch:=try exact ac)[];rw [g];exact av (RO _ c) rfl)
 exact l0
theorem Es {n:Nat}:∀ (ts:List (Int × Int)) (lo hi:Int) (B:Nat),Qz n ts->(∀ t∈ts,ndg t.2.natAbs<=100000)->101502<=B->ndg lo.natAbs<=B->ndg hi.natAbs<=B ->
  ndg (aU n ts (lo,hi)).1.natAbs<=B+ts.length∧ndg (aU n ts (lo,hi)).2.natAbs<=B+ts.length
 | [],lo,hi,B,hl,hk,hB,h1,h2=>by trivial
 | t::ts,lo,hi,B,hl,hk,hB,h1,h2=>by
  obtain ⟨l1,l2,l3,l4⟩:=hl t af;have hk1:=hk t af;generalize hv:lg t.1 n=v at *;have hv1:ndg (v+1)<=1501:=oN l4 (Z2 (bi (n:=1) (d:=1) ae ae) ae)
  have hx:ndg ((v:Int)*t.2).natAbs<=101501:=by
   have:=cT (z:=(v:Int)) (w:=t.2);rw [Int.natAbs_natCast] at this;omega
  have hy0:ndg (((v+1:Nat):Int)*t.2).natAbs<=101501:=by
   have:=cT (z:=((v+1:Nat):Int)) (w:=t.2);rw [Int.natAbs_natCast] at this;omega
  obtain ⟨y,hy⟩:∃ y:Int,y=(if t.1=2 then (v:Int) else v+1):=⟨_,rfl⟩
  have hyb:ndg (y*t.2).natAbs<=101501:=by
   subst hy;split
   ·exact hx
   ·exact hy0
  have e:∀ q:Int × Int,ndg q.1.natAbs<=B+1->ndg q.2.natAbs<=B+1->ndg (aU n ts q).1.natAbs<=B+(t::ts).length∧ndg (aU n ts q).2.natAbs<=B+(t::ts).length:=fun q q1 q2=>by
   obtain ⟨qa,qb⟩:=q;have:=Es (n:=n) ts qa qb (B+1) (fun t ht=>hl t (by grind)) (fun t ht=>hk t (by grind)) aa q1 q2
   grind
  simp only [aU,hv,<- hy];split
  ·exact e _ (jN h1 (Z2 hyb aa)) (jN h2 (Z2 hx aa))
  ·exact e _ (jN h1 (Z2 hx aa)) (jN h2 (Z2 hyb aa))
def GH (tx ty:List (Int × Int)) (d g:Int):Nat->Nat->Option Int
 | 0,_=>none
 | r+1,n=>match wh (aU n tx (0,0)) (aU n ty (0,0)) d g with
  | some q=>some q
  | none=>GH tx ty d g r (n*2)
theorem SE (x y:Int × Int) (d g:Int):wh x y d g=if (if y.2<=0 then tI (-x.2) (-x.1) (-y.2) (-y.1) d g else tI x.1 x.2 y.1 y.2 d g).2=true then some (if y.2<=0 then tI (-x.2) (-x.1) (-y.2) (-y.1) d g else tI x.1 x.2 y.1 y.2 d g).1 else none:=by
 rw [HT,Nn]
theorem Oh (a b:Int):biS .eql (S (itoa a)) (S (itoa b))=some (B (decide (a=b))):=by
 have:(itoa a == itoa b)=decide (a=b):=by
  rw [Yr];simp only [beq_iff_eq,decide_eq_true_eq];exact ⟨fun h=>u7 h,fun h=>by rw [h]⟩
 simp_all
theorem GF {X1 X2 Y1 Y2:Int} {tx ty:List (Int × Int)} {d g:Nat} {M:Nat} (hM:M<=110000) (x1:ndg X1.natAbs<=M) (x2:ndg X2.natAbs<=M) (y1:ndg Y1.natAbs<=M) (y2:ndg Y2.natAbs<=M) (y0:Y1<=Y2) (d0:0<d) (g0:0<g) (hd:ndg d<=100000) (hg:ndg g<=100000)
  (h:Hp) (hh:h=[(1,.vars [S [],S []]),(1,.vars ((tmD tx d).map .d)),(1,.vars ((tmD ty g).map .d))]∨True) (e1:ld1 h (.ptr 2 1 2 3)=some (S (ah g))) (e2:ld1 h (.ptr 1 1 2 3)=some (S (ah d))) (q2:Hp->Prop) (qr:V->Hp->Prop)
  (h1:(tI X1 X2 Y1 Y2 d g).2=false->q2 h) (h2:(tI X1 X2 Y1 Y2 d g).2=true->qr (S (itoa (tI X1 X2 Y1 Y2 d g).1)) h) :
  cal (CX Y).p h (.fn F.bp [] []) [S (itoa Y1)] fun v16 h=>
   bnd (biI .leq v16 (.d (.int .i64 0))) fun v17=>
   cnd v17 (q2 h) (
    cal (CX Y).p h (.fn F.bp [] []) [S (itoa X1)] fun v18 h=>
    bnd (biI .lss v18 (.d (.int .i64 0))) fun v19=>
    jn (fun l20 h=>
     cal (CX Y).p h (.fn F.bp [] []) [S (itoa X2)] fun v22 h=>
     bnd (biI .lss v22 (.d (.int .i64 0))) fun v23=>
     jn (fun l24 h=>
      bnd (faV 2 (.ptr 2 1 0 3)) fun v26=>
      bnd (ld1 h v26) fun v27=>
      cal (CX Y).p h (.fn F.aE [] []) [S (itoa X1),v27] fun v28 h=>
      bnd (faV 2 (.ptr 1 1 0 3)) fun v29=>
      bnd (ld1 h v29) fun v30=>
      cal (CX Y).p h (.fn F.aE [] []) [(ge l20 0),v30] fun v31 h=>
      cal (CX Y).p h (.fn F.aP [] []) [v28,v31] fun v32 h=>
      ext v32 0 fun v33=>
      ext v32 1 fun v34=>
      ext v32 2 fun v35=>
      bnd (faV 2 (.ptr 2 1 0 3)) fun v36=>
      bnd (ld1 h v36) fun v37=>
      cal (CX Y).p h (.fn F.aE [] []) [S (itoa X2),v37] fun v38 h=>
      bnd (faV 2 (.ptr 1 1 0 3)) fun v39=>
      bnd (ld1 h v39) fun v40=>
      cal (CX Y).p h (.fn F.aE [] []) [(ge l24 0),v40] fun v41 h=>
      cal (CX Y).p h (.fn F.aP [] []) [v38,v41] fun v42 h=>
      ext v42 0 fun v43=>
      ext v42 1 fun v44=>
      ext v42 2 fun v45=>
      bnd (biS .eql v33 v43) fun v46=>
      cnd v46 (qr v33 h) (q2 h)) fun q25=>
      cnd v23 (
       q25 [S (itoa Y2)] h) (
       q25 [S (itoa Y1)] h)) fun q21=>
     cnd v19 (
      q21 [S (itoa Y1)] h) (
      q21 [S (itoa Y2)] h)):=by
 have s1:=jf Y1;have s2:=jf X1;have s3:=jf X2;have p1:=tE Y1;have n2:sgn X1<0↔X1<0:=by unfold sgn;split <;> (try split) <;> omega
 have n3:sgn X2<0↔X2<0:=by unfold sgn;split <;> (try split) <;> omega
 unfold tI at h1 h2;have sn:∀ s:List UInt8,aH h [S s]=some ([S s],h):=fun s=>by rfl
 have sn2:∀ s t:List UInt8,aH h [S s,S t]=some ([S s,S t],h):=fun s t=>by rfl
 by_cases c:Y1<=0
 ·rw [if_pos c] at h1;have c':sgn Y1<=0:=p1.2 c;simp (disch:=try exact ac)[];refine cd s1 ?_ (sn _);simp (disch:=try exact ac)[c']
  grind
 ·rw [if_neg c] at h1 h2;have c':¬ sgn Y1<=0:=fun x=>c (p1.1 x)
  obtain ⟨lo,hlo⟩:∃ z,z=(if X1<0 then Y1 else Y2):=⟨_,rfl⟩;obtain ⟨hi,hhi⟩:∃ z,z=(if X2<0 then Y2 else Y1):=⟨_,rfl⟩;rw [<- hlo,<- hhi] at h1 h2;have l1:0<lo∧ndg lo.natAbs<=M:=by subst hlo;split <;> exact ⟨aa,by assumption⟩
  have l2:0<hi∧ndg hi.natAbs<=M:=by subst hhi;split <;> exact ⟨aa,by assumption⟩
  have mg:∀ z:Int,ndg z.natAbs<=M->∀ w:Nat,ndg w<=100000->CP Y F.aE [S (itoa z),S (ah w)] (S (itoa (z*w)))∧ndg (z*w).natAbs<=300000:=fun z hz w hw=>by
   refine ⟨sf aa aa,?_⟩
   grind [cT]
  obtain ⟨m1,b1⟩:=mg X1 x1 g hg;obtain ⟨m2,b2⟩:=mg lo l1.2 d hd;obtain ⟨m3,b3⟩:=mg X2 x2 g hg;obtain ⟨m4,b4⟩:=mg hi l2.2 d hd;have z1:0<lo*(d:Int):=Xk l1.1 aa;have z2:0<hi*(d:Int):=Xk l2.1 aa;have w1:=E4 (z:=X1*g) (w:=lo*d) z1 aa aa;have w2:=E4 (z:=X2*g) (w:=hi*d) z2 aa aa
  have eq:=Oh (X1*g / (lo*d)) (X2*g / (hi*d));generalize X1*(g:Int) / (lo*d)=r1 at *;generalize X2*(g:Int) / (hi*d)=r2 at *;generalize X1*(g:Int) % (lo*d)=r3 at *;generalize X2*(g:Int) % (hi*d)=r4 at *;generalize X1*(g:Int)=u1 at *;generalize X2*(g:Int)=u2 at *;generalize lo*(d:Int)=v1 at *;generalize hi*(d:Int)=v2 at *
  simp (disch:=try exact ac)[];refine cd s1 ?_ (sn _);simp (disch:=try exact ac)[c'];refine cd s2 ?_ (sn _);simp (disch:=try exact ac)[];refine fk (l:=[S (itoa lo)]) (h:=h) (fun q=>?_) ?_
  ·by_cases c1:X1<0
   ·simp_all
   simp_all
  ·simp (disch:=try exact ac)[];refine cd s3 ?_ (sn _);simp (disch:=try exact ac)[];refine fk (l:=[S (itoa hi)]) (h:=h) (fun q=>?_) ?_
   ·by_cases c1:X2<0
    ·simp_all
    simp_all
   ·rw [RZ] at e1 e2;simp (disch:=try exact ac)[e1,e2];refine cd m1 ?_ (sn2 _ _);simp (disch:=try exact ac)[e1,e2];refine cd m2 ?_ (sn2 _ _);simp (disch:=try exact ac)[];refine cd w1 ?_ (sn2 _ _);simp (disch:=try exact ac)[e1,e2];refine cd m3 ?_ (sn2 _ _);simp (disch:=try exact ac)[e1,e2]
    refine cd m4 ?_ (sn2 _ _);simp (disch:=try exact ac)[];refine cd w2 ?_ (sn2 _ _);by_cases he:r1=r2
    ·rw [decide_eq_true he] at eq h2;simp (disch:=try exact ac)[eq]
     grind
    ·rw [decide_eq_false he] at eq h1;simp (disch:=try exact ac)[eq]
     grind
theorem S6 {k:List V->Hp->Prop} {T:(List V->Hp->Prop)->Prop} (h:T k):jn k T:=h
def flH (k:Tx) (tx ty:List (Int × Int)) (d g:Nat):Hp:=[(1,.vars [S k.1,S k.2]),(1,.vars ((tmD tx d).map .d)),(1,.vars ((tmD ty g).map .d))]
theorem GG {k0:Tx} {tx ty:List (Int × Int)} {d g:Nat} (hx:okT tx) (hy:okT ty) (lx:xf tx) (ly:xf ty) (d0:0<d) (g0:0<g) (hd:ndg d<=100000) (hg:ndg g<=100000) (hord:∀ i,i<6->(aU (64*2 ^ i) ty (0,0)).1<=(aU (64*2 ^ i) ty (0,0)).2) (k:KL) (h0:Hp) (hh:h0.length=3):∀ (r i:Nat) (s:Int),i+r=6->GH tx ty d g r (64*2 ^ i)=some s->(∀ h,k .ret [S (itoa s)] h) ->
  lp (ig (CX Y) (.ptr 1 1 0 3) (.ptr 2 1 0 3)) [] h0 [I ((64*2 ^ i:Nat):Int)] (flH k0 tx ty d g) k
 | 0,i,s,hi,hs,hk=>by trivial
 | r+1,i,s,hi,hs,hk=>by
  have hn:64*2 ^ i<=3900:=by
   have:2 ^ i<=2 ^ 5:=Z4 ae aa;omega
  have ex:=Ep (n:=64*2 ^ i) (d:=d) hn (lx i aa) (uM hx) (by have:=hx.1;omega);have ey:=Ep (n:=64*2 ^ i) (d:=g) hn (ly i aa) (uM hy) (by have:=hy.1;omega);have z1:ndg (0:Int).natAbs<=101502:=Z2 (bi (d:=1) ae ae) ae;have bx:=Es (n:=64*2 ^ i) tx 0 0 101502 (lx i aa) (uM hx) (Z7 _) z1 z1
  have by_:=Es (n:=64*2 ^ i) ty 0 0 101502 (ly i aa) (uM hy) (Z7 _) z1 z1;have hor:=hord i aa;have hd2:64*2 ^ i*2=64*2 ^ (i+1):=by rw [Nat.pow_succ,<- Nat.mul_assoc]
  have tl:=hx.1;have tl2:=hy.1;have ex':CP Y F.cn [.agg [.d (.sl tx.length (tx.map tmP)),.d (.sl tx.length (tx.map tmK)),S (ah d)],I ((64*2 ^ i:Nat):Int)] (.tup [S (itoa (aU (64*2 ^ i) tx (0,0)).1),S (itoa (aU (64*2 ^ i) tx (0,0)).2)]):=ex
  have ey':CP Y F.cn [.agg [.d (.sl ty.length (ty.map tmP)),.d (.sl ty.length (ty.map tmK)),S (ah g)],I ((64*2 ^ i:Nat):Int)] (.tup [S (itoa (aU (64*2 ^ i) ty (0,0)).1),S (itoa (aU (64*2 ^ i) ty (0,0)).2)]):=ey;simp only [GH,hd2,SE] at hs;generalize aU (64*2 ^ i) tx (0,0)=x at *;generalize aU (64*2 ^ i) ty (0,0)=y at *
  have ih:=GG (k0:=k0) hx hy lx ly d0 g0 hd hg hord k h0 hh r (i+1) s aa;have hm:((64*2 ^ i:Nat):Int)*2=((64*2 ^ (i+1):Nat):Int):=by rw [<- hd2];omega
  have hm2:((64*2 ^ (i+1):Nat):Int)<=8000:=aa;generalize 64*2 ^ (i+1)=m2 at *;generalize 64*2 ^ i=m at *;have s1:=jf y.2;have p1:=tE y.2;obtain ⟨w,hw⟩:∃ w,w=(if y.2<=0 then tI (-x.2) (-x.1) (-y.2) (-y.1) d g else tI x.1 x.2 y.1 y.2 d g):=⟨_,rfl⟩;rw [<- hw] at hs
  have nx:w.2=false->lp (ig (CX Y) (.ptr 1 1 0 3) (.ptr 2 1 0 3)) [] h0 [I (m2:Int)] (flH k0 tx ty d g) k:=fun hf=>by
   grind
  have rt:w.2=true->itoa w.1=itoa s:=fun ht=>by
   grind
  refine ax ?_
  have q2p:w.2=false->bnd (biI .mul (I (m:Int)) (.d (.int .i64 2))) fun v3=>
    clean [] [v3] (flH k0 tx ty d g)=true∧lp (ig (CX Y) (.ptr 1 1 0 3) (.ptr 2 1 0 3)) [] h0 [v3] (aK [] 0 h0 (flH k0 tx ty d g)) k:=fun hf=>by
   have:=nx hf;have e:biI .mul (I (m:Int)) (.d (.int .i64 2))=some (I (m2:Int)):=by rw [kG,hm,wrap_i64 ⟨aa,aa⟩]
   rw [e,vG,eE 0 h0 _ (by rw [hh];rfl)];trivial
  have rtp:∀ h,w.2=true->k .ret [S (itoa w.1)] h:=fun h ht=>by grind
  simp (disch:=try exact ac)[ig,flH,tmD];refine aC ?_;simp (disch:=try exact ac)[];refine cd ex' ?_ (by rfl);simp (disch:=try exact ac)[];refine cd ey' ?_ (by rfl);simp (disch:=try exact ac)[];refine cd s1 ?_ (by rfl);by_cases c:y.2<=0
  ·have c':sgn y.2<=0:=p1.2 c;rw [if_pos c] at hw;have n1:=sN (z:=x.2) aa;have n2:=sN (z:=x.1) aa;have n3:=sN (z:=y.2) aa;have n4:=sN (z:=y.1) aa
   have fr:=GF (X1:=-x.2) (X2:=-x.1) (Y1:=-y.2) (Y2:=-y.1) (tx:=tx) (ty:=ty) (d:=d) (g:=g) (M:=110000) (Z7 _) (by grind) (by grind) (by grind) (by grind) aa d0 g0 hd hg (flH k0 tx ty d g) (.inr trivial) rfl rfl (fun h=>bnd (biI .mul (I (m:Int)) (.d (.int .i64 2))) fun v3=>clean [] [v3] h=true∧lp (ig (CX Y) (.ptr 1 1 0 3) (.ptr 2 1 0 3)) [] h0 [v3] (aK [] 0 h0 h) k) (fun v h=>k .ret [v] h) (fun hf=>q2p (by grind)) (fun ht=>by
    grind)
   have e13:biI .leq (I (sgn y.2)) (.d (.int .i64 0))=some (B true):=by simp [c']
   rw [e13,vG];refine S6 ?_;refine Eq.mpr (Kh _ _) ?_;exact cd (u:=.mk) n1 (cd (u:=.mk) n2 (cd (u:=.mk) n3 (cd (u:=.mk) n4 fr (by rfl)) (by rfl)) (by rfl)) (by rfl)
  ·have c':¬ sgn y.2<=0:=fun z=>c (p1.1 z)
   rw [if_neg c] at hw
   have fr:=GF (X1:=x.1) (X2:=x.2) (Y1:=y.1) (Y2:=y.2) (tx:=tx) (ty:=ty) (d:=d) (g:=g) (M:=110000) (Z7 _) aa aa aa aa hor d0 g0 hd hg (flH k0 tx ty d g) (.inr trivial) rfl rfl (fun h=>bnd (biI .mul (I (m:Int)) (.d (.int .i64 2))) fun v3=>clean [] [v3] h=true∧lp (ig (CX Y) (.ptr 1 1 0 3) (.ptr 2 1 0 3)) [] h0 [v3] (aK [] 0 h0 h) k) (fun v h=>k .ret [v] h) (fun hf=>q2p (by grind)) (fun ht=>by
    grind)
   have e13:biI .leq (I (sgn y.2)) (.d (.int .i64 0))=some (B false):=by simp;omega
   rw [e13,vG];trivial
def rT (p:List Int) (a b:List Q) (q:Int):Prop:=
 (ky (gX (0,1) a b) a b=true∧q=(gX (0,1) a b).1 / ((gX (0,1) a b).2:Int)) ∨
 (ky (gX (0,1) a b) a b=false∧H3 (tq p a)∧H3 (tq p b)∧fi 1 a<9223372036854775808∧fi 1 b<9223372036854775808 ∧
  ((Bs (tq p a) (tq p b) (fi 1 a) (fi 1 b)=some q∧-9223372036854775808<q∧q<9223372036854775808) ∨
   (Bs (tq p a) (tq p b) (fi 1 a) (fi 1 b)=none∧xf (tq p a)∧xf (tq p b)∧(∀ i,i<6->(aU (64*2 ^ i) (tq p b) (0,0)).1<=(aU (64*2 ^ i) (tq p b) (0,0)).2)∧GH (tq p a) (tq p b) (fi 1 a) (fi 1 b) 6 64=some q)))
theorem HZ {ts:List (Int × Int)} (h:H3 ts):okT ts:=⟨by have:=h.1;omega,fun t ht=>⟨(h.2 t ht).1,by have:=(h.2 t ht).2.1;omega,(h.2 t ht).2.2⟩⟩
theorem CJ {p:List Int} {a b:List Q} {K:Nat} {q:Int} (hK:K<=1000) (hN:p.length<=20) (ha:a.length=p.length) (hb:b.length=p.length) (oa:okK K a) (ob:okK K b) (hq:rT p a b q):CP Y F.jG [lst di p,szV a,szV b] (S (itoa q)):=by
 refine Dw ?_;have hKK:K*a.length<=1000*20:=Zs hK aa;have hKK2:K*b.length<=1000*20:=Zs hK aa;have ra:=Nj (a:=a) (b:=b) (K:=K) aa aa aa oa ob;have z0:okQ ((0,1):Q):=⟨ae,ae⟩
 have zl:qL 90000 ((0,1):Q):=⟨Z2 (bi (d:=1) ae ae) ae,Z2 (bi (d:=1) ae ae) ae⟩;obtain ⟨c1,c2⟩:=yi (k:=(0,1)) (L:=90000) oa ob z0 zl aa;have ff:=Iv c1 (c2.mono aa);have ta:=nW (p:=p) (s:=a) (K:=K) aa ha.symm oa aa aa
 have tb:=nW (p:=p) (s:=b) (K:=K) aa hb.symm ob aa aa;have pa:=lR (s:=a) (d:=1) ae (fun x hx=>(oa x hx).1.1);have pb:=lR (s:=b) (d:=1) ae (fun x hx=>(ob x hx).1.1);have ra':CP Y F.kK [szV a,szV b] (.tup [.agg [S (tx (gX (0,1) a b)).1,S (tx (gX (0,1) a b)).2],B (ky (gX (0,1) a b) a b)]):=ra
 have ff':CP Y F.gH [.agg [S (tx (gX (0,1) a b)).1,S (tx (gX (0,1) a b)).2]] (S (itoa ((gX (0,1) a b).1 / (gX (0,1) a b).2))):=ff;have sn:∀ h:Hp,aH h [szV a,szV b]=some ([szV a,szV b],h):=fun h=>by simp [aH,szV,iU]
 simp (disch:=try exact ac)[jG];refine cd ra' ?_ (sn _);rcases hq with ⟨g,hq⟩ | ⟨g,qa,qb,da,db,hq⟩
 ·rw [g];subst hq;generalize gX (0,1) a b=c at *;simp (disch:=try exact ac)[];refine cd ff' ?_ (by simp [aH,bY]);exact dh rfl
 ·rw [g];generalize gX (0,1) a b=c at *;obtain ⟨q',b',qo,q1,q2⟩:=FT qa qb da db pa pb;simp (disch:=try exact ac)[];refine cd ta ?_ (by simp [aH,szV,iU]);simp (disch:=try exact ac)[];refine cd tb ?_ (by simp [aH,szV,iU])
  show alV _ _ _ _
  have qo':CP Y F.dt [.agg [.d (.sl (tq p a).length ((tq p a).map tmP)),.d (.sl (tq p a).length ((tq p a).map tmK)),S (ah (fi 1 a))],.agg [.d (.sl (tq p b).length ((tq p b).map tmP)),.d (.sl (tq p b).length ((tq p b).map tmK)),S (ah (fi 1 b))]] (.tup [I q',B b']):=qo;have e1:dl (fi 1 a) p a=tq p a:=rfl;have e2:dl (fi 1 b) p b=tq p b:=rfl;rw [e1,e2]
  have nd:=fun n (h:n<9223372036854775808)=>Z2 (bi (n:=n) (d:=19) aa ae) (by decide:19<=100000)
  have fl:=fun hl1 hl2 ho (hs:GH (tq p a) (tq p b) (fi 1 a) (fi 1 b) 6 64=some q)=>GG (k0:=tx c) (HZ qa) (HZ qb) hl1 hl2 pa pb (nd _ da) (nd _ db) ho (exK [(.ret,fun l20 h=>out (S (itoa q)) (ge l20 0) h)]) (flH (tx c) (tq p a) (tq p b) (fi 1 a) (fi 1 b)) rfl 6 0 q rfl hs (fun h=>by
   simp (disch:=try exact ac)[];exact dh rfl)
  generalize tq p a=ta' at *;generalize tq p b=tb' at *;simp (disch:=try exact ac)[tmV];refine cd qo' ?_ (by simp [aH,bY]);cases b' with
  | true=>
   rcases hq with ⟨h1,h2,h3⟩ | ⟨h1,_⟩
   ·rw [q1 rfl] at h1;simp only [Z9] at h1;subst h1;simp (disch:=try exact ac)[];refine cd (km h2 h3) ?_;exact dh rfl
   ·rw [q1 rfl] at h1;cases h1
  | false=>
   rcases hq with ⟨h1,_⟩ | ⟨h1,hl1,hl2,ho,hs⟩
   ·rw [q2 rfl] at h1;cases h1
   ·have:=fl hl1 hl2 ho hs;simp only [flH,tmD,Zu,Yn] at this;simp (disch:=try exact ac)[];exact this
theorem xu {p:List Int} {a b:List Q} (hp:pcB p=0) (hN:p.length<=20) (ha:a.length=p.length) (hb:b.length=p.length) (oa:okS a) (ob:okS b) (hne:tq p b≠[]):CP Y F.dF [lst di p,szV a,szV b] (I 0):=by
 refine rE ?_
 have hab:∀ s ∈ [a,b],s.length=p.length∧okS s:=fun s hs=>by
  simp at hs;rcases hs with rfl | rfl
  ·exact ⟨ha,oa⟩
  ·exact ⟨hb,ob⟩
 have ca:=rZ (p:=p) (l:=[a,b]) aa af (fun s hs=>⟨(hab s hs).2,by have:=(hab s hs).1;omega⟩);rw [if_pos hp,yG (n:=p.length) (l:=[a,b]) fun s hs=>(hab s hs).1] at ca;have tb:=nW (p:=p) (s:=b) (K:=30) aa hb.symm ob aa aa;have l1:∀ H,eY 2 [D.pl (Value.slice none 0 0)] [(0,szV a),(1,szV b)] H=some ([szD a,szD b],H):=fun H=>Lo ..
 have e2:dl (fi 1 b) p b=tq p b:=rfl;rw [e2] at tb;generalize tq p b=t at *;have ll:bq (.d (.sl t.length (t.map tmP)))=some (I t.length):=rfl;simp (disch:=try exact ac)[dF,l1];refine cd (v:=I 0) ca ?_ (by simp [aH,bY,norm]);simp (disch:=try exact ac)[];refine cd tb ?_ (by simp [aH,szV,iU])
 simp (disch:=try exact ac)[tmV,fiV,ll,hne]
def uD (p:List Int) (a b:List Q):List Q:=kr p.length [a,b] [(2,1),(1,1)]
def rK (p:List Int) (b:List Q):List Q:=kr p.length [b] [(2,1)]
theorem Dj:okK 1 [(2,1),(1,1)]:=fun x hx=>by
 simp at hx;rcases hx with rfl | rfl
 ·exact ⟨⟨ae,ae⟩,bi ae ae,bi ae ae⟩
 ·exact ⟨⟨ae,ae⟩,bi ae ae,bi ae ae⟩
theorem M8 {p:List Int} {a b:List Q} {q:Int} (hp:pcB p=0) (hN:p.length<=20) (ha:a.length=p.length) (hb:b.length=p.length) (oa:okS a) (ob:okS b) (hne:tq p b≠[]) (hq:rT p (uD p a b) (rK p b) q):CP Y F.mj [lst di p,szV a,szV b] (.tup [S (itoa q),I 0]):=by
 refine DC ?_;have cq:=xu hp hN ha hb oa ob hne
 have hab:∀ s ∈ [a,b],s.length=p.length∧okK 30 s:=fun s hs=>by
  simp at hs;rcases hs with rfl | rfl
  ·exact ⟨ha,oa⟩
  ·exact ⟨hb,ob⟩
 have hbb:∀ s ∈ [b],s.length=p.length∧okK 30 s:=fun s hs=>by
  simp at hs;subst hs;exact ⟨hb,ob⟩
 have o2:okK 1 [((2,1):Q)]:=fun x hx=>Dj x (by simp at hx;subst hx;simp)
 have su:=yZ (n:=p.length) (l:=[a,b]) (fs:=[(2,1),(1,1)]) (Ks:=30) (Kk:=1) aa af rfl ae af hab Dj;have sv:=yZ (n:=p.length) (l:=[b]) (fs:=[(2,1)]) (Ks:=30) (Kk:=1) aa af rfl ae af hbb o2;have oA:okK 65 (uD p a b):=yf (Ks:=30) (Kk:=1) (Ko:=1) (uj _) (fun s hs=>(hab s hs).2) Dj
 have oB:okK 65 (rK p b):=fun x hx=>by
  have:=yf (Ks:=30) (Kk:=1) (Ko:=1) (uj p.length) (fun s hs=>(hbb s hs).2) o2 x hx;exact ⟨this.1,this.2.mono af⟩
 have lA:(uD p a b).length=p.length:=by
  unfold uD kr;rw [nX (fun s hs=>by simpa using (hab s hs).1)];simp
 have lB:(rK p b).length=p.length:=by
  unfold rK kr;rw [nX (fun s hs=>by simpa using (hbb s hs).1)];simp
 have fl:=CJ (p:=p) (K:=65) aa hN lA lB oA oB hq;have l1:∀ H,eY 2 [D.pl (Value.slice none 0 0)] [(0,szV a),(1,szV b)] H=some ([szD a,szD b],H):=fun H=>Lo ..
 have l2:∀ H,eY 2 [D.str [],D.str []] [(0,.agg (qT (2,1))),(1,.agg (qT (1,1)))] H=some (aS (tx (2,1))++aS (tx (1,1)),H):=fun H=>NY (2,1) (1,1) H
 have l3:bq (lst di p)=some (I p.length):=rfl;have l4:∀ H,eY 1 [D.pl (Value.slice none 0 0)] [(0,szV b)] H=some ([szD b],H):=fun H=>Lp ..
 have l5:∀ H,eY 1 [D.str [],D.str []] [(0,.agg (qT (2,1)))] H=some (aS (tx (2,1)),H):=fun H=>NZ (2,1) H
 have sn:∀ (h:Hp) (x y:List Q),aH h [lst di p,szV x,szV y]=some ([lst di p,szV x,szV y],h):=fun h x y=>by simp [aH,szV,iU]
 simp (disch:=try exact ac)[mj];refine cd cq ?_ (sn _ _ _);simp (disch:=try exact ac)[l1,l3];refine cd (fx (z:=2) aa aa) ?_;simp (disch:=try exact ac)[];refine cd (fx (z:=1) aa aa) ?_;simp (disch:=try exact ac)[l2]
 refine cd (v:=szV (uD p a b)) su ?_ (by simp [aH,bY,norm]);simp (disch:=try exact ac)[l3,l4];refine cd (fx (z:=2) aa aa) ?_;simp (disch:=try exact ac)[l5];refine cd (v:=szV (rK p b)) sv ?_ (by simp [aH,bY,norm]);simp (disch:=try exact ac)[];refine cd fl ?_ (sn _ _ _);exact av rfl rfl
end Go.Vm
