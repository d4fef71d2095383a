/- Natural numbers of the checker: shift. -/
import Derived.Test.YtaiahkcmdnaooaaGreatDoorQCkBits
import Derived.Test.YtaiahkcmdnaooaaGreatDoorQCkForm
import Derived.Test.YtaiahkcmdnaooaaGreatDoorQDcY
import Derived.Test.YtaiahkcmdnaooaaGreatDoorQStr
import Derived.Test.YtaiahkcmdnaooaaGreatDoorQT
import Derived.Test.YtaiahkcmdnaooaaGreatDoorQWalk
namespace Go.Vm
open Go Go.Am Go.Big
def shH (o:List Nat):Hp:=[(1,.data 1 (o.map u32) false false),(0,.none)]
@[simp] theorem Tn (o:List Nat):List.length (shH o)=2:=id rfl
def slH (o:List Nat):Hp:=[(0,.none),(1,.data 1 (o.map u32) true false)]
@[simp] theorem Tg (o:List Nat):List.length (slH o)=2:=id rfl
def rdT (s:List UInt8):List UInt8:=if s.headD 0=45 then s.tail else s
def rdN (s:List UInt8):Bool:=decide (s.headD 0=45)
def rd (s:List UInt8):Option Int:=if (rdT s).length<=400 then rdS s else none
theorem Pq (s:List UInt8):rd s=if (rdT s).length<=400∧rdT s≠[]∧¬ ((rdT s).headD 0=48∧(1 < (rdT s).length∨rdN s=true))∧(rdT s).all kv=true then some (if rdN s=true then -(cV 0 (rdT s):Int) else (cV 0 (rdT s):Int)) else none:=by
 unfold rd rdS
 have hcan:∀ t:List UInt8,ma t=true↔t≠[]∧t.all kv=true∧¬ (1 < t.length∧t.headD 0=48):=fun t=>by
  simp [ma,and_assoc];intro _ _;constructor
  ·rintro (h | h) g
   ·omega
   ·exact h
  ·intro h;by_cases g:1 < t.length
   ·exact .inr (h g)
   ·exact .inl (by omega)
 by_cases h:s.headD 0=45
 ·have e1:rdT s=s.tail:=by unfold rdT;rw [if_pos h]
  have e2:rdN s=true:=by unfold rdN;simpa using h
  rw [e1,e2,if_pos h];generalize s.tail=t;by_cases h1:t.length<=400
  ·simp only [h1,if_true,true_and,hcan];by_cases h2:t≠[]∧¬ (t.headD 0=48∧(1 < t.length∨True))∧t.all kv=true
   ·rw [if_pos h2,if_pos];obtain ⟨a,b,c⟩:=h2;refine ⟨⟨a,c,fun x=>b ⟨x.2,.inr trivial⟩⟩,fun x=>b ⟨by rw [x];rfl,.inr trivial⟩⟩
   ·rw [if_neg h2,if_neg];rintro ⟨⟨a,b,c⟩,d⟩;refine h2 ⟨a,fun x=>?_,b⟩;by_cases g:1 < t.length
    ·exact c ⟨g,x.1⟩
    ·apply d;cases t with
     | nil=>exact absurd rfl a
     | cons y t=>
      cases t with
      | nil=>have:=x.1;simp at this;rw [this]
      | cons z t=>simp at g
  ·simp [h1]
 ·have e1:rdT s=s:=by unfold rdT;rw [if_neg h]
  have e2:rdN s=false:=by unfold rdN;simpa using h
  rw [e1,e2,if_neg h];by_cases h1:s.length<=400
  ·simp only [h1,if_true,true_and,hcan];by_cases h2:s≠[]∧s.all kv=true∧¬ (1 < s.length∧s.headD 0=48)
   ·rw [if_pos h2,if_pos]
    ·simp
    ·exact ⟨h2.1,fun x=>h2.2.2 ⟨by simpa using x.2,x.1⟩,h2.2.1⟩
   ·rw [if_neg h2,if_neg];rintro ⟨a,b,c⟩;exact h2 ⟨a,c,fun x=>b ⟨x.2,.inl x.1⟩⟩
  ·simp [h1]
@[simp] theorem Tu (n:Nat):okV (nat n)=true:=id rfl
theorem KY {s:List UInt8} {z:Int} (h:rd s=some z):z.natAbs < 10 ^ 400:=by
 rw [Pq] at h;split at h
 ·rename_i hc;simp only [Z9] at h;have hi:=oJ (rdT s) 0 hc.2.2.2;have:cV 0 (rdT s) < 10 ^ 400:=Z2 hi (by set_option exponentiation.threshold 1000 in rw [Zk,Xt];exact Z3 (by decide) hc.1)
  have hz:z.natAbs=cV 0 (rdT s):=by
   rw [<- h];split <;> simp
  rw [hz];exact this
 ·cases h
def rdF (a b:List UInt8):Option (Int × Nat):=match rd a,rd b with
 | some n,some d=>if 0 < d∧Nat.gcd n.natAbs d.natAbs=1 then some (n,d.natAbs) else none
 | _,_=>none
theorem cE {a b:Nat} (h:a<=b):ndg a<=ndg b:=a6 (Ze h (bR b)) (ig b)
theorem JG (k:KL):∀ (b a:Nat),ndg a < 1000000->ndg b < 1000000->k (.exit 0) [S (aa (Nat.gcd a b))] []->lp (kW (CX Y)) [] [] [S (aa a),S (aa b)] [] k:=by
 intro b
 induction b using Nat.strongRecOn with
 | _ b ih=>
  intro a ha hb hk;by_cases h0:b=0
  ·subst h0;rw [Nat.gcd_zero_right] at hk;refine ai ?_;rw [du];simp (disch:=first|omega|simp<;>omega|fail)[kW];exact hk
  ·have hbp:0 < b:=by omega
   have hne:¬ aa b=[48]:=by
    rw [<- du];intro e;have:=congrArg (cV 0) e;rw [b9,b9] at this;omega
   have hm:=Yz a hbp
   have hk2:=ih (a % b) hm b hb (Ze (cE (Nat.le_of_lt hm)) hb) (by
    rw [We b,<- Nat.gcd_rec,We b];exact hk)
   refine ai ?_;simp (disch:=first|omega|simp<;>omega|fail)[kW,hne];refine cd (vv hbp ha hb) ?_;simp (disch:=first|omega|simp<;>omega|fail)[];exact hk2
theorem H5 {a b:Nat} (ha:ndg a < 1000000) (hb:ndg b < 1000000):CP Y F.jF [S (aa a),S (aa b)] (S (aa (Nat.gcd a b))):=by
 refine Ab ?_;simp (disch:=first|omega|simp<;>omega|fail)[jF];refine lo (JG _ b a ha hb ?_);simp (disch:=first|omega|simp<;>omega|fail)[];exact cU rfl
theorem JF (k:KL):∀ (b a:Nat),a < 1000000000000000000->b < 1000000000000000000->k (.exit 0) [I (Nat.gcd a b:Nat)] []->lp (mz (CX Y)) [] [] [I a,I b] [] k:=by
 intro b
 induction b using Nat.strongRecOn with
 | _ b ih=>
  intro a ha hb hk;by_cases h0:(b:Int)=0
  ·have:b=0:=by omega
   subst this;rw [Nat.gcd_zero_right] at hk;refine ai ?_;simp (disch:=first|omega|simp<;>omega|fail)[mz];exact hk
  ·have hbp:0 < b:=by omega
   have hm:=Yz a hbp
   have hk2:=ih (a % b) hm b hb (by omega) (by
    rw [We b,<- Nat.gcd_rec,We b];exact hk)
   have h0':¬ b=0:=by omega
   have e2:(a:Int) % (b:Int)=((a % b:Nat):Int):=by simp
   obtain ⟨r,hr⟩:∃ r,a % b=r:=⟨_,rfl⟩;rw [hr] at hk2 e2;refine ai ?_;simp (disch:=first|omega|simp<;>omega|fail)[mz,h0',Zw,e2];exact hk2
theorem Om {a b:Nat} (ha:a < 1000000000000000000) (hb:b < 1000000000000000000):CP Y F.mL [I a,I b] (I (Nat.gcd a b:Nat)):=by
 refine CS ?_;simp (disch:=first|omega|simp<;>omega|fail)[mL];refine lo (JF _ b a ha hb ?_);simp only [gR];exact bG rfl
theorem Gj {n:Nat} (h:n < 9223372036854775808):CP Y F.cZ [I n] (S (aa n)):=by
 refine xv ?_;simp (disch:=first|omega|simp<;>omega|fail)[cZ];have e:itoa (n:Int)=aa n:=by unfold itoa;rw [if_neg (by omega)];rfl
 refine cd (xf (z:=n) (by omega) (by omega)) ?_;rw [e]
 try simp (disch:=first|omega|simp<;>omega|fail)[]
 exact cU rfl
theorem yu (a:Nat):CP Y F.aW [S (aa a),I 18] (if ndg a<=18 then .tup [I a,B true] else .tup [I 0,B false]):=by
 refine mS ?_;have la:=iX a;by_cases h:18 < ndg a
 ·rw [if_neg (by omega)];simp (disch:=first|omega|simp<;>omega|fail)[aW,la];exact aj rfl rfl
 ·rw [if_pos (by omega)];have ap:=CF (n:=a) (ig a) (by omega) (bR a);have en:biF .eql (.d (.pl .nilIface)) (.d (.pl .nilIface))=some (.d (.bool true)):=rfl;simp (disch:=first|omega|simp<;>omega|fail)[aW,la];refine cd (args:=[S (aa a)]) ap ?_;simp (disch:=first|omega|simp<;>omega|fail)[en];exact aj rfl rfl
theorem qq (s:List UInt8):CP Y F.aF [S s] (.tup [B (rdN s),S (rdT s)]):=by
 refine zr ?_;cases s with
 | nil=>
  simp (disch:=first|omega|simp<;>omega|fail)[aF];exact aj rfl rfl
 | cons c t=>
  have hix:ixS (S (c :: t)) (.d (.int .i64 0))=some (.d (.int .u8 c.toNat)):=rfl;by_cases h:c=45
  ·subst h;have e:((45:UInt8).toNat:Int)=45:=rfl;simp (disch:=first|omega|simp<;>omega|fail)[aF,hix];exact aj rfl rfl
  ·have e:¬ (c.toNat:Int)=45:=fun g=>h (by apply UInt8.toNat.inj;simpa using (by omega:c.toNat=45))
   have e1:rdT (c :: t)=c :: t:=by simp [rdT,h]
   have e2:rdN (c :: t)=false:=by simp [rdN,h]
   rw [e1,e2];simp (disch:=first|omega|simp<;>omega|fail)[aF,hix,e];exact aj rfl rfl
theorem Be (l:List UInt8) (hl:l.length < 1000000000) (k:KL):∀ (q p:List UInt8),p++q=l->(q.all kv=true->k (.exit 0) [] [])->(q.all kv=false->k .ret [B false] [])->lp (dz (CX Y) (lst u8 l) (I l.length)) [] [] [I p.length] [] k
 | []=>by
  intro p hp h0 h1;simp at hp;subst hp;refine ai ?_;simp (disch:=first|omega|simp<;>omega|fail)[dz];exact h0 rfl
 | c :: q=>by
  intro p hp h0 h1;have hpl:p.length < l.length:=by subst hp;simp
  have hc:nth 0 l p.length=c:=by subst hp;simp
  have e1:=fun h:Hp=>et u8 l h (k:=.i64) (i:=(p.length:Int)) (by omega) (by omega)
  have e2:=fun h:Hp=>gm u8 0 l h (j:=p.length) hpl
  rw [hc] at e2;simp only [Int.toNat_natCast] at e1;have ih:=Be l hl k q (p++[c]) (by simpa using hp);refine ai ?_;by_cases g1:(c.toNat:Int) < 48
  ·have g3:kv c=false:=by rw [Bool.eq_false_iff];intro h;rw [gP] at h;omega
   simp (disch:=first|omega|simp<;>omega|fail)[dz,e1,e2,u8,g1];exact h1 (by simp [g3])
  ·by_cases g2:(57:Int) < c.toNat
   ·have g3:kv c=false:=by rw [Bool.eq_false_iff];intro h;rw [gP] at h;omega
    simp (disch:=first|omega|simp<;>omega|fail)[dz,e1,e2,u8,g1,g2];exact h1 (by simp [g3])
   ·have g3:kv c=true:=by rw [gP];omega
    have:=ih (fun h=>h0 (by simp [g3];simpa using h)) (fun h=>h1 (by simp only [List.all_cons,h,Wh]));simp (disch:=first|omega|simp<;>omega|fail)[dz,e1,e2,u8,g1,g2];simpa using this
theorem OP (l:List UInt8) (hl:l.length < 1000000000):CP Y F.eZ [S l] (B (ma l)):=by
 refine rS ?_;unfold eZ
 show cvB (S l) _ _
 rw [PG];have lL:jq (S l)=some (I l.length):=rfl;simp (disch:=first|omega|simp<;>omega|fail)[];refine lo (Be l hl _ l [] rfl (fun e=>?_) (fun e=>?_))
 ·simp only [gR];cases l with
  | nil=>
   simp (disch:=first|omega|simp<;>omega|fail)[lL];exact iQ (by simp [ma])
  | cons c t=>
   have hix:ixS (S (c :: t)) (.d (.int .i64 0))=some (.d (.int .u8 c.toNat)):=rfl;cases t with
   | nil=>
    simp (disch:=first|omega|simp<;>omega|fail)[lL];exact iQ (by simp [ma] at e ⊢;exact e)
   | cons d t=>
    obtain ⟨N,hN⟩:∃ N,(c :: d :: t).length=N:=⟨_,rfl⟩;have hN2:2<=N:=by rw [<- hN];simp only [List.length_cons];omega
    rw [hN] at lL;have g2:(1:Int) < (N:Int):=by omega
    have g3:¬ (N:Int)=1:=by omega
    by_cases h:c=48
    ·subst h;have e48:((48:UInt8).toNat:Int)=48:=rfl;simp (disch:=first|omega|simp<;>omega|fail)[lL,g2,g3,hix];exact iQ (by simp [ma])
    ·have e48:¬ (c.toNat:Int)=48:=fun g=>h (by apply UInt8.toNat.inj;simpa using (by omega:c.toNat=48))
     simp (disch:=first|omega|simp<;>omega|fail)[lL,g2,g3,hix,e48]
     exact iQ (by
      have:ma (c :: d :: t)=true:=by simp only [ma,e];simp [h]
      exact this.symm)
 ·simp only [qM,uy];exact iQ (by simp only [ma,e,Wh,Wv])
theorem J2 (l:List UInt8) (hl:l.length < 1000000000):CP Y F.ia [S l] (I (if ma l=true∧l.length<=400 then 0 else 2)):=by
 refine wO ?_;have lL:jq (S l)=some (I l.length):=rfl;obtain ⟨N,hN⟩:∃ N,l.length=N:=⟨_,rfl⟩;rw [hN] at lL ⊢;simp (disch:=first|omega|simp<;>omega|fail)[ia];refine cd (OP l hl) ?_;cases hc:ma l with
 | false=>
  simp (disch:=first|omega|simp<;>omega|fail)[] <;> exact bG (by simp)
 | true=>
  by_cases h:(400:Int) < N
  ·simp (disch:=first|omega|simp<;>omega|fail)[lL,h] <;> exact bG (by rw [if_neg (by omega)])
  ·have h2:true=true∧N<=400:=⟨rfl,by omega⟩;simp (disch:=first|omega|simp<;>omega|fail)[lL,h] <;> exact bG (by rw [if_pos h2.2])
theorem Jd (s:List UInt8):(rd s).isSome=(!(rdN s && decide (rdT s=[48])) && (ma (rdT s) && decide ((rdT s).length<=400))):=by
 unfold rd rdS rdN rdT;by_cases h45:s.headD 0=45
 ·simp only [h45,if_true];obtain ⟨t,ht⟩:∃ t,s.tail=t:=⟨_,rfl⟩;rw [ht];by_cases hl:t.length<=400
  ·by_cases h48:t=[48]
   ·simp [h48]
   ·cases hc:ma t <;> simp [hl,h48]
  ·simp [hl]
 ·simp only [h45,if_false];by_cases hl:s.length<=400
  ·cases hc:ma s <;> simp [hl]
  ·simp [hl]
theorem A8 (s:List UInt8) (hs:s.length < 1000000000):CP Y F.jr [S s] (I (if (rd s).isSome then 0 else 2)):=by
 refine zA ?_
 have hT:(rdT s).length < 1000000000:=by
  unfold rdT;split
  ·have:s.tail.length=s.length - 1:=List.length_tail;omega
  ·exact hs
 rw [Jd];simp (disch:=first|omega|simp<;>omega|fail)[jr];refine cd (qq s) ?_;have hck:=J2 (rdT s) hT;obtain ⟨t,ht⟩:∃ t,rdT s=t:=⟨_,rfl⟩;rw [ht] at hck ⊢;obtain ⟨c4,hc4⟩:∃ c4,(ma t && decide (t.length<=400))=c4:=⟨_,rfl⟩
 have hck2:CP Y F.ia [S t] (I (if c4=true then 0 else 2)):=by
  have:(if ma t=true∧t.length<=400 then (0:Int) else 2)=if c4=true then 0 else 2:=by
   rw [<- hc4];by_cases h:ma t=true∧t.length<=400
   ·rw [if_pos h];simp [h]
   ·rw [if_neg h];rw [if_neg (by simpa using h)]
  rw [<- this];exact hck
 rw [hc4];cases hn:rdN s with
 | true=>
  by_cases h3:t=[48]
  ·simp (disch:=first|omega|simp<;>omega|fail)[h3] <;> exact bG (by simp)
  ·simp (disch:=first|omega|simp<;>omega|fail)[h3];refine cd hck2 ?_;cases c4 with
   | true=>simp (disch:=first|omega|simp<;>omega|fail)[h3] <;> exact bG (by simp [h3])
   | false=>simp (disch:=first|omega|simp<;>omega|fail)[h3] <;> exact bG (by simp [h3])
 | false=>
  simp (disch:=first|omega|simp<;>omega|fail)[];refine cd hck2 ?_;cases c4 with
  | true=>simp (disch:=first|omega|simp<;>omega|fail)[] <;> exact bG (by simp)
  | false=>simp (disch:=first|omega|simp<;>omega|fail)[] <;> exact bG (by simp)
theorem oF (z:Int):rdT (itoa z)=aa z.natAbs:=by
 unfold itoa rdT;split
 ·simp
 ·rw [if_neg (lX _)]
theorem CK (z:Int):CP Y F.fT [S (itoa z)] (S (aa z.natAbs)):=by
 refine vJ ?_;have:=qq (itoa z);rw [oF] at this;simp (disch:=first|omega|simp<;>omega|fail)[fT];refine cd this ?_;simp (disch:=first|omega|simp<;>omega|fail)[] <;> exact cU rfl
def sgn (z:Int):Int:=if z=0 then 0 else if z < 0 then -1 else 1
theorem iP (z:Int):CP Y F.aZ [S (itoa z)] (I (sgn z)):=by
 refine Bo ?_;by_cases h0:z=0
 ·subst h0;have e:itoa 0=[48]:=du;rw [e];simp (disch:=first|omega|simp<;>omega|fail)[aZ] <;> exact bG rfl
 ·have hne:¬ itoa z=[48]:=by
   intro e;have h1:=DW z;have h2:=DW 0;rw [show itoa 0=[48] from du,<- e,h1] at h2;exact h0 (Option.some.inj h2)
  by_cases hn:z < 0
  ·have e:itoa z=45 :: aa z.natAbs:=by unfold itoa;rw [if_pos hn]
   have hix:ixS (S (itoa z)) (.d (.int .i64 0))=some (.d (.int .u8 45)):=by rw [e];rfl
   simp (disch:=first|omega|simp<;>omega|fail)[aZ,hne,hix] <;> exact bG (by simp [sgn,h0,hn])
  ·have e:itoa z=aa z.natAbs:=by unfold itoa;rw [if_neg hn]
   obtain ⟨c,t,hct⟩:∃ c t,aa z.natAbs=c :: t:=by
    cases h:aa z.natAbs with
    | nil=>exact absurd h (oG _)
    | cons c t=>exact ⟨c,t,rfl⟩
   have hhd:=lX z.natAbs;rw [hct] at hhd;have hix:ixS (S (itoa z)) (.d (.int .i64 0))=some (.d (.int .u8 c.toNat)):=by rw [e,hct];rfl
   have hc:¬ (c.toNat:Int)=45:=fun g=>hhd (by apply UInt8.toNat.inj;simpa using (by omega:c.toNat=45))
   simp (disch:=first|omega|simp<;>omega|fail)[aZ,hne,hix,hc] <;> exact bG (by simp [sgn,h0,hn])
theorem H4 {z w:Int} (hz:ndg z.natAbs < 1000000) (hw:ndg w.natAbs < 1000000):CP Y F.kz [S (itoa z),S (itoa w)] (S (aa (Nat.gcd z.natAbs w.natAbs))):=by
 refine C5 ?_;have l1:=yu z.natAbs;have l2:=yu w.natAbs;have gg:=H5 hz hw;simp (disch:=first|omega|simp<;>omega|fail)[kz];refine cd (CK z) ?_;simp (disch:=first|omega|simp<;>omega|fail)[];refine cd (CK w) ?_;simp (disch:=first|omega|simp<;>omega|fail)[];by_cases h1:ndg z.natAbs<=18
 ·rw [if_pos h1] at l1;refine cd l1 ?_;simp (disch:=first|omega|simp<;>omega|fail)[];by_cases h2:ndg w.natAbs<=18
  ·rw [if_pos h2] at l2;refine bm ?_;simp (disch:=first|omega|simp<;>omega|fail)[];refine cd l2 ?_;have b1:z.natAbs < 1000000000000000000:=by have:=bR z.natAbs;have:=Z3 (n:=10) (by decide) h1;omega
   have b2:w.natAbs < 1000000000000000000:=by have:=bR w.natAbs;have:=Z3 (n:=10) (by decide) h2;omega
   have gi:=Om b1 b2
   have gb:Nat.gcd z.natAbs w.natAbs < 9223372036854775808:=by
    rcases Zh w.natAbs with h | h
    ·rw [h,Nat.gcd_zero_right];omega
    ·have:=Nat.gcd_le_right z.natAbs h;omega
   generalize Nat.gcd z.natAbs w.natAbs=G at *;generalize z.natAbs=a at *;generalize w.natAbs=b at *;simp (disch:=first|omega|simp<;>omega|fail)[];refine cd gi ?_;simp (disch:=first|omega|simp<;>omega|fail)[];refine cd (Gj gb) ?_;exact cU rfl
  ·rw [if_neg h2] at l2;refine bm ?_;simp (disch:=first|omega|simp<;>omega|fail)[];refine cd l2 ?_;simp (disch:=first|omega|simp<;>omega|fail)[];refine cd gg ?_;exact cU rfl
 ·rw [if_neg h1] at l1;refine cd l1 ?_;simp (disch:=first|omega|simp<;>omega|fail)[];refine cd (u:=.mk) gg ?_;exact cU rfl
theorem Hw {s:List UInt8} {z:Int} (h:rd s=some z):s=itoa z∧ndg z.natAbs < 1000000:=by
 have hb:=KY h;unfold rd at h;split at h
 ·exact ⟨KZ h,by have:=a6 hb (by decide);omega⟩
 ·cases h
theorem F9 (a b:List UInt8):(rdF a b).isSome=match rd a,rd b with
  | some n,some d=>decide (0 < d∧Nat.gcd n.natAbs d.natAbs=1)
  | _,_=>false:=by
 unfold rdF;cases rd a <;> cases rd b <;> simp
 split <;> simp_all
theorem Ba (a b:List UInt8) (ha:a.length < 1000000000) (hb:b.length < 1000000000):CP Y F.eO [.agg [S a,S b]] (I (if (rdF a b).isSome then 0 else 2)):=by
 refine vq ?_;have ca:=A8 a ha;have cb:=A8 b hb;rw [F9];simp (disch:=first|omega|simp<;>omega|fail)[eO];refine cd ca ?_;cases hra:rd a with
 | none=>
  simp (disch:=first|omega|simp<;>omega|fail)[];refine bm ?_;simp (disch:=first|omega|simp<;>omega|fail)[] <;> exact bG rfl
 | some z=>
  cases hrb:rd b with
  | none=>
   rw [hrb] at cb;simp (disch:=first|omega|simp<;>omega|fail)[];refine bm ?_;simp (disch:=first|omega|simp<;>omega|fail)[];refine cd cb ?_;simp (disch:=first|omega|simp<;>omega|fail)[] <;> exact bG rfl
  | some w=>
   rw [hrb] at cb;obtain ⟨ea,na⟩:=Hw hra;obtain ⟨eb,nb⟩:=Hw hrb;subst ea;subst eb;have sg:=iP w;have gg:=H4 na nb;simp (disch:=first|omega|simp<;>omega|fail)[];refine bm ?_;simp (disch:=first|omega|simp<;>omega|fail)[];refine cd cb ?_;simp (disch:=first|omega|simp<;>omega|fail)[];refine cd sg ?_;by_cases hw:0 < w
   ·have hs:¬ sgn w<=0:=by unfold sgn;rw [if_neg (by omega),if_neg (by omega)];decide
    simp (disch:=first|omega|simp<;>omega|fail)[hs];refine bm ?_;simp (disch:=first|omega|simp<;>omega|fail)[];refine cd gg ?_;by_cases hg:Nat.gcd z.natAbs w.natAbs=1
    ·have e1:aa 1=[49]:=by rw [aa,show ndg 1=1 by unfold ndg;simp];rfl
     rw [show aa (Nat.gcd z.natAbs w.natAbs)=[49] by rw [hg,e1]];simp (disch:=first|omega|simp<;>omega|fail)[] <;> exact bG (by simp [hw];exact hg)
    ·have e1:¬ aa (Nat.gcd z.natAbs w.natAbs)=[49]:=by
      intro e;have:=congrArg (cV 0) e;rw [b9] at this;exact hg this
     simp (disch:=first|omega|simp<;>omega|fail)[e1] <;> exact bG (by simp [hw,hg])
   ·have hs:sgn w<=0:=by unfold sgn;split;decide;rw [if_pos (by omega)];decide
    simp (disch:=first|omega|simp<;>omega|fail)[hs];refine bm ?_;simp (disch:=first|omega|simp<;>omega|fail)[] <;> exact bG (by simp [hw])
def HE (n:Nat):Nat->Nat->Bool
 | 0,_=>true
 | k+1,d=>if n % d=0 then false else HE n k (d+1)
def sR (n:Int):Bool:=decide (2<=n) && decide (n<=97) && HE n.toNat (n.toNat - 2) 2
def oZ (s:List UInt8):Bool:=decide ((rdT s).length<=30)
abbrev Tx:=List UInt8 × List UInt8
def aK (x:Tx):List D:=[.str x.1,.str x.2]
theorem aI (x:Tx):(aK x).length=2:=rfl
def Kv (n:Nat):Nat->Nat->Bool
 | 0,_=>true
 | r+1,d=>if d * d<=n then (if n % d=0 then false else Kv n r (d+1)) else true
theorem P0:∀ n:Fin 98,2<=n.val->Kv n.val 10 2=sR n.val:=by decide +kernel
theorem Hl (n:Nat) (hn:n<=97) (k:KL):∀ (r d:Nat),2<=d->d+r=12->(Kv n r d=true->k (.exit 0) [] [])->(Kv n r d=false->k .ret [B false] []) ->
  lp (fX (CX Y) (I n)) [] [] [I d] [] k
 | 0,d,hd,hr,h0,h1=>by
  have:d=12:=by omega
  subst this;have g:¬ ((12:Nat):Int) * ((12:Nat):Int)<=(n:Int):=by omega
  have g2:¬ (144:Int)<=(n:Int):=by omega
  refine ai ?_;simp (disch:=first|omega|simp<;>omega|fail)[fX,g2];exact h0 rfl
 | r+1,d,hd,hr,h0,h1=>by
  have ih:=Hl n hn k r (d+1) (by omega) (by omega);have hd12:d<=12:=by omega
  obtain ⟨s,hs⟩:∃ s,d * d=s:=⟨_,rfl⟩;have hsb:s<=144:=by rw [<- hs];exact Zp hd12 hd12
  have e1:(d:Int) * (d:Int)=(s:Int):=by rw [<- hs];simp
  rw [Kv,hs] at h0 h1;refine ai ?_;by_cases g:s<=n
  ·have g':(s:Int)<=(n:Int):=by omega
   rw [if_pos g] at h0 h1;have hd0:¬ ((d:Int)=0):=by omega
   have hd0':¬ (d=0):=by omega
   obtain ⟨m,hm⟩:∃ m,n % d=m:=⟨_,rfl⟩;have e2:(n:Int) % (d:Int)=(m:Int):=by rw [<- hm];simp
   rw [hm] at h0 h1;by_cases h:m=0
   ·have h':(m:Int)=0:=by omega
    rw [if_pos h] at h1;simp (disch:=first|omega|simp<;>omega|fail)[fX,e1,g',Zw,e2,h];exact h1 rfl
   ·have h':¬ (m:Int)=0:=by omega
    rw [if_neg h] at h0 h1;have:=ih h0 h1;simp (disch:=first|omega|simp<;>omega|fail)[fX,e1,g',Zw,e2,h];simpa using this
  ·have g':¬ (s:Int)<=(n:Int):=by omega
   rw [if_neg g] at h0;simp (disch:=first|omega|simp<;>omega|fail)[fX,e1,g'];exact h0 rfl
theorem EL (n:Int):CP Y F.fM [I n] (B (sR n)):=by
 refine wC ?_;by_cases h1:n < 2
 ·simp (disch:=first|omega|simp<;>omega|fail)[fM,h1] <;> exact iQ (by simp [sR];omega)
 by_cases h2:97 < n
 ·simp (disch:=first|omega|simp<;>omega|fail)[fM,h1,h2] <;> exact iQ (by simp [sR];omega)
 obtain ⟨m,rfl⟩:∃ m:Nat,n=m:=⟨n.toNat,by omega⟩;have ha:=P0 ⟨m,by omega⟩ (by simp;omega);simp only at ha;simp (disch:=first|omega|simp<;>omega|fail)[fM,h1,h2];refine lo (Hl m (by omega) _ 10 2 (by omega) rfl (fun e=>?_) (fun e=>?_))
 ·simp only [gR];exact iQ (by rw [<- ha,e])
 ·simp only [qM,uy];exact iQ (by rw [<- ha,e])
def Ge (prev:Option Int) (x:Int):Bool:=match prev with | some y=>decide (y < x) | none=>true
def yj:Option Int->List Int->Int
 | _,[]=>0
 | prev,x :: q=>cond (sR x) (cond (Ge prev x) (yj (some x) q) 6) 25
theorem HG (k:KL):∀ (q a:List Int),(a++q).length < 1000000000->(yj a.getLast? q=0->k (.exit 1) [] [])->(yj a.getLast? q≠0->k .ret [I (yj a.getLast? q)] []) ->
  lp (kN (CX Y) (lst di (a++q)) (lst di (a++q)) (I (a++q).length)) [] [] [I a.length] [] k
 | []=>by
  intro a hN h0 h1;refine ai ?_;simp (disch:=first|omega|simp<;>omega|fail)[kN];exact h0 rfl
 | x :: q=>by
  intro a hN h0 h1;simp at hN;have ih:=HG k q (a++[x]) (by simp;omega);rw [List.getLast?_concat] at ih;refine ai ?_;simp (disch:=first|omega|simp<;>omega|fail)[kN];refine cd (EL x) ?_;by_cases hp:sR x=true
  ·rcases List.eq_nil_or_concat a with rfl | ⟨b,y,rfl⟩
   ·simp only [yj,hp,List.getLast?_nil,Ge,cond_true] at h0 h1;simp (disch:=first|omega|simp<;>omega|fail)[hp];have:=ih h0 h1;simpa using this
   ·rw [List.concat_eq_append] at *;have hny:nth 0 (b++[y]++x :: q) b.length=y:=by rw [List.append_assoc];simp
    rw [List.getLast?_concat] at h0 h1;simp only [yj,hp,Ge,cond_true] at h0 h1;have eI:∀ h:Hp,ixV h 1 (lst di (b++[y]++x :: q)) (.d (.int .i64 (b.length:Int)))=some (.dptr ((b++[y]++x :: q).map di) b.length):=fun h=>GB di _ h rfl (by simp)
    have eL:∀ h:Hp,ld1 h (.dptr ((b++[y]++x :: q).map di) b.length)=some (.d (di y)):=fun h=>by
     have:=Qt (b++[y]++x :: q) h (j:=b.length) (by simp);rw [hny] at this;exact this
    have hA:b++[y]++[x]++q=b++[y]++x :: q:=by simp
    have hn:(b++[y]).length=b.length+1:=by simp
    have hn2:(b++[y]++[x]).length=b.length+1+1:=by simp
    rw [hA,hn2] at ih;rw [hn] at hN ⊢;generalize b++[y]++x :: q=A at *;generalize b.length=m at *;have e':((m+1:Nat):Int) - 1=(m:Int):=by omega
    have hl0:(0:Int) < ((m+1:Nat):Int):=by omega
    obtain ⟨m1,hm1⟩:∃ m1,m1=m+1:=⟨_,rfl⟩;rw [<- hm1] at e' hl0 ih ⊢;by_cases hyx:y < x
    ·have g1:¬ x<=y:=by omega
     rw [show decide (y < x)=true by simpa using hyx] at h0 h1;simp only [cond_true] at h0 h1;have:=ih h0 h1;simp (disch:=first|omega|simp<;>omega|fail)[hp,e',eI,eL,g1];simpa using this
    ·have g1:x<=y:=by omega
     rw [show decide (y < x)=false by simpa using hyx] at h1;simp only [cond_false] at h1;simp (disch:=first|omega|simp<;>omega|fail)[hp,e',eI,eL,g1];simpa using h1
  ·have hpf:sR x=false:=by simpa using hp
   simp only [yj,hpf,cond_false] at h1;simp (disch:=first|omega|simp<;>omega|fail)[hpf];simpa using h1
def pcB (p:List Int):Int:=if p.length=0 then 13 else if 6 < p.length then 4 else yj none p
theorem gW {p:List Int} (hN:p.length < 1000000000):CP Y F.dy [lst di p] (I (pcB p)):=by
 refine zJ ?_;have lp':am (lst di p)=some (I p.length):=rfl;by_cases h1:(p.length:Int)=0
 ·have e:pcB p=13:=by unfold pcB;exact if_pos (by omega)
  have hnil:p=[]:=Yn.1 (by omega);rw [e];subst hnil;simp (disch:=first|omega|simp<;>omega|fail)[dy] <;> exact bG rfl
 have h1':¬ p.length=0:=by omega
 have hne:¬ p=[]:=fun e=>h1' (by rw [e];rfl)
 by_cases h2:(6:Int) < p.length
 ·have e:pcB p=4:=by unfold pcB;exact (if_neg h1').trans (if_pos (by omega))
  rw [e];simp (disch:=first|omega|simp<;>omega|fail)[dy,lp',h2,hne] <;> exact bG rfl
 have e:pcB p=yj none p:=by unfold pcB;exact (if_neg h1').trans (if_neg (by omega))
 unfold dy;rw [e]
 have main:=HG (exK [((.exit 1),fun l6 h=>out (I (yj none p)) (.d (.int .i64 0)) h),(.ret,fun l6 h=>out (I (yj none p)) (ge l6 0) h)]) p [] (by simpa using hN) (fun g=>by
  simp only [List.getLast?_nil] at g;simp only [gR];exact bG g.symm) (fun g=>by
  simp only [List.getLast?_nil] at g ⊢;simp only [qM,uy];exact bG rfl)
 simp (disch:=first|omega|simp<;>omega|fail)[lp',h2,hne];exact main
theorem A0 {a b:Nat} (ha:ndg a < 1000000) (hb:ndg b < 1000000):CP Y F.gT [S (aa a),S (aa b)] (S (aa (a * b))):=by
 refine zX ?_;have la:=iX a;have lb:=iX b;have bo:=xo a b;by_cases h18:(ndg a:Int)+(ndg b:Int)<=18
 ·rw [if_pos ⟨by omega,by omega⟩] at bo
  have hm:a * b < 1000000000000000000:=by
   have h1:=bR a;have h2:=bR b;have h3:a * b < 10 ^ ndg a * 10 ^ ndg b:=Yo h1 h2;rw [<- Y0] at h3;have h4:10 ^ (ndg a+ndg b)<=10 ^ 18:=Z3 (by decide) (by omega);exact Z2 h3 h4
  obtain ⟨m,hmm⟩:∃ m,a * b=m:=⟨_,rfl⟩;have e1:(a:Int) * (b:Int)=(m:Int):=by rw [<- hmm];simp
  rw [hmm] at hm ⊢;simp (disch:=first|omega|simp<;>omega|fail)[gT,la,lb,h18];refine cd bo ?_;simp (disch:=first|omega|simp<;>omega|fail)[e1];refine cd (vf (n:=m) (by omega)) ?_;exact cU rfl
 ·obtain ⟨ca,hca⟩:∃ ca,ca=ndg a / 9+1:=⟨_,rfl⟩;obtain ⟨cb,hcb⟩:∃ cb,cb=ndg b / 9+1:=⟨_,rfl⟩;have ltA:a < Z ^ ca:=Z2 (bR a) (by rw [uM];exact Z3 (by decide) (by omega));have ltB:b < Z ^ cb:=Z2 (bR b) (by rw [uM];exact Z3 (by decide) (by omega))
  have cA:=od (h:=[(0,.none),(0,.none),(0,.none)]) rfl (n:=a) (by omega) hca;have lA:(aN ca a).length=ca:=bK ..;have lB:(aN cb b).length=cb:=bK ..;have cB:=od (h:=[(1,.data 1 ((aN ca a).map u6) true false),(0,.none),(0,.none)]) rfl (n:=b) (by omega) hcb;simp (disch:=first|omega|simp<;>omega|fail)[gT,la,lb,h18];refine jX (gE (e:=0) (b:=.none) cA rfl ?_)
  rw [List.length_map,lA];simp (disch:=first|omega|simp<;>omega|fail)[];refine jX (gE (e:=0) (b:=.none) cB rfl ?_);rw [List.length_map,lB];simp (disch:=first|omega|simp<;>omega|fail)[]
  have rA:=xt (h:=[(1,.data 1 ((aN ca a).map u6) true false),(1,.data 1 ((aN cb b).map u6) true false),(0,.none)]) (s:=0) (e:=1) (len:=(dig Z a).length) (cap:=ca) (ex:=true) (fr:=false) rfl lA.symm (fE ltA)
  have rB:=xt (h:=[(1,.data 1 ((aN ca a).map u6) true false),(1,.data 1 ((aN cb b).map u6) true false),(0,.none)]) (s:=1) (e:=1) (len:=(dig Z b).length) (cap:=cb) (ex:=true) (fr:=false) rfl lB.symm (fE ltB);rw [jQ ltA] at rA;rw [jQ ltB] at rB;have dA:=fE ltA;have dB:=fE ltB;obtain ⟨N,hN⟩:∃ N,N=(dig Z a).length+(dig Z b).length:=⟨_,rfl⟩
  have tp:=uR (h:=[(1,.data 1 ((aN ca a).map u6) true false),(1,.data 1 ((aN cb b).map u6) true false),(0,.none)]) rfl rA (bD ag a) rB (bD ag b) (by omega) (by omega) hN
  have ltM:a * b < Z ^ N:=by
   rw [hN,Y0];have h1:=gF aR (bD ag a);have h2:=gF aR (bD ag b);rw [fp ag] at h1 h2;exact Yo h1 h2
  rw [fp ag,fp ag] at tp;have lM:(aN N (a * b)).length=N:=bK ..;refine jX (gE (e:=0) (b:=.none) tp rfl ?_);rw [List.length_map,lM];simp (disch:=first|omega|simp<;>omega|fail)[]
  have sM:=qt (h:=[(1,.data 1 ((aN ca a).map u6) true false),(1,.data 1 ((aN cb b).map u6) true false),(1,.data 1 ((aN N (a * b)).map u6) true false)]) (s:=2) rfl lM.symm (len:=(dig Z (a * b)).length) (cap:=N) (fE ltM) (Z7 _);rw [jQ ltM] at sM;simp only [List.set_cons_zero,List.set_cons_succ] at sM
  have sMs:ae [(1,.data 1 ((aN ca a).map u6) true false),(1,.data 1 ((aN cb b).map u6) true false),(1,.data 1 ((aN N (a * b)).map u6) true false)] [.ref 2 1 0 (dig Z (a * b)).length N N]=some ([pcs (a * b)],[(1,.data 1 ((aN ca a).map u6) true false),(1,.data 1 ((aN cb b).map u6) true false),(1,.data 1 ((aN N (a * b)).map u6) true true)]):=by
   simp only [ae,sM];rfl
  refine cdz sMs (qZ (n:=a * b) (by have:=fE ltM;omega)) ?_;rw [show fu (S (aa (a * b)))=true from rfl,if_pos rfl];exact cU rfl
theorem mP {B:Nat} {a b:List Nat} (ha:au B a) (hb:au B b):au B (a++b):=by
 intro x hx;rcases Yd.1 hx with h | h
 ·exact ha x h
 ·exact hb x h
theorem ln (k:Nat):au Z (List.replicate k 0):=by
 intro x hx;rw [Xw hx];exact aR
theorem kA (k:Nat) (l:List Nat):val Z (l++List.replicate k 0)=val Z l:=by
 rw [val_append]
 have:val Z (List.replicate k 0)=0:=by
  induction k with
  | zero=>rfl
  | succ k ih=>rw [List.replicate_succ];exact (congrArg (fun x=>0+Z * x) ih).trans (by rw [Nat.mul_zero])
 rw [this,Nat.mul_zero,Nat.add_zero]
theorem Q0 {q a b ce x B:Nat} (hB:2<=B) (h3:x+q * B * ce=a+b) (l1:a < q) (l2:b < q):x=a+b:=by
 rcases Zh ce with h | h
 ·subst h;rw [Nat.mul_zero,Nat.add_zero] at h3;exact h3
 ·have h1:=Z5 (q * B) h;have h2:=Z5 q hB;omega
theorem M6 {A D:List Nat} {a b n:Nat} (hA:A.length=n) (hD:D.length=n) (sA:au Z A) (sD:au Z D) (va:val Z A=a) (vb:val Z D=b) :
  val Z (mt 0 D (D.length+1) 0 0 (A++[0]))=a+b∧au Z (mt 0 D (D.length+1) 0 0 (A++[0]))∧(mt 0 D (D.length+1) 0 0 (A++[0])).length=n+1:=by
 have sA0:au Z (A++[0]):=mP sA (ln 1);obtain ⟨h1,h2,ce,h3⟩:=zh (at_:=0) sD (D.length+1) 0 0 (A++[0]) (by simp;omega) (by omega) sA0;have e1:D.drop (0+(D.length+1))=[]:=Y9 (by omega);have e2:val Z (A++[0])=a:=by rw [show ([0]:List Nat)=List.replicate 1 0 from rfl,kA,va]
 have e0:val Z ([]:List Nat)=0:=rfl;rw [e1,e2,e0] at h3;have l1:=gF aR sA;have l2:=gF aR sD;rw [va,hA] at l1;rw [vb,hD] at l2;have hl:(mt 0 D (D.length+1) 0 0 (A++[0])).length=n+1:=by rw [h1.1];simp [hA]
 refine ⟨?_,h2,hl⟩;rw [hD] at h3 ⊢;have h2Z:=ag;generalize val Z (mt 0 D (n+1) 0 0 (A++[0]))=x at *;simp only [Y4,vb,Nat.add_zero,Zk,Nat.pow_zero,Xt,Nat.pow_succ] at h3;exact Q0 h2Z h3 l1 l2
theorem NI (k:Nat):fW k [D.int .u64 0]=(List.replicate k 0).map u6:=by
 induction k with
 | zero=>rfl
 | succ k ih=>rw [List.replicate_succ,Zx,<- ih];rfl
theorem Gy (a w:Nat) (hw:w<=18):CP Y F.aW [S (aa a),I w] (if ndg a<=w then .tup [I a,B true] else .tup [I 0,B false]):=by
 refine mS ?_;have la:=iX a;by_cases h:(w:Int) < ndg a
 ·rw [if_neg (by omega)];simp (disch:=first|omega|simp<;>omega|fail)[aW,la,h];exact aj rfl rfl
 ·rw [if_pos (by omega)];have ap:=CF (n:=a) (ig a) (by omega) (bR a);have en:biF .eql (.d (.pl .nilIface)) (.d (.pl .nilIface))=some (.d (.bool true)):=rfl;simp (disch:=first|omega|simp<;>omega|fail)[aW,la,h];refine cd (args:=[S (aa a)]) ap ?_;simp (disch:=first|omega|simp<;>omega|fail)[en];exact aj rfl rfl
theorem mO (a:Nat):CP Y F.aF [S (aa a)] (.tup [B false,S (aa a)]):=by
 have h:=qq (aa a);have e1:rdN (aa a)=false:=decide_eq_false (lX a);have e2:rdT (aa a)=aa a:=if_neg (lX a);rw [e1,e2] at h;exact h
theorem LU (s:List UInt8):CP Y F.bC [B false,S s] (S s):=by
 refine tw ?_;simp (disch:=first|omega|simp<;>omega|fail)[bC] <;> exact cU rfl
end Go.Vm
