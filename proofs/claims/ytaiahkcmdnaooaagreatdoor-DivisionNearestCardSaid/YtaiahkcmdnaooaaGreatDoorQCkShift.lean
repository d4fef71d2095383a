/- Natural numbers of the checker: shift. -/
import Derived.Test.YtaiahkcmdnaooaaGreatDoorQCkBits
import Derived.Test.YtaiahkcmdnaooaaGreatDoorQCkForm
import Derived.Test.YtaiahkcmdnaooaaGreatDoorQDcY
import Derived.Test.YtaiahkcmdnaooaaGreatDoorQStr
import Derived.Test.YtaiahkcmdnaooaaGreatDoorQT
import Derived.Test.YtaiahkcmdnaooaaGreatDoorQWalk
set_option linter.unusedVariables false
set_option linter.unusedSimpArgs false
namespace Go.Vm
open Go Go.Am Go.Big
def shH (o:List Nat):Hp:=[(1,.data 1 (o.map u32) false false),(0,.none)]
@[simp] theorem TI (o:List Nat):List.length (shH o)=2:=id rfl
def slH (o:List Nat):Hp:=[(0,.none),(1,.data 1 (o.map u32) true false)]
@[simp] theorem TC (o:List Nat):List.length (slH o)=2:=id rfl
def rdT (s:List UInt8):List UInt8:=if s.headD 0=45 then s.tail else s
def rdN (s:List UInt8):Bool:=decide (s.headD 0=45)
def rd (s:List UInt8):Option Int:=if (rdT s).length<=400 then rdS s else none
theorem PD (s:List UInt8):rd s=if (rdT s).length<=400∧rdT s≠[]∧¬ ((rdT s).headD 0=48∧(1<(rdT s).length∨rdN s=true))∧(rdT s).all kZ=true then some (if rdN s=true then -(dG 0 (rdT s):Int) else (dG 0 (rdT s):Int)) else none:=by
 unfold rd rdS
 have hcan:∀ t:List UInt8,ma t=true↔t≠[]∧t.all kZ=true∧¬ (1<t.length∧t.headD 0=48):=fun t=>by
  simp [ma,and_assoc];intro _ _;constructor
  ·rintro (h | h) g
   ·omega
   ·exact h
  ·intro h;by_cases g:1<t.length
   ·exact .inr (h g)
   ·exact .inl (by omega)
 by_cases h:s.headD 0=45
 ·have e1:rdT s=s.tail:=by unfold rdT;rw [if_pos h]
  have e2:rdN s=true:=by unfold rdN;simpa using h
  rw [e1,e2,if_pos h];generalize s.tail=t;by_cases h1:t.length<=400
  ·simp only [h1,if_true,true_and,hcan];by_cases h2:t≠[]∧¬ (t.headD 0=48∧(1<t.length∨True))∧t.all kZ=true
   ·rw [if_pos h2,if_pos];obtain ⟨a,b,c⟩:=h2;refine ⟨⟨a,c,fun x=>b ⟨x.2,.inr trivial⟩⟩,fun x=>b ⟨by rw [x];rfl,.inr trivial⟩⟩
   ·rw [if_neg h2,if_neg];rintro ⟨⟨a,b,c⟩,d⟩;refine h2 ⟨a,fun x=>?_,b⟩;by_cases g:1<t.length
    ·exact c ⟨g,x.1⟩
    ·apply d;cases t with
     | nil=>exact absurd rfl a
     | cons y t=>
      cases t with
      | nil=>have:=x.1;simp at this;rw [this]
      | cons z t=>simp at g
  ·simp [h1]
 ·have e1:rdT s=s:=by unfold rdT;rw [if_neg h]
  have e2:rdN s=false:=by unfold rdN;simpa using h
  rw [e1,e2,if_neg h];by_cases h1:s.length<=400
  ·simp only [h1,if_true,true_and,hcan];by_cases h2:s≠[]∧s.all kZ=true∧¬ (1<s.length∧s.headD 0=48)
   ·rw [if_pos h2,if_pos]
    ·simp
    ·exact ⟨h2.1,fun x=>h2.2.2 ⟨by simpa using x.2,x.1⟩,h2.2.1⟩
   ·rw [if_neg h2,if_neg];rintro ⟨a,b,c⟩;exact h2 ⟨a,c,fun x=>b ⟨x.2,.inl x.1⟩⟩
  ·simp [h1]
@[simp] theorem TO (n:Nat):okV (nat n)=true:=id rfl
theorem K8 {s:List UInt8} {z:Int} (h:rd s=some z):z.natAbs<10 ^ 400:=by
 rw [PD] at h;split at h
 ·rename_i hc;simp only [Z9] at h;have hi:=oH (rdT s) 0 hc.2.2.2;have:dG 0 (rdT s)<10 ^ 400:=Z2 hi (by set_option exponentiation.threshold 1000 in rw [Zk,Xs];exact Z5 (by decide) hc.1)
  have hz:z.natAbs=dG 0 (rdT s):=by
   rw [<- h];split <;> simp
  rw [hz];exact this
 ·cases h
def rdF (a b:List UInt8):Option (Int × Nat):=match rd a,rd b with
 | some n,some d=>if 0<d∧Nat.gcd n.natAbs d.natAbs=1 then some (n,d.natAbs) else none
 | _,_=>none
theorem cC {a b:Nat} (h:a<=b):ndg a<=ndg b:=a6 (Ze h (bP b)) (iE b)
theorem JR (k:KL):∀ (b a:Nat),ndg a<1000000->ndg b<1000000->k (.exit 0) [S (aa (Nat.gcd a b))] []->lp (kX (CX Y)) [] [] [S (aa a),S (aa b)] [] k:=by
 intro b
 induction b using Nat.strongRecOn with
 | _ b ih=>
  intro a ha hb hk;by_cases h0:b=0
  ·subst h0;rw [Nat.gcd_zero_right] at hk;refine aj ?_;rw [dt];simp (disch:=first|omega|simp<;>omega|fail)[kX];exact hk
  ·have hbp:0<b:=by omega
   have hne:¬ aa b=[48]:=by
    rw [<- dt];intro e;have:=congrArg (dG 0) e;rw [cF,cF] at this;omega
   have hm:=Y8 a hbp
   have hk2:=ih (a % b) hm b hb (Ze (cC (Nat.le_of_lt hm)) hb) (by
    rw [Wd b,<- Nat.gcd_rec,Wd b];exact hk)
   refine aj ?_;simp (disch:=first|omega|simp<;>omega|fail)[kX,hne];refine cd (vz hbp ha hb) ?_;simp (disch:=first|omega|simp<;>omega|fail)[];exact hk2
theorem Ii {a b:Nat} (ha:ndg a<1000000) (hb:ndg b<1000000):CP Y F.jI [S (aa a),S (aa b)] (S (aa (Nat.gcd a b))):=by
 refine Ag ?_;simp (disch:=first|omega|simp<;>omega|fail)[jI];refine lo (JR _ b a ha hb ?_);simp (disch:=first|omega|simp<;>omega|fail)[];exact cT rfl
theorem JQ (k:KL):∀ (b a:Nat),a<1000000000000000000->b<1000000000000000000->k (.exit 0) [I (Nat.gcd a b:Nat)] []->lp (mA (CX Y)) [] [] [I a,I b] [] k:=by
 intro b
 induction b using Nat.strongRecOn with
 | _ b ih=>
  intro a ha hb hk;by_cases h0:(b:Int)=0
  ·have:b=0:=by omega
   subst this;rw [Nat.gcd_zero_right] at hk;refine aj ?_;simp (disch:=first|omega|simp<;>omega|fail)[mA];exact hk
  ·have hbp:0<b:=by omega
   have hm:=Y8 a hbp
   have hk2:=ih (a % b) hm b hb (by omega) (by
    rw [Wd b,<- Nat.gcd_rec,Wd b];exact hk)
   have h0':¬ b=0:=by omega
   have e2:(a:Int) % (b:Int)=((a % b:Nat):Int):=by simp
   obtain ⟨r,hr⟩:∃ r,a % b=r:=⟨_,rfl⟩;rw [hr] at hk2 e2;refine aj ?_;simp (disch:=first|omega|simp<;>omega|fail)[mA,h0,h0',Zx,e2];exact hk2
theorem Oy {a b:Nat} (ha:a<1000000000000000000) (hb:b<1000000000000000000):CP Y F.mK [I a,I b] (I (Nat.gcd a b:Nat)):=by
 refine C6 ?_;simp (disch:=first|omega|simp<;>omega|fail)[mK];refine lo (JQ _ b a ha hb ?_);simp only [gT];exact bH rfl
theorem Gv {n:Nat} (h:n<9223372036854775808):CP Y F.cY [I n] (S (aa n)):=by
 refine xz ?_;simp (disch:=first|omega|simp<;>omega|fail)[cY];have e:itoa (n:Int)=aa n:=by unfold itoa;rw [if_neg (by omega)];rfl
 refine cd (xm (z:=n) (by omega) (by omega)) ?_;rw [e]
 try simp (disch:=first|omega|simp<;>omega|fail)[]
 exact cT rfl
theorem yz (a:Nat):CP Y F.aW [S (aa a),I 18] (if ndg a<=18 then .tup [I a,B true] else .tup [I 0,B false]):=by
 refine mR ?_;have la:=iY a;by_cases h:18<ndg a
 ·rw [if_neg (by omega)];simp (disch:=first|omega|simp<;>omega|fail)[aW,la,h];exact ai rfl rfl
 ·rw [if_pos (by omega)];have ap:=CQ (n:=a) (iE a) (by omega) (bP a);have en:biF .eql (.d (.pl .nilIface)) (.d (.pl .nilIface))=some (.d (.bool true)):=rfl;simp (disch:=first|omega|simp<;>omega|fail)[aW,la,h];refine cd (args:=[S (aa a)]) ap ?_;simp (disch:=first|omega|simp<;>omega|fail)[en];exact ai rfl rfl
theorem qx (s:List UInt8):CP Y F.aF [S s] (.tup [B (rdN s),S (rdT s)]):=by
 refine zy ?_;cases s with
 | nil=>
  simp (disch:=first|omega|simp<;>omega|fail)[aF];exact ai rfl rfl
 | cons c t=>
  have hix:ixS (S (c::t)) (.d (.int .i64 0))=some (.d (.int .u8 c.toNat)):=rfl;by_cases h:c=45
  ·subst h;have e:((45:UInt8).toNat:Int)=45:=rfl;simp (disch:=first|omega|simp<;>omega|fail)[aF,hix,e];exact ai rfl rfl
  ·have e:¬ (c.toNat:Int)=45:=fun g=>h (by apply UInt8.toNat.inj;simpa using (by omega:c.toNat=45))
   have e1:rdT (c::t)=c::t:=by simp [rdT,h]
   have e2:rdN (c::t)=false:=by simp [rdN,h]
   rw [e1,e2];simp (disch:=first|omega|simp<;>omega|fail)[aF,hix,e];exact ai rfl rfl
theorem Bm (l:List UInt8) (hl:l.length<1000000000) (k:KL):∀ (q p:List UInt8),p++q=l->(q.all kZ=true->k (.exit 0) [] [])->(q.all kZ=false->k .ret [B false] [])->lp (dC (CX Y) (lst u8 l) (I l.length)) [] [] [I p.length] [] k
 | []=>by
  intro p hp h0 h1;simp at hp;subst hp;refine aj ?_;simp (disch:=first|omega|simp<;>omega|fail)[dC];exact h0 rfl
 | c::q=>by
  intro p hp h0 h1;have hpl:p.length<l.length:=by subst hp;simp
  have hc:nth 0 l p.length=c:=by subst hp;simp
  have e1:=fun h:Hp=>d6 u8 l h (k:=.i64) (i:=(p.length:Int)) (by omega) (by omega)
  have e2:=fun h:Hp=>fA u8 0 l h (j:=p.length) hpl
  rw [hc] at e2;simp only [Int.toNat_natCast] at e1;have ih:=Bm l hl k q (p++[c]) (by simpa using hp);refine aj ?_;by_cases g1:(c.toNat:Int)<48
  ·have g3:kZ c=false:=by rw [Bool.eq_false_iff];intro h;rw [iR] at h;omega
   simp (disch:=first|omega|simp<;>omega|fail)[dC,e1,e2,u8,g1];exact h1 (by simp [g3])
  ·by_cases g2:(57:Int)<c.toNat
   ·have g3:kZ c=false:=by rw [Bool.eq_false_iff];intro h;rw [iR] at h;omega
    simp (disch:=first|omega|simp<;>omega|fail)[dC,e1,e2,u8,g1,g2];exact h1 (by simp [g3])
   ·have g3:kZ c=true:=by rw [iR];omega
    have:=ih (fun h=>h0 (by simp [g3];simpa using h)) (fun h=>h1 (by simp only [List.all_cons,h,Wg]));simp (disch:=first|omega|simp<;>omega|fail)[dC,e1,e2,u8,g1,g2];simpa using this
theorem O0 (l:List UInt8) (hl:l.length<1000000000):CP Y F.fc [S l] (B (ma l)):=by
 refine rV ?_;unfold fc
 show cvB (S l) _ _
 rw [PS];have lL:j6 (S l)=some (I l.length):=rfl;simp (disch:=first|omega|simp<;>omega|fail)[];refine lo (Bm l hl _ l [] rfl (fun e=>?_) (fun e=>?_))
 ·simp only [gT];cases l with
  | nil=>
   simp (disch:=first|omega|simp<;>omega|fail)[lL];exact iP (by simp [ma])
  | cons c t=>
   have hix:ixS (S (c::t)) (.d (.int .i64 0))=some (.d (.int .u8 c.toNat)):=rfl;cases t with
   | nil=>
    simp (disch:=first|omega|simp<;>omega|fail)[lL];exact iP (by simp [ma] at e ⊢;exact e)
   | cons d t=>
    obtain ⟨N,hN⟩:∃ N,(c::d::t).length=N:=⟨_,rfl⟩;have hN2:2<=N:=by rw [<- hN];simp only [List.length_cons];omega
    rw [hN] at lL;have g2:(1:Int)<(N:Int):=by omega
    have g3:¬ (N:Int)=1:=by omega
    by_cases h:c=48
    ·subst h;have e48:((48:UInt8).toNat:Int)=48:=rfl;simp (disch:=first|omega|simp<;>omega|fail)[lL,g2,g3,hix,e48];exact iP (by simp [ma])
    ·have e48:¬ (c.toNat:Int)=48:=fun g=>h (by apply UInt8.toNat.inj;simpa using (by omega:c.toNat=48))
     simp (disch:=first|omega|simp<;>omega|fail)[lL,g2,g3,hix,e48]
     exact iP (by
      have:ma (c::d::t)=true:=by simp only [ma,e];simp [h]
      exact this.symm)
 ·simp only [qQ,uv];exact iP (by simp only [ma,e,Wg,Wu])
theorem Kd (l:List UInt8) (hl:l.length<1000000000):CP Y F.ib [S l] (I (if ma l=true∧l.length<=400 then 0 else 2)):=by
 refine wS ?_;have lL:j6 (S l)=some (I l.length):=rfl;obtain ⟨N,hN⟩:∃ N,l.length=N:=⟨_,rfl⟩;rw [hN] at lL ⊢;simp (disch:=first|omega|simp<;>omega|fail)[ib];refine cd (O0 l hl) ?_;cases hc:ma l with
 | false=>
  simp (disch:=first|omega|simp<;>omega|fail)[] <;> exact bH (by simp)
 | true=>
  by_cases h:(400:Int)<N
  ·simp (disch:=first|omega|simp<;>omega|fail)[lL,h] <;> exact bH (by rw [if_neg (by omega)])
  ·have h2:true=true∧N<=400:=⟨rfl,by omega⟩;simp (disch:=first|omega|simp<;>omega|fail)[lL,h] <;> exact bH (by rw [if_pos h2.2])
theorem Jp (s:List UInt8):(rd s).isSome=(!(rdN s && decide (rdT s=[48])) && (ma (rdT s) && decide ((rdT s).length<=400))):=by
 unfold rd rdS rdN rdT;by_cases h45:s.headD 0=45
 ·simp only [h45,if_true];obtain ⟨t,ht⟩:∃ t,s.tail=t:=⟨_,rfl⟩;rw [ht];by_cases hl:t.length<=400
  ·by_cases h48:t=[48]
   ·simp [h48]
   ·cases hc:ma t <;> simp [hl,h48]
  ·simp [hl]
 ·simp only [h45,if_false];by_cases hl:s.length<=400
  ·cases hc:ma s <;> simp [hl]
  ·simp [hl]
theorem Bg (s:List UInt8) (hs:s.length<1000000000):CP Y F.ju [S s] (I (if (rd s).isSome then 0 else 2)):=by
 refine zF ?_
 have hT:(rdT s).length<1000000000:=by
  unfold rdT;split
  ·have:s.tail.length=s.length-1:=List.length_tail;omega
  ·exact hs
 rw [Jp];simp (disch:=first|omega|simp<;>omega|fail)[ju];refine cd (qx s) ?_;have hck:=Kd (rdT s) hT;obtain ⟨t,ht⟩:∃ t,rdT s=t:=⟨_,rfl⟩;rw [ht] at hck ⊢;obtain ⟨c4,hc4⟩:∃ c4,(ma t && decide (t.length<=400))=c4:=⟨_,rfl⟩
 have hck2:CP Y F.ib [S t] (I (if c4=true then 0 else 2)):=by
  have:(if ma t=true∧t.length<=400 then (0:Int) else 2)=if c4=true then 0 else 2:=by
   rw [<- hc4];by_cases h:ma t=true∧t.length<=400
   ·rw [if_pos h];simp [h]
   ·rw [if_neg h];rw [if_neg (by simpa using h)]
  rw [<- this];exact hck
 rw [hc4];cases hn:rdN s with
 | true=>
  by_cases h3:t=[48]
  ·simp (disch:=first|omega|simp<;>omega|fail)[h3] <;> exact bH (by simp)
  ·simp (disch:=first|omega|simp<;>omega|fail)[h3];refine cd hck2 ?_;cases c4 with
   | true=>simp (disch:=first|omega|simp<;>omega|fail)[h3] <;> exact bH (by simp [h3])
   | false=>simp (disch:=first|omega|simp<;>omega|fail)[h3] <;> exact bH (by simp [h3])
 | false=>
  simp (disch:=first|omega|simp<;>omega|fail)[];refine cd hck2 ?_;cases c4 with
  | true=>simp (disch:=first|omega|simp<;>omega|fail)[] <;> exact bH (by simp)
  | false=>simp (disch:=first|omega|simp<;>omega|fail)[] <;> exact bH (by simp)
theorem oE (z:Int):rdT (itoa z)=aa z.natAbs:=by
 unfold itoa rdT;split
 ·simp
 ·rw [if_neg (ni _)]
theorem CV (z:Int):CP Y F.fW [S (itoa z)] (S (aa z.natAbs)):=by
 refine vN ?_;have:=qx (itoa z);rw [oE] at this;simp (disch:=first|omega|simp<;>omega|fail)[fW];refine cd this ?_;simp (disch:=first|omega|simp<;>omega|fail)[] <;> exact cT rfl
def sgn (z:Int):Int:=if z=0 then 0 else if z<0 then -1 else 1
theorem iO (z:Int):CP Y F.aZ [S (itoa z)] (I (sgn z)):=by
 refine Bx ?_;by_cases h0:z=0
 ·subst h0;have e:itoa 0=[48]:=dt;rw [e];simp (disch:=first|omega|simp<;>omega|fail)[aZ] <;> exact bH rfl
 ·have hne:¬ itoa z=[48]:=by
   intro e;have h1:=Ec z;have h2:=Ec 0;rw [show itoa 0=[48] from dt,<- e,h1] at h2;exact h0 (Option.some.inj h2)
  by_cases hn:z<0
  ·have e:itoa z=45::aa z.natAbs:=by unfold itoa;rw [if_pos hn]
   have hix:ixS (S (itoa z)) (.d (.int .i64 0))=some (.d (.int .u8 45)):=by rw [e];rfl
   simp (disch:=first|omega|simp<;>omega|fail)[aZ,hne,hix] <;> exact bH (by simp [sgn,h0,hn])
  ·have e:itoa z=aa z.natAbs:=by unfold itoa;rw [if_neg hn]
   obtain ⟨c,t,hct⟩:∃ c t,aa z.natAbs=c::t:=by
    cases h:aa z.natAbs with
    | nil=>exact absurd h (qN _)
    | cons c t=>exact ⟨c,t,rfl⟩
   have hhd:=ni z.natAbs;rw [hct] at hhd;have hix:ixS (S (itoa z)) (.d (.int .i64 0))=some (.d (.int .u8 c.toNat)):=by rw [e,hct];rfl
   have hc:¬ (c.toNat:Int)=45:=fun g=>hhd (by apply UInt8.toNat.inj;simpa using (by omega:c.toNat=45))
   simp (disch:=first|omega|simp<;>omega|fail)[aZ,hne,hix,hc] <;> exact bH (by simp [sgn,h0,hn])
theorem Ih {z w:Int} (hz:ndg z.natAbs<1000000) (hw:ndg w.natAbs<1000000):CP Y F.kD [S (itoa z),S (itoa w)] (S (aa (Nat.gcd z.natAbs w.natAbs))):=by
 refine Df ?_;have l1:=yz z.natAbs;have l2:=yz w.natAbs;have gg:=Ii hz hw;simp (disch:=first|omega|simp<;>omega|fail)[kD];refine cd (CV z) ?_;simp (disch:=first|omega|simp<;>omega|fail)[];refine cd (CV w) ?_;simp (disch:=first|omega|simp<;>omega|fail)[];by_cases h1:ndg z.natAbs<=18
 ·rw [if_pos h1] at l1;refine cd l1 ?_;simp (disch:=first|omega|simp<;>omega|fail)[];by_cases h2:ndg w.natAbs<=18
  ·rw [if_pos h2] at l2;refine bC ?_;simp (disch:=first|omega|simp<;>omega|fail)[];refine cd l2 ?_;have b1:z.natAbs<1000000000000000000:=by have:=bP z.natAbs;have:=Z5 (n:=10) (by decide) h1;omega
   have b2:w.natAbs<1000000000000000000:=by have:=bP w.natAbs;have:=Z5 (n:=10) (by decide) h2;omega
   have gi:=Oy b1 b2
   have gb:Nat.gcd z.natAbs w.natAbs<9223372036854775808:=by
    rcases Zg w.natAbs with h | h
    ·rw [h,Nat.gcd_zero_right];omega
    ·have:=Nat.gcd_le_right z.natAbs h;omega
   generalize Nat.gcd z.natAbs w.natAbs=G at *;generalize z.natAbs=a at *;generalize w.natAbs=b at *;simp (disch:=first|omega|simp<;>omega|fail)[];refine cd gi ?_;simp (disch:=first|omega|simp<;>omega|fail)[];refine cd (Gv gb) ?_;exact cT rfl
  ·rw [if_neg h2] at l2;refine bC ?_;simp (disch:=first|omega|simp<;>omega|fail)[];refine cd l2 ?_;simp (disch:=first|omega|simp<;>omega|fail)[];refine cd gg ?_;exact cT rfl
 ·rw [if_neg h1] at l1;refine cd l1 ?_;simp (disch:=first|omega|simp<;>omega|fail)[];refine cd (u:=.mk) gg ?_;exact cT rfl
theorem HI {s:List UInt8} {z:Int} (h:rd s=some z):s=itoa z∧ndg z.natAbs<1000000:=by
 have hb:=K8 h;unfold rd at h;split at h
 ·exact ⟨K9 h,by have:=a6 hb (by decide);omega⟩
 ·cases h
theorem Gj (a b:List UInt8):(rdF a b).isSome=match rd a,rd b with
  | some n,some d=>decide (0<d∧Nat.gcd n.natAbs d.natAbs=1)
  | _,_=>false:=by
 unfold rdF;cases rd a <;> cases rd b <;> simp
 split <;> simp_all
theorem Bh (a b:List UInt8) (ha:a.length<1000000000) (hb:b.length<1000000000):CP Y F.eN [.agg [S a,S b]] (I (if (rdF a b).isSome then 0 else 2)):=by
 refine vt ?_;have ca:=Bg a ha;have cb:=Bg b hb;rw [Gj];simp (disch:=first|omega|simp<;>omega|fail)[eN];refine cd ca ?_;cases hra:rd a with
 | none=>
  simp (disch:=first|omega|simp<;>omega|fail)[];refine bC ?_;simp (disch:=first|omega|simp<;>omega|fail)[] <;> exact bH rfl
 | some z=>
  cases hrb:rd b with
  | none=>
   rw [hrb] at cb;simp (disch:=first|omega|simp<;>omega|fail)[];refine bC ?_;simp (disch:=first|omega|simp<;>omega|fail)[];refine cd cb ?_;simp (disch:=first|omega|simp<;>omega|fail)[] <;> exact bH rfl
  | some w=>
   rw [hrb] at cb;obtain ⟨ea,na⟩:=HI hra;obtain ⟨eb,nb⟩:=HI hrb;subst ea;subst eb;have sg:=iO w;have gg:=Ih na nb;simp (disch:=first|omega|simp<;>omega|fail)[];refine bC ?_;simp (disch:=first|omega|simp<;>omega|fail)[];refine cd cb ?_;simp (disch:=first|omega|simp<;>omega|fail)[];refine cd sg ?_;by_cases hw:0<w
   ·have hs:¬ sgn w<=0:=by unfold sgn;rw [if_neg (by omega),if_neg (by omega)];decide
    simp (disch:=first|omega|simp<;>omega|fail)[hs];refine bC ?_;simp (disch:=first|omega|simp<;>omega|fail)[];refine cd gg ?_;by_cases hg:Nat.gcd z.natAbs w.natAbs=1
    ·have e1:aa 1=[49]:=by rw [aa,show ndg 1=1 by unfold ndg;simp];rfl
     rw [show aa (Nat.gcd z.natAbs w.natAbs)=[49] by rw [hg,e1]];simp (disch:=first|omega|simp<;>omega|fail)[] <;> exact bH (by simp [hw];exact hg)
    ·have e1:¬ aa (Nat.gcd z.natAbs w.natAbs)=[49]:=by
      intro e;have:=congrArg (dG 0) e;rw [cF] at this;exact hg this
     simp (disch:=first|omega|simp<;>omega|fail)[e1] <;> exact bH (by simp [hw,hg])
   ·have hs:sgn w<=0:=by unfold sgn;split;decide;rw [if_pos (by omega)];decide
    simp (disch:=first|omega|simp<;>omega|fail)[hs];refine bC ?_;simp (disch:=first|omega|simp<;>omega|fail)[hs] <;> exact bH (by simp [hw])
def HR (n:Nat):Nat->Nat->Bool
 | 0,_=>true
 | k+1,d=>if n % d=0 then false else HR n k (d+1)
def sR (n:Int):Bool:=decide (2<=n) && decide (n<=97) && HR n.toNat (n.toNat-2) 2
def o6 (s:List UInt8):Bool:=decide ((rdT s).length<=30)
abbrev Tx:=List UInt8 × List UInt8
def aJ (x:Tx):List D:=[.str x.1,.str x.2]
theorem aG (x:Tx):(aJ x).length=2:=rfl
def KF (n:Nat):Nat->Nat->Bool
 | 0,_=>true
 | r+1,d=>if d*d<=n then (if n % d=0 then false else KF n r (d+1)) else true
theorem Qc:∀ n:Fin 98,2<=n.val->KF n.val 10 2=sR n.val:=by decide +kernel
theorem Hy (n:Nat) (hn:n<=97) (k:KL):∀ (r d:Nat),2<=d->d+r=12->(KF n r d=true->k (.exit 0) [] [])->(KF n r d=false->k .ret [B false] []) ->
  lp (f9 (CX Y) (I n)) [] [] [I d] [] k
 | 0,d,hd,hr,h0,h1=>by
  have:d=12:=by omega
  subst this;have g:¬ ((12:Nat):Int)*((12:Nat):Int)<=(n:Int):=by omega
  have g2:¬ (144:Int)<=(n:Int):=by omega
  refine aj ?_;simp (disch:=first|omega|simp<;>omega|fail)[f9,g,g2];exact h0 rfl
 | r+1,d,hd,hr,h0,h1=>by
  have ih:=Hy n hn k r (d+1) (by omega) (by omega);have hd12:d<=12:=by omega
  obtain ⟨s,hs⟩:∃ s,d*d=s:=⟨_,rfl⟩;have hsb:s<=144:=by rw [<- hs];exact Zs hd12 hd12
  have e1:(d:Int)*(d:Int)=(s:Int):=by rw [<- hs];simp
  rw [KF,hs] at h0 h1;refine aj ?_;by_cases g:s<=n
  ·have g':(s:Int)<=(n:Int):=by omega
   rw [if_pos g] at h0 h1;have hd0:¬ ((d:Int)=0):=by omega
   have hd0':¬ (d=0):=by omega
   obtain ⟨m,hm⟩:∃ m,n % d=m:=⟨_,rfl⟩;have e2:(n:Int) % (d:Int)=(m:Int):=by rw [<- hm];simp
   rw [hm] at h0 h1;by_cases h:m=0
   ·have h':(m:Int)=0:=by omega
    rw [if_pos h] at h1;simp (disch:=first|omega|simp<;>omega|fail)[f9,e1,g',hd0,hd0',Zx,e2,h',h];exact h1 rfl
   ·have h':¬ (m:Int)=0:=by omega
    rw [if_neg h] at h0 h1;have:=ih h0 h1;simp (disch:=first|omega|simp<;>omega|fail)[f9,e1,g',hd0,hd0',Zx,e2,h',h];simpa using this
  ·have g':¬ (s:Int)<=(n:Int):=by omega
   rw [if_neg g] at h0;simp (disch:=first|omega|simp<;>omega|fail)[f9,e1,g'];exact h0 rfl
theorem EU (n:Int):CP Y F.fO [I n] (B (sR n)):=by
 refine wF ?_;by_cases h1:n<2
 ·simp (disch:=first|omega|simp<;>omega|fail)[fO,h1] <;> exact iP (by simp [sR];omega)
 by_cases h2:97<n
 ·simp (disch:=first|omega|simp<;>omega|fail)[fO,h1,h2] <;> exact iP (by simp [sR];omega)
 obtain ⟨m,rfl⟩:∃ m:Nat,n=m:=⟨n.toNat,by omega⟩;have ha:=Qc ⟨m,by omega⟩ (by simp;omega);simp only at ha;simp (disch:=first|omega|simp<;>omega|fail)[fO,h1,h2];refine lo (Hy m (by omega) _ 10 2 (by omega) rfl (fun e=>?_) (fun e=>?_))
 ·simp only [gT];exact iP (by rw [<- ha,e])
 ·simp only [qQ,uv];exact iP (by rw [<- ha,e])
def Gp (prev:Option Int) (x:Int):Bool:=match prev with | some y=>decide (y<x) | none=>true
def ym:Option Int->List Int->Int
 | _,[]=>0
 | prev,x::q=>cond (sR x) (cond (Gp prev x) (ym (some x) q) 6) 25
theorem HT (k:KL):∀ (q a:List Int),(a++q).length<1000000000->(ym a.getLast? q=0->k (.exit 1) [] [])->(ym a.getLast? q≠0->k .ret [I (ym a.getLast? q)] []) ->
  lp (kP (CX Y) (lst di (a++q)) (lst di (a++q)) (I (a++q).length)) [] [] [I a.length] [] k
 | []=>by
  intro a hN h0 h1;refine aj ?_;simp (disch:=first|omega|simp<;>omega|fail)[kP];exact h0 rfl
 | x::q=>by
  intro a hN h0 h1;simp at hN;have ih:=HT k q (a++[x]) (by simp;omega);rw [List.getLast?_concat] at ih;refine aj ?_;simp (disch:=first|omega|simp<;>omega|fail)[kP];refine cd (EU x) ?_;by_cases hp:sR x=true
  ·rcases List.eq_nil_or_concat a with rfl | ⟨b,y,rfl⟩
   ·simp only [ym,hp,List.getLast?_nil,Gp,cond_true] at h0 h1;simp (disch:=first|omega|simp<;>omega|fail)[hp];have:=ih h0 h1;simpa using this
   ·rw [List.concat_eq_append] at *;have hny:nth 0 (b++[y]++x::q) b.length=y:=by rw [List.append_assoc];simp
    rw [List.getLast?_concat] at h0 h1;simp only [ym,hp,Gp,cond_true] at h0 h1;have eI:∀ h:Hp,ixV h 1 (lst di (b++[y]++x::q)) (.d (.int .i64 (b.length:Int)))=some (.dptr ((b++[y]++x::q).map di) b.length):=fun h=>GJ di _ h rfl (by simp)
    have eL:∀ h:Hp,ld1 h (.dptr ((b++[y]++x::q).map di) b.length)=some (.d (di y)):=fun h=>by
     have:=QH (b++[y]++x::q) h (j:=b.length) (by simp);rw [hny] at this;exact this
    have hA:b++[y]++[x]++q=b++[y]++x::q:=by simp
    have hn:(b++[y]).length=b.length+1:=by simp
    have hn2:(b++[y]++[x]).length=b.length+1+1:=by simp
    rw [hA,hn2] at ih;rw [hn] at hN ⊢;generalize b++[y]++x::q=A at *;generalize b.length=m at *;have e':((m+1:Nat):Int)-1=(m:Int):=by omega
    have hl0:(0:Int)<((m+1:Nat):Int):=by omega
    obtain ⟨m1,hm1⟩:∃ m1,m1=m+1:=⟨_,rfl⟩;rw [<- hm1] at e' hl0 ih ⊢;by_cases hyx:y<x
    ·have g1:¬ x<=y:=by omega
     rw [show decide (y<x)=true by simpa using hyx] at h0 h1;simp only [cond_true] at h0 h1;have:=ih h0 h1;simp (disch:=first|omega|simp<;>omega|fail)[hp,e',hl0,eI,eL,g1];simpa using this
    ·have g1:x<=y:=by omega
     rw [show decide (y<x)=false by simpa using hyx] at h1;simp only [cond_false] at h1;simp (disch:=first|omega|simp<;>omega|fail)[hp,e',hl0,eI,eL,g1];simpa using h1
  ·have hpf:sR x=false:=by simpa using hp
   simp only [ym,hpf,cond_false] at h1;simp (disch:=first|omega|simp<;>omega|fail)[hpf];simpa using h1
def pcB (p:List Int):Int:=if p.length=0 then 13 else if 6<p.length then 4 else ym none p
theorem iX {p:List Int} (hN:p.length<1000000000):CP Y F.du [lst di p] (I (pcB p)):=by
 refine zO ?_;have lp':am (lst di p)=some (I p.length):=rfl;by_cases h1:(p.length:Int)=0
 ·have e:pcB p=13:=by unfold pcB;exact if_pos (by omega)
  have hnil:p=[]:=Ym.1 (by omega);rw [e];subst hnil;simp (disch:=first|omega|simp<;>omega|fail)[du] <;> exact bH rfl
 have h1':¬ p.length=0:=by omega
 have hne:¬ p=[]:=fun e=>h1' (by rw [e];rfl)
 by_cases h2:(6:Int)<p.length
 ·have e:pcB p=4:=by unfold pcB;exact (if_neg h1').trans (if_pos (by omega))
  rw [e];simp (disch:=first|omega|simp<;>omega|fail)[du,lp',h1,h2,hne] <;> exact bH rfl
 have e:pcB p=ym none p:=by unfold pcB;exact (if_neg h1').trans (if_neg (by omega))
 unfold du;rw [e]
 have main:=HT (exK [((.exit 1),fun l6 h=>out (I (ym none p)) (.d (.int .i64 0)) h),(.ret,fun l6 h=>out (I (ym none p)) (ge l6 0) h)]) p [] (by simpa using hN) (fun g=>by
  simp only [List.getLast?_nil] at g;simp only [gT];exact bH g.symm) (fun g=>by
  simp only [List.getLast?_nil] at g ⊢;simp only [qQ,uv];exact bH rfl)
 simp (disch:=first|omega|simp<;>omega|fail)[lp',h1,h2,hne];exact main
theorem Bc {a b:Nat} (ha:ndg a<1000000) (hb:ndg b<1000000):CP Y F.gV [S (aa a),S (aa b)] (S (aa (a*b))):=by
 refine Ac ?_;have la:=iY a;have lb:=iY b;have bo:=xu a b;by_cases h18:(ndg a:Int)+(ndg b:Int)<=18
 ·rw [if_pos ⟨by omega,by omega⟩] at bo
  have hm:a*b<1000000000000000000:=by
   have h1:=bP a;have h2:=bP b;have h3:a*b<10 ^ ndg a*10 ^ ndg b:=Yo h1 h2;rw [<- Yz] at h3;have h4:10 ^ (ndg a+ndg b)<=10 ^ 18:=Z5 (by decide) (by omega);exact Z2 h3 h4
  obtain ⟨m,hmm⟩:∃ m,a*b=m:=⟨_,rfl⟩;have e1:(a:Int)*(b:Int)=(m:Int):=by rw [<- hmm];simp
  rw [hmm] at hm ⊢;simp (disch:=first|omega|simp<;>omega|fail)[gV,la,lb,h18];refine cd bo ?_;simp (disch:=first|omega|simp<;>omega|fail)[e1];refine cd (vh (n:=m) (by omega)) ?_;exact cT rfl
 ·obtain ⟨ca,hca⟩:∃ ca,ca=ndg a / 9+1:=⟨_,rfl⟩;obtain ⟨cb,hcb⟩:∃ cb,cb=ndg b / 9+1:=⟨_,rfl⟩;have ltA:a<Z ^ ca:=Z2 (bP a) (by rw [uO];exact Z5 (by decide) (by omega));have ltB:b<Z ^ cb:=Z2 (bP b) (by rw [uO];exact Z5 (by decide) (by omega))
  have cA:=nZ (h:=[(0,.none),(0,.none),(0,.none)]) rfl (n:=a) (by omega) hca;have lA:(aO ca a).length=ca:=bJ ..;have lB:(aO cb b).length=cb:=bJ ..;have cB:=nZ (h:=[(1,.data 1 ((aO ca a).map u6) true false),(0,.none),(0,.none)]) rfl (n:=b) (by omega) hcb;simp (disch:=first|omega|simp<;>omega|fail)[gV,la,lb,h18];refine j4 (gE (e:=0) (b:=.none) cA rfl ?_)
  rw [List.length_map,lA];simp (disch:=first|omega|simp<;>omega|fail)[];refine j4 (gE (e:=0) (b:=.none) cB rfl ?_);rw [List.length_map,lB];simp (disch:=first|omega|simp<;>omega|fail)[]
  have rA:=xx (h:=[(1,.data 1 ((aO ca a).map u6) true false),(1,.data 1 ((aO cb b).map u6) true false),(0,.none)]) (s:=0) (e:=1) (len:=(dig Z a).length) (cap:=ca) (ex:=true) (fr:=false) rfl lA.symm (fG ltA)
  have rB:=xx (h:=[(1,.data 1 ((aO ca a).map u6) true false),(1,.data 1 ((aO cb b).map u6) true false),(0,.none)]) (s:=1) (e:=1) (len:=(dig Z b).length) (cap:=cb) (ex:=true) (fr:=false) rfl lB.symm (fG ltB);rw [jV ltA] at rA;rw [jV ltB] at rB;have dA:=fG ltA;have dB:=fG ltB;obtain ⟨N,hN⟩:∃ N,N=(dig Z a).length+(dig Z b).length:=⟨_,rfl⟩
  have tp:=uT (h:=[(1,.data 1 ((aO ca a).map u6) true false),(1,.data 1 ((aO cb b).map u6) true false),(0,.none)]) rfl rA (bB ag a) rB (bB ag b) (by omega) (by omega) hN
  have ltM:a*b<Z ^ N:=by
   rw [hN,Yz];have h1:=gF aS (bB ag a);have h2:=gF aS (bB ag b);rw [fq ag] at h1 h2;exact Yo h1 h2
  rw [fq ag,fq ag] at tp;have lM:(aO N (a*b)).length=N:=bJ ..;refine j4 (gE (e:=0) (b:=.none) tp rfl ?_);rw [List.length_map,lM];simp (disch:=first|omega|simp<;>omega|fail)[]
  have sM:=qy (h:=[(1,.data 1 ((aO ca a).map u6) true false),(1,.data 1 ((aO cb b).map u6) true false),(1,.data 1 ((aO N (a*b)).map u6) true false)]) (s:=2) rfl lM.symm (len:=(dig Z (a*b)).length) (cap:=N) (fG ltM) (Z7 _);rw [jV ltM] at sM;simp only [List.set_cons_zero,List.set_cons_succ] at sM
  have sMs:ae [(1,.data 1 ((aO ca a).map u6) true false),(1,.data 1 ((aO cb b).map u6) true false),(1,.data 1 ((aO N (a*b)).map u6) true false)] [.ref 2 1 0 (dig Z (a*b)).length N N]=some ([pcs (a*b)],[(1,.data 1 ((aO ca a).map u6) true false),(1,.data 1 ((aO cb b).map u6) true false),(1,.data 1 ((aO N (a*b)).map u6) true true)]):=by
   simp only [ae,sM];rfl
  refine cdz sMs (rq (n:=a*b) (by have:=fG ltM;omega)) ?_;rw [show fv (S (aa (a*b)))=true from rfl,if_pos rfl];exact cT rfl
theorem mO {B:Nat} {a b:List Nat} (ha:au B a) (hb:au B b):au B (a++b):=by
 intro x hx;rcases Yc.1 hx with h | h
 ·exact ha x h
 ·exact hb x h
theorem ln (k:Nat):au Z (List.replicate k 0):=by
 intro x hx;rw [Xv hx];exact aS
theorem kE (k:Nat) (l:List Nat):val Z (l++List.replicate k 0)=val Z l:=by
 rw [val_append]
 have:val Z (List.replicate k 0)=0:=by
  induction k with
  | zero=>rfl
  | succ k ih=>rw [List.replicate_succ];exact (congrArg (fun x=>0+Z*x) ih).trans (by rw [Nat.mul_zero])
 rw [this,Nat.mul_zero,Nat.add_zero]
theorem Rf {q a b ce x B:Nat} (hB:2<=B) (h3:x+q*B*ce=a+b) (l1:a<q) (l2:b<q):x=a+b:=by
 rcases Zg ce with h | h
 ·subst h;rw [Nat.mul_zero,Nat.add_zero] at h3;exact h3
 ·have h1:=Z4 (q*B) h;have h2:=Z4 q hB;omega
theorem Nk {A D:List Nat} {a b n:Nat} (hA:A.length=n) (hD:D.length=n) (sA:au Z A) (sD:au Z D) (va:val Z A=a) (vb:val Z D=b) :
  val Z (mz 0 D (D.length+1) 0 0 (A++[0]))=a+b∧au Z (mz 0 D (D.length+1) 0 0 (A++[0]))∧(mz 0 D (D.length+1) 0 0 (A++[0])).length=n+1:=by
 have sA0:au Z (A++[0]):=mO sA (ln 1);obtain ⟨h1,h2,ce,h3⟩:=zp (at_:=0) sD (D.length+1) 0 0 (A++[0]) (by simp;omega) (by omega) sA0;have e1:D.drop (0+(D.length+1))=[]:=Y9 (by omega);have e2:val Z (A++[0])=a:=by rw [show ([0]:List Nat)=List.replicate 1 0 from rfl,kE,va]
 have e0:val Z ([]:List Nat)=0:=rfl;rw [e1,e2,e0] at h3;have l1:=gF aS sA;have l2:=gF aS sD;rw [va,hA] at l1;rw [vb,hD] at l2;have hl:(mz 0 D (D.length+1) 0 0 (A++[0])).length=n+1:=by rw [h1.1];simp [hA]
 refine ⟨?_,h2,hl⟩;rw [hD] at h3 ⊢;have h2Z:=ag;generalize val Z (mz 0 D (n+1) 0 0 (A++[0]))=x at *;simp only [Y3,vb,Nat.add_zero,Zk,Nat.pow_zero,Xs,Nat.pow_succ] at h3;exact Rf h2Z h3 l1 l2
theorem NS (k:Nat):fY k [D.int .u64 0]=(List.replicate k 0).map u6:=by
 induction k with
 | zero=>rfl
 | succ k ih=>rw [List.replicate_succ,Zw,<- ih];rfl
theorem GG (a w:Nat) (hw:w<=18):CP Y F.aW [S (aa a),I w] (if ndg a<=w then .tup [I a,B true] else .tup [I 0,B false]):=by
 refine mR ?_;have la:=iY a;by_cases h:(w:Int)<ndg a
 ·rw [if_neg (by omega)];simp (disch:=first|omega|simp<;>omega|fail)[aW,la,h];exact ai rfl rfl
 ·rw [if_pos (by omega)];have ap:=CQ (n:=a) (iE a) (by omega) (bP a);have en:biF .eql (.d (.pl .nilIface)) (.d (.pl .nilIface))=some (.d (.bool true)):=rfl;simp (disch:=first|omega|simp<;>omega|fail)[aW,la,h];refine cd (args:=[S (aa a)]) ap ?_;simp (disch:=first|omega|simp<;>omega|fail)[en];exact ai rfl rfl
theorem mN (a:Nat):CP Y F.aF [S (aa a)] (.tup [B false,S (aa a)]):=by
 have h:=qx (aa a);have e1:rdN (aa a)=false:=decide_eq_false (ni a);have e2:rdT (aa a)=aa a:=if_neg (ni a);rw [e1,e2] at h;exact h
theorem L8 (s:List UInt8):CP Y F.bA [B false,S s] (S s):=by
 refine tw ?_;simp (disch:=first|omega|simp<;>omega|fail)[bA] <;> exact cT rfl
end Go.Vm
