/- Natural numbers of the checker: shift. -/
import Derived.Test.YtaiahkcmdnaooaaGreatDoorQCkBits
import Derived.Test.YtaiahkcmdnaooaaGreatDoorQCkForm
import Derived.Test.YtaiahkcmdnaooaaGreatDoorQDcY
import Derived.Test.YtaiahkcmdnaooaaGreatDoorQStr
import Derived.Test.YtaiahkcmdnaooaaGreatDoorQT
import Derived.Test.YtaiahkcmdnaooaaGreatDoorQWalk
set_option linter.unusedVariables false
set_option linter.unusedSimpArgs false
namespace Go.Vm
open Go Go.Am Go.Big
def shH (o:List Nat):Hp:=[(1,.data 1 (o.map u32) false false),(0,.none)]
@[simp] theorem abj (o:List Nat):List.length (shH o)=2:=id rfl
def slH (o:List Nat):Hp:=[(0,.none),(1,.data 1 (o.map u32) true false)]
@[simp] theorem abd (o:List Nat):List.length (slH o)=2:=id rfl
def rdT (s:List UInt8):List UInt8:=if s.headD 0=45 then s.tail else s
def rdN (s:List UInt8):Bool:=decide (s.headD 0=45)
def rd (s:List UInt8):Option Int:=if (rdT s).length<=400 then rdS s else none
theorem Vl (s:List UInt8):rd s=if (rdT s).length<=400∧rdT s≠[]∧¬ ((rdT s).headD 0=48∧(1<(rdT s).length∨rdN s=true))∧(rdT s).all mY=true then some (if rdN s=true then -(d9 0 (rdT s):Int) else (d9 0 (rdT s):Int)) else none:=by
 unfold rd rdS
 have hcan:∀ t:List UInt8,pj t=true↔t≠[]∧t.all mY=true∧¬ (1<t.length∧t.headD 0=48):=fun t=>by
  simp [pj,and_assoc];intro _ _;constructor
  ·rintro (h | h) g
   ·omega
   ·exact h
  ·intro h;by_cases g:1<t.length
   ·exact .inr (h g)
   ·exact .inl aa
 by_cases h:s.headD 0=45
 ·have e1:rdT s=s.tail:=by unfold rdT;rw [if_pos h]
  have e2:rdN s=true:=by unfold rdN;simpa using h
  rw [e1,e2,if_pos h];generalize s.tail=t;by_cases h1:t.length<=400
  ·simp only [h1,if_true,true_and,hcan];by_cases h2:t≠[]∧¬ (t.headD 0=48∧(1<t.length∨True))∧t.all mY=true
   ·rw [if_pos h2,if_pos];obtain ⟨a,b,c⟩:=h2;refine ⟨⟨a,c,fun x=>b ⟨x.2,.inr trivial⟩⟩,fun x=>b ⟨by rw [x];rfl,.inr trivial⟩⟩
   ·rw [if_neg h2,if_neg];rintro ⟨⟨a,b,c⟩,d⟩;refine h2 ⟨a,fun x=>?_,b⟩;by_cases g:1<t.length
    ·exact c ⟨g,x.1⟩
    ·apply d;cases t with
     | nil=>exact absurd rfl a
     | cons y t=>
      cases t with
      | nil=>have:=x.1;simp at this;rw [this]
      | cons z t=>simp at g
  ·simp [h1]
 ·have e1:rdT s=s:=by unfold rdT;rw [if_neg h]
  have e2:rdN s=false:=by unfold rdN;simpa using h
  rw [e1,e2,if_neg h];by_cases h1:s.length<=400
  ·simp only [h1,if_true,true_and,hcan];by_cases h2:s≠[]∧s.all mY=true∧¬ (1<s.length∧s.headD 0=48)
   ·rw [if_pos h2,if_pos]
    ·simp
    ·exact ⟨h2.1,fun x=>h2.2.2 ⟨by simpa using x.2,x.1⟩,h2.2.1⟩
   ·rw [if_neg h2,if_neg];rintro ⟨a,b,c⟩;exact h2 ⟨a,c,fun x=>b ⟨x.2,.inl x.1⟩⟩
  ·simp [h1]
@[simp] theorem abq (n:Nat):okV (nat n)=true:=id rfl
theorem Qw {s:List UInt8} {z:Int} (h:rd s=some z):z.natAbs<10 ^ 400:=by
 rw [Vl] at h;split at h
 ·rename_i hc;simp only [Z9] at h;have hi:=sT (rdT s) 0 hc.2.2.2;have:d9 0 (rdT s)<10 ^ 400:=Z0 hi (by set_option exponentiation.threshold 1000 in rw [Zg,Xs];exact Z2 ae hc.1)
  have hz:z.natAbs=d9 0 (rdT s):=by
   rw [<- h];split <;> simp
  rw [hz];exact this
 ·cases h
def rdF (a b:List UInt8):Option (Int × Nat):=match rd a,rd b with
 | some n,some d=>if 0<d∧Nat.gcd n.natAbs d.natAbs=1 then some (n,d.natAbs) else none
 | _,_=>none
theorem dN {a b:Nat} (h:a<=b):ndg a<=ndg b:=bf (Zc h (cT b)) (jB b)
theorem OS (k:KL):∀ (b a:Nat),ndg a<1000000->ndg b<1000000->k (.exit 0) [S (ah (Nat.gcd a b))] []->lp (nW (CX Y)) [] [] [S (ah a),S (ah b)] [] k:=by
 intro b
 induction b using Nat.strongRecOn with
 | _ b ih=>
  intro a ha hb hk;by_cases h0:b=0
  ·subst h0;rw [Nat.gcd_zero_right] at hk;refine am ?_;rw [eO];simp (disch:=try exact ac)[nW];exact hk
  ·have hbp:0<b:=aa
   have hne:¬ ah b=[48]:=by
    rw [<- eO];intro e;have:=congrArg (d9 0) e;rw [dt,dt] at this;omega
   have hm:=Yw a hbp
   have hk2:=ih (a % b) hm b hb (Zc (dN (Wb hm)) hb) (by
    rw [V7 b,<- Nat.gcd_rec,V7 b];exact hk)
   refine am ?_;simp (disch:=try exact ac)[nW,hne];refine cd (zx hbp ha hb) ?_;simp (disch:=try exact ac)[];exact hk2
theorem Nf {a b:Nat} (ha:ndg a<1000000) (hb:ndg b<1000000):CP Y F.lV [S (ah a),S (ah b)] (S (ah (Nat.gcd a b))):=by
 refine ED ?_;simp (disch:=try exact ac)[lV];refine lo (OS _ b a ha hb ?_);simp (disch:=try exact ac)[];exact d8 rfl
theorem OR (k:KL):∀ (b a:Nat),a<1000000000000000000->b<1000000000000000000->k (.exit 0) [I (Nat.gcd a b:Nat)] []->lp (pK (CX Y)) [] [] [I a,I b] [] k:=by
 intro b
 induction b using Nat.strongRecOn with
 | _ b ih=>
  intro a ha hb hk;by_cases h0:(b:Int)=0
  ·have:b=0:=aa;subst this;rw [Nat.gcd_zero_right] at hk;refine am ?_;simp (disch:=try exact ac)[pK];exact hk
  ·have hbp:0<b:=aa;have hm:=Yw a hbp
   have hk2:=ih (a % b) hm b hb aa (by
    rw [V7 b,<- Nat.gcd_rec,V7 b];exact hk)
   have h0':¬ b=0:=aa;have e2:(a:Int) % (b:Int)=((a % b:Nat):Int):=ag;obtain ⟨r,hr⟩:∃ r,a % b=r:=⟨_,rfl⟩;rw [hr] at hk2 e2;refine am ?_;simp (disch:=try exact ac)[pK,h0,h0',Zv,e2];exact hk2
theorem Ug {a b:Nat} (ha:a<1000000000000000000) (hb:b<1000000000000000000):CP Y F.pX [I a,I b] (I (Nat.gcd a b:Nat)):=by
 refine HQ ?_;simp (disch:=try exact ac)[pX];refine lo (OR _ b a ha hb ?_);simp only [ji];exact bX rfl
theorem Lk {n:Nat} (h:n<9223372036854775808):CP Y F.cC [I n] (S (ah n)):=by
 refine BL ?_;simp (disch:=try exact ac)[cC];have e:itoa (n:Int)=ah n:=by unfold itoa;rw [if_neg aa];rfl
 refine cd (Bs (z:=n) aa aa) ?_;rw [e]
 try simp (disch:=try exact ac)[]
 exact d8 rfl
theorem CL (a:Nat):CP Y F.bw [S (ah a),I 18] (if ndg a<=18 then .tup [I a,B true] else .tup [I 0,B false]):=by
 refine qm ?_;have la:=kE a;by_cases h:18<ndg a
 ·rw [if_neg aa];simp (disch:=try exact ac)[bw,la,h];exact ax rfl rfl
 ·rw [if_pos aa];have ap:=Hz (n:=a) (jB a) aa (cT a);have en:biF .eql (.d (.pl .nilIface)) (.d (.pl .nilIface))=some (.d (.bool true)):=rfl;simp (disch:=try exact ac)[bw,la,h];refine cd (args:=[S (ah a)]) ap ?_;simp (disch:=try exact ac)[en];exact ax rfl rfl
theorem uF (s:List UInt8):CP Y F.aO [S s] (.tup [B (rdN s),S (rdT s)]):=by
 refine DV ?_;cases s with
 | nil=>
  simp (disch:=try exact ac)[aO];exact ax rfl rfl
 | cons c t=>
  have hix:ixS (S (c::t)) (.d (.int .i64 0))=some (.d (.int .u8 c.toNat)):=rfl;by_cases h:c=45
  ·subst h;have e:((45:UInt8).toNat:Int)=45:=rfl;simp (disch:=try exact ac)[aO,hix,e];exact ax rfl rfl
  ·have e:¬ (c.toNat:Int)=45:=fun g=>h (by apply UInt8.toNat.inj;simpa using (by omega:c.toNat=45))
   have e1:rdT (c::t)=c::t:=by simp [rdT,h]
   have e2:rdN (c::t)=false:=by simp [rdN,h]
   rw [e1,e2];simp (disch:=try exact ac)[aO,hix,e];exact ax rfl rfl
theorem FO (l:List UInt8) (hl:l.length<1000000000) (k:KL):∀ (q p:List UInt8),p++q=l->(q.all mY=true->k (.exit 0) [] [])->(q.all mY=false->k .ret [B false] [])->lp (eT (CX Y) (lst u8 l) (I l.length)) [] [] [I p.length] [] k
 | []=>by
  intro p hp h0 h1;simp at hp;subst hp;refine am ?_;simp (disch:=try exact ac)[eT];exact h0 rfl
 | c::q=>by
  intro p hp h0 h1;have hpl:p.length<l.length:=by subst hp;simp
  have hc:nth 0 l p.length=c:=by subst hp;simp
  have e1:=fun h:Hp=>ci u8 l h (k:=.i64) (i:=(p.length:Int)) aa aa
  have e2:=fun h:Hp=>cU u8 0 l h (j:=p.length) hpl
  rw [hc] at e2;simp only [Int.toNat_natCast] at e1;have ih:=FO l hl k q (p++[c]) (by simpa using hp);refine am ?_;by_cases g1:(c.toNat:Int)<48
  ·have g3:mY c=false:=by rw [Bool.eq_false_iff];intro h;rw [jg] at h;omega
   simp (disch:=try exact ac)[eT,e1,e2,u8,g1];exact h1 (by simp [g3])
  ·by_cases g2:(57:Int)<c.toNat
   ·have g3:mY c=false:=by rw [Bool.eq_false_iff];intro h;rw [jg] at h;omega
    simp (disch:=try exact ac)[eT,e1,e2,u8,g1,g2];exact h1 (by simp [g3])
   ·have g3:mY c=true:=by rw [jg];omega
    have:=ih (fun h=>h0 (by simp [g3];simpa using h)) (fun h=>h1 (by simp only [List.all_cons,h,Wa]));simp (disch:=try exact ac)[eT,e1,e2,u8,g1,g2];simpa using this
theorem UL (l:List UInt8) (hl:l.length<1000000000):CP Y F.gJ [S l] (B (pj l)):=by
 refine vZ ?_;unfold gJ
 show cvB (S l) _ _
 rw [VD];have lL:k8 (S l)=some (I l.length):=rfl;simp (disch:=try exact ac)[];refine lo (FO l hl _ l [] rfl (fun e=>?_) (fun e=>?_))
 ·simp only [ji];cases l with
  | nil=>
   simp (disch:=try exact ac)[lL];exact ip (by simp [pj])
  | cons c t=>
   have hix:ixS (S (c::t)) (.d (.int .i64 0))=some (.d (.int .u8 c.toNat)):=rfl;cases t with
   | nil=>
    simp (disch:=try exact ac)[lL];exact ip (by simp [pj] at e ⊢;exact e)
   | cons d t=>
    obtain ⟨N,hN⟩:∃ N,(c::d::t).length=N:=⟨_,rfl⟩;have hN2:2<=N:=by rw [<- hN];simp only [List.length_cons];omega
    rw [hN] at lL;have g2:(1:Int)<(N:Int):=aa;have g3:¬ (N:Int)=1:=aa;by_cases h:c=48
    ·subst h;have e48:((48:UInt8).toNat:Int)=48:=rfl;simp (disch:=try exact ac)[lL,g2,g3,hix,e48];exact ip (by simp [pj])
    ·have e48:¬ (c.toNat:Int)=48:=fun g=>h (by apply UInt8.toNat.inj;simpa using (by omega:c.toNat=48))
     simp (disch:=try exact ac)[lL,g2,g3,hix,e48]
     exact ip (by
      have:pj (c::d::t)=true:=by simp only [pj,e];simp [h]
      exact this.symm)
 ·simp only [u9,yi];exact ip (by simp only [pj,e,Wa,Bool.false_and])
theorem Pd (l:List UInt8) (hl:l.length<1000000000):CP Y F.jv [S l] (I (if pj l=true∧l.length<=400 then 0 else 2)):=by
 refine AX ?_;have lL:k8 (S l)=some (I l.length):=rfl;obtain ⟨N,hN⟩:∃ N,l.length=N:=⟨_,rfl⟩;rw [hN] at lL ⊢;simp (disch:=try exact ac)[jv];refine cd (UL l hl) ?_;cases hc:pj l with
 | false=>
  simp (disch:=try exact ac)[] <;> exact bX ag
 | true=>
  by_cases h:(400:Int)<N
  ·simp (disch:=try exact ac)[lL,h] <;> exact bX (by rw [if_neg aa])
  ·have h2:true=true∧N<=400:=⟨rfl,aa⟩;simp (disch:=try exact ac)[lL,h] <;> exact bX (by rw [if_pos h2.2])
theorem Ot (s:List UInt8):(rd s).isSome=(!(rdN s && decide (rdT s=[48])) && (pj (rdT s) && decide ((rdT s).length<=400))):=by
 unfold rd rdS rdN rdT;by_cases h45:s.headD 0=45
 ·simp only [h45,if_true];obtain ⟨t,ht⟩:∃ t,s.tail=t:=⟨_,rfl⟩;rw [ht];by_cases hl:t.length<=400
  ·by_cases h48:t=[48]
   ·simp [h48]
   ·cases hc:pj t <;> simp [hl,h48]
  ·simp [hl]
 ·simp only [h45,if_false];by_cases hl:s.length<=400
  ·cases hc:pj s <;> simp [hl]
  ·simp [hl]
theorem FJ (s:List UInt8) (hs:s.length<1000000000):CP Y F.k9 [S s] (I (if (rd s).isSome then 0 else 2)):=by
 refine D4 ?_
 have hT:(rdT s).length<1000000000:=by
  unfold rdT;split
  ·have:s.tail.length=s.length-1:=List.length_tail;omega
  ·exact hs
 rw [Ot];simp (disch:=try exact ac)[k9];refine cd (uF s) ?_;have hck:=Pd (rdT s) hT;obtain ⟨t,ht⟩:∃ t,rdT s=t:=⟨_,rfl⟩;rw [ht] at hck ⊢;obtain ⟨c4,hc4⟩:∃ c4,(pj t && decide (t.length<=400))=c4:=⟨_,rfl⟩
 have hck2:CP Y F.jv [S t] (I (if c4=true then 0 else 2)):=by
  have:(if pj t=true∧t.length<=400 then (0:Int) else 2)=if c4=true then 0 else 2:=by
   rw [<- hc4];by_cases h:pj t=true∧t.length<=400
   ·rw [if_pos h];simp [h]
   ·rw [if_neg h];rw [if_neg (by simpa using h)]
  rw [<- this];exact hck
 rw [hc4];cases hn:rdN s with
 | true=>
  by_cases h3:t=[48]
  ·simp (disch:=try exact ac)[h3] <;> exact bX ag
  ·simp (disch:=try exact ac)[h3];refine cd hck2 ?_;cases c4 with
   | true=>simp (disch:=try exact ac)[h3] <;> exact bX (by simp [h3])
   | false=>simp (disch:=try exact ac)[h3] <;> exact bX (by simp [h3])
 | false=>
  simp (disch:=try exact ac)[];refine cd hck2 ?_;cases c4 with
  | true=>simp (disch:=try exact ac)[] <;> exact bX ag
  | false=>simp (disch:=try exact ac)[] <;> exact bX ag
theorem sO (z:Int):rdT (itoa z)=ah z.natAbs:=by
 unfold itoa rdT;split
 ·simp
 ·rw [if_neg (pd _)]
theorem HD (z:Int):CP Y F.iA [S (itoa z)] (S (ah z.natAbs)):=by
 refine zO ?_;have:=uF (itoa z);rw [sO] at this;simp (disch:=try exact ac)[iA];refine cd this ?_;simp (disch:=try exact ac)[] <;> exact d8 rfl
def sgn (z:Int):Int:=if z=0 then 0 else if z<0 then -1 else 1
theorem kr (z:Int):CP Y F.bB [S (itoa z)] (I (sgn z)):=by
 refine FX ?_;by_cases h0:z=0
 ·subst h0;have e:itoa 0=[48]:=eO;rw [e];simp (disch:=try exact ac)[bB] <;> exact bX rfl
 ·have hne:¬ itoa z=[48]:=by
   intro e;have h1:=IU z;have h2:=IU 0;rw [show itoa 0=[48] from eO,<- e,h1] at h2;exact h0 (Option.some.inj h2)
  by_cases hn:z<0
  ·have e:itoa z=45::ah z.natAbs:=by unfold itoa;rw [if_pos hn]
   have hix:ixS (S (itoa z)) (.d (.int .i64 0))=some (.d (.int .u8 45)):=by rw [e];rfl
   simp (disch:=try exact ac)[bB,hne,hix] <;> exact bX (by simp [sgn,h0,hn])
  ·have e:itoa z=ah z.natAbs:=by unfold itoa;rw [if_neg hn]
   obtain ⟨c,t,hct⟩:∃ c t,ah z.natAbs=c::t:=by
    cases h:ah z.natAbs with
    | nil=>exact absurd h (sQ _)
    | cons c t=>exact ⟨c,t,rfl⟩
   have hhd:=pd z.natAbs;rw [hct] at hhd;have hix:ixS (S (itoa z)) (.d (.int .i64 0))=some (.d (.int .u8 c.toNat)):=by rw [e,hct];rfl
   have hc:¬ (c.toNat:Int)=45:=fun g=>hhd (by apply UInt8.toNat.inj;simpa using (by omega:c.toNat=45))
   simp (disch:=try exact ac)[bB,hne,hix,hc] <;> exact bX (by simp [sgn,h0,hn])
theorem Nc {z w:Int} (hz:ndg z.natAbs<1000000) (hw:ndg w.natAbs<1000000):CP Y F.m8 [S (itoa z),S (itoa w)] (S (ah (Nat.gcd z.natAbs w.natAbs))):=by
 refine HY ?_;have l1:=CL z.natAbs;have l2:=CL w.natAbs;have gg:=Nf hz hw;simp (disch:=try exact ac)[m8];refine cd (HD z) ?_;simp (disch:=try exact ac)[];refine cd (HD w) ?_;simp (disch:=try exact ac)[];by_cases h1:ndg z.natAbs<=18
 ·rw [if_pos h1] at l1;refine cd l1 ?_;simp (disch:=try exact ac)[];by_cases h2:ndg w.natAbs<=18
  ·rw [if_pos h2] at l2;refine aZ ?_;simp (disch:=try exact ac)[];refine cd l2 ?_;have b1:z.natAbs<1000000000000000000:=by have:=cT z.natAbs;have:=Z2 (n:=10) ae h1;omega
   have b2:w.natAbs<1000000000000000000:=by have:=cT w.natAbs;have:=Z2 (n:=10) ae h2;omega
   have gi:=Ug b1 b2
   have gb:Nat.gcd z.natAbs w.natAbs<9223372036854775808:=by
    rcases Ze w.natAbs with h | h
    ·rw [h,Nat.gcd_zero_right];omega
    ·have:=Nat.gcd_le_right z.natAbs h;omega
   generalize Nat.gcd z.natAbs w.natAbs=G at *;generalize z.natAbs=a at *;generalize w.natAbs=b at *;simp (disch:=try exact ac)[];refine cd gi ?_;simp (disch:=try exact ac)[];refine cd (Lk gb) ?_;exact d8 rfl
  ·rw [if_neg h2] at l2;refine aZ ?_;simp (disch:=try exact ac)[];refine cd l2 ?_;simp (disch:=try exact ac)[];refine cd gg ?_;exact d8 rfl
 ·rw [if_neg h1] at l1;refine cd l1 ?_;simp (disch:=try exact ac)[];refine cd (u:=.mk) gg ?_;exact d8 rfl
theorem MD {s:List UInt8} {z:Int} (h:rd s=some z):s=itoa z∧ndg z.natAbs<1000000:=by
 have hb:=Qw h;unfold rd at h;split at h
 ·exact ⟨Qx h,by have:=bf hb ae;omega⟩
 ·cases h
theorem Lc (a b:List UInt8):(rdF a b).isSome=match rd a,rd b with
  | some n,some d=>decide (0<d∧Nat.gcd n.natAbs d.natAbs=1)
  | _,_=>false:=by
 unfold rdF;cases rd a <;> cases rd b <;> simp
 split <;> simp_all
theorem FK (a b:List UInt8) (ha:a.length<1000000000) (hb:b.length<1000000000):CP Y F.gA [.agg [S a,S b]] (I (if (rdF a b).isSome then 0 else 2)):=by
 refine zn ?_;have ca:=FJ a ha;have cb:=FJ b hb;rw [Lc];simp (disch:=try exact ac)[gA];refine cd ca ?_;cases hra:rd a with
 | none=>
  simp (disch:=try exact ac)[];refine aZ ?_;simp (disch:=try exact ac)[] <;> exact bX rfl
 | some z=>
  cases hrb:rd b with
  | none=>
   rw [hrb] at cb;simp (disch:=try exact ac)[];refine aZ ?_;simp (disch:=try exact ac)[];refine cd cb ?_;simp (disch:=try exact ac)[] <;> exact bX rfl
  | some w=>
   rw [hrb] at cb;obtain ⟨ea,na⟩:=MD hra;obtain ⟨eb,nb⟩:=MD hrb;subst ea;subst eb;have sg:=kr w;have gg:=Nc na nb;simp (disch:=try exact ac)[];refine aZ ?_;simp (disch:=try exact ac)[];refine cd cb ?_;simp (disch:=try exact ac)[];refine cd sg ?_;by_cases hw:0<w
   ·have hs:¬ sgn w<=0:=by unfold sgn;rw [if_neg aa,if_neg aa];decide
    simp (disch:=try exact ac)[hs];refine aZ ?_;simp (disch:=try exact ac)[];refine cd gg ?_;by_cases hg:Nat.gcd z.natAbs w.natAbs=1
    ·have e1:ah 1=[49]:=by rw [ah,show ndg 1=1 by unfold ndg;simp];rfl
     rw [show ah (Nat.gcd z.natAbs w.natAbs)=[49] by rw [hg,e1]];simp (disch:=try exact ac)[] <;> exact bX (by simp [hw];exact hg)
    ·have e1:¬ ah (Nat.gcd z.natAbs w.natAbs)=[49]:=by
      intro e;have:=congrArg (d9 0) e;rw [dt] at this;exact hg this
     simp (disch:=try exact ac)[e1] <;> exact bX (by simp [hw,hg])
   ·have hs:sgn w<=0:=by unfold sgn;split;decide;rw [if_pos aa];decide
    simp (disch:=try exact ac)[hs];refine aZ ?_;simp (disch:=try exact ac)[hs] <;> exact bX (by simp [hw])
def MK (n:Nat):Nat->Nat->Bool
 | 0,_=>true
 | k+1,d=>if n % d=0 then false else MK n k (d+1)
def wJ (n:Int):Bool:=decide (2<=n) && decide (n<=97) && MK n.toNat (n.toNat-2) 2
def tv (s:List UInt8):Bool:=decide ((rdT s).length<=30)
abbrev Tx:=List UInt8 × List UInt8
def aV (x:Tx):List D:=[.str x.1,.str x.2]
theorem aW (x:Tx):(aV x).length=2:=rfl
def PO (n:Nat):Nat->Nat->Bool
 | 0,_=>true
 | r+1,d=>if d*d<=n then (if n % d=0 then false else PO n r (d+1)) else true
theorem VQ:∀ n:Fin 98,2<=n.val->PO n.val 10 2=wJ n.val:=aE
theorem Mp (n:Nat) (hn:n<=97) (k:KL):∀ (r d:Nat),2<=d->d+r=12->(PO n r d=true->k (.exit 0) [] [])->(PO n r d=false->k .ret [B false] []) ->
  lp (iC (CX Y) (I n)) [] [] [I d] [] k
 | 0,d,hd,hr,h0,h1=>by
  have:d=12:=aa;subst this;have g:¬ ((12:Nat):Int)*((12:Nat):Int)<=(n:Int):=aa;have g2:¬ (144:Int)<=(n:Int):=aa;refine am ?_;simp (disch:=try exact ac)[iC,g,g2];exact h0 rfl
 | r+1,d,hd,hr,h0,h1=>by
  have ih:=Mp n hn k r (d+1) aa aa;have hd12:d<=12:=aa;obtain ⟨s,hs⟩:∃ s,d*d=s:=⟨_,rfl⟩;have hsb:s<=144:=by rw [<- hs];exact Zq hd12 hd12
  have e1:(d:Int)*(d:Int)=(s:Int):=by rw [<- hs];simp
  rw [PO,hs] at h0 h1;refine am ?_;by_cases g:s<=n
  ·have g':(s:Int)<=(n:Int):=aa;rw [if_pos g] at h0 h1;have hd0:¬ ((d:Int)=0):=aa;have hd0':¬ (d=0):=aa;obtain ⟨m,hm⟩:∃ m,n % d=m:=⟨_,rfl⟩;have e2:(n:Int) % (d:Int)=(m:Int):=by rw [<- hm];simp
   rw [hm] at h0 h1;by_cases h:m=0
   ·have h':(m:Int)=0:=aa;rw [if_pos h] at h1;simp (disch:=try exact ac)[iC,e1,g',hd0,hd0',Zv,e2,h',h];exact h1 rfl
   ·have h':¬ (m:Int)=0:=aa;rw [if_neg h] at h0 h1;have:=ih h0 h1;simp (disch:=try exact ac)[iC,e1,g',hd0,hd0',Zv,e2,h',h];simpa using this
  ·have g':¬ (s:Int)<=(n:Int):=aa;rw [if_neg g] at h0;simp (disch:=try exact ac)[iC,e1,g'];exact h0 rfl
theorem JG (n:Int):CP Y F.im [I n] (B (wJ n)):=by
 refine AI ?_;by_cases h1:n<2
 ·simp (disch:=try exact ac)[im,h1] <;> exact ip (by simp [wJ];omega)
 by_cases h2:97<n
 ·simp (disch:=try exact ac)[im,h1,h2] <;> exact ip (by simp [wJ];omega)
 obtain ⟨m,rfl⟩:∃ m:Nat,n=m:=⟨n.toNat,aa⟩;have ha:=VQ ⟨m,aa⟩ ak;simp only at ha;simp (disch:=try exact ac)[im,h1,h2];refine lo (Mp m aa _ 10 2 aa rfl (fun e=>?_) (fun e=>?_))
 ·simp only [ji];exact ip (by rw [<- ha,e])
 ·simp only [u9,yi];exact ip (by rw [<- ha,e])
def Lh (prev:Option Int) (x:Int):Bool:=match prev with | some y=>decide (y<x) | none=>true
def Cu:Option Int->List Int->Int
 | _,[]=>0
 | prev,x::q=>cond (wJ x) (cond (Lh prev x) (Cu (some x) q) 6) 25
theorem MM (k:KL):∀ (q a:List Int),(a++q).length<1000000000->(Cu a.getLast? q=0->k (.exit 1) [] [])->(Cu a.getLast? q≠0->k .ret [I (Cu a.getLast? q)] []) ->
  lp (nM (CX Y) (lst di (a++q)) (lst di (a++q)) (I (a++q).length)) [] [] [I a.length] [] k
 | []=>by
  intro a hN h0 h1;refine am ?_;simp (disch:=try exact ac)[nM];exact h0 rfl
 | x::q=>by
  intro a hN h0 h1;simp at hN;have ih:=MM k q (a++[x]) ak;rw [List.getLast?_concat] at ih;refine am ?_;simp (disch:=try exact ac)[nM];refine cd (JG x) ?_;by_cases hp:wJ x=true
  ·rcases List.eq_nil_or_concat a with rfl | ⟨b,y,rfl⟩
   ·simp only [Cu,hp,List.getLast?_nil,Lh,cond_true] at h0 h1;simp (disch:=try exact ac)[hp];have:=ih h0 h1;simpa using this
   ·rw [List.concat_eq_append] at *;have hny:nth 0 (b++[y]++x::q) b.length=y:=by rw [List.append_assoc];simp
    rw [List.getLast?_concat] at h0 h1;simp only [Cu,hp,Lh,cond_true] at h0 h1;have eI:∀ h:Hp,ixV h 1 (lst di (b++[y]++x::q)) (.d (.int .i64 (b.length:Int)))=some (.dptr ((b++[y]++x::q).map di) b.length):=fun h=>G3 di _ h rfl ag
    have eL:∀ h:Hp,ld1 h (.dptr ((b++[y]++x::q).map di) b.length)=some (.d (di y)):=fun h=>by
     have:=Rq (b++[y]++x::q) h (j:=b.length) ag;rw [hny] at this;exact this
    have hA:b++[y]++[x]++q=b++[y]++x::q:=ag;have hn:(b++[y]).length=b.length+1:=ag;have hn2:(b++[y]++[x]).length=b.length+1+1:=ag;rw [hA,hn2] at ih;rw [hn] at hN ⊢;generalize b++[y]++x::q=A at *;generalize b.length=m at *;have e':((m+1:Nat):Int)-1=(m:Int):=aa;have hl0:(0:Int)<((m+1:Nat):Int):=aa;obtain ⟨m1,hm1⟩:∃ m1,m1=m+1:=⟨_,rfl⟩;rw [<- hm1] at e' hl0 ih ⊢
    by_cases hyx:y<x
    ·have g1:¬ x<=y:=aa;rw [show decide (y<x)=true by simpa using hyx] at h0 h1;simp only [cond_true] at h0 h1;have:=ih h0 h1;simp (disch:=try exact ac)[hp,e',hl0,eI,eL,g1];simpa using this
    ·have g1:x<=y:=aa;rw [show decide (y<x)=false by simpa using hyx] at h1;simp only [cond_false] at h1;simp (disch:=try exact ac)[hp,e',hl0,eI,eL,g1];simpa using h1
  ·have hpf:wJ x=false:=by simpa using hp
   simp only [Cu,hpf,cond_false] at h1;simp (disch:=try exact ac)[hpf];simpa using h1
def pcB (p:List Int):Int:=if p.length=0 then 13 else if 6<p.length then 4 else Cu none p
theorem dR {p:List Int} (hN:p.length<1000000000):CP Y F.cG [lst di p] (I (pcB p)):=by
 refine Ej ?_;have lp':bm (lst di p)=some (I p.length):=rfl;by_cases h1:(p.length:Int)=0
 ·have e:pcB p=13:=by unfold pcB;exact if_pos aa
  have hnil:p=[]:=Yc.1 aa;rw [e];subst hnil;simp (disch:=try exact ac)[cG] <;> exact bX rfl
 have h1':¬ p.length=0:=aa;have hne:¬ p=[]:=fun e=>h1' (by rw [e];rfl)
 by_cases h2:(6:Int)<p.length
 ·have e:pcB p=4:=by unfold pcB;exact (if_neg h1').trans (if_pos aa)
  rw [e];simp (disch:=try exact ac)[cG,lp',h1,h2,hne] <;> exact bX rfl
 have e:pcB p=Cu none p:=by unfold pcB;exact (if_neg h1').trans (if_neg aa)
 unfold cG;rw [e]
 have main:=MM (exK [((.exit 1),fun l6 h=>out (I (Cu none p)) (.d (.int .i64 0)) h),(.ret,fun l6 h=>out (I (Cu none p)) (ge l6 0) h)]) p [] (by simpa using hN) (fun g=>by
  simp only [List.getLast?_nil] at g;simp only [ji];exact bX g.symm) (fun g=>by
  simp only [List.getLast?_nil] at g ⊢;simp only [u9,yi];exact bX rfl)
 simp (disch:=try exact ac)[lp',h1,h2,hne];exact main
theorem FC {a b:Nat} (ha:ndg a<1000000) (hb:ndg b<1000000):CP Y F.jk [S (ah a),S (ah b)] (S (ah (a*b))):=by
 refine Ez ?_;have la:=kE a;have lb:=kE b;have bo:=BF a b;by_cases h18:(ndg a:Int)+(ndg b:Int)<=18
 ·rw [if_pos ⟨aa,aa⟩] at bo
  have hm:a*b<1000000000000000000:=by
   have h1:=cT a;have h2:=cT b;have h3:a*b<10 ^ ndg a*10 ^ ndg b:=Ym h1 h2;rw [<- Yy] at h3;have h4:10 ^ (ndg a+ndg b)<=10 ^ 18:=Z2 ae aa;exact Z0 h3 h4
  obtain ⟨m,hmm⟩:∃ m,a*b=m:=⟨_,rfl⟩;have e1:(a:Int)*(b:Int)=(m:Int):=by rw [<- hmm];simp
  rw [hmm] at hm ⊢;simp (disch:=try exact ac)[jk,la,lb,h18];refine cd bo ?_;simp (disch:=try exact ac)[e1];refine cd (za (n:=m) aa) ?_;exact d8 rfl
 ·obtain ⟨ca,hca⟩:∃ ca,ca=ndg a / 9+1:=⟨_,rfl⟩;obtain ⟨cb,hcb⟩:∃ cb,cb=ndg b / 9+1:=⟨_,rfl⟩;have ltA:a<Z ^ ca:=Z0 (cT a) (by rw [yF];exact Z2 ae aa);have ltB:b<Z ^ cb:=Z0 (cT b) (by rw [yF];exact Z2 ae aa)
  have cA:=rU (h:=[(0,.none),(0,.none),(0,.none)]) rfl (n:=a) aa hca;have lA:(bh ca a).length=ca:=cI ..;have lB:(bh cb b).length=cb:=cI ..;have cB:=rU (h:=[(1,.data 1 ((bh ca a).map u6) true false),(0,.none),(0,.none)]) rfl (n:=b) aa hcb;simp (disch:=try exact ac)[jk,la,lb,h18];refine mA (iP (e:=0) (b:=.none) cA rfl ?_)
  rw [List.length_map,lA];simp (disch:=try exact ac)[];refine mA (iP (e:=0) (b:=.none) cB rfl ?_);rw [List.length_map,lB];simp (disch:=try exact ac)[]
  have rA:=BJ (h:=[(1,.data 1 ((bh ca a).map u6) true false),(1,.data 1 ((bh cb b).map u6) true false),(0,.none)]) (s:=0) (e:=1) (len:=(dig Z a).length) (cap:=ca) (ex:=true) (fr:=false) rfl lA.symm (ib ltA)
  have rB:=BJ (h:=[(1,.data 1 ((bh ca a).map u6) true false),(1,.data 1 ((bh cb b).map u6) true false),(0,.none)]) (s:=1) (e:=1) (len:=(dig Z b).length) (cap:=cb) (ex:=true) (fr:=false) rfl lB.symm (ib ltB);rw [mj ltA] at rA;rw [mj ltB] at rB;have dA:=ib ltA;have dB:=ib ltB;obtain ⟨N,hN⟩:∃ N,N=(dig Z a).length+(dig Z b).length:=⟨_,rfl⟩
  have tp:=yK (h:=[(1,.data 1 ((bh ca a).map u6) true false),(1,.data 1 ((bh cb b).map u6) true false),(0,.none)]) rfl rA (cj ay a) rB (cj ay b) aa aa hN
  have ltM:a*b<Z ^ N:=by
   rw [hN,Yy];have h1:=iT bp (cj ay a);have h2:=iT bp (cj ay b);rw [gS ay] at h1 h2;exact Ym h1 h2
  rw [gS ay,gS ay] at tp;have lM:(bh N (a*b)).length=N:=cI ..;refine mA (iP (e:=0) (b:=.none) tp rfl ?_);rw [List.length_map,lM];simp (disch:=try exact ac)[]
  have sM:=uG (h:=[(1,.data 1 ((bh ca a).map u6) true false),(1,.data 1 ((bh cb b).map u6) true false),(1,.data 1 ((bh N (a*b)).map u6) true false)]) (s:=2) rfl lM.symm (len:=(dig Z (a*b)).length) (cap:=N) (ib ltM) (Z7 _);rw [mj ltM] at sM;simp only [List.set_cons_zero,List.set_cons_succ] at sM
  have sMs:ai [(1,.data 1 ((bh ca a).map u6) true false),(1,.data 1 ((bh cb b).map u6) true false),(1,.data 1 ((bh N (a*b)).map u6) true false)] [.ref 2 1 0 (dig Z (a*b)).length N N]=some ([pcs (a*b)],[(1,.data 1 ((bh ca a).map u6) true false),(1,.data 1 ((bh cb b).map u6) true false),(1,.data 1 ((bh N (a*b)).map u6) true true)]):=by
   simp only [ai,sM];rfl
  refine cdz sMs (vq (n:=a*b) (by have:=ib ltM;omega)) ?_;rw [show gW (S (ah (a*b)))=true from rfl,if_pos rfl];exact d8 rfl
theorem qe {B:Nat} {a b:List Nat} (ha:aH B a) (hb:aH B b):aH B (a++b):=by
 intro x hx;rcases Xa.1 hx with h | h
 ·exact ha x h
 ·exact hb x h
theorem om (k:Nat):aH Z (List.replicate k 0):=by
 intro x hx;rw [List.eq_of_mem_replicate hx];exact bp
theorem m9 (k:Nat) (l:List Nat):val Z (l++List.replicate k 0)=val Z l:=by
 rw [val_append]
 have:val Z (List.replicate k 0)=0:=by
  induction k with
  | zero=>rfl
  | succ k ih=>rw [List.replicate_succ];exact (congrArg (fun x=>0+Z*x) ih).trans (by rw [Nat.mul_zero])
 rw [this,Nat.mul_zero,Nat.add_zero]
theorem XV {q a b ce x B:Nat} (hB:2<=B) (h3:x+q*B*ce=a+b) (l1:a<q) (l2:b<q):x=a+b:=by
 rcases Ze ce with h | h
 ·subst h;rw [Nat.mul_zero,Nat.add_zero] at h3;exact h3
 ·have h1:=Z5 (q*B) h;have h2:=Z5 q hB;omega
theorem SS {A D:List Nat} {a b n:Nat} (hA:A.length=n) (hD:D.length=n) (sA:aH Z A) (sD:aH Z D) (va:val Z A=a) (vb:val Z D=b) :
  val Z (pJ 0 D (D.length+1) 0 0 (A++[0]))=a+b∧aH Z (pJ 0 D (D.length+1) 0 0 (A++[0]))∧(pJ 0 D (D.length+1) 0 0 (A++[0])).length=n+1:=by
 have sA0:aH Z (A++[0]):=qe sA (om 1);obtain ⟨h1,h2,ce,h3⟩:=DG (at_:=0) sD (D.length+1) 0 0 (A++[0]) ak aa sA0;have e1:D.drop (0+(D.length+1))=[]:=Y8 aa;have e2:val Z (A++[0])=a:=by rw [show ([0]:List Nat)=List.replicate 1 0 from rfl,m9,va]
 have e0:val Z ([]:List Nat)=0:=rfl;rw [e1,e2,e0] at h3;have l1:=iT bp sA;have l2:=iT bp sD;rw [va,hA] at l1;rw [vb,hD] at l2;have hl:(pJ 0 D (D.length+1) 0 0 (A++[0])).length=n+1:=by rw [h1.1];simp [hA]
 refine ⟨?_,h2,hl⟩;rw [hD] at h3 ⊢;have h2Z:=ay;generalize val Z (pJ 0 D (n+1) 0 0 (A++[0]))=x at *;simp only [Yl,vb,Nat.add_zero,Zg,Nat.pow_zero,Xs,Nat.pow_succ] at h3;exact XV h2Z h3 l1 l2
theorem TC (k:Nat):gC k [D.int .u64 0]=(List.replicate k 0).map u6:=by
 induction k with
 | zero=>rfl
 | succ k ih=>rw [List.replicate_succ,Zz,<- ih];rfl
theorem Lz (a w:Nat) (hw:w<=18):CP Y F.bw [S (ah a),I w] (if ndg a<=w then .tup [I a,B true] else .tup [I 0,B false]):=by
 refine qm ?_;have la:=kE a;by_cases h:(w:Int)<ndg a
 ·rw [if_neg aa];simp (disch:=try exact ac)[bw,la,h];exact ax rfl rfl
 ·rw [if_pos aa];have ap:=Hz (n:=a) (jB a) aa (cT a);have en:biF .eql (.d (.pl .nilIface)) (.d (.pl .nilIface))=some (.d (.bool true)):=rfl;simp (disch:=try exact ac)[bw,la,h];refine cd (args:=[S (ah a)]) ap ?_;simp (disch:=try exact ac)[en];exact ax rfl rfl
theorem qd (a:Nat):CP Y F.aO [S (ah a)] (.tup [B false,S (ah a)]):=by
 have h:=uF (ah a);have e1:rdN (ah a)=false:=decide_eq_false (pd a);have e2:rdT (ah a)=ah a:=if_neg (pd a);rw [e1,e2] at h;exact h
theorem RA (s:List UInt8):CP Y F.b9 [B false,S s] (S s):=by
 refine xa ?_;simp (disch:=try exact ac)[b9] <;> exact d8 rfl
end Go.Vm
