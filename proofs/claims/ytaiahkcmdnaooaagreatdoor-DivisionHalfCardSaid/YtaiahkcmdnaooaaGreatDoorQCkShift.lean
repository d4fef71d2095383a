/- Natural numbers of the checker: shift. -/
import Derived.Test.YtaiahkcmdnaooaaGreatDoorQCkBits
import Derived.Test.YtaiahkcmdnaooaaGreatDoorQCkForm
import Derived.Test.YtaiahkcmdnaooaaGreatDoorQDcY
import Derived.Test.YtaiahkcmdnaooaaGreatDoorQStr
import Derived.Test.YtaiahkcmdnaooaaGreatDoorQT
import Derived.Test.YtaiahkcmdnaooaaGreatDoorQWalk
set_option linter.unusedVariables false
set_option linter.unusedSimpArgs false
namespace Go.Vm
open Go Go.Am Go.Big
def shH (o:List Nat):Hp:=[(1,.data 1 (o.map u32) false false),(0,.none)]
@[simp] theorem ZZ (o:List Nat):List.length (shH o)=2:=id rfl
def slH (o:List Nat):Hp:=[(0,.none),(1,.data 1 (o.map u32) true false)]
@[simp] theorem ZT (o:List Nat):List.length (slH o)=2:=id rfl
def rdT (s:List UInt8):List UInt8:=if s.headD 0=45 then s.tail else s
def rdN (s:List UInt8):Bool:=decide (s.headD 0=45)
def rd (s:List UInt8):Option Int:=if (rdT s).length<=400 then rdS s else none
theorem T6 (s:List UInt8):rd s=if (rdT s).length<=400∧rdT s≠[]∧¬ ((rdT s).headD 0=48∧(1<(rdT s).length∨rdN s=true))∧(rdT s).all m6=true then some (if rdN s=true then -(eE 0 (rdT s):Int) else (eE 0 (rdT s):Int)) else none:=by
 unfold rd rdS
 have hcan:∀ t:List UInt8,oc t=true↔t≠[]∧t.all m6=true∧¬ (1<t.length∧t.headD 0=48):=fun t=>by
  simp [oc,and_assoc];intro _ _;constructor
  ·rintro (h | h) g
   ·omega
   ·exact h
  ·intro h;by_cases g:1<t.length
   ·exact .inr (h g)
   ·exact .inl aa
 by_cases h:s.headD 0=45
 ·have e1:rdT s=s.tail:=by unfold rdT;rw [if_pos h]
  have e2:rdN s=true:=by unfold rdN;simpa using h
  rw [e1,e2,if_pos h];generalize s.tail=t;by_cases h1:t.length<=400
  ·simp only [h1,if_true,true_and,hcan];by_cases h2:t≠[]∧¬ (t.headD 0=48∧(1<t.length∨True))∧t.all m6=true
   ·rw [if_pos h2,if_pos];obtain ⟨a,b,c⟩:=h2;refine ⟨⟨a,c,fun x=>b ⟨x.2,.inr trivial⟩⟩,fun x=>b ⟨by rw [x];rfl,.inr trivial⟩⟩
   ·rw [if_neg h2,if_neg];rintro ⟨⟨a,b,c⟩,d⟩;refine h2 ⟨a,fun x=>?_,b⟩;by_cases g:1<t.length
    ·exact c ⟨g,x.1⟩
    ·apply d;cases t with
     | nil=>exact absurd rfl a
     | cons y t=>
      cases t with
      | nil=>have:=x.1;simp at this;rw [this]
      | cons z t=>simp at g
  ·simp [h1]
 ·have e1:rdT s=s:=by unfold rdT;rw [if_neg h]
  have e2:rdN s=false:=by unfold rdN;simpa using h
  rw [e1,e2,if_neg h];by_cases h1:s.length<=400
  ·simp only [h1,if_true,true_and,hcan];by_cases h2:s≠[]∧s.all m6=true∧¬ (1<s.length∧s.headD 0=48)
   ·rw [if_pos h2,if_pos]
    ·simp
    ·exact ⟨h2.1,fun x=>h2.2.2 ⟨by simpa using x.2,x.1⟩,h2.2.1⟩
   ·rw [if_neg h2,if_neg];rintro ⟨a,b,c⟩;exact h2 ⟨a,c,fun x=>b ⟨x.2,.inl x.1⟩⟩
  ·simp [h1]
@[simp] theorem aag (n:Nat):okV (nat n)=true:=id rfl
theorem O4 {s:List UInt8} {z:Int} (h:rd s=some z):z.natAbs<10 ^ 400:=by
 rw [T6] at h;split at h
 ·rename_i hc;simp only [Z9] at h;have hi:=qV (rdT s) 0 hc.2.2.2;have:eE 0 (rdT s)<10 ^ 400:=Z0 hi (by set_option exponentiation.threshold 1000 in rw [Zh,Xz];exact Z2 ae hc.1)
  have hz:z.natAbs=eE 0 (rdT s):=by
   rw [<- h];split <;> simp
  rw [hz];exact this
 ·cases h
def rdF (a b:List UInt8):Option (Int × Nat):=match rd a,rd b with
 | some n,some d=>if 0<d∧Nat.gcd n.natAbs d.natAbs=1 then some (n,d.natAbs) else none
 | _,_=>none
theorem dt {a b:Nat} (h:a<=b):ndg a<=ndg b:=bb (Zb h (cx b)) (jC b)
theorem Nk (k:KL):∀ (b a:Nat),ndg a<1000000->ndg b<1000000->k (.exit 0) [S (ah (Nat.gcd a b))] []->lp (mY (CX Y)) [] [] [S (ah a),S (ah b)] [] k:=by
 intro b
 induction b using Nat.strongRecOn with
 | _ b ih=>
  intro a ha hb hk;by_cases h0:b=0
  ·subst h0;rw [Nat.gcd_zero_right] at hk;refine av ?_;rw [d9];simp (disch:=try exact ac)[mY];exact hk
  ·have hbp:0<b:=aa
   have hne:¬ ah b=[48]:=by
    rw [<- d9];intro e;have:=congrArg (eE 0) e;rw [dC,dC] at this;omega
   have hm:=Yw a hbp
   have hk2:=ih (a % b) hm b hb (Zb (dt (V8 hm)) hb) (by
    rw [V4 b,<- Nat.gcd_rec,V4 b];exact hk)
   refine av ?_;simp (disch:=try exact ac)[mY,hne];refine cd (ya hbp ha hb) ?_;simp (disch:=try exact ac)[];exact hk2
theorem LG {a b:Nat} (ha:ndg a<1000000) (hb:ndg b<1000000):CP Y F.kS [S (ah a),S (ah b)] (S (ah (Nat.gcd a b))):=by
 refine Db ?_;simp (disch:=try exact ac)[kS];refine lo (Nk _ b a ha hb ?_);simp (disch:=try exact ac)[];exact dP rfl
theorem Nj (k:KL):∀ (b a:Nat),a<1000000000000000000->b<1000000000000000000->k (.exit 0) [I (Nat.gcd a b:Nat)] []->lp (oE (CX Y)) [] [] [I a,I b] [] k:=by
 intro b
 induction b using Nat.strongRecOn with
 | _ b ih=>
  intro a ha hb hk;by_cases h0:(b:Int)=0
  ·have:b=0:=aa;subst this;rw [Nat.gcd_zero_right] at hk;refine av ?_;simp (disch:=try exact ac)[oE];exact hk
  ·have hbp:0<b:=aa;have hm:=Yw a hbp
   have hk2:=ih (a % b) hm b hb aa (by
    rw [V4 b,<- Nat.gcd_rec,V4 b];exact hk)
   have h0':¬ b=0:=aa;have e2:(a:Int) % (b:Int)=((a % b:Nat):Int):=af;obtain ⟨r,hr⟩:∃ r,a % b=r:=⟨_,rfl⟩;rw [hr] at hk2 e2;refine av ?_;simp (disch:=try exact ac)[oE,h0,h0',Zt,e2];exact hk2
theorem SR {a b:Nat} (ha:a<1000000000000000000) (hb:b<1000000000000000000):CP Y F.oX [I a,I b] (I (Nat.gcd a b:Nat)):=by
 refine Gr ?_;simp (disch:=try exact ac)[oX];refine lo (Nj _ b a ha hb ?_);simp only [iN];exact bU rfl
theorem JP {n:Nat} (h:n<9223372036854775808):CP Y F.dG [I n] (S (ah n)):=by
 refine Av ?_;simp (disch:=try exact ac)[dG];have e:itoa (n:Int)=ah n:=by unfold itoa;rw [if_neg aa];rfl
 refine cd (Ac (z:=n) aa aa) ?_;rw [e]
 try simp (disch:=try exact ac)[]
 exact dP rfl
theorem Bt (a:Nat):CP Y F.bm [S (ah a),I 18] (if ndg a<=18 then .tup [I a,B true] else .tup [I 0,B false]):=by
 refine pi ?_;have la:=jY a;by_cases h:18<ndg a
 ·rw [if_neg aa];simp (disch:=try exact ac)[bm,la,h];exact ax rfl rfl
 ·rw [if_pos aa];have ap:=Gd (n:=a) (jC a) aa (cx a);have en:biF .eql (.d (.pl .nilIface)) (.d (.pl .nilIface))=some (.d (.bool true)):=rfl;simp (disch:=try exact ac)[bm,la,h];refine cd (args:=[S (ah a)]) ap ?_;simp (disch:=try exact ac)[en];exact ax rfl rfl
theorem tF (s:List UInt8):CP Y F.aO [S s] (.tup [B (rdN s),S (rdT s)]):=by
 refine Cs ?_;cases s with
 | nil=>
  simp (disch:=try exact ac)[aO];exact ax rfl rfl
 | cons c t=>
  have hix:ixS (S (c::t)) (.d (.int .i64 0))=some (.d (.int .u8 c.toNat)):=rfl;by_cases h:c=45
  ·subst h;have e:((45:UInt8).toNat:Int)=45:=rfl;simp (disch:=try exact ac)[aO,hix,e];exact ax rfl rfl
  ·have e:¬ (c.toNat:Int)=45:=fun g=>h (by apply UInt8.toNat.inj;simpa using (by omega:c.toNat=45))
   have e1:rdT (c::t)=c::t:=by simp [rdT,h]
   have e2:rdN (c::t)=false:=by simp [rdN,h]
   rw [e1,e2];simp (disch:=try exact ac)[aO,hix,e];exact ax rfl rfl
theorem Ep (l:List UInt8) (hl:l.length<1000000000) (k:KL):∀ (q p:List UInt8),p++q=l->(q.all m6=true->k (.exit 0) [] [])->(q.all m6=false->k .ret [B false] [])->lp (ek (CX Y) (lst u8 l) (I l.length)) [] [] [I p.length] [] k
 | []=>by
  intro p hp h0 h1;simp at hp;subst hp;refine av ?_;simp (disch:=try exact ac)[ek];exact h0 rfl
 | c::q=>by
  intro p hp h0 h1;have hpl:p.length<l.length:=by subst hp;simp
  have hc:nth 0 l p.length=c:=by subst hp;simp
  have e1:=fun h:Hp=>cC u8 l h (k:=.i64) (i:=(p.length:Int)) aa aa
  have e2:=fun h:Hp=>dy u8 0 l h (j:=p.length) hpl
  rw [hc] at e2;simp only [Int.toNat_natCast] at e1;have ih:=Ep l hl k q (p++[c]) (by simpa using hp);refine av ?_;by_cases g1:(c.toNat:Int)<48
  ·have g3:m6 c=false:=by rw [Bool.eq_false_iff];intro h;rw [jP] at h;omega
   simp (disch:=try exact ac)[ek,e1,e2,u8,g1];exact h1 (by simp [g3])
  ·by_cases g2:(57:Int)<c.toNat
   ·have g3:m6 c=false:=by rw [Bool.eq_false_iff];intro h;rw [jP] at h;omega
    simp (disch:=try exact ac)[ek,e1,e2,u8,g1,g2];exact h1 (by simp [g3])
   ·have g3:m6 c=true:=by rw [jP];omega
    have:=ih (fun h=>h0 (by simp [g3];simpa using h)) (fun h=>h1 (by simp only [List.all_cons,h,V7]));simp (disch:=try exact ac)[ek,e1,e2,u8,g1,g2];simpa using this
theorem Tu (l:List UInt8) (hl:l.length<1000000000):CP Y F.gj [S l] (B (oc l)):=by
 refine uW ?_;unfold gj
 show cvB (S l) _ _
 rw [Uq];have lL:lI (S l)=some (I l.length):=rfl;simp (disch:=try exact ac)[];refine lo (Ep l hl _ l [] rfl (fun e=>?_) (fun e=>?_))
 ·simp only [iN];cases l with
  | nil=>
   simp (disch:=try exact ac)[lL];exact iJ (by simp [oc])
  | cons c t=>
   have hix:ixS (S (c::t)) (.d (.int .i64 0))=some (.d (.int .u8 c.toNat)):=rfl;cases t with
   | nil=>
    simp (disch:=try exact ac)[lL];exact iJ (by simp [oc] at e ⊢;exact e)
   | cons d t=>
    obtain ⟨N,hN⟩:∃ N,(c::d::t).length=N:=⟨_,rfl⟩;have hN2:2<=N:=by rw [<- hN];simp only [List.length_cons];omega
    rw [hN] at lL;have g2:(1:Int)<(N:Int):=aa;have g3:¬ (N:Int)=1:=aa;by_cases h:c=48
    ·subst h;have e48:((48:UInt8).toNat:Int)=48:=rfl;simp (disch:=try exact ac)[lL,g2,g3,hix,e48];exact iJ (by simp [oc])
    ·have e48:¬ (c.toNat:Int)=48:=fun g=>h (by apply UInt8.toNat.inj;simpa using (by omega:c.toNat=48))
     simp (disch:=try exact ac)[lL,g2,g3,hix,e48]
     exact iJ (by
      have:oc (c::d::t)=true:=by simp only [oc,e];simp [h]
      exact this.symm)
 ·simp only [t7,w7];exact iJ (by simp only [oc,e,V7,Bool.false_and])
theorem NE (l:List UInt8) (hl:l.length<1000000000):CP Y F.iX [S l] (I (if oc l=true∧l.length<=400 then 0 else 2)):=by
 refine zF ?_;have lL:lI (S l)=some (I l.length):=rfl;obtain ⟨N,hN⟩:∃ N,l.length=N:=⟨_,rfl⟩;rw [hN] at lL ⊢;simp (disch:=try exact ac)[iX];refine cd (Tu l hl) ?_;cases hc:oc l with
 | false=>
  simp (disch:=try exact ac)[] <;> exact bU af
 | true=>
  by_cases h:(400:Int)<N
  ·simp (disch:=try exact ac)[lL,h] <;> exact bU (by rw [if_neg aa])
  ·have h2:true=true∧N<=400:=⟨rfl,aa⟩;simp (disch:=try exact ac)[lL,h] <;> exact bU (by rw [if_pos h2.2])
theorem MU (s:List UInt8):(rd s).isSome=(!(rdN s && decide (rdT s=[48])) && (oc (rdT s) && decide ((rdT s).length<=400))):=by
 unfold rd rdS rdN rdT;by_cases h45:s.headD 0=45
 ·simp only [h45,if_true];obtain ⟨t,ht⟩:∃ t,s.tail=t:=⟨_,rfl⟩;rw [ht];by_cases hl:t.length<=400
  ·by_cases h48:t=[48]
   ·simp [h48]
   ·cases hc:oc t <;> simp [hl,h48]
  ·simp [hl]
 ·simp only [h45,if_false];by_cases hl:s.length<=400
  ·cases hc:oc s <;> simp [hl]
  ·simp [hl]
theorem El (s:List UInt8) (hs:s.length<1000000000):CP Y F.kv [S s] (I (if (rd s).isSome then 0 else 2)):=by
 refine Cz ?_
 have hT:(rdT s).length<1000000000:=by
  unfold rdT;split
  ·have:s.tail.length=s.length-1:=List.length_tail;omega
  ·exact hs
 rw [MU];simp (disch:=try exact ac)[kv];refine cd (tF s) ?_;have hck:=NE (rdT s) hT;obtain ⟨t,ht⟩:∃ t,rdT s=t:=⟨_,rfl⟩;rw [ht] at hck ⊢;obtain ⟨c4,hc4⟩:∃ c4,(oc t && decide (t.length<=400))=c4:=⟨_,rfl⟩
 have hck2:CP Y F.iX [S t] (I (if c4=true then 0 else 2)):=by
  have:(if oc t=true∧t.length<=400 then (0:Int) else 2)=if c4=true then 0 else 2:=by
   rw [<- hc4];by_cases h:oc t=true∧t.length<=400
   ·rw [if_pos h];simp [h]
   ·rw [if_neg h];rw [if_neg (by simpa using h)]
  rw [<- this];exact hck
 rw [hc4];cases hn:rdN s with
 | true=>
  by_cases h3:t=[48]
  ·simp (disch:=try exact ac)[h3] <;> exact bU af
  ·simp (disch:=try exact ac)[h3];refine cd hck2 ?_;cases c4 with
   | true=>simp (disch:=try exact ac)[h3] <;> exact bU (by simp [h3])
   | false=>simp (disch:=try exact ac)[h3] <;> exact bU (by simp [h3])
 | false=>
  simp (disch:=try exact ac)[];refine cd hck2 ?_;cases c4 with
  | true=>simp (disch:=try exact ac)[] <;> exact bU af
  | false=>simp (disch:=try exact ac)[] <;> exact bU af
theorem qR (z:Int):rdT (itoa z)=ah z.natAbs:=by
 unfold itoa rdT;split
 ·simp
 ·rw [if_neg (pK _)]
theorem Gh (z:Int):CP Y F.ib [S (itoa z)] (S (ah z.natAbs)):=by
 refine yy ?_;have:=tF (itoa z);rw [qR] at this;simp (disch:=try exact ac)[ib];refine cd this ?_;simp (disch:=try exact ac)[] <;> exact dP rfl
def sgn (z:Int):Int:=if z=0 then 0 else if z<0 then -1 else 1
theorem jN (z:Int):CP Y F.bq [S (itoa z)] (I (sgn z)):=by
 refine EC ?_;by_cases h0:z=0
 ·subst h0;have e:itoa 0=[48]:=d9;rw [e];simp (disch:=try exact ac)[bq] <;> exact bU rfl
 ·have hne:¬ itoa z=[48]:=by
   intro e;have h1:=Hq z;have h2:=Hq 0;rw [show itoa 0=[48] from d9,<- e,h1] at h2;exact h0 (Option.some.inj h2)
  by_cases hn:z<0
  ·have e:itoa z=45::ah z.natAbs:=by unfold itoa;rw [if_pos hn]
   have hix:ixS (S (itoa z)) (.d (.int .i64 0))=some (.d (.int .u8 45)):=by rw [e];rfl
   simp (disch:=try exact ac)[bq,hne,hix] <;> exact bU (by simp [sgn,h0,hn])
  ·have e:itoa z=ah z.natAbs:=by unfold itoa;rw [if_neg hn]
   obtain ⟨c,t,hct⟩:∃ c t,ah z.natAbs=c::t:=by
    cases h:ah z.natAbs with
    | nil=>exact absurd h (tX _)
    | cons c t=>exact ⟨c,t,rfl⟩
   have hhd:=pK z.natAbs;rw [hct] at hhd;have hix:ixS (S (itoa z)) (.d (.int .i64 0))=some (.d (.int .u8 c.toNat)):=by rw [e,hct];rfl
   have hc:¬ (c.toNat:Int)=45:=fun g=>hhd (by apply UInt8.toNat.inj;simpa using (by omega:c.toNat=45))
   simp (disch:=try exact ac)[bq,hne,hix,hc] <;> exact bU (by simp [sgn,h0,hn])
theorem LF {z w:Int} (hz:ndg z.natAbs<1000000) (hw:ndg w.natAbs<1000000):CP Y F.mr [S (itoa z),S (itoa w)] (S (ah (Nat.gcd z.natAbs w.natAbs))):=by
 refine GA ?_;have l1:=Bt z.natAbs;have l2:=Bt w.natAbs;have gg:=LG hz hw;simp (disch:=try exact ac)[mr];refine cd (Gh z) ?_;simp (disch:=try exact ac)[];refine cd (Gh w) ?_;simp (disch:=try exact ac)[];by_cases h1:ndg z.natAbs<=18
 ·rw [if_pos h1] at l1;refine cd l1 ?_;simp (disch:=try exact ac)[];by_cases h2:ndg w.natAbs<=18
  ·rw [if_pos h2] at l2;refine bJ ?_;simp (disch:=try exact ac)[];refine cd l2 ?_;have b1:z.natAbs<1000000000000000000:=by have:=cx z.natAbs;have:=Z2 (n:=10) ae h1;omega
   have b2:w.natAbs<1000000000000000000:=by have:=cx w.natAbs;have:=Z2 (n:=10) ae h2;omega
   have gi:=SR b1 b2
   have gb:Nat.gcd z.natAbs w.natAbs<9223372036854775808:=by
    rcases Zf w.natAbs with h | h
    ·rw [h,Nat.gcd_zero_right];omega
    ·have:=Nat.gcd_le_right z.natAbs h;omega
   generalize Nat.gcd z.natAbs w.natAbs=G at *;generalize z.natAbs=a at *;generalize w.natAbs=b at *;simp (disch:=try exact ac)[];refine cd gi ?_;simp (disch:=try exact ac)[];refine cd (JP gb) ?_;exact dP rfl
  ·rw [if_neg h2] at l2;refine bJ ?_;simp (disch:=try exact ac)[];refine cd l2 ?_;simp (disch:=try exact ac)[];refine cd gg ?_;exact dP rfl
 ·rw [if_neg h1] at l1;refine cd l1 ?_;simp (disch:=try exact ac)[];refine cd (u:=.mk) gg ?_;exact dP rfl
theorem K9 {s:List UInt8} {z:Int} (h:rd s=some z):s=itoa z∧ndg z.natAbs<1000000:=by
 have hb:=O4 h;unfold rd at h;split at h
 ·exact ⟨O5 h,by have:=bb hb ae;omega⟩
 ·cases h
theorem JH (a b:List UInt8):(rdF a b).isSome=match rd a,rd b with
  | some n,some d=>decide (0<d∧Nat.gcd n.natAbs d.natAbs=1)
  | _,_=>false:=by
 unfold rdF;cases rd a <;> cases rd b <;> simp
 split <;> simp_all
theorem Em (a b:List UInt8) (ha:a.length<1000000000) (hb:b.length<1000000000):CP Y F.fO [.agg [S a,S b]] (I (if (rdF a b).isSome then 0 else 2)):=by
 refine xX ?_;have ca:=El a ha;have cb:=El b hb;rw [JH];simp (disch:=try exact ac)[fO];refine cd ca ?_;cases hra:rd a with
 | none=>
  simp (disch:=try exact ac)[];refine bJ ?_;simp (disch:=try exact ac)[] <;> exact bU rfl
 | some z=>
  cases hrb:rd b with
  | none=>
   rw [hrb] at cb;simp (disch:=try exact ac)[];refine bJ ?_;simp (disch:=try exact ac)[];refine cd cb ?_;simp (disch:=try exact ac)[] <;> exact bU rfl
  | some w=>
   rw [hrb] at cb;obtain ⟨ea,na⟩:=K9 hra;obtain ⟨eb,nb⟩:=K9 hrb;subst ea;subst eb;have sg:=jN w;have gg:=LF na nb;simp (disch:=try exact ac)[];refine bJ ?_;simp (disch:=try exact ac)[];refine cd cb ?_;simp (disch:=try exact ac)[];refine cd sg ?_;by_cases hw:0<w
   ·have hs:¬ sgn w<=0:=by unfold sgn;rw [if_neg aa,if_neg aa];decide
    simp (disch:=try exact ac)[hs];refine bJ ?_;simp (disch:=try exact ac)[];refine cd gg ?_;by_cases hg:Nat.gcd z.natAbs w.natAbs=1
    ·have e1:ah 1=[49]:=by rw [ah,show ndg 1=1 by unfold ndg;simp];rfl
     rw [show ah (Nat.gcd z.natAbs w.natAbs)=[49] by rw [hg,e1]];simp (disch:=try exact ac)[] <;> exact bU (by simp [hw];exact hg)
    ·have e1:¬ ah (Nat.gcd z.natAbs w.natAbs)=[49]:=by
      intro e;have:=congrArg (eE 0) e;rw [dC] at this;exact hg this
     simp (disch:=try exact ac)[e1] <;> exact bU (by simp [hw,hg])
   ·have hs:sgn w<=0:=by unfold sgn;split;decide;rw [if_pos aa];decide
    simp (disch:=try exact ac)[hs];refine bJ ?_;simp (disch:=try exact ac)[hs] <;> exact bU (by simp [hw])
def Lg (n:Nat):Nat->Nat->Bool
 | 0,_=>true
 | k+1,d=>if n % d=0 then false else Lg n k (d+1)
def vw (n:Int):Bool:=decide (2<=n) && decide (n<=97) && Lg n.toNat (n.toNat-2) 2
def rK (s:List UInt8):Bool:=decide ((rdT s).length<=30)
abbrev Tx:=List UInt8 × List UInt8
def aT (x:Tx):List D:=[.str x.1,.str x.2]
theorem aS (x:Tx):(aT x).length=2:=rfl
def Og (n:Nat):Nat->Nat->Bool
 | 0,_=>true
 | r+1,d=>if d*d<=n then (if n % d=0 then false else Og n r (d+1)) else true
theorem UK:∀ n:Fin 98,2<=n.val->Og n.val 10 2=vw n.val:=aJ
theorem KU (n:Nat) (hn:n<=97) (k:KL):∀ (r d:Nat),2<=d->d+r=12->(Og n r d=true->k (.exit 0) [] [])->(Og n r d=false->k .ret [B false] []) ->
  lp (ic (CX Y) (I n)) [] [] [I d] [] k
 | 0,d,hd,hr,h0,h1=>by
  have:d=12:=aa;subst this;have g:¬ ((12:Nat):Int)*((12:Nat):Int)<=(n:Int):=aa;have g2:¬ (144:Int)<=(n:Int):=aa;refine av ?_;simp (disch:=try exact ac)[ic,g,g2];exact h0 rfl
 | r+1,d,hd,hr,h0,h1=>by
  have ih:=KU n hn k r (d+1) aa aa;have hd12:d<=12:=aa;obtain ⟨s,hs⟩:∃ s,d*d=s:=⟨_,rfl⟩;have hsb:s<=144:=by rw [<- hs];exact Zq hd12 hd12
  have e1:(d:Int)*(d:Int)=(s:Int):=by rw [<- hs];simp
  rw [Og,hs] at h0 h1;refine av ?_;by_cases g:s<=n
  ·have g':(s:Int)<=(n:Int):=aa;rw [if_pos g] at h0 h1;have hd0:¬ ((d:Int)=0):=aa;have hd0':¬ (d=0):=aa;obtain ⟨m,hm⟩:∃ m,n % d=m:=⟨_,rfl⟩;have e2:(n:Int) % (d:Int)=(m:Int):=by rw [<- hm];simp
   rw [hm] at h0 h1;by_cases h:m=0
   ·have h':(m:Int)=0:=aa;rw [if_pos h] at h1;simp (disch:=try exact ac)[ic,e1,g',hd0,hd0',Zt,e2,h',h];exact h1 rfl
   ·have h':¬ (m:Int)=0:=aa;rw [if_neg h] at h0 h1;have:=ih h0 h1;simp (disch:=try exact ac)[ic,e1,g',hd0,hd0',Zt,e2,h',h];simpa using this
  ·have g':¬ (s:Int)<=(n:Int):=aa;rw [if_neg g] at h0;simp (disch:=try exact ac)[ic,e1,g'];exact h0 rfl
theorem Ie (n:Int):CP Y F.gV [I n] (B (vw n)):=by
 refine zk ?_;by_cases h1:n<2
 ·simp (disch:=try exact ac)[gV,h1] <;> exact iJ (by simp [vw];omega)
 by_cases h2:97<n
 ·simp (disch:=try exact ac)[gV,h1,h2] <;> exact iJ (by simp [vw];omega)
 obtain ⟨m,rfl⟩:∃ m:Nat,n=m:=⟨n.toNat,aa⟩;have ha:=UK ⟨m,aa⟩ au;simp only at ha;simp (disch:=try exact ac)[gV,h1,h2];refine lo (KU m aa _ 10 2 aa rfl (fun e=>?_) (fun e=>?_))
 ·simp only [iN];exact iJ (by rw [<- ha,e])
 ·simp only [t7,w7];exact iJ (by rw [<- ha,e])
def JM (prev:Option Int) (x:Int):Bool:=match prev with | some y=>decide (y<x) | none=>true
def Bi:Option Int->List Int->Int
 | _,[]=>0
 | prev,x::q=>cond (vw x) (cond (JM prev x) (Bi (some x) q) 6) 25
theorem Li (k:KL):∀ (q a:List Int),(a++q).length<1000000000->(Bi a.getLast? q=0->k (.exit 1) [] [])->(Bi a.getLast? q≠0->k .ret [I (Bi a.getLast? q)] []) ->
  lp (mN (CX Y) (lst di (a++q)) (lst di (a++q)) (I (a++q).length)) [] [] [I a.length] [] k
 | []=>by
  intro a hN h0 h1;refine av ?_;simp (disch:=try exact ac)[mN];exact h0 rfl
 | x::q=>by
  intro a hN h0 h1;simp at hN;have ih:=Li k q (a++[x]) au;rw [List.getLast?_concat] at ih;refine av ?_;simp (disch:=try exact ac)[mN];refine cd (Ie x) ?_;by_cases hp:vw x=true
  ·rcases List.eq_nil_or_concat a with rfl | ⟨b,y,rfl⟩
   ·simp only [Bi,hp,List.getLast?_nil,JM,cond_true] at h0 h1;simp (disch:=try exact ac)[hp];have:=ih h0 h1;simpa using this
   ·rw [List.concat_eq_append] at *;have hny:nth 0 (b++[y]++x::q) b.length=y:=by rw [List.append_assoc];simp
    rw [List.getLast?_concat] at h0 h1;simp only [Bi,hp,JM,cond_true] at h0 h1;have eI:∀ h:Hp,ixV h 1 (lst di (b++[y]++x::q)) (.d (.int .i64 (b.length:Int)))=some (.dptr ((b++[y]++x::q).map di) b.length):=fun h=>J6 di _ h rfl af
    have eL:∀ h:Hp,ld1 h (.dptr ((b++[y]++x::q).map di) b.length)=some (.d (di y)):=fun h=>by
     have:=U7 (b++[y]++x::q) h (j:=b.length) af;rw [hny] at this;exact this
    have hA:b++[y]++[x]++q=b++[y]++x::q:=af;have hn:(b++[y]).length=b.length+1:=af;have hn2:(b++[y]++[x]).length=b.length+1+1:=af;rw [hA,hn2] at ih;rw [hn] at hN ⊢;generalize b++[y]++x::q=A at *;generalize b.length=m at *;have e':((m+1:Nat):Int)-1=(m:Int):=aa;have hl0:(0:Int)<((m+1:Nat):Int):=aa;obtain ⟨m1,hm1⟩:∃ m1,m1=m+1:=⟨_,rfl⟩;rw [<- hm1] at e' hl0 ih ⊢
    by_cases hyx:y<x
    ·have g1:¬ x<=y:=aa;rw [show decide (y<x)=true by simpa using hyx] at h0 h1;simp only [cond_true] at h0 h1;have:=ih h0 h1;simp (disch:=try exact ac)[hp,e',hl0,eI,eL,g1];simpa using this
    ·have g1:x<=y:=aa;rw [show decide (y<x)=false by simpa using hyx] at h1;simp only [cond_false] at h1;simp (disch:=try exact ac)[hp,e',hl0,eI,eL,g1];simpa using h1
  ·have hpf:vw x=false:=by simpa using hp
   simp only [Bi,hpf,cond_false] at h1;simp (disch:=try exact ac)[hpf];simpa using h1
def pcB (p:List Int):Int:=if p.length=0 then 13 else if 6<p.length then 4 else Bi none p
theorem gW {p:List Int} (hN:p.length<1000000000):CP Y F.dp [lst di p] (I (pcB p)):=by
 refine CN ?_;have lp':bC (lst di p)=some (I p.length):=rfl;by_cases h1:(p.length:Int)=0
 ·have e:pcB p=13:=by unfold pcB;exact if_pos aa
  have hnil:p=[]:=X8.1 aa;rw [e];subst hnil;simp (disch:=try exact ac)[dp] <;> exact bU rfl
 have h1':¬ p.length=0:=aa;have hne:¬ p=[]:=fun e=>h1' (by rw [e];rfl)
 by_cases h2:(6:Int)<p.length
 ·have e:pcB p=4:=by unfold pcB;exact (if_neg h1').trans (if_pos aa)
  rw [e];simp (disch:=try exact ac)[dp,lp',h1,h2,hne] <;> exact bU rfl
 have e:pcB p=Bi none p:=by unfold pcB;exact (if_neg h1').trans (if_neg aa)
 unfold dp;rw [e]
 have main:=Li (exK [((.exit 1),fun l6 h=>out (I (Bi none p)) (.d (.int .i64 0)) h),(.ret,fun l6 h=>out (I (Bi none p)) (ge l6 0) h)]) p [] (by simpa using hN) (fun g=>by
  simp only [List.getLast?_nil] at g;simp only [iN];exact bU g.symm) (fun g=>by
  simp only [List.getLast?_nil] at g ⊢;simp only [t7,w7];exact bU rfl)
 simp (disch:=try exact ac)[lp',h1,h2,hne];exact main
theorem Eh {a b:Nat} (ha:ndg a<1000000) (hb:ndg b<1000000):CP Y F.iP [S (ah a),S (ah b)] (S (ah (a*b))):=by
 refine C7 ?_;have la:=jY a;have lb:=jY b;have bo:=Al a b;by_cases h18:(ndg a:Int)+(ndg b:Int)<=18
 ·rw [if_pos ⟨aa,aa⟩] at bo
  have hm:a*b<1000000000000000000:=by
   have h1:=cx a;have h2:=cx b;have h3:a*b<10 ^ ndg a*10 ^ ndg b:=Yh h1 h2;rw [<- Yx] at h3;have h4:10 ^ (ndg a+ndg b)<=10 ^ 18:=Z2 ae aa;exact Z0 h3 h4
  obtain ⟨m,hmm⟩:∃ m,a*b=m:=⟨_,rfl⟩;have e1:(a:Int)*(b:Int)=(m:Int):=by rw [<- hmm];simp
  rw [hmm] at hm ⊢;simp (disch:=try exact ac)[iP,la,lb,h18];refine cd bo ?_;simp (disch:=try exact ac)[e1];refine cd (xO (n:=m) aa) ?_;exact dP rfl
 ·obtain ⟨ca,hca⟩:∃ ca,ca=ndg a / 9+1:=⟨_,rfl⟩;obtain ⟨cb,hcb⟩:∃ cb,cb=ndg b / 9+1:=⟨_,rfl⟩;have ltA:a<Z ^ ca:=Z0 (cx a) (by rw [xt];exact Z2 ae aa);have ltB:b<Z ^ cb:=Z0 (cx b) (by rw [xt];exact Z2 ae aa)
  have cA:=qy (h:=[(0,.none),(0,.none),(0,.none)]) rfl (n:=a) aa hca;have lA:(aY ca a).length=ca:=cg ..;have lB:(aY cb b).length=cb:=cg ..;have cB:=qy (h:=[(1,.data 1 ((aY ca a).map u6) true false),(0,.none),(0,.none)]) rfl (n:=b) aa hcb;simp (disch:=try exact ac)[iP,la,lb,h18];refine kh (ir (e:=0) (b:=.none) cA rfl ?_)
  rw [List.length_map,lA];simp (disch:=try exact ac)[];refine kh (ir (e:=0) (b:=.none) cB rfl ?_);rw [List.length_map,lB];simp (disch:=try exact ac)[]
  have rA:=Aq (h:=[(1,.data 1 ((aY ca a).map u6) true false),(1,.data 1 ((aY cb b).map u6) true false),(0,.none)]) (s:=0) (e:=1) (len:=(dig Z a).length) (cap:=ca) (ex:=true) (fr:=false) rfl lA.symm (gO ltA)
  have rB:=Aq (h:=[(1,.data 1 ((aY ca a).map u6) true false),(1,.data 1 ((aY cb b).map u6) true false),(0,.none)]) (s:=1) (e:=1) (len:=(dig Z b).length) (cap:=cb) (ex:=true) (fr:=false) rfl lB.symm (gO ltB);rw [lj ltA] at rA;rw [lj ltB] at rB;have dA:=gO ltA;have dB:=gO ltB;obtain ⟨N,hN⟩:∃ N,N=(dig Z a).length+(dig Z b).length:=⟨_,rfl⟩
  have tp:=xx (h:=[(1,.data 1 ((aY ca a).map u6) true false),(1,.data 1 ((aY cb b).map u6) true false),(0,.none)]) rfl rA (bX ay a) rB (bX ay b) aa aa hN
  have ltM:a*b<Z ^ N:=by
   rw [hN,Yx];have h1:=iw bf (bX ay a);have h2:=iw bf (bX ay b);rw [gz ay] at h1 h2;exact Yh h1 h2
  rw [gz ay,gz ay] at tp;have lM:(aY N (a*b)).length=N:=cg ..;refine kh (ir (e:=0) (b:=.none) tp rfl ?_);rw [List.length_map,lM];simp (disch:=try exact ac)[]
  have sM:=tG (h:=[(1,.data 1 ((aY ca a).map u6) true false),(1,.data 1 ((aY cb b).map u6) true false),(1,.data 1 ((aY N (a*b)).map u6) true false)]) (s:=2) rfl lM.symm (len:=(dig Z (a*b)).length) (cap:=N) (gO ltM) (Z7 _);rw [lj ltM] at sM;simp only [List.set_cons_zero,List.set_cons_succ] at sM
  have sMs:ai [(1,.data 1 ((aY ca a).map u6) true false),(1,.data 1 ((aY cb b).map u6) true false),(1,.data 1 ((aY N (a*b)).map u6) true false)] [.ref 2 1 0 (dig Z (a*b)).length N N]=some ([pcs (a*b)],[(1,.data 1 ((aY ca a).map u6) true false),(1,.data 1 ((aY cb b).map u6) true false),(1,.data 1 ((aY N (a*b)).map u6) true true)]):=by
   simp only [ai,sM];rfl
  refine cdz sMs (ul (n:=a*b) (by have:=gO ltM;omega)) ?_;rw [show gH (S (ah (a*b)))=true from rfl,if_pos rfl];exact dP rfl
theorem o7 {B:Nat} {a b:List Nat} (ha:aE B a) (hb:aE B b):aE B (a++b):=by
 intro x hx;rcases W4.1 hx with h | h
 ·exact ha x h
 ·exact hb x h
theorem nm (k:Nat):aE Z (List.replicate k 0):=by
 intro x hx;rw [List.eq_of_mem_replicate hx];exact bf
theorem mt (k:Nat) (l:List Nat):val Z (l++List.replicate k 0)=val Z l:=by
 rw [val_append]
 have:val Z (List.replicate k 0)=0:=by
  induction k with
  | zero=>rfl
  | succ k ih=>rw [List.replicate_succ];exact (congrArg (fun x=>0+Z*x) ih).trans (by rw [Nat.mul_zero])
 rw [this,Nat.mul_zero,Nat.add_zero]
theorem VG {q a b ce x B:Nat} (hB:2<=B) (h3:x+q*B*ce=a+b) (l1:a<q) (l2:b<q):x=a+b:=by
 rcases Zf ce with h | h
 ·subst h;rw [Nat.mul_zero,Nat.add_zero] at h3;exact h3
 ·have h1:=Z3 (q*B) h;have h2:=Z3 q hB;omega
theorem Rq {A D:List Nat} {a b n:Nat} (hA:A.length=n) (hD:D.length=n) (sA:aE Z A) (sD:aE Z D) (va:val Z A=a) (vb:val Z D=b) :
  val Z (oD 0 D (D.length+1) 0 0 (A++[0]))=a+b∧aE Z (oD 0 D (D.length+1) 0 0 (A++[0]))∧(oD 0 D (D.length+1) 0 0 (A++[0])).length=n+1:=by
 have sA0:aE Z (A++[0]):=o7 sA (nm 1);obtain ⟨h1,h2,ce,h3⟩:=Cj (at_:=0) sD (D.length+1) 0 0 (A++[0]) au aa sA0;have e1:D.drop (0+(D.length+1))=[]:=Y6 aa;have e2:val Z (A++[0])=a:=by rw [show ([0]:List Nat)=List.replicate 1 0 from rfl,mt,va]
 have e0:val Z ([]:List Nat)=0:=rfl;rw [e1,e2,e0] at h3;have l1:=iw bf sA;have l2:=iw bf sD;rw [va,hA] at l1;rw [vb,hD] at l2;have hl:(oD 0 D (D.length+1) 0 0 (A++[0])).length=n+1:=by rw [h1.1];simp [hA]
 refine ⟨?_,h2,hl⟩;rw [hD] at h3 ⊢;have h2Z:=ay;generalize val Z (oD 0 D (n+1) 0 0 (A++[0]))=x at *;simp only [Yg,vb,Nat.add_zero,Zh,Nat.pow_zero,Xz,Nat.pow_succ] at h3;exact VG h2Z h3 l1 l2
theorem Se (k:Nat):gG k [D.int .u64 0]=(List.replicate k 0).map u6:=by
 induction k with
 | zero=>rfl
 | succ k ih=>rw [List.replicate_succ,Zz,<- ih];rfl
theorem J3 (a w:Nat) (hw:w<=18):CP Y F.bm [S (ah a),I w] (if ndg a<=w then .tup [I a,B true] else .tup [I 0,B false]):=by
 refine pi ?_;have la:=jY a;by_cases h:(w:Int)<ndg a
 ·rw [if_neg aa];simp (disch:=try exact ac)[bm,la,h];exact ax rfl rfl
 ·rw [if_pos aa];have ap:=Gd (n:=a) (jC a) aa (cx a);have en:biF .eql (.d (.pl .nilIface)) (.d (.pl .nilIface))=some (.d (.bool true)):=rfl;simp (disch:=try exact ac)[bm,la,h];refine cd (args:=[S (ah a)]) ap ?_;simp (disch:=try exact ac)[en];exact ax rfl rfl
theorem o6 (a:Nat):CP Y F.aO [S (ah a)] (.tup [B false,S (ah a)]):=by
 have h:=tF (ah a);have e1:rdN (ah a)=false:=decide_eq_false (pK a);have e2:rdT (ah a)=ah a:=if_neg (pK a);rw [e1,e2] at h;exact h
theorem Qc (s:List UInt8):CP Y F.bV [B false,S s] (S s):=by
 refine vX ?_;simp (disch:=try exact ac)[bV] <;> exact dP rfl
end Go.Vm
