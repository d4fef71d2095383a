/- Natural numbers of the checker: shift. -/
import Derived.Test.YtaiahkcmdnaooaaGreatDoorQCkBits
import Derived.Test.YtaiahkcmdnaooaaGreatDoorQCkForm
import Derived.Test.YtaiahkcmdnaooaaGreatDoorQDcY
import Derived.Test.YtaiahkcmdnaooaaGreatDoorQStr
import Derived.Test.YtaiahkcmdnaooaaGreatDoorQT
import Derived.Test.YtaiahkcmdnaooaaGreatDoorQWalk
set_option linter.unusedVariables false
set_option linter.unusedSimpArgs false
namespace Go.Vm
open Go Go.Am Go.Big
def shH (o:List Nat):Hp:=[(1,.data 1 (o.map u32) false false),(0,.none)]
@[simp] theorem VF (o:List Nat):List.length (shH o)=2:=id rfl
def slH (o:List Nat):Hp:=[(0,.none),(1,.data 1 (o.map u32) true false)]
@[simp] theorem Vz (o:List Nat):List.length (slH o)=2:=id rfl
def rdT (s:List UInt8):List UInt8:=if s.headD 0=45 then s.tail else s
def rdN (s:List UInt8):Bool:=decide (s.headD 0=45)
def rd (s:List UInt8):Option Int:=if (rdT s).length<=400 then rdS s else none
theorem RP (s:List UInt8):rd s=if (rdT s).length<=400∧rdT s≠[]∧¬ ((rdT s).headD 0=48∧(1<(rdT s).length∨rdN s=true))∧(rdT s).all mC=true then some (if rdN s=true then -(dR 0 (rdT s):Int) else (dR 0 (rdT s):Int)) else none:=by
 unfold rd rdS
 have hcan:∀ t:List UInt8,mX t=true↔t≠[]∧t.all mC=true∧¬ (1<t.length∧t.headD 0=48):=fun t=>by
  simp [mX,and_assoc];intro _ _;constructor
  ·rintro (h | h) g
   ·omega
   omega
  ·intro h;by_cases g:1<t.length
   ·grind
   ·exact .inl aa
 by_cases h:s.headD 0=45
 ·have e1:rdT s=s.tail:=by unfold rdT;rw [if_pos h]
  have e2:rdN s=true:=by unfold rdN;simpa using h
  rw [e1,e2,if_pos h];generalize s.tail=t;by_cases h1:t.length<=400
  ·simp only [h1,if_true,true_and,hcan];by_cases h2:t≠[]∧¬ (t.headD 0=48∧(1<t.length∨True))∧t.all mC=true
   ·grind
   ·rw [if_neg h2,if_neg];rintro ⟨⟨a,b,c⟩,d⟩;refine h2 ⟨a,fun x=>?_,b⟩;by_cases g:1<t.length
    ·grind
    ·apply d;cases t with
     | nil=>trivial
     | cons y t=>
      grind
  grind
 ·have e1:rdT s=s:=by unfold rdT;rw [if_neg h]
  have e2:rdN s=false:=by unfold rdN;simpa using h
  grind
@[simp] theorem VM (n:Nat):okV (nat n)=true:=id rfl
theorem Ng {s:List UInt8} {z:Int} (h:rd s=some z):z.natAbs<10 ^ 400:=by
 rw [RP] at h;split at h
 ·rename_i hc;simp only [Z9] at h;have hi:=pK (rdT s) 0 hc.2.2.2;have:dR 0 (rdT s)<10 ^ 400:=Z1 hi (by set_option exponentiation.threshold 1000 in rw [Zj,Xp];exact Z4 ae hc.1)
  have hz:z.natAbs=dR 0 (rdT s):=by
   rw [<- h];split <;> simp
  rw [hz];exact this
 ·cases h
def rdF (a b:List UInt8):Option (Int × Nat):=match rd a,rd b with
 | some n,some d=>if 0<d∧Nat.gcd n.natAbs d.natAbs=1 then some (n,d.natAbs) else none
 | _,_=>none
theorem cS {a b:Nat} (h:a<=b):ndg a<=ndg b:=bi (Zf h (b6 b)) (iT b)
theorem Lx (k:KL):∀ (b a:Nat),ndg a<1000000->ndg b<1000000->k (.exit 0) [S (ah (Nat.gcd a b))] []->lp (lU (CX Y)) [] [] [S (ah a),S (ah b)] [] k:=by
 intro b
 induction b using Nat.strongRecOn with
 | _ b ih=>
  intro a ha hb hk;by_cases h0:b=0
  ·subst h0;rw [Nat.gcd_zero_right] at hk;refine ax ?_;rw [dG];simp (disch:=try exact ac)[lU];exact hk
  ·have hbp:0<b:=aa
   have hne:¬ ah b=[48]:=by
    rw [<- dG];intro e;have:=congrArg (dR 0) e;rw [cV,cV] at this;omega
   have hm:=Y3 a hbp
   have hk2:=ih (a % b) hm b hb (Zf (cS (Nat.le_of_lt hm)) hb) (by
    rw [Wp b,<- Nat.gcd_rec,Wp b];exact hk)
   refine ax ?_;simp (disch:=try exact ac)[lU,hne];refine cd (wI hbp ha hb) ?_;simp (disch:=try exact ac)[];exact hk2
theorem JZ {a b:Nat} (ha:ndg a<1000000) (hb:ndg b<1000000):CP Y F.jT [S (ah a),S (ah b)] (S (ah (Nat.gcd a b))):=by
 refine BN ?_;simp (disch:=try exact ac)[jT];refine lo (Lx _ b a ha hb ?_);simp (disch:=try exact ac)[];exact dh rfl
theorem Lw (k:KL):∀ (b a:Nat),a<1000000000000000000->b<1000000000000000000->k (.exit 0) [I (Nat.gcd a b:Nat)] []->lp (nz (CX Y)) [] [] [I a,I b] [] k:=by
 intro b
 induction b using Nat.strongRecOn with
 | _ b ih=>
  intro a ha hb hk;by_cases h0:(b:Int)=0
  ·have:b=0:=aa;subst this;rw [Nat.gcd_zero_right] at hk;refine ax ?_;simp (disch:=try exact ac)[nz];exact hk
  ·have hbp:0<b:=aa;have hm:=Y3 a hbp
   have hk2:=ih (a % b) hm b hb aa (by
    rw [Wp b,<- Nat.gcd_rec,Wp b];exact hk)
   have h0':¬ b=0:=aa;have e2:(a:Int) % (b:Int)=((a % b:Nat):Int):=af;obtain ⟨r,hr⟩:∃ r,a % b=r:=⟨_,rfl⟩;rw [hr] at hk2 e2;refine ax ?_;simp (disch:=try exact ac)[nz,h0,h0',Zt,e2];exact hk2
theorem QH {a b:Nat} (ha:a<1000000000000000000) (hb:b<1000000000000000000):CP Y F.nK [I a,I b] (I (Nat.gcd a b:Nat)):=by
 refine ES ?_;simp (disch:=try exact ac)[nK];refine lo (Lw _ b a ha hb ?_);simp only [iB];exact ci rfl
theorem H4 {n:Nat} (h:n<9223372036854775808):CP Y F.bT [I n] (S (ah n)):=by
 refine yN ?_;simp (disch:=try exact ac)[bT];have e:itoa (n:Int)=ah n:=by unfold itoa;rw [if_neg aa];rfl
 refine cd (yz (z:=n) aa aa) ?_;rw [e]
 try simp (disch:=try exact ac)[]
 exact dh rfl
theorem zO (a:Nat):CP Y F.bj [S (ah a),I 18] (if ndg a<=18 then .tup [I a,B true] else .tup [I 0,B false]):=by
 refine nR ?_;have la:=jq a;by_cases h:18<ndg a
 ·rw [if_neg aa];simp (disch:=try exact ac)[bj,la,h];exact av rfl rfl
 ·rw [if_pos aa];have ap:=EH (n:=a) (iT a) aa (b6 a);have en:biF .eql (.d (.pl .nilIface)) (.d (.pl .nilIface))=some (.d (.bool true)):=rfl;simp (disch:=try exact ac)[bj,la,h];refine cd (args:=[S (ah a)]) ap ?_;simp (disch:=try exact ac)[en];exact av rfl rfl
theorem rz (s:List UInt8):CP Y F.aN [S s] (.tup [B (rdN s),S (rdT s)]):=by
 refine A7 ?_;cases s with
 | nil=>
  simp (disch:=try exact ac)[aN];exact av rfl rfl
 | cons c t=>
  have hix:ixS (S (c::t)) (.d (.int .i64 0))=some (.d (.int .u8 c.toNat)):=rfl;by_cases h:c=45
  ·subst h;have e:((45:UInt8).toNat:Int)=45:=rfl;simp (disch:=try exact ac)[aN,hix,e];exact av rfl rfl
  ·have e:¬ (c.toNat:Int)=45:=fun g=>h (by apply UInt8.toNat.inj;simpa using (by omega:c.toNat=45))
   have e1:rdT (c::t)=c::t:=by simp [rdT,h]
   have e2:rdN (c::t)=false:=by simp [rdN,h]
   rw [e1,e2];simp (disch:=try exact ac)[aN,hix,e];exact av rfl rfl
theorem C5 (l:List UInt8) (hl:l.length<1000000000) (k:KL):∀ (q p:List UInt8),p++q=l->(q.all mC=true->k (.exit 0) [] [])->(q.all mC=false->k .ret [B false] [])->lp (dK (CX Y) (lst u8 l) (I l.length)) [] [] [I p.length] [] k
 | []=>by
  intro p hp h0 h1;simp at hp;subst hp;refine ax ?_;simp (disch:=try exact ac)[dK];exact h0 rfl
 | c::q=>by
  intro p hp h0 h1;have hpl:p.length<l.length:=by subst hp;simp
  have hc:nth 0 l p.length=c:=by subst hp;simp
  have e1:=fun h:Hp=>dP u8 l h (k:=.i64) (i:=(p.length:Int)) aa aa
  have e2:=fun h:Hp=>eZ u8 0 l h (j:=p.length) hpl
  rw [hc] at e2;simp only [Int.toNat_natCast] at e1;have ih:=C5 l hl k q (p++[c]) (by simpa using hp);refine ax ?_;by_cases g1:(c.toNat:Int)<48
  ·have g3:mC c=false:=by rw [Bool.eq_false_iff];intro h;rw [jh] at h;omega
   simp (disch:=try exact ac)[dK,e1,e2,u8,g1];exact h1 (by simp [g3])
  ·by_cases g2:(57:Int)<c.toNat
   ·have g3:mC c=false:=by rw [Bool.eq_false_iff];intro h;rw [jh] at h;omega
    simp (disch:=try exact ac)[dK,e1,e2,u8,g1,g2];exact h1 (by simp [g3])
   ·have g3:mC c=true:=by rw [jh];omega
    have:=ih (fun h=>h0 (by simp [g3];simpa using h)) (fun h=>h1 (by simp only [List.all_cons,h,Wt]));simp (disch:=try exact ac)[dK,e1,e2,u8,g1,g2];simpa using this
theorem Rb (l:List UInt8) (hl:l.length<1000000000):CP Y F.fv [S l] (B (mX l)):=by
 refine tg ?_;unfold fv
 show cvB (S l) _ _
 rw [R9];have lL:ko (S l)=some (I l.length):=rfl;simp (disch:=try exact ac)[];refine lo (C5 l hl _ l [] rfl (fun e=>?_) (fun e=>?_))
 ·simp only [iB];cases l with
  | nil=>
   simp (disch:=try exact ac)[lL];exact jg (by simp [mX])
  | cons c t=>
   have hix:ixS (S (c::t)) (.d (.int .i64 0))=some (.d (.int .u8 c.toNat)):=rfl;cases t with
   | nil=>
    simp (disch:=try exact ac)[lL];exact jg (by simp [mX] at e ⊢;exact e)
   | cons d t=>
    obtain ⟨N,hN⟩:∃ N,(c::d::t).length=N:=⟨_,rfl⟩;have hN2:2<=N:=by rw [<- hN];simp only [List.length_cons];omega
    rw [hN] at lL;have g2:(1:Int)<(N:Int):=aa;have g3:¬ (N:Int)=1:=aa;by_cases h:c=48
    ·subst h;have e48:((48:UInt8).toNat:Int)=48:=rfl;simp (disch:=try exact ac)[lL,g2,g3,hix,e48];exact jg (by simp [mX])
    ·have e48:¬ (c.toNat:Int)=48:=fun g=>h (by apply UInt8.toNat.inj;simpa using (by omega:c.toNat=48))
     simp (disch:=try exact ac)[lL,g2,g3,hix,e48]
     exact jg (by
      have:mX (c::d::t)=true:=by simp only [mX,e];simp [h]
      exact this.symm)
 ·simp only [vq,yC];exact jg (by simp only [mX,e,Wt,Ws])
theorem LX (l:List UInt8) (hl:l.length<1000000000):CP Y F.io [S l] (I (if mX l=true∧l.length<=400 then 0 else 2)):=by
 refine ya ?_;have lL:ko (S l)=some (I l.length):=rfl;obtain ⟨N,hN⟩:∃ N,l.length=N:=⟨_,rfl⟩;rw [hN] at lL ⊢;simp (disch:=try exact ac)[io];refine cd (Rb l hl) ?_;cases hc:mX l with
 | false=>
  simp (disch:=try exact ac)[] <;> exact ci af
 | true=>
  by_cases h:(400:Int)<N
  ·simp (disch:=try exact ac)[lL,h] <;> exact ci (by rw [if_neg aa])
  ·have h2:true=true∧N<=400:=⟨rfl,aa⟩;simp (disch:=try exact ac)[lL,h] <;> exact ci (by rw [if_pos h2.2])
theorem K5 (s:List UInt8):(rd s).isSome=(!(rdN s && decide (rdT s=[48])) && (mX (rdT s) && decide ((rdT s).length<=400))):=by
 unfold rd rdS rdN rdT;by_cases h45:s.headD 0=45
 ·simp only [h45,if_true];obtain ⟨t,ht⟩:∃ t,s.tail=t:=⟨_,rfl⟩;rw [ht];by_cases hl:t.length<=400
  ·by_cases h48:t=[48]
   ·simp [h48]
   ·cases hc:mX t <;> simp [hl,h48]
  ·simp [hl]
 ·simp only [h45,if_false];by_cases hl:s.length<=400
  ·cases hc:mX s <;> simp [hl]
  ·simp [hl]
theorem CW (s:List UInt8) (hs:s.length<1000000000):CP Y F.jD [S s] (I (if (rd s).isSome then 0 else 2)):=by
 refine Bg ?_
 have hT:(rdT s).length<1000000000:=by
  unfold rdT;split
  ·have:s.tail.length=s.length-1:=List.length_tail;omega
  ·exact hs
 rw [K5];simp (disch:=try exact ac)[jD];refine cd (rz s) ?_;have hck:=LX (rdT s) hT;obtain ⟨t,ht⟩:∃ t,rdT s=t:=⟨_,rfl⟩;rw [ht] at hck ⊢;obtain ⟨c4,hc4⟩:∃ c4,(mX t && decide (t.length<=400))=c4:=⟨_,rfl⟩
 have hck2:CP Y F.io [S t] (I (if c4=true then 0 else 2)):=by
  have:(if mX t=true∧t.length<=400 then (0:Int) else 2)=if c4=true then 0 else 2:=by
   rw [<- hc4];by_cases h:mX t=true∧t.length<=400
   ·rw [if_pos h];simp [h]
   ·rw [if_neg h];rw [if_neg (by simpa using h)]
  rw [<- this];exact hck
 rw [hc4];cases hn:rdN s with
 | true=>
  by_cases h3:t=[48]
  ·simp (disch:=try exact ac)[h3] <;> exact ci af
  ·simp (disch:=try exact ac)[h3];refine cd hck2 ?_;cases c4 with
   | true=>simp (disch:=try exact ac)[h3] <;> exact ci (by simp [h3])
   | false=>simp (disch:=try exact ac)[h3] <;> exact ci (by simp [h3])
 | false=>
  simp (disch:=try exact ac)[];refine cd hck2 ?_;cases c4 with
  | true=>simp (disch:=try exact ac)[] <;> exact ci af
  | false=>simp (disch:=try exact ac)[] <;> exact ci af
theorem pG (z:Int):rdT (itoa z)=ah z.natAbs:=by
 unfold itoa rdT;split
 ·simp
 ·rw [if_neg (oo _)]
theorem EL (z:Int):CP Y F.gz [S (itoa z)] (S (ah z.natAbs)):=by
 refine wY ?_;have:=rz (itoa z);rw [pG] at this;simp (disch:=try exact ac)[gz];refine cd this ?_;simp (disch:=try exact ac)[] <;> exact dh rfl
def sgn (z:Int):Int:=if z=0 then 0 else if z<0 then -1 else 1
theorem jf (z:Int):CP Y F.bp [S (itoa z)] (I (sgn z)):=by
 refine Dg ?_;by_cases h0:z=0
 ·subst h0;have e:itoa 0=[48]:=dG;rw [e];simp (disch:=try exact ac)[bp] <;> exact ci rfl
 ·have hne:¬ itoa z=[48]:=by
   intro e;have h1:=FR z;have h2:=FR 0;rw [show itoa 0=[48] from dG,<- e,h1] at h2;exact h0 (Option.some.inj h2)
  by_cases hn:z<0
  ·have e:itoa z=45::ah z.natAbs:=by unfold itoa;rw [if_pos hn]
   have hix:ixS (S (itoa z)) (.d (.int .i64 0))=some (.d (.int .u8 45)):=by rw [e];rfl
   simp (disch:=try exact ac)[bp,hne,hix] <;> exact ci (by simp [sgn,h0,hn])
  ·have e:itoa z=ah z.natAbs:=by unfold itoa;rw [if_neg hn]
   obtain ⟨c,t,hct⟩:∃ c t,ah z.natAbs=c::t:=by
    cases h:ah z.natAbs with
    | nil=>exact absurd h (rR _)
    | cons c t=>exact ⟨c,t,rfl⟩
   have hhd:=oo z.natAbs;rw [hct] at hhd;have hix:ixS (S (itoa z)) (.d (.int .i64 0))=some (.d (.int .u8 c.toNat)):=by rw [e,hct];rfl
   have hc:¬ (c.toNat:Int)=45:=fun g=>hhd (by apply UInt8.toNat.inj;simpa using (by omega:c.toNat=45))
   simp (disch:=try exact ac)[bp,hne,hix,hc] <;> exact ci (by simp [sgn,h0,hn])
theorem JY {z w:Int} (hz:ndg z.natAbs<1000000) (hw:ndg w.natAbs<1000000):CP Y F.kT [S (itoa z),S (itoa w)] (S (ah (Nat.gcd z.natAbs w.natAbs))):=by
 refine E0 ?_;have l1:=zO z.natAbs;have l2:=zO w.natAbs;have gg:=JZ hz hw;simp (disch:=try exact ac)[kT];refine cd (EL z) ?_;simp (disch:=try exact ac)[];refine cd (EL w) ?_;simp (disch:=try exact ac)[];by_cases h1:ndg z.natAbs<=18
 ·rw [if_pos h1] at l1;refine cd l1 ?_;simp (disch:=try exact ac)[];by_cases h2:ndg w.natAbs<=18
  ·rw [if_pos h2] at l2;refine aC ?_;simp (disch:=try exact ac)[];refine cd l2 ?_;have b1:z.natAbs<1000000000000000000:=by have:=b6 z.natAbs;have:=Z4 (n:=10) ae h1;omega
   have b2:w.natAbs<1000000000000000000:=by have:=b6 w.natAbs;have:=Z4 (n:=10) ae h2;omega
   have gi:=QH b1 b2
   have gb:Nat.gcd z.natAbs w.natAbs<9223372036854775808:=by
    rcases Zk w.natAbs with h | h
    ·rw [h,Nat.gcd_zero_right];omega
    ·have:=Nat.gcd_le_right z.natAbs h;omega
   generalize Nat.gcd z.natAbs w.natAbs=G at *;generalize z.natAbs=a at *;generalize w.natAbs=b at *;simp (disch:=try exact ac)[];refine cd gi ?_;simp (disch:=try exact ac)[];refine cd (H4 gb) ?_;exact dh rfl
  ·rw [if_neg h2] at l2;refine aC ?_;simp (disch:=try exact ac)[];refine cd l2 ?_;simp (disch:=try exact ac)[];refine cd gg ?_;exact dh rfl
 ·rw [if_neg h1] at l1;refine cd l1 ?_;simp (disch:=try exact ac)[];refine cd (u:=.mk) gg ?_;exact dh rfl
theorem Jt {s:List UInt8} {z:Int} (h:rd s=some z):s=itoa z∧ndg z.natAbs<1000000:=by
 have hb:=Ng h;unfold rd at h;split at h
 ·exact ⟨Nh h,by have:=bi hb ae;omega⟩
 ·cases h
theorem HS (a b:List UInt8):(rdF a b).isSome=match rd a,rd b with
  | some n,some d=>decide (0<d∧Nat.gcd n.natAbs d.natAbs=1)
  | _,_=>false:=by
 unfold rdF;cases rd a <;> cases rd b <;> simp
 split <;> simp_all
theorem CY (a b:List UInt8) (ha:a.length<1000000000) (hb:b.length<1000000000):CP Y F.fe [.agg [S a,S b]] (I (if (rdF a b).isSome then 0 else 2)):=by
 refine wE ?_;have ca:=CW a ha;have cb:=CW b hb;rw [HS];simp (disch:=try exact ac)[fe];refine cd ca ?_;cases hra:rd a with
 | none=>
  simp (disch:=try exact ac)[];refine aC ?_;simp (disch:=try exact ac)[] <;> exact ci rfl
 | some z=>
  cases hrb:rd b with
  | none=>
   rw [hrb] at cb;simp (disch:=try exact ac)[];refine aC ?_;simp (disch:=try exact ac)[];refine cd cb ?_;simp (disch:=try exact ac)[] <;> exact ci rfl
  | some w=>
   rw [hrb] at cb;obtain ⟨ea,na⟩:=Jt hra;obtain ⟨eb,nb⟩:=Jt hrb;subst ea;subst eb;have sg:=jf w;have gg:=JY na nb;simp (disch:=try exact ac)[];refine aC ?_;simp (disch:=try exact ac)[];refine cd cb ?_;simp (disch:=try exact ac)[];refine cd sg ?_;by_cases hw:0<w
   ·have hs:¬ sgn w<=0:=by unfold sgn;rw [if_neg aa,if_neg aa];decide
    simp (disch:=try exact ac)[hs];refine aC ?_;simp (disch:=try exact ac)[];refine cd gg ?_;by_cases hg:Nat.gcd z.natAbs w.natAbs=1
    ·have e1:ah 1=[49]:=by rw [ah,show ndg 1=1 by unfold ndg;simp];rfl
     rw [show ah (Nat.gcd z.natAbs w.natAbs)=[49] by rw [hg,e1]];simp (disch:=try exact ac)[] <;> exact ci (by simp [hw];exact hg)
    ·have e1:¬ ah (Nat.gcd z.natAbs w.natAbs)=[49]:=by
      intro e;have:=congrArg (dR 0) e;rw [cV] at this;exact hg this
     simp (disch:=try exact ac)[e1] <;> exact ci (by simp [hw,hg])
   ·have hs:sgn w<=0:=by unfold sgn;split;decide;rw [if_pos aa];decide
    simp (disch:=try exact ac)[hs];refine aC ?_;simp (disch:=try exact ac)[hs] <;> exact ci (by simp [hw])
def JB (n:Nat):Nat->Nat->Bool
 | 0,_=>true
 | k+1,d=>if n % d=0 then false else JB n k (d+1)
def kL (n:Int):Bool:=decide (2<=n) && decide (n<=97) && JB n.toNat (n.toNat-2) 2
theorem K8 {p:Int} (h:kL p=true):2<=p∧p<=97:=by
 simp only [kL,Z8,decide_eq_true_eq] at h;exact h.1
def xk:Option Int->List Int->Bool
 | _,[]=>true
 | prev,x::q=>kL x && (match prev with | some y=>decide (y<x) | none=>true) && xk (some x) q
def ym (p:List Int):Bool:=xk none p && decide (0<p.length) && decide (p.length<=6)
def rG (s:List UInt8):Bool:=decide ((rdT s).length<=30)
abbrev Tx:=List UInt8 × List UInt8
def aS (x:Tx):List D:=[.str x.1,.str x.2]
theorem aT (x:Tx):(aS x).length=2:=rfl
def Mu (n:Nat):Nat->Nat->Bool
 | 0,_=>true
 | r+1,d=>if d*d<=n then (if n % d=0 then false else Mu n r (d+1)) else true
theorem Sv:∀ n:Fin 98,2<=n.val->Mu n.val 10 2=kL n.val:=aG
theorem Je (n:Nat) (hn:n<=97) (k:KL):∀ (r d:Nat),2<=d->d+r=12->(Mu n r d=true->k (.exit 0) [] [])->(Mu n r d=false->k .ret [B false] []) ->
  lp (gA (CX Y) (I n)) [] [] [I d] [] k
 | 0,d,hd,hr,h0,h1=>by
  have:d=12:=aa;subst this;have g:¬ ((12:Nat):Int)*((12:Nat):Int)<=(n:Int):=aa;have g2:¬ (144:Int)<=(n:Int):=aa;refine ax ?_;simp (disch:=try exact ac)[gA,g,g2];exact h0 rfl
 | r+1,d,hd,hr,h0,h1=>by
  have ih:=Je n hn k r (d+1) aa aa;have hd12:d<=12:=aa;obtain ⟨s,hs⟩:∃ s,d*d=s:=⟨_,rfl⟩;have hsb:s<=144:=by rw [<- hs];exact Zs hd12 hd12
  have e1:(d:Int)*(d:Int)=(s:Int):=by rw [<- hs];simp
  rw [Mu,hs] at h0 h1;refine ax ?_;by_cases g:s<=n
  ·have g':(s:Int)<=(n:Int):=aa;rw [if_pos g] at h0 h1;have hd0:¬ ((d:Int)=0):=aa;have hd0':¬ (d=0):=aa;obtain ⟨m,hm⟩:∃ m,n % d=m:=⟨_,rfl⟩;have e2:(n:Int) % (d:Int)=(m:Int):=by rw [<- hm];simp
   rw [hm] at h0 h1;by_cases h:m=0
   ·have h':(m:Int)=0:=aa;rw [if_pos h] at h1;simp (disch:=try exact ac)[gA,e1,g',hd0,hd0',Zt,e2,h',h];exact h1 rfl
   ·have h':¬ (m:Int)=0:=aa;rw [if_neg h] at h0 h1;have:=ih h0 h1;simp (disch:=try exact ac)[gA,e1,g',hd0,hd0',Zt,e2,h',h];simpa using this
  ·have g':¬ (s:Int)<=(n:Int):=aa;rw [if_neg g] at h0;simp (disch:=try exact ac)[gA,e1,g'];exact h0 rfl
theorem Gy (n:Int):CP Y F.fX [I n] (B (kL n)):=by
 refine xJ ?_;by_cases h1:n<2
 ·simp (disch:=try exact ac)[fX,h1] <;> exact jg (by simp [kL];omega)
 by_cases h2:97<n
 ·simp (disch:=try exact ac)[fX,h1,h2] <;> exact jg (by simp [kL];omega)
 obtain ⟨m,rfl⟩:∃ m:Nat,n=m:=⟨n.toNat,aa⟩;have ha:=Sv ⟨m,aa⟩ aR;simp only at ha;simp (disch:=try exact ac)[fX,h1,h2];refine lo (Je m aa _ 10 2 aa rfl (fun e=>?_) (fun e=>?_))
 ·simp only [iB];exact jg (by rw [<- ha,e])
 ·simp only [vq,yC];exact jg (by rw [<- ha,e])
def wl (prev:Option Int) (x:Int):Bool:=match prev with | some y=>decide (y<x) | none=>true
def s9:Option Int->List Int->Int
 | _,[]=>0
 | prev,x::q=>cond (kL x) (cond (wl prev x) (s9 (some x) q) 6) 25
theorem Cq:∀ (q:List Int) (prev:Option Int),decide (s9 prev q=0)=xk prev q
 | [],_=>by simp [s9,xk]
 | x::q,prev=>by
  have e:xk prev (x::q)=(kL x && wl prev x && xk (some x) q):=by cases prev <;> rfl
  rw [e];cases h1:kL x with
  | false=>simp only [s9,h1,cond_false,Ws];rfl
  | true=>
   cases h2:wl prev x with
   | false=>simp only [s9,h1,h2,cond_true,cond_false,W0,Ws];rfl
   | true=>
    simp only [s9,h1,h2,cond_true,W0];exact Cq q (some x)
theorem JD (k:KL):∀ (q a:List Int),(a++q).length<1000000000->(s9 a.getLast? q=0->k (.exit 1) [] [])->(s9 a.getLast? q≠0->k .ret [I (s9 a.getLast? q)] []) ->
  lp (lG (CX Y) (lst di (a++q)) (lst di (a++q)) (I (a++q).length)) [] [] [I a.length] [] k
 | []=>by
  intro a hN h0 h1;refine ax ?_;simp (disch:=try exact ac)[lG];exact h0 rfl
 | x::q=>by
  intro a hN h0 h1;simp at hN;have ih:=JD k q (a++[x]) aR;rw [List.getLast?_concat] at ih;refine ax ?_;simp (disch:=try exact ac)[lG];refine cd (Gy x) ?_;by_cases hp:kL x=true
  ·rcases List.eq_nil_or_concat a with rfl | ⟨b,y,rfl⟩
   ·simp only [s9,hp,List.getLast?_nil,wl,cond_true] at h0 h1;simp (disch:=try exact ac)[hp];have:=ih h0 h1;simpa using this
   ·rw [List.concat_eq_append] at *;have hny:nth 0 (b++[y]++x::q) b.length=y:=by rw [List.append_assoc];simp
    rw [List.getLast?_concat] at h0 h1;simp only [s9,hp,wl,cond_true] at h0 h1;have eI:∀ h:Hp,ixV h 1 (lst di (b++[y]++x::q)) (.d (.int .i64 (b.length:Int)))=some (.dptr ((b++[y]++x::q).map di) b.length):=fun h=>Im di _ h rfl af
    have eL:∀ h:Hp,ld1 h (.dptr ((b++[y]++x::q).map di) b.length)=some (.d (di y)):=fun h=>by
     have:=SZ (b++[y]++x::q) h (j:=b.length) af;rw [hny] at this;exact this
    have hA:b++[y]++[x]++q=b++[y]++x::q:=af;have hn:(b++[y]).length=b.length+1:=af;have hn2:(b++[y]++[x]).length=b.length+1+1:=af;rw [hA,hn2] at ih;rw [hn] at hN ⊢;generalize b++[y]++x::q=A at *;generalize b.length=m at *;have e':((m+1:Nat):Int)-1=(m:Int):=aa;have hl0:(0:Int)<((m+1:Nat):Int):=aa;obtain ⟨m1,hm1⟩:∃ m1,m1=m+1:=⟨_,rfl⟩;rw [<- hm1] at e' hl0 ih ⊢
    by_cases hyx:y<x
    ·have g1:¬ x<=y:=aa;rw [show decide (y<x)=true by simpa using hyx] at h0 h1;simp only [cond_true] at h0 h1;have:=ih h0 h1;simp (disch:=try exact ac)[hp,e',hl0,eI,eL,g1];simpa using this
    ·have g1:x<=y:=aa;rw [show decide (y<x)=false by simpa using hyx] at h1;simp only [cond_false] at h1;simp (disch:=try exact ac)[hp,e',hl0,eI,eL,g1];simpa using h1
  ·have hpf:kL x=false:=by simpa using hp
   simp only [s9,hpf,cond_false] at h1;simp (disch:=try exact ac)[hpf];simpa using h1
def pcB (p:List Int):Int:=if p.length=0 then 13 else if 6<p.length then 4 else s9 none p
theorem Ny (p:List Int):decide (pcB p=0)=ym p:=by
 unfold pcB ym;by_cases h1:p.length=0
 ·simp [h1]
 ·by_cases h2:6<p.length
  ·have:¬ p.length<=6:=aa;simp [h1,h2,this]
  ·rw [if_neg h1,if_neg h2,Cq];have h3:0<p.length:=aa;have h4:p.length<=6:=aa;simp [h3,h4]
theorem dT {p:List Int} (hN:p.length<1000000000):CP Y F.bU [lst di p] (I (pcB p)):=by
 refine Bt ?_;have lp':bq (lst di p)=some (I p.length):=rfl;by_cases h1:(p.length:Int)=0
 ·have e:pcB p=13:=by unfold pcB;exact if_pos aa
  have hnil:p=[]:=X7.1 aa;rw [e];subst hnil;simp (disch:=try exact ac)[bU] <;> exact ci rfl
 have h1':¬ p.length=0:=aa;have hne:¬ p=[]:=fun e=>h1' (by rw [e];rfl)
 by_cases h2:(6:Int)<p.length
 ·have e:pcB p=4:=by unfold pcB;exact (if_neg h1').trans (if_pos aa)
  rw [e];simp (disch:=try exact ac)[bU,lp',h1,h2,hne] <;> exact ci rfl
 have e:pcB p=s9 none p:=by unfold pcB;exact (if_neg h1').trans (if_neg aa)
 unfold bU;rw [e]
 have main:=JD (exK [((.exit 1),fun l6 h=>out (I (s9 none p)) (.d (.int .i64 0)) h),(.ret,fun l6 h=>out (I (s9 none p)) (ge l6 0) h)]) p [] (by simpa using hN) (fun g=>by
  simp only [List.getLast?_nil] at g;simp only [iB];exact ci g.symm) (fun g=>by
  simp only [List.getLast?_nil] at g ⊢;simp only [vq,yC];exact ci rfl)
 simp (disch:=try exact ac)[lp',h1,h2,hne];exact main
theorem CR {a b:Nat} (ha:ndg a<1000000) (hb:ndg b<1000000):CP Y F.ib [S (ah a),S (ah b)] (S (ah (a*b))):=by
 refine BJ ?_;have la:=jq a;have lb:=jq b;have bo:=yH a b;by_cases h18:(ndg a:Int)+(ndg b:Int)<=18
 ·rw [if_pos ⟨aa,aa⟩] at bo
  have hm:a*b<1000000000000000000:=by
   have h1:=b6 a;have h2:=b6 b;have h3:a*b<10 ^ ndg a*10 ^ ndg b:=Yt h1 h2;rw [<- Yy] at h3;have h4:10 ^ (ndg a+ndg b)<=10 ^ 18:=Z4 ae aa;exact Z1 h3 h4
  obtain ⟨m,hmm⟩:∃ m,a*b=m:=⟨_,rfl⟩;have e1:(a:Int)*(b:Int)=(m:Int):=by rw [<- hmm];simp
  rw [hmm] at hm ⊢;simp (disch:=try exact ac)[ib,la,lb,h18];refine cd bo ?_;simp (disch:=try exact ac)[e1];refine cd (wt (n:=m) aa) ?_;exact dh rfl
 ·obtain ⟨ca,hca⟩:∃ ca,ca=ndg a / 9+1:=⟨_,rfl⟩;obtain ⟨cb,hcb⟩:∃ cb,cb=ndg b / 9+1:=⟨_,rfl⟩;have ltA:a<Z ^ ca:=Z1 (b6 a) (by rw [vL];exact Z4 ae aa);have ltB:b<Z ^ cb:=Z1 (b6 b) (by rw [vL];exact Z4 ae aa)
  have cA:=pd (h:=[(0,.none),(0,.none),(0,.none)]) rfl (n:=a) aa hca;have lA:(aY ca a).length=ca:=cr ..;have lB:(aY cb b).length=cb:=cr ..;have cB:=pd (h:=[(1,.data 1 ((aY ca a).map u6) true false),(0,.none),(0,.none)]) rfl (n:=b) aa hcb;simp (disch:=try exact ac)[ib,la,lb,h18];refine kg (gL (e:=0) (b:=.none) cA rfl ?_)
  rw [List.length_map,lA];simp (disch:=try exact ac)[];refine kg (gL (e:=0) (b:=.none) cB rfl ?_);rw [List.length_map,lB];simp (disch:=try exact ac)[]
  have rA:=yL (h:=[(1,.data 1 ((aY ca a).map u6) true false),(1,.data 1 ((aY cb b).map u6) true false),(0,.none)]) (s:=0) (e:=1) (len:=(dig Z a).length) (cap:=ca) (ex:=true) (fr:=false) rfl lA.symm (fN ltA)
  have rB:=yL (h:=[(1,.data 1 ((aY ca a).map u6) true false),(1,.data 1 ((aY cb b).map u6) true false),(0,.none)]) (s:=1) (e:=1) (len:=(dig Z b).length) (cap:=cb) (ex:=true) (fr:=false) rfl lB.symm (fN ltB);rw [j5 ltA] at rA;rw [j5 ltB] at rB;have dA:=fN ltA;have dB:=fN ltB;obtain ⟨N,hN⟩:∃ N,N=(dig Z a).length+(dig Z b).length:=⟨_,rfl⟩
  have tp:=vS (h:=[(1,.data 1 ((aY ca a).map u6) true false),(1,.data 1 ((aY cb b).map u6) true false),(0,.none)]) rfl rA (bL au a) rB (bL au b) aa aa hN
  have ltM:a*b<Z ^ N:=by
   rw [hN,Yy];have h1:=gO bg (bL au a);have h2:=gO bg (bL au b);rw [fF au] at h1 h2;exact Yt h1 h2
  rw [fF au,fF au] at tp;have lM:(aY N (a*b)).length=N:=cr ..;refine kg (gL (e:=0) (b:=.none) tp rfl ?_);rw [List.length_map,lM];simp (disch:=try exact ac)[]
  have sM:=rC (h:=[(1,.data 1 ((aY ca a).map u6) true false),(1,.data 1 ((aY cb b).map u6) true false),(1,.data 1 ((aY N (a*b)).map u6) true false)]) (s:=2) rfl lM.symm (len:=(dig Z (a*b)).length) (cap:=N) (fN ltM) (Z7 _);rw [j5 ltM] at sM;simp only [List.set_cons_zero,List.set_cons_succ] at sM
  have sMs:aH [(1,.data 1 ((aY ca a).map u6) true false),(1,.data 1 ((aY cb b).map u6) true false),(1,.data 1 ((aY N (a*b)).map u6) true false)] [.ref 2 1 0 (dig Z (a*b)).length N N]=some ([pcs (a*b)],[(1,.data 1 ((aY ca a).map u6) true false),(1,.data 1 ((aY cb b).map u6) true false),(1,.data 1 ((aY N (a*b)).map u6) true true)]):=by
   simp only [aH,sM];rfl
  refine cdz sMs (sw (n:=a*b) (by have:=fN ltM;omega)) ?_;rw [show gP (S (ah (a*b)))=true from rfl,if_pos rfl];exact dh rfl
theorem nO {B:Nat} {a b:List Nat} (ha:aD B a) (hb:aD B b):aD B (a++b):=by
 intro x hx;rcases Xt.1 hx with h | h
 ·exact ha x h
 ·exact hb x h
theorem mi (k:Nat):aD Z (List.replicate k 0):=by
 intro x hx;rw [List.eq_of_mem_replicate hx];exact bg
theorem kU (k:Nat) (l:List Nat):val Z (l++List.replicate k 0)=val Z l:=by
 rw [val_append]
 have:val Z (List.replicate k 0)=0:=by
  induction k with
  | zero=>rfl
  | succ k ih=>rw [List.replicate_succ];exact (congrArg (fun x=>0+Z*x) ih).trans (by rw [Nat.mul_zero])
 rw [this,Nat.mul_zero,Nat.add_zero]
theorem TH {q a b ce x B:Nat} (hB:2<=B) (h3:x+q*B*ce=a+b) (l1:a<q) (l2:b<q):x=a+b:=by
 rcases Zk ce with h | h
 ·subst h;rw [Nat.mul_zero,Nat.add_zero] at h3;exact h3
 ·have h1:=Z3 (q*B) h;have h2:=Z3 q hB;omega
theorem Pz {A D:List Nat} {a b n:Nat} (hA:A.length=n) (hD:D.length=n) (sA:aD Z A) (sD:aD Z D) (va:val Z A=a) (vb:val Z D=b) :
  val Z (nu 0 D (D.length+1) 0 0 (A++[0]))=a+b∧aD Z (nu 0 D (D.length+1) 0 0 (A++[0]))∧(nu 0 D (D.length+1) 0 0 (A++[0])).length=n+1:=by
 have sA0:aD Z (A++[0]):=nO sA (mi 1);obtain ⟨h1,h2,ce,h3⟩:=AR (at_:=0) sD (D.length+1) 0 0 (A++[0]) aR aa sA0;have e1:D.drop (0+(D.length+1))=[]:=Zd aa;have e2:val Z (A++[0])=a:=by rw [show ([0]:List Nat)=List.replicate 1 0 from rfl,kU,va]
 have e0:val Z ([]:List Nat)=0:=rfl;rw [e1,e2,e0] at h3;have l1:=gO bg sA;have l2:=gO bg sD;rw [va,hA] at l1;rw [vb,hD] at l2;have hl:(nu 0 D (D.length+1) 0 0 (A++[0])).length=n+1:=by rw [h1.1];simp [hA]
 refine ⟨?_,h2,hl⟩;rw [hD] at h3 ⊢;have h2Z:=au;generalize val Z (nu 0 D (n+1) 0 0 (A++[0]))=x at *;simp only [Yo,vb,Nat.add_zero,Zj,Nat.pow_zero,Xp,Nat.pow_succ] at h3;exact TH h2Z h3 l1 l2
theorem Qa (k:Nat):iS k [D.int .u64 0]=(List.replicate k 0).map u6:=by
 induction k with
 | zero=>rfl
 | succ k ih=>rw [List.replicate_succ,Zu,<- ih];rfl
theorem Ij (a w:Nat) (hw:w<=18):CP Y F.bj [S (ah a),I w] (if ndg a<=w then .tup [I a,B true] else .tup [I 0,B false]):=by
 refine nR ?_;have la:=jq a;by_cases h:(w:Int)<ndg a
 ·rw [if_neg aa];simp (disch:=try exact ac)[bj,la,h];exact av rfl rfl
 ·rw [if_pos aa];have ap:=EH (n:=a) (iT a) aa (b6 a);have en:biF .eql (.d (.pl .nilIface)) (.d (.pl .nilIface))=some (.d (.bool true)):=rfl;simp (disch:=try exact ac)[bj,la,h];refine cd (args:=[S (ah a)]) ap ?_;simp (disch:=try exact ac)[en];exact av rfl rfl
theorem nN (a:Nat):CP Y F.aN [S (ah a)] (.tup [B false,S (ah a)]):=by
 have h:=rz (ah a);have e1:rdN (ah a)=false:=decide_eq_false (oo a);have e2:rdT (ah a)=ah a:=if_neg (oo a);rw [e1,e2] at h;exact h
theorem Oe (s:List UInt8):CP Y F.bK [B false,S s] (S s):=by
 refine ul ?_;simp (disch:=try exact ac)[bK] <;> exact dh rfl
end Go.Vm
