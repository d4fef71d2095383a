/- Lemmas. -/
import Derived.Test.YtaofhmhlooekoaaGreatDoorQDcY
set_option linter.unusedVariables false
set_option linter.unusedSimpArgs false
namespace Go.Vm
open Go Go.Am Go.Big
variable{s a b n p e i k d g L:Nat}{z w c:Int}{A l:LnQ}{h:Hp}{ex fr:Bool}
def shH(o:LnQ):Hp:=[(1,.data 1 (o.map u32) false false),nnQ]
@[simp]theorem aeP(o:LnQ):List.length (shH o)=2:=id rfl
def slH(o:LnQ):Hp:=[nnQ,(1,.data 1 (o.map u32) true false)]
@[simp]theorem aeJ(o:LnQ):List.length (slH o)=2:=id rfl
def rdT(s:LuQ):LuQ:=if s.headD 0=45 then s.tail else s
def rdN(s:LuQ):Bool:=decide (s.headD 0=45)
def rd(s:LuQ):Option Int:=if(rdT s).length<=400 then rdS s else none
theorem aab(s:LuQ):rd s=if(rdT s).length<=400∧rdT s≠[]∧¬((rdT s).headD 0=48∧(1<(rdT s).length∨rdN s=true))∧(rdT s).all pq=true then some (if rdN s=true then -(fq 0 (rdT s):Int)else(fq 0 (rdT s):Int))else none:=by
 unfold rd rdS
 have hcan:∀t:LuQ,pM t=true↔t≠[]∧t.all pq=true∧¬(1<t.length∧t.headD 0=48):=fun t=>by
  simp[pM,and_assoc];intro _ _;constructor
  .rintro(h|h) g
   .omega
   omega
  .intro h;by_cases g:1<t.length
   .grind
   .exact .inl aa
 by_cases h:s.headD 0=45
 .have e1:rdT s=s.tail:=by unfold rdT;rw[if_pos h]
  have e2:rdN s=true:=by unfold rdN;simpa using h
  rw[e1,e2,if_pos h];generalize s.tail=t;by_cases h1:t.length<=400
  .simp only[h1,if_true,true_and,hcan];by_cases h2:t≠[]∧¬(t.headD 0=48∧(1<t.length∨True))∧t.all pq=true
   .grind
   .rw[if_neg h2,if_neg];rintro⟨⟨a,b,c⟩,d⟩;refine h2 ⟨a,fun x=>?_,b⟩;by_cases g:1<t.length
    .grind
    .apply d;cases t with
     |nil=>trivial
     | cons y t=>
      grind
  grind
 .have e1:rdT s=s:=by unfold rdT;rw[if_neg h]
  have e2:rdN s=false:=by unfold rdN;simpa using h
  grind
@[simp]theorem aeW(n:Nat):okV (nat n)=true:=id rfl
theorem Su{s:LuQ}(h:rd s=some z):z.natAbs<10^400:=by
 rw[aab]at h;split at h
 .rename_i hc;simp only[Z9]at h;have hi:=sE (rdT s) 0 hc.2.2.2;have:fq 0 (rdT s)<10^400:=Z3 hi (by set_option exponentiation.threshold 1000 in rw[Zk,Wt];exact Z5 ae hc.1)
  have hz:z.natAbs=fq 0 (rdT s):=by
   rw[<-h];split<;>simp
  rw[hz];exact this
 .cases h
def rdF(a b:LuQ):Option (Int×Nat):=match rd a,rd b with
 |some n,some d=>if 0<d∧Nat.gcd n.natAbs d.natAbs=1 then some (n,d.natAbs)else none
 |_,_=>none
theorem cE(h:a<=b):ndg a<=ndg b:=cS (Zh h (cG b)) (kY b)
theorem Qb(k:KL):∀(b a:Nat),ndg a<1000000->ndg b<1000000->k (.exit 0) [S (ai (Nat.gcd a b))] []->lp (oN (CX Y)) [] [] [S (ai a),S (ai b)] [] k:=by
 intro b
 induction b using Nat.strongRecOn with
 | _ b ih=>
  intro a ha hb hk;by_cases h0:b=0
  .subst h0;rw[Nat.gcd_zero_right]at hk;refine ak ?_;rw[dP];simp[oN];exact hk
  .have hbp:0<b:=aa
   have hne:¬ai b=[48]:=by
    rw[<-dP];intro e;have:=congrArg (fq 0) e;rw[dR,dR]at this;omega
   have hm:=Y5 a hbp
   have hk2:=ih (a%b) hm b hb (Zh (cE (Nat.le_of_lt hm)) hb) (by
    rw[Wh b,<-Nat.gcd_rec,Wh b];exact hk)
   refine ak ?_;simp[oN,hne];refine cd (wi hbp ha hb) ?_;simp;exact hk2
theorem Oj(ha:ndg a<1000000)(hb:ndg b<1000000):CP Y F.mN [S (ai a),S (ai b)] (S (ai (Nat.gcd a b))):=by refine E9 ?_;simp[mN];refine lo (Qb _ b a ha hb ?_);simp;exact eX rfl
theorem Qa(k:KL):∀(b a:Nat),a<1000000000000000000->b<1000000000000000000->k (.exit 0) [I (Nat.gcd a b:Nat)] []->lp (pY (CX Y)) [] [] [I a,I b] [] k:=by
 intro b
 induction b using Nat.strongRecOn with
 | _ b ih=>
  intro a ha hb hk;by_cases h0:(b:Int)=0
  .have:b=0:=aa;subst this;rw[Nat.gcd_zero_right]at hk;refine ak ?_;simp[pY];exact hk
  .have hbp:0<b:=aa;have hm:=Y5 a hbp
   have hk2:=ih (a%b) hm b hb aa (by
    rw[Wh b,<-Nat.gcd_rec,Wh b];exact hk)
   have h0':¬b=0:=aa;have e2:(a:Int)%(b:Int)=((a%b:Nat):Int):=af;obtain⟨r,hr⟩:=mnQ (a%b);rw[hr]at hk2 e2;refine ak ?_;simp[pY,h0,h0',Zz,e2];exact hk2
theorem XU(ha:a<1000000000000000000)(hb:b<1000000000000000000):CP Y F.qk [I a,I b] (I (Nat.gcd a b:Nat)):=by refine Iw ?_;simp[qk];refine lo (Qa _ b a ha hb ?_);simp only[kz];exact aV rfl
theorem LY(h:n<9223372036854775808):CP Y F.dF [I n] (S (ai n)):=by
 refine Ce ?_;simp[dF];have e:itoa (n:Int)=ai n:=by unfold itoa;rw[if_neg aa];rfl
 refine cd (BS (z:=n) aa aa) ?_;rw[e]
 try simp(disch:=try exact ac)
 exact eX rfl
theorem Do(a:Nat):CP Y F.bD [S (ai a),I 18] (if ndg a<=18 then .tup [I a,B true]else .tup [I 0,B false]):=by
 refine qu ?_;have la:=lK a;by_cases h:18<ndg a
 .rw[if_neg aa];simp(disch:=try exact ac)[bD,la,h];exact bV rfl rfl
 .rw[if_pos aa];have ap:=Ih (n:=a) (kY a) aa (cG a);have en:biF .eql (.d (.pl .nilIface)) (.d (.pl .nilIface))=some (.d (.bool true)):=rfl;simp(disch:=try exact ac)[bD,la,h];refine cd (args:=[S (ai a)]) ap ?_;simp[en];exact bV rfl rfl
theorem qy(s:LuQ):CP Y F.aQ [S s] (.tup [B (rdN s),S (rdT s)]):=by
 refine Ey ?_;cases s with
 | nil=>
  simp[aQ];exact bV rfl rfl
 | cons c t=>
  have hix:ixS (S (c::t)) (.d (.int .i64 0))=some (.d (.int .u8 c.toNat)):=rfl;by_cases h:c=45
  .subst h;have e:((45:UInt8).toNat:Int)=45:=rfl;simp(disch:=try exact ac)[aQ,hix,e];exact bV rfl rfl
  .have e:¬(c.toNat:Int)=45:=fun g=>h (by apply UInt8.toNat.inj;simpa using(by omega:c.toNat=45))
   have e1:rdT (c::t)=c::t:=by simp[rdT,h]
   have e2:rdN (c::t)=false:=by simp[rdN,h]
   rw[e1,e2];simp[aQ,hix,e];exact bV rfl rfl
theorem GE(l:LuQ)(hl:l.length<1000000000)(k:KL):∀(q p:LuQ),p++q=l->(q.all pq=true->k (.exit 0) [] [])->(q.all pq=false->k .ret [B false] [])->lp (fh (CX Y) (lst u8 l) (I l.length)) [] [] [I p.length] [] k
 | []=>by
  intro p hp h0 h1;simp at hp;subst hp;refine ak ?_;simp[fh];exact h0 rfl
 | c::q=>by
  intro p hp h0 h1;have hpl:p.length<l.length:=by subst hp;simp
  have hc:nth 0 l p.length=c:=by subst hp;simp
  have e1:=fun h:Hp=>mK u8 l h (k:=.i64) (i:=(p.length:Int)) aa aa
  have e2:=fun h:Hp=>fB u8 0 l h (j:=p.length) hpl
  rw[hc]at e2;simp only[Int.toNat_natCast]at e1;have ih:=GE l hl k q (p++[c]) (by simpa using hp);refine ak ?_;by_cases g1:(c.toNat:Int)<48
  .have g3:pq c=false:=by rw[Bool.eq_false_iff];intro h;rw[ly]at h;omega
   simp(disch:=try exact ac)[fh,e1,e2,u8,g1];exact h1 (by simp[g3])
  .by_cases g2:(57:Int)<c.toNat
   .have g3:pq c=false:=by rw[Bool.eq_false_iff];intro h;rw[ly]at h;omega
    simp(disch:=try exact ac)[fh,e1,e2,u8,g1,g2];exact h1 (by simp[g3])
   .have g3:pq c=true:=by rw[ly];omega
    have:=ih (fun h=>h0 (by simp[g3];simpa using h)) (fun h=>h1 (by simp only[List.all_cons,h,Wj]));simp(disch:=try exact ac)[fh,e1,e2,u8,g1,g2];simpa using this
theorem YS(l:LuQ)(hl:l.length<1000000000):CP Y F.ig [S l] (B (pM l)):=by
 refine wM ?_;unfold ig
 show cvB (S l) _ _
 rw[aar];have lL:nh (S l)=some (I l.length):=rfl;simp;refine lo (GE l hl _ l [] rfl (fun e=>?_) (fun e=>?_))
 .simp only[kz];cases l with
  | nil=>
   simp[lL];exact dX (by simp[pM])
  | cons c t=>
   have hix:ixS (S (c::t)) (.d (.int .i64 0))=some (.d (.int .u8 c.toNat)):=rfl;cases t with
   | nil=>
    simp[lL];exact dX (by simp[pM]at e ⊢;exact e)
   | cons d t=>
    obtain⟨N,hN⟩:∃N,(c::d::t).length=N:=⟨_,rfl⟩;have hN2:2<=N:=by rw[<-hN];simp only[List.length_cons];omega
    rw[hN]at lL;have g2:(1:Int)<(N:Int):=aa;have g3:¬(N:Int)=1:=aa;by_cases h:c=48
    .subst h;have e48:((48:UInt8).toNat:Int)=48:=rfl;simp[lL,g2,g3,hix,e48];exact dX (by simp[pM])
    .have e48:¬(c.toNat:Int)=48:=fun g=>h (by apply UInt8.toNat.inj;simpa using(by omega:c.toNat=48))
     simp[lL,g2,g3,hix,e48]
     exact dX (by
      have:pM (c::d::t)=true:=by simp only[pM,e];simp[h]
      exact this.symm)
 .simp only[yy,BX];exact dX (by simp only[pM,e,Wj,Wi])
theorem Qu(l:LuQ)(hl:l.length<1000000000):CP Y F.jZ [S l] (I (if pM l=true∧l.length<=400 then 0 else 2)):=by
 refine Bp ?_;have lL:nh (S l)=some (I l.length):=rfl;obtain⟨N,hN⟩:=mnQ (l.length);rw[hN]at lL ⊢;simp[jZ];refine cd (YS l hl) ?_;cases hc:pM l with
 | false=>
  simp<;>exact aV af
 | true=>
  by_cases h:(400:Int)<N
  .simp[lL,h]<;>exact aV (by rw[if_neg aa])
  .have h2:true=true∧N<=400:=⟨rfl,aa⟩;simp[lL,h]<;>exact aV (by rw[if_pos h2.2])
theorem PE(s:LuQ):(rd s).isSome=(!(rdN s&&decide (rdT s=[48]))&&(pM (rdT s)&&decide ((rdT s).length<=400))):=by
 unfold rd rdS rdN rdT;by_cases h45:s.headD 0=45
 .simp only[h45,if_true];obtain⟨t,ht⟩:=mnQ (s.tail);rw[ht];by_cases hl:t.length<=400
  .by_cases h48:t=[48]
   .simp[h48]
   .cases hc:pM t<;>simp[hl,h48]
  .simp[hl]
 .simp only[h45,if_false];by_cases hl:s.length<=400
  .cases hc:pM s<;>simp[hl]
  .simp[hl]
theorem Gy(s:LuQ)(hs:s.length<1000000000):CP Y F.mA [S s] (I (if(rd s).isSome then 0 else 2)):=by
 refine EB ?_
 have hT:(rdT s).length<1000000000:=by
  unfold rdT;split
  .have:s.tail.length=s.length-1:=List.length_tail;omega
  .exact hs
 rw[PE];simp[mA];refine cd (qy s) ?_;have hck:=Qu (rdT s) hT;obtain⟨t,ht⟩:=mnQ (rdT s);rw[ht]at hck ⊢;obtain⟨c4,hc4⟩:∃c4,(pM t&&decide (t.length<=400))=c4:=⟨_,rfl⟩
 have hck2:CP Y F.jZ [S t] (I (if c4=true then 0 else 2)):=by
  have:(if pM t=true∧t.length<=400 then(0:Int)else 2)=if c4=true then 0 else 2:=by
   rw[<-hc4];by_cases h:pM t=true∧t.length<=400
   .rw[if_pos h];simp[h]
   .rw[if_neg h];rw[if_neg (by simpa using h)]
  rw[<-this];exact hck
 rw[hc4];cases hn:rdN s with
 | true=>
  by_cases h3:t=[48]
  .simp[h3]<;>exact aV af
  .simp[h3];refine cd hck2 ?_;cases c4 with
   |true=>simp[h3]<;>exact aV (by simp[h3])
   |false=>simp[h3]<;>exact aV (by simp[h3])
 | false=>
  simp;refine cd hck2 ?_;cases c4 with
  |true=>simp<;>exact aV af
  |false=>simp<;>exact aV af
theorem qJ(z:Int):rdT (itoa z)=ai z.natAbs:=by
 unfold itoa rdT;split
 .simp
 .rw[if_neg (qK _)]
theorem yN(z:Int):CP Y F.gn [S (itoa z)] (S (ai z.natAbs)):=by refine Av ?_;have:=qy (itoa z);rw[qJ]at this;simp[gn];refine cd this ?_;simp<;>exact eX rfl
def sgn(z:Int):Int:=if z=0 then 0 else if z<0 then -1 else 1
theorem mF(z:Int):CP Y F.cX [S (itoa z)] (I (sgn z)):=by
 refine GO ?_;by_cases h0:z=0
 .subst h0;have e:itoa 0=[48]:=dP;rw[e];simp[cX]<;>exact aV rfl
 ·have hne:¬itoa z=[48]:=by
   intro e;have h1:=Jt z;have h2:=Jt 0;rw[show itoa 0=[48]from dP,<-e,h1]at h2;exact h0 (Option.some.inj h2)
  by_cases hn:z<0
  .have e:itoa z=45::ai z.natAbs:=by unfold itoa;rw[if_pos hn]
   have hix:ixS (S (itoa z)) (.d (.int .i64 0))=some (.d (.int .u8 45)):=by rw[e];rfl
   simp[cX,hne,hix]<;>exact aV (by simp[sgn,h0,hn])
  .have e:itoa z=ai z.natAbs:=by unfold itoa;rw[if_neg hn]
   obtain ⟨c,t,hct⟩:∃c t,ai z.natAbs=c::t:=by
    cases h:ai z.natAbs with
    |nil=>exact absurd h (vv _)
    |cons c t=>exact⟨c,t,rfl⟩
   have hhd:=qK z.natAbs;rw[hct]at hhd;have hix:ixS (S (itoa z)) (.d (.int .i64 0))=some (.d (.int .u8 c.toNat)):=by rw[e,hct];rfl
   have hc:¬(c.toNat:Int)=45:=fun g=>hhd (by apply UInt8.toNat.inj;simpa using(by omega:c.toNat=45))
   simp[cX,hne,hix,hc]<;>exact aV (by simp[sgn,h0,hn])
theorem Oi(hz:ndg z.natAbs<1000000)(hw:ndg w.natAbs<1000000):CP Y F.nS [S (itoa z),S (itoa w)] (S (ai (Nat.gcd z.natAbs w.natAbs))):=by
 refine IB ?_;have l1:=Do z.natAbs;have l2:=Do w.natAbs;have gg:=Oj hz hw;simp[nS];refine cd (yN z) ?_;simp;refine cd (yN w) ?_;simp;by_cases h1:ndg z.natAbs<=18
 .rw[if_pos h1]at l1;refine cd l1 ?_;simp;by_cases h2:ndg w.natAbs<=18
  .rw[if_pos h2]at l2;refine aj ?_;simp;refine cd l2 ?_;have b1:z.natAbs<1000000000000000000:=by have:=cG z.natAbs;have:=Z5 (n:=10) ae h1;omega
   have b2:w.natAbs<1000000000000000000:=by have:=cG w.natAbs;have:=Z5 (n:=10) ae h2;omega
   have gi:=XU b1 b2
   have gb:Nat.gcd z.natAbs w.natAbs<9223372036854775808:=by
    rcases Zg w.natAbs with h|h
    .rw[h,Nat.gcd_zero_right];omega
    .have:=Nat.gcd_le_right z.natAbs h;omega
   generalize Nat.gcd z.natAbs w.natAbs=G at *;generalize z.natAbs=a at *;generalize w.natAbs=b at *;simp;refine cd gi ?_;simp;refine cd (LY gb) ?_;exact eX rfl
  .rw[if_neg h2]at l2;refine aj ?_;simp;refine cd l2 ?_;simp;refine cd gg ?_;exact eX rfl
 .rw[if_neg h1]at l1;refine cd l1 ?_;simp;refine cd (u:=.mk) gg ?_;exact eX rfl
theorem Ny{s:LuQ}(h:rd s=some z):s=itoa z∧ndg z.natAbs<1000000:=by
 have hb:=Su h;unfold rd at h;split at h
 .exact⟨Sv h,by have:=cS hb ae;omega⟩
 .cases h
theorem LN(a b:LuQ):(rdF a b).isSome=match rd a,rd b with
  |some n,some d=>decide (0<d∧Nat.gcd n.natAbs d.natAbs=1)
  |_,_=>false:=by
 unfold rdF;cases rd a<;>cases rd b<;>simp
 split<;>simp_all
theorem Gz(a b:LuQ)(ha:a.length<1000000000)(hb:b.length<1000000000):CP Y F.gN [.agg [S a,S b]] (I (if(rdF a b).isSome then 0 else 2)):=by
 refine zV ?_;have ca:=Gy a ha;have cb:=Gy b hb;rw[LN];simp[gN];refine cd ca ?_;cases hra:rd a with
 | none=>
  simp;refine aj ?_;simp<;>exact aV rfl
 | some z=>
  cases hrb:rd b with
  | none=>
   rw[hrb]at cb;simp;refine aj ?_;simp;refine cd cb ?_;simp<;>exact aV rfl
  | some w=>
   rw[hrb]at cb;obtain⟨ea,na⟩:=Ny hra;obtain⟨eb,nb⟩:=Ny hrb;subst ea;subst eb;have sg:=mF w;have gg:=Oi na nb;simp;refine aj ?_;simp;refine cd cb ?_;simp;refine cd sg ?_;by_cases hw:0<w
   .have hs:¬sgn w<=0:=by unfold sgn;rw[if_neg aa,if_neg aa];decide
    simp[hs];refine aj ?_;simp;refine cd gg ?_;by_cases hg:Nat.gcd z.natAbs w.natAbs=1
    .have e1:ai 1=[49]:=by rw[ai,show ndg 1=1 by unfold ndg;simp];rfl
     rw[show ai (Nat.gcd z.natAbs w.natAbs)=[49] by rw[hg,e1]];simp<;>exact aV (by simp[hw];exact hg)
    ·have e1:¬ai (Nat.gcd z.natAbs w.natAbs)=[49]:=by
      intro e;have:=congrArg (fq 0) e;rw[dR]at this;exact hg this
     simp[e1]<;>exact aV (by simp[hw,hg])
   .have hs:sgn w<=0:=by unfold sgn;split;decide;rw[if_pos aa];decide
    simp[hs];refine aj ?_;simp[hs]<;>exact aV (by simp[hw])
def NI(n:Nat):Nat->Nat->Bool
 |0,_=>true
 |k+1,d=>if n%d=0 then false else NI n k (d+1)
def xe(n:Int):Bool:=decide (2<=n)&&decide (n<=97)&&NI n.toNat (n.toNat-2) 2
def uZ(s:LuQ):Bool:=decide ((rdT s).length<=30)
abbrev Tx:=LuQ×LuQ
def bg(x:Tx):LdQ:=[.str x.1,.str x.2]
theorem bG(x:Tx):(bg x).length=2:=rfl
def Rl(n:Nat):Nat->Nat->Bool
 |0,_=>true
 |r+1,d=>if d*d<=n then(if n%d=0 then false else Rl n r (d+1))else true
theorem aaT:∀n:Fin 98,2<=n.val->Rl n.val 10 2=xe n.val:=aD
theorem Nf(n:Nat)(hn:n<=97)(k:KL):∀(r d:Nat),2<=d->d+r=12->(Rl n r d=true->k (.exit 0) [] [])->(Rl n r d=false->k .ret [B false] []) ->
  lp (iR (CX Y) (I n)) [] [] [I d] [] k
 | 0,d,hd,hr,h0,h1=>by
  have:d=12:=aa;subst this;have g:¬((12:Nat):Int)*((12:Nat):Int)<=(n:Int):=aa;have g2:¬(144:Int)<=(n:Int):=aa;refine ak ?_;simp[iR,g,g2];exact h0 rfl
 | r+1,d,hd,hr,h0,h1=>by
  have ih:=Nf n hn k r (d+1) aa aa;have hd12:d<=12:=aa;obtain⟨s,hs⟩:=mnQ (d*d);have hsb:s<=144:=by rw[<-hs];exact Za hd12 hd12
  have e1:(d:Int)*(d:Int)=(s:Int):=by rw[<-hs];simp
  rw[Rl,hs]at h0 h1;refine ak ?_;by_cases g:s<=n
  .have g':(s:Int)<=(n:Int):=aa;rw[if_pos g]at h0 h1;have hd0:¬((d:Int)=0):=aa;have hd0':¬(d=0):=aa;obtain⟨m,hm⟩:=mnQ (n%d);have e2:(n:Int)%(d:Int)=(m:Int):=by rw[<-hm];simp
   rw[hm]at h0 h1;by_cases h:m=0
   .have h':(m:Int)=0:=aa;rw[if_pos h]at h1;simp(disch:=try exact ac)[iR,e1,g',hd0,hd0',Zz,e2,h',h];exact h1 rfl
   .have h':¬(m:Int)=0:=aa;rw[if_neg h]at h0 h1;have:=ih h0 h1;simp(disch:=try exact ac)[iR,e1,g',hd0,hd0',Zz,e2,h',h];simpa using this
  .have g':¬(s:Int)<=(n:Int):=aa;rw[if_neg g]at h0;simp(disch:=try exact ac)[iR,e1,g'];exact h0 rfl
theorem Kd(n:Int):CP Y F.iK [I n] (B (xe n)):=by
 refine AV ?_;by_cases h1:n<2
 .simp[iK,h1]<;>exact dX (by simp[xe];omega)
 by_cases h2:97<n
 .simp[iK,h1,h2]<;>exact dX (by simp[xe];omega)
 obtain⟨m,rfl⟩:∃m:Nat,n=m:=⟨n.toNat,aa⟩;have ha:=aaT ⟨m,aa⟩ aM;simp only at ha;simp[iK,h1,h2];refine lo (Nf m aa _ 10 2 aa rfl (fun e=>?_) (fun e=>?_))
 .simp only[kz];exact dX (by rw[<-ha,e])
 .simp only[yy,BX];exact dX (by rw[<-ha,e])
def LU(prev:Option Int)(x:Int):Bool:=match prev with|some y=>decide (y<x)|none=>true
def C4:Option Int->LiQ->Int
 |_,[]=>0
 |prev,x::q=>cond (xe x) (cond (LU prev x) (C4 (some x) q) 6) 25
theorem NL(k:KL):∀(q a:LiQ),(a++q).length<1000000000->(C4 a.getLast? q=0->k (.exit 1) [] [])->(C4 a.getLast? q≠0->k .ret [I (C4 a.getLast? q)] []) ->
  lp (oz (CX Y) (lst di (a++q)) (lst di (a++q)) (I (a++q).length)) [] [] [I a.length] [] k
 | []=>by
  intro a hN h0 h1;refine ak ?_;simp[oz];exact h0 rfl
 | x::q=>by
  intro a hN h0 h1;simp at hN;have ih:=NL k q (a++[x]) aM;rw[List.getLast?_concat]at ih;refine ak ?_;simp(disch:=try exact ac)[oz];refine cd (Kd x) ?_;by_cases hp:xe x=true
  .rcases List.eq_nil_or_concat a with rfl|⟨b,y,rfl⟩
   .simp only[C4,hp,List.getLast?_nil,LU,cond_true]at h0 h1;simp[hp];have:=ih h0 h1;simpa using this
   .rw[List.concat_eq_append]at *;have hny:nth 0 (b++[y]++x::q) b.length=y:=by rw[List.append_assoc];simp
    rw[List.getLast?_concat]at h0 h1;simp only[C4,hp,LU,cond_true]at h0 h1;have eI:∀h:Hp,ixV h 1 (lst di (b++[y]++x::q)) (.d (.int .i64 (b.length:Int)))=some (.dptr ((b++[y]++x::q).map di) b.length):=fun h=>iC di _ h rfl af
    have eL:∀h:Hp,ld1 h (.dptr ((b++[y]++x::q).map di) b.length)=some (.d (di y)):=fun h=>by
     have:=TP (b++[y]++x::q) h (j:=b.length) af;rw[hny]at this;exact this
    have hA:b++[y]++[x]++q=b++[y]++x::q:=af;have hn:(b++[y]).length=b.length+1:=af;have hn2:(b++[y]++[x]).length=b.length+1+1:=af;rw[hA,hn2]at ih;rw[hn]at hN ⊢;generalize b++[y]++x::q=A at *;generalize b.length=m at *;have e':((m+1:Nat):Int)-1=(m:Int):=aa;have hl0:(0:Int)<((m+1:Nat):Int):=aa;obtain⟨m1,hm1⟩:=nmQ (m+1);rw[<-hm1]at e' hl0 ih ⊢
    by_cases hyx:y<x
    .have g1:¬x<=y:=aa;rw[show decide (y<x)=true by simpa using hyx]at h0 h1;simp only[cond_true]at h0 h1;have:=ih h0 h1;simp(disch:=try exact ac)[hp,e',hl0,eI,eL,g1];simpa using this
    .have g1:x<=y:=aa;rw[show decide (y<x)=false by simpa using hyx]at h1;simp only[cond_false]at h1;simp(disch:=try exact ac)[hp,e',hl0,eI,eL,g1];simpa using h1
  .have hpf:xe x=false:=by simpa using hp
   simp only[C4,hpf,cond_false]at h1;simp[hpf];simpa using h1
def pcB(p:LiQ):Int:=if p.length=0 then 13 else if 6<p.length then 4 else C4 none p
theorem lJ{p:LiQ}(hN:p.length<1000000000):CP Y F.eW [lst di p] (I (pcB p)):=by
 refine EO ?_;have lp':bf (lst di p)=some (I p.length):=rfl;by_cases h1:(p.length:Int)=0
 .have e:pcB p=13:=by unfold pcB;exact if_pos aa
  have hnil:p=[]:=Xp.1 aa;rw[e];subst hnil;simp[eW]<;>exact aV rfl
 have h1':¬p.length=0:=aa;have hne:¬p=[]:=fun e=>h1' (by rw[e];rfl)
 by_cases h2:(6:Int)<p.length
 .have e:pcB p=4:=by unfold pcB;exact(if_neg h1').trans (if_pos aa)
  rw[e];simp[eW,lp',h1,h2,hne]<;>exact aV rfl
 have e:pcB p=C4 none p:=by unfold pcB;exact(if_neg h1').trans (if_neg aa)
 unfold eW;rw[e]
 have main:=NL (exK [((.exit 1),fun l6 h=>out (I (C4 none p)) (.d (.int .i64 0)) h),(.ret,fun l6 h=>out (I (C4 none p)) (ge l6 0) h)]) p [] (by simpa using hN) (fun g=>by
  simp only[List.getLast?_nil]at g;simp only[kz];exact aV g.symm) (fun g=>by
  simp only[List.getLast?_nil]at g ⊢;simp only[yy,BX];exact aV rfl)
 simp[lp',h1,h2,hne];exact main
theorem Gv(ha:ndg a<1000000)(hb:ndg b<1000000):CP Y F.jL [S (ai a),S (ai b)] (S (ai (a*b))):=by
 refine E7 ?_;have la:=lK a;have lb:=lK b;have bo:=B7 a b;by_cases h18:(ndg a:Int)+(ndg b:Int)<=18
 .rw[if_pos ⟨aa,aa⟩]at bo
  have hm:a*b<1000000000000000000:=by
   have h1:=cG a;have h2:=cG b;have h3:a*b<10^ndg a*10^ndg b:=Ys h1 h2;rw[<-Yp]at h3;have h4:10^(ndg a+ndg b)<=10^18:=Z5 ae aa;exact Z3 h3 h4
  obtain⟨m,hmm⟩:=mnQ (a*b);have e1:(a:Int)*(b:Int)=(m:Int):=by rw[<-hmm];simp
  rw[hmm]at hm ⊢;simp(disch:=try exact ac)[jL,la,lb,h18];refine cd bo ?_;simp(disch:=try exact ac)[e1];refine cd (zy (n:=m) aa) ?_;exact eX rfl
 .obtain⟨ca,hca⟩:=nmQ (ndg a/9+1);obtain⟨cb,hcb⟩:=nmQ (ndg b/9+1);have ltA:a<Z^ca:=Z3 (cG a) (by rw[yO];exact Z5 ae aa);have ltB:b<Z^cb:=Z3 (cG b) (by rw[yO];exact Z5 ae aa)
  have cA:=rL (h:=[nnQ,nnQ,nnQ]) rfl (n:=a) aa hca;have lA:(bv ca a).length=ca:=dj ..;have lB:(bv cb b).length=cb:=dj ..;have cB:=rL (h:=[(1,.data 1 ((bv ca a).map u6) true false),nnQ,nnQ]) rfl (n:=b) aa hcb;simp(disch:=try exact ac)[jL,la,lb,h18];refine nu (fG (e:=0) (b:=.none) cA rfl ?_)
  rw[List.length_map,lA];simp;refine nu (fG (e:=0) (b:=.none) cB rfl ?_);rw[List.length_map,lB];simp;have rA:=Cb (h:=[(1,.data 1 ((bv ca a).map u6) true false),(1,.data 1 ((bv cb b).map u6) true false),nnQ]) (s:=0) (e:=1) (len:=(dig Z a).length) (cap:=ca) (ex:=true) (fr:=false) rfl lA.symm (iD ltA)
  have rB:=Cb (h:=[(1,.data 1 ((bv ca a).map u6) true false),(1,.data 1 ((bv cb b).map u6) true false),nnQ]) (s:=1) (e:=1) (len:=(dig Z b).length) (cap:=cb) (ex:=true) (fr:=false) rfl lB.symm (iD ltB);rw[m6 ltA]at rA;rw[m6 ltB]at rB;have dA:=iD ltA;have dB:=iD ltB;obtain⟨N,hN⟩:=nmQ ((dig Z a).length+(dig Z b).length)
  have tp:=y9 (h:=[(1,.data 1 ((bv ca a).map u6) true false),(1,.data 1 ((bv cb b).map u6) true false),nnQ]) rfl rA (cD aB a) rB (cD aB b) aa aa hN
  have ltM:a*b<Z^N:=by
   rw[hN,Yp];have h1:=jp bC (cD aB a);have h2:=jp bC (cD aB b);rw[iv aB]at h1 h2;exact Ys h1 h2
  rw[iv aB,iv aB]at tp;have lM:(bv N (a*b)).length=N:=dj ..;refine nu (fG (e:=0) (b:=.none) tp rfl ?_);rw[List.length_map,lM];simp
  have sM:=uV (h:=[(1,.data 1 ((bv ca a).map u6) true false),(1,.data 1 ((bv cb b).map u6) true false),(1,.data 1 ((bv N (a*b)).map u6) true false)]) (s:=2) rfl lM.symm (len:=(dig Z (a*b)).length) (cap:=N) (iD ltM) (Z7 _);rw[m6 ltM]at sM;simp only[List.set_cons_zero,List.set_cons_succ]at sM
  have sMs:aw [(1,.data 1 ((bv ca a).map u6) true false),(1,.data 1 ((bv cb b).map u6) true false),(1,.data 1 ((bv N (a*b)).map u6) true false)] [.ref 2 1 0 (dig Z (a*b)).length N N]=some ([pcs (a*b)],[(1,.data 1 ((bv ca a).map u6) true false),(1,.data 1 ((bv cb b).map u6) true false),(1,.data 1 ((bv N (a*b)).map u6) true true)]):=by
   simp only[aw,sM];rfl
  refine cdz sMs (vM (n:=a*b) (by have:=iD ltM;omega)) ?_;rw[show f9 (S (ai (a*b)))=true from rfl,if_pos rfl];exact eX rfl
theorem qp{B:Nat}{a b:LnQ}(ha:aI B a)(hb:aI B b):aI B (a++b):=by
 intro x hx;rcases Yn.1 hx with h|h
 .exact ha x h
 .exact hb x h
theorem o6(k:Nat):aI Z (List.replicate k 0):=by intro x hx;rw[List.eq_of_mem_replicate hx];exact bC
theorem sX(k:Nat)(l:LnQ):val Z (l++List.replicate k 0)=val Z l:=by
 rw[val_append]
 have:val Z (List.replicate k 0)=0:=by
  induction k with
  |zero=>rfl
  |succ k ih=>rw[List.replicate_succ];exact(congrArg (fun x=>0+Z*x) ih).trans (by rw[Nat.mul_zero])
 rw[this,Nat.mul_zero,Nat.add_zero]
theorem abW{q ce x B:Nat}(hB:2<=B)(h3:x+q*B*ce=a+b)(l1:a<q)(l2:b<q):x=a+b:=by
 rcases Zg ce with h|h
 .subst h;rw[Nat.mul_zero,Nat.add_zero]at h3;exact h3
 .have h1:=Zw (q*B) h;have h2:=Zw q hB;omega
theorem Vi{D:LnQ}(hA:A.length=n)(hD:D.length=n)(sA:aI Z A)(sD:aI Z D)(va:val Z A=a)(vb:val Z D=b):
  val Z (pX 0 D (D.length+1) 0 0 (A++[0]))=a+b∧aI Z (pX 0 D (D.length+1) 0 0 (A++[0]))∧(pX 0 D (D.length+1) 0 0 (A++[0])).length=n+1:=by
 have sA0:aI Z (A++[0]):=qp sA (o6 1);obtain⟨h1,h2,ce,h3⟩:=Eo (at_:=0) sD (D.length+1) 0 0 (A++[0]) aM aa sA0;have e1:D.drop (0+(D.length+1))=[]:=Y6 aa;have e2:val Z (A++[0])=a:=by rw[show([0]:LnQ)=List.replicate 1 0 from rfl,sX,va]
 have e0:val Z ([]:LnQ)=0:=rfl;rw[e1,e2,e0]at h3;have l1:=jp bC sA;have l2:=jp bC sD;rw[va,hA]at l1;rw[vb,hD]at l2;have hl:(pX 0 D (D.length+1) 0 0 (A++[0])).length=n+1:=by rw[h1.1];simp[hA]
 refine⟨?_,h2,hl⟩;rw[hD]at h3 ⊢;have h2Z:=aB;generalize val Z (pX 0 D (n+1) 0 0 (A++[0]))=x at *;simp only[Yx,vb,Nat.add_zero,Zk,Nat.pow_zero,Wt,Nat.pow_succ]at h3;exact abW h2Z h3 l1 l2
theorem VY(k:Nat):gD k [D.int .u64 0]=(List.replicate k 0).map u6:=by
 induction k with
 |zero=>rfl
 |succ k ih=>rw[List.replicate_succ,Zx,<-ih];rfl
theorem Me(a w:Nat)(hw:w<=18):CP Y F.bD [S (ai a),I w] (if ndg a<=w then .tup [I a,B true]else .tup [I 0,B false]):=by
 refine qu ?_;have la:=lK a;by_cases h:(w:Int)<ndg a
 .rw[if_neg aa];simp[bD,la,h];exact bV rfl rfl
 .rw[if_pos aa];have ap:=Ih (n:=a) (kY a) aa (cG a);have en:biF .eql (.d (.pl .nilIface)) (.d (.pl .nilIface))=some (.d (.bool true)):=rfl;simp[bD,la,h];refine cd (args:=[S (ai a)]) ap ?_;simp[en];exact bV rfl rfl
theorem qn(a:Nat):CP Y F.aQ [S (ai a)] (.tup [B false,S (ai a)]):=by have h:=qy (ai a);have e1:rdN (ai a)=false:=decide_eq_false (qK a);have e2:rdT (ai a)=ai a:=if_neg (qK a);rw[e1,e2]at h;exact h
theorem T5(s:LuQ):CP Y F.bU [B false,S s] (S s):=by refine xD ?_;simp[bU]<;>exact eX rfl
theorem Vl{w:Nat}(h1:1<=w)(h2:w<=17)(hn:n<10^w):CP Y F.gM [S (45::dK n w)] (.tup [I (-(n:Int)),.d (.pl .nilIface)]):=by
 refine sC ?_;have hl:=Ee w n;have hlt:=BZ w n;have hh:=DC w n hn;have he:=UE n w;have hD:=HX w n;have hn17:n<10^17:=Z3 hn (Z5 ae h2);simp only[Nat.reducePow]at hn17;generalize dK n w=L at *;generalize Ah n w=l at *;have hlen:L.length=w:=by rw[hD];simpa using hl
 have hi:ixS (S (45::L)) (.d (.int .i64 0))=some (.d (.int .u8 45)):=by simp[ixS]
 have hlw:nh (S (45::L))=some (I (w+1:Nat)):=by rw[HI];simp[hlen]
 have hsl:slS (S (45::L)) (some (.d (.int .i64 1))) none=some (S L):=by
  have:(1:Int)<=(L.length:Int)+1:=aa;simp[slS,boV,this]
 have hl2:nh (S L)=some (I w):=by rw[HI,hlen]
 simp(disch:=try exact ac)[gM,hlw,hi]
 have hcv:∀(k:kkQ),cvB (S L) [] k=k (lst f8 l) []:=by
  intro k
  have:V.d (.sl L.length (L.map fun b=>.int .u8 b.toNat))=lst f8 l:=by
   unfold lst;rw[hlen,hl,<-he];rfl
  simp only[cvB,this]
 refine gH (l:=[S L]) (h:=[]) (fun q=>?_) ?_
 .simp(disch:=try exact ac)[hsl,hl2]
 show cvB (S L) [] _
 rw[hcv];simp;refine lo (Ii _ _ rfl l [] 0 aM hlt af ?_);simp[hi,hh];refine gH (l:=[I (-(n:Int))]) (h:=[]) (fun q=>?_) ?_
 .simp(disch:=try exact ac)[hh]
 exact⟨[],by simp[aJ,aw,norm]⟩
theorem Vk{w:Nat}(h1:1<=w)(h2:w<=17)(hn:n<10^w):CP Y F.strconv_Atoi [S (45::dK n w)] (.tup [I (-(n:Int)),.d (.pl .nilIface)]):=by refine uU ?_;simp[strconv_Atoi];refine cd (Vl h1 h2 hn) ?_;simp[Hk];exact⟨[],by simp[aJ,aw,norm]⟩
def sdg(z:Int):Nat:=ndg z.natAbs+if z<0 then 1 else 0
theorem J4(z:Int):nh (S (itoa z))=some (I (sdg z)):=by
 rw[HI];unfold itoa sdg;split
 .simp[ai,bi]
 .simp[ai,bi]
theorem KX(h:sdg z<=18):CP Y F.strconv_Atoi [S (itoa z)] (.tup [I z,.d (.pl .nilIface)]):=by
 unfold sdg at h;by_cases hz:z<0
 .rw[if_pos hz]at h;have:=Vk (n:=z.natAbs) (w:=ndg z.natAbs) (kY _) aa (cG _);rw[show(-(z.natAbs:Int))=z by omega]at this;unfold itoa;rw[if_pos hz];exact this
 .rw[if_neg hz]at h;have:=Ih (n:=z.natAbs) (w:=ndg z.natAbs) (kY _) aa (cG _);rw[show((z.natAbs:Nat):Int)=z by omega]at this;unfold itoa;rw[if_neg hz];exact this
theorem nO(z:Int)(w:Nat)(hw:w<=18):CP Y F.bD [S (itoa z),I w] (if sdg z<=w then .tup [I z,B true]else .tup [I 0,B false]):=by
 refine qu ?_;have la:=J4 z;by_cases h:(w:Int)<sdg z
 .rw[if_neg aa];simp[bD,la,h];exact bV rfl rfl
 .rw[if_pos aa];have ap:=KX (z:=z) aa;have en:biF .eql (.d (.pl .nilIface)) (.d (.pl .nilIface))=some (.d (.bool true)):=rfl;simp[bD,la,h];refine cd (args:=[S (itoa z)]) ap ?_;simp[en];exact bV rfl rfl
theorem Dp(z:Int):CP Y F.fW [S (itoa z)] (if sdg z<=9 then .tup [I z,B true]else .tup [I 0,B false]):=by
 refine yn ?_;have la:=J4 z;by_cases h:(9:Int)<sdg z
 .rw[if_neg aa];simp[fW,la,h];exact bV rfl rfl
 .rw[if_pos aa];have ap:=KX (z:=z) aa;have en:biF .eql (.d (.pl .nilIface)) (.d (.pl .nilIface))=some (.d (.bool true)):=rfl;simp[fW,la,h];refine cd (args:=[S (itoa z)]) ap ?_;simp[en];exact bV rfl rfl
theorem vu(z:Int):rdN (itoa z)=decide (z<0):=by
 unfold itoa;split
 .rename_i h;simp[rdN,h]
 .rename_i h;have:=qK z.natAbs;unfold rdN;rw[decide_eq_false this,decide_eq_false h]
theorem nW(z:Int):CP Y F.aQ [S (itoa z)] (.tup [B (decide (z<0)),S (ai z.natAbs)]):=by have h:=qy (itoa z);rw[vu,qJ]at h;exact h
theorem oe(h:ai a=ai b):a=b:=by
 have:=congrArg (fq 0) h
 rwa [dR,dR]at this
theorem yh{a b:Int}(h:itoa a=itoa b):a=b:=by
 have h1:=congrArg rdT h;have h2:=congrArg rdN h;rw[qJ,qJ]at h1;rw[vu,vu]at h2;have h3:=oe h1;have h4:(a<0)↔(b<0):=by simpa using h2
 omega
theorem jT:ai n=[48]↔n=0:=by
 constructor
 .intro h;exact oe (a:=n) (b:=0) (h.trans dP.symm)
 .rintro rfl;exact dP
def sg(b:Bool)(n:Nat):Int:=if b then -(n:Int)else n
theorem gL(b:Bool)(hn9:ndg n<1000000):CP Y F.bU [B b,S (ai n)] (S (itoa (sg b n))):=by
 refine xD ?_;cases b with
 | false=>
  have:itoa (sg false n)=ai n:=by simp[sg,itoa]
  rw[this];simp[bU]<;>exact eX rfl
 | true=>
  by_cases hn:n=0
  .subst hn;have e0:itoa (sg true 0)=[48]:=dP;simp[bU,dP]<;>exact eX e0.symm
  .have h0:¬ai n=[48]:=fun h=>hn (jT.1 h)
   have:itoa (sg true n)=45::ai n:=by
    unfold itoa sg;rw[if_pos rfl,if_pos aa];simp
   rw[this];have hl:(ai n).length=ndg n:=bi _ _;have ha:biS .add (.d (.str [45])) (S (ai n))=some (S (45::ai n)):=ZA [45] (ai n) (by rw[hl];simp;omega);simp[bU,h0,ha]<;>exact eX rfl
theorem xZ(hz:ndg z.natAbs<1000000):CP Y F.lF [S (itoa z)] (S (itoa (-z))):=by
 refine Iy ?_;simp[lF];refine cd (nW z) ?_;simp;have:=gL (!decide (z<0)) hz
 have e:sg (!decide (z<0)) z.natAbs = -z:=by
  unfold sg;by_cases h:z<0
  .simp[h];omega
  .simp[h];omega
 rw[e]at this;refine cd this ?_;exact eX rfl
def bX(n:Nat):Nat:=(dig Z n).length
theorem B4:bX n=ndg n/9+1∨bX n+1=ndg n/9+1:=by
 unfold bX;have h1:(dig Z n).length<=ndg n/9+1:=(oI aB).2 (Z3 (cG n) (by rw[yO];exact Z5 ae aa))
 have h2:ndg n<=9*(dig Z n).length∨n=0:=by
  rcases Zg n with h|h
  .omega
  .left;have h3:n<Z^(dig Z n).length:=(oI aB).1 (Z7 _);rw[yO]at h3;refine cS h3 ?_;rcases Zg (dig Z n).length with h4|h4
   .grind
   .omega
 rcases h2 with h2|rfl
 .omega
 .have:ndg 0=1:=aD;omega
theorem Hw(n:Nat):n<Z^bX n:=(oI aB).1 (Z7 _)
theorem yp(n:Nat):bv (bX n) n=dig Z n:=by
 have:=m6 (Hw n)
 rwa [Z1 (by rw[dj];exact Z7 _)]at this
theorem yo{c:Nat}(h:bX n+1=c):bv c n=dig Z n++[0]:=by rw[<-h,zW (Hw n),yp]
theorem OT{s t n c:Nat}{h:Hp}{q:kkQ}{u:PU q}(hst:s≠t)(hg:h[s]?=some (1,.data 1 ((bv c n).map u6) true false))(ht:h[t]?=some nnQ)(hL:bX n=c∨bX n+1=c)(hc:c<1000000)
  (hq:∀s' e' ex h',h'.length=h.length->h'[s']?=some (e',.data 1 ((dig Z n++[0]).map u6) ex false)->(s'=s∨s'=t)->(∀j,j≠s'->h'[j]?=h[j]?)->q (.ref s' e' 0 (bX n+1) (bX n+1) (bX n+1)) h') :
  rh (apV false t 1 8 (.ref s 1 0 (bX n) c c) (.d (.sl 1 [u6 0])) h) q u:=by
 have hl:=bc hg;have hl2:=bc ht;rcases hL with hL|hL
 .subst hL;rw[yp]at hg;refine OS hg ht rfl aa ?_;exact hq t 1 false _ af (by grind) (.inr rfl) (fun j hj=>by rw[List.getElem?_set_ne (Ne.symm hj)])
 .rw[yo hL]at hg;have hlen:(dig Z n).length=bX n:=rfl;refine MO (x:=0) hg (by grind) aa ?_;rw[<-hL];refine hq s 1 true _ af ?_ (.inl rfl) (fun j hj=>by rw[List.getElem?_set_ne (Ne.symm hj)])
  have e1:(dig Z n++[0]).take (bX n)++[0]++(dig Z n++[0]).drop (bX n+1)=dig Z n++[0]:=by
   rw[<-hlen,Wq,Y6 af,Zj]
  grind
theorem OR{s t n c k:Nat}{h:Hp}{q:kkQ}{u:PU q}(hst:s≠t)(hg:h[s]?=some (1,.data 1 ((bv c n).map u6) true false))(ht:h[t]?=some nnQ)(hL:bX n=c∨bX n+1=c)(hc:c+k<1000000)
  (hq:∀t1 s' h',h'.length=h.length->(s'=s∨s'=t)->(∀j,j≠s'->h'[j]?=h[j]?)->(∃(e':Nat)(l:LnQ)(ex:Bool),h'[s']?=some (e',.data 1 (l.map u6) ex false)) ->
   (∀P:Hp->Prop,(∀g,P g->g[s']?=h'[s']?)->RdS P t1 (dig Z n++List.replicate k 0))->q t1 h') :
  rh (apZ false t 1 8 [.int .u64 0] (.ref s 1 0 (bX n) c c) (I (k:Nat)) h) q u:=by
 have hl:=bc hg;have hl2:=bc ht;have hlen:(dig Z n).length=bX n:=rfl;unfold rh apZ;simp only;rw[if_pos ⟨aa,aa⟩];unfold apC;simp only[Int.toNat_natCast]
 have rdOf:∀{s' e' len cap tot:Nat}{l:LnQ}{ex:Bool}{h':Hp},h'[s']?=some (e',.data 1 (l.map u6) ex false)->tot=l.length->len<=tot->l.take len=dig Z n++List.replicate k 0 ->
   ∀P:Hp->Prop,(∀g,P g->g[s']?=h'[s']?)->RdS P (.ref s' e' 0 len cap tot) (dig Z n++List.replicate k 0):=by
  intro s' e' len cap tot l ex h' hg' htot hle htk P hP;refine⟨?_,fun g i hg2 hi=>?_⟩
  .have:(dig Z n++List.replicate k 0).length=len:=by rw[<-htk,Zr];omega
   simp_all
  .have:=(Cb (h:=g) (cap:=cap) ((hP g hg2).trans hg') htot hle).2 [] i (by grind)
   grind
 by_cases hk:k=0
 .rw[if_pos hk,if_pos aa];subst hk;refine hq _ s h rfl (.inl rfl) (fun _ _=>rfl) ⟨_,_,_,hg⟩ ?_;refine rdOf hg (dj ..).symm aa ?_;rw[List.replicate_zero,Zj];rcases hL with hL|hL
  .rw[<-hL,yp,<-hlen,Xl]
  .rw[yo hL,<-hlen,Wq]
 .rw[if_neg hk,VY];simp only[d6 hg];rw[if_pos ⟨trivial,by simp[dj],aa,by simp[dj],af⟩];by_cases hin:bX n+k<=c
  .rw[if_pos hin];have hk1:k=1:=aa;subst hk1;have hL2:bX n+1=c:=aa;simp only[Bool.or_self,Ze,if_false,b6]
   have e1:((bv c n).map u6).take (0+bX n*1)++(List.replicate 1 0).map u6++((bv c n).map u6).drop (0+(bX n+1)*1)=(dig Z n++[0]).map u6:=by
    rw[yo hL2,Zk,Zk,Ye,Ye,<-hlen];simp[<-List.map_take,<-List.map_drop]
   rw[e1];refine hq _ s _ af (.inl rfl) (fun j hj=>by rw[List.getElem?_set_ne (Ne.symm hj)]) ⟨1,dig Z n++[0],true,by grind⟩ ?_;refine rdOf (l:=dig Z n++[0]) (ex:=true) (by grind) (by grind) aa ?_
   grind
  .rw[if_neg hin,if_pos aa];simp only[if_true,new,ht]
   have e1:(((bv c n).map u6).drop 0).take (bX n*1)++(List.replicate k 0).map u6=(dig Z n++List.replicate k 0).map u6:=by
    rw[Yx,Ye,<-List.map_take,List.map_append];congr 2;rcases hL with hL|hL
    .rw[<-hL,yp,<-hlen,Xl]
    .rw[yo hL,<-hlen,Wq]
   rw[e1];have e2:bX n*1+((List.replicate k 0).map u6).length=bX n+k:=af;rw[e2];refine hq _ t _ af (.inr rfl) (fun j hj=>by rw[List.getElem?_set_ne (Ne.symm hj)]) ⟨1,dig Z n++List.replicate k 0,false,by grind⟩ ?_;refine rdOf (l:=dig Z n++List.replicate k 0) (ex:=false) (by grind) (by grind) aa ?_
   grind[Z1]
def NV(h:Hp):Prop:=∀(j:Nat)(x:Nat×Bk),h[j]?=some x->∀b,aA b x.2=true
theorem NV.all{h:Hp}(hn:NV h)(b:Nat):(h.all fun x=>aA b x.2)=true:=by rw[Z2];intro x hx;obtain⟨j,hj⟩:=Wv.1 hx;exact hn j x hj b
theorem NV.upd{h':Hp}(hn:NV h)(hs:h'[s]?=some (e,.data 1 (l.map u6) ex fr))(ho:∀j,j≠s->h'[j]?=h[j]?):NV h':=by
 intro j x hj b;by_cases e1:j=s
 .subst e1;rw[hs]at hj;cases hj;rfl
 .rw[ho j e1]at hj;exact hn j x hj b
theorem set_same{α:Type}{l:List α}{x:α}(h:l[i]?=some x):l.set i x=l:=by
 apply X9;intro j;by_cases e:i=j
 .grind
 .rw[List.getElem?_set_ne e]
theorem Nk(hs:h[s]?=some (e,.data 1 (l.map u6) ex false)):sP h s e ex l=h:=set_same hs
theorem FE{h:Hp}{s e n m:Nat}{ex:Bool}{L:LnQ}{w:V}(hn:NV h)(hlt:s<h.length)(h3:L.length=n)(b1:val Z L=m)(b2:aI Z L)(hm:n<1000000)(kk:V->V)(hkk:∀h':Hp,out w (kk (S (ai m))) h'){sl:Nat} :
  cai (CX Y).i (sP h s e ex L) (V.fn F.aE [] []) [.ref s e 0 n n n] sl fun v22 h=>
    cal (CX Y).p h (V.fn F.aP [] []) [v22] fun v23 h=>out w (kk v23) h:=by
 have nv:NV (sP h s e ex L):=hn.upd (qF hlt) (fun j hj=>by grind[sP]);have tr:=rU (h:=sP h s e ex L) (nv.all _) (s:=s) (e:=e) (ex:=ex) (fr:=false) (qF hlt) h3.symm (len:=n) (cap:=n) (Z7 _) aa (Z7 _);have ht:ir (L.take n)=dig Z m:=by rw[Z1 aa,<-b1,qi aB b2]
 rw[ht]at tr;refine io tr ?_ af;have lt:m<Z^n:=by rw[<-b1,<-h3];exact jp bC b2
 have hl:(dig Z m).length<=n:=(oI aB).2 lt;have sM:=uV (h:=sP h s e ex L) (s:=s) (e:=e) (ex:=ex) (fr:=false) (qF hlt) h3.symm (len:=(dig Z m).length) (cap:=n) hl (Z7 _)
 have ht2:L.take (dig Z m).length=dig Z m:=by
  have e:ir L=dig Z m:=by rw[<-ht,Z1 aa]
  obtain⟨z,hz⟩:=Fy L;rw[e]at hz;rw[hz];exact Wq ..
 rw[ht2]at sM;refine cdz (u:=.mk) (by simp only[aw,sM];rfl) (vM (n:=m) aa) ?_
 grind
theorem xv(ha:ndg a<1000000)(hb:ndg b<1000000):CP Y F.fX [S (ai a),S (ai b)] (S (ai (a+b))):=by
 refine Fb ?_;have bo:=B7 a b;by_cases h18:ndg a<=18∧ndg b<=18
 .rw[if_pos h18]at bo;have g3:10^ndg a<=10^18:=Z5 ae h18.1;have g4:10^ndg b<=10^18:=Z5 ae h18.2;have b1:a<1000000000000000000:=Z3 (cG a) g3;have b2:b<1000000000000000000:=Z3 (cG b) g4;simp[fX];refine cd bo ?_;obtain⟨m,hm⟩:=mnQ (a+b);have em:(a:Int)+(b:Int)=(m:Int):=aa
  rw[hm];simp(disch:=try exact ac)[em];refine cd (zy (n:=m) aa) ?_;exact eX rfl
 rw[if_neg h18]at bo;obtain⟨ca,hca⟩:=nmQ (ndg a/9+1);obtain⟨cb,hcb⟩:=nmQ (ndg b/9+1);have cA:=rL (h:=[nnQ,nnQ,nnQ,nnQ,nnQ,nnQ]) rfl (n:=a) aa hca;have cB:=rL (h:=[(1,.data 1 ((bv ca a).map u6) true false),nnQ,nnQ,nnQ,nnQ,nnQ]) rfl (n:=b) aa hcb
 have LA:bX a=ca∨bX a+1=ca:=by rw[hca];exact B4
 have LB:bX b=cb∨bX b+1=cb:=by rw[hcb];exact B4
 have hli:∀h:Hp,dW 1 [D.int .u64 0] [(0,V.d (D.int .u64 0))] h=some ([u6 0],h):=fun h=>by rfl
 have main:∀(p q cp cq sp sq:Nat)(h:Hp),p+q=a+b->bX q<=bX p->cp<200000->cq<200000->(bX p=cp∨bX p+1=cp)->(bX q=cq∨bX q+1=cq)->sp<2->sq<2->sp≠sq->h.length=6->NV h ->
   h[sp]?=some (1,.data 1 ((bv cp p).map u6) true false)->h[sq]?=some (1,.data 1 ((bv cq q).map u6) true false)->h[2]?=some nnQ->h[3]?=some nnQ ->
   apV false 2 1 8 (.ref sp 1 0 (bX p) cp cp) (.d (.sl 1 [u6 0])) h fun v15 h=>
   bnd (bf v15) fun v16=>
   bnd (biI .sub v16 (.d (.int .i64 1))) fun v17=>
   bnd (bf (.ref sq 1 0 (bX q) cq cq)) fun v18=>
   bnd (biI .sub v17 v18) fun v19=>
   apZ false 3 1 8 [.int .u64 0] (.ref sq 1 0 (bX q) cq cq) v19 h fun v20 h=>
   cai (CX Y).i h (.fn F.cI [] []) [v15,v20,(.d (.int .i64 0))] 4 fun v21 h=>
   cai (CX Y).i h (.fn F.aE [] []) [v15] 5 fun v22 h=>
   cal (CX Y).p h (.fn F.aP [] []) [v22] fun v23 h=>
   out (S (ai (a+b))) v23 h:=by
  intro p q cp cq sp sq h hpq hle hcp hcq LP LQ hsp hsq hne hlen hnv gp gq g2 g3;refine OT (u:=.mk) (t:=2) aa gp g2 LP aa fun s' e' ex h1 l1 gs' hs' o1=>?_
  obtain⟨k,hk⟩:=nmQ (bX p-bX q);have e1:(bX p:Int)+1-1-(bX q:Int)=(k:Int):=aa;have hr1:bf (.ref s' e' 0 (bX p+1) (bX p+1) (bX p+1))=some (I (bX p+1:Nat)):=rfl;have hr2:bf (.ref sq 1 0 (bX q) cq cq)=some (I (bX q:Nat)):=rfl
  have hb1:biI .sub (I ((bX p+1:Nat):Int)) (.d (.int .i64 1))=some (I (bX p)):=by
   rw[yH,show(((bX p+1:Nat):Int)-1)=(bX p:Int) by omega,rP aa aa]
  have hb2:biI .sub (I (bX p:Int)) (I (bX q:Int))=some (I k):=by
   rw[yH,show((bX p:Int)-(bX q:Int))=(k:Int) by omega,rP aa aa]
  simp only[hr1,hr2,hb1,hb2,bnd];have nv1:=hnv.upd gs' o1;have hqs:sq≠s':=by rcases hs' with rfl|rfl<;>omega
  have h3s:3≠s':=by rcases hs' with rfl|rfl<;>omega
  refine OR (u:=.mk) (t:=3) aa ((o1 sq hqs).trans gq) ((o1 3 h3s).trans g3) LQ aa fun t1 s2 h2 l2 hs2 o2 ⟨e2,l2',ex2,g2'⟩ rd=>?_
  have nv2:=nv1.upd g2' o2;have hss:s'≠s2:=by rcases hs2 with rfl|rfl<;>omega
  have gs2:h2[s']?=some (e',.data 1 ((dig Z p++[0]).map u6) ex false):=(o2 s' hss).trans gs';have lt2:s'<h2.length:=bc gs2;have hdl:(dig Z q++List.replicate k 0).length=bX p:=by simp only[Zs,Zc];show bX q+k=_;omega
  have sD:aI Z (dig Z q++List.replicate k 0):=qp (cD aB q) (o6 _);have vD:val Z (dig Z q++List.replicate k 0)=q:=by rw[sX,iv aB]
  have rdS:=rd (fun t=>∃l,t=sP h2 s' e' ex l) (fun g ⟨l,hg⟩=>by grind[sP]);obtain⟨c1,c2,c3⟩:=Vi (n:=bX p) rfl hdl (cD aB p) sD (iv aB p) vD;have bk:=KV (at_:=0) (tot:=bX p+1) (l:=dig Z p++[0]) (ex:=ex) (e:=e') (s:=s') (h:=h2) (nv2.all _) lt2 rdS sD aa aa (by simp[bX]) (qp (cD aB p) (o6 1))
  rw[Nk gs2]at bk;refine io bk ?_ af;rw[hpq]at c1;exact FE nv2 lt2 c3 c1 c2 aa (fun v=>v) (fun _=>eX rfl)
 simp[fX];refine cd bo ?_;simp;refine nu (fG (e:=0) (b:=.none) cA rfl ?_);rw[List.length_map,dj];simp;refine nu (fG (e:=0) (b:=.none) cB rfl ?_);rw[List.length_map,dj]
 have nv:NV [(1,.data 1 ((bv ca a).map u6) true false),(1,.data 1 ((bv cb b).map u6) true false),nnQ,nnQ,nnQ,nnQ]:=by
  intro j x hj b';rcases Wv.2 ⟨j,hj⟩with hm;simp only[Zt,Y0,or_false]at hm;rcases hm with rfl|rfl|rfl|rfl|rfl|rfl<;>rfl
 by_cases g1:((dig Z a).length:Int)<((dig Z b).length:Int)
 .simp[g1];refine aj ?_;simp[hli];exact main b a cb ca 1 0 _ aa (by grind[bX]) aa aa LB LA aa aa aa rfl nv rfl rfl rfl rfl
 .simp[g1];refine aj ?_;simp[hli];exact main a b ca cb 0 1 _ rfl (by grind[bX]) aa aa LA LB aa aa aa rfl nv rfl rfl rfl rfl
theorem Gi:∀(s t:LuQ)(c:Nat),s.length=t.length->s.all pq=true->t.all pq=true->Op.bytesLess s t=decide (fq c s<fq c t)
 |[],[],c,_,_,_=>by simp[Op.bytesLess]
 | x::s,y::t,c,hl,hs,ht=>by
  simp only[List.length_cons,Nat.add_right_cancel_iff]at hl;simp only[List.all_cons,Z8]at hs ht;have hx:=ly.1 hs.1;have hy:=ly.1 ht.1
  have key:∀(s t:LuQ)(u v:Nat),s.length=t.length->s.all pq=true->u<v->fq u s<fq v t:=by
   intro s t u v hl hs h;have h1:=sE s u hs;have h2:=DF t v;rw[<-hl]at h2;have h3:(u+1)*10^s.length<=v*10^s.length:=Zv _ h;omega
  rw[jW,jW];have ex:x<y↔x.toNat<y.toNat:=UInt8.lt_iff_toNat_lt;have ey:y<x↔y.toNat<x.toNat:=UInt8.lt_iff_toNat_lt;rcases Nat.lt_trichotomy x.toNat y.toNat with h|h|h
  .have:=key s t (c*10+(x.toNat-48)) (c*10+(y.toNat-48)) hl hs.2 aa
   grind[Op.bytesLess]
  .have e:x=y:=UInt8.toNat_inj.1 h;subst e;rw[<-Gi s t _ hl hs.2 ht.2];simp[Op.bytesLess]
  .have:=key t s (c*10+(y.toNat-48)) (c*10+(x.toNat-48)) hl.symm ht.2 aa;rw[decide_eq_false aa]
   grind[Op.bytesLess]
theorem Gm(n:Nat):(ai n).all pq=true:=vz _ _
theorem Gg(h:ndg a=ndg b):Op.bytesLess (ai a) (ai b)=decide (a<b):=by rw[Gi (ai a) (ai b) 0 (by rw[ai,ai,bi,bi,h]) (Gm _) (Gm _),dR,dR]
theorem S9(h:ndg a<ndg b):a<b:=by
 rcases Zl a b with g|g
 .exact g
 .have:=cE g;omega
theorem Ei(h:a<b):Big.cmp a b = -1:=if_pos h
theorem Ej(h:b<a):Big.cmp a b=1:=(if_neg aa).trans (if_pos h)
theorem cmp_eq:Big.cmp a a=0:=(if_neg aa).trans (if_neg aa)
theorem qt(ha:ndg a<1000000)(hb:ndg b<1000000):CP Y F.cg [S (ai a),S (ai b)] (I (Big.cmp a b)):=by
 refine yB ?_;have la:=lK a;have lb:=lK b;by_cases hl:ndg a=ndg b
 .have h1:=Gg hl;have h2:=Gg hl.symm;have e1:biS .lss (S (ai a)) (S (ai b))=some (.d (.bool (decide (a<b)))):=by rw[<-h1];rfl
  have e2:biS .gtr (S (ai a)) (S (ai b))=some (.d (.bool (decide (b<a)))):=by
   have h3:(ai a == ai b)=decide (a=b):=by
    rw[Yi];simp only[beq_iff_eq,decide_eq_true_eq];exact⟨oe,fun h=>by rw[h]⟩
   have h4:decide (b<a) = !(decide (a<b)||decide (a=b)):=by
    rw[Yi];simp only[decide_eq_true_eq,Zb,Bool.or_eq_false_iff,decide_eq_false_iff_not];omega
   rw[h4,<-h1,<-h3];rfl
  rw[hl]at la;by_cases g1:a<b
  .simp[cg,la,lb,e1,e2,g1]
   grind[aV,Ei]
  .by_cases g2:b<a
   .simp[cg,la,lb,e1,e2,g1,g2]
    grind[aV,Ej]
   .simp[cg,la,lb,e1,e2,g1,g2];have:a=b:=aa
    grind[aV,cmp_eq]
 .have hne:¬((ndg a:Int)=(ndg b:Int)):=aa;rcases Zl (ndg a) (ndg b)with h|h
  .have h3:=S9 h;have m1:mxI true [.d (.int .i64 (-1)),I ((ndg a:Int)-ndg b)]=some (I (-1)):=by simp[mxI,mx2];omega
   have m2:mxI false [.d (.int .i64 1),I (-1)]=some (I (-1)):=rfl;simp(disch:=try exact ac)[cg,la,lb,hne,m1,m2]
   grind[aV,Ei]
  .have h3:b<a:=S9 aa;have m1:mxI true [.d (.int .i64 (-1)),I ((ndg a:Int)-ndg b)]=some (I ((ndg a:Int)-ndg b)):=by simp[mxI,mx2];omega
   have m2:mxI false [.d (.int .i64 1),I ((ndg a:Int)-ndg b)]=some (I 1):=by simp[mxI,mx2];omega
   simp(disch:=try exact ac)[cg,la,lb,hne,m1,m2]
   grind[aV,Ej]
theorem JF:1<Z:=aB
theorem Q2{D:LnQ}(hA:A.length=n)(hD:D.length=n)(sA:aI Z A)(sD:aI Z D)(va:val Z A=a)(vb:val Z D=b)(hba:b<=a):
  val Z (iJ 1 0 D (D.length+1) 0 0 0 (A++[0])).2=a-b∧aI Z (iJ 1 0 D (D.length+1) 0 0 0 (A++[0])).2∧(iJ 1 0 D (D.length+1) 0 0 0 (A++[0])).2.length=n+1:=by
 have sA0:aI Z (A++[0]):=qp sA (o6 1);have l2:=jp bC sD;rw[vb,hD]at l2
 obtain ⟨h1,h2,h3,h4⟩:=Cp (g:=1) (at_:=0) JF sD (D.length+1) 0 0 0 (A++[0]) aM bC (Yf _) sA0 (by
  rw[Yx,vb,hD,Wt,Zk,Nat.pow_succ];exact Z3 l2 (Y4 _ bC))
 have e2:val Z (A++[0])=a:=by rw[show([0]:LnQ)=List.replicate 1 0 from rfl,sX,va]
 have hl:(iJ 1 0 D (D.length+1) 0 0 0 (A++[0])).2.length=n+1:=by rw[h1.1];simp[hA]
 refine⟨?_,h2,hl⟩;have h5:=jp bC h2;rw[hl]at h5;rw[e2,Yx,vb,hD]at h4;rw[hD]at h3 h5 ⊢;generalize val Z (iJ 1 0 D (n+1) 0 0 0 (A++[0])).2=x at *;generalize(iJ 1 0 D (n+1) 0 0 0 (A++[0])).1=c at *;simp only[Zk,Nat.add_zero,Nat.pow_zero,Wt]at h4;rcases Zg c with h|h
 .subst h;omega
 .have:c=1:=aa;subst this;rw[Ye]at h4;omega
theorem wj(hba:b<=a)(ha:ndg a<1000000):CP Y F.gQ [S (ai a),S (ai b)] (.tup [S (ai (a-b)),I 0]):=by
 have hb:ndg b<1000000:=Zh (cE hba) ha;refine E5 ?_;have bo:=B7 a b;have dc:=qt ha hb
 have hc:¬Big.cmp a b<0:=by
  unfold Big.cmp;rw[if_neg aa];split<;>omega
 have hc2:(-1:Int)<=Big.cmp a b∧Big.cmp a b<=1:=by
  unfold Big.cmp;split
  .omega
  .split<;>omega
 generalize Big.cmp a b=cc at *;simp[gQ];refine cd dc ?_;simp[hc];by_cases h18:ndg a<=18∧ndg b<=18
 .rw[if_pos h18]at bo;have g3:10^ndg a<=10^18:=Z5 ae h18.1;have b1:a<1000000000000000000:=Z3 (cG a) g3;refine cd bo ?_;obtain⟨m,hm⟩:=mnQ (a-b);have em:(a:Int)-(b:Int)=(m:Int):=aa;rw[hm];simp(disch:=try exact ac)[em];refine cd (zy (n:=m) aa) ?_;exact bV rfl rfl
 rw[if_neg h18]at bo;obtain⟨ca,hca⟩:=nmQ (ndg a/9+1);obtain⟨cb,hcb⟩:=nmQ (ndg b/9+1);have cA:=rL (h:=[nnQ,nnQ,nnQ,nnQ,nnQ,nnQ,nnQ]) rfl (n:=a) aa hca;have LA:bX a=ca∨bX a+1=ca:=by rw[hca];exact B4
 have LB:bX b=cb∨bX b+1=cb:=by rw[hcb];exact B4
 have hle:bX b<=bX a:=(oI aB).2 (Zh hba (Hw a));have hli:∀h:Hp,dW 1 [D.int .u64 0] [(0,V.d (D.int .u64 0))] h=some ([u6 0],h):=fun h=>by simp[dW,gD,iW,toD,u6]
 refine cd bo ?_;simp;refine nu (fG (e:=0) (b:=.none) cA rfl ?_);rw[List.length_map,dj];simp[hli]
 have nv:NV [(1,.data 1 ((bv ca a).map u6) true false),nnQ,nnQ,nnQ,nnQ,nnQ,nnQ]:=by
  intro j x hj b';rcases Wv.2 ⟨j,hj⟩with hm;simp only[Zt,Y0,or_false]at hm;rcases hm with rfl|rfl|rfl|rfl|rfl|rfl|rfl<;>rfl
 refine OT (s:=0) (t:=1) (n:=a) (c:=ca) aa rfl rfl LA aa fun s1 e1 ex1 h1 l1 g1 hs1 o1=>?_
 have nv1:=nv.upd g1 o1;have k1:∀j,2<=j->h1[j]?=([(1,.data 1 ((bv ca a).map u6) true false),nnQ,nnQ,nnQ,nnQ,nnQ,nnQ]:Hp)[j]?:=fun j hj=>o1 j aa
 have hr1:bf (.ref s1 e1 0 (bX a+1) (bX a+1) (bX a+1))=some (I (bX a+1:Nat)):=rfl
 have hb1:biI .sub (I ((bX a+1:Nat):Int)) (.d (.int .i64 1))=some (I (bX a)):=by
  rw[yH,show(((bX a+1:Nat):Int)-1)=(bX a:Int) by omega,rP aa aa]
 -- the second number,twice
 have cB:=rL (h:=h1) (nv1.all _) (n:=b) aa hcb;refine nu (u:=.mk) (fG (e:=0) (b:=.none) cB (k1 2 aa) ?_);rw[List.length_map,dj];have l2:(h1.set 2 (1,.data 1 ((bv cb b).map u6) true false)).length=7:=by simp[l1]
 have n2:(2:Nat)<h1.length:=by rw[l1];simp
 have g2:(h1.set 2 (1,.data 1 ((bv cb b).map u6) true false))[2]?=some (1,.data 1 ((bv cb b).map u6) true false):=by simp[n2]
 have o2:∀j,j≠2->(h1.set 2 (1,.data 1 ((bv cb b).map u6) true false))[j]?=h1[j]?:=fun j hj=>by rw[List.getElem?_set_ne (Ne.symm hj)]
 have nv2:=nv1.upd g2 o2;generalize h1.set 2 (1,.data 1 ((bv cb b).map u6) true false)=h2 at *
 show bnd (bf (.ref s1 e1 0 (bX a+1) (bX a+1) (bX a+1))) _
 simp only[hr1,hb1,bnd];have cB2:=rL (h:=h2) (nv2.all _) (n:=b) aa hcb;refine nu (u:=.mk) (fG (e:=0) (b:=.none) cB2 ((o2 3 ae).trans (k1 3 aa)) ?_);rw[List.length_map,dj];have n3:(3:Nat)<h2.length:=by rw[l2];simp
 have g3:(h2.set 3 (1,.data 1 ((bv cb b).map u6) true false))[3]?=some (1,.data 1 ((bv cb b).map u6) true false):=by simp[n3]
 have o3:∀j,j≠3->(h2.set 3 (1,.data 1 ((bv cb b).map u6) true false))[j]?=h2[j]?:=fun j hj=>by rw[List.getElem?_set_ne (Ne.symm hj)]
 have nv3:=nv2.upd g3 o3;generalize h2.set 3 (1,.data 1 ((bv cb b).map u6) true false)=h3 at *;obtain⟨k,hk⟩:=nmQ (bX a-bX b);have hr2:bf (.ref 3 (0+1) 0 (bX b) cb cb)=some (I (bX b:Nat)):=rfl
 have hb2:biI .sub (I (bX a:Int)) (I (bX b:Int))=some (I k):=by
  rw[yH,show((bX a:Int)-(bX b:Int))=(k:Int) by omega,rP aa aa]
 simp only[show bf (V.ref 3 (0+1) 0 (dig Z b).length cb cb)=some (I (bX b:Nat))from rfl,hb2];have q2:h3[2]?=some (1,.data 1 ((bv cb b).map u6) true false):=(o3 2 ae).trans g2;have q4:h3[4]?=some nnQ:=((o3 4 ae).trans (o2 4 ae)).trans (k1 4 aa)
 refine OR (u:=.mk) (s:=2) (t:=4) aa q2 q4 LB aa fun t1 s4 h4 l4 hs4 o4 ⟨e4,l4',ex4,g4⟩ rd=>?_
 have nv4:=nv3.upd g4 o4;have hss:s1≠s4:=by rcases hs1 with rfl|rfl<;>rcases hs4 with rfl|rfl<;>omega
 have h12:s1≠2∧s1≠3:=by rcases hs1 with rfl|rfl<;>omega
 have gs:h4[s1]?=some (e1,.data 1 ((dig Z a++[0]).map u6) ex1 false):=(((o4 s1 hss).trans (o3 s1 h12.2)).trans (o2 s1 h12.1)).trans g1;have lt4:=bc gs;have hdl:(dig Z b++List.replicate k 0).length=bX a:=by simp only[Zs,Zc];show bX b+k=_;omega
 have sD:aI Z (dig Z b++List.replicate k 0):=qp (cD aB b) (o6 _);have vD:val Z (dig Z b++List.replicate k 0)=b:=by rw[sX,iv aB]
 have rdS:=rd (fun t=>∃l,t=sP h4 s1 e1 ex1 l) (fun g ⟨l,hg⟩=>by rw[hg];unfold sP;rw[List.getElem?_set_ne hss]);obtain⟨c1,c2,c3⟩:=Q2 (n:=bX a) rfl hdl (cD aB a) sD (iv aB a) vD hba
 have bk:=IU (g:=1) (at_:=0) (tot:=bX a+1) (l:=dig Z a++[0]) (ex:=ex1) (e:=e1) (s:=s1) (h:=h4) (nv4.all _) lt4 rdS sD JF (by rw[hdl];omega) aa (by simp[bX]) (qp (cD aB a) (o6 1));rw[Nk gs]at bk;refine nu (u:=.mk) (io bk ?_ af);exact FE nv4 lt4 c3 c1 c2 aa (fun v=>.tup [v,I 0]) (fun _=>bV rfl rfl)
theorem qc{w:Nat}(h:sdg z<=w):z.natAbs<10^w:=by
 have:ndg z.natAbs<=w:=by unfold sdg at h;omega
 exact Z3 (cG _) (Z5 ae this)
theorem kt(h1 : -9223372036854775808<z)(h2:z<9223372036854775808):CP Y F.dF [I z] (S (itoa z)):=by refine Ce ?_;simp[dF];refine cd (BS h1 h2) ?_;exact eX rfl
theorem qV(ha:ndg a<=k)(hb:ndg b<=k):ndg (a+b)<=k+1:=by have h1:a<10^k:=Z3 (cG a) (Z5 ae ha);have h2:b<10^k:=Z3 (cG b) (Z5 ae hb);exact cS (by rw[Nat.pow_succ];omega) aa
theorem Vr(hz:ndg z.natAbs<999999)(hw:ndg w.natAbs<999999): 
  cal (CX Y).p [] (.fn F.aQ [] []) [S (itoa z)] fun v6 h=>
  ext v6 0 fun v7=>
  ext v6 1 fun v8=>
  cal (CX Y).p h (.fn F.aQ [] []) [S (itoa w)] fun v9 h=>
  ext v9 0 fun v10=>
  ext v9 1 fun v11=>
  bnd (biB .eql v7 v10) fun v12=>
  cnd v12 (
   cal (CX Y).p h (.fn F.fX [] []) [v8,v11] fun v13 h=>
   cal (CX Y).p h (.fn F.bU [] []) [v7,v13] fun v14 h=>
   out (S (itoa (z+w))) v14 h) (
   cal (CX Y).p h (.fn F.cg [] []) [v8,v11] fun v15 h=>
   bnd (biI .lss v15 (.d (.int .i64 0))) fun v16=>
   jn (fun l17 h=>
    cal (CX Y).p h (.fn F.gQ [] []) [(ge l17 1),(ge l17 2)] fun v19 h=>
    ext v19 0 fun v20=>
    ext v19 1 fun v21=>
    cal (CX Y).p h (.fn F.bU [] []) [(ge l17 0),v20] fun v22 h=>
    out (S (itoa (z+w))) v22 h) fun q18=>
    cnd v16 (
     q18 [v10,v11,v8] h) (
     q18 [v7,v8,v11] h)):=by
 simp;refine cd (nW z) ?_;simp;refine cd (nW w) ?_;have eb:biB .eql (B (decide (z<0))) (B (decide (w<0)))=some (B (decide (z<0) == decide (w<0))):=rfl;simp[eb];by_cases hs:(z<0↔w<0)
 .simp[hs];refine cd (xv (a:=z.natAbs) (b:=w.natAbs) aa aa) ?_;simp;have hk:ndg (z.natAbs+w.natAbs)<=999999:=qV aa aa;refine cd (gL (decide (z<0)) (n:=z.natAbs+w.natAbs) aa) ?_;refine eX ?_;congr 1;unfold sg;by_cases h:z<0
  .simp[h];omega
  .simp[h];omega
 .simp[hs];refine cd (qt (a:=z.natAbs) (b:=w.natAbs) aa aa) ?_;simp;by_cases hlt:z.natAbs<w.natAbs
  .have hc:Big.cmp z.natAbs w.natAbs<0:=by rw[Ei hlt];decide
   refine gH (l:=[B (decide (w<0)),S (ai w.natAbs),S (ai z.natAbs)]) (h:=[]) (fun q=>by simp[hc]) ?_;simp;refine cd (wj (a:=w.natAbs) (b:=z.natAbs) aa aa) ?_;simp;refine cd (gL (decide (w<0)) (n:=w.natAbs-z.natAbs) (Zh (cE (Nat.sub_le ..)) aa)) ?_;refine eX ?_;congr 1;unfold sg;by_cases h:w<0
   .simp[h];omega
   .simp[h];omega
  ·have hc:¬Big.cmp z.natAbs w.natAbs<0:=by
    rcases Nat.eq_or_lt_of_not_lt hlt with h|h
    .rw[h,cmp_eq];decide
    .rw[Ej h];decide
   refine gH (l:=[B (decide (z<0)),S (ai z.natAbs),S (ai w.natAbs)]) (h:=[]) (fun q=>by simp[hc]) ?_;simp;refine cd (wj (a:=z.natAbs) (b:=w.natAbs) aa aa) ?_;simp;refine cd (gL (decide (z<0)) (n:=z.natAbs-w.natAbs) (Zh (cE (Nat.sub_le ..)) aa)) ?_;refine eX ?_;congr 1;unfold sg;by_cases h:z<0
   .simp[h];omega
   .simp[h];omega
theorem rR(hz:ndg z.natAbs<999999)(hw:ndg w.natAbs<999999):CP Y F.cJ [S (itoa z),S (itoa w)] (S (itoa (z+w))):=by
 refine IC ?_;have l1:=nO z 18 ae;have l2:=nO w 18 ae;have tl:=Vr hz hw;simp[cJ];refine cd l1 ?_;by_cases h1:sdg z<=18
 .rw[if_pos h1];simp;by_cases h2:sdg w<=18
  .rw[if_pos h2]at l2;refine aj ?_;simp;refine cd l2 ?_;have b1:=qc h1;have b2:=qc h2;simp only[Nat.reducePow]at b1 b2;obtain⟨m,hm⟩:=mnQ (z+w);rw[hm];simp(disch:=try exact ac)[hm];refine cd (kt (z:=m) aa aa) ?_;exact eX rfl
  .rw[if_neg h2]at l2;refine aj ?_;simp;refine cd l2 ?_;simp;simpa using tl
 .rw[if_neg h1];simp;refine aj ?_;simp;simpa using tl
theorem nm(hz:ndg z.natAbs<400000)(hw:ndg w.natAbs<400000):CP Y F.aR [S (itoa z),S (itoa w)] (S (itoa (z*w))):=by
 refine Iz ?_;have l1:=nO z 9 ae;have l2:=nO w 9 ae;have dm:=Gv (a:=z.natAbs) (b:=w.natAbs) aa aa
 have hk:ndg (z.natAbs*w.natAbs)<1000000:=by
  have h1:=cG z.natAbs;have h2:=cG w.natAbs;have h3:z.natAbs*w.natAbs<10^(ndg z.natAbs+ndg w.natAbs):=by rw[Yp];exact Ys h1 h2
  have:=cS h3 (by have:=kY z.natAbs;omega);omega
 have e:sg (decide (z<0) !=decide (w<0)) (z.natAbs*w.natAbs)=z*w:=by
  unfold sg;by_cases h1:z<0<;>by_cases h2:w<0
  .simp[h1,h2];rw[Xi aa,Xi aa,Int.neg_mul_neg]
  .simp[h1,h2];rw[Xi aa,Wp aa,Int.neg_mul,Wc]
  .simp[h1,h2];rw[Wp aa,Xi aa,Int.mul_neg,Wc]
  .simp[h1,h2];rw[Wp aa,Wp aa]
 have eb:biB .neq (B (decide (z<0))) (B (decide (w<0)))=some (B (decide (z<0) !=decide (w<0))):=rfl;have jo:=gL (decide (z<0) !=decide (w<0)) hk;rw[e]at jo
 have tail:∀u:Unit,cal (CX Y).p [] (.fn F.aQ [] []) [S (itoa z)] fun v6 h=>
  ext v6 0 fun v7=>
  ext v6 1 fun v8=>
  cal (CX Y).p h (.fn F.aQ [] []) [S (itoa w)] fun v9 h=>
  ext v9 0 fun v10=>
  ext v9 1 fun v11=>
  bnd (biB .neq v7 v10) fun v12=>
  cal (CX Y).p h (.fn F.jL [] []) [v8,v11] fun v13 h=>
  cal (CX Y).p h (.fn F.bU [] []) [v12,v13] fun v14 h=>
  out (S (itoa (z*w))) v14 h:=by
  intro _;simp;refine cd (nW z) ?_;simp;refine cd (nW w) ?_;simp[eb];refine cd dm ?_;simp;refine cd jo ?_;exact eX rfl
 simp[aR];refine cd l1 ?_;by_cases h1:sdg z<=9
 .rw[if_pos h1];simp;by_cases h2:sdg w<=9
  .rw[if_pos h2]at l2;refine aj ?_;simp;refine cd l2 ?_;have b1:=qc h1;have b2:=qc h2
   have hmb:(z*w).natAbs<1000000000000000000:=by
    rw[Y9];exact Ys b1 b2
   obtain⟨m,hm⟩:=mnQ (z*w);rw[hm]at hmb ⊢;simp(disch:=try exact ac)[hm];refine cd (kt (z:=m) aa aa) ?_;exact eX rfl
  .rw[if_neg h2]at l2;refine aj ?_;simp;refine cd l2 ?_;simp;simpa using tail ()
 .rw[if_neg h1];simp;refine aj ?_;simp;simpa using tail ()
theorem jb(n:Nat):itoa (n:Int)=ai n:=by rfl
theorem VO(n:Nat):sgn (n:Int)=if n=0 then 0 else 1:=by
 unfold sgn;by_cases h:n=0
 .simp[h]
 .rw[if_neg aa,if_neg aa,if_neg h]
theorem Je(n:Nat):CP Y F.cX [S (ai n)] (I (if n=0 then 0 else 1)):=by
 have:=mF (n:Int)
 grind[jb,VO]
theorem Ch(ha:ndg a<1000000)(hb:ndg b<1000000):CP Y F.dU [S (ai a),S (ai b)] (I (Big.cmp a b)):=by
 refine tW ?_;have s1:=Je a;have s2:=Je b;simp[dU];by_cases h1:a=0
 .rw[if_pos h1]at s1;by_cases h2:b=0
  .rw[if_pos h2]at s2;refine cd s1 ?_;simp;refine cd s2 ?_;simp;refine cd (qn a) ?_;simp;refine cd (qn b) ?_;simp;refine gH (l:=[S (ai a),S (ai b)]) (h:=[]) (fun q=>by simp) ?_;simp;refine cd (qt ha hb) ?_;simp
  .rw[if_neg h2]at s2;refine cd s1 ?_;simp;refine cd s2 ?_;simp;exact aV (Ei aa).symm
 .rw[if_neg h1]at s1;by_cases h2:b=0
  .rw[if_pos h2]at s2;refine cd s1 ?_;simp;refine cd s2 ?_;simp;exact aV (Ej aa).symm
  .rw[if_neg h2]at s2;refine cd s1 ?_;simp;refine cd s2 ?_;simp;refine cd (qn a) ?_;simp;refine cd (qn b) ?_;simp;refine gH (l:=[S (ai a),S (ai b)]) (h:=[]) (fun q=>by simp) ?_;simp;refine cd (qt ha hb) ?_;simp
theorem tN(hb:0<b):(-(a:Int))/(b:Int)=(if a%b=0 then -((a/b:Nat):Int)else -((a/b+1:Nat):Int))∧(-(a:Int))%(b:Int)=(if a%b=0 then 0 else((b-a%b:Nat):Int)):=by
 have h1:=X0 a b;have h2:=Y5 a hb;have hbz:(b:Int)>0:=aa;generalize a%b=r at *;generalize a/b=q at *;by_cases h:r=0
 .subst h;simp only[if_true]
  have e:(-(a:Int))=(b:Int)*(-(q:Int)):=by
   rw[Int.mul_neg,<-Int.natCast_mul];congr 1;omega
  rw[e];exact⟨Int.mul_ediv_cancel_left _ aa,Int.mul_emod_right _ _⟩
 .simp only[if_neg h]
  have e:(-(a:Int))=((b-r:Nat):Int)+(b:Int)*(-((q+1:Nat):Int)):=by
   have:(a:Int)=(b:Int)*q+r:=by rw[<-Int.natCast_mul];omega
   rw[this,Int.mul_neg,Int.natCast_add,Int.mul_add];have:((b-r:Nat):Int)=(b:Int)-r:=aa;omega
  have l1:(0:Int)<=((b-r:Nat):Int):=aa;have l2:((b-r:Nat):Int)<(b:Int):=aa;rw[e];constructor
  .rw[Int.add_mul_ediv_left _ _ aa,Int.ediv_eq_zero_of_lt l1 l2,Wy]
  .rw[Int.add_mul_emod_self_left,Int.emod_eq_of_lt l1 l2]
theorem tB:ndg 1=1:=aD
theorem nF{a b a' b':LuQ}(e1:a'=a)(e2:b'=b):out (.tup [S a,S b,I c]) (.tup [S a',S b',I c]) h:=by simp_all[iZ]
theorem YF(hb:0<b)(hz:ndg z.natAbs<900000)(hbd:ndg b<900000):
   cal (CX Y).p [] (.fn F.aQ [] []) [S (itoa z)] fun v7 h=>
   ext v7 0 fun v8=>
   ext v7 1 fun v9=>
   cal (CX Y).p h (.fn F.aQ [] []) [S (ai b)] fun v10 h=>
   ext v10 0 fun v11=>
   ext v10 1 fun v12=>
   cal (CX Y).p h (.fn F.dT [] []) [v9,v12] fun v13 h=>
   ext v13 0 fun v14=>
   ext v13 1 fun v15=>
   ext v13 2 fun v16=>
   bnd (biI .neq v16 (.d (.int .i64 0))) fun v17=>
   cnd v17 (
    out (.tup [S (itoa (z/b)),S (itoa (z%b)),I 0]) (.tup [(.d (.str [])),(.d (.str [])),v16]) h) (
    bnd (biB .neq v8 v11) fun v18=>
    gd v18 true h (fun q=>q v15 h) fun v19 h=>
    gd v18 true h (fun q=>bnd (biS .neq v19 (.d (.str [48]))) fun v=>q v h) fun v20 h=>
    bnd (jD v18 v20 (.d (.bool false))) fun v21=>
    jn (fun l22 h=>
     bnd (biB .neq v8 v11) fun v24=>
     cal (CX Y).p h (.fn F.bU [] []) [v24,(ge l22 0)] fun v25 h=>
     cal (CX Y).p h (.fn F.bU [] []) [v11,(ge l22 1)] fun v26 h=>
     out (.tup [S (itoa (z/b)),S (itoa (z%b)),I 0]) (.tup [v25,v26,(.d (.int .i64 0))]) h) fun q23=>
     cnd v21 (
      cal (CX Y).p h (.fn F.fX [] []) [v14,(.d (.str [49]))] fun v27 h=>
      cal (CX Y).p h (.fn F.gQ [] []) [v12,v15] fun v28 h=>
      ext v28 0 fun v29=>
      ext v28 1 fun v30=>
      q23 [v27,v29] h) (
      q23 [v14,v15] h)):=by
 have hq:ndg (z.natAbs/b)<=ndg z.natAbs:=cE (Ym ..);have hr:z.natAbs%b<b:=Y5 _ hb;have hr2:ndg (z.natAbs%b)<=ndg b:=cE aa
 have eb:biB .neq (B (decide (z<0))) (B false)=some (B (decide (z<0))):=by
  show some (B (decide (z<0) !=false))=_
  rw[Bool.bne_false]
 simp;refine cd (nW z) ?_;simp;refine cd (qn b) ?_;simp;refine cd (wi (a:=z.natAbs) hb aa aa) ?_;by_cases hneg:z<0
 .have ez:z = -(z.natAbs:Int):=aa;obtain⟨d1,d2⟩:=tN (a:=z.natAbs) hb;rw[<-ez]at d1 d2;rw[decide_eq_true hneg]at eb ⊢;by_cases h0:z.natAbs%b=0
  .rw[if_pos h0]at d1 d2;rw[h0,dP];simp[eb];refine gH (l:=[S (ai (z.natAbs/b)),S [48]]) (h:=[]) (fun q=>by simp) ?_;simp[eb];refine cd (gL true (n:=z.natAbs/b) aa) ?_;simp;have j0:=gL false (n:=0) (by grind);rw[dP]at j0;refine cd j0 ?_;refine nF ?_ ?_
   .rw[d1];rfl
   .rw[d2];rfl
  .rw[if_neg h0]at d1 d2;have h48:¬ai (z.natAbs%b)=[48]:=fun h=>h0 (jT.1 h)
   have ad:=xv (a:=z.natAbs/b) (b:=1) aa (by simp[tB]);rw[show ai 1=[49] by decide+kernel]at ad;simp[eb,h48];refine aj ?_;simp[h48];refine cd ad ?_;simp;refine cd (wj (a:=b) (b:=z.natAbs%b) aa aa) ?_;simp[eb];have hq1:ndg (z.natAbs/b+1)<=900000+1:=qV aa (by simp[tB])
   refine cd (gL true (n:=z.natAbs/b+1) aa) ?_;simp;refine cd (gL false (n:=b-z.natAbs%b) (Zh (cE (Nat.sub_le ..)) aa)) ?_;refine nF ?_ ?_
   .rw[d1];rfl
   .rw[d2];rfl
 .rw[decide_eq_false hneg]at eb ⊢;simp[eb];refine gH (l:=[S (ai (z.natAbs/b)),S (ai (z.natAbs%b))]) (h:=[]) (fun q=>by simp) ?_;simp[eb];refine cd (gL false (n:=z.natAbs/b) aa) ?_;simp;refine cd (gL false (n:=z.natAbs%b) aa) ?_;have ez:z=(z.natAbs:Int):=aa;refine nF ?_ ?_
  .rw[ez,<-Int.natCast_ediv];rfl
  .rw[ez,<-Int.natCast_emod];rfl
theorem wV(hb:0<b)(hz:ndg z.natAbs<900000)(hbd:ndg b<900000):CP Y F.aW [S (itoa z),S (ai b)] (.tup [S (itoa (z/b)),S (itoa (z%b)),I 0]):=by
 refine uL ?_;have l1:=nO z 18 ae;have l2:=Me b 18 ae;have tl:=YF hb hz hbd;have h48:¬ai b=[48]:=fun h=>by grind[jT]
 simp[aW,h48];refine cd l1 ?_;by_cases h1:sdg z<=18
 .rw[if_pos h1];by_cases h2:ndg b<=18
  .rw[if_pos h2]at l2;simp;refine aj ?_;simp;refine cd l2 ?_;have b1:=qc h1;have b2:b<10^18:=Z3 (cG b) (Z5 ae h2);simp only[Nat.reducePow]at b1 b2;have hbz:¬(b:Int)=0:=aa;obtain⟨n,hn⟩:=nmQ (z.natAbs);rw[<-hn]at b1;have hq:n/b<=n:=Ym ..;have hr:n%b<b:=Y5 _ hb;by_cases hneg:z<0
   .have ez:z = -(n:Int):=aa;obtain⟨d1,d2⟩:=tN (a:=n) hb;rw[<-ez]at d1 d2;have q1:z.tdiv (b:Int) = -((n/b:Nat):Int):=by rw[ez,Int.neg_tdiv,Zu aa,<-Int.natCast_ediv]
    have q2:z.tmod (b:Int) = -((n%b:Nat):Int):=by rw[ez,Int.neg_tmod,Zz aa,<-Int.natCast_emod]
    obtain⟨q,hqq⟩:=nmQ (n/b);obtain⟨r,hrr⟩:=nmQ (n%b);rw[<-hqq]at q1 d1 hq;rw[<-hrr]at q2 d1 d2 hr;by_cases h0:r=0
    .rw[if_pos h0]at d1 d2;rw[h0]at q2;simp(disch:=try exact ac)[q1,q2];refine gH (l:=[I (-(q:Int)),I 0]) (h:=[]) (fun q=>by simp) ?_;simp;refine cd (kt (z:=-(q:Int)) aa aa) ?_;simp;refine cd (kt (z:=0) aa aa) ?_;refine nF ?_ ?_
     .rw[d1]
     .rw[d2]
    .rw[if_neg h0]at d1 d2;have r0:¬(-(r:Int))=0:=aa;have r1:(-(r:Int))<0:=aa;have r2:¬(b:Int)<0:=aa;have eb:∀x y:Bool,biB .neq (B x) (B y)=some (B (x !=y)):=fun _ _=>rfl
     simp(disch:=try exact ac)[q1,q2,r0,r1,r2,eb];refine gH (l:=[I (-(q:Int)-1),I (-(r:Int)+b)]) (h:=[]) (fun q=>by simp(disch:=try exact ac)[r0,r1,r2]) ?_;simp;refine cd (kt (z:=-(q:Int)-1) aa aa) ?_;simp;refine cd (kt (z:=-(r:Int)+b) aa aa) ?_
     grind[nF]
   .have ez:z=(n:Int):=aa;have q1:z.tdiv (b:Int)=((n/b:Nat):Int):=by rw[ez,Zu aa,<-Int.natCast_ediv]
    have q2:z.tmod (b:Int)=((n%b:Nat):Int):=by rw[ez,Zz aa,<-Int.natCast_emod]
    have d1:z/(b:Int)=((n/b:Nat):Int):=by rw[ez,<-Int.natCast_ediv]
    have d2:z%(b:Int)=((n%b:Nat):Int):=by rw[ez,<-Int.natCast_emod]
    obtain⟨q,hqq⟩:=nmQ (n/b);obtain⟨r,hrr⟩:=nmQ (n%b);rw[<-hqq]at q1 d1 hq;rw[<-hrr]at q2 d2 hr;have r1:¬((r:Int))<0:=aa;have r2:¬(b:Int)<0:=aa;have eb:∀x y:Bool,biB .neq (B x) (B y)=some (B (x !=y)):=fun _ _=>rfl
    have fin:∀h:Hp,cal (CX Y).p h (V.fn F.dF [] []) [I q] fun v45 h=>
      cal (CX Y).p h (V.fn F.dF [] []) [I r] fun v46 h=>out (V.tup [S (itoa (z/(b:Int))),S (itoa (z%(b:Int))),I 0]) (V.tup [v45,v46,V.d (D.int IntKind.i64 0)]) h:=by
     intro h;simp;refine cd (kt (z:=q) aa aa) ?_;simp;refine cd (kt (z:=r) aa aa) ?_;refine nF ?_ ?_
     .rw[d1]
     .rw[d2]
    by_cases h0:r=0
    .rw[h0]at q2 fin;simp(disch:=try exact ac)[q1,q2];refine gH (l:=[I q,I 0]) (h:=[]) (fun q=>by simp) ?_;exact fin []
    .have r0:¬(r:Int)=0:=aa;simp(disch:=try exact ac)[q1,q2,r0,r1,r2,eb];refine gH (l:=[I q,I r]) (h:=[]) (fun q=>by simp[r0,r1,r2]) ?_;exact fin []
  .rw[if_neg h2]at l2;simp;refine aj ?_;simp;refine cd l2 ?_;simp;trivial
 .rw[if_neg h1];simp;refine aj ?_;simp;trivial
theorem Qo(ha0:0<a)(hb0:0<b)(ha:ndg a<400000)(hb:ndg b<400000):CP Y F.og [S (ai a),S (ai b)] (S (ai (Nat.lcm a b))):=by
 refine E8 ?_;have h1:¬ai a=[48]:=fun h=>by have:=jT.1 h;omega
 have h2:¬ai b=[48]:=fun h=>by have:=jT.1 h;omega
 have hg:0<Nat.gcd a b:=Nat.gcd_pos_of_pos_left _ ha0;have hgl:Nat.gcd a b<=a:=Nat.gcd_le_left _ ha0;have hq:ndg (a/Nat.gcd a b)<=ndg a:=cE (Ym ..);simp[og,h1,h2];refine cd (Oj aa aa) ?_;simp;refine cd (wi (a:=a) (b:=Nat.gcd a b) hg aa (by have:=cE hgl;omega)) ?_;simp
 refine cd (Gv (a:=a/Nat.gcd a b) (b:=b) aa aa) ?_;refine eX ?_;congr 1;rw[Nat.lcm,Zq,<-Nat.mul_div_assoc _ (Wn a b),Zq]
theorem OU(n:Nat):CP Y F.gn [S (ai n)] (S (ai n)):=by
 have:=yN (n:Int)
 rwa [jb,Int.natAbs_natCast]at this
theorem Vx(ha0:0<a)(hb0:0<b)(ha:ndg a<400000)(hb:ndg b<400000):CP Y F.oY [S (ai a),S (ai b)] (S (ai (Nat.lcm a b))):=by refine IA ?_;simp[oY];refine cd (OU a) ?_;simp;refine cd (OU b) ?_;simp;refine cd (Qo ha0 hb0 ha hb) ?_;exact eX rfl
theorem PL(h:z.natAbs<9223372036854775808):CP Y F.eV [S (itoa z),I 10,I 64] (.tup [I z,.d (.pl .nilIface)]):=by
 have key:∀n:Nat,n<9223372036854775808->(ai n)≠[]∧(ai n).all nP=true∧(ai n).length<=1000∧oV 0 (ai n)=n:=by
  intro n hn;have hd:=dR n;have hc:=qN n
  have hl:(ai n).length<=1000:=by
   have:=cS (n:=n) (d:=19) aa ae;rw[ai,bi];omega
  simp only[pM,Z8]at hc
  have hall:(ai n).all nP=true:=by
   rw[<-hc.1.2];congr 1;funext c;exact digit_eq c
  exact⟨vv n,hall,hl,by rw[wg,hd]⟩
 have ho:Y.X.orc F.eV [.string ⟨⟨itoa z⟩⟩,.int .i64 10,.int .i64 64]=some (.tuple #[.int .i64 z,.nilIface]):=by
  have e:∀a,Y.X.orc F.eV a=NK a:=fun a=>rfl
  rw[e];obtain⟨k1,k2,k3,k4⟩:=key _ h;unfold NK;simp only;rw[if_pos ⟨trivial,trivial⟩];by_cases hz:z<0
  .have e1:itoa z=45::ai z.natAbs:=by unfold itoa;rw[if_pos hz]
   rw[e1];simp only;rw[if_pos ⟨k1,k2,k3,by rw[k4];exact h⟩,k4,show(-((z.natAbs:Nat):Int))=z by omega]
  .have e1:itoa z=ai z.natAbs:=by unfold itoa;rw[if_neg hz]
   rw[e1];have hh:=qK z.natAbs;have ez:((z.natAbs:Nat):Int)=z:=aa;generalize ai z.natAbs=L at *
   have fin:(if L≠[]∧L.all nP=true∧L.length<=1000∧oV 0 L<9223372036854775808 then some (Value.tuple #[.int .i64 (oV 0 L),.nilIface])else none)=some (Value.tuple #[.int .i64 z,.nilIface]):=by
    rw[if_pos ⟨k1,k2,k3,by rw[k4];exact h⟩,k4,ez]
   split
   .rename_i l hl;exact absurd rfl hh
   .exact fin
 exact CP.orc ho (by intro x hx;simp only[Zt,Y0,or_false]at hx;rcases hx with rfl|rfl|rfl<;>rfl) rfl
theorem zj(h:z.natAbs<9223372036854775808):CP Y F.kK [S (itoa z)] (.tup [I z,B true]):=by refine Ez ?_;simp[kK];refine cd (PL h) ?_;simp[Hk];exact bV rfl rfl
def RdN(s:Nat)(h:Hp)(v:V)(d:LnQ):Prop:=∀h':Hp,h'.length=h.length->(∀j,j≠s->h'[j]?=h[j]?)->RdP h' v d∧∃h2,aJ h' v=some (lst u6 d,h2)
theorem RdN.now{v:V}{d:LnQ}(r:RdN s h v d):RdP h v d:=(r h rfl fun _ _=>rfl).1
theorem RdN.step{h2:Hp}{v:V}{d:LnQ}(r:RdN s h v d)(hl:h2.length=h.length)(hs:∀j,j≠s->h2[j]?=h[j]?):RdN s h2 v d:=
 fun h' h1 h3=>r h' (h1.trans hl) fun j hj=>(h3 j hj).trans (hs j hj)
theorem RdN.new{s t e N m:Nat}{h:Hp}(hst:s≠t)(hg:h[t]?=some (e,.data 1 ((bv N m).map u6) true false))(hm:m<Z^N):RdN s h (.ref t e 0 (dig Z m).length N N) (dig Z m):=fun h' hl ho=>by
 have:=Cb (h:=h') (cap:=N) ((ho t (Ne.symm hst)).trans hg) (dj ..).symm (iD hm);rw[m6 hm]at this;have sn:=uV (h:=h') ((ho t (Ne.symm hst)).trans hg) (dj ..).symm (len:=(dig Z m).length) (cap:=N) (iD hm) (Z7 _);rw[m6 hm]at sn;exact⟨this,_,sn⟩
theorem and_one{n:Int}(h0:0<=n)(h1:n<9223372036854775808):biI .and (I n) (I 1)=some (I (n%2)):=by
 obtain⟨m,rfl⟩:∃m:Nat,n=m:=⟨n.toNat,aa⟩
 have hb:(BitVec.ofInt 64 (m:Int)&&&BitVec.ofInt 64 1).toNat=m%2:=by
  rw[BitVec.toNat_and]
  have e1:(BitVec.ofInt 64 (m:Int)).toNat=m:=by
   rw[BitVec.toNat_ofInt];omega
  have e2:(BitVec.ofInt 64 (1:Int)).toNat=1:=ae;rw[e1,e2,Nat.and_one_is_mod]
 simp only[biI,ik,ne_eq,not_true_eq_false,if_false,mI,iS]
 show some (V.d (.int .i64 (IntKind.wrap .i64 ((BitVec.ofInt 64 (m:Int)&&&BitVec.ofInt 64 1).toNat:Int))))=_
 rw[hb,rP aa aa];rfl
theorem SL(k:KL):∀(n A Bv:Nat)(o p:V)(h:Hp)(R:Nat),A*Bv^n=R->0<A->0<Bv->R<Z^2000->n<100000->h.length=3->NV h->RdN 2 h o (dig Z A)->RdN 1 h p (dig Z Bv) ->
  (∀o' h' h2,h'.length=3->aJ h' o'=some (lst u6 (dig Z R),h2)->NV h'->k (.exit 1) [o'] h')->∀h0:Hp,h0.length=3->lp (kD (CX Y)) [] h0 [o,p,I n] h k:=by
 intro n
 induction n using Nat.strongRecOn with
 | ind n ih=>
  intro A Bv o p h R hR hA hB hlim hn hlen hnv ro rp hk h0 hl0;refine ak ?_;by_cases hz:n=0
  .subst hz;simp[kD];rw[Nat.pow_zero,Ye]at hR;subst hR;obtain⟨h2,hs2⟩:=(ro h rfl fun _ _=>rfl).2;exact hk o h h2 hlen hs2 hnv
  have hpos:(n:Int)>0:=aa
  have hBR:Bv<=R:=by
   rw[<-hR];exact Zy (Nat.le_of_eq (Nat.pow_one Bv).symm) (Zy (Z5 hB aa) (Nat.le_mul_of_pos_left _ hA))
  have hAR:A<=R:=by rw[<-hR];exact Y4 _ (X3 hB)
  have dA:(dig Z A).length<=2000:=iD aa;have dB:(dig Z Bv).length<=2000:=iD aa;have and1:=and_one (n:=(n:Int)) aa aa;have e2:((n:Int)/2^(1:Int).toNat)=((n/2:Nat):Int):=af
  have sh:biI .shr (I n) (.d (.int .u64 1))=some (I (n/2:Nat)):=by
   rw[VM aa aa,e2]
  have hn2:n/2<n:=aa
  -- what a product gives
  have times:∀(h:Hp)(v w:V)(a b s:Nat),h.length=3->NV h->s<3->RdP h v (dig Z a)->RdP h w (dig Z b)->(dig Z a).length<=2000->(dig Z b).length<=2000->∀q:kkQ,
    (∀o' h',h'.length=3->NV h'->(∀j,j≠s->h'[j]?=h[j]?)->(∀t,t≠s->RdN t h' o' (dig Z (a*b)))->q o' h')->cai (CX Y).i h (V.fn F.bA [] []) [v,w] s q:=by
   intro h v w a b s hl hv hs r1 r2 d1 d2 q hq;obtain⟨N,hN⟩:=nmQ ((dig Z a).length+(dig Z b).length);have tk:=y9 (h:=h) (hv.all _) r1 (cD aB a) r2 (cD aB b) aa aa hN;rw[iv aB,iv aB]at tk;have hs3:s<h.length:=aa;have hm:a*b<Z^N:=by rw[hN,Yp];exact Ys (vn a) (vn b)
   refine fG (e:=h[s].1) (b:=h[s].2) tk (List.getElem?_eq_getElem hs3) ?_;rw[List.length_map,dj];have gs:(h.set s (h[s].1+1,.data 1 ((bv N (a*b)).map u6) true false))[s]?=some (h[s].1+1,.data 1 ((bv N (a*b)).map u6) true false):=by simp[hs3]
   have os:∀j,j≠s->(h.set s (h[s].1+1,.data 1 ((bv N (a*b)).map u6) true false))[j]?=h[j]?:=fun j hj=>by rw[List.getElem?_set_ne (Ne.symm hj)]
   exact hq _ _ (by simp[hl]) (hv.upd gs os) os (fun t ht=>RdN.new ht gs hm)
  have fin:∀(A' B':Nat)(o' p':V)(h':Hp),A'*B'^(n/2)=R->0<A'->0<B'->h'.length=3->NV h'->RdN 2 h' o' (dig Z A')->RdN 1 h' p' (dig Z B')->rl (lp (kD (CX Y)) [] h0 [o',p',I ((n:Int)/2)] h') k .mk:=by
   intro A' B' o' p' h' e1 e2 e3 e4 e5 e6 e7;rw[show((n:Int)/2)=((n/2:Nat):Int) by omega];exact ih (n/2) hn2 A' B' o' p' h' R e1 e2 e3 hlim aa e4 e5 e6 e7 hk h0 hl0
  have hdm:=X0 n 2;simp(disch:=try exact ac)[kD,hpos];refine aj ?_;simp[and1];by_cases hod:(n:Int)%2=1
  .have hod':n%2=1:=aa
   have eR:A*Bv*(Bv*Bv)^(n/2)=R:=by
    rw[<-hR]
    conv=>rhs;rw[<-hdm,hod',Yp,Nat.pow_mul,Nat.pow_one]
    rw[Nat.pow_two,Nat.mul_assoc,Zq Bv]
   refine aj ?_;simp[hod];refine nu (times h o p A Bv 1 hlen hnv aa ro.now rp.now dA dB _ fun o' h' l1 v1 s1 r1=>?_);have rp1:=rp.step (l1.trans hlen.symm) s1;have ro1:=r1 2 aa;simp;refine aj ?_;by_cases h1:(n:Int)>1
   .simp[h1];refine nu (times h' p p Bv Bv 2 l1 v1 aa rp1.now rp1.now dB dB _ fun p' h'' l2 v2 s2 r2=>?_);have ro2:=ro1.step (l2.trans l1.symm) s2;simp(disch:=try exact ac)[sh];exact fin _ _ o' p' h'' eR (Yj hA hB) (Yj hB hB) l2 v2 ro2 (r2 1 aa)
   .have hn1:n=1:=aa;simp(disch:=try exact ac)[h1,sh];refine fin (A*Bv) Bv o' p h' ?_ (Yj hA hB) hB l1 v1 ro1 rp1;rw[<-eR];subst hn1;simp
  .have hod':n%2=0:=aa
   have eR:A*(Bv*Bv)^(n/2)=R:=by
    rw[<-hR]
    conv=>rhs;rw[<-hdm,hod',Nat.add_zero,Nat.pow_mul]
    rw[Nat.pow_two]
   refine aj ?_;simp[hod];refine aj ?_;have h1:(n:Int)>1:=aa;simp[h1];refine nu (times h p p Bv Bv 2 hlen hnv aa rp.now rp.now dB dB _ fun p' h'' l2 v2 s2 r2=>?_);have ro2:=ro.step (l2.trans hlen.symm) s2;simp(disch:=try exact ac)[sh];exact fin _ _ o p' h'' eR hA (Yj hB hB) l2 v2 ro2 (r2 1 aa)
theorem Ob(h:n<18446744073709551616):CP Y F.jQ [.d (.int .u64 n)] (I (bI n)):=by refine AX ?_;simp[jQ];refine cd (Dt h) ?_;simp<;>exact aV rfl
theorem vZ:ai 2=[50]:=aD
theorem hO:ai 1=[49]:=aD
theorem U7:CP Y F.m7 [S [50]] (I 2):=by refine Ed ?_;have h:=zg (n:=2) aa;rw[vZ]at h;have h2:=Dt (n:=2) aa;rw[show bI 2=2 by rfl]at h2;simp[m7];refine cd h ?_;simp;refine cd h2 ?_;simp
theorem QT{K:Nat}(h:n/3+1<=K):2^n<10^K:=by
 have h1:2^n=8^(n/3)*2^(n%3):=by
  rw[show(8:Nat)=2^3 from rfl,<-Nat.pow_mul,<-Yp,X0]
 have h2:8^(n/3)<=10^(n/3):=Nat.pow_le_pow_left ae _
 have h3:2^(n%3)<=4:=by
  have:n%3<3:=Y5 _ ae;exact Zy (Z5 ae (show n%3<=2 by omega)) ae
 have h4:10^(n/3+1)<=10^K:=Z5 ae h;have h5:=Za h2 h3
 grind
theorem WN{K:Nat}(h:n/3+1<=K)(hK:0<K):ndg (2^n)<=K:=cS (QT h) hK
theorem acW{K:Nat}(h:n/3+1<=K):2^n<Z^K:=Z3 (QT h) (Nat.pow_le_pow_left ae _)
theorem BC(hn:n<=4000):2^n<Z^2000∧ndg (2^n)<=2000:=
 ⟨acW (K:=2000) aa,WN (K:=2000) aa aa⟩
theorem Qn(hn:n<=4000):CP Y F.iO [S [50],I n] (.tup [S (ai (2^n)),I 0]):=by
 refine Bn ?_;by_cases h0:n=0
 .subst h0;rw[Nat.pow_zero,hO];simp[iO];simp[bV]
 have g1:¬(n:Int)=0:=aa;have g2:¬(n:Int)<0:=aa;have g3:¬(n:Int)>66439:=aa;have n1:¬([50]:LuQ)=[49]:=ae;have n2:¬([50]:LuQ)=[48]:=ae;have ct:=rL (h:=[nnQ,nnQ,nnQ]) rfl (n:=2) (cap:=1) aD aD;rw[vZ]at ct;obtain⟨p1,p2⟩:=BC hn
 have hli:∀h:Hp,dW 1 [D.int .u64 0] [(0,V.d (D.int .u64 1))] h=some ([u6 1],h):=fun h=>by rfl
 simp(disch:=try exact ac)[iO,g1,g2,n1,n2];refine cd U7 ?_;simp[g3,hli];refine nu (fG (e:=0) (b:=.none) ct rfl ?_);rw[List.length_map,dj];simp
 have nv:NV [(1,.data 1 ((bv 1 2).map u6) true false),nnQ,nnQ]:=by
  intro j x hj b';rcases Wv.2 ⟨j,hj⟩with hm;simp only[Zt,Y0,or_false]at hm;rcases hm with rfl|rfl|rfl<;>rfl
 refine lo (SL _ n 1 2 (lst u6 [1]) _ [(1,.data 1 ((bv 1 2).map u6) true false),nnQ,nnQ] (2^n) (by rw[Wt]) ae ae p1 aa rfl nv ?_ ?_ (fun o' h' h2 hl hr hv=>?_) _ rfl)
 .intro h' _ _;rw[show dig Z 1=[1] by rfl];simp[OW]
 .exact RdN.new (s:=1) (t:=0) ae rfl ae
 .have hl1:¬(ndg (2^n):Int)>20000:=aa;have lt:=lK (2^n);have tx:=vM (n:=2^n) (Zh (iD p1) ae);generalize 2^n=m at *;simp;refine cdz (by simp only[aw,hr];rfl) tx ?_;rw[show f9 (S (ai m))=true from rfl,if_pos rfl];simp[lt,hl1];simp[bV]
theorem zu(hn:n<=4000):CP Y F.kM [S [50],I n] (.tup [S (ai (2^n)),I 0]):=by refine EA ?_;have sp:=qn 2;rw[vZ]at sp;have g2:¬(n:Int)<0:=aa;have g3:¬(n:Int)>4000:=aa;obtain⟨p1,p2⟩:=BC hn;have q:((4000:Int).tdiv 1)=4000:=ae;simp[kM,g2];refine cd sp ?_;simp[g3,q];refine cd (Qn hn) ?_;simp;refine cd (T5 _) ?_;simp[bV]
def dgF(unit two:Nat):Nat->Nat->Nat->Nat->Option Nat
 |0,_,_,out=>some out
 | r+1,low,high,out=>
  cond (Nat.ble two (low*low/unit)) (dgF unit two r (low*low/unit/2) ((high*high/unit+1)/2+1) (out+out+1))
   (cond (Nat.ble two (high*high/unit+1)) none (dgF unit two r (low*low/unit) (high*high/unit+1) (out+out)))
def Bj(p n more:Nat):Option Nat:=dgF (2^more) (2^more+2^more) n (p*2^(more-(bI p-1))) (p*2^(more-(bI p-1))) (bI p-1)
def dgV:Option Nat->V
 |some v=>.tup [S (ai v),B true]
 |none=>.tup [S [],B false]
theorem rS(ha:ndg a<999999)(hb:ndg b<999999):CP Y F.cJ [S (ai a),S (ai b)] (S (ai (a+b))):=by have:=rR (z:=(a:Int)) (w:=(b:Int)) (by trivial) (by trivial);trivial
theorem uN(ha:ndg a<400000)(hb:ndg b<400000):CP Y F.aR [S (ai a),S (ai b)] (S (ai (a*b))):=by have:=nm (z:=(a:Int)) (w:=(b:Int)) (by trivial) (by trivial);trivial
theorem rQ(h0:0<b)(ha:ndg a<900000)(hb:ndg b<900000):CP Y F.aW [S (ai a),S (ai b)] (.tup [S (ai (a/b)),S (ai (a%b)),I 0]):=by grind[wV,jb]
theorem qU:ndg (a*b)<=ndg a+ndg b:=by
 have h3:a*b<10^(ndg a+ndg b):=by rw[Yp];exact Ys (cG a) (cG b)
 exact cS h3 (by grind[kY])
theorem UO:decide (0<=Big.cmp a b)=Nat.ble b a:=by grind[Nat.ble_eq,Ei,cmp_eq,Ej]
theorem JM(h:ndg n<=k):ndg (n+n+1)<=k+1:=by have h1:n<10^k:=Z3 (cG n) (Z5 ae h);exact cS aa aa
theorem AO{unit two N W:Nat}(hu:2<=unit)(htwo:two=unit+unit)(hW:ndg two<=W)(hW2:W<100000)(hN:N<100000)(k:KL):∀(r i low high out:Nat),i+r=N->low<=high->high<two->ndg out<=W+i ->
  (∀v,dgF unit two r low high out=some v->ndg v<=W+N->k (.exit 0) [S (ai v)] [])->(dgF unit two r low high out=none->k .ret [S [],B false] []) ->
  lp (ou (CX Y) (S (ai unit)) (S (ai two)) (I N)) [] [] [S (ai low),S (ai high),S (ai out),I i] [] k
 | 0,i,low,high,out,hi,hlh,hht,ho,h0,h1=>by
  have hiN:¬(i:Int)<(N:Int):=aa;refine ak ?_;simp[ou,hiN];exact h0 out rfl aa
 | r+1,i,low,high,out,hi,hlh,hht,ho,h0,h1=>by
  have hiN:(i:Int)<(N:Int):=aa;have ih:=AO hu htwo hW hW2 hN k r (i+1);have u1:ndg unit<=W:=Zy (cE aa) hW;have u2:ndg low<=W:=Zy (cE aa) hW;have u3:ndg high<=W:=Zy (cE aa) hW;have m1:=uN (a:=low) (b:=low) aa aa;have m2:=uN (a:=high) (b:=high) aa aa
  have w1:ndg (low*low)<=W+W:=Zy qU aa;have w2:ndg (high*high)<=W+W:=Zy qU aa;have d1:=rQ (a:=low*low) (b:=unit) aa aa aa;have d2:=rQ (a:=high*high) (b:=unit) aa aa aa;have lowle:low*low/unit<=high*high/unit:=Nat.div_le_div_right (Za hlh hlh)
  have hi4:high*high/unit+4<=4*unit:=by
   have e1:high*high<=(2*unit-1)*(2*unit-1):=Za aa aa
   have e2:(2*unit-1)*(2*unit-1)+4*unit=4*unit*unit+1:=by
    obtain⟨x,hx⟩:∃x,unit=x+1:=⟨unit-1,aa⟩;subst hx;rw[show 2*(x+1)-1=2*x+1 by omega];simp only[Nat.add_mul,Zo,Ye,Wt,Nat.mul_assoc,Yy x 2];omega
   have e3:high*high<(4*unit-3)*unit:=by
    rw[Nat.sub_mul];have:4*unit*unit≥3*unit:=Zv _ aa;omega
   have:=(Xf aa).2 e3;omega
  have eqF:dgF unit two (r+1) low high out=cond (Nat.ble two (low*low/unit)) (dgF unit two r (low*low/unit/2) ((high*high/unit+1)/2+1) (out+out+1))
   (cond (Nat.ble two (high*high/unit+1)) none (dgF unit two r (low*low/unit) (high*high/unit+1) (out+out))):=rfl
  rw[eqF]at h0 h1;generalize low*low/unit=L1 at *;generalize high*high/unit=H0 at *;have t2:ndg (two+two)<=W+1:=qV hW hW;have v1:ndg L1<=W+1:=Zy (cE aa) t2;have v2:ndg H0<=W+1:=Zy (cE aa) t2;have v3:ndg (H0+1)<=W+1:=Zy (cE aa) t2;have a1:=rS (a:=H0) (b:=1) aa (by simp[tB]);rw[hO]at a1
  have a2:=rS (a:=out) (b:=out) aa aa;have vo:ndg (out+out)<=W+i+1:=qV ho ho;have a3:=rS (a:=out+out) (b:=1) aa (by simp[tB]);rw[hO]at a3;have c1:=Ch (a:=L1) (b:=two) aa aa;have c2:=Ch (a:=H0+1) (b:=two) aa aa;have g1:=UO (a:=L1) (b:=two);have g2:=UO (a:=H0+1) (b:=two)
  have d3:=rQ (a:=L1) (b:=2) aa aa (by rw[show ndg 2=1 by decide+kernel];omega);have d4:=rQ (a:=H0+1) (b:=2) aa aa (by rw[show ndg 2=1 by decide+kernel];omega);rw[vZ]at d3 d4;have v4:ndg ((H0+1)/2)<=W+1:=Zy (cE aa) t2;have a4:=rS (a:=(H0+1)/2) (b:=1) aa (by simp[tB]);rw[hO]at a4
  generalize Big.cmp L1 two=C1 at *;generalize Big.cmp (H0+1) two=C2 at *;refine ak ?_;simp[ou,hiN];refine aj ?_;simp;refine cd m1 ?_;simp;refine cd d1 ?_;simp;refine cd m2 ?_;simp;refine cd d2 ?_;simp;refine cd a1 ?_;simp;refine cd a2 ?_;simp;refine aj ?_;simp;refine cd c1 ?_;simp;refine aj ?_;cases q1:Nat.ble two L1 with
  | true=>
   rw[q1]at g1 h0 h1;simp only[cond_true]at h0 h1;have g1':0<=C1:=by simpa using g1
   have b1:two<=L1:=Nat.le_of_ble_eq_true q1;simp[g1'];refine cd a3 ?_;simp;refine cd d3 ?_;simp;refine cd d4 ?_;simp;refine cd a4 ?_;simp(disch:=try exact ac);have:=ih (L1/2) ((H0+1)/2+1) (out+out+1) aa aa aa (JM ho) h0 h1;trivial
  | false=>
   rw[q1]at g1 h0 h1;simp only[cond_false]at h0 h1;have g1':¬0<=C1:=by simpa using g1
   simp[g1'];refine cd c2 ?_;simp;cases q2:Nat.ble two (H0+1)with
   | true=>
    rw[q2]at g2 h1;have g2':0<=C2:=by simpa using g2
    simp[g2']
    grind
   | false=>
    rw[q2]at g2 h0 h1;simp only[cond_false]at h0 h1;have g2':¬0<=C2:=by simpa using g2
    have b2:¬two<=H0+1:=fun h=>by simp_all[Nat.ble_eq_true_of_le]
    simp(disch:=try exact ac)[g2'];have:=ih L1 (H0+1) (out+out) aa aa aa aa h0 h1;trivial
theorem PO(v:Nat)(h:Hp):out (dgV (some v)) (.tup [S (ai v),B true]) h:=bV rfl rfl
theorem PP(h:Hp):out (dgV none) (.tup [S [],B false]) h:=bV rfl rfl
theorem Mw{more:Nat}(hp:2<=p)(hp2:p<1000000)(hm1:30<=more)(hm:more<=4000)(hn:n<=4000):CP Y F.size_digits [I p,I n,I more] (dgV (Bj p n more)):=by
 refine EK ?_;obtain⟨hk0,hpk,hk1⟩:=qh (n:=p) aa
 have hk2:bI p<=20:=by
  rcases Zl 20 (bI p)with h|h
  .have:2^20<=2^(bI p-1):=Z5 ae aa;omega
  .exact h
 obtain⟨kk,hkk⟩:=nmQ (bI p-1);obtain⟨mk,hmk⟩:=nmQ (more-kk);have e1:((bI p:Nat):Int)-1=(kk:Int):=aa;have e2:(more:Int)-(kk:Int)=(mk:Int):=aa;have hcv:IntKind.wrap .u64 (p:Int)=(p:Int):=La aa aa;have lb:=Ob (n:=p) aa;have pw:=zu hm;have pw2:=zu (n:=mk) aa;have b1:=(BC hm).2
 have b2:=(BC (n:=mk) aa).2;have ad:=rS (a:=2^more) (b:=2^more) aa aa;have op:=LY (n:=p) aa;have ok:=LY (n:=kk) aa;have np:ndg p<=6:=cS aa ae;have nk:ndg kk<=2:=cS aa ae;have ml:=uN (a:=p) (b:=2^mk) aa aa;have b3:ndg (2^more+2^more)<=2000+1:=qV b1 b1
 have hlt:p*2^mk<2^more+2^more:=by
  have h1:p*2^mk<2^bI p*2^mk:=(Nat.mul_lt_mul_right (X3 ae)).2 hpk;rw[<-Yp,show bI p+mk=more+1 by omega,Nat.pow_succ]at h1;omega
 have hu:2<=2^more:=by
  have:2^1<=2^more:=Z5 ae aa;omega
 have eF:Bj p n more=dgF (2^more) (2^more+2^more) n (p*2^mk) (p*2^mk) kk:=by
  unfold Bj;rw[<-hkk,<-hmk]
 rw[eF];generalize 2^more=unit at *;generalize 2^mk=pm at *;generalize p*pm=low at *;simp[size_digits,hcv];refine cd lb ?_;simp(disch:=try exact ac)[e1];refine cd pw ?_;simp;refine cd ad ?_;simp(disch:=try exact ac)[e2];refine cd pw2 ?_;simp;refine cd op ?_;simp;refine cd ml ?_;simp;refine cd ok ?_;simp
 refine lo (AO hu rfl (W:=2001) b3 aa (N:=n) aa _ n 0 low low kk aa (Z7 _) hlt aa (fun v hv _=>?_) (fun hv=>?_))
 .rw[hv];simp;exact PO v _
 .rw[hv];simp;exact PP _
def HA(p n:Nat):Option Nat:=if p=2 then some (2^n)else Bj p n (n+64)
theorem abm{v:Nat}(hp:2<=p)(hp2:p<1000000)(hn:n<=3900)(hv:HA p n=some v):CP Y F.qE [I p,I n] (S (ai v)):=by
 refine Lz ?_;unfold HA at hv;by_cases h2:p=2
 .rw[if_pos h2]at hv;simp only[Z9]at hv;have e:((p:Int)=2):=aa;have pw:=zu (n:=n) aa;rw[hv]at pw;simp[qE,e];refine cd pw ?_;simp;exact eX rfl
 .rw[if_neg h2]at hv;have e:¬((p:Int)=2):=aa;have dg:=Mw (p:=p) (n:=n) (more:=n+64) hp hp2 aa aa aa;rw[hv]at dg;obtain⟨m,hm⟩:=nmQ (n+64);rw[<-hm]at dg;have e3:(n:Int)+64=(m:Int):=aa;simp(disch:=try exact ac)[qE,e,e3];refine lo (ak ?_);simp[AA];refine cd dg ?_;simp[dgV];exact eX rfl
abbrev Q:=Int×Nat
def okQ(x:Q):Prop:=0<x.2∧Nat.gcd x.1.natAbs x.2=1
def qT(x:Q):LwQ:=[S (itoa x.1),S (ai x.2)]
def lX(n:Int)(d:Nat):Q:=(n/(Nat.gcd n.natAbs d:Nat),d/Nat.gcd n.natAbs d)
def qG(a b:Q):Q:=lX (a.1*b.2+b.1*a.2) (a.2*b.2)
def tu(a b:Q):Q:=lX (a.1*b.1) (a.2*b.2)
def AT(a:Q):Q:=(-a.1,a.2)
def jq(n d:Int):Q:=if d<0 then lX (-n) d.natAbs else lX n d.natAbs
def sd(a b:Q):Q:=jq (a.1*b.2) (a.2*b.1)
theorem UW{n:Int}(h:g∣n.natAbs):(g:Int)∣n:=Int.natAbs_dvd_natAbs.1 (by simpa using h)
theorem BQ(n:Int)(hd:0<d):okQ (lX n d):=by
 have hg:0<Nat.gcd n.natAbs d:=W8 _ hd;obtain⟨g,hgg⟩:=nmQ (Nat.gcd n.natAbs d);have h1:g∣n.natAbs:=by rw[hgg];exact Wn ..
 have h2:g∣d:=by rw[hgg];exact Nat.gcd_dvd_right ..
 unfold lX;rw[<-hgg]at hg ⊢;refine⟨Wd (W7 hd h2) hg,?_⟩
 have e:(n/(g:Int)).natAbs=n.natAbs/g:=by
  rw[Int.natAbs_ediv_of_dvd (UW h1),Int.natAbs_natCast]
 simp only[e];rw[Nat.gcd_div h1 h2,<-hgg,Nat.div_self hg]
theorem To{n:Int}(h:Nat.gcd n.natAbs d=1):lX n d=(n,d):=by unfold lX;rw[h];simp
theorem N2(n:Int)(d:Nat):(lX n d).1.natAbs<=n.natAbs∧(lX n d).2<=d:=by
 obtain⟨g,hgg⟩:=nmQ (Nat.gcd n.natAbs d);have h1:g∣n.natAbs:=by rw[hgg];exact Wn ..
 unfold lX;rw[<-hgg];constructor
 .simp only;rw[Int.natAbs_ediv_of_dvd (UW h1),Int.natAbs_natCast];exact Ym ..
 .exact Ym ..
theorem WM(k:KL)(h:Hp)(h0:Hp)(hl:h.length=h0.length):∀(m:Nat)(a b:Int),b.natAbs<=m->a.natAbs<9223372036854775807->b.natAbs<9223372036854775807 ->
  (∀c:Int,c.natAbs=Nat.gcd a.natAbs b.natAbs->k (.exit 0) [I c] h)->lp (mL (CX Y)) [] h0 [I a,I b] h k:=by
 intro m
 induction m with
 | zero=>
  intro a b hb ha hb2 hk;have hb0:b=0:=aa;subst hb0;refine ak ?_;simp[mL];exact hk a af
 | succ m ih=>
  intro a b hb ha hb2 hk;refine ak ?_;by_cases hb0:b=0
  .subst hb0;simp[mL];exact hk a af
  ·have hr:(a.tmod b).natAbs<b.natAbs:=by
    rw[Int.natAbs_tmod];exact Y5 _ aa
   have e:Nat.gcd b.natAbs (a.tmod b).natAbs=Nat.gcd a.natAbs b.natAbs:=by
    rw[Int.natAbs_tmod,Wh,<-Nat.gcd_rec,Wh]
   simp[mL,hb0,hl];exact ih b (a.tmod b) aa aa aa (fun c hc=>hk c (hc.trans e))
theorem jE{a b a' b':LuQ}(e1:a'=a)(e2:b'=b):out (.agg [S a,S b]) (.agg [S a',S b']) h:=by subst e1;subst e2;exact⟨h,by simp[aJ,aw,norm]⟩
theorem Ol{n:Int}(hd:0<d)(hn:n.natAbs<9223372036854775807)(hd2:d<9223372036854775807):CP Y F.iM [I n,I d] (.agg (qT (lX n d))):=by
 refine ES ?_;obtain⟨g,hgg⟩:=nmQ (Nat.gcd n.natAbs d);have hg:0<g:=by rw[hgg];exact W8 _ hd
 have h1:g∣n.natAbs:=by rw[hgg];exact Wn ..
 have h2:g∣d:=by rw[hgg];exact Nat.gcd_dvd_right ..
 have hgd:g<=d:=W7 hd h2;have e1:n.tdiv (g:Int)=n/(g:Int):=Int.tdiv_eq_ediv_of_dvd (UW h1);have e2:(d:Int).tdiv (g:Int)=((d/g:Nat):Int):=by rw[Zu aa,<-Int.natCast_ediv]
 have e3:(n/(g:Int)).natAbs<=n.natAbs:=by
  rw[Int.natAbs_ediv_of_dvd (UW h1),Int.natAbs_natCast];exact Ym ..
 have e4:d/g<=d:=Ym ..;have eq:qT (lX n d)=[S (itoa (n/(g:Int))),S (ai (d/g))]:=by unfold qT lX;rw[<-hgg]
 rw[eq];generalize n/(g:Int)=nq at *;generalize d/g=dq at *;have i1:=BS (z:=nq) aa aa;have i2:=BS (z:=(dq:Int)) aa aa;rw[jb]at i2;have hg0:¬(g:Int)=0:=aa;simp[iM];refine lo (WM _ _ _ rfl (d:Int).natAbs n d (Z7 _) hn aa (fun c hc=>?_));rw[Int.natAbs_natCast,<-hgg]at hc;simp
 have tail:∀u:Unit,bnd (biI .quo (I n) (I g)) fun v6=>
   cal (CX Y).p [(1,.vars [.d (.str []),.d (.str [])])] (.fn F.strconv_Itoa [] []) [v6] fun v7 h=>
   bnd (biI .quo (I d) (I g)) fun v8=>
   cal (CX Y).p h (.fn F.strconv_Itoa [] []) [v8] fun v9 h=>
   bnd (bld [(0,1),(1,1)] [.str [],.str []] [(0,v7),(1,v9)]) fun v10=>
   stD h 2 (.ptr 0 1 0 2) v10 fun _ h=>
   bnd (ldA h 2 (.ptr 0 1 0 2)) fun v12=>
   out (.agg [S (itoa nq),S (ai dq)]) v12 h:=by
  intro _;simp(disch:=try exact ac)[e1,e2,hg0];refine cd i1 ?_;simp(disch:=try exact ac)[e2,hg0];refine cd i2 ?_;simp;exact jE rfl rfl
 by_cases hc0:c<0
 .have hcg : -c=(g:Int):=aa;refine gH (l:=[I g]) (h:=[(1,.vars [.d (.str []),.d (.str [])])]) (fun q=>by simp(disch:=try exact ac)[hc0,hcg]) ?_;exact tail ()
 .have hcg:c=(g:Int):=aa;subst hcg;refine gH (l:=[I g]) (h:=[(1,.vars [.d (.str []),.d (.str [])])]) (fun q=>by simp[hc0]) ?_;exact tail ()
def qL(K:Nat)(x:Q):Prop:=ndg x.1.natAbs<=K∧ndg x.2<=K
theorem Hz{n:Int}{K:Nat}(h1:ndg n.natAbs<=K)(h2:ndg d<=K):qL K (lX n d):=
 ⟨Zy (cE (N2 n d).1) h1,Zy (cE (N2 n d).2) h2⟩
theorem qL.mono{K:Nat}{x:Q}(h:qL K x)(hl:K<=L):qL L x:=⟨Zy h.1 hl,Zy h.2 hl⟩
theorem vm(hz:ndg z.natAbs<=k)(hw:ndg w.natAbs<=k):ndg (z+w).natAbs<=k+1:=
 Zy (cE (Wu z w)) (qV hz hw)
theorem eY:ndg (z*w).natAbs<=ndg z.natAbs+ndg w.natAbs:=by rw[Y9];exact qU
theorem SE{a b:Q}{K:Nat}(ha:qL K a)(hb:qL L b):qL (K+L+1) (qG a b):=by
 refine Hz (vm ?_ ?_) ?_
 .have:=eY (z:=a.1) (w:=(b.2:Int));rw[Int.natAbs_natCast]at this;have:=ha.1;have:=hb.2;omega
 .have:=eY (z:=b.1) (w:=(a.2:Int));rw[Int.natAbs_natCast]at this;have:=hb.1;have:=ha.2;omega
 .have:=qU (a:=a.2) (b:=b.2);have:=ha.2;have:=hb.2;omega
theorem SC{a b:Q}{K:Nat}(ha:qL K a)(hb:qL L b):qL (K+L) (tu a b):=by
 refine Hz ?_ ?_
 .have:=eY (z:=a.1) (w:=b.1);have:=ha.1;have:=hb.1;omega
 .have:=qU (a:=a.2) (b:=b.2);have:=ha.2;have:=hb.2;omega
theorem NE{a b:Q}(ha:okQ a)(hb:okQ b):okQ (qG a b):=BQ _ (Yj ha.1 hb.1)
theorem NC{a b:Q}(ha:okQ a)(hb:okQ b):okQ (tu a b):=BQ _ (Yj ha.1 hb.1)
theorem QQ(hw0:0<w)(hz:ndg z.natAbs<900000)(hw:ndg w.natAbs<900000):CP Y F.aW [S (itoa z),S (itoa w)] (.tup [S (itoa (z/w)),S (itoa (z%w)),I 0]):=by obtain⟨m,rfl⟩:∃m:Nat,w=m:=⟨w.toNat,aa⟩;rw[jb];exact wV aa hz (by simpa using hw)
theorem zI{n d:Int}(hd:d≠0)(hn:ndg n.natAbs<800000)(hd2:ndg d.natAbs<800000):CP Y F.bq [S (itoa n),S (itoa d)] (.agg (qT (jq n d))):=by
 refine yl ?_;have sg0:=mF d
 have tail:∀(n:Int)(d:Nat),0<d->ndg n.natAbs<800000->ndg d<800000 ->
   cal (CX Y).p [(1,.vars [.d (.str []),.d (.str [])])] (.fn F.nS [] []) [S (itoa n),S (ai d)] fun v6 h=>
  bnd (biS .neq v6 (.d (.str [49]))) fun v7=>
  jn (fun l8 h=>
   bnd (bld [(0,1),(1,1)] [.str [],.str []] [(0,(ge l8 0)),(1,(ge l8 1))]) fun v10=>
   stD h 2 (.ptr 0 1 0 2) v10 fun _ h=>
   bnd (ldA h 2 (.ptr 0 1 0 2)) fun v12=>
   out (.agg (qT (lX n d))) v12 h) fun q9=>
   cnd v7 (
    cal (CX Y).p h (.fn F.aW [] []) [S (itoa n),v6] fun v13 h=>
    ext v13 0 fun v14=>
    ext v13 1 fun v15=>
    ext v13 2 fun v16=>
    cal (CX Y).p h (.fn F.aW [] []) [S (ai d),v6] fun v17 h=>
    ext v17 0 fun v18=>
    ext v17 1 fun v19=>
    ext v17 2 fun v20=>
    q9 [v14,v18] h) (
    q9 [S (itoa n),S (ai d)] h):=by
  intro n d hd hn hd2;have gc:=Oi (z:=n) (w:=(d:Int)) aa (by simpa using Nat.lt_trans hd2 ae);rw[jb,Int.natAbs_natCast]at gc;obtain⟨g,hgg⟩:=nmQ (Nat.gcd n.natAbs d);have hg:0<g:=by rw[hgg];exact W8 _ hd
  have hgd:g<=d:=W7 hd (by rw[hgg];exact Nat.gcd_dvd_right ..);have eq:lX n d=(n/(g:Int),d/g):=by unfold lX;rw[<-hgg]
  rw[<-hgg]at gc;rw[eq];have ng:ndg g<900000:=Zh (cE hgd) aa;have d1:=wV (z:=n) hg aa ng;have d2:=rQ (a:=d) hg aa ng;simp;refine cd gc ?_;by_cases h1:g=1
  .subst h1;rw[hO];simp;refine gH (l:=[S (itoa n),S (ai d)]) (h:=[(1,.vars [.d (.str []),.d (.str [])])]) (fun q=>by simp) ?_;simp;refine jE af af
  .have h49:¬ai g=[49]:=fun h=>h1 (oe (h.trans hO.symm))
   simp[h49];refine aj ?_;simp[h49];refine cd d1 ?_;simp;refine cd d2 ?_;simp;exact jE rfl rfl
 simp[bq];refine cd sg0 ?_;by_cases hneg:d<0
 .have s1:sgn d = -1:=by unfold sgn;rw[if_neg hd,if_pos hneg]
  rw[s1];have hd3:ndg (-d).natAbs<800000:=by rw[Xj];exact hd2
  have n1:=xZ (z:=n) aa;have n2:=xZ (z:=d) aa;have e:jq n d=lX (-n) d.natAbs:=if_pos hneg;have ed:itoa (-d)=ai d.natAbs:=by rw[show -d=((d.natAbs:Nat):Int) by omega,jb]
  rw[e];rw[ed]at n2;simp;refine aj ?_;simp;refine cd n1 ?_;simp;refine cd n2 ?_;have:=tail (-n) d.natAbs aa (by rw[Xj];exact hn) hd2;simpa using this
 .have s1:sgn d=1:=by unfold sgn;rw[if_neg hd,if_neg hneg]
  rw[s1];have e:jq n d=lX n d.natAbs:=if_neg hneg;have ed:itoa d=ai d.natAbs:=by conv=>lhs;rw[show d=((d.natAbs:Nat):Int) by omega,jb]
  rw[e,ed];simp;refine aj ?_;simp;have:=tail n d.natAbs aa hn hd2;simpa using this
theorem sS(a:Q):CP Y F.dp [.agg (qT a)] (.tup [I (if sdg a.1<=9 then a.1 else 0),I (if ndg a.2<=9 then a.2 else 0),B (decide (sdg a.1<=9)&&decide (ndg a.2<=9))]):=by
 refine Bg ?_;have l1:=Dp a.1;have l2:=Dp (a.2:Int);have e:sdg (a.2:Int)=ndg a.2:=by unfold sdg;rw[if_neg aa,Int.natAbs_natCast];rfl
 rw[jb,e]at l2;simp[dp,qT];refine cd l1 ?_;by_cases h1:sdg a.1<=9
 .rw[if_pos h1,if_pos h1,decide_eq_true h1];simp;refine cd l2 ?_;by_cases h2:ndg a.2<=9
  .rw[if_pos h2,if_pos h2,decide_eq_true h2];simp;exact iZ rfl rfl rfl
  .rw[if_neg h2,if_neg h2,decide_eq_false h2];simp;exact iZ rfl rfl rfl
 .rw[if_neg h1,if_neg h1,decide_eq_false h1];simp;refine cd l2 ?_;by_cases h2:ndg a.2<=9
  .rw[if_pos h2,if_pos h2,decide_eq_true h2];simp;exact iZ rfl rfl rfl
  .rw[if_neg h2,if_neg h2,decide_eq_false h2];simp;exact iZ rfl rfl rfl
theorem WW(n:Int)(hd:0<d):(lX n d).1*(d:Int)=n*((lX n d).2:Int)∧0<(lX n d).2:=by
 obtain⟨g,hg⟩:=nmQ (Nat.gcd n.natAbs d);have hg0:0<g:=by rw[hg];exact W8 _ hd
 obtain⟨d',hd'⟩:g∣d:=by rw[hg];exact Nat.gcd_dvd_right ..
 obtain⟨n',hn'⟩:(g:Int)∣n:=UW (by rw[hg];exact Wn ..)
 have e1:(lX n d).1=n':=by
  simp only[lX,<-hg];rw[hn'];exact Int.mul_ediv_cancel_left _ aa
 have e2:(lX n d).2=d':=by
  simp only[lX,<-hg];rw[hd'];exact Yd _ hg0
 rw[e1,e2];refine⟨?_,?_⟩
 .rw[hn',hd',Int.natCast_mul,<-Int.mul_assoc,Xt n' g]
 .rcases Zg d' with h|h
  .rw[h]at hd';omega
  .exact h
theorem Tn{n:Int}(h:0<d):jq n (d:Int)=lX n d:=by rfl
theorem N3{n:Int}(hd:0<d)(hn:ndg n.natAbs<800000)(hd2:ndg d<800000):CP Y F.bq [S (itoa n),S (ai d)] (.agg (qT (lX n d))):=by have:=zI (n:=n) (d:=(d:Int)) aa hn (by trivial);trivial
theorem yU(hz:ndg z.natAbs<400000)(hb:ndg b<400000):CP Y F.aR [S (itoa z),S (ai b)] (S (itoa (z*b))):=by grind[nm,jb]
theorem Cv(h:Hp)(s t:LuQ):aw h [.agg [S s,S t]]=some ([.agg [S s,S t]],h):=by rfl
theorem GU{a:Q}(h1:sdg a.1<=9)(h2:ndg a.2<=9):a.1.natAbs<1000000000∧a.2<1000000000:=
 ⟨qc h1,Z3 (cG _) (Z5 ae h2)⟩
theorem Ug{a b:Q}(ha:okQ a)(hb:okQ b)(la:qL 100000 a)(lb:qL 100000 b):CP Y F.k8 [.agg (qT a),.agg (qT b)] (.agg (qT (tu a b))):=by
 refine DR ?_;obtain⟨la1,la2⟩:=la;obtain⟨lb1,lb2⟩:=lb;have b1:=sS a;have b2:=sS b;have m1:=nm (z:=a.1) (w:=b.1) aa aa;have m2:=uN (a:=a.2) (b:=b.2) aa aa;have n1:=eY (z:=a.1) (w:=b.1);have n2:=qU (a:=a.2) (b:=b.2);have hd:0<a.2*b.2:=Yj ha.1 hb.1
 have lw:CP Y F.bq [S (itoa (a.1*b.1)),S (ai (a.2*b.2))] (.agg (qT (tu a b))):=N3 (n:=a.1*b.1) hd aa aa;have ff:(a.1*b.1).natAbs<9223372036854775807->a.2*b.2<9223372036854775807->CP Y F.iM [I (a.1*b.1),I (a.2*b.2:Nat)] (.agg (qT (tu a b))):=fun h1 h2=>Ol hd h1 h2
 obtain⟨x,y,hxy⟩:∃x y,qT (tu a b)=[S x,S y]:=⟨_,_,rfl⟩;rw[hxy]at lw ff ⊢;simp only[qT]at b1 b2 ⊢
 have tail:∀u:Unit,cal (CX Y).p [(1,.vars [S (itoa a.1),S (ai a.2)]),(1,.vars [S (itoa b.1),S (ai b.2)]),(1,.vars [.d (.str []),.d (.str [])])] (.fn F.aR [] []) [S (itoa a.1),S (itoa b.1)] fun v15 h=>
  bnd (faV 1 (.ptr 0 1 0 2)) fun v16=>
  bnd (ld1 h v16) fun v17=>
  bnd (faV 1 (.ptr 1 1 0 2)) fun v18=>
  bnd (ld1 h v18) fun v19=>
  cal (CX Y).p h (.fn F.aR [] []) [v17,v19] fun v20 h=>
  cal (CX Y).p h (.fn F.bq [] []) [v15,v20] fun v21 h=>
  stD h 2 (.ptr 2 1 0 2) v21 fun _ h=>
  bnd (ldA h 2 (.ptr 2 1 0 2)) fun v23=>
  out (.agg [S x,S y]) v23 h:=by
  intro _;simp;refine cd m1 ?_;simp;refine cd m2 ?_;simp;refine cd lw ?_;simp;exact jE rfl rfl
 simp[k8];refine cd b1 ?_ (Cv ..);cases g1:decide (sdg a.1<=9)&&decide (ndg a.2<=9)with
 | false=>
  simp;refine aj ?_;simp
  simp_all
 | true=>
  simp only[Z8,decide_eq_true_eq]at g1;obtain⟨s1,s2⟩:=GU g1.1 g1.2;rw[if_pos g1.1,if_pos g1.2];simp;refine aj ?_;simp;refine cd b2 ?_ (Cv ..);cases g2:decide (sdg b.1<=9)&&decide (ndg b.2<=9)with
  | false=>
   simp
   simp_all
  | true=>
   simp only[Z8,decide_eq_true_eq]at g2;obtain⟨s3,s4⟩:=GU g2.1 g2.2;rw[if_pos g2.1,if_pos g2.2];have p1:(a.1*b.1).natAbs<1000000000*1000000000:=by rw[Y9];exact Ys s1 s3
   have p2:a.2*b.2<1000000000*1000000000:=Ys s2 s4;have e2:(a.2:Int)*(b.2:Int)=((a.2*b.2:Nat):Int):=af;have ff:=ff aa aa;obtain⟨N,hN⟩:=mnQ (a.1*b.1);rw[hN]at p1 ff;generalize a.2*b.2=D at *;simp(disch:=try exact ac)[e2,hN];refine cd ff ?_;simp;simp[jE]
theorem Kn{a b:Q}(ha:okQ a)(hb:okQ b)(la:qL 100000 a)(lb:qL 100000 b):CP Y F.fD [.agg (qT a),.agg (qT b)] (.agg (qT (qG a b))):=by
 refine DV ?_;obtain⟨la1,la2⟩:=la;obtain⟨lb1,lb2⟩:=lb;have b1:=sS a;have b2:=sS b;have m1:=yU (z:=a.1) (b:=b.2) aa aa;have m2:=yU (z:=b.1) (b:=a.2) aa aa;have m3:=uN (a:=a.2) (b:=b.2) aa aa;have n1:=eY (z:=a.1) (w:=(b.2:Int));have n2:=eY (z:=b.1) (w:=(a.2:Int))
 have n3:=qU (a:=a.2) (b:=b.2);rw[Int.natAbs_natCast]at n1 n2;have n4:ndg (a.1*b.2+b.1*a.2).natAbs<=200000+1:=vm aa aa;have ad:=rR (z:=a.1*b.2) (w:=b.1*a.2) aa aa;have hd:0<a.2*b.2:=Yj ha.1 hb.1
 have lw:CP Y F.bq [S (itoa (a.1*b.2+b.1*a.2)),S (ai (a.2*b.2))] (.agg (qT (qG a b))):=N3 hd aa aa;have ff:(a.1*b.2+b.1*a.2).natAbs<9223372036854775807->a.2*b.2<9223372036854775807->CP Y F.iM [I (a.1*b.2+b.1*a.2),I (a.2*b.2:Nat)] (.agg (qT (qG a b))):=fun h1 h2=>Ol hd h1 h2
 by_cases one:a.2=1∧b.2=1
 .have ad1:=rR (z:=a.1) (w:=b.1) aa aa
  have eq:qG a b=(a.1+b.1,1):=by
   unfold qG;rw[one.1,one.2];rw[To af];simp
  rw[eq];have t1:qT a=[S (itoa a.1),S [49]]:=by unfold qT;rw[one.1,hO]
  have t2:qT b=[S (itoa b.1),S [49]]:=by unfold qT;rw[one.2,hO]
  have t3:qT (a.1+b.1,1)=[S (itoa (a.1+b.1)),S [49]]:=by unfold qT;rw[hO]
  rw[t1,t2,t3];simp[fD];refine cd ad1 ?_;simp;simp[jE]
 obtain⟨x,y,hxy⟩:∃x y,qT (qG a b)=[S x,S y]:=⟨_,_,rfl⟩;rw[hxy]at lw ff ⊢;simp only[qT]at b1 b2 ⊢
 have tail:∀u:Unit,cal (CX Y).p [(1,.vars [S (itoa a.1),S (ai a.2)]),(1,.vars [S (itoa b.1),S (ai b.2)]),(1,.vars [.d (.str []),.d (.str [])])] (.fn F.aR [] []) [S (itoa a.1),S (ai b.2)] fun v30 h=>
   bnd (faV 0 (.ptr 1 1 0 2)) fun v31=>
   bnd (ld1 h v31) fun v32=>
   bnd (faV 1 (.ptr 0 1 0 2)) fun v33=>
   bnd (ld1 h v33) fun v34=>
   cal (CX Y).p h (.fn F.aR [] []) [v32,v34] fun v35 h=>
   cal (CX Y).p h (.fn F.cJ [] []) [v30,v35] fun v36 h=>
   bnd (faV 1 (.ptr 0 1 0 2)) fun v37=>
   bnd (ld1 h v37) fun v38=>
   bnd (faV 1 (.ptr 1 1 0 2)) fun v39=>
   bnd (ld1 h v39) fun v40=>
   cal (CX Y).p h (.fn F.aR [] []) [v38,v40] fun v41 h=>
   cal (CX Y).p h (.fn F.bq [] []) [v36,v41] fun v42 h=>
   stD h 2 (.ptr 2 1 0 2) v42 fun _ h=>
   bnd (ldA h 2 (.ptr 2 1 0 2)) fun v44=>
   out (.agg [S x,S y]) v44 h:=by
  intro _;simp;refine cd m1 ?_;simp;refine cd m2 ?_;simp;refine cd ad ?_;simp;refine cd m3 ?_;simp;refine cd lw ?_;simp;exact jE rfl rfl
 have hne:¬(ai a.2=[49]∧ai b.2=[49]):=fun h=>one ⟨oe (h.1.trans hO.symm),oe (h.2.trans hO.symm)⟩
 have walk:∀u:Unit,bnd (ldA [(1,.vars [S (itoa a.1),S (ai a.2)]),(1,.vars [S (itoa b.1),S (ai b.2)]),(1,.vars [.d (.str []),.d (.str [])])] 2 (.ptr 0 1 0 2)) fun v19=>
  cal (CX Y).p [(1,.vars [S (itoa a.1),S (ai a.2)]),(1,.vars [S (itoa b.1),S (ai b.2)]),(1,.vars [.d (.str []),.d (.str [])])] (.fn F.dp [] []) [v19] fun v20 h=>
  ext v20 0 fun v21=>
  ext v20 1 fun v22=>
  ext v20 2 fun v23=>
  jn (fun l24 h=>
   bnd (faV 0 (.ptr 0 1 0 2)) fun v26=>
   bnd (ld1 h v26) fun v27=>
   bnd (faV 1 (.ptr 1 1 0 2)) fun v28=>
   bnd (ld1 h v28) fun v29=>
   cal (CX Y).p h (.fn F.aR [] []) [v27,v29] fun v30 h=>
   bnd (faV 0 (.ptr 1 1 0 2)) fun v31=>
   bnd (ld1 h v31) fun v32=>
   bnd (faV 1 (.ptr 0 1 0 2)) fun v33=>
   bnd (ld1 h v33) fun v34=>
   cal (CX Y).p h (.fn F.aR [] []) [v32,v34] fun v35 h=>
   cal (CX Y).p h (.fn F.cJ [] []) [v30,v35] fun v36 h=>
   bnd (faV 1 (.ptr 0 1 0 2)) fun v37=>
   bnd (ld1 h v37) fun v38=>
   bnd (faV 1 (.ptr 1 1 0 2)) fun v39=>
   bnd (ld1 h v39) fun v40=>
   cal (CX Y).p h (.fn F.aR [] []) [v38,v40] fun v41 h=>
   cal (CX Y).p h (.fn F.bq [] []) [v36,v41] fun v42 h=>
   stD h 2 (.ptr 2 1 0 2) v42 fun _ h=>
   bnd (ldA h 2 (.ptr 2 1 0 2)) fun v44=>
   out (.agg [S x,S y]) v44 h) fun q25=>
   cnd v23 (
    bnd (ldA h 2 (.ptr 1 1 0 2)) fun v45=>
    cal (CX Y).p h (.fn F.dp [] []) [v45] fun v46 h=>
    ext v46 0 fun v47=>
    ext v46 1 fun v48=>
    ext v46 2 fun v49=>
    cnd v49 (
     bnd (biI .mul v21 v48) fun v50=>
     bnd (biI .mul v47 v22) fun v51=>
     bnd (biI .add v50 v51) fun v52=>
     bnd (biI .mul v22 v48) fun v53=>
     cal (CX Y).p h (.fn F.iM [] []) [v52,v53] fun v54 h=>
     stD h 2 (.ptr 2 1 0 2) v54 fun _ h=>
     bnd (ldA h 2 (.ptr 2 1 0 2)) fun v56=>
     out (.agg [S x,S y]) v56 h) (
     q25 [] h)) (
    q25 [] h):=by
  intro _;simp;refine cd b1 ?_ (Cv ..);cases g1:decide (sdg a.1<=9)&&decide (ndg a.2<=9)with
  | false=>
   simp;refine aj ?_;simp
   simp_all
  | true=>
   simp only[Z8,decide_eq_true_eq]at g1;obtain⟨s1,s2⟩:=GU g1.1 g1.2;rw[if_pos g1.1,if_pos g1.2];simp;refine aj ?_;simp;refine cd b2 ?_ (Cv ..);cases g2:decide (sdg b.1<=9)&&decide (ndg b.2<=9)with
   | false=>
    simp
    simp_all
   | true=>
    simp only[Z8,decide_eq_true_eq]at g2;obtain⟨s3,s4⟩:=GU g2.1 g2.2;rw[if_pos g2.1,if_pos g2.2];have p1:(a.1*b.2).natAbs<1000000000*1000000000:=by rw[Y9,Int.natAbs_natCast];exact Ys s1 s4
    have p3:(b.1*a.2).natAbs<1000000000*1000000000:=by rw[Y9,Int.natAbs_natCast];exact Ys s3 s2
    have p2:a.2*b.2<1000000000*1000000000:=Ys s2 s4;have e2:(a.2:Int)*(b.2:Int)=((a.2*b.2:Nat):Int):=af;have ff:=ff aa aa;obtain⟨N,hN⟩:∃N,a.1*(b.2:Int)=N:=⟨_,rfl⟩;obtain⟨M,hM⟩:∃M,b.1*(a.2:Int)=M:=⟨_,rfl⟩;rw[hN]at p1 ff;rw[hM]at p3 ff;generalize a.2*b.2=D at *;simp(disch:=try exact ac)[e2,hN,hM];refine cd ff ?_;simp
    simp[jE]
 by_cases c1:ai a.2=[49]
 .have c2:¬ai b.2=[49]:=fun h=>hne ⟨c1,h⟩
  simp[fD,c1,c2]
  simp_all
 .simp[fD,c1]
  simp_all
theorem Qe(a:Q):CP Y F.lS [.agg (qT a)] (I (sgn a.1)):=by refine Bh ?_;simp[lS,qT];refine cd (mF a.1) ?_;exact aV rfl
theorem Jh(z:Int):sgn z=0↔z=0:=by
 unfold sgn;constructor
 .intro h;split at h
  .assumption
  .split at h<;>omega
 .intro h;rw[if_pos h]
theorem C6{a b:LuQ}:out (.tup [.agg [S a,S b],I c]) (.tup [.agg [S a,S b],I c]) h:=⟨h,by simp[aJ,aw,norm]⟩
theorem Km{a b:Q}(ha:okQ a)(hb:okQ b)(h0:b.1≠0)(la:qL 100000 a)(lb:qL 100000 b):CP Y F.jK [.agg (qT a),.agg (qT b)] (.tup [.agg (qT (sd a b)),I 0]):=by
 refine DT ?_;obtain⟨la1,la2⟩:=la;obtain⟨lb1,lb2⟩:=lb;have sg0:=Qe b;have hs:¬sgn b.1=0:=fun h=>h0 ((Jh _).1 h)
 have m1:=yU (z:=a.1) (b:=b.2) aa aa;have m2:=nm (z:=(a.2:Int)) (w:=b.1) (by rw[Int.natAbs_natCast];omega) aa;rw[jb]at m2;have n1:=eY (z:=a.1) (w:=(b.2:Int));have n2:=eY (z:=(a.2:Int)) (w:=b.1);rw[Int.natAbs_natCast]at n1 n2;have hne:(a.2:Int)*b.1≠0:=Int.mul_ne_zero (by have:=ha.1;omega) h0
 have lw:CP Y F.bq [S (itoa (a.1*b.2)),S (itoa (a.2*b.1))] (.agg (qT (sd a b))):=zI hne aa aa;obtain⟨x,y,hxy⟩:∃x y,qT (sd a b)=[S x,S y]:=⟨_,_,rfl⟩;rw[hxy]at lw ⊢;generalize sgn b.1=sb at *;simp only[qT]at sg0 ⊢;simp(disch:=try exact ac)[jK];refine cd sg0 ?_ (Cv ..);simp(disch:=try exact ac)[hs]
 refine cd m1 ?_;simp(disch:=try exact ac);refine cd m2 ?_;simp(disch:=try exact ac);refine cd lw ?_;simp(disch:=try exact ac);exact C6
theorem Uf{n d:Int}(hd:d≠0)(hn:ndg n.natAbs<800000)(hd2:ndg d.natAbs<800000):CP Y F.mZ [S (itoa n),S (itoa d)] (.tup [.agg (qT (jq n d)),I 0]):=by
 refine DN ?_;have sg0:=mF d;have hs:¬sgn d=0:=fun h=>hd ((Jh _).1 h)
 have lw:=zI hd hn hd2;obtain⟨x,y,hxy⟩:∃x y,qT (jq n d)=[S x,S y]:=⟨_,_,rfl⟩;rw[hxy]at lw ⊢;generalize sgn d=sb at *;simp[mZ];refine cd sg0 ?_;simp[hs];refine cd lw ?_;simp;exact C6
theorem qg(h1 : -9223372036854775808<z)(h2:z<9223372036854775808):ndg z.natAbs<=19:=cS aa ae
theorem sF{n d:Int}(hd:d≠0)(h1 : -9223372036854775808<n)(h2:n<9223372036854775808)(h3 : -9223372036854775808<d)(h4:d<9223372036854775808):CP Y F.dS [I n,I d] (.tup [.agg (qT (jq n d)),I 0]):=by refine ET ?_;have nw:=Uf (n:=n) hd (Zh (qg h1 h2) ae) (Zh (qg h3 h4) ae);obtain⟨x,y,hxy⟩:∃x y,qT (jq n d)=[S x,S y]:=⟨_,_,rfl⟩;rw[hxy]at nw ⊢;simp[dS];refine cd (kt h1 h2) ?_;simp;refine cd (kt h3 h4) ?_;simp;refine cd nw ?_;simp;exact C6
theorem HO(z:Int)(hb:0<b):z.fdiv (-(b:Int))=(-z)/(b:Int)∧z.fmod (-(b:Int)) = -((-z)%(b:Int)):=by
 have e:z.fdiv (-(b:Int))=(-z)/(b:Int):=by
  rw[<-Int.fdiv_eq_ediv_of_nonneg (-z) (by omega:(0:Int)<=(b:Int)),<-Int.neg_fdiv_neg (-z) (b:Int),Wc]
 refine⟨e,?_⟩;rw[Int.fmod_def,e];have:=Int.mul_ediv_add_emod (-z) (b:Int);rw[Int.neg_mul];omega
theorem Kt(x y:Int)(hy:y≠0):(x.fdiv y).natAbs<=x.natAbs:=by
 by_cases h:0<y
 .rw[Int.fdiv_eq_ediv_of_nonneg _ aa];exact Int.natAbs_ediv_le_natAbs ..
 .obtain⟨b,hb⟩:∃b:Nat,b=y.natAbs:=⟨_,rfl⟩;have e:y = -(b:Int):=aa;rw[e,(HO x (b:=b) aa).1];have:=Int.natAbs_ediv_le_natAbs (-x) (b:Int)
  rwa [Xj]at this
theorem Uz(hb:0<b)(hz:ndg z.natAbs<900000)(hbd:ndg b<900000):
   cal (CX Y).p [] (.fn F.aQ [] []) [S (itoa z)] fun v7 h=>
   ext v7 0 fun v8=>
   ext v7 1 fun v9=>
   cal (CX Y).p h (.fn F.aQ [] []) [S (itoa (-(b:Int)))] fun v10 h=>
   ext v10 0 fun v11=>
   ext v10 1 fun v12=>
   cal (CX Y).p h (.fn F.dT [] []) [v9,v12] fun v13 h=>
   ext v13 0 fun v14=>
   ext v13 1 fun v15=>
   ext v13 2 fun v16=>
   bnd (biI .neq v16 (.d (.int .i64 0))) fun v17=>
   cnd v17 (
    out (.tup [S (itoa ((-z)/b)),S (itoa (-((-z)%b))),I 0]) (.tup [(.d (.str [])),(.d (.str [])),v16]) h) (
    bnd (biB .neq v8 v11) fun v18=>
    gd v18 true h (fun q=>q v15 h) fun v19 h=>
    gd v18 true h (fun q=>bnd (biS .neq v19 (.d (.str [48]))) fun v=>q v h) fun v20 h=>
    bnd (jD v18 v20 (.d (.bool false))) fun v21=>
    jn (fun l22 h=>
     bnd (biB .neq v8 v11) fun v24=>
     cal (CX Y).p h (.fn F.bU [] []) [v24,(ge l22 0)] fun v25 h=>
     cal (CX Y).p h (.fn F.bU [] []) [v11,(ge l22 1)] fun v26 h=>
     out (.tup [S (itoa ((-z)/b)),S (itoa (-((-z)%b))),I 0]) (.tup [v25,v26,(.d (.int .i64 0))]) h) fun q23=>
     cnd v21 (
      cal (CX Y).p h (.fn F.fX [] []) [v14,(.d (.str [49]))] fun v27 h=>
      cal (CX Y).p h (.fn F.gQ [] []) [v12,v15] fun v28 h=>
      ext v28 0 fun v29=>
      ext v28 1 fun v30=>
      q23 [v27,v29] h) (
      q23 [v14,v15] h)):=by
 have hq:ndg (z.natAbs/b)<=ndg z.natAbs:=cE (Ym ..);have hr:z.natAbs%b<b:=Y5 _ hb;have hr2:ndg (z.natAbs%b)<=ndg b:=cE aa;have eb:∀x y:Bool,biB .neq (B x) (B y)=some (B (x !=y)):=fun _ _=>rfl
 have sb:=nW (-(b:Int));rw[decide_eq_true (by omega : -(b:Int)<0),show(-(b:Int)).natAbs=b by omega]at sb;simp;refine cd (nW z) ?_;simp;refine cd sb ?_;simp;refine cd (wi (a:=z.natAbs) hb aa aa) ?_;by_cases hneg:z<0
 .have ez : -z=(z.natAbs:Int):=aa;rw[decide_eq_true hneg];simp[eb];refine gH (l:=[S (ai (z.natAbs/b)),S (ai (z.natAbs%b))]) (h:=[]) (fun q=>by simp) ?_;simp[eb];refine cd (gL false (n:=z.natAbs/b) aa) ?_;simp;refine cd (gL true (n:=z.natAbs%b) aa) ?_;refine nF ?_ ?_
  .rw[ez,<-Int.natCast_ediv];rfl
  .rw[ez,<-Int.natCast_emod];rfl
 .have ez : -z = -(z.natAbs:Int):=aa;obtain⟨d1,d2⟩:=tN (a:=z.natAbs) hb;rw[<-ez]at d1 d2;rw[decide_eq_false hneg];by_cases h0:z.natAbs%b=0
  .rw[if_pos h0]at d1 d2;rw[h0,dP];simp[eb];refine gH (l:=[S (ai (z.natAbs/b)),S [48]]) (h:=[]) (fun q=>by simp) ?_;simp[eb];refine cd (gL true (n:=z.natAbs/b) aa) ?_;simp;have j0:=gL true (n:=0) (by grind);rw[dP]at j0;refine cd j0 ?_;refine nF ?_ ?_
   .rw[d1];rfl
   .rw[d2];rfl
  .rw[if_neg h0]at d1 d2;have h48:¬ai (z.natAbs%b)=[48]:=fun h=>h0 (jT.1 h)
   have ad:=xv (a:=z.natAbs/b) (b:=1) aa (by simp[tB]);rw[show ai 1=[49] by decide+kernel]at ad;simp[eb,h48];refine aj ?_;simp[h48];refine cd ad ?_;simp;refine cd (wj (a:=b) (b:=z.natAbs%b) aa aa) ?_;simp[eb];have hq1:ndg (z.natAbs/b+1)<=900000+1:=qV aa (by simp[tB])
   refine cd (gL true (n:=z.natAbs/b+1) aa) ?_;simp;refine cd (gL true (n:=b-z.natAbs%b) (Zh (cE (Nat.sub_le ..)) aa)) ?_;refine nF ?_ ?_
   .rw[d1];rfl
   .rw[d2];rfl
theorem Ld(hb:0<b)(hz:ndg z.natAbs<900000)(hbd:ndg b<900000):CP Y F.aW [S (itoa z),S (itoa (-(b:Int)))] (.tup [S (itoa ((-z)/b)),S (itoa (-((-z)%b))),I 0]):=by
 refine uL ?_;have l1:=nO z 18 ae;have l2:=nO (-(b:Int)) 18 ae;have tl:=Uz hb hz hbd
 have h48:¬itoa (-(b:Int))=[48]:=fun h=>by
  have:=yh (h.trans (show[48]=itoa 0 by decide+kernel));omega
 simp[aW,h48];refine cd l1 ?_;by_cases h1:sdg z<=18
 .rw[if_pos h1];by_cases h2:sdg (-(b:Int))<=18
  .rw[if_pos h2]at l2;simp;refine aj ?_;simp;refine cd l2 ?_;have b1:=qc h1;have b2:=qc h2;simp only[Nat.reducePow]at b1 b2;have hbz:¬(-(b:Int))=0:=aa;have eb:∀x y:Bool,biB .neq (B x) (B y)=some (B (x !=y)):=fun _ _=>rfl
   obtain⟨n,hn⟩:=nmQ (z.natAbs);rw[<-hn]at b1;have hq:n/b<=n:=Ym ..;have hr:n%b<b:=Y5 _ hb;have ym:(-(b:Int))<0:=aa;by_cases hneg:z<0
   .have ez:z = -(n:Int):=aa;have q1:z.tdiv (-(b:Int))=((n/b:Nat):Int):=by rw[ez,Int.neg_tdiv,Int.tdiv_neg,Wc,Zu aa,<-Int.natCast_ediv]
    have q2:z.tmod (-(b:Int)) = -((n%b:Nat):Int):=by rw[ez,Int.neg_tmod,Int.tmod_neg,Zz aa,<-Int.natCast_emod]
    have d1:(-z)/(b:Int)=((n/b:Nat):Int):=by rw[ez,Wc,<-Int.natCast_ediv]
    have d2:(-z)%(b:Int)=((n%b:Nat):Int):=by rw[ez,Wc,<-Int.natCast_emod]
    obtain⟨q,hqq⟩:=nmQ (n/b);obtain⟨r,hrr⟩:=nmQ (n%b);rw[<-hqq]at q1 d1 hq;rw[<-hrr]at q2 d2 hr
    have fin:∀h:Hp,cal (CX Y).p h (V.fn F.dF [] []) [I q] fun v45 h=>
      cal (CX Y).p h (V.fn F.dF [] []) [I (-(r:Int))] fun v46 h=>out (V.tup [S (itoa ((-z)/(b:Int))),S (itoa (-((-z)%(b:Int)))),I 0]) (V.tup [v45,v46,V.d (D.int IntKind.i64 0)]) h:=by
     intro h;simp;refine cd (kt (z:=(q:Int)) aa aa) ?_;simp;refine cd (kt (z:=-(r:Int)) aa aa) ?_;refine nF ?_ ?_
     .rw[d1]
     .rw[d2]
    by_cases h0:r=0
    .subst h0;simp only[Int.natCast_zero,Int.neg_zero]at q2 fin;simp(disch:=try exact ac)[q1,q2,hbz];refine gH (l:=[I q,I 0]) (h:=[]) (fun q=>by simp) ?_;exact fin []
    .have r0:¬(-(r:Int))=0:=aa;have r1:(-(r:Int))<0:=aa;simp(disch:=try exact ac)[q1,q2,r0,r1,ym,eb,hbz];refine gH (l:=[I q,I (-(r:Int))]) (h:=[]) (fun q=>by simp(disch:=try exact ac)[r0,r1,ym,eb]) ?_;exact fin []
   .have ez:z=(n:Int):=aa;obtain⟨d1,d2⟩:=tN (a:=n) hb;rw[<-ez]at d1 d2;have q1:z.tdiv (-(b:Int)) = -((n/b:Nat):Int):=by rw[ez,Int.tdiv_neg,Zu aa,<-Int.natCast_ediv]
    have q2:z.tmod (-(b:Int))=((n%b:Nat):Int):=by rw[ez,Int.tmod_neg,Zz aa,<-Int.natCast_emod]
    obtain⟨q,hqq⟩:=nmQ (n/b);obtain⟨r,hrr⟩:=nmQ (n%b);rw[<-hqq]at q1 d1 hq;rw[<-hrr]at q2 d1 d2 hr;by_cases h0:r=0
    .rw[if_pos h0]at d1 d2;subst h0;simp only[Int.natCast_zero]at q2;simp(disch:=try exact ac)[q1,q2,hbz];refine gH (l:=[I (-(q:Int)),I 0]) (h:=[]) (fun q=>by simp) ?_;simp;refine cd (kt (z:=-(q:Int)) aa aa) ?_;simp;refine cd (kt (z:=0) aa aa) ?_;refine nF ?_ ?_
     .rw[d1]
     .rw[d2];rfl
    .rw[if_neg h0]at d1 d2;have r0:¬((r:Int))=0:=aa;have r1:¬(r:Int)<0:=aa;simp(disch:=try exact ac)[q1,q2,r0,r1,ym,eb,hbz];refine gH (l:=[I (-(q:Int)-1),I ((r:Int) + -(b:Int))]) (h:=[]) (fun q=>by simp(disch:=try exact ac)[r0,r1,ym]) ?_;simp;refine cd (kt (z:=-(q:Int)-1) aa aa) ?_;simp
     refine cd (kt (z:=(r:Int) + -(b:Int)) aa aa) ?_;refine nF ?_ ?_
     .rw[d1];congr 1;omega
     .rw[d2];congr 1;omega
  .rw[if_neg h2]at l2;simp;refine aj ?_;simp;refine cd l2 ?_;simp;exact tl
 .rw[if_neg h1];simp;refine aj ?_;simp;exact tl
theorem ID(hw0:w≠0)(hz:ndg z.natAbs<900000)(hw:ndg w.natAbs<900000):CP Y F.aW [S (itoa z),S (itoa w)] (.tup [S (itoa (z.fdiv w)),S (itoa (z.fmod w)),I 0]):=by
 by_cases h:0<w
 .rw[Int.fdiv_eq_ediv_of_nonneg _ aa,Int.fmod_eq_emod_of_nonneg _ aa];exact QQ h hz hw
 .obtain⟨b,hb⟩:∃b:Nat,b=w.natAbs:=⟨_,rfl⟩;have e:w = -(b:Int):=aa;rw[<-hb]at hw;rw[e,(HO z (b:=b) aa).1,(HO z (b:=b) aa).2];exact Ld aa hz hw
theorem Vw(hz:ndg z.natAbs<999999)(hw:ndg w.natAbs<999999):CP Y F.ql [S (itoa z),S (itoa w)] (S (itoa (z-w))):=by refine Ix ?_;simp[ql];refine cd (xZ aa) ?_;simp;refine cd (rR hz (by simpa using hw)) ?_;exact eX (by rw[Int.sub_eq_add_neg])
end Go.Vm
