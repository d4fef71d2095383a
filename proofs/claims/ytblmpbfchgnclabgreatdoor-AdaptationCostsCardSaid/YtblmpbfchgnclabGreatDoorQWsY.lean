/- Lemmas. -/
import Derived.Test.YtblmpbfchgnclabGreatDoorQDcY
set_option linter.unusedVariables false
set_option linter.unusedSimpArgs false
namespace Go.Vm
open Go Go.Am Go.Big
variable{s a b n e i k v d more u E P g L:Nat}{z w c:Int}{p:LiQ}{A l:LnQ}{h:Hp}{ex fr:Bool}{α:Type}
def shH(o:LnQ):Hp:=[(1,.data 1 (o.map u32) false false),nnQ]
@[simp]theorem agP(o:LnQ):List.length (shH o)=2:=id rfl
def slH(o:LnQ):Hp:=[nnQ,(1,.data 1 (o.map u32) true false)]
@[simp]theorem agJ(o:LnQ):List.length (slH o)=2:=id rfl
def rdT(s:LuQ):LuQ:=if s.headD 0=45 then s.tail else s
def rdN(s:LuQ):Bool:=decide (s.headD 0=45)
def rd(s:LuQ):Option Int:=if(rdT s).length<=400 then rdS s else none
theorem acl(s:LuQ):rd s=if(rdT s).length<=400∧rdT s≠[]∧¬((rdT s).headD 0=48∧(1<(rdT s).length∨rdN s=true))∧(rdT s).all qt=true then some (if rdN s=true then -(fE 0 (rdT s):Int)else(fE 0 (rdT s):Int))else none:=by
 unfold rd rdS
 have hcan:∀t:LuQ,qR t=true↔t≠[]∧t.all qt=true∧¬(1<t.length∧t.headD 0=48):=fun t=>by
  simp[qR,and_assoc];intro _ _;constructor
  .rintro(h|h) g
   .omega
   omega
  .intro h;by_cases g:1<t.length
   .grind
   .exact .inl aa
 by_cases h:s.headD 0=45
 .have e1:rdT s=s.tail:=by unfold rdT;rw[if_pos h]
  have e2:rdN s=true:=by unfold rdN;simpa using h
  rw[e1,e2,if_pos h];generalize s.tail=t;by_cases h1:t.length<=400
  .simp only[h1,if_true,true_and,hcan];by_cases h2:t≠[]∧¬(t.headD 0=48∧(1<t.length∨True))∧t.all qt=true
   .grind
   .rw[if_neg h2,if_neg];rintro⟨⟨a,b,c⟩,d⟩;refine h2 ⟨a,fun x=>?_,b⟩;by_cases g:1<t.length
    .grind
    .apply d;cases t with
     |nil=>trivial
     | cons y t=>
      grind
  grind
 .have e1:rdT s=s:=by unfold rdT;rw[if_neg h]
  have e2:rdN s=false:=by unfold rdN;simpa using h
  grind
@[simp]theorem agV(n:Nat):okV (nat n)=true:=id rfl
theorem Ud{s:LuQ}(h:rd s=some z):z.natAbs<10^400:=by
 rw[acl]at h;split at h
 .rename_i hc;simp only[Z9]at h;have hi:=uG (rdT s) 0 hc.2.2.2;have:fE 0 (rdT s)<10^400:=Z1 hi (by set_option exponentiation.threshold 1000 in rw[Zp,Xr];exact Z4 ae hc.1)
  have hz:z.natAbs=fE 0 (rdT s):=by
   rw[<-h];split<;>simp
  rw[hz];exact this
 .cases h
def rdF(a b:LuQ):Option (Int×Nat):=match rd a,rd b with
 |some n,some d=>if 0<d∧Nat.gcd n.natAbs d.natAbs=1 then some (n,d.natAbs)else none
 |_,_=>none
theorem dM(h:a<=b):ndg a<=ndg b:=cN (Zk h (cY b)) (md b)
theorem R9(k:KL):∀(b a:Nat),ndg a<1000000->ndg b<1000000->k (.exit 0) [S (ai (Nat.gcd a b))] []->lp (pR (CX Y)) [] [] [S (ai a),S (ai b)] [] k:=by
 intro b
 induction b using Nat.strongRecOn with
 | _ b ih=>
  intro a ha hb hk;by_cases h0:b=0
  .subst h0;rw[Nat.gcd_zero_right]at hk;refine aj ?_;rw[fj];simp[pR];exact hk
  .have hbp:0<b:=aa
   have hne:¬ai b=[48]:=by
    rw[<-fj];intro e;have:=congrArg (fE 0) e;rw[dZ,dZ]at this;omega
   have hm:=Y7 a hbp
   have hk2:=ih (a%b) hm b hb (Zk (dM (Nat.le_of_lt hm)) hb) (by
    rw[V5 b,<-Nat.gcd_rec,V5 b];exact hk)
   refine aj ?_;simp[pR,hne];refine cd (BW hbp ha hb) ?_;simp;exact hk2
theorem Qr(ha:ndg a<1000000)(hb:ndg b<1000000):CP Y F.nj [S (ai a),S (ai b)] (S (ai (Nat.gcd a b))):=by refine GL ?_;simp[nj];refine lo (R9 _ b a ha hb ?_);simp;exact fD rfl
theorem R8(k:KL):∀(b a:Nat),a<1000000000000000000->b<1000000000000000000->k (.exit 0) [I (Nat.gcd a b:Nat)] []->lp (rG (CX Y)) [] [] [I a,I b] [] k:=by
 intro b
 induction b using Nat.strongRecOn with
 | _ b ih=>
  intro a ha hb hk;by_cases h0:(b:Int)=0
  .have:b=0:=aa;subst this;rw[Nat.gcd_zero_right]at hk;refine aj ?_;simp[rG];exact hk
  .have hbp:0<b:=aa;have hm:=Y7 a hbp
   have hk2:=ih (a%b) hm b hb aa (by
    rw[V5 b,<-Nat.gcd_rec,V5 b];exact hk)
   have h0':¬b=0:=aa;have e2:(a:Int)%(b:Int)=((a%b:Nat):Int):=af;obtain⟨r,hr⟩:=mnQ (a%b);rw[hr]at hk2 e2;refine aj ?_;simp[rG,h0,h0',Zx,e2];exact hk2
theorem aa5(ha:a<1000000000000000000)(hb:b<1000000000000000000):CP Y F.rX [I a,I b] (I (Nat.gcd a b:Nat)):=by refine Ke ?_;simp[rX];refine lo (R8 _ b a ha hb ?_);simp only[iP];exact cx rfl
theorem N7(h:n<9223372036854775808):CP Y F.fG [I n] (S (ai n)):=by
 refine DZ ?_;simp[fG];have e:itoa (n:Int)=ai n:=by unfold itoa;rw[if_neg aa];rfl
 refine cd (DG (z:=n) aa aa) ?_;rw[e]
 try simp(disch:=try exact ag)
 exact fD rfl
theorem EZ(a:Nat):CP Y F.bC [S (ai a),I 18] (if ndg a<=18 then .tup [I a,B true]else .tup [I 0,B false]):=by
 refine sI ?_;have la:=kZ a;by_cases h:18<ndg a
 .rw[if_neg aa];simp(disch:=try exact ag)[bC,la,h];exact aG rfl rfl
 .rw[if_pos aa];have ap:=JY (n:=a) (md a) aa (cY a);have en:biF .eql (.d (.pl .nilIface)) (.d (.pl .nilIface))=some (.d (.bool true)):=rfl;simp(disch:=try exact ag)[bC,la,h];refine cd (args:=[S (ai a)]) ap ?_;simp[en];exact aG rfl rfl
theorem wK(s:LuQ):CP Y F.aR [S s] (.tup [B (rdN s),S (rdT s)]):=by
 refine F7 ?_;cases s with
 | nil=>
  simp[aR];exact aG rfl rfl
 | cons c t=>
  have hix:ixS (S (c::t)) (.d (.int .i64 0))=some (.d (.int .u8 c.toNat)):=rfl;by_cases h:c=45
  .subst h;have e:((45:UInt8).toNat:Int)=45:=rfl;simp(disch:=try exact ag)[aR,hix,e];exact aG rfl rfl
  .have e:¬(c.toNat:Int)=45:=fun g=>h (by apply UInt8.toNat.inj;simpa using(by omega:c.toNat=45))
   have e1:rdT (c::t)=c::t:=by simp[rdT,h]
   have e2:rdN (c::t)=false:=by simp[rdN,h]
   rw[e1,e2];simp[aR,hix,e];exact aG rfl rfl
theorem Ie(l:LuQ)(hl:l.length<1000000000)(k:KL):∀(q p:LuQ),p++q=l->(q.all qt=true->k (.exit 0) [] [])->(q.all qt=false->k .ret [B false] [])->lp (fv (CX Y) (lst u8 l) (I l.length)) [] [] [I p.length] [] k
 | []=>by
  intro p hp h0 h1;simp at hp;subst hp;refine aj ?_;simp[fv];exact h0 rfl
 | c::q=>by
  intro p hp h0 h1;have hpl:p.length<l.length:=by subst hp;simp
  have hc:nth 0 l p.length=c:=by subst hp;simp
  have e1:=fun h:Hp=>kv u8 l h (k:=.i64) (i:=(p.length:Int)) aa aa
  have e2:=fun h:Hp=>aC u8 0 l h (j:=p.length) hpl
  rw[hc]at e2;simp only[Int.toNat_natCast]at e1;have ih:=Ie l hl k q (p++[c]) (by simpa using hp);refine aj ?_;by_cases g1:(c.toNat:Int)<48
  .have g3:qt c=false:=by rw[Bool.eq_false_iff];intro h;rw[mA]at h;omega
   simp(disch:=try exact ag)[fv,e1,e2,u8,g1];exact h1 (by simp[g3])
  .by_cases g2:(57:Int)<c.toNat
   .have g3:qt c=false:=by rw[Bool.eq_false_iff];intro h;rw[mA]at h;omega
    simp(disch:=try exact ag)[fv,e1,e2,u8,g1,g2];exact h1 (by simp[g3])
   .have g3:qt c=true:=by rw[mA];omega
    have:=ih (fun h=>h0 (by simp[g3];simpa using h)) (fun h=>h1 (by simp only[List.all_cons,h,Wa]));simp(disch:=try exact ag)[fv,e1,e2,u8,g1,g2];simpa using this
theorem abC(l:LuQ)(hl:l.length<1000000000):CP Y F.iF [S l] (B (qR l)):=by
 refine yw ?_;unfold iF
 show cvB (S l) _ _
 rw[acO];have lL:nS (S l)=some (I l.length):=rfl;simp;refine lo (Ie l hl _ l [] rfl (fun e=>?_) (fun e=>?_))
 .simp only[iP];cases l with
  | nil=>
   simp[lL];exact nN (by simp[qR])
  | cons c t=>
   have hix:ixS (S (c::t)) (.d (.int .i64 0))=some (.d (.int .u8 c.toNat)):=rfl;cases t with
   | nil=>
    simp[lL];exact nN (by simp[qR]at e ⊢;exact e)
   | cons d t=>
    obtain⟨N,hN⟩:∃N,(c::d::t).length=N:=⟨_,rfl⟩;have hN2:2<=N:=by rw[<-hN];simp only[List.length_cons];omega
    rw[hN]at lL;have g2:(1:Int)<(N:Int):=aa;have g3:¬(N:Int)=1:=aa;by_cases h:c=48
    .subst h;have e48:((48:UInt8).toNat:Int)=48:=rfl;simp[lL,g2,g3,hix,e48];exact nN (by simp[qR])
    .have e48:¬(c.toNat:Int)=48:=fun g=>h (by apply UInt8.toNat.inj;simpa using(by omega:c.toNat=48))
     simp[lL,g2,g3,hix,e48]
     exact nN (by
      have:qR (c::d::t)=true:=by simp only[qR,e];simp[h]
      exact this.symm)
 .simp only[AL,DL];exact nN (by simp only[qR,e,Wa,V9])
theorem Ss(l:LuQ)(hl:l.length<1000000000):CP Y F.kC [S l] (I (if qR l=true∧l.length<=400 then 0 else 2)):=by
 refine C7 ?_;have lL:nS (S l)=some (I l.length):=rfl;obtain⟨N,hN⟩:=mnQ (l.length);rw[hN]at lL ⊢;simp[kC];refine cd (abC l hl) ?_;cases hc:qR l with
 | false=>
  simp<;>exact cx af
 | true=>
  by_cases h:(400:Int)<N
  .simp[lL,h]<;>exact cx (by rw[if_neg aa])
  .have h2:true=true∧N<=400:=⟨rfl,aa⟩;simp[lL,h]<;>exact cx (by rw[if_pos h2.2])
theorem Rt(s:LuQ):(rd s).isSome=(!(rdN s&&decide (rdT s=[48]))&&(qR (rdT s)&&decide ((rdT s).length<=400))):=by
 unfold rd rdS rdN rdT;by_cases h45:s.headD 0=45
 .simp only[h45,if_true];obtain⟨t,ht⟩:=mnQ (s.tail);rw[ht];by_cases hl:t.length<=400
  .by_cases h48:t=[48]
   .simp[h48]
   .cases hc:qR t<;>simp[hl,h48]
  .simp[hl]
 .simp only[h45,if_false];by_cases hl:s.length<=400
  .cases hc:qR s<;>simp[hl]
  .simp[hl]
theorem H7(s:LuQ)(hs:s.length<1000000000):CP Y F.mS [S s] (I (if(rd s).isSome then 0 else 2)):=by
 refine Ga ?_
 have hT:(rdT s).length<1000000000:=by
  unfold rdT;split
  .have:s.tail.length=s.length-1:=List.length_tail;omega
  .exact hs
 rw[Rt];simp[mS];refine cd (wK s) ?_;have hck:=Ss (rdT s) hT;obtain⟨t,ht⟩:=mnQ (rdT s);rw[ht]at hck ⊢;obtain⟨c4,hc4⟩:∃c4,(qR t&&decide (t.length<=400))=c4:=⟨_,rfl⟩
 have hck2:CP Y F.kC [S t] (I (if c4=true then 0 else 2)):=by
  have:(if qR t=true∧t.length<=400 then(0:Int)else 2)=if c4=true then 0 else 2:=by
   rw[<-hc4];by_cases h:qR t=true∧t.length<=400
   .rw[if_pos h];simp[h]
   .rw[if_neg h];rw[if_neg (by simpa using h)]
  rw[<-this];exact hck
 rw[hc4];cases hn:rdN s with
 | true=>
  by_cases h3:t=[48]
  .simp[h3]<;>exact cx af
  .simp[h3];refine cd hck2 ?_;cases c4 with
   |true=>simp[h3]<;>exact cx (by simp[h3])
   |false=>simp[h3]<;>exact cx (by simp[h3])
 | false=>
  simp;refine cd hck2 ?_;cases c4 with
  |true=>simp<;>exact cx af
  |false=>simp<;>exact cx af
theorem uE(z:Int):rdT (itoa z)=ai z.natAbs:=by
 unfold itoa rdT;split
 .simp
 .rw[if_neg (tg _)]
theorem DW(z:Int):CP Y F.ij [S (itoa z)] (S (ai z.natAbs)):=by refine Cl ?_;have:=wK (itoa z);rw[uE]at this;simp[ij];refine cd this ?_;simp<;>exact fD rfl
def sgn(z:Int):Int:=if z=0 then 0 else if z<0 then -1 else 1
theorem qH(z:Int):CP Y F.dE [S (itoa z)] (I (sgn z)):=by
 refine Iv ?_;by_cases h0:z=0
 .subst h0;have e:itoa 0=[48]:=fj;rw[e];simp[dE]<;>exact cx rfl
 ·have hne:¬itoa z=[48]:=by
   intro e;have h1:=Le z;have h2:=Le 0;rw[show itoa 0=[48]from fj,<-e,h1]at h2;exact h0 (Option.some.inj h2)
  by_cases hn:z<0
  .have e:itoa z=45::ai z.natAbs:=by unfold itoa;rw[if_pos hn]
   have hix:ixS (S (itoa z)) (.d (.int .i64 0))=some (.d (.int .u8 45)):=by rw[e];rfl
   simp[dE,hne,hix]<;>exact cx (by simp[sgn,h0,hn])
  .have e:itoa z=ai z.natAbs:=by unfold itoa;rw[if_neg hn]
   obtain ⟨c,t,hct⟩:∃c t,ai z.natAbs=c::t:=by
    cases h:ai z.natAbs with
    |nil=>exact absurd h (xp _)
    |cons c t=>exact⟨c,t,rfl⟩
   have hhd:=tg z.natAbs;rw[hct]at hhd;have hix:ixS (S (itoa z)) (.d (.int .i64 0))=some (.d (.int .u8 c.toNat)):=by rw[e,hct];rfl
   have hc:¬(c.toNat:Int)=45:=fun g=>hhd (by apply UInt8.toNat.inj;simpa using(by omega:c.toNat=45))
   simp[dE,hne,hix,hc]<;>exact cx (by simp[sgn,h0,hn])
theorem Qq(hz:ndg z.natAbs<1000000)(hw:ndg w.natAbs<1000000):CP Y F.oU [S (itoa z),S (itoa w)] (S (ai (Nat.gcd z.natAbs w.natAbs))):=by
 refine Ki ?_;have l1:=EZ z.natAbs;have l2:=EZ w.natAbs;have gg:=Qr hz hw;simp[oU];refine cd (DW z) ?_;simp;refine cd (DW w) ?_;simp;by_cases h1:ndg z.natAbs<=18
 .rw[if_pos h1]at l1;refine cd l1 ?_;simp;by_cases h2:ndg w.natAbs<=18
  .rw[if_pos h2]at l2;refine aT ?_;simp;refine cd l2 ?_;have b1:z.natAbs<1000000000000000000:=by have:=cY z.natAbs;have:=Z4 (n:=10) ae h1;omega
   have b2:w.natAbs<1000000000000000000:=by have:=cY w.natAbs;have:=Z4 (n:=10) ae h2;omega
   have gi:=aa5 b1 b2
   have gb:Nat.gcd z.natAbs w.natAbs<9223372036854775808:=by
    rcases Zd w.natAbs with h|h
    .rw[h,Nat.gcd_zero_right];omega
    .have:=Nat.gcd_le_right z.natAbs h;omega
   generalize Nat.gcd z.natAbs w.natAbs=G at *;generalize z.natAbs=a at *;generalize w.natAbs=b at *;simp;refine cd gi ?_;simp;refine cd (N7 gb) ?_;exact fD rfl
  .rw[if_neg h2]at l2;refine aT ?_;simp;refine cd l2 ?_;simp;refine cd gg ?_;exact fD rfl
 .rw[if_neg h1]at l1;refine cd l1 ?_;simp;refine cd (u:=.mk) gg ?_;exact fD rfl
theorem PI{s:LuQ}(h:rd s=some z):s=itoa z∧ndg z.natAbs<1000000:=by
 have hb:=Ud h;unfold rd at h;split at h
 .exact⟨Ue h,by have:=cN hb ae;omega⟩
 .cases h
theorem NZ(a b:LuQ):(rdF a b).isSome=match rd a,rd b with
  |some n,some d=>decide (0<d∧Nat.gcd n.natAbs d.natAbs=1)
  |_,_=>false:=by
 unfold rdF;cases rd a<;>cases rd b<;>simp
 split<;>simp_all
theorem Ca(a b:LuQ)(ha:a.length<1000000000)(hb:b.length<1000000000):CP Y F.fR [.agg [S a,S b]] (I (if(rdF a b).isSome then 0 else 2)):=by
 refine BO ?_;have ca:=H7 a ha;have cb:=H7 b hb;rw[NZ];simp[fR];refine cd ca ?_;cases hra:rd a with
 | none=>
  simp;refine aT ?_;simp<;>exact cx rfl
 | some z=>
  cases hrb:rd b with
  | none=>
   rw[hrb]at cb;simp;refine aT ?_;simp;refine cd cb ?_;simp<;>exact cx rfl
  | some w=>
   rw[hrb]at cb;obtain⟨ea,na⟩:=PI hra;obtain⟨eb,nb⟩:=PI hrb;subst ea;subst eb;have sg:=qH w;have gg:=Qq na nb;simp;refine aT ?_;simp;refine cd cb ?_;simp;refine cd sg ?_;by_cases hw:0<w
   .have hs:¬sgn w<=0:=by unfold sgn;rw[if_neg aa,if_neg aa];decide
    simp[hs];refine aT ?_;simp;refine cd gg ?_;by_cases hg:Nat.gcd z.natAbs w.natAbs=1
    .have e1:ai 1=[49]:=by rw[ai,show ndg 1=1 by unfold ndg;simp];rfl
     rw[show ai (Nat.gcd z.natAbs w.natAbs)=[49] by rw[hg,e1]];simp<;>exact cx (by simp[hw];exact hg)
    ·have e1:¬ai (Nat.gcd z.natAbs w.natAbs)=[49]:=by
      intro e;have:=congrArg (fE 0) e;rw[dZ]at this;exact hg this
     simp[e1]<;>exact cx (by simp[hw,hg])
   .have hs:sgn w<=0:=by unfold sgn;split;decide;rw[if_pos aa];decide
    simp[hs];refine aT ?_;simp[hs]<;>exact cx (by simp[hw])
def PP(n:Nat):Nat->Nat->Bool
 |0,_=>true
 |k+1,d=>if n%d=0 then false else PP n k (d+1)
def ta(n:Int):Bool:=decide (2<=n)&&decide (n<=97)&&PP n.toNat (n.toNat-2) 2
def Cz:Option Int->LiQ->Bool
 |_,[]=>true
 |prev,x::q=>ta x&&(match prev with|some y=>decide (y<x)|none=>true)&&Cz (some x) q
def Dn(p:LiQ):Bool:=Cz none p&&decide (0<p.length)&&decide (p.length<=6)
def wP(s:LuQ):Bool:=decide ((rdT s).length<=30)
abbrev Tx:=LuQ×LuQ
def aK(x:Tx):LdQ:=[.str x.1,.str x.2]
theorem bv(x:Tx):(aK x).length=2:=rfl
def Tg(n:Nat):Nat->Nat->Bool
 |0,_=>true
 |r+1,d=>if d*d<=n then(if n%d=0 then false else Tg n r (d+1))else true
theorem ady:∀n:Fin 98,2<=n.val->Tg n.val 10 2=ta n.val:=bb
theorem Po(n:Nat)(hn:n<=97)(k:KL):∀(r d:Nat),2<=d->d+r=12->(Tg n r d=true->k (.exit 0) [] [])->(Tg n r d=false->k .ret [B false] []) ->
  lp (jk (CX Y) (I n)) [] [] [I d] [] k
 | 0,d,hd,hr,h0,h1=>by
  have:d=12:=aa;subst this;have g:¬((12:Nat):Int)*((12:Nat):Int)<=(n:Int):=aa;have g2:¬(144:Int)<=(n:Int):=aa;refine aj ?_;simp[jk,g,g2];exact h0 rfl
 | r+1,d,hd,hr,h0,h1=>by
  have ih:=Po n hn k r (d+1) aa aa;have hd12:d<=12:=aa;obtain⟨s,hs⟩:=mnQ (d*d);have hsb:s<=144:=by rw[<-hs];exact Zn hd12 hd12
  have e1:(d:Int)*(d:Int)=(s:Int):=by rw[<-hs];simp
  rw[Tg,hs]at h0 h1;refine aj ?_;by_cases g:s<=n
  .have g':(s:Int)<=(n:Int):=aa;rw[if_pos g]at h0 h1;have hd0:¬((d:Int)=0):=aa;have hd0':¬(d=0):=aa;obtain⟨m,hm⟩:=mnQ (n%d);have e2:(n:Int)%(d:Int)=(m:Int):=by rw[<-hm];simp
   rw[hm]at h0 h1;by_cases h:m=0
   .have h':(m:Int)=0:=aa;rw[if_pos h]at h1;simp(disch:=try exact ag)[jk,e1,g',hd0,hd0',Zx,e2,h',h];exact h1 rfl
   .have h':¬(m:Int)=0:=aa;rw[if_neg h]at h0 h1;have:=ih h0 h1;simp(disch:=try exact ag)[jk,e1,g',hd0,hd0',Zx,e2,h',h];simpa using this
  .have g':¬(s:Int)<=(n:Int):=aa;rw[if_neg g]at h0;simp(disch:=try exact ag)[jk,e1,g'];exact h0 rfl
theorem L4(n:Int):CP Y F.jc [I n] (B (ta n)):=by
 refine CQ ?_;by_cases h1:n<2
 .simp[jc,h1]<;>exact nN (by simp[ta];omega)
 by_cases h2:97<n
 .simp[jc,h1,h2]<;>exact nN (by simp[ta];omega)
 obtain⟨m,rfl⟩:∃m:Nat,n=m:=⟨n.toNat,aa⟩;have ha:=ady ⟨m,aa⟩ bK;simp only at ha;simp[jc,h1,h2];refine lo (Po m aa _ 10 2 aa rfl (fun e=>?_) (fun e=>?_))
 .simp only[iP];exact nN (by rw[<-ha,e])
 .simp only[AL,DL];exact nN (by rw[<-ha,e])
def By(prev:Option Int)(x:Int):Bool:=match prev with|some y=>decide (y<x)|none=>true
def yq:Option Int->LiQ->Int
 |_,[]=>0
 |prev,x::q=>cond (ta x) (cond (By prev x) (yq (some x) q) 6) 25
theorem Hz:∀(q:LiQ)(prev:Option Int),decide (yq prev q=0)=Cz prev q
 |[],_=>by simp[yq,Cz]
 | x::q,prev=>by
  have e:Cz prev (x::q)=(ta x&&By prev x&&Cz (some x) q):=by cases prev<;>rfl
  rw[e];cases h1:ta x with
  |false=>simp only[yq,h1,cond_false,V9];rfl
  | true=>
   cases h2:By prev x with
   |false=>simp only[yq,h1,h2,cond_true,cond_false,Zg,V9];rfl
   | true=>
    simp only[yq,h1,h2,cond_true,Zg];exact Hz q (some x)
theorem PT(k:KL):∀(q a:LiQ),(a++q).length<1000000000->(yq a.getLast? q=0->k (.exit 1) [] [])->(yq a.getLast? q≠0->k .ret [I (yq a.getLast? q)] []) ->
  lp (pA (CX Y) (lst di (a++q)) (lst di (a++q)) (I (a++q).length)) [] [] [I a.length] [] k
 | []=>by
  intro a hN h0 h1;refine aj ?_;simp[pA];exact h0 rfl
 | x::q=>by
  intro a hN h0 h1;simp at hN;have ih:=PT k q (a++[x]) bK;rw[List.getLast?_concat]at ih;refine aj ?_;simp(disch:=try exact ag)[pA];refine cd (L4 x) ?_;by_cases hp:ta x=true
  .rcases List.eq_nil_or_concat a with rfl|⟨b,y,rfl⟩
   .simp only[yq,hp,List.getLast?_nil,By,cond_true]at h0 h1;simp[hp];have:=ih h0 h1;simpa using this
   .rw[List.concat_eq_append]at *;have hny:nth 0 (b++[y]++x::q) b.length=y:=by rw[List.append_assoc];simp
    rw[List.getLast?_concat]at h0 h1;simp only[yq,hp,By,cond_true]at h0 h1;have eI:∀h:Hp,ixV h 1 (lst di (b++[y]++x::q)) (.d (.int .i64 (b.length:Int)))=some (.dptr ((b++[y]++x::q).map di) b.length):=fun h=>aJ di _ h rfl af
    have eL:∀h:Hp,ld1 h (.dptr ((b++[y]++x::q).map di) b.length)=some (.d (di y)):=fun h=>by
     have:=ad6 (b++[y]++x::q) h (j:=b.length) af;rw[hny]at this;exact this
    have hA:b++[y]++[x]++q=b++[y]++x::q:=af;have hn:(b++[y]).length=b.length+1:=af;have hn2:(b++[y]++[x]).length=b.length+1+1:=af;rw[hA,hn2]at ih;rw[hn]at hN ⊢;generalize b++[y]++x::q=A at *;generalize b.length=m at *;have e':((m+1:Nat):Int)-1=(m:Int):=aa;have hl0:(0:Int)<((m+1:Nat):Int):=aa;obtain⟨m1,hm1⟩:=nmQ (m+1);rw[<-hm1]at e' hl0 ih ⊢
    by_cases hyx:y<x
    .have g1:¬x<=y:=aa;rw[show decide (y<x)=true by simpa using hyx]at h0 h1;simp only[cond_true]at h0 h1;have:=ih h0 h1;simp(disch:=try exact ag)[hp,e',hl0,eI,eL,g1];simpa using this
    .have g1:x<=y:=aa;rw[show decide (y<x)=false by simpa using hyx]at h1;simp only[cond_false]at h1;simp(disch:=try exact ag)[hp,e',hl0,eI,eL,g1];simpa using h1
  .have hpf:ta x=false:=by simpa using hp
   simp only[yq,hpf,cond_false]at h1;simp[hpf];simpa using h1
def pcB(p:LiQ):Int:=if p.length=0 then 13 else if 6<p.length then 4 else yq none p
theorem Uy(p:LiQ):decide (pcB p=0)=Dn p:=by
 unfold pcB Dn;by_cases h1:p.length=0
 .simp[h1]
 .by_cases h2:6<p.length
  .have:¬p.length<=6:=aa;simp[h1,h2,this]
  .rw[if_neg h1,if_neg h2,Hz];have h3:0<p.length:=aa;have h4:p.length<=6:=aa;simp[h3,h4]
theorem oc(hN:p.length<1000000000):CP Y F.gB [lst di p] (I (pcB p)):=by
 refine Gl ?_;have lp':bj (lst di p)=some (I p.length):=rfl;by_cases h1:(p.length:Int)=0
 .have e:pcB p=13:=by unfold pcB;exact if_pos aa
  have hnil:p=[]:=Xq.1 aa;rw[e];subst hnil;simp[gB]<;>exact cx rfl
 have h1':¬p.length=0:=aa;have hne:¬p=[]:=fun e=>h1' (by rw[e];rfl)
 by_cases h2:(6:Int)<p.length
 .have e:pcB p=4:=by unfold pcB;exact(if_neg h1').trans (if_pos aa)
  rw[e];simp[gB,lp',h1,h2,hne]<;>exact cx rfl
 have e:pcB p=yq none p:=by unfold pcB;exact(if_neg h1').trans (if_neg aa)
 unfold gB;rw[e]
 have main:=PT (exK [((.exit 1),fun l6 h=>out (I (yq none p)) (.d (.int .i64 0)) h),(.ret,fun l6 h=>out (I (yq none p)) (ge l6 0) h)]) p [] (by simpa using hN) (fun g=>by
  simp only[List.getLast?_nil]at g;simp only[iP];exact cx g.symm) (fun g=>by
  simp only[List.getLast?_nil]at g ⊢;simp only[AL,DL];exact cx rfl)
 simp[lp',h1,h2,hne];exact main
theorem xZ(ha:ndg a<1000000)(hb:ndg b<1000000):CP Y F.ig [S (ai a),S (ai b)] (S (ai (a*b))):=by
 refine GJ ?_;have la:=kZ a;have lb:=kZ b;have bo:=DU a b;by_cases h18:(ndg a:Int)+(ndg b:Int)<=18
 .rw[if_pos ⟨aa,aa⟩]at bo
  have hm:a*b<1000000000000000000:=by
   have h1:=cY a;have h2:=cY b;have h3:a*b<10^ndg a*10^ndg b:=Yn h1 h2;rw[<-Y6]at h3;have h4:10^(ndg a+ndg b)<=10^18:=Z4 ae aa;exact Z1 h3 h4
  obtain⟨m,hmm⟩:=mnQ (a*b);have e1:(a:Int)*(b:Int)=(m:Int):=by rw[<-hmm];simp
  rw[hmm]at hm ⊢;simp(disch:=try exact ag)[ig,la,lb,h18];refine cd bo ?_;simp(disch:=try exact ag)[e1];refine cd (yU (n:=m) aa) ?_;exact fD rfl
 .obtain⟨ca,hca⟩:=nmQ (ndg a/9+1);obtain⟨cb,hcb⟩:=nmQ (ndg b/9+1);have ltA:a<Z^ca:=Z1 (cY a) (by rw[A7];exact Z4 ae aa);have ltB:b<Z^cb:=Z1 (cY b) (by rw[A7];exact Z4 ae aa)
  have cA:=tv (h:=[nnQ,nnQ,nnQ]) rfl (n:=a) aa hca;have lA:(bg ca a).length=ca:=cT ..;have lB:(bg cb b).length=cb:=cT ..;have cB:=tv (h:=[(1,.data 1 ((bg ca a).map u6) true false),nnQ,nnQ]) rfl (n:=b) aa hcb;simp(disch:=try exact ag)[ig,la,lb,h18];refine jC (fe (e:=0) (b:=.none) cA rfl ?_)
  rw[List.length_map,lA];simp;refine jC (fe (e:=0) (b:=.none) cB rfl ?_);rw[List.length_map,lB];simp;have rA:=DX (h:=[(1,.data 1 ((bg ca a).map u6) true false),(1,.data 1 ((bg cb b).map u6) true false),nnQ]) (s:=0) (e:=1) (len:=(dig Z a).length) (cap:=ca) (ex:=true) (fr:=false) rfl lA.symm (iL ltA)
  have rB:=DX (h:=[(1,.data 1 ((bg ca a).map u6) true false),(1,.data 1 ((bg cb b).map u6) true false),nnQ]) (s:=1) (e:=1) (len:=(dig Z b).length) (cap:=cb) (ex:=true) (fr:=false) rfl lB.symm (iL ltB);rw[nK ltA]at rA;rw[nK ltB]at rB;have dA:=iL ltA;have dB:=iL ltB;obtain⟨N,hN⟩:=nmQ ((dig Z a).length+(dig Z b).length)
  have tp:=Bg (h:=[(1,.data 1 ((bg ca a).map u6) true false),(1,.data 1 ((bg cb b).map u6) true false),nnQ]) rfl rA (cJ ax a) rB (cJ ax b) aa aa hN
  have ltM:a*b<Z^N:=by
   rw[hN,Y6];have h1:=jE bB (cJ ax a);have h2:=jE bB (cJ ax b);rw[iS ax]at h1 h2;exact Yn h1 h2
  rw[iS ax,iS ax]at tp;have lM:(bg N (a*b)).length=N:=cT ..;refine jC (fe (e:=0) (b:=.none) tp rfl ?_);rw[List.length_map,lM];simp
  have sM:=wL (h:=[(1,.data 1 ((bg ca a).map u6) true false),(1,.data 1 ((bg cb b).map u6) true false),(1,.data 1 ((bg N (a*b)).map u6) true false)]) (s:=2) rfl lM.symm (len:=(dig Z (a*b)).length) (cap:=N) (iL ltM) (Z7 _);rw[nK ltM]at sM;simp only[List.set_cons_zero,List.set_cons_succ]at sM
  have sMs:aS [(1,.data 1 ((bg ca a).map u6) true false),(1,.data 1 ((bg cb b).map u6) true false),(1,.data 1 ((bg N (a*b)).map u6) true false)] [.ref 2 1 0 (dig Z (a*b)).length N N]=some ([pcs (a*b)],[(1,.data 1 ((bg ca a).map u6) true false),(1,.data 1 ((bg cb b).map u6) true false),(1,.data 1 ((bg N (a*b)).map u6) true true)]):=by
   simp only[aS,sM];rfl
  refine cdz sMs (uU (n:=a*b) (by have:=iL ltM;omega)) ?_;rw[show fN (S (ai (a*b)))=true from rfl,if_pos rfl];exact fD rfl
theorem fq{B:Nat}{a b:LnQ}(ha:aH B a)(hb:aH B b):aH B (a++b):=by
 intro x hx;rcases W4.1 hx with h|h
 .exact ha x h
 .exact hb x h
theorem qg(k:Nat):aH Z (List.replicate k 0):=by intro x hx;rw[List.eq_of_mem_replicate hx];exact bB
theorem oW(k:Nat)(l:LnQ):val Z (l++List.replicate k 0)=val Z l:=by
 rw[val_append]
 have:val Z (List.replicate k 0)=0:=by
  induction k with
  |zero=>rfl
  |succ k ih=>rw[List.replicate_succ];exact(congrArg (fun x=>0+Z*x) ih).trans (by rw[Nat.mul_zero])
 rw[this,Nat.mul_zero,Nat.add_zero]
theorem aeC{q ce x B:Nat}(hB:2<=B)(h3:x+q*B*ce=a+b)(l1:a<q)(l2:b<q):x=a+b:=by
 rcases Zd ce with h|h
 .subst h;rw[Nat.mul_zero,Nat.add_zero]at h3;exact h3
 .have h1:=Zw (q*B) h;have h2:=Zw q hB;omega
theorem YL{D:LnQ}(hA:A.length=n)(hD:D.length=n)(sA:aH Z A)(sD:aH Z D)(va:val Z A=a)(vb:val Z D=b):
  val Z (rF 0 D (D.length+1) 0 0 (A++[0]))=a+b∧aH Z (rF 0 D (D.length+1) 0 0 (A++[0]))∧(rF 0 D (D.length+1) 0 0 (A++[0])).length=n+1:=by
 have sA0:aH Z (A++[0]):=fq sA (qg 1);obtain⟨h1,h2,ce,h3⟩:=FT (at_:=0) sD (D.length+1) 0 0 (A++[0]) bK aa sA0;have e1:D.drop (0+(D.length+1))=[]:=Zb aa;have e2:val Z (A++[0])=a:=by rw[show([0]:LnQ)=List.replicate 1 0 from rfl,oW,va]
 have e0:val Z ([]:LnQ)=0:=rfl;rw[e1,e2,e0]at h3;have l1:=jE bB sA;have l2:=jE bB sD;rw[va,hA]at l1;rw[vb,hD]at l2;have hl:(rF 0 D (D.length+1) 0 0 (A++[0])).length=n+1:=by rw[h1.1];simp[hA]
 refine⟨?_,h2,hl⟩;rw[hD]at h3 ⊢;have h2Z:=ax;generalize val Z (rF 0 D (n+1) 0 0 (A++[0]))=x at *;simp only[Zj,vb,Nat.add_zero,Zp,Nat.pow_zero,Xr,Nat.pow_succ]at h3;exact aeC h2Z h3 l1 l2
theorem aak(k:Nat):jv k [D.int .u64 0]=(List.replicate k 0).map u6:=by
 induction k with
 |zero=>rfl
 |succ k ih=>rw[List.replicate_succ,Z2,<-ih];rfl
theorem Oi(a w:Nat)(hw:w<=18):CP Y F.bC [S (ai a),I w] (if ndg a<=w then .tup [I a,B true]else .tup [I 0,B false]):=by
 refine sI ?_;have la:=kZ a;by_cases h:(w:Int)<ndg a
 .rw[if_neg aa];simp[bC,la,h];exact aG rfl rfl
 .rw[if_pos aa];have ap:=JY (n:=a) (md a) aa (cY a);have en:biF .eql (.d (.pl .nilIface)) (.d (.pl .nilIface))=some (.d (.bool true)):=rfl;simp[bC,la,h];refine cd (args:=[S (ai a)]) ap ?_;simp[en];exact aG rfl rfl
theorem r8(a:Nat):CP Y F.aR [S (ai a)] (.tup [B false,S (ai a)]):=by have h:=wK (ai a);have e1:rdN (ai a)=false:=decide_eq_false (tg a);have e2:rdT (ai a)=ai a:=if_neg (tg a);rw[e1,e2]at h;exact h
theorem VK(s:LuQ):CP Y F.cF [B false,S s] (S s):=by refine zA ?_;simp[cF]<;>exact fD rfl
theorem YO{w:Nat}(h1:1<=w)(h2:w<=17)(hn:n<10^w):CP Y F.ic [S (45::dS n w)] (.tup [I (-(n:Int)),.d (.pl .nilIface)]):=by
 refine uF ?_;have hl:=FH w n;have hlt:=DO w n;have hh:=Fe w n hn;have he:=WS n w;have hD:=JJ w n;have hn17:n<10^17:=Z1 hn (Z4 ae h2);simp only[Nat.reducePow]at hn17;generalize dS n w=L at *;generalize B6 n w=l at *;have hlen:L.length=w:=by rw[hD];simpa using hl
 have hi:ixS (S (45::L)) (.d (.int .i64 0))=some (.d (.int .u8 45)):=by simp[ixS]
 have hlw:nS (S (45::L))=some (I (w+1:Nat)):=by rw[Jq];simp[hlen]
 have hsl:slS (S (45::L)) (some (.d (.int .i64 1))) none=some (S L):=by
  have:(1:Int)<=(L.length:Int)+1:=aa;simp[slS,boV,this]
 have hl2:nS (S L)=some (I w):=by rw[Jq,hlen]
 simp(disch:=try exact ag)[ic,hlw,hi]
 have hcv:∀(k:kkQ),cvB (S L) [] k=k (lst f8 l) []:=by
  intro k
  have:V.d (.sl L.length (L.map fun b=>.int .u8 b.toNat))=lst f8 l:=by
   unfold lst;rw[hlen,hl,<-he];rfl
  simp only[cvB,this]
 refine jD (l:=[S L]) (h:=[]) (fun q=>?_) ?_
 .simp(disch:=try exact ag)[hsl,hl2]
 show cvB (S L) [] _
 rw[hcv];simp;refine lo (JZ _ _ rfl l [] 0 bK hlt af ?_);simp[hi,hh];refine jD (l:=[I (-(n:Int))]) (h:=[]) (fun q=>?_) ?_
 .simp(disch:=try exact ag)[hh]
 exact⟨[],by simp[bJ,aS,norm]⟩
theorem YN{w:Nat}(h1:1<=w)(h2:w<=17)(hn:n<10^w):CP Y F.strconv_Atoi [S (45::dS n w)] (.tup [I (-(n:Int)),.d (.pl .nilIface)]):=by refine wH ?_;simp[strconv_Atoi];refine cd (YO h1 h2 hn) ?_;simp[Jc];exact⟨[],by simp[bJ,aS,norm]⟩
def sdg(z:Int):Nat:=ndg z.natAbs+if z<0 then 1 else 0
theorem LY(z:Int):nS (S (itoa z))=some (I (sdg z)):=by
 rw[Jq];unfold itoa sdg;split
 .simp[ai,bh]
 .simp[ai,bh]
theorem M1(h:sdg z<=18):CP Y F.strconv_Atoi [S (itoa z)] (.tup [I z,.d (.pl .nilIface)]):=by
 unfold sdg at h;by_cases hz:z<0
 .rw[if_pos hz]at h;have:=YN (n:=z.natAbs) (w:=ndg z.natAbs) (md _) aa (cY _);rw[show(-(z.natAbs:Int))=z by omega]at this;unfold itoa;rw[if_pos hz];exact this
 .rw[if_neg hz]at h;have:=JY (n:=z.natAbs) (w:=ndg z.natAbs) (md _) aa (cY _);rw[show((z.natAbs:Nat):Int)=z by omega]at this;unfold itoa;rw[if_neg hz];exact this
theorem te(z:Int)(w:Nat)(hw:w<=18):CP Y F.bC [S (itoa z),I w] (if sdg z<=w then .tup [I z,B true]else .tup [I 0,B false]):=by
 refine sI ?_;have la:=LY z;by_cases h:(w:Int)<sdg z
 .rw[if_neg aa];simp[bC,la,h];exact aG rfl rfl
 .rw[if_pos aa];have ap:=M1 (z:=z) aa;have en:biF .eql (.d (.pl .nilIface)) (.d (.pl .nilIface))=some (.d (.bool true)):=rfl;simp[bC,la,h];refine cd (args:=[S (itoa z)]) ap ?_;simp[en];exact aG rfl rfl
theorem E0(z:Int):CP Y F.gF [S (itoa z)] (if sdg z<=9 then .tup [I z,B true]else .tup [I 0,B false]):=by
 refine Az ?_;have la:=LY z;by_cases h:(9:Int)<sdg z
 .rw[if_neg aa];simp[gF,la,h];exact aG rfl rfl
 .rw[if_pos aa];have ap:=M1 (z:=z) aa;have en:biF .eql (.d (.pl .nilIface)) (.d (.pl .nilIface))=some (.d (.bool true)):=rfl;simp[gF,la,h];refine cd (args:=[S (itoa z)]) ap ?_;simp[en];exact aG rfl rfl
theorem Av(z:Int):rdN (itoa z)=decide (z<0):=by
 unfold itoa;split
 .rename_i h;simp[rdN,h]
 .rename_i h;have:=tg z.natAbs;unfold rdN;rw[decide_eq_false this,decide_eq_false h]
theorem rZ(z:Int):CP Y F.aR [S (itoa z)] (.tup [B (decide (z<0)),S (ai z.natAbs)]):=by have h:=wK (itoa z);rw[Av,uE]at h;exact h
theorem sE(h:ai a=ai b):a=b:=by
 have:=congrArg (fE 0) h
 rwa [dZ,dZ]at this
theorem VM{a b:Int}(h:itoa a=itoa b):a=b:=by
 have h1:=congrArg rdT h;have h2:=congrArg rdN h;rw[uE,uE]at h1;rw[Av,Av]at h2;have h3:=sE h1;have h4:(a<0)↔(b<0):=by simpa using h2
 omega
theorem mG:ai n=[48]↔n=0:=by
 constructor
 .intro h;exact sE (a:=n) (b:=0) (h.trans fj.symm)
 .rintro rfl;exact fj
def sg(b:Bool)(n:Nat):Int:=if b then -(n:Int)else n
theorem m7(b:Bool)(hn9:ndg n<1000000):CP Y F.cF [B b,S (ai n)] (S (itoa (sg b n))):=by
 refine zA ?_;cases b with
 | false=>
  have:itoa (sg false n)=ai n:=by simp[sg,itoa]
  rw[this];simp[cF]<;>exact fD rfl
 | true=>
  by_cases hn:n=0
  .subst hn;have e0:itoa (sg true 0)=[48]:=fj;simp[cF,fj]<;>exact fD e0.symm
  .have h0:¬ai n=[48]:=fun h=>hn (mG.1 h)
   have:itoa (sg true n)=45::ai n:=by
    unfold itoa sg;rw[if_pos rfl,if_pos aa];simp
   rw[this];have hl:(ai n).length=ndg n:=bh _ _;have ha:biS .add (.d (.str [45])) (S (ai n))=some (S (45::ai n)):=abJ [45] (ai n) (by rw[hl];simp;omega);simp[cF,h0,ha]<;>exact fD rfl
theorem P3(hz:ndg z.natAbs<1000000):CP Y F.qa [S (itoa z)] (S (itoa (-z))):=by
 refine Kf ?_;simp[qa];refine cd (rZ z) ?_;simp;have:=m7 (!decide (z<0)) hz
 have e:sg (!decide (z<0)) z.natAbs = -z:=by
  unfold sg;by_cases h:z<0
  .simp[h];omega
  .simp[h];omega
 rw[e]at this;refine cd this ?_;exact fD rfl
def bZ(n:Nat):Nat:=(dig Z n).length
theorem DR:bZ n=ndg n/9+1∨bZ n+1=ndg n/9+1:=by
 unfold bZ;have h1:(dig Z n).length<=ndg n/9+1:=(pN ax).2 (Z1 (cY n) (by rw[A7];exact Z4 ae aa))
 have h2:ndg n<=9*(dig Z n).length∨n=0:=by
  rcases Zd n with h|h
  .omega
  .left;have h3:n<Z^(dig Z n).length:=(pN ax).1 (Z7 _);rw[A7]at h3;refine cN h3 ?_;rcases Zd (dig Z n).length with h4|h4
   .grind
   .omega
 rcases h2 with h2|rfl
 .omega
 .have:ndg 0=1:=bb;omega
theorem Jm(n:Nat):n<Z^bZ n:=(pN ax).1 (Z7 _)
theorem AC(n:Nat):bg (bZ n) n=dig Z n:=by
 have:=nK (Jm n)
 rwa [Z6 (by rw[cT];exact Z7 _)]at this
theorem AB{c:Nat}(h:bZ n+1=c):bg c n=dig Z n++[0]:=by rw[<-h,BQ (Jm n),AC]
theorem QQ{s t n c:Nat}{h:Hp}{q:kkQ}{u:PU q}(hst:s≠t)(hg:h[s]?=some (1,.data 1 ((bg c n).map u6) true false))(ht:h[t]?=some nnQ)(hL:bZ n=c∨bZ n+1=c)(hc:c<1000000)
  (hq:∀s' e' ex h',h'.length=h.length->h'[s']?=some (e',.data 1 ((dig Z n++[0]).map u6) ex false)->(s'=s∨s'=t)->(∀j,j≠s'->h'[j]?=h[j]?)->q (.ref s' e' 0 (bZ n+1) (bZ n+1) (bZ n+1)) h') :
  rh (apV false t 1 8 (.ref s 1 0 (bZ n) c c) (.d (.sl 1 [u6 0])) h) q u:=by
 have hl:=bH hg;have hl2:=bH ht;rcases hL with hL|hL
 .subst hL;rw[AC]at hg;refine QP hg ht rfl aa ?_;exact hq t 1 false _ af (by grind) (.inr rfl) (fun j hj=>by rw[List.getElem?_set_ne (Ne.symm hj)])
 .rw[AB hL]at hg;have hlen:(dig Z n).length=bZ n:=rfl;refine OU (x:=0) hg (by grind) aa ?_;rw[<-hL];refine hq s 1 true _ af ?_ (.inl rfl) (fun j hj=>by rw[List.getElem?_set_ne (Ne.symm hj)])
  have e1:(dig Z n++[0]).take (bZ n)++[0]++(dig Z n++[0]).drop (bZ n+1)=dig Z n++[0]:=by
   rw[<-hlen,V6,Zb af,Y8]
  grind
theorem QO{s t n c k:Nat}{h:Hp}{q:kkQ}{u:PU q}(hst:s≠t)(hg:h[s]?=some (1,.data 1 ((bg c n).map u6) true false))(ht:h[t]?=some nnQ)(hL:bZ n=c∨bZ n+1=c)(hc:c+k<1000000)
  (hq:∀t1 s' h',h'.length=h.length->(s'=s∨s'=t)->(∀j,j≠s'->h'[j]?=h[j]?)->(∃(e':Nat)(l:LnQ)(ex:Bool),h'[s']?=some (e',.data 1 (l.map u6) ex false)) ->
   (∀P:Hp->Prop,(∀g,P g->g[s']?=h'[s']?)->RdS P t1 (dig Z n++List.replicate k 0))->q t1 h') :
  rh (apZ false t 1 8 [.int .u64 0] (.ref s 1 0 (bZ n) c c) (I (k:Nat)) h) q u:=by
 have hl:=bH hg;have hl2:=bH ht;have hlen:(dig Z n).length=bZ n:=rfl;unfold rh apZ;simp only;rw[if_pos ⟨aa,aa⟩];unfold apC;simp only[Int.toNat_natCast]
 have rdOf:∀{s' e' len cap tot:Nat}{l:LnQ}{ex:Bool}{h':Hp},h'[s']?=some (e',.data 1 (l.map u6) ex false)->tot=l.length->len<=tot->l.take len=dig Z n++List.replicate k 0 ->
   ∀P:Hp->Prop,(∀g,P g->g[s']?=h'[s']?)->RdS P (.ref s' e' 0 len cap tot) (dig Z n++List.replicate k 0):=by
  intro s' e' len cap tot l ex h' hg' htot hle htk P hP;refine⟨?_,fun g i hg2 hi=>?_⟩
  .have:(dig Z n++List.replicate k 0).length=len:=by rw[<-htk,Zr];omega
   simp_all
  .have:=(DX (h:=g) (cap:=cap) ((hP g hg2).trans hg') htot hle).2 [] i (by grind)
   grind
 by_cases hk:k=0
 .rw[if_pos hk,if_pos aa];subst hk;refine hq _ s h rfl (.inl rfl) (fun _ _=>rfl) ⟨_,_,_,hg⟩ ?_;refine rdOf hg (cT ..).symm aa ?_;rw[Xi,Y8];rcases hL with hL|hL
  .rw[<-hL,AC,<-hlen,Wq]
  .rw[AB hL,<-hlen,V6]
 .rw[if_neg hk,aak];simp only[eG hg];rw[if_pos ⟨trivial,by simp[cT],aa,by simp[cT],af⟩];by_cases hin:bZ n+k<=c
  .rw[if_pos hin];have hk1:k=1:=aa;subst hk1;have hL2:bZ n+1=c:=aa;simp only[V7,Ze,if_false,bS]
   have e1:((bg c n).map u6).take (0+bZ n*1)++(List.replicate 1 0).map u6++((bg c n).map u6).drop (0+(bZ n+1)*1)=(dig Z n++[0]).map u6:=by
    rw[AB hL2,Zp,Zp,Yc,Yc,<-hlen];simp[<-List.map_take,<-List.map_drop]
   rw[e1];refine hq _ s _ af (.inl rfl) (fun j hj=>by rw[List.getElem?_set_ne (Ne.symm hj)]) ⟨1,dig Z n++[0],true,by grind⟩ ?_;refine rdOf (l:=dig Z n++[0]) (ex:=true) (by grind) (by grind) aa ?_
   grind
  .rw[if_neg hin,if_pos aa];simp only[if_true,new,ht]
   have e1:(((bg c n).map u6).drop 0).take (bZ n*1)++(List.replicate k 0).map u6=(dig Z n++List.replicate k 0).map u6:=by
    rw[Zj,Yc,<-List.map_take,Xx];congr 2;rcases hL with hL|hL
    .rw[<-hL,AC,<-hlen,Wq]
    .rw[AB hL,<-hlen,V6]
   rw[e1];have e2:bZ n*1+((List.replicate k 0).map u6).length=bZ n+k:=af;rw[e2];refine hq _ t _ af (.inr rfl) (fun j hj=>by rw[List.getElem?_set_ne (Ne.symm hj)]) ⟨1,dig Z n++List.replicate k 0,false,by grind⟩ ?_;refine rdOf (l:=dig Z n++List.replicate k 0) (ex:=false) (by grind) (by grind) aa ?_
   grind[Z6]
def NV(h:Hp):Prop:=∀(j:Nat)(x:Nat×Bk),h[j]?=some x->∀b,bW b x.2=true
theorem NV.all{h:Hp}(hn:NV h)(b:Nat):(h.all fun x=>bW b x.2)=true:=by rw[Zv];intro x hx;obtain⟨j,hj⟩:=W7.1 hx;exact hn j x hj b
theorem NV.upd{h':Hp}(hn:NV h)(hs:h'[s]?=some (e,.data 1 (l.map u6) ex fr))(ho:∀j,j≠s->h'[j]?=h[j]?):NV h':=by
 intro j x hj b;by_cases e1:j=s
 .subst e1;rw[hs]at hj;cases hj;rfl
 .rw[ho j e1]at hj;exact hn j x hj b
theorem TA{α:Type}{l:List α}{x:α}(h:l[i]?=some x):l.set i x=l:=by
 apply X8;intro j;by_cases e:i=j
 .grind
 .rw[List.getElem?_set_ne e]
theorem Pq(hs:h[s]?=some (e,.data 1 (l.map u6) ex false)):sP h s e ex l=h:=TA hs
theorem G8{h:Hp}{s e n m:Nat}{ex:Bool}{L:LnQ}{w:V}(hn:NV h)(hlt:s<h.length)(h3:L.length=n)(b1:val Z L=m)(b2:aH Z L)(hm:n<1000000)(kk:V->V)(hkk:∀h':Hp,out w (kk (S (ai m))) h'){sl:Nat} :
  cai (CX Y).i (sP h s e ex L) (V.fn F.ay [] []) [.ref s e 0 n n n] sl fun v22 h=>
    cal (CX Y).p h (V.fn F.aP [] []) [v22] fun v23 h=>out w (kk v23) h:=by
 have nv:NV (sP h s e ex L):=hn.upd (sY hlt) (fun j hj=>by grind[sP]);have tr:=uu (h:=sP h s e ex L) (nv.all _) (s:=s) (e:=e) (ex:=ex) (fr:=false) (sY hlt) h3.symm (len:=n) (cap:=n) (Z7 _) aa (Z7 _);have ht:iN (L.take n)=dig Z m:=by rw[Z6 aa,<-b1,rR ax b2]
 rw[ht]at tr;refine pT tr ?_ af;have lt:m<Z^n:=by rw[<-b1,<-h3];exact jE bB b2
 have hl:(dig Z m).length<=n:=(pN ax).2 lt;have sM:=wL (h:=sP h s e ex L) (s:=s) (e:=e) (ex:=ex) (fr:=false) (sY hlt) h3.symm (len:=(dig Z m).length) (cap:=n) hl (Z7 _)
 have ht2:L.take (dig Z m).length=dig Z m:=by
  have e:iN L=dig Z m:=by rw[<-ht,Z6 aa]
  obtain⟨z,hz⟩:=G6 L;rw[e]at hz;rw[hz];exact V6 ..
 rw[ht2]at sM;refine cdz (u:=.mk) (by simp only[aS,sM];rfl) (uU (n:=m) aa) ?_
 grind
theorem FJ(ha:ndg a<1000000)(hb:ndg b<1000000):CP Y F.ii [S (ai a),S (ai b)] (S (ai (a+b))):=by
 refine GN ?_;have bo:=DU a b;by_cases h18:ndg a<=18∧ndg b<=18
 .rw[if_pos h18]at bo;have g3:10^ndg a<=10^18:=Z4 ae h18.1;have g4:10^ndg b<=10^18:=Z4 ae h18.2;have b1:a<1000000000000000000:=Z1 (cY a) g3;have b2:b<1000000000000000000:=Z1 (cY b) g4;simp[ii];refine cd bo ?_;obtain⟨m,hm⟩:=mnQ (a+b);have em:(a:Int)+(b:Int)=(m:Int):=aa
  rw[hm];simp(disch:=try exact ag)[em];refine cd (yU (n:=m) aa) ?_;exact fD rfl
 rw[if_neg h18]at bo;obtain⟨ca,hca⟩:=nmQ (ndg a/9+1);obtain⟨cb,hcb⟩:=nmQ (ndg b/9+1);have cA:=tv (h:=[nnQ,nnQ,nnQ,nnQ,nnQ,nnQ]) rfl (n:=a) aa hca;have cB:=tv (h:=[(1,.data 1 ((bg ca a).map u6) true false),nnQ,nnQ,nnQ,nnQ,nnQ]) rfl (n:=b) aa hcb
 have LA:bZ a=ca∨bZ a+1=ca:=by rw[hca];exact DR
 have LB:bZ b=cb∨bZ b+1=cb:=by rw[hcb];exact DR
 have hli:∀h:Hp,cO 1 [D.int .u64 0] [(0,V.d (D.int .u64 0))] h=some ([u6 0],h):=fun h=>by rfl
 have main:∀(p q cp cq sp sq:Nat)(h:Hp),p+q=a+b->bZ q<=bZ p->cp<200000->cq<200000->(bZ p=cp∨bZ p+1=cp)->(bZ q=cq∨bZ q+1=cq)->sp<2->sq<2->sp≠sq->h.length=6->NV h ->
   h[sp]?=some (1,.data 1 ((bg cp p).map u6) true false)->h[sq]?=some (1,.data 1 ((bg cq q).map u6) true false)->h[2]?=some nnQ->h[3]?=some nnQ ->
   apV false 2 1 8 (.ref sp 1 0 (bZ p) cp cp) (.d (.sl 1 [u6 0])) h fun v15 h=>
   bnd (bj v15) fun v16=>
   bnd (biI .sub v16 (.d (.int .i64 1))) fun v17=>
   bnd (bj (.ref sq 1 0 (bZ q) cq cq)) fun v18=>
   bnd (biI .sub v17 v18) fun v19=>
   apZ false 3 1 8 [.int .u64 0] (.ref sq 1 0 (bZ q) cq cq) v19 h fun v20 h=>
   cai (CX Y).i h (.fn F.cL [] []) [v15,v20,(.d (.int .i64 0))] 4 fun v21 h=>
   cai (CX Y).i h (.fn F.ay [] []) [v15] 5 fun v22 h=>
   cal (CX Y).p h (.fn F.aP [] []) [v22] fun v23 h=>
   out (S (ai (a+b))) v23 h:=by
  intro p q cp cq sp sq h hpq hle hcp hcq LP LQ hsp hsq hne hlen hnv gp gq g2 g3;refine QQ (u:=.mk) (t:=2) aa gp g2 LP aa fun s' e' ex h1 l1 gs' hs' o1=>?_
  obtain⟨k,hk⟩:=nmQ (bZ p-bZ q);have e1:(bZ p:Int)+1-1-(bZ q:Int)=(k:Int):=aa;have hr1:bj (.ref s' e' 0 (bZ p+1) (bZ p+1) (bZ p+1))=some (I (bZ p+1:Nat)):=rfl;have hr2:bj (.ref sq 1 0 (bZ q) cq cq)=some (I (bZ q:Nat)):=rfl
  have hb1:biI .sub (I ((bZ p+1:Nat):Int)) (.d (.int .i64 1))=some (I (bZ p)):=by
   rw[rT,show(((bZ p+1:Nat):Int)-1)=(bZ p:Int) by omega,uo aa aa]
  have hb2:biI .sub (I (bZ p:Int)) (I (bZ q:Int))=some (I k):=by
   rw[rT,show((bZ p:Int)-(bZ q:Int))=(k:Int) by omega,uo aa aa]
  simp only[hr1,hr2,hb1,hb2,bnd];have nv1:=hnv.upd gs' o1;have hqs:sq≠s':=by rcases hs' with rfl|rfl<;>omega
  have h3s:3≠s':=by rcases hs' with rfl|rfl<;>omega
  refine QO (u:=.mk) (t:=3) aa ((o1 sq hqs).trans gq) ((o1 3 h3s).trans g3) LQ aa fun t1 s2 h2 l2 hs2 o2 ⟨e2,l2',ex2,g2'⟩ rd=>?_
  have nv2:=nv1.upd g2' o2;have hss:s'≠s2:=by rcases hs2 with rfl|rfl<;>omega
  have gs2:h2[s']?=some (e',.data 1 ((dig Z p++[0]).map u6) ex false):=(o2 s' hss).trans gs';have lt2:s'<h2.length:=bH gs2;have hdl:(dig Z q++List.replicate k 0).length=bZ p:=by simp only[Zm,Zh];show bZ q+k=_;omega
  have sD:aH Z (dig Z q++List.replicate k 0):=fq (cJ ax q) (qg _);have vD:val Z (dig Z q++List.replicate k 0)=q:=by rw[oW,iS ax]
  have rdS:=rd (fun t=>∃l,t=sP h2 s' e' ex l) (fun g ⟨l,hg⟩=>by grind[sP]);obtain⟨c1,c2,c3⟩:=YL (n:=bZ p) rfl hdl (cJ ax p) sD (iS ax p) vD;have bk:=MZ (at_:=0) (tot:=bZ p+1) (l:=dig Z p++[0]) (ex:=ex) (e:=e') (s:=s') (h:=h2) (nv2.all _) lt2 rdS sD aa aa (by simp[bZ]) (fq (cJ ax p) (qg 1))
  rw[Pq gs2]at bk;refine pT bk ?_ af;rw[hpq]at c1;exact G8 nv2 lt2 c3 c1 c2 aa (fun v=>v) (fun _=>fD rfl)
 simp[ii];refine cd bo ?_;simp;refine jC (fe (e:=0) (b:=.none) cA rfl ?_);rw[List.length_map,cT];simp;refine jC (fe (e:=0) (b:=.none) cB rfl ?_);rw[List.length_map,cT]
 have nv:NV [(1,.data 1 ((bg ca a).map u6) true false),(1,.data 1 ((bg cb b).map u6) true false),nnQ,nnQ,nnQ,nnQ]:=by
  intro j x hj b';rcases W7.2 ⟨j,hj⟩with hm;simp only[Zo,Ys,or_false]at hm;rcases hm with rfl|rfl|rfl|rfl|rfl|rfl<;>rfl
 by_cases g1:((dig Z a).length:Int)<((dig Z b).length:Int)
 .simp[g1];refine aT ?_;simp[hli];exact main b a cb ca 1 0 _ aa (by grind[bZ]) aa aa LB LA aa aa aa rfl nv rfl rfl rfl rfl
 .simp[g1];refine aT ?_;simp[hli];exact main a b ca cb 0 1 _ rfl (by grind[bZ]) aa aa LA LB aa aa aa rfl nv rfl rfl rfl rfl
theorem HO:∀(s t:LuQ)(c:Nat),s.length=t.length->s.all qt=true->t.all qt=true->Op.bytesLess s t=decide (fE c s<fE c t)
 |[],[],c,_,_,_=>by simp[Op.bytesLess]
 | x::s,y::t,c,hl,hs,ht=>by
  simp only[List.length_cons,Nat.add_right_cancel_iff]at hl;simp only[List.all_cons,Z8]at hs ht;have hx:=mA.1 hs.1;have hy:=mA.1 ht.1
  have key:∀(s t:LuQ)(u v:Nat),s.length=t.length->s.all qt=true->u<v->fE u s<fE v t:=by
   intro s t u v hl hs h;have h1:=uG s u hs;have h2:=Ff t v;rw[<-hl]at h2;have h3:(u+1)*10^s.length<=v*10^s.length:=Zz _ h;omega
  rw[ky,ky];have ex:x<y↔x.toNat<y.toNat:=UInt8.lt_iff_toNat_lt;have ey:y<x↔y.toNat<x.toNat:=UInt8.lt_iff_toNat_lt;rcases Nat.lt_trichotomy x.toNat y.toNat with h|h|h
  .have:=key s t (c*10+(x.toNat-48)) (c*10+(y.toNat-48)) hl hs.2 aa
   grind[Op.bytesLess]
  .have e:x=y:=UInt8.toNat_inj.1 h;subst e;rw[<-HO s t _ hl hs.2 ht.2];simp[Op.bytesLess]
  .have:=key t s (c*10+(y.toNat-48)) (c*10+(x.toNat-48)) hl.symm ht.2 aa;rw[decide_eq_false aa]
   grind[Op.bytesLess]
theorem HS(n:Nat):(ai n).all qt=true:=xv _ _
theorem HN(h:ndg a=ndg b):Op.bytesLess (ai a) (ai b)=decide (a<b):=by rw[HO (ai a) (ai b) 0 (by rw[ai,ai,bh,bh,h]) (HS _) (HS _),dZ,dZ]
theorem UQ(h:ndg a<ndg b):a<b:=by
 rcases Zi a b with g|g
 .exact g
 .have:=dM g;omega
theorem B8(h:a<b):Big.cmp a b = -1:=if_pos h
theorem B9(h:b<a):Big.cmp a b=1:=(if_neg aa).trans (if_pos h)
theorem cmp_eq:Big.cmp a a=0:=(if_neg aa).trans (if_neg aa)
theorem uO(ha:ndg a<1000000)(hb:ndg b<1000000):CP Y F.bV [S (ai a),S (ai b)] (I (Big.cmp a b)):=by
 refine AP ?_;have la:=kZ a;have lb:=kZ b;by_cases hl:ndg a=ndg b
 .have h1:=HN hl;have h2:=HN hl.symm;have e1:biS .lss (S (ai a)) (S (ai b))=some (.d (.bool (decide (a<b)))):=by rw[<-h1];rfl
  have e2:biS .gtr (S (ai a)) (S (ai b))=some (.d (.bool (decide (b<a)))):=by
   have h3:(ai a == ai b)=decide (a=b):=by
    rw[Xz];simp only[beq_iff_eq,decide_eq_true_eq];exact⟨sE,fun h=>by rw[h]⟩
   have h4:decide (b<a) = !(decide (a<b)||decide (a=b)):=by
    rw[Xz];simp only[decide_eq_true_eq,Y9,Bool.or_eq_false_iff,decide_eq_false_iff_not];omega
   rw[h4,<-h1,<-h3];rfl
  rw[hl]at la;by_cases g1:a<b
  .simp[bV,la,lb,e1,e2,g1]
   grind[cx,B8]
  .by_cases g2:b<a
   .simp[bV,la,lb,e1,e2,g1,g2]
    grind[cx,B9]
   .simp[bV,la,lb,e1,e2,g1,g2];have:a=b:=aa
    grind[cx,cmp_eq]
 .have hne:¬((ndg a:Int)=(ndg b:Int)):=aa;rcases Zi (ndg a) (ndg b)with h|h
  .have h3:=UQ h;have m1:mxI true [.d (.int .i64 (-1)),I ((ndg a:Int)-ndg b)]=some (I (-1)):=by simp[mxI,mx2];omega
   have m2:mxI false [.d (.int .i64 1),I (-1)]=some (I (-1)):=rfl;simp(disch:=try exact ag)[bV,la,lb,hne,m1,m2]
   grind[cx,B8]
  .have h3:b<a:=UQ aa;have m1:mxI true [.d (.int .i64 (-1)),I ((ndg a:Int)-ndg b)]=some (I ((ndg a:Int)-ndg b)):=by simp[mxI,mx2];omega
   have m2:mxI false [.d (.int .i64 1),I ((ndg a:Int)-ndg b)]=some (I 1):=by simp[mxI,mx2];omega
   simp(disch:=try exact ag)[bV,la,lb,hne,m1,m2]
   grind[cx,B9]
theorem Lt:1<Z:=ax
theorem SU{D:LnQ}(hA:A.length=n)(hD:D.length=n)(sA:aH Z A)(sD:aH Z D)(va:val Z A=a)(vb:val Z D=b)(hba:b<=a):
  val Z (jb 1 0 D (D.length+1) 0 0 0 (A++[0])).2=a-b∧aH Z (jb 1 0 D (D.length+1) 0 0 0 (A++[0])).2∧(jb 1 0 D (D.length+1) 0 0 0 (A++[0])).2.length=n+1:=by
 have sA0:aH Z (A++[0]):=fq sA (qg 1);have l2:=jE bB sD;rw[vb,hD]at l2
 obtain ⟨h1,h2,h3,h4⟩:=Ee (g:=1) (at_:=0) Lt sD (D.length+1) 0 0 0 (A++[0]) bK bB (Yl _) sA0 (by
  rw[Zj,vb,hD,Xr,Zp,Nat.pow_succ];exact Z1 l2 (Y5 _ bB))
 have e2:val Z (A++[0])=a:=by rw[show([0]:LnQ)=List.replicate 1 0 from rfl,oW,va]
 have hl:(jb 1 0 D (D.length+1) 0 0 0 (A++[0])).2.length=n+1:=by rw[h1.1];simp[hA]
 refine⟨?_,h2,hl⟩;have h5:=jE bB h2;rw[hl]at h5;rw[e2,Zj,vb,hD]at h4;rw[hD]at h3 h5 ⊢;generalize val Z (jb 1 0 D (n+1) 0 0 0 (A++[0])).2=x at *;generalize(jb 1 0 D (n+1) 0 0 0 (A++[0])).1=c at *;simp only[Zp,Nat.add_zero,Nat.pow_zero,Xr]at h4;rcases Zd c with h|h
 .subst h;omega
 .have:c=1:=aa;subst this;rw[Yc]at h4;omega
theorem B5(hba:b<=a)(ha:ndg a<1000000):CP Y F.jg [S (ai a),S (ai b)] (.tup [S (ai (a-b)),I 0]):=by
 have hb:ndg b<1000000:=Zk (dM hba) ha;refine GH ?_;have bo:=DU a b;have dc:=uO ha hb
 have hc:¬Big.cmp a b<0:=by
  unfold Big.cmp;rw[if_neg aa];split<;>omega
 have hc2:(-1:Int)<=Big.cmp a b∧Big.cmp a b<=1:=by
  unfold Big.cmp;split
  .omega
  .split<;>omega
 generalize Big.cmp a b=cc at *;simp[jg];refine cd dc ?_;simp[hc];by_cases h18:ndg a<=18∧ndg b<=18
 .rw[if_pos h18]at bo;have g3:10^ndg a<=10^18:=Z4 ae h18.1;have b1:a<1000000000000000000:=Z1 (cY a) g3;refine cd bo ?_;obtain⟨m,hm⟩:=mnQ (a-b);have em:(a:Int)-(b:Int)=(m:Int):=aa;rw[hm];simp(disch:=try exact ag)[em];refine cd (yU (n:=m) aa) ?_;exact aG rfl rfl
 rw[if_neg h18]at bo;obtain⟨ca,hca⟩:=nmQ (ndg a/9+1);obtain⟨cb,hcb⟩:=nmQ (ndg b/9+1);have cA:=tv (h:=[nnQ,nnQ,nnQ,nnQ,nnQ,nnQ,nnQ]) rfl (n:=a) aa hca;have LA:bZ a=ca∨bZ a+1=ca:=by rw[hca];exact DR
 have LB:bZ b=cb∨bZ b+1=cb:=by rw[hcb];exact DR
 have hle:bZ b<=bZ a:=(pN ax).2 (Zk hba (Jm a));have hli:∀h:Hp,cO 1 [D.int .u64 0] [(0,V.d (D.int .u64 0))] h=some ([u6 0],h):=fun h=>by simp[cO,jv,iH,toD,u6]
 refine cd bo ?_;simp;refine jC (fe (e:=0) (b:=.none) cA rfl ?_);rw[List.length_map,cT];simp[hli]
 have nv:NV [(1,.data 1 ((bg ca a).map u6) true false),nnQ,nnQ,nnQ,nnQ,nnQ,nnQ]:=by
  intro j x hj b';rcases W7.2 ⟨j,hj⟩with hm;simp only[Zo,Ys,or_false]at hm;rcases hm with rfl|rfl|rfl|rfl|rfl|rfl|rfl<;>rfl
 refine QQ (s:=0) (t:=1) (n:=a) (c:=ca) aa rfl rfl LA aa fun s1 e1 ex1 h1 l1 g1 hs1 o1=>?_
 have nv1:=nv.upd g1 o1;have k1:∀j,2<=j->h1[j]?=([(1,.data 1 ((bg ca a).map u6) true false),nnQ,nnQ,nnQ,nnQ,nnQ,nnQ]:Hp)[j]?:=fun j hj=>o1 j aa
 have hr1:bj (.ref s1 e1 0 (bZ a+1) (bZ a+1) (bZ a+1))=some (I (bZ a+1:Nat)):=rfl
 have hb1:biI .sub (I ((bZ a+1:Nat):Int)) (.d (.int .i64 1))=some (I (bZ a)):=by
  rw[rT,show(((bZ a+1:Nat):Int)-1)=(bZ a:Int) by omega,uo aa aa]
 -- the second number,twice
 have cB:=tv (h:=h1) (nv1.all _) (n:=b) aa hcb;refine jC (u:=.mk) (fe (e:=0) (b:=.none) cB (k1 2 aa) ?_);rw[List.length_map,cT];have l2:(h1.set 2 (1,.data 1 ((bg cb b).map u6) true false)).length=7:=by simp[l1]
 have n2:(2:Nat)<h1.length:=by rw[l1];simp
 have g2:(h1.set 2 (1,.data 1 ((bg cb b).map u6) true false))[2]?=some (1,.data 1 ((bg cb b).map u6) true false):=by simp[n2]
 have o2:∀j,j≠2->(h1.set 2 (1,.data 1 ((bg cb b).map u6) true false))[j]?=h1[j]?:=fun j hj=>by rw[List.getElem?_set_ne (Ne.symm hj)]
 have nv2:=nv1.upd g2 o2;generalize h1.set 2 (1,.data 1 ((bg cb b).map u6) true false)=h2 at *
 show bnd (bj (.ref s1 e1 0 (bZ a+1) (bZ a+1) (bZ a+1))) _
 simp only[hr1,hb1,bnd];have cB2:=tv (h:=h2) (nv2.all _) (n:=b) aa hcb;refine jC (u:=.mk) (fe (e:=0) (b:=.none) cB2 ((o2 3 ae).trans (k1 3 aa)) ?_);rw[List.length_map,cT];have n3:(3:Nat)<h2.length:=by rw[l2];simp
 have g3:(h2.set 3 (1,.data 1 ((bg cb b).map u6) true false))[3]?=some (1,.data 1 ((bg cb b).map u6) true false):=by simp[n3]
 have o3:∀j,j≠3->(h2.set 3 (1,.data 1 ((bg cb b).map u6) true false))[j]?=h2[j]?:=fun j hj=>by rw[List.getElem?_set_ne (Ne.symm hj)]
 have nv3:=nv2.upd g3 o3;generalize h2.set 3 (1,.data 1 ((bg cb b).map u6) true false)=h3 at *;obtain⟨k,hk⟩:=nmQ (bZ a-bZ b);have hr2:bj (.ref 3 (0+1) 0 (bZ b) cb cb)=some (I (bZ b:Nat)):=rfl
 have hb2:biI .sub (I (bZ a:Int)) (I (bZ b:Int))=some (I k):=by
  rw[rT,show((bZ a:Int)-(bZ b:Int))=(k:Int) by omega,uo aa aa]
 simp only[show bj (V.ref 3 (0+1) 0 (dig Z b).length cb cb)=some (I (bZ b:Nat))from rfl,hb2];have q2:h3[2]?=some (1,.data 1 ((bg cb b).map u6) true false):=(o3 2 ae).trans g2;have q4:h3[4]?=some nnQ:=((o3 4 ae).trans (o2 4 ae)).trans (k1 4 aa)
 refine QO (u:=.mk) (s:=2) (t:=4) aa q2 q4 LB aa fun t1 s4 h4 l4 hs4 o4 ⟨e4,l4',ex4,g4⟩ rd=>?_
 have nv4:=nv3.upd g4 o4;have hss:s1≠s4:=by rcases hs1 with rfl|rfl<;>rcases hs4 with rfl|rfl<;>omega
 have h12:s1≠2∧s1≠3:=by rcases hs1 with rfl|rfl<;>omega
 have gs:h4[s1]?=some (e1,.data 1 ((dig Z a++[0]).map u6) ex1 false):=(((o4 s1 hss).trans (o3 s1 h12.2)).trans (o2 s1 h12.1)).trans g1;have lt4:=bH gs;have hdl:(dig Z b++List.replicate k 0).length=bZ a:=by simp only[Zm,Zh];show bZ b+k=_;omega
 have sD:aH Z (dig Z b++List.replicate k 0):=fq (cJ ax b) (qg _);have vD:val Z (dig Z b++List.replicate k 0)=b:=by rw[oW,iS ax]
 have rdS:=rd (fun t=>∃l,t=sP h4 s1 e1 ex1 l) (fun g ⟨l,hg⟩=>by rw[hg];unfold sP;rw[List.getElem?_set_ne hss]);obtain⟨c1,c2,c3⟩:=SU (n:=bZ a) rfl hdl (cJ ax a) sD (iS ax a) vD hba
 have bk:=KE (g:=1) (at_:=0) (tot:=bZ a+1) (l:=dig Z a++[0]) (ex:=ex1) (e:=e1) (s:=s1) (h:=h4) (nv4.all _) lt4 rdS sD Lt (by rw[hdl];omega) aa (by simp[bZ]) (fq (cJ ax a) (qg 1));rw[Pq gs]at bk;refine jC (u:=.mk) (pT bk ?_ af);exact G8 nv4 lt4 c3 c1 c2 aa (fun v=>.tup [v,I 0]) (fun _=>aG rfl rfl)
theorem xI{w:Nat}(h:sdg z<=w):z.natAbs<10^w:=by
 have:ndg z.natAbs<=w:=by unfold sdg at h;omega
 exact Z1 (cY _) (Z4 ae this)
theorem tc(h1 : -9223372036854775808<z)(h2:z<9223372036854775808):CP Y F.fG [I z] (S (itoa z)):=by refine DZ ?_;simp[fG];refine cd (DG h1 h2) ?_;exact fD rfl
theorem vr(ha:ndg a<=k)(hb:ndg b<=k):ndg (a+b)<=k+1:=by have h1:a<10^k:=Z1 (cY a) (Z4 ae ha);have h2:b<10^k:=Z1 (cY b) (Z4 ae hb);exact cN (by rw[Nat.pow_succ];omega) aa
theorem YU(hz:ndg z.natAbs<999999)(hw:ndg w.natAbs<999999): 
  cal (CX Y).p [] (.fn F.aR [] []) [S (itoa z)] fun v6 h=>
  ext v6 0 fun v7=>
  ext v6 1 fun v8=>
  cal (CX Y).p h (.fn F.aR [] []) [S (itoa w)] fun v9 h=>
  ext v9 0 fun v10=>
  ext v9 1 fun v11=>
  bnd (biB .eql v7 v10) fun v12=>
  cnd v12 (
   cal (CX Y).p h (.fn F.ii [] []) [v8,v11] fun v13 h=>
   cal (CX Y).p h (.fn F.cF [] []) [v7,v13] fun v14 h=>
   out (S (itoa (z+w))) v14 h) (
   cal (CX Y).p h (.fn F.bV [] []) [v8,v11] fun v15 h=>
   bnd (biI .lss v15 (.d (.int .i64 0))) fun v16=>
   jn (fun l17 h=>
    cal (CX Y).p h (.fn F.jg [] []) [(ge l17 1),(ge l17 2)] fun v19 h=>
    ext v19 0 fun v20=>
    ext v19 1 fun v21=>
    cal (CX Y).p h (.fn F.cF [] []) [(ge l17 0),v20] fun v22 h=>
    out (S (itoa (z+w))) v22 h) fun q18=>
    cnd v16 (
     q18 [v10,v11,v8] h) (
     q18 [v7,v8,v11] h)):=by
 simp;refine cd (rZ z) ?_;simp;refine cd (rZ w) ?_;have eb:biB .eql (B (decide (z<0))) (B (decide (w<0)))=some (B (decide (z<0) == decide (w<0))):=rfl;simp[eb];by_cases hs:(z<0↔w<0)
 .simp[hs];refine cd (FJ (a:=z.natAbs) (b:=w.natAbs) aa aa) ?_;simp;have hk:ndg (z.natAbs+w.natAbs)<=999999:=vr aa aa;refine cd (m7 (decide (z<0)) (n:=z.natAbs+w.natAbs) aa) ?_;refine fD ?_;congr 1;unfold sg;by_cases h:z<0
  .simp[h];omega
  .simp[h];omega
 .simp[hs];refine cd (uO (a:=z.natAbs) (b:=w.natAbs) aa aa) ?_;simp;by_cases hlt:z.natAbs<w.natAbs
  .have hc:Big.cmp z.natAbs w.natAbs<0:=by rw[B8 hlt];decide
   refine jD (l:=[B (decide (w<0)),S (ai w.natAbs),S (ai z.natAbs)]) (h:=[]) (fun q=>by simp[hc]) ?_;simp;refine cd (B5 (a:=w.natAbs) (b:=z.natAbs) aa aa) ?_;simp;refine cd (m7 (decide (w<0)) (n:=w.natAbs-z.natAbs) (Zk (dM (Nat.sub_le ..)) aa)) ?_;refine fD ?_;congr 1;unfold sg;by_cases h:w<0
   .simp[h];omega
   .simp[h];omega
  ·have hc:¬Big.cmp z.natAbs w.natAbs<0:=by
    rcases Nat.eq_or_lt_of_not_lt hlt with h|h
    .rw[h,cmp_eq];decide
    .rw[B9 h];decide
   refine jD (l:=[B (decide (z<0)),S (ai z.natAbs),S (ai w.natAbs)]) (h:=[]) (fun q=>by simp[hc]) ?_;simp;refine cd (B5 (a:=z.natAbs) (b:=w.natAbs) aa aa) ?_;simp;refine cd (m7 (decide (z<0)) (n:=z.natAbs-w.natAbs) (Zk (dM (Nat.sub_le ..)) aa)) ?_;refine fD ?_;congr 1;unfold sg;by_cases h:z<0
   .simp[h];omega
   .simp[h];omega
theorem zB(hz:ndg z.natAbs<999999)(hw:ndg w.natAbs<999999):CP Y F.dp [S (itoa z),S (itoa w)] (S (itoa (z+w))):=by
 refine Kj ?_;have l1:=te z 18 ae;have l2:=te w 18 ae;have tl:=YU hz hw;simp[dp];refine cd l1 ?_;by_cases h1:sdg z<=18
 .rw[if_pos h1];simp;by_cases h2:sdg w<=18
  .rw[if_pos h2]at l2;refine aT ?_;simp;refine cd l2 ?_;have b1:=xI h1;have b2:=xI h2;simp only[Nat.reducePow]at b1 b2;obtain⟨m,hm⟩:=mnQ (z+w);rw[hm];simp(disch:=try exact ag)[hm];refine cd (tc (z:=m) aa aa) ?_;exact fD rfl
  .rw[if_neg h2]at l2;refine aT ?_;simp;refine cd l2 ?_;simp;simpa using tl
 .rw[if_neg h1];simp;refine aT ?_;simp;simpa using tl
theorem wA(hz:ndg z.natAbs<400000)(hw:ndg w.natAbs<400000):CP Y F.bq [S (itoa z),S (itoa w)] (S (itoa (z*w))):=by
 refine Kg ?_;have l1:=te z 9 ae;have l2:=te w 9 ae;have dm:=xZ (a:=z.natAbs) (b:=w.natAbs) aa aa
 have hk:ndg (z.natAbs*w.natAbs)<1000000:=by
  have h1:=cY z.natAbs;have h2:=cY w.natAbs;have h3:z.natAbs*w.natAbs<10^(ndg z.natAbs+ndg w.natAbs):=by rw[Y6];exact Yn h1 h2
  have:=cN h3 (by have:=md z.natAbs;omega);omega
 have e:sg (decide (z<0) !=decide (w<0)) (z.natAbs*w.natAbs)=z*w:=by
  unfold sg;by_cases h1:z<0<;>by_cases h2:w<0
  .simp[h1,h2];rw[X4 aa,X4 aa,Int.neg_mul_neg]
  .simp[h1,h2];rw[X4 aa,Wz aa,Int.neg_mul,Int.neg_neg]
  .simp[h1,h2];rw[Wz aa,X4 aa,Int.mul_neg,Int.neg_neg]
  .simp[h1,h2];rw[Wz aa,Wz aa]
 have eb:biB .neq (B (decide (z<0))) (B (decide (w<0)))=some (B (decide (z<0) !=decide (w<0))):=rfl;have jo:=m7 (decide (z<0) !=decide (w<0)) hk;rw[e]at jo
 have tail:∀u:Unit,cal (CX Y).p [] (.fn F.aR [] []) [S (itoa z)] fun v6 h=>
  ext v6 0 fun v7=>
  ext v6 1 fun v8=>
  cal (CX Y).p h (.fn F.aR [] []) [S (itoa w)] fun v9 h=>
  ext v9 0 fun v10=>
  ext v9 1 fun v11=>
  bnd (biB .neq v7 v10) fun v12=>
  cal (CX Y).p h (.fn F.ig [] []) [v8,v11] fun v13 h=>
  cal (CX Y).p h (.fn F.cF [] []) [v12,v13] fun v14 h=>
  out (S (itoa (z*w))) v14 h:=by
  intro _;simp;refine cd (rZ z) ?_;simp;refine cd (rZ w) ?_;simp[eb];refine cd dm ?_;simp;refine cd jo ?_;exact fD rfl
 simp[bq];refine cd l1 ?_;by_cases h1:sdg z<=9
 .rw[if_pos h1];simp;by_cases h2:sdg w<=9
  .rw[if_pos h2]at l2;refine aT ?_;simp;refine cd l2 ?_;have b1:=xI h1;have b2:=xI h2
   have hmb:(z*w).natAbs<1000000000000000000:=by
    rw[Y2];exact Yn b1 b2
   obtain⟨m,hm⟩:=mnQ (z*w);rw[hm]at hmb ⊢;simp(disch:=try exact ag)[hm];refine cd (tc (z:=m) aa aa) ?_;exact fD rfl
  .rw[if_neg h2]at l2;refine aT ?_;simp;refine cd l2 ?_;simp;simpa using tail ()
 .rw[if_neg h1];simp;refine aT ?_;simp;simpa using tail ()
theorem mz(n:Nat):itoa (n:Int)=ai n:=by rfl
theorem ZZ(n:Nat):sgn (n:Int)=if n=0 then 0 else 1:=by
 unfold sgn;by_cases h:n=0
 .simp[h]
 .rw[if_neg aa,if_neg aa,if_neg h]
theorem KY(n:Nat):CP Y F.dE [S (ai n)] (I (if n=0 then 0 else 1)):=by
 have:=qH (n:Int)
 grind[mz,ZZ]
theorem Km(ha:ndg a<1000000)(hb:ndg b<1000000):CP Y F.km [S (ai a),S (ai b)] (I (Big.cmp a b)):=by
 refine CJ ?_;have s1:=KY a;have s2:=KY b;simp[km];by_cases h1:a=0
 .rw[if_pos h1]at s1;by_cases h2:b=0
  .rw[if_pos h2]at s2;refine cd s1 ?_;simp;refine cd s2 ?_;simp;refine cd (r8 a) ?_;simp;refine cd (r8 b) ?_;simp;refine jD (l:=[S (ai a),S (ai b)]) (h:=[]) (fun q=>by simp) ?_;simp;refine cd (uO ha hb) ?_;simp
  .rw[if_neg h2]at s2;refine cd s1 ?_;simp;refine cd s2 ?_;simp;exact cx (B8 aa).symm
 .rw[if_neg h1]at s1;by_cases h2:b=0
  .rw[if_pos h2]at s2;refine cd s1 ?_;simp;refine cd s2 ?_;simp;exact cx (B9 aa).symm
  .rw[if_neg h2]at s2;refine cd s1 ?_;simp;refine cd s2 ?_;simp;refine cd (r8 a) ?_;simp;refine cd (r8 b) ?_;simp;refine jD (l:=[S (ai a),S (ai b)]) (h:=[]) (fun q=>by simp) ?_;simp;refine cd (uO ha hb) ?_;simp
theorem FC(hb:0<b):(-(a:Int))/(b:Int)=(if a%b=0 then -((a/b:Nat):Int)else -((a/b+1:Nat):Int))∧(-(a:Int))%(b:Int)=(if a%b=0 then 0 else((b-a%b:Nat):Int)):=by
 have h1:=Yf a b;have h2:=Y7 a hb;have hbz:(b:Int)>0:=aa;generalize a%b=r at *;generalize a/b=q at *;by_cases h:r=0
 .subst h;simp only[if_true]
  have e:(-(a:Int))=(b:Int)*(-(q:Int)):=by
   rw[Int.mul_neg,<-Int.natCast_mul];congr 1;omega
  rw[e];exact⟨Int.mul_ediv_cancel_left _ aa,Int.mul_emod_right _ _⟩
 .simp only[if_neg h]
  have e:(-(a:Int))=((b-r:Nat):Int)+(b:Int)*(-((q+1:Nat):Int)):=by
   have:(a:Int)=(b:Int)*q+r:=by rw[<-Int.natCast_mul];omega
   rw[this,Int.mul_neg,Int.natCast_add,Int.mul_add];have:((b-r:Nat):Int)=(b:Int)-r:=aa;omega
  have l1:(0:Int)<=((b-r:Nat):Int):=aa;have l2:((b-r:Nat):Int)<(b:Int):=aa;rw[e];constructor
  .rw[Int.add_mul_ediv_left _ _ aa,Int.ediv_eq_zero_of_lt l1 l2,Ye]
  .rw[Int.add_mul_emod_self_left,Int.emod_eq_of_lt l1 l2]
theorem Ae:ndg 1=1:=bb
theorem xR{a b a' b':LuQ}(e1:a'=a)(e2:b'=b):out (.tup [S a,S b,I c]) (.tup [S a',S b',I c]) h:=by simp_all[jY]
theorem abj(hb:0<b)(hz:ndg z.natAbs<900000)(hbd:ndg b<900000):
   cal (CX Y).p [] (.fn F.aR [] []) [S (itoa z)] fun v7 h=>
   ext v7 0 fun v8=>
   ext v7 1 fun v9=>
   cal (CX Y).p h (.fn F.aR [] []) [S (ai b)] fun v10 h=>
   ext v10 0 fun v11=>
   ext v10 1 fun v12=>
   cal (CX Y).p h (.fn F.eW [] []) [v9,v12] fun v13 h=>
   ext v13 0 fun v14=>
   ext v13 1 fun v15=>
   ext v13 2 fun v16=>
   bnd (biI .neq v16 (.d (.int .i64 0))) fun v17=>
   cnd v17 (
    out (.tup [S (itoa (z/b)),S (itoa (z%b)),I 0]) (.tup [(.d (.str [])),(.d (.str [])),v16]) h) (
    bnd (biB .neq v8 v11) fun v18=>
    gd v18 true h (fun q=>q v15 h) fun v19 h=>
    gd v18 true h (fun q=>bnd (biS .neq v19 (.d (.str [48]))) fun v=>q v h) fun v20 h=>
    bnd (qM v18 v20 (.d (.bool false))) fun v21=>
    jn (fun l22 h=>
     bnd (biB .neq v8 v11) fun v24=>
     cal (CX Y).p h (.fn F.cF [] []) [v24,(ge l22 0)] fun v25 h=>
     cal (CX Y).p h (.fn F.cF [] []) [v11,(ge l22 1)] fun v26 h=>
     out (.tup [S (itoa (z/b)),S (itoa (z%b)),I 0]) (.tup [v25,v26,(.d (.int .i64 0))]) h) fun q23=>
     cnd v21 (
      cal (CX Y).p h (.fn F.ii [] []) [v14,(.d (.str [49]))] fun v27 h=>
      cal (CX Y).p h (.fn F.jg [] []) [v12,v15] fun v28 h=>
      ext v28 0 fun v29=>
      ext v28 1 fun v30=>
      q23 [v27,v29] h) (
      q23 [v14,v15] h)):=by
 have hq:ndg (z.natAbs/b)<=ndg z.natAbs:=dM (Yu ..);have hr:z.natAbs%b<b:=Y7 _ hb;have hr2:ndg (z.natAbs%b)<=ndg b:=dM aa
 have eb:biB .neq (B (decide (z<0))) (B false)=some (B (decide (z<0))):=by
  show some (B (decide (z<0) !=false))=_
  rw[Bool.bne_false]
 simp;refine cd (rZ z) ?_;simp;refine cd (r8 b) ?_;simp;refine cd (BW (a:=z.natAbs) hb aa aa) ?_;by_cases hneg:z<0
 .have ez:z = -(z.natAbs:Int):=aa;obtain⟨d1,d2⟩:=FC (a:=z.natAbs) hb;rw[<-ez]at d1 d2;rw[decide_eq_true hneg]at eb ⊢;by_cases h0:z.natAbs%b=0
  .rw[if_pos h0]at d1 d2;rw[h0,fj];simp[eb];refine jD (l:=[S (ai (z.natAbs/b)),S [48]]) (h:=[]) (fun q=>by simp) ?_;simp[eb];refine cd (m7 true (n:=z.natAbs/b) aa) ?_;simp;have j0:=m7 false (n:=0) (by grind);rw[fj]at j0;refine cd j0 ?_;refine xR ?_ ?_
   .rw[d1];rfl
   .rw[d2];rfl
  .rw[if_neg h0]at d1 d2;have h48:¬ai (z.natAbs%b)=[48]:=fun h=>h0 (mG.1 h)
   have ad:=FJ (a:=z.natAbs/b) (b:=1) aa (by simp[Ae]);rw[show ai 1=[49] by decide+kernel]at ad;simp[eb,h48];refine aT ?_;simp[h48];refine cd ad ?_;simp;refine cd (B5 (a:=b) (b:=z.natAbs%b) aa aa) ?_;simp[eb];have hq1:ndg (z.natAbs/b+1)<=900000+1:=vr aa (by simp[Ae])
   refine cd (m7 true (n:=z.natAbs/b+1) aa) ?_;simp;refine cd (m7 false (n:=b-z.natAbs%b) (Zk (dM (Nat.sub_le ..)) aa)) ?_;refine xR ?_ ?_
   .rw[d1];rfl
   .rw[d2];rfl
 .rw[decide_eq_false hneg]at eb ⊢;simp[eb];refine jD (l:=[S (ai (z.natAbs/b)),S (ai (z.natAbs%b))]) (h:=[]) (fun q=>by simp) ?_;simp[eb];refine cd (m7 false (n:=z.natAbs/b) aa) ?_;simp;refine cd (m7 false (n:=z.natAbs%b) aa) ?_;have ez:z=(z.natAbs:Int):=aa;refine xR ?_ ?_
  .rw[ez,<-Int.natCast_ediv];rfl
  .rw[ez,<-Int.natCast_emod];rfl
theorem D4(hb:0<b)(hz:ndg z.natAbs<900000)(hbd:ndg b<900000):CP Y F.cC [S (itoa z),S (ai b)] (.tup [S (itoa (z/b)),S (itoa (z%b)),I 0]):=by
 refine ly ?_;have l1:=te z 18 ae;have l2:=Oi b 18 ae;have tl:=abj hb hz hbd;have h48:¬ai b=[48]:=fun h=>by grind[mG]
 simp[cC,h48];refine cd l1 ?_;by_cases h1:sdg z<=18
 .rw[if_pos h1];by_cases h2:ndg b<=18
  .rw[if_pos h2]at l2;simp;refine aT ?_;simp;refine cd l2 ?_;have b1:=xI h1;have b2:b<10^18:=Z1 (cY b) (Z4 ae h2);simp only[Nat.reducePow]at b1 b2;have hbz:¬(b:Int)=0:=aa;obtain⟨n,hn⟩:=nmQ (z.natAbs);rw[<-hn]at b1;have hq:n/b<=n:=Yu ..;have hr:n%b<b:=Y7 _ hb;by_cases hneg:z<0
   .have ez:z = -(n:Int):=aa;obtain⟨d1,d2⟩:=FC (a:=n) hb;rw[<-ez]at d1 d2;have q1:z.tdiv (b:Int) = -((n/b:Nat):Int):=by rw[ez,Int.neg_tdiv,Zs aa,<-Int.natCast_ediv]
    have q2:z.tmod (b:Int) = -((n%b:Nat):Int):=by rw[ez,Int.neg_tmod,Zx aa,<-Int.natCast_emod]
    obtain⟨q,hqq⟩:=nmQ (n/b);obtain⟨r,hrr⟩:=nmQ (n%b);rw[<-hqq]at q1 d1 hq;rw[<-hrr]at q2 d1 d2 hr;by_cases h0:r=0
    .rw[if_pos h0]at d1 d2;rw[h0]at q2;simp(disch:=try exact ag)[q1,q2];refine jD (l:=[I (-(q:Int)),I 0]) (h:=[]) (fun q=>by simp) ?_;simp;refine cd (tc (z:=-(q:Int)) aa aa) ?_;simp;refine cd (tc (z:=0) aa aa) ?_;refine xR ?_ ?_
     .rw[d1]
     .rw[d2]
    .rw[if_neg h0]at d1 d2;have r0:¬(-(r:Int))=0:=aa;have r1:(-(r:Int))<0:=aa;have r2:¬(b:Int)<0:=aa;have eb:∀x y:Bool,biB .neq (B x) (B y)=some (B (x !=y)):=fun _ _=>rfl
     simp(disch:=try exact ag)[q1,q2,r0,r1,r2,eb];refine jD (l:=[I (-(q:Int)-1),I (-(r:Int)+b)]) (h:=[]) (fun q=>by simp(disch:=try exact ag)[r0,r1,r2]) ?_;simp;refine cd (tc (z:=-(q:Int)-1) aa aa) ?_;simp;refine cd (tc (z:=-(r:Int)+b) aa aa) ?_
     grind[xR]
   .have ez:z=(n:Int):=aa;have q1:z.tdiv (b:Int)=((n/b:Nat):Int):=by rw[ez,Zs aa,<-Int.natCast_ediv]
    have q2:z.tmod (b:Int)=((n%b:Nat):Int):=by rw[ez,Zx aa,<-Int.natCast_emod]
    have d1:z/(b:Int)=((n/b:Nat):Int):=by rw[ez,<-Int.natCast_ediv]
    have d2:z%(b:Int)=((n%b:Nat):Int):=by rw[ez,<-Int.natCast_emod]
    obtain⟨q,hqq⟩:=nmQ (n/b);obtain⟨r,hrr⟩:=nmQ (n%b);rw[<-hqq]at q1 d1 hq;rw[<-hrr]at q2 d2 hr;have r1:¬((r:Int))<0:=aa;have r2:¬(b:Int)<0:=aa;have eb:∀x y:Bool,biB .neq (B x) (B y)=some (B (x !=y)):=fun _ _=>rfl
    have fin:∀h:Hp,cal (CX Y).p h (V.fn F.fG [] []) [I q] fun v45 h=>
      cal (CX Y).p h (V.fn F.fG [] []) [I r] fun v46 h=>out (V.tup [S (itoa (z/(b:Int))),S (itoa (z%(b:Int))),I 0]) (V.tup [v45,v46,V.d (D.int IntKind.i64 0)]) h:=by
     intro h;simp;refine cd (tc (z:=q) aa aa) ?_;simp;refine cd (tc (z:=r) aa aa) ?_;refine xR ?_ ?_
     .rw[d1]
     .rw[d2]
    by_cases h0:r=0
    .rw[h0]at q2 fin;simp(disch:=try exact ag)[q1,q2];refine jD (l:=[I q,I 0]) (h:=[]) (fun q=>by simp) ?_;exact fin []
    .have r0:¬(r:Int)=0:=aa;simp(disch:=try exact ag)[q1,q2,r0,r1,r2,eb];refine jD (l:=[I q,I r]) (h:=[]) (fun q=>by simp[r0,r1,r2]) ?_;exact fin []
  .rw[if_neg h2]at l2;simp;refine aT ?_;simp;refine cd l2 ?_;simp;trivial
 .rw[if_neg h1];simp;refine aT ?_;simp;trivial
theorem Sm(ha0:0<a)(hb0:0<b)(ha:ndg a<400000)(hb:ndg b<400000):CP Y F.pi [S (ai a),S (ai b)] (S (ai (Nat.lcm a b))):=by
 refine GK ?_;have h1:¬ai a=[48]:=fun h=>by have:=mG.1 h;omega
 have h2:¬ai b=[48]:=fun h=>by have:=mG.1 h;omega
 have hg:0<Nat.gcd a b:=Nat.gcd_pos_of_pos_left _ ha0;have hgl:Nat.gcd a b<=a:=Nat.gcd_le_left _ ha0;have hq:ndg (a/Nat.gcd a b)<=ndg a:=dM (Yu ..);simp[pi,h1,h2];refine cd (Qr aa aa) ?_;simp;refine cd (BW (a:=a) (b:=Nat.gcd a b) hg aa (by have:=dM hgl;omega)) ?_;simp
 refine cd (xZ (a:=a/Nat.gcd a b) (b:=b) aa aa) ?_;refine fD ?_;congr 1;rw[Nat.lcm,Zt,<-Nat.mul_div_assoc _ (Wi a b),Zt]
theorem QS(n:Nat):CP Y F.ij [S (ai n)] (S (ai n)):=by
 have:=DW (n:Int)
 rwa [mz,Int.natAbs_natCast]at this
theorem ZI(ha0:0<a)(hb0:0<b)(ha:ndg a<400000)(hb:ndg b<400000):CP Y F.qb [S (ai a),S (ai b)] (S (ai (Nat.lcm a b))):=by refine Kh ?_;simp[qb];refine cd (QS a) ?_;simp;refine cd (QS b) ?_;simp;refine cd (Sm ha0 hb0 ha hb) ?_;exact fD rfl
theorem RA(h:z.natAbs<9223372036854775808):CP Y F.gM [S (itoa z),I 10,I 64] (.tup [I z,.d (.pl .nilIface)]):=by
 have key:∀n:Nat,n<9223372036854775808->(ai n)≠[]∧(ai n).all oN=true∧(ai n).length<=1000∧pW 0 (ai n)=n:=by
  intro n hn;have hd:=dZ n;have hc:=tA n
  have hl:(ai n).length<=1000:=by
   have:=cN (n:=n) (d:=19) aa ae;rw[ai,bh];omega
  simp only[qR,Z8]at hc
  have hall:(ai n).all oN=true:=by
   rw[<-hc.1.2];congr 1;funext c;exact digit_eq c
  exact⟨xp n,hall,hl,by rw[xX,hd]⟩
 have ho:Y.X.orc F.gM [.string ⟨⟨itoa z⟩⟩,.int .i64 10,.int .i64 64]=some (.tuple #[.int .i64 z,.nilIface]):=by
  have e:∀a,Y.X.orc F.gM a=PS a:=fun a=>rfl
  rw[e];obtain⟨k1,k2,k3,k4⟩:=key _ h;unfold PS;simp only;rw[if_pos ⟨trivial,trivial⟩];by_cases hz:z<0
  .have e1:itoa z=45::ai z.natAbs:=by unfold itoa;rw[if_pos hz]
   rw[e1];simp only;rw[if_pos ⟨k1,k2,k3,by rw[k4];exact h⟩,k4,show(-((z.natAbs:Nat):Int))=z by omega]
  .have e1:itoa z=ai z.natAbs:=by unfold itoa;rw[if_neg hz]
   rw[e1];have hh:=tg z.natAbs;have ez:((z.natAbs:Nat):Int)=z:=aa;generalize ai z.natAbs=L at *
   have fin:(if L≠[]∧L.all oN=true∧L.length<=1000∧pW 0 L<9223372036854775808 then some (Value.tuple #[.int .i64 (pW 0 L),.nilIface])else none)=some (Value.tuple #[.int .i64 z,.nilIface]):=by
    rw[if_pos ⟨k1,k2,k3,by rw[k4];exact h⟩,k4,ez]
   split
   .rename_i l hl;exact absurd rfl hh
   .exact fin
 exact CP.orc ho (by intro x hx;simp only[Zo,Ys,or_false]at hx;rcases hx with rfl|rfl|rfl<;>rfl) rfl
theorem Rc(h:z.natAbs<9223372036854775808):CP Y F.oT [S (itoa z)] (.tup [I z,B true]):=by refine F8 ?_;simp[oT];refine cd (RA h) ?_;simp[Jc];exact aG rfl rfl
def RdN(s:Nat)(h:Hp)(v:V)(d:LnQ):Prop:=∀h':Hp,h'.length=h.length->(∀j,j≠s->h'[j]?=h[j]?)->RdP h' v d∧∃h2,bJ h' v=some (lst u6 d,h2)
theorem RdN.now{v:V}{d:LnQ}(r:RdN s h v d):RdP h v d:=(r h rfl fun _ _=>rfl).1
theorem RdN.step{h2:Hp}{v:V}{d:LnQ}(r:RdN s h v d)(hl:h2.length=h.length)(hs:∀j,j≠s->h2[j]?=h[j]?):RdN s h2 v d:=
 fun h' h1 h3=>r h' (h1.trans hl) fun j hj=>(h3 j hj).trans (hs j hj)
theorem RdN.new{s t e N m:Nat}{h:Hp}(hst:s≠t)(hg:h[t]?=some (e,.data 1 ((bg N m).map u6) true false))(hm:m<Z^N):RdN s h (.ref t e 0 (dig Z m).length N N) (dig Z m):=fun h' hl ho=>by
 have:=DX (h:=h') (cap:=N) ((ho t (Ne.symm hst)).trans hg) (cT ..).symm (iL hm);rw[nK hm]at this;have sn:=wL (h:=h') ((ho t (Ne.symm hst)).trans hg) (cT ..).symm (len:=(dig Z m).length) (cap:=N) (iL hm) (Z7 _);rw[nK hm]at sn;exact⟨this,_,sn⟩
theorem and_one{n:Int}(h0:0<=n)(h1:n<9223372036854775808):biI .and (I n) (I 1)=some (I (n%2)):=by
 obtain⟨m,rfl⟩:∃m:Nat,n=m:=⟨n.toNat,aa⟩
 have hb:(BitVec.ofInt 64 (m:Int)&&&BitVec.ofInt 64 1).toNat=m%2:=by
  rw[BitVec.toNat_and]
  have e1:(BitVec.ofInt 64 (m:Int)).toNat=m:=by
   rw[BitVec.toNat_ofInt];omega
  have e2:(BitVec.ofInt 64 (1:Int)).toNat=1:=ae;rw[e1,e2,Nat.and_one_is_mod]
 simp only[biI,ib,ne_eq,not_true_eq_false,if_false,mr,jp]
 show some (V.d (.int .i64 (IntKind.wrap .i64 ((BitVec.ofInt 64 (m:Int)&&&BitVec.ofInt 64 1).toNat:Int))))=_
 rw[hb,uo aa aa];rfl
theorem Lj(k:KL):∀(n A Bv:Nat)(o p:V)(h:Hp)(R:Nat),A*Bv^n=R->0<A->0<Bv->R<Z^2000->n<100000->h.length=3->NV h->RdN 2 h o (dig Z A)->RdN 1 h p (dig Z Bv) ->
  (∀o' h' h2,h'.length=3->bJ h' o'=some (lst u6 (dig Z R),h2)->NV h'->k (.exit 1) [o'] h')->∀h0:Hp,h0.length=3->lp (lv (CX Y)) [] h0 [o,p,I n] h k:=by
 intro n
 induction n using Nat.strongRecOn with
 | ind n ih=>
  intro A Bv o p h R hR hA hB hlim hn hlen hnv ro rp hk h0 hl0;refine aj ?_;by_cases hz:n=0
  .subst hz;simp[lv];rw[Nat.pow_zero,Yc]at hR;subst hR;obtain⟨h2,hs2⟩:=(ro h rfl fun _ _=>rfl).2;exact hk o h h2 hlen hs2 hnv
  have hpos:(n:Int)>0:=aa
  have hBR:Bv<=R:=by
   rw[<-hR];exact Zu (Nat.le_of_eq (Nat.pow_one Bv).symm) (Zu (Z4 hB aa) (Nat.le_mul_of_pos_left _ hA))
  have hAR:A<=R:=by rw[<-hR];exact Y5 _ (Yj hB)
  have dA:(dig Z A).length<=2000:=iL aa;have dB:(dig Z Bv).length<=2000:=iL aa;have and1:=and_one (n:=(n:Int)) aa aa;have e2:((n:Int)/2^(1:Int).toNat)=((n/2:Nat):Int):=af
  have sh:biI .shr (I n) (.d (.int .u64 1))=some (I (n/2:Nat)):=by
   rw[ZY aa aa,e2]
  have hn2:n/2<n:=aa
  -- what a product gives
  have times:∀(h:Hp)(v w:V)(a b s:Nat),h.length=3->NV h->s<3->RdP h v (dig Z a)->RdP h w (dig Z b)->(dig Z a).length<=2000->(dig Z b).length<=2000->∀q:kkQ,
    (∀o' h',h'.length=3->NV h'->(∀j,j≠s->h'[j]?=h[j]?)->(∀t,t≠s->RdN t h' o' (dig Z (a*b)))->q o' h')->cai (CX Y).i h (V.fn F.bw [] []) [v,w] s q:=by
   intro h v w a b s hl hv hs r1 r2 d1 d2 q hq;obtain⟨N,hN⟩:=nmQ ((dig Z a).length+(dig Z b).length);have tk:=Bg (h:=h) (hv.all _) r1 (cJ ax a) r2 (cJ ax b) aa aa hN;rw[iS ax,iS ax]at tk;have hs3:s<h.length:=aa;have hm:a*b<Z^N:=by rw[hN,Y6];exact Yn (xl a) (xl b)
   refine fe (e:=h[s].1) (b:=h[s].2) tk (List.getElem?_eq_getElem hs3) ?_;rw[List.length_map,cT];have gs:(h.set s (h[s].1+1,.data 1 ((bg N (a*b)).map u6) true false))[s]?=some (h[s].1+1,.data 1 ((bg N (a*b)).map u6) true false):=by simp[hs3]
   have os:∀j,j≠s->(h.set s (h[s].1+1,.data 1 ((bg N (a*b)).map u6) true false))[j]?=h[j]?:=fun j hj=>by rw[List.getElem?_set_ne (Ne.symm hj)]
   exact hq _ _ (by simp[hl]) (hv.upd gs os) os (fun t ht=>RdN.new ht gs hm)
  have fin:∀(A' B':Nat)(o' p':V)(h':Hp),A'*B'^(n/2)=R->0<A'->0<B'->h'.length=3->NV h'->RdN 2 h' o' (dig Z A')->RdN 1 h' p' (dig Z B')->rl (lp (lv (CX Y)) [] h0 [o',p',I ((n:Int)/2)] h') k .mk:=by
   intro A' B' o' p' h' e1 e2 e3 e4 e5 e6 e7;rw[show((n:Int)/2)=((n/2:Nat):Int) by omega];exact ih (n/2) hn2 A' B' o' p' h' R e1 e2 e3 hlim aa e4 e5 e6 e7 hk h0 hl0
  have hdm:=Yf n 2;simp(disch:=try exact ag)[lv,hpos];refine aT ?_;simp[and1];by_cases hod:(n:Int)%2=1
  .have hod':n%2=1:=aa
   have eR:A*Bv*(Bv*Bv)^(n/2)=R:=by
    rw[<-hR]
    conv=>rhs;rw[<-hdm,hod',Y6,Xc,Nat.pow_one]
    rw[Nat.pow_two,Nat.mul_assoc,Zt Bv]
   refine aT ?_;simp[hod];refine jC (times h o p A Bv 1 hlen hnv aa ro.now rp.now dA dB _ fun o' h' l1 v1 s1 r1=>?_);have rp1:=rp.step (l1.trans hlen.symm) s1;have ro1:=r1 2 aa;simp;refine aT ?_;by_cases h1:(n:Int)>1
   .simp[h1];refine jC (times h' p p Bv Bv 2 l1 v1 aa rp1.now rp1.now dB dB _ fun p' h'' l2 v2 s2 r2=>?_);have ro2:=ro1.step (l2.trans l1.symm) s2;simp(disch:=try exact ag)[sh];exact fin _ _ o' p' h'' eR (Yx hA hB) (Yx hB hB) l2 v2 ro2 (r2 1 aa)
   .have hn1:n=1:=aa;simp(disch:=try exact ag)[h1,sh];refine fin (A*Bv) Bv o' p h' ?_ (Yx hA hB) hB l1 v1 ro1 rp1;rw[<-eR];subst hn1;simp
  .have hod':n%2=0:=aa
   have eR:A*(Bv*Bv)^(n/2)=R:=by
    rw[<-hR]
    conv=>rhs;rw[<-hdm,hod',Nat.add_zero,Xc]
    rw[Nat.pow_two]
   refine aT ?_;simp[hod];refine aT ?_;have h1:(n:Int)>1:=aa;simp[h1];refine jC (times h p p Bv Bv 2 hlen hnv aa rp.now rp.now dB dB _ fun p' h'' l2 v2 s2 r2=>?_);have ro2:=ro.step (l2.trans hlen.symm) s2;simp(disch:=try exact ag)[sh];exact fin _ _ o p' h'' eR hA (Yx hB hB) l2 v2 ro2 (r2 1 aa)
theorem Qj(h:n<18446744073709551616):CP Y F.ku [.d (.int .u64 n)] (I (aY n)):=by refine CS ?_;simp[ku];refine cd (An h) ?_;simp<;>exact cx rfl
theorem xT:ai 2=[50]:=bb
theorem fY:ai 1=[49]:=bb
theorem YF:CP Y F.kf [S [50]] (I 2):=by refine xu ?_;have h:=xF (n:=2) aa;rw[xT]at h;have h2:=An (n:=2) aa;rw[show aY 2=2 by rfl]at h2;simp[kf];refine cd h ?_;simp;refine cd h2 ?_;simp
theorem SN{K:Nat}(h:n/3+1<=K):2^n<10^K:=by
 have h1:2^n=8^(n/3)*2^(n%3):=by
  rw[show(8:Nat)=2^3 from rfl,<-Xc,<-Y6,Yf]
 have h2:8^(n/3)<=10^(n/3):=X0 ae _
 have h3:2^(n%3)<=4:=by
  have:n%3<3:=Y7 _ ae;exact Zu (Z4 ae (show n%3<=2 by omega)) ae
 have h4:10^(n/3+1)<=10^K:=Z4 ae h;have h5:=Zn h2 h3
 grind
theorem aaH{K:Nat}(h:n/3+1<=K)(hK:0<K):ndg (2^n)<=K:=cN (SN h) hK
theorem afp{K:Nat}(h:n/3+1<=K):2^n<Z^K:=Z1 (SN h) (X0 ae _)
theorem zW(hn:n<=4000):2^n<Z^2000∧ndg (2^n)<=2000:=
 ⟨afp (K:=2000) aa,aaH (K:=2000) aa aa⟩
theorem Sl(hn:n<=4000):CP Y F.d9 [S [50],I n] (.tup [S (ai (2^n)),I 0]):=by
 refine vT ?_;by_cases h0:n=0
 .subst h0;rw[Nat.pow_zero,fY];simp[d9];simp[aG]
 have g1:¬(n:Int)=0:=aa;have g2:¬(n:Int)<0:=aa;have g3:¬(n:Int)>66439:=aa;have n1:¬([50]:LuQ)=[49]:=ae;have n2:¬([50]:LuQ)=[48]:=ae;have ct:=tv (h:=[nnQ,nnQ,nnQ]) rfl (n:=2) (cap:=1) bb bb;rw[xT]at ct;obtain⟨p1,p2⟩:=zW hn
 have hli:∀h:Hp,cO 1 [D.int .u64 0] [(0,V.d (D.int .u64 1))] h=some ([u6 1],h):=fun h=>by rfl
 simp(disch:=try exact ag)[d9,g1,g2,n1,n2];refine cd YF ?_;simp[g3,hli];refine jC (fe (e:=0) (b:=.none) ct rfl ?_);rw[List.length_map,cT];simp
 have nv:NV [(1,.data 1 ((bg 1 2).map u6) true false),nnQ,nnQ]:=by
  intro j x hj b';rcases W7.2 ⟨j,hj⟩with hm;simp only[Zo,Ys,or_false]at hm;rcases hm with rfl|rfl|rfl<;>rfl
 refine lo (Lj _ n 1 2 (lst u6 [1]) _ [(1,.data 1 ((bg 1 2).map u6) true false),nnQ,nnQ] (2^n) (by rw[Xr]) ae ae p1 aa rfl nv ?_ ?_ (fun o' h' h2 hl hr hv=>?_) _ rfl)
 .intro h' _ _;rw[show dig Z 1=[1] by rfl];simp[Nc]
 .exact RdN.new (s:=1) (t:=0) ae rfl ae
 .have hl1:¬(ndg (2^n):Int)>20000:=aa;have lt:=kZ (2^n);have tx:=uU (n:=2^n) (Zk (iL p1) ae);generalize 2^n=m at *;simp;refine cdz (by simp only[aS,hr];rfl) tx ?_;rw[show fN (S (ai m))=true from rfl,if_pos rfl];simp[lt,hl1];simp[aG]
theorem Bz(hn:n<=4000):CP Y F.lJ [S [50],I n] (.tup [S (ai (2^n)),I 0]):=by refine F9 ?_;have sp:=r8 2;rw[xT]at sp;have g2:¬(n:Int)<0:=aa;have g3:¬(n:Int)>4000:=aa;obtain⟨p1,p2⟩:=zW hn;have q:((4000:Int).tdiv 1)=4000:=ae;simp[lJ,g2];refine cd sp ?_;simp[g3,q];refine cd (Sl hn) ?_;simp;refine cd (VK _) ?_;simp[aG]
def dgF(unit two:Nat):Nat->Nat->Nat->Nat->Option Nat
 |0,_,_,out=>some out
 | r+1,low,high,out=>
  cond (Nat.ble two (low*low/unit)) (dgF unit two r (low*low/unit/2) ((high*high/unit+1)/2+1) (out+out+1))
   (cond (Nat.ble two (high*high/unit+1)) none (dgF unit two r (low*low/unit) (high*high/unit+1) (out+out)))
def AO(p n more:Nat):Option Nat:=dgF (2^more) (2^more+2^more) n (p*2^(more-(aY p-1))) (p*2^(more-(aY p-1))) (aY p-1)
def dgV:Option Nat->V
 |some v=>.tup [S (ai v),B true]
 |none=>.tup [S [],B false]
theorem ut(ha:ndg a<999999)(hb:ndg b<999999):CP Y F.dp [S (ai a),S (ai b)] (S (ai (a+b))):=by have:=zB (z:=(a:Int)) (w:=(b:Int)) (by trivial) (by trivial);trivial
theorem wC(ha:ndg a<400000)(hb:ndg b<400000):CP Y F.bq [S (ai a),S (ai b)] (S (ai (a*b))):=by have:=wA (z:=(a:Int)) (w:=(b:Int)) (by trivial) (by trivial);trivial
theorem uq(h0:0<b)(ha:ndg a<900000)(hb:ndg b<900000):CP Y F.cC [S (ai a),S (ai b)] (.tup [S (ai (a/b)),S (ai (a%b)),I 0]):=by grind[D4,mz]
theorem om:ndg (a*b)<=ndg a+ndg b:=by
 have h3:a*b<10^(ndg a+ndg b):=by rw[Y6];exact Yn (cY a) (cY b)
 exact cN h3 (by grind[md])
theorem XB:decide (0<=Big.cmp a b)=Nat.ble b a:=by grind[Nat.ble_eq,B8,cmp_eq,B9]
theorem LG(h:ndg n<=k):ndg (n+n+1)<=k+1:=by have h1:n<10^k:=Z1 (cY n) (Z4 ae h);exact cN aa aa
theorem CF{unit two N W:Nat}(hu:2<=unit)(htwo:two=unit+unit)(hW:ndg two<=W)(hW2:W<100000)(hN:N<100000)(k:KL):∀(r i low high out:Nat),i+r=N->low<=high->high<two->ndg out<=W+i ->
  (∀v,dgF unit two r low high out=some v->ndg v<=W+N->k (.exit 0) [S (ai v)] [])->(dgF unit two r low high out=none->k .ret [S [],B false] []) ->
  lp (py (CX Y) (S (ai unit)) (S (ai two)) (I N)) [] [] [S (ai low),S (ai high),S (ai out),I i] [] k
 | 0,i,low,high,out,hi,hlh,hht,ho,h0,h1=>by
  have hiN:¬(i:Int)<(N:Int):=aa;refine aj ?_;simp[py,hiN];exact h0 out rfl aa
 | r+1,i,low,high,out,hi,hlh,hht,ho,h0,h1=>by
  have hiN:(i:Int)<(N:Int):=aa;have ih:=CF hu htwo hW hW2 hN k r (i+1);have u1:ndg unit<=W:=Zu (dM aa) hW;have u2:ndg low<=W:=Zu (dM aa) hW;have u3:ndg high<=W:=Zu (dM aa) hW;have m1:=wC (a:=low) (b:=low) aa aa;have m2:=wC (a:=high) (b:=high) aa aa
  have w1:ndg (low*low)<=W+W:=Zu om aa;have w2:ndg (high*high)<=W+W:=Zu om aa;have d1:=uq (a:=low*low) (b:=unit) aa aa aa;have d2:=uq (a:=high*high) (b:=unit) aa aa aa;have lowle:low*low/unit<=high*high/unit:=Nat.div_le_div_right (Zn hlh hlh)
  have hi4:high*high/unit+4<=4*unit:=by
   have e1:high*high<=(2*unit-1)*(2*unit-1):=Zn aa aa
   have e2:(2*unit-1)*(2*unit-1)+4*unit=4*unit*unit+1:=by
    obtain⟨x,hx⟩:∃x,unit=x+1:=⟨unit-1,aa⟩;subst hx;rw[show 2*(x+1)-1=2*x+1 by omega];simp only[Nat.add_mul,Zq,Yc,Xr,Nat.mul_assoc,Y1 x 2];omega
   have e3:high*high<(4*unit-3)*unit:=by
    rw[Nat.sub_mul];have:4*unit*unit≥3*unit:=Zz _ aa;omega
   have:=(Xt aa).2 e3;omega
  have eqF:dgF unit two (r+1) low high out=cond (Nat.ble two (low*low/unit)) (dgF unit two r (low*low/unit/2) ((high*high/unit+1)/2+1) (out+out+1))
   (cond (Nat.ble two (high*high/unit+1)) none (dgF unit two r (low*low/unit) (high*high/unit+1) (out+out))):=rfl
  rw[eqF]at h0 h1;generalize low*low/unit=L1 at *;generalize high*high/unit=H0 at *;have t2:ndg (two+two)<=W+1:=vr hW hW;have v1:ndg L1<=W+1:=Zu (dM aa) t2;have v2:ndg H0<=W+1:=Zu (dM aa) t2;have v3:ndg (H0+1)<=W+1:=Zu (dM aa) t2;have a1:=ut (a:=H0) (b:=1) aa (by simp[Ae]);rw[fY]at a1
  have a2:=ut (a:=out) (b:=out) aa aa;have vo:ndg (out+out)<=W+i+1:=vr ho ho;have a3:=ut (a:=out+out) (b:=1) aa (by simp[Ae]);rw[fY]at a3;have c1:=Km (a:=L1) (b:=two) aa aa;have c2:=Km (a:=H0+1) (b:=two) aa aa;have g1:=XB (a:=L1) (b:=two);have g2:=XB (a:=H0+1) (b:=two)
  have d3:=uq (a:=L1) (b:=2) aa aa (by rw[show ndg 2=1 by decide+kernel];omega);have d4:=uq (a:=H0+1) (b:=2) aa aa (by rw[show ndg 2=1 by decide+kernel];omega);rw[xT]at d3 d4;have v4:ndg ((H0+1)/2)<=W+1:=Zu (dM aa) t2;have a4:=ut (a:=(H0+1)/2) (b:=1) aa (by simp[Ae]);rw[fY]at a4
  generalize Big.cmp L1 two=C1 at *;generalize Big.cmp (H0+1) two=C2 at *;refine aj ?_;simp[py,hiN];refine aT ?_;simp;refine cd m1 ?_;simp;refine cd d1 ?_;simp;refine cd m2 ?_;simp;refine cd d2 ?_;simp;refine cd a1 ?_;simp;refine cd a2 ?_;simp;refine aT ?_;simp;refine cd c1 ?_;simp;refine aT ?_;cases q1:Nat.ble two L1 with
  | true=>
   rw[q1]at g1 h0 h1;simp only[cond_true]at h0 h1;have g1':0<=C1:=by simpa using g1
   have b1:two<=L1:=Wm q1;simp[g1'];refine cd a3 ?_;simp;refine cd d3 ?_;simp;refine cd d4 ?_;simp;refine cd a4 ?_;simp(disch:=try exact ag);have:=ih (L1/2) ((H0+1)/2+1) (out+out+1) aa aa aa (LG ho) h0 h1;trivial
  | false=>
   rw[q1]at g1 h0 h1;simp only[cond_false]at h0 h1;have g1':¬0<=C1:=by simpa using g1
   simp[g1'];refine cd c2 ?_;simp;cases q2:Nat.ble two (H0+1)with
   | true=>
    rw[q2]at g2 h1;have g2':0<=C2:=by simpa using g2
    simp[g2']
    grind
   | false=>
    rw[q2]at g2 h0 h1;simp only[cond_false]at h0 h1;have g2':¬0<=C2:=by simpa using g2
    have b2:¬two<=H0+1:=fun h=>by simp_all[W6]
    simp(disch:=try exact ag)[g2'];have:=ih L1 (H0+1) (out+out) aa aa aa aa h0 h1;trivial
theorem RF(v:Nat)(h:Hp):out (dgV (some v)) (.tup [S (ai v),B true]) h:=aG rfl rfl
theorem RG(h:Hp):out (dgV none) (.tup [S [],B false]) h:=aG rfl rfl
theorem OC{p:Nat}(hp:2<=p)(hp2:p<1000000)(hm1:30<=more)(hm:more<=4000)(hn:n<=4000):CP Y F.size_digits [I p,I n,I more] (dgV (AO p n more)):=by
 refine Gg ?_;obtain⟨hk0,hpk,hk1⟩:=pD (n:=p) aa
 have hk2:aY p<=20:=by
  rcases Zi 20 (aY p)with h|h
  .have:2^20<=2^(aY p-1):=Z4 ae aa;omega
  .exact h
 obtain⟨kk,hkk⟩:=nmQ (aY p-1);obtain⟨mk,hmk⟩:=nmQ (more-kk);have e1:((aY p:Nat):Int)-1=(kk:Int):=aa;have e2:(more:Int)-(kk:Int)=(mk:Int):=aa;have hcv:IntKind.wrap .u64 (p:Int)=(p:Int):=Nj aa aa;have lb:=Qj (n:=p) aa;have pw:=Bz hm;have pw2:=Bz (n:=mk) aa;have b1:=(zW hm).2
 have b2:=(zW (n:=mk) aa).2;have ad:=ut (a:=2^more) (b:=2^more) aa aa;have op:=N7 (n:=p) aa;have ok:=N7 (n:=kk) aa;have np:ndg p<=6:=cN aa ae;have nk:ndg kk<=2:=cN aa ae;have ml:=wC (a:=p) (b:=2^mk) aa aa;have b3:ndg (2^more+2^more)<=2000+1:=vr b1 b1
 have hlt:p*2^mk<2^more+2^more:=by
  have h1:p*2^mk<2^aY p*2^mk:=(Nat.mul_lt_mul_right (Yj ae)).2 hpk;rw[<-Y6,show aY p+mk=more+1 by omega,Nat.pow_succ]at h1;omega
 have hu:2<=2^more:=by
  have:2^1<=2^more:=Z4 ae aa;omega
 have eF:AO p n more=dgF (2^more) (2^more+2^more) n (p*2^mk) (p*2^mk) kk:=by
  unfold AO;rw[<-hkk,<-hmk]
 rw[eF];generalize 2^more=unit at *;generalize 2^mk=pm at *;generalize p*pm=low at *;simp[size_digits,hcv];refine cd lb ?_;simp(disch:=try exact ag)[e1];refine cd pw ?_;simp;refine cd ad ?_;simp(disch:=try exact ag)[e2];refine cd pw2 ?_;simp;refine cd op ?_;simp;refine cd ml ?_;simp;refine cd ok ?_;simp
 refine lo (CF hu rfl (W:=2001) b3 aa (N:=n) aa _ n 0 low low kk aa (Z7 _) hlt aa (fun v hv _=>?_) (fun hv=>?_))
 .rw[hv];simp;exact RF v _
 .rw[hv];simp;exact RG _
def CU(p n:Nat):Option Nat:=if p=2 then some (2^n)else AO p n (n+64)
theorem ad4{p:Nat}(hp:2<=p)(hp2:p<1000000)(hn:n<=3900)(hv:CU p n=some v):CP Y F.sW [I p,I n] (S (ai v)):=by
 refine NH ?_;unfold CU at hv;by_cases h2:p=2
 .rw[if_pos h2]at hv;simp only[Z9]at hv;have e:((p:Int)=2):=aa;have pw:=Bz (n:=n) aa;rw[hv]at pw;simp[sW,e];refine cd pw ?_;simp;exact fD rfl
 .rw[if_neg h2]at hv;have e:¬((p:Int)=2):=aa;have dg:=OC (p:=p) (n:=n) (more:=n+64) hp hp2 aa aa aa;rw[hv]at dg;obtain⟨m,hm⟩:=nmQ (n+64);rw[<-hm]at dg;have e3:(n:Int)+64=(m:Int):=aa;simp(disch:=try exact ag)[sW,e,e3];refine lo (aj ?_);simp[Cq];refine cd dg ?_;simp[dgV];exact fD rfl
theorem adw{low:Nat}(hu:0<u)(h:low*E<=P*u):low*low/u*(E*E)<=P*P*u:=by
 have h1:low*E*(low*E)<=P*u*(P*u):=Zn h h;have h2:low*low/u*u<=low*low:=Ws _ _
 have h3:low*low/u*(E*E)*u<=P*P*u*u:=by
  calc low*low/u*(E*E)*u=low*low/u*u*(E*E):=by ac_rfl
   _<=low*low*(E*E):=Zz _ h2
   _=low*E*(low*E):=by ac_rfl
   _<=P*u*(P*u):=h1
   _=P*P*u*u:=by ac_rfl
 exact Xb h3 hu
theorem adx{high:Nat}(hu:0<u)(h:P*u<=high*E):P*P*u<=(high*high/u+1)*(E*E):=by
 have h1:P*u*(P*u)<=high*E*(high*E):=Zn h h
 have h2:high*high<=(high*high/u+1)*u:=by
  have:=Yf (high*high) u;have h3:=Y7 (high*high) hu;rw[Nat.add_mul,Zt (high*high/u) u];omega
 have h3:P*P*u*u<=(high*high/u+1)*(E*E)*u:=by
  calc P*P*u*u=P*u*(P*u):=by ac_rfl
   _<=high*E*(high*E):=h1
   _=high*high*(E*E):=by ac_rfl
   _<=(high*high/u+1)*u*(E*E):=Zz _ h2
   _=(high*high/u+1)*(E*E)*u:=by ac_rfl
 exact Xb h3 hu
theorem Us(out:Nat):2^out*2^out=2^(out+out):=(Y6 ..).symm
theorem BX{u:Nat}(hu:2<=u):∀(r low high out P v:Nat),u<=low->high<u+u->low*2^out<=P*u->P*u<=high*2^out->dgF u (u+u) r low high out=some v->2^v<=P^(2^r)∧P^(2^r)<2^(v+1)
 | 0,low,high,out,P,v,h1,h2,h3,h4,hv=>by
  simp only[dgF,Z9]at hv;subst hv;rw[Nat.pow_zero,Nat.pow_one];constructor
  .have:2^out*u<=P*u:=Zu (by simp_all[Zt,Zz]) h3;exact Xb this aa
  ·have h5:P*u<2^(out+1)*u:=by
    refine Zk h4 ?_;have:high*2^out<(u+u)*2^out:=Yb h2 (Yj ae);rw[Nat.pow_succ];have e:(u+u)*2^out=2^out*2*u:=by rw[<-Nat.two_mul];ac_rfl
    omega
   exact Nat.lt_of_mul_lt_mul_right h5
 | r+1,low,high,out,P,v,h1,h2,h3,h4,hv=>by
  have u0:0<u:=aa;have s1:=adw u0 h3;have s2:=adx u0 h4;rw[Us]at s1 s2;have l1:u<=low*low/u:=(W8 u0).2 (Zn h1 h1);have e:P^(2^(r+1))=(P*P)^(2^r):=by rw[Nat.pow_succ,Zt,Xc,Nat.pow_two]
  rw[e];simp only[dgF]at hv;by_cases c1:u+u<=low*low/u
  .have c1':Nat.ble (u+u) (low*low/u)=true:=W6 c1;rw[c1',cond_true]at hv
   have hh:high*high/u<=4*u-4:=by
    have h5:high*high<=(2*u-1)*(2*u-1):=Zn aa aa
    have h6:(2*u-1)*(2*u-1)<(4*u-3)*u:=by
     obtain⟨w,rfl⟩:∃w,u=w+2:=⟨u-2,aa⟩;have a1:2*(w+2)-1=2*w+3:=aa;have a2:4*(w+2)-3=4*w+5:=aa;rw[a1,a2]
     have e1:(2*w+3)*(2*w+3)=4*(w*w)+12*w+9:=by
      simp only[Nat.add_mul,Zq];have:2*w*(2*w)=2*2*(w*w):=Nat.mul_mul_mul_comm 2 w 2 w;omega
     have e2:(4*w+5)*(w+2)=4*(w*w)+13*w+10:=by
      simp only[Nat.add_mul,Zq];have:4*w*w=4*(w*w):=Nat.mul_assoc 4 w w;omega
     omega
    have:=(Xt u0).2 (Zk h5 h6);omega
   have q1:low*low/u/2*2<=low*low/u:=Ws _ _;refine BX hu r _ _ _ (P*P) v ?_ ?_ ?_ ?_ hv
   .omega
   .omega
   .rw[Nat.pow_succ]
    calc low*low/u/2*(2^(out+out)*2)=low*low/u/2*2*2^(out+out):=by ac_rfl
     _<=low*low/u*2^(out+out):=Zz _ q1
     _<=P*P*u:=s1
   .rw[Nat.pow_succ];have q2:high*high/u+1<=((high*high/u+1)/2+1)*2:=aa
    calc P*P*u<=(high*high/u+1)*2^(out+out):=s2
     _<=((high*high/u+1)/2+1)*2*2^(out+out):=Zz _ q2
     _=((high*high/u+1)/2+1)*(2^(out+out)*2):=by ac_rfl
  ·have c1':Nat.ble (u+u) (low*low/u)=false:=by
    cases h:Nat.ble (u+u) (low*low/u)
    .rfl
    .simp_all[Wm]
   rw[c1',cond_false]at hv;by_cases c2:u+u<=high*high/u+1
   .grind[W6]
   ·have c2':Nat.ble (u+u) (high*high/u+1)=false:=by
     cases h:Nat.ble (u+u) (high*high/u+1)
     .rfl
     .grind
    rw[c2',cond_false]at hv;exact BX hu r _ _ _ (P*P) v l1 aa s1 s2 hv
theorem OD{p:Nat}(h0:0<p)(hm:aY p-1<=more)(hm1:1<=more)(hv:AO p n more=some v):2^v<=p^(2^n)∧p^(2^n)<2^(v+1):=by
 obtain⟨b1,b2,b3⟩:=pD h0;unfold AO at hv;have hpw:2^(more-(aY p-1))*2^(aY p-1)=2^more:=by rw[<-Y6];congr 1;omega
 have u2:2<=2^more:=by
  have:=Z4 (n:=2) ae hm1;simpa using this
 refine BX u2 n _ _ _ p v ?_ ?_ (Nat.le_of_eq ?_) (Nat.le_of_eq ?_) hv
 .rw[<-hpw,Zt];exact Zz _ b1
 .have h2:p*2^(more-(aY p-1))<2^aY p*2^(more-(aY p-1)):=Yb b2 (Yj ae);have h3:2^aY p=2*2^(aY p-1):=by rw[Zt,<-Nat.pow_succ];congr 1;omega
  rw[h3]at h2;have e:2*2^(aY p-1)*2^(more-(aY p-1))=2*2^more:=by rw[<-hpw];ac_rfl
  omega
 .grind
 grind
theorem Oh{p:Nat}(h0:0<p)(h2:p≠2)(hm:aY p-1<=n+64)(hv:CU p n=some v):2^v<=p^(2^n)∧p^(2^n)<2^(v+1):=by unfold CU at hv;rw[if_neg h2]at hv;exact OD h0 hm aa hv
abbrev Q:=Int×Nat
def okQ(x:Q):Prop:=0<x.2∧Nat.gcd x.1.natAbs x.2=1
def qT(x:Q):LwQ:=[S (itoa x.1),S (ai x.2)]
def gU(n:Int)(d:Nat):Q:=(n/(Nat.gcd n.natAbs d:Nat),d/Nat.gcd n.natAbs d)
def vm(a b:Q):Q:=gU (a.1*b.2+b.1*a.2) (a.2*b.2)
def tX(a b:Q):Q:=gU (a.1*b.1) (a.2*b.2)
def vW(n d:Int):Q:=if d<0 then gU (-n) d.natAbs else gU n d.natAbs
def ah6(a b:Q):Q:=vW (a.1*b.2) (a.2*b.1)
theorem XN{n:Int}(h:g∣n.natAbs):(g:Int)∣n:=Int.natAbs_dvd_natAbs.1 (by simpa using h)
theorem DC(n:Int)(hd:0<d):okQ (gU n d):=by
 have hg:0<Nat.gcd n.natAbs d:=Ww _ hd;obtain⟨g,hgg⟩:=nmQ (Nat.gcd n.natAbs d);have h1:g∣n.natAbs:=by rw[hgg];exact Wi ..
 have h2:g∣d:=by rw[hgg];exact Nat.gcd_dvd_right ..
 unfold gU;rw[<-hgg]at hg ⊢;refine⟨V4 (Wv hd h2) hg,?_⟩
 have e:(n/(g:Int)).natAbs=n.natAbs/g:=by
  rw[Int.natAbs_ediv_of_dvd (XN h1),Int.natAbs_natCast]
 simp only[e];rw[Nat.gcd_div h1 h2,<-hgg,Nat.div_self hg]
theorem Vb{n:Int}(h:Nat.gcd n.natAbs d=1):gU n d=(n,d):=by unfold gU;rw[h];simp
theorem Qd(n:Int)(d:Nat):(gU n d).1.natAbs<=n.natAbs∧(gU n d).2<=d:=by
 obtain⟨g,hgg⟩:=nmQ (Nat.gcd n.natAbs d);have h1:g∣n.natAbs:=by rw[hgg];exact Wi ..
 unfold gU;rw[<-hgg];constructor
 .simp only;rw[Int.natAbs_ediv_of_dvd (XN h1),Int.natAbs_natCast];exact Yu ..
 .exact Yu ..
theorem aaE(k:KL)(h:Hp)(h0:Hp)(hl:h.length=h0.length):∀(m:Nat)(a b:Int),b.natAbs<=m->a.natAbs<9223372036854775807->b.natAbs<9223372036854775807 ->
  (∀c:Int,c.natAbs=Nat.gcd a.natAbs b.natAbs->k (.exit 0) [I c] h)->lp (m9 (CX Y)) [] h0 [I a,I b] h k:=by
 intro m
 induction m with
 | zero=>
  intro a b hb ha hb2 hk;have hb0:b=0:=aa;subst hb0;refine aj ?_;simp[m9];exact hk a af
 | succ m ih=>
  intro a b hb ha hb2 hk;refine aj ?_;by_cases hb0:b=0
  .subst hb0;simp[m9];exact hk a af
  ·have hr:(a.tmod b).natAbs<b.natAbs:=by
    rw[Int.natAbs_tmod];exact Y7 _ aa
   have e:Nat.gcd b.natAbs (a.tmod b).natAbs=Nat.gcd a.natAbs b.natAbs:=by
    rw[Int.natAbs_tmod,V5,<-Nat.gcd_rec,V5]
   simp[m9,hb0,hl];exact ih b (a.tmod b) aa aa aa (fun c hc=>hk c (hc.trans e))
theorem kX{a b a' b':LuQ}(e1:a'=a)(e2:b'=b):out (.agg [S a,S b]) (.agg [S a',S b']) h:=by subst e1;subst e2;exact⟨h,by simp[bJ,aS,norm]⟩
theorem Qt{n:Int}(hd:0<d)(hn:n.natAbs<9223372036854775807)(hd2:d<9223372036854775807):CP Y F.je [I n,I d] (.agg (qT (gU n d))):=by
 refine Gv ?_;obtain⟨g,hgg⟩:=nmQ (Nat.gcd n.natAbs d);have hg:0<g:=by rw[hgg];exact Ww _ hd
 have h1:g∣n.natAbs:=by rw[hgg];exact Wi ..
 have h2:g∣d:=by rw[hgg];exact Nat.gcd_dvd_right ..
 have hgd:g<=d:=Wv hd h2;have e1:n.tdiv (g:Int)=n/(g:Int):=Int.tdiv_eq_ediv_of_dvd (XN h1);have e2:(d:Int).tdiv (g:Int)=((d/g:Nat):Int):=by rw[Zs aa,<-Int.natCast_ediv]
 have e3:(n/(g:Int)).natAbs<=n.natAbs:=by
  rw[Int.natAbs_ediv_of_dvd (XN h1),Int.natAbs_natCast];exact Yu ..
 have e4:d/g<=d:=Yu ..;have eq:qT (gU n d)=[S (itoa (n/(g:Int))),S (ai (d/g))]:=by unfold qT gU;rw[<-hgg]
 rw[eq];generalize n/(g:Int)=nq at *;generalize d/g=dq at *;have i1:=DG (z:=nq) aa aa;have i2:=DG (z:=(dq:Int)) aa aa;rw[mz]at i2;have hg0:¬(g:Int)=0:=aa;simp[je];refine lo (aaE _ _ _ rfl (d:Int).natAbs n d (Z7 _) hn aa (fun c hc=>?_));rw[Int.natAbs_natCast,<-hgg]at hc;simp
 have tail:∀u:Unit,bnd (biI .quo (I n) (I g)) fun v6=>
   cal (CX Y).p [(1,.vars [.d (.str []),.d (.str [])])] (.fn F.strconv_Itoa [] []) [v6] fun v7 h=>
   bnd (biI .quo (I d) (I g)) fun v8=>
   cal (CX Y).p h (.fn F.strconv_Itoa [] []) [v8] fun v9 h=>
   bnd (bld [(0,1),(1,1)] [.str [],.str []] [(0,v7),(1,v9)]) fun v10=>
   stD h 2 (.ptr 0 1 0 2) v10 fun _ h=>
   bnd (ldA h 2 (.ptr 0 1 0 2)) fun v12=>
   out (.agg [S (itoa nq),S (ai dq)]) v12 h:=by
  intro _;simp(disch:=try exact ag)[e1,e2,hg0];refine cd i1 ?_;simp(disch:=try exact ag)[e2,hg0];refine cd i2 ?_;simp;exact kX rfl rfl
 by_cases hc0:c<0
 .have hcg : -c=(g:Int):=aa;refine jD (l:=[I g]) (h:=[(1,.vars [.d (.str []),.d (.str [])])]) (fun q=>by simp(disch:=try exact ag)[hc0,hcg]) ?_;exact tail ()
 .have hcg:c=(g:Int):=aa;subst hcg;refine jD (l:=[I g]) (h:=[(1,.vars [.d (.str []),.d (.str [])])]) (fun q=>by simp[hc0]) ?_;exact tail ()
def qL(K:Nat)(x:Q):Prop:=ndg x.1.natAbs<=K∧ndg x.2<=K
theorem Vd{n:Int}{K:Nat}(h1:ndg n.natAbs<=K)(h2:ndg d<=K):qL K (gU n d):=
 ⟨Zu (dM (Qd n d).1) h1,Zu (dM (Qd n d).2) h2⟩
theorem qL.mono{K:Nat}{x:Q}(h:qL K x)(hl:K<=L):qL L x:=⟨Zu h.1 hl,Zu h.2 hl⟩
theorem xj(hz:ndg z.natAbs<=k)(hw:ndg w.natAbs<=k):ndg (z+w).natAbs<=k+1:=
 Zu (dM (Int.natAbs_add_le z w)) (vr hz hw)
theorem lS:ndg (z*w).natAbs<=ndg z.natAbs+ndg w.natAbs:=by rw[Y2];exact om
theorem adL{a b:Q}{K:Nat}(ha:qL K a)(hb:qL L b):qL (K+L+1) (vm a b):=by
 refine Vd (xj ?_ ?_) ?_
 .have:=lS (z:=a.1) (w:=(b.2:Int));rw[Int.natAbs_natCast]at this;have:=ha.1;have:=hb.2;omega
 .have:=lS (z:=b.1) (w:=(a.2:Int));rw[Int.natAbs_natCast]at this;have:=hb.1;have:=ha.2;omega
 .have:=om (a:=a.2) (b:=b.2);have:=ha.2;have:=hb.2;omega
theorem Ul{a b:Q}{K:Nat}(ha:qL K a)(hb:qL L b):qL (K+L) (tX a b):=by
 refine Vd ?_ ?_
 .have:=lS (z:=a.1) (w:=b.1);have:=ha.1;have:=hb.1;omega
 .have:=om (a:=a.2) (b:=b.2);have:=ha.2;have:=hb.2;omega
theorem aal{a b:Q}(ha:okQ a)(hb:okQ b):okQ (vm a b):=DC _ (Yx ha.1 hb.1)
theorem PM{a b:Q}(ha:okQ a)(hb:okQ b):okQ (tX a b):=DC _ (Yx ha.1 hb.1)
theorem HD{n d:Int}(hd:d≠0)(hn:ndg n.natAbs<800000)(hd2:ndg d.natAbs<800000):CP Y F.bU [S (itoa n),S (itoa d)] (.agg (qT (vW n d))):=by
 refine Ay ?_;have sg0:=qH d
 have tail:∀(n:Int)(d:Nat),0<d->ndg n.natAbs<800000->ndg d<800000 ->
   cal (CX Y).p [(1,.vars [.d (.str []),.d (.str [])])] (.fn F.oU [] []) [S (itoa n),S (ai d)] fun v6 h=>
  bnd (biS .neq v6 (.d (.str [49]))) fun v7=>
  jn (fun l8 h=>
   bnd (bld [(0,1),(1,1)] [.str [],.str []] [(0,(ge l8 0)),(1,(ge l8 1))]) fun v10=>
   stD h 2 (.ptr 0 1 0 2) v10 fun _ h=>
   bnd (ldA h 2 (.ptr 0 1 0 2)) fun v12=>
   out (.agg (qT (gU n d))) v12 h) fun q9=>
   cnd v7 (
    cal (CX Y).p h (.fn F.cC [] []) [S (itoa n),v6] fun v13 h=>
    ext v13 0 fun v14=>
    ext v13 1 fun v15=>
    ext v13 2 fun v16=>
    cal (CX Y).p h (.fn F.cC [] []) [S (ai d),v6] fun v17 h=>
    ext v17 0 fun v18=>
    ext v17 1 fun v19=>
    ext v17 2 fun v20=>
    q9 [v14,v18] h) (
    q9 [S (itoa n),S (ai d)] h):=by
  intro n d hd hn hd2;have gc:=Qq (z:=n) (w:=(d:Int)) aa (by simpa using Nat.lt_trans hd2 ae);rw[mz,Int.natAbs_natCast]at gc;obtain⟨g,hgg⟩:=nmQ (Nat.gcd n.natAbs d);have hg:0<g:=by rw[hgg];exact Ww _ hd
  have hgd:g<=d:=Wv hd (by rw[hgg];exact Nat.gcd_dvd_right ..);have eq:gU n d=(n/(g:Int),d/g):=by unfold gU;rw[<-hgg]
  rw[<-hgg]at gc;rw[eq];have ng:ndg g<900000:=Zk (dM hgd) aa;have d1:=D4 (z:=n) hg aa ng;have d2:=uq (a:=d) hg aa ng;simp;refine cd gc ?_;by_cases h1:g=1
  .subst h1;rw[fY];simp;refine jD (l:=[S (itoa n),S (ai d)]) (h:=[(1,.vars [.d (.str []),.d (.str [])])]) (fun q=>by simp) ?_;simp;refine kX af af
  .have h49:¬ai g=[49]:=fun h=>h1 (sE (h.trans fY.symm))
   simp[h49];refine aT ?_;simp[h49];refine cd d1 ?_;simp;refine cd d2 ?_;simp;exact kX rfl rfl
 simp[bU];refine cd sg0 ?_;by_cases hneg:d<0
 .have s1:sgn d = -1:=by unfold sgn;rw[if_neg hd,if_pos hneg]
  rw[s1];have hd3:ndg (-d).natAbs<800000:=by rw[Int.natAbs_neg];exact hd2
  have n1:=P3 (z:=n) aa;have n2:=P3 (z:=d) aa;have e:vW n d=gU (-n) d.natAbs:=if_pos hneg;have ed:itoa (-d)=ai d.natAbs:=by rw[show -d=((d.natAbs:Nat):Int) by omega,mz]
  rw[e];rw[ed]at n2;simp;refine aT ?_;simp;refine cd n1 ?_;simp;refine cd n2 ?_;have:=tail (-n) d.natAbs aa (by rw[Int.natAbs_neg];exact hn) hd2;simpa using this
 .have s1:sgn d=1:=by unfold sgn;rw[if_neg hd,if_neg hneg]
  rw[s1];have e:vW n d=gU n d.natAbs:=if_neg hneg;have ed:itoa d=ai d.natAbs:=by conv=>lhs;rw[show d=((d.natAbs:Nat):Int) by omega,mz]
  rw[e,ed];simp;refine aT ?_;simp;have:=tail n d.natAbs aa hn hd2;simpa using this
theorem AU(a:Q):CP Y F.eQ [.agg (qT a)] (.tup [I (if sdg a.1<=9 then a.1 else 0),I (if ndg a.2<=9 then a.2 else 0),B (decide (sdg a.1<=9)&&decide (ndg a.2<=9))]):=by
 refine CY ?_;have l1:=E0 a.1;have l2:=E0 (a.2:Int);have e:sdg (a.2:Int)=ndg a.2:=by unfold sdg;rw[if_neg aa,Int.natAbs_natCast];rfl
 rw[mz,e]at l2;simp[eQ,qT];refine cd l1 ?_;by_cases h1:sdg a.1<=9
 .rw[if_pos h1,if_pos h1,decide_eq_true h1];simp;refine cd l2 ?_;by_cases h2:ndg a.2<=9
  .rw[if_pos h2,if_pos h2,decide_eq_true h2];simp;exact jY rfl rfl rfl
  .rw[if_neg h2,if_neg h2,decide_eq_false h2];simp;exact jY rfl rfl rfl
 .rw[if_neg h1,if_neg h1,decide_eq_false h1];simp;refine cd l2 ?_;by_cases h2:ndg a.2<=9
  .rw[if_pos h2,if_pos h2,decide_eq_true h2];simp;exact jY rfl rfl rfl
  .rw[if_neg h2,if_neg h2,decide_eq_false h2];simp;exact jY rfl rfl rfl
theorem Qe{n:Int}(hd:0<d)(hn:ndg n.natAbs<800000)(hd2:ndg d<800000):CP Y F.bU [S (itoa n),S (ai d)] (.agg (qT (gU n d))):=by have:=HD (n:=n) (d:=(d:Int)) aa hn (by trivial);trivial
theorem G0(hz:ndg z.natAbs<400000)(hb:ndg b<400000):CP Y F.bq [S (itoa z),S (ai b)] (S (itoa (z*b))):=by grind[wA,mz]
theorem ID(h:Hp)(s t:LuQ):aS h [.agg [S s,S t]]=some ([.agg [S s,S t]],h):=by rfl
theorem IF{a:Q}(h1:sdg a.1<=9)(h2:ndg a.2<=9):a.1.natAbs<1000000000∧a.2<1000000000:=
 ⟨xI h1,Z1 (cY _) (Z4 ae h2)⟩
theorem Mg{a b:Q}(ha:okQ a)(hb:okQ b)(la:qL 100000 a)(lb:qL 100000 b):CP Y F.j9 [.agg (qT a),.agg (qT b)] (.agg (qT (tX a b))):=by
 refine Fl ?_;obtain⟨la1,la2⟩:=la;obtain⟨lb1,lb2⟩:=lb;have b1:=AU a;have b2:=AU b;have m1:=wA (z:=a.1) (w:=b.1) aa aa;have m2:=wC (a:=a.2) (b:=b.2) aa aa;have n1:=lS (z:=a.1) (w:=b.1);have n2:=om (a:=a.2) (b:=b.2);have hd:0<a.2*b.2:=Yx ha.1 hb.1
 have lw:CP Y F.bU [S (itoa (a.1*b.1)),S (ai (a.2*b.2))] (.agg (qT (tX a b))):=Qe (n:=a.1*b.1) hd aa aa;have ff:(a.1*b.1).natAbs<9223372036854775807->a.2*b.2<9223372036854775807->CP Y F.je [I (a.1*b.1),I (a.2*b.2:Nat)] (.agg (qT (tX a b))):=fun h1 h2=>Qt hd h1 h2
 obtain⟨x,y,hxy⟩:∃x y,qT (tX a b)=[S x,S y]:=⟨_,_,rfl⟩;rw[hxy]at lw ff ⊢;simp only[qT]at b1 b2 ⊢
 have tail:∀u:Unit,cal (CX Y).p [(1,.vars [S (itoa a.1),S (ai a.2)]),(1,.vars [S (itoa b.1),S (ai b.2)]),(1,.vars [.d (.str []),.d (.str [])])] (.fn F.bq [] []) [S (itoa a.1),S (itoa b.1)] fun v15 h=>
  bnd (faV 1 (.ptr 0 1 0 2)) fun v16=>
  bnd (ld1 h v16) fun v17=>
  bnd (faV 1 (.ptr 1 1 0 2)) fun v18=>
  bnd (ld1 h v18) fun v19=>
  cal (CX Y).p h (.fn F.bq [] []) [v17,v19] fun v20 h=>
  cal (CX Y).p h (.fn F.bU [] []) [v15,v20] fun v21 h=>
  stD h 2 (.ptr 2 1 0 2) v21 fun _ h=>
  bnd (ldA h 2 (.ptr 2 1 0 2)) fun v23=>
  out (.agg [S x,S y]) v23 h:=by
  intro _;simp;refine cd m1 ?_;simp;refine cd m2 ?_;simp;refine cd lw ?_;simp;exact kX rfl rfl
 simp[j9];refine cd b1 ?_ (ID ..);cases g1:decide (sdg a.1<=9)&&decide (ndg a.2<=9)with
 | false=>
  simp;refine aT ?_;simp
  simp_all
 | true=>
  simp only[Z8,decide_eq_true_eq]at g1;obtain⟨s1,s2⟩:=IF g1.1 g1.2;rw[if_pos g1.1,if_pos g1.2];simp;refine aT ?_;simp;refine cd b2 ?_ (ID ..);cases g2:decide (sdg b.1<=9)&&decide (ndg b.2<=9)with
  | false=>
   simp
   simp_all
  | true=>
   simp only[Z8,decide_eq_true_eq]at g2;obtain⟨s3,s4⟩:=IF g2.1 g2.2;rw[if_pos g2.1,if_pos g2.2];have p1:(a.1*b.1).natAbs<1000000000*1000000000:=by rw[Y2];exact Yn s1 s3
   have p2:a.2*b.2<1000000000*1000000000:=Yn s2 s4;have e2:(a.2:Int)*(b.2:Int)=((a.2*b.2:Nat):Int):=af;have ff:=ff aa aa;obtain⟨N,hN⟩:=mnQ (a.1*b.1);rw[hN]at p1 ff;generalize a.2*b.2=D at *;simp(disch:=try exact ag)[e2,hN];refine cd ff ?_;simp;simp[kX]
theorem Mh{a b:Q}(ha:okQ a)(hb:okQ b)(la:qL 100000 a)(lb:qL 100000 b):CP Y F.fS [.agg (qT a),.agg (qT b)] (.agg (qT (vm a b))):=by
 refine Fp ?_;obtain⟨la1,la2⟩:=la;obtain⟨lb1,lb2⟩:=lb;have b1:=AU a;have b2:=AU b;have m1:=G0 (z:=a.1) (b:=b.2) aa aa;have m2:=G0 (z:=b.1) (b:=a.2) aa aa;have m3:=wC (a:=a.2) (b:=b.2) aa aa;have n1:=lS (z:=a.1) (w:=(b.2:Int));have n2:=lS (z:=b.1) (w:=(a.2:Int))
 have n3:=om (a:=a.2) (b:=b.2);rw[Int.natAbs_natCast]at n1 n2;have n4:ndg (a.1*b.2+b.1*a.2).natAbs<=200000+1:=xj aa aa;have ad:=zB (z:=a.1*b.2) (w:=b.1*a.2) aa aa;have hd:0<a.2*b.2:=Yx ha.1 hb.1
 have lw:CP Y F.bU [S (itoa (a.1*b.2+b.1*a.2)),S (ai (a.2*b.2))] (.agg (qT (vm a b))):=Qe hd aa aa;have ff:(a.1*b.2+b.1*a.2).natAbs<9223372036854775807->a.2*b.2<9223372036854775807->CP Y F.je [I (a.1*b.2+b.1*a.2),I (a.2*b.2:Nat)] (.agg (qT (vm a b))):=fun h1 h2=>Qt hd h1 h2
 by_cases one:a.2=1∧b.2=1
 .have ad1:=zB (z:=a.1) (w:=b.1) aa aa
  have eq:vm a b=(a.1+b.1,1):=by
   unfold vm;rw[one.1,one.2];rw[Vb af];simp
  rw[eq];have t1:qT a=[S (itoa a.1),S [49]]:=by unfold qT;rw[one.1,fY]
  have t2:qT b=[S (itoa b.1),S [49]]:=by unfold qT;rw[one.2,fY]
  have t3:qT (a.1+b.1,1)=[S (itoa (a.1+b.1)),S [49]]:=by unfold qT;rw[fY]
  rw[t1,t2,t3];simp[fS];refine cd ad1 ?_;simp;simp[kX]
 obtain⟨x,y,hxy⟩:∃x y,qT (vm a b)=[S x,S y]:=⟨_,_,rfl⟩;rw[hxy]at lw ff ⊢;simp only[qT]at b1 b2 ⊢
 have tail:∀u:Unit,cal (CX Y).p [(1,.vars [S (itoa a.1),S (ai a.2)]),(1,.vars [S (itoa b.1),S (ai b.2)]),(1,.vars [.d (.str []),.d (.str [])])] (.fn F.bq [] []) [S (itoa a.1),S (ai b.2)] fun v30 h=>
   bnd (faV 0 (.ptr 1 1 0 2)) fun v31=>
   bnd (ld1 h v31) fun v32=>
   bnd (faV 1 (.ptr 0 1 0 2)) fun v33=>
   bnd (ld1 h v33) fun v34=>
   cal (CX Y).p h (.fn F.bq [] []) [v32,v34] fun v35 h=>
   cal (CX Y).p h (.fn F.dp [] []) [v30,v35] fun v36 h=>
   bnd (faV 1 (.ptr 0 1 0 2)) fun v37=>
   bnd (ld1 h v37) fun v38=>
   bnd (faV 1 (.ptr 1 1 0 2)) fun v39=>
   bnd (ld1 h v39) fun v40=>
   cal (CX Y).p h (.fn F.bq [] []) [v38,v40] fun v41 h=>
   cal (CX Y).p h (.fn F.bU [] []) [v36,v41] fun v42 h=>
   stD h 2 (.ptr 2 1 0 2) v42 fun _ h=>
   bnd (ldA h 2 (.ptr 2 1 0 2)) fun v44=>
   out (.agg [S x,S y]) v44 h:=by
  intro _;simp;refine cd m1 ?_;simp;refine cd m2 ?_;simp;refine cd ad ?_;simp;refine cd m3 ?_;simp;refine cd lw ?_;simp;exact kX rfl rfl
 have hne:¬(ai a.2=[49]∧ai b.2=[49]):=fun h=>one ⟨sE (h.1.trans fY.symm),sE (h.2.trans fY.symm)⟩
 have walk:∀u:Unit,bnd (ldA [(1,.vars [S (itoa a.1),S (ai a.2)]),(1,.vars [S (itoa b.1),S (ai b.2)]),(1,.vars [.d (.str []),.d (.str [])])] 2 (.ptr 0 1 0 2)) fun v19=>
  cal (CX Y).p [(1,.vars [S (itoa a.1),S (ai a.2)]),(1,.vars [S (itoa b.1),S (ai b.2)]),(1,.vars [.d (.str []),.d (.str [])])] (.fn F.eQ [] []) [v19] fun v20 h=>
  ext v20 0 fun v21=>
  ext v20 1 fun v22=>
  ext v20 2 fun v23=>
  jn (fun l24 h=>
   bnd (faV 0 (.ptr 0 1 0 2)) fun v26=>
   bnd (ld1 h v26) fun v27=>
   bnd (faV 1 (.ptr 1 1 0 2)) fun v28=>
   bnd (ld1 h v28) fun v29=>
   cal (CX Y).p h (.fn F.bq [] []) [v27,v29] fun v30 h=>
   bnd (faV 0 (.ptr 1 1 0 2)) fun v31=>
   bnd (ld1 h v31) fun v32=>
   bnd (faV 1 (.ptr 0 1 0 2)) fun v33=>
   bnd (ld1 h v33) fun v34=>
   cal (CX Y).p h (.fn F.bq [] []) [v32,v34] fun v35 h=>
   cal (CX Y).p h (.fn F.dp [] []) [v30,v35] fun v36 h=>
   bnd (faV 1 (.ptr 0 1 0 2)) fun v37=>
   bnd (ld1 h v37) fun v38=>
   bnd (faV 1 (.ptr 1 1 0 2)) fun v39=>
   bnd (ld1 h v39) fun v40=>
   cal (CX Y).p h (.fn F.bq [] []) [v38,v40] fun v41 h=>
   cal (CX Y).p h (.fn F.bU [] []) [v36,v41] fun v42 h=>
   stD h 2 (.ptr 2 1 0 2) v42 fun _ h=>
   bnd (ldA h 2 (.ptr 2 1 0 2)) fun v44=>
   out (.agg [S x,S y]) v44 h) fun q25=>
   cnd v23 (
    bnd (ldA h 2 (.ptr 1 1 0 2)) fun v45=>
    cal (CX Y).p h (.fn F.eQ [] []) [v45] fun v46 h=>
    ext v46 0 fun v47=>
    ext v46 1 fun v48=>
    ext v46 2 fun v49=>
    cnd v49 (
     bnd (biI .mul v21 v48) fun v50=>
     bnd (biI .mul v47 v22) fun v51=>
     bnd (biI .add v50 v51) fun v52=>
     bnd (biI .mul v22 v48) fun v53=>
     cal (CX Y).p h (.fn F.je [] []) [v52,v53] fun v54 h=>
     stD h 2 (.ptr 2 1 0 2) v54 fun _ h=>
     bnd (ldA h 2 (.ptr 2 1 0 2)) fun v56=>
     out (.agg [S x,S y]) v56 h) (
     q25 [] h)) (
    q25 [] h):=by
  intro _;simp;refine cd b1 ?_ (ID ..);cases g1:decide (sdg a.1<=9)&&decide (ndg a.2<=9)with
  | false=>
   simp;refine aT ?_;simp
   simp_all
  | true=>
   simp only[Z8,decide_eq_true_eq]at g1;obtain⟨s1,s2⟩:=IF g1.1 g1.2;rw[if_pos g1.1,if_pos g1.2];simp;refine aT ?_;simp;refine cd b2 ?_ (ID ..);cases g2:decide (sdg b.1<=9)&&decide (ndg b.2<=9)with
   | false=>
    simp
    simp_all
   | true=>
    simp only[Z8,decide_eq_true_eq]at g2;obtain⟨s3,s4⟩:=IF g2.1 g2.2;rw[if_pos g2.1,if_pos g2.2];have p1:(a.1*b.2).natAbs<1000000000*1000000000:=by rw[Y2,Int.natAbs_natCast];exact Yn s1 s4
    have p3:(b.1*a.2).natAbs<1000000000*1000000000:=by rw[Y2,Int.natAbs_natCast];exact Yn s3 s2
    have p2:a.2*b.2<1000000000*1000000000:=Yn s2 s4;have e2:(a.2:Int)*(b.2:Int)=((a.2*b.2:Nat):Int):=af;have ff:=ff aa aa;obtain⟨N,hN⟩:∃N,a.1*(b.2:Int)=N:=⟨_,rfl⟩;obtain⟨M,hM⟩:∃M,b.1*(a.2:Int)=M:=⟨_,rfl⟩;rw[hN]at p1 ff;rw[hM]at p3 ff;generalize a.2*b.2=D at *;simp(disch:=try exact ag)[e2,hN,hM];refine cd ff ?_;simp
    simp[kX]
 by_cases c1:ai a.2=[49]
 .have c2:¬ai b.2=[49]:=fun h=>hne ⟨c1,h⟩
  simp[fS,c1,c2]
  simp_all
 .simp[fS,c1]
  simp_all
theorem Sb(a:Q):CP Y F.mH [.agg (qT a)] (I (sgn a.1)):=by refine CZ ?_;simp[mH,qT];refine cd (qH a.1) ?_;exact cx rfl
theorem Tw(z:Int):sgn z=0↔z=0:=by
 unfold sgn;constructor
 .intro h;split at h
  .assumption
  .split at h<;>omega
 .intro h;rw[if_pos h]
theorem Lr{a b:LuQ}:out (.tup [.agg [S a,S b],I c]) (.tup [.agg [S a,S b],I c]) h:=⟨h,by simp[bJ,aS,norm]⟩
theorem VU{n d:Int}(hd:d≠0)(hn:ndg n.natAbs<800000)(hd2:ndg d.natAbs<800000):CP Y F.nI [S (itoa n),S (itoa d)] (.tup [.agg (qT (vW n d)),I 0]):=by
 refine Fj ?_;have sg0:=qH d;have hs:¬sgn d=0:=fun h=>hd ((Tw _).1 h)
 have lw:=HD hd hn hd2;obtain⟨x,y,hxy⟩:∃x y,qT (vW n d)=[S x,S y]:=⟨_,_,rfl⟩;rw[hxy]at lw ⊢;generalize sgn d=sb at *;simp[nI];refine cd sg0 ?_;simp[hs];refine cd lw ?_;simp;exact Lr
theorem Jf(h1 : -9223372036854775808<z)(h2:z<9223372036854775808):ndg z.natAbs<=19:=cN aa ae
theorem Mf{n d:Int}(hd:d≠0)(h1 : -9223372036854775808<n)(h2:n<9223372036854775808)(h3 : -9223372036854775808<d)(h4:d<9223372036854775808):CP Y F.j8 [I n,I d] (.tup [.agg (qT (vW n d)),I 0]):=by refine Gw ?_;have nw:=VU (n:=n) hd (Zk (Jf h1 h2) ae) (Zk (Jf h3 h4) ae);obtain⟨x,y,hxy⟩:∃x y,qT (vW n d)=[S x,S y]:=⟨_,_,rfl⟩;rw[hxy]at nw ⊢;simp[j8];refine cd (tc h1 h2) ?_;simp;refine cd (tc h3 h4) ?_;simp;refine cd nw ?_;simp;exact Lr
@[simp] theorem ae8 (f:α->D)(l:List α)(place:Nat->Option (Nat×Nat))(cs:LwQ)(r:List (Nat×V))(off sz:Nat):
  Mm (some (off,sz)) place cs (lst f l) r=if 1=sz∧off+1<=cs.length then tS place (cs.take off++[lst f l]++cs.drop (off+1)) r else none:=id rfl
theorem abZ(s:LuQ):CP Y F.ij [S s] (S (rdT s)):=by refine Cl ?_;simp[ij];refine cd (wK s) ?_;simp<;>exact fD rfl
theorem Hg(a b:LuQ)(ha:a.length<1000000000)(hb:b.length<1000000000):CP Y F.mU [.agg [S a,S b]] (B (wP a&&decide (b.length<=30))):=by
 refine II ?_;simp[mU];refine cd (abZ a) ?_;have hl:(rdT a).length<=a.length:=by unfold rdT;split<;>simp
 by_cases h1:(rdT a).length<=30
 .have h1':((rdT a).length:Int)<=30:=aa;by_cases h2:b.length<=30
  .have h2':(b.length:Int)<=30:=aa;simp[h1',h2']<;>exact nN (by grind[wP])
  .have h2':¬(b.length:Int)<=30:=aa;simp[h1',h2']<;>exact nN (by grind)
 .have h1':¬((rdT a).length:Int)<=30:=aa;simp[h1']<;>exact nN (by simp[wP,h1])
def sz4(x:Tx):Bool:=wP x.1&&decide (x.2.length<=30)
def Eg:List Tx->Int
 |[]=>0
 |x::q=>cond (rdF x.1 x.2).isSome (cond (sz4 x) (Eg q) 4) 2
theorem Em{s:List Tx}(hN:s.length<1000000000)(hl:∀x∈s,x.1.length<1000000000∧x.2.length<1000000000)(k:KL):∀(q a:List Tx),a++q=s->(Eg q=0->k (.exit 0) [] [nnQ])->(Eg q≠0->∀h,k .ret [I (Eg q)] h) ->
  lp (qA (CX Y) (qm aK s) (I s.length)) [0] [nnQ] [I a.length] [nnQ] k
 | []=>by
  intro a ha h0 h1;simp at ha;subst ha;refine aj ?_;simp[qA];exact h0 rfl
 | x::q=>by
  intro a ha h0 h1;have hal:a.length<s.length:=by subst ha;simp
  have hx:nth ([],[]) s a.length=x:=by subst ha;simp
  have hxl:=hl x (by grind);have e1:=fun h:Hp=>ou aK bv s h (k:=.i64) (i:=(a.length:Int)) aa aa
  have e2:=fun h:Hp=>ot aK bv ([],[]) s h hal
  simp only[hx,Int.toNat_natCast]at e1 e2;have ih:=Em hN hl k q (a++[x]) (by grind);refine aj ?_;simp(disch:=try exact ag)[qA,e1,e2,aK];refine cd (Ca x.1 x.2 hxl.1 hxl.2) ?_;cases g3:(rdF x.1 x.2).isSome with
  | false=>
   simp only[Eg,g3,cond_false]at h1;simp[g3]
   grind
  | true=>
   simp[g3];refine cd (Hg x.1 x.2 hxl.1 hxl.2) ?_;cases g1:sz4 x with
   | false=>
    simp only[Eg,g3,g1,cond_true,cond_false]at h1;rw[show(wP x.1&&decide (x.2.length<=30))=false from g1];simp
    grind
   | true=>
    simp only[Eg,g3,g1,cond_true]at h0 h1;have:=ih h0 h1;rw[show(wP x.1&&decide (x.2.length<=30))=true from g1];simp(disch:=try exact ag)[clean,dT,kH,qk,dw,au]
    simp_all
def scB(n:Nat)(s:List Tx):Int:=if s.length=n then Eg s else 5
theorem KO{s:List Tx}(hl:∀x∈s,x.1.length<1000000000∧x.2.length<1000000000)(hs:s.length<1000000000):CP Y F.lY [lst di p,qm aK s] (I (scB p.length s)):=by
 have lp':bj (lst di p)=some (I p.length):=rfl;have ls':bj (qm aK s)=some (I s.length):=rfl;refine IJ ?_;by_cases h1:s.length=p.length
 .have h1':((s.length:Int)=(p.length:Int))=True:=eq_true aa;have e:scB p.length s=Eg s:=if_pos h1;rw[e];simp[lY,lp',ls',h1'];refine lo (Em hs hl _ s [] rfl (fun g=>?_) (fun g h=>?_))
  .simp_all
  simp
 .have h1':¬((s.length:Int)=(p.length:Int)):=aa;have e:scB p.length s=5:=if_neg h1;rw[e];simp[lY,lp',ls',h1']<;>exact cx rfl
def siB(p:LiQ)(s:List Tx):Int:=if pcB p=0 then scB p.length s else pcB p
theorem Tt{s:List Tx}(hp:p.length<1000000000)(hl:∀x∈s,x.1.length<1000000000∧x.2.length<1000000000)(hs:s.length<1000000000):CP Y F.oE [lst di p,qm aK s] (I (siB p s)):=by
 refine IL ?_;simp[oE];refine cd (oc hp) ?_;by_cases h:pcB p=0
 .have e:siB p s=scB p.length s:=if_pos h;rw[e];simp[h];refine cd (KO hl hs) ?_;simp<;>exact cx rfl
 .have e:siB p s=pcB p:=if_neg h;rw[e];simp[h]<;>exact cx rfl
end Go.Vm
